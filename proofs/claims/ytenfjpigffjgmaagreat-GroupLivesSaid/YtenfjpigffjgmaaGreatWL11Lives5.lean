/- Parts: T11L T12k. -/
import Derived.Test.YtenfjpigffjgmaaGreatWL11Lives4
set_option linter.defProp false
set_option linter.unusedSimpArgs false
set_option linter.unusedVariables false
set_option maxRecDepth 100000
namespace Go.Proofs.YtenfjpigffjgmaaGreat
open Go.RowKit
open Go.Proofs.Tryz
namespace V
set_option maxHeartbeats 4000000
variable{n c d L i j p:Nat}{H G H' H0:GS}{m:Msg}{Γ Γ':GH}{T k t I T' I' b μ:Int}{y:ND}{T0:Nat->Int}{w:List Bs}{R:Hp}{out A:List Msg}{e:Qy}{F:List Qy}
abbrev Ch:=Int×Qy×Int
def jF(l:List Ch):List Value:=l.map λq=>.int .u64 q.1
def zx(l:List Ch):List Value:=(l.map λq=>XB q.2.1).flatten
def qG(l:List Ch):List Value:=l.map λq=>.int .u64 q.2.2
@[reducible] def zu (v : Value) (l : List Ch) : Qj := QN 36 1 v l.length (jF l)
@[reducible] def aA (v : Value) (l : List Ch) : Qj := QN 93 2 v l.length (zx l)
@[reducible] def aH (v : Value) (l : List Ch) : Qj := QN 36 1 v l.length (qG l)
def ZJ(l:List Ch)(i:Int):Option Nat:=l.findIdx? λq=>decide (q.1=i)
def bV(l:List Ch)(i:Int):Int:=match ZJ l i with|some k=>k|none=> -1
def wd{l:List Ch}{i:Int}{k:Nat}{q:Ch}(hq:l[k]?=some q)(he:q.1=i)(hn:∀p∈l.take k,¬p.1=i):ZJ l i=some k:=by
 unfold ZJ;rw[KV];let⟨hk,e⟩:=Gj.1 hq;refine⟨hk,by rw[e];simpa using he,λj hj=>?_⟩;have:=hn (l[j]'Om) (Ik.2 ⟨j,by rw[HS,an hj];exact b7 _⟩);simpa using this
def xW{l:List Ch}{i:Int}(hn:∀p∈l,¬p.1=i):ZJ l i=none:=by
 unfold ZJ;rw[LM];intro p hp;simpa using hn p hp
def iJ{l:List Ch}{i:Int}{k:Nat}(h:ZJ l i=some k):∃q,l[k]?=some q/\q.1=i:=by
 unfold ZJ at h;rw[KV]at h;let⟨hk,e,_⟩:=h;exact⟨l[k],b7 hk,by simpa using e⟩
def nW{l:List Ch}{i:Int}{k:Nat}{q:Ch}(hq:l[k]?=some q)(h:∀p∈l.take k,¬p.1=i)(he:¬q.1=i):∀p∈l.take (k+1),¬p.1=i:=λp hp=>by
 rw[HV,hq]at hp;rcases GE.1 hp with hp|hp
 .exact h p hp
 simp at hp;subst hp;exact he
def sI{l:List Ch}{k:Nat}{q:Ch}(hq:l[k]?=some q):ZO (jF l) ((k:Int).toNat*1)=some (.int .u64 q.1):=by rw[Hc,qr];simp[jF,hq]
def rX{l:List Ch}{k:Nat}{q:Ch}(hq:l[k]?=some q):ZO (qG l) ((k:Int).toNat*1)=some (.int .u64 q.2.2):=by rw[Hc,qr];simp[qG,hq]
def EQ(vi va vt:Value)(l:List Ch)(hva:va.oneCell'=true)(hvt:vt.oneCell'=true)(i:Int):QTri prog 61 [.agg ⟨[vi,va,vt]⟩,.int .u64 i] R [zu vi l] (.int .i64 (bV l i)):=by
 refine Tri.q2 (To func61 ntmps61 λ_ F _ r_ _ _=>?_);try simp[cB]
 refine qh (A:=zu vi l) Qm ZF (λhsa=>?_);obtain⟨qa,ca,rfl,ha1,ha2,_⟩:=hsa;unfold maxLen at ha2;refine cS λ_ k1=>Qc (Xc Qo rfl rfl rfl (λb2=>Ps (Qd (k1 (cS λ_ k2=>cS λ_ k3=>Qc (Ps (Qd (k3 (Qp (Lp (λ(x:Nat)=>[(1,.int .u64 i),(2,.pointer (some ⟨b2,0,none⟩)),(5,.int .i64 (x:Int))]) (λx=>R) (λx=>QA b2 [.slice qa l.length ca,va,vt] 78::zu (.slice qa l.length ca) l::F) (λx=>x<=l.length/\∀p∈l.take x,¬p.1=i) (λx=>l.length-x) 0 (⟨Si,λp hp=>by simp at hp⟩) ?_))))))))));rintro k ⟨hk,hn⟩;try dsimp only
 refine cS λ_ k4=>cS λ_ k5=>Qc (Pm (Pa (Ga HU IX) (Pa (La zI) (Pa (QV GR) (Pa QR (Qd (k5 (Qi rfl (λhc10=>?_) (λhc10=>?_)))))))));try simp[dx]at hc10
 refine Qh (k4 (cS λ_ k7=>Qp (cS λ_ k8=>?_)));have hk2:k<l.length:=by have hz:=hc10;omega
 obtain⟨q,hq⟩:∃q,l[k]?=some q:=⟨_,b7 hk2⟩;refine Qc (Pa (Ga HU IX) (Pa (La zI) (Pm (Pa ((Xn (sz:=1) (n:=l.length) GR Gw)) (Pa ((XC QO rfl Qm (sI hq))) (Pm (Pa QL (Qd (k8 (Qi rfl (λhc19=>?_) (λhc19=>?_)))))))))));try simp[dx]at hc19
 refine cS λ_ k10=>Qc (Pm (Ps (Qd (k10 (Qg (r_ (Es results61 [zu (.slice qa l.length ca) l] ?_)))))));have hz:=wd hq (by simpa using hc19) hn;unfold bV;rw[hz];exact⟨rfl,rfl⟩;try simp[dx]at hc19
 refine Qh (k7 (Qc (Pm ?_)));refine Pa Qz (Ps (Qd (ro rfl (rd (k+1) (⟨Om,nW hq hn (by simpa using hc19)⟩) Om))));try simp[dx]at hc10
 refine QG (k2 (cE [] (cS λ_ k11=>Qc (Ps (Qd (k11 (Qg (r_ (Es results61 [zu (.slice qa l.length ca) l] ?_)))))))));have hz:=xW (l:=l) (i:=i) (λp hp=>hn p (by rw[Gx (by have hz:=hc10;omega)];exact hp));unfold bV;rw[hz];exact⟨rfl,rfl⟩
def zp(l:List Ch)(i:Int)(e:Qy)(τ:Int):List Ch:=match ZJ l i with
 |some k=>match l[k]? with
  |some q=>if τ<q.2.2 then l.set k (q.1,q.2.1,τ)else l
  |none=>l
 |none=>l++[(i,e,τ)]
def CH{l:List Ch}{k:Nat}{q q':Ch}(hq:l[k]?=some q)(h:q'.1=q.1):jF (l.set k q')=jF l:=by
 unfold jF;apply Ir;intro j;rw[HD,HD];by_cases hj:k=j;.subst hj;rw[Hz (Gj.1 hq).1,hq];simp[h]
 rw[HC hj]
def rb{l:List Ch}{k:Nat}{q q':Ch}(hq:l[k]?=some q)(h:q'.2.1=q.2.1):zx (l.set k q')=zx l:=by
 unfold zx;congr 1;apply Ir;intro j;rw[HD,HD];by_cases hj:k=j;.subst hj;rw[Hz (Gj.1 hq).1,hq];simp[h]
 rw[HC hj]
def Bz{l:List Ch}{k:Nat}(q':Ch):(qG l).set k (.int .u64 q'.2.2)=qG (l.set k q'):=by
 unfold qG;rw[KY]
def rc{l:List Ch}{k:Nat}{q:Ch}(hq:l[k]?=some q):((zx l).drop ((k:Int).toNat*2)).take 2=XB q.2.1:=by
 rw[Hc];unfold zx;have key:∀(l:List Ch) (k:Nat),l[k]?=some q->(((l.map λq=>XB q.2.1).flatten).drop (k*2)).take 2=XB q.2.1:=λl=>by
  induction l with
  |nil=>intro k h;simp at h
  |cons a l ih=>
   intro k h;match k,h with
   |0,h=>
    have:=GU h;subst this;simp[XB]
   |k+1,h=>
    have:=ih k (by simpa using h);rw[Hf,Iw,show(k+1)*2=2+k*2 by omega,<-HL];simpa[XB]using this
 exact key l k hq
def l9{l:List Ch}:∀u∈zx l,u.oneCell'=true:=λu hu=>by
 obtain⟨a,ha,hu⟩:=Lq.1 hu;obtain⟨z,_,rfl⟩:=Gu.1 ha;simp[XB]at hu;rcases hu with rfl|rfl<;>rfl
def CI{l:List Ch}:∀u∈jF l,u.oneCell'=true:=λu hu=>by obtain⟨z,_,rfl⟩:=Gu.1 hu;rfl
def gJ{l:List Ch}:∀u∈qG l,u.oneCell'=true:=λu hu=>by obtain⟨z,_,rfl⟩:=Gu.1 hu;rfl
def BA{l:List Ch}:(qG l).length=l.length:=by simp[qG]
def xo{l:List Ch}{k:Nat}{v:Value}:yh (qG l) ((k:Int).toNat*1) v=(qG l).set k v:=by rw[Hc,Nat.mul_one,je]
def wy(vi va vt:Value)(l:List Ch)(i:Int)(e:Qy)(τ:Int)(hva:va.oneCell'=true)(hvi:vi.oneCell'=true)(hvt:vt.oneCell'=true)(hl:l.length<=100000000)(hok:∀k q,ZJ l i=some k->l[k]?=some q->q.2.1=e):Tri prog 41 [.agg ⟨[vi,va,vt]⟩,.int .u64 i,.agg ⟨XB e⟩,.int .u64 τ] R [zu vi l,aA va l,aH vt l]
  (λr R' L'=>∃vi' va' vt',r=QI [.agg ⟨[vi',va',vt']⟩,.bool true]/\(vi'.oneCell'=true/\va'.oneCell'=true/\vt'.oneCell'=true)/\L'=[zu vi' (zp l i e τ),aA va' (zp l i e τ),aH vt' (zp l i e τ)]):=by
 have hone3:∀(a b c:Value),a.oneCell'=true->b.oneCell'=true->c.oneCell'=true->∀u∈[a,b,c],u.oneCell'=true:=λa b c ha hb hc u hu=>by
  simp[Gn,Gs,G7]at hu;rcases hu with rfl|rfl|rfl<;>assumption
 refine To func41 ntmps41 λ_ F _ r_ _ _=>?_;try simp[cB]
 refine cS λ_ k1=>Qc ?_;refine Xc Qo rfl rfl rfl (λb4=>?_);refine Xc Qo rfl rfl rfl (λb6=>?_);refine QC Qo rfl Ju rfl (λb8=>?_);refine Ps (Qd (k1 (cS λ_ k2=>Qc ?_)));refine Pa ((Lb (vs:=[vi,va,vt]) Yk)) (Pm ?_);refine Pa (Ca call61 (EQ vi va vt l hva hvt i)) (Ps (Qd (k2 (cS λ_ k3=>cS λ_ k4=>Qc ?_))));refine Pm ?_;refine Pa ZP (Qd (k4 ?_));refine Qi rfl (λhc15=>?_) (λhc15=>?_);obtain⟨k,hpk⟩:∃k,ZJ l i=some k:=by cases hp:ZJ l i with|some k=>exact⟨k,rfl⟩|none=>exfalso;have hz:=hc15;unfold bV at hz;rw[hp]at hz;simp at hz
 let⟨q,hq,hqi⟩:=iJ hpk;have hqe:=hok k q hpk hq;have hk:=(Gj.1 hq).1;have hpi:bV l i=(k:Int):=by unfold bV;rw[hpk]
 rw[hpi];refine cS λ_ k6=>cS λ_ k7=>?_;refine dW ?_;refine Qa (Ga HU Iu) ?_;refine Qa (La zG) ?_;refine Qa Qf ?_;refine Qa (Xn GN Iy) ?_;refine Qa ((jZ yQ rfl Qm (rc hq) rfl Om)) ?_;refine Qa (Lb yQ) ?_;refine Qa ((Yld.to (u:=.bool false) (rN Kr rfl rfl (λw=>sV q.2.1 e w)) (by rw[hqe];simp))) ?_;refine Xj ?_;refine k7 (Qt rfl (Qh (k6 (cS λ_ k8=>cS λ_ k9=>Qc (Pm ?_)))));refine Pa (Ga HU IX) ?_;refine Pa (La zI) (Pm ?_);refine Pa (Xn GR Gw) ?_;refine Pa ((XC QO rfl Qm (rX hq))) ?_;refine Pa QR (Qd (k9 ?_));refine cE [3,4,8,10,30] ?_;refine Qi rfl (λhc30=>?_) (λhc30=>?_);have hlt:τ<q.2.2:=by simpa using hc30
 have hkw:zp l i e τ=l.set k (q.1,q.2.1,τ):=by unfold zp;rw[hpk];dsimp only;rw[hq];dsimp only;rw[an hlt]
 refine cS λ_ k11=>Qc ?_;refine Qv (sz:=1) Qo rfl GR Gw IN rfl rfl rfl Dc Dc (λb31=>?_);refine Pa (Ga HU IX) ?_;refine Pa (La zI) ?_;refine QZ (sz:=1) (by_:=8) ⟨GR,_,_,rfl,rfl,rfl,rfl,rfl⟩ Qo rfl rfl rfl Qm (XL (xs:=qG l) GR Qm gJ) rfl Qu (by simp[maxLen];omega) (λv34 ho34 hh34=>?_);rw[show 0+l.length=l.length from H4 _,Hr];refine Pa (Ga HU IX) ?_;refine Sa zI ?_;refine Qd (k11 (Qc ?_));refine Pa (Ga HU IX) ?_;refine Pa (La zI) (Pm (Pm ?_));refine Pa (Xn GR Gw) ?_;refine qH (ys:=(qG l).set k (.int .u64 τ)) QO Qo rfl rfl rfl Qm (by rw[BA];omega) xo Om ?_;refine Qd (k8 (cS λ_ k12=>Qc ?_));refine Pa (Lb Yk) ?_;refine Qr Yk rfl Qo rfl rfl (hone3 _ _ _ (by assumption) (by assumption) (by assumption)) Qm (by exact Gl 3) rfl ?_;refine Ps (Qd (k12 (Qg (r_ ?_))));refine Ea Lk (.cons (QP Yk) (.cons QH .nil)) [zu vi l,aA va l,QN 36 1 v34 l.length ((qG l).set k (.int .u64 τ))] QB ?_;rw[hkw];exact⟨vi,va,v34,rfl,⟨hvi,hva,by assumption⟩,by simp[zu,aA,aH,Hy,CH (q':=(q.1,q.2.1,τ)) hq rfl,rb (q':=(q.1,q.2.1,τ)) hq rfl,<-Bz]⟩;have hlt:¬τ<q.2.2:=by simpa using hc30
 have hkw:zp l i e τ=l:=by unfold zp;rw[hpk];dsimp only;rw[hq];dsimp only;rw[ac hlt]
 refine Qh (k8 (cS λ_ k13=>Qc ?_));refine Pa (Lb Yk) ?_;refine Qr Yk rfl Qo rfl rfl (hone3 _ _ _ (by assumption) (by assumption) (by assumption)) Qm (by exact Gl 3) rfl ?_;refine Ps (Qd (k13 (Qg (r_ ?_))));refine Ea Lk (.cons (QP Yk) (.cons QH .nil)) [zu vi l,aA va l,aH vt l] QB ?_;rw[hkw];exact⟨vi,va,vt,rfl,⟨hvi,hva,hvt⟩,rfl⟩;have hpn:ZJ l i=none:=by cases hp:ZJ l i with|some k=>exfalso;have hz:=hc15;unfold bV at hz;rw[hp]at hz;simp at hz|none=>rfl
 have hkw:zp l i e τ=l++[(i,e,τ)]:=by unfold zp;rw[hpn]
 refine Qh (k3 (cS λ_ k14=>Qc ?_));refine Qv (sz:=1) Qo rfl GR Gw IN rfl rfl rfl Dc Dc (λb42=>?_);refine Pa (Ga HU IX) ?_;refine Pa (La zI) ?_;refine QZ (sz:=1) (by_:=8) ⟨GR,_,_,rfl,rfl,rfl,rfl,rfl⟩ Qo rfl rfl rfl Qm (XL (xs:=jF l) GR Qm CI) rfl Qu (by simp[maxLen];omega) (λv45 ho45 hh45=>?_);rw[show 0+l.length=l.length from H4 _,Hr];refine Pm ?_;refine Qv (sz:=1) Qo rfl GR Gw IN rfl rfl rfl Dc Dc (λb47=>?_);refine QZ (sz:=1) (by_:=8) ⟨GR,_,_,rfl,rfl,rfl,rfl,rfl⟩ Qo rfl rfl rfl Qm (XL (xs:=[.int .u64 i]) GR Qm (by(first|(simp[Value.oneCell'];done)|(intro u hu;simp[Gn,Gs,G7]at hu;rcases hu with rfl|rfl|rfl|rfl<;>first|rfl|assumption)))) rfl Qu (by simp[maxLen];omega) (λv48 ho48 hh48=>?_);skip;refine Pa (Ga HU IX) ?_;refine Sa zI ?_;refine Qd (k14 (cS λ_ k15=>?_));refine l7 (L:=[QA b4 [v48,va,vt] 78,QA b6 (XB e) 93]) [1,2,4] [0,3,5] [6,7,8] _ oS Qw Kr Kr Kr rfl ?_;refine Wc rfl (Ga HU Iu) ?_;refine Wc rfl (La zG) ?_;refine Wc rfl (Lb yQ) ?_;refine Xq ?_;refine Xi [0,5] Kr ⟨?_,?_,trivial⟩;refine QW rfl ?_;try simp[cC]
 refine Qv (sz:=2) Qo rfl GN Iy H2 rfl rfl rfl Dc Dc (λb50=>?_);refine QX QB Qw ?_;refine Xi [3,5] Kr ⟨?_,?_,trivial⟩;refine QW rfl ?_;try simp[cC]
 refine QZ (sz:=2) (by_:=24) ⟨GN,_,_,rfl,rfl,rfl,rfl,rfl⟩ Qo rfl rfl rfl Qm (XL (xs:=zx l) GN Qm l9) rfl Qu (by simp[maxLen];omega) (λv53 ho53 hh53=>?_);rw[show 0+l.length=l.length from H4 _,Hr];refine QX QB Qw ?_;refine Xi [5] Kr ⟨?_,trivial⟩;refine QW rfl ?_;try simp[cC]
 refine Qv (sz:=2) Qo rfl GN Iy H2 rfl rfl rfl Dc Dc (λb55=>?_);refine QX QB Qw ?_;refine Zi ?_;try simp[cC]
 refine QZ (sz:=2) (by_:=24) ⟨GN,_,_,rfl,rfl,rfl,rfl,rfl⟩ Qo rfl rfl rfl Qm (XL (xs:=XB e) GN Qm (by unfold XB;(first|(simp[Value.oneCell'];done)|(intro u hu;simp[Gn,Gs,G7]at hu;rcases hu with rfl|rfl|rfl|rfl<;>first|rfl|assumption)))) rfl Qu (by simp[maxLen];omega) (λv56 ho56 hh56=>?_);skip;refine Pa (Ga HU Iu) ?_;refine Sa zG ?_;refine Qd (k15 ?_);refine cE [3,4,8] ?_;refine cS λ_ k16=>Qc ?_;refine Qv (sz:=1) Qo rfl GR Gw IN rfl rfl rfl Dc Dc (λb58=>?_);refine Pa (Ga HU IX) ?_;refine Pa (La zI) ?_;refine QZ (sz:=1) (by_:=8) ⟨GR,_,_,rfl,rfl,rfl,rfl,rfl⟩ Qo rfl rfl rfl Qm (XL (xs:=qG l) GR Qm gJ) rfl Qu (by simp[maxLen];omega) (λv61 ho61 hh61=>?_);rw[show 0+l.length=l.length from H4 _,Hr];refine Pm ?_;refine Qv (sz:=1) Qo rfl GR Gw IN rfl rfl rfl Dc Dc (λb63=>?_);refine QZ (sz:=1) (by_:=8) ⟨GR,_,_,rfl,rfl,rfl,rfl,rfl⟩ Qo rfl rfl rfl Qm (XL (xs:=[.int .u64 τ]) GR Qm (by(first|(simp[Value.oneCell'];done)|(intro u hu;simp[Gn,Gs,G7]at hu;rcases hu with rfl|rfl|rfl|rfl<;>first|rfl|assumption)))) rfl Qu (by simp[maxLen];omega) (λv64 ho64 hh64=>?_);skip;refine Pa (Ga HU IX) ?_;refine Sa zI ?_;refine Qd (k16 (cS λ_ k17=>Qc ?_));refine Pa (Lb Yk) ?_;refine Qr Yk rfl Qo rfl rfl (hone3 _ _ _ (by assumption) (by assumption) (by assumption)) Qm (by exact Gl 3) rfl ?_;refine Ps (Qd (k17 (Qg (r_ ?_))));refine Ea Lk (.cons (QP Yk) (.cons QH .nil)) [QN 36 1 v48 (l.length+1) (jF l++[.int .u64 i]),QN 93 2 v56 (l.length+1) (zx l++XB e),QN 36 1 v64 (l.length+1) (qG l++[.int .u64 τ])] QB ?_;rw[hkw];exact⟨v48,v56,v64,rfl,⟨by assumption,by assumption,by assumption⟩,by simp[zu,aA,aH,jF,zx,qG]⟩;refine QW rfl ?_;try simp[cC]
 refine Qv (sz:=2) Qo rfl GN Iy H2 rfl rfl rfl Dc Dc (λb55=>?_);refine QX QB Qw ?_;refine Xi [3] Kr ⟨?_,trivial⟩;refine QW rfl ?_;try simp[cC]
 refine QZ (sz:=2) (by_:=24) ⟨GN,_,_,rfl,rfl,rfl,rfl,rfl⟩ Qo rfl rfl rfl Qm (XL (xs:=zx l) GN Qm l9) rfl Qu (by simp[maxLen];omega) (λv53 ho53 hh53=>?_);rw[show 0+l.length=l.length from H4 _,Hr];refine QX QB Qw ?_;refine Zi ?_;try simp[cC]
 refine QZ (sz:=2) (by_:=24) ⟨GN,_,_,rfl,rfl,rfl,rfl,rfl⟩ Qo rfl rfl rfl Qm (XL (xs:=XB e) GN Qm (by unfold XB;(first|(simp[Value.oneCell'];done)|(intro u hu;simp[Gn,Gs,G7]at hu;rcases hu with rfl|rfl|rfl|rfl<;>first|rfl|assumption)))) rfl Qu (by simp[maxLen];omega) (λv56 ho56 hh56=>?_);skip;refine Pa (Ga HU Iu) ?_;refine Sa zG ?_;refine Qd (k15 (cS λ_ k18=>Qc ?_));refine Qv (sz:=1) Qo rfl GR Gw IN rfl rfl rfl Dc Dc (λb58=>?_);refine Pa (Ga HU IX) ?_;refine Pa (La zI) ?_;refine QZ (sz:=1) (by_:=8) ⟨GR,_,_,rfl,rfl,rfl,rfl,rfl⟩ Qo rfl rfl rfl Qm (XL (xs:=qG l) GR Qm gJ) rfl Qu (by simp[maxLen];omega) (λv61 ho61 hh61=>?_);rw[show 0+l.length=l.length from H4 _,Hr];refine Pm ?_;refine Qv (sz:=1) Qo rfl GR Gw IN rfl rfl rfl Dc Dc (λb63=>?_);refine QZ (sz:=1) (by_:=8) ⟨GR,_,_,rfl,rfl,rfl,rfl,rfl⟩ Qo rfl rfl rfl Qm (XL (xs:=[.int .u64 τ]) GR Qm (by(first|(simp[Value.oneCell'];done)|(intro u hu;simp[Gn,Gs,G7]at hu;rcases hu with rfl|rfl|rfl|rfl<;>first|rfl|assumption)))) rfl Qu (by simp[maxLen];omega) (λv64 ho64 hh64=>?_);skip;refine Pa (Ga HU IX) ?_;refine Sa zI ?_;refine Qd (k18 (cS λ_ k19=>Qc ?_));refine Pa (Lb Yk) ?_;refine Qr Yk rfl Qo rfl rfl (hone3 _ _ _ (by assumption) (by assumption) (by assumption)) Qm (by exact Gl 3) rfl ?_;refine Ps (Qd (k19 (Qg (r_ ?_))));refine Ea Lk (.cons (QP Yk) (.cons QH .nil)) [QN 36 1 v48 (l.length+1) (jF l++[.int .u64 i]),QN 93 2 v56 (l.length+1) (zx l++XB e),QN 36 1 v64 (l.length+1) (qG l++[.int .u64 τ])] QB ?_;rw[hkw];exact⟨v48,v56,v64,rfl,⟨by assumption,by assumption,by assumption⟩,by simp[zu,aA,aH,jF,zx,qG]⟩;refine QW rfl ?_;try simp[cC]
 refine Qv (sz:=2) Qo rfl GN Iy H2 rfl rfl rfl Dc Dc (λb55=>?_);refine QX QB Qw ?_;refine Xi [0] Kr ⟨?_,trivial⟩;refine QW rfl ?_;try simp[cC]
 refine Qv (sz:=2) Qo rfl GN Iy H2 rfl rfl rfl Dc Dc (λb50=>?_);refine QX QB Qw ?_;refine Xi [3] Kr ⟨?_,trivial⟩;refine QW rfl ?_;try simp[cC]
 refine QZ (sz:=2) (by_:=24) ⟨GN,_,_,rfl,rfl,rfl,rfl,rfl⟩ Qo rfl rfl rfl Qm (XL (xs:=zx l) GN Qm l9) rfl Qu (by simp[maxLen];omega) (λv53 ho53 hh53=>?_);rw[show 0+l.length=l.length from H4 _,Hr];refine QX QB Qw ?_;refine Zi ?_;try simp[cC]
 refine QZ (sz:=2) (by_:=24) ⟨GN,_,_,rfl,rfl,rfl,rfl,rfl⟩ Qo rfl rfl rfl Qm (XL (xs:=XB e) GN Qm (by unfold XB;(first|(simp[Value.oneCell'];done)|(intro u hu;simp[Gn,Gs,G7]at hu;rcases hu with rfl|rfl|rfl|rfl<;>first|rfl|assumption)))) rfl Qu (by simp[maxLen];omega) (λv56 ho56 hh56=>?_);skip;refine Pa (Ga HU Iu) ?_;refine Sa zG ?_;refine Qd (k15 (cS λ_ k20=>Qc ?_));refine Qv (sz:=1) Qo rfl GR Gw IN rfl rfl rfl Dc Dc (λb58=>?_);refine Pa (Ga HU IX) ?_;refine Pa (La zI) ?_;refine QZ (sz:=1) (by_:=8) ⟨GR,_,_,rfl,rfl,rfl,rfl,rfl⟩ Qo rfl rfl rfl Qm (XL (xs:=qG l) GR Qm gJ) rfl Qu (by simp[maxLen];omega) (λv61 ho61 hh61=>?_);rw[show 0+l.length=l.length from H4 _,Hr];refine Pm ?_;refine Qv (sz:=1) Qo rfl GR Gw IN rfl rfl rfl Dc Dc (λb63=>?_);refine QZ (sz:=1) (by_:=8) ⟨GR,_,_,rfl,rfl,rfl,rfl,rfl⟩ Qo rfl rfl rfl Qm (XL (xs:=[.int .u64 τ]) GR Qm (by(first|(simp[Value.oneCell'];done)|(intro u hu;simp[Gn,Gs,G7]at hu;rcases hu with rfl|rfl|rfl|rfl<;>first|rfl|assumption)))) rfl Qu (by simp[maxLen];omega) (λv64 ho64 hh64=>?_);skip;refine Pa (Ga HU IX) ?_;refine Sa zI ?_;refine Qd (k20 ?_);refine cE [4,8] ?_;refine cS λ_ k21=>Qc ?_;refine Pa (Lb Yk) ?_;refine Qr Yk rfl Qo rfl rfl (hone3 _ _ _ (by assumption) (by assumption) (by assumption)) Qm (by exact Gl 3) rfl ?_;refine Ps (Qd (k21 (Qg (r_ ?_))));refine Ea Lk (.cons (QP Yk) (.cons QH .nil)) [QN 36 1 v48 (l.length+1) (jF l++[.int .u64 i]),QN 93 2 v56 (l.length+1) (zx l++XB e),QN 36 1 v64 (l.length+1) (qG l++[.int .u64 τ])] QB ?_;rw[hkw];exact⟨v48,v56,v64,rfl,⟨by assumption,by assumption,by assumption⟩,by simp[zu,aA,aH,jF,zx,qG]⟩
structure WS where
 ld:Int->Option Int
 nld:Nat
 ch:List Ch
 lo:List Bs
variable{W:WS}
structure WV where
 m:Nat
 vi:Value
 va:Value
 vt:Value
 vl:Value
def au(W:WS):Int->Option Value:=λt=>(W.ld t).map λi=>.int .i64 i
@[reducible] def mf (b : Nat) (v : WV) : Qj := QA b [.map (some v.m), v.vi, v.va, v.vt, v.vl] 80
@[reducible] def Ge (v : WV) (W : WS) : Qj := qN v.m .u64 (au W) W.nld
@[reducible] def me (b : Nat) (v : WV) (W : WS) : List Qj := [mf b v, Ge v W, zu v.vi W.ch, aA v.va W.ch, aH v.vt W.ch, Zk v.vl W.lo]
structure WVk (v:WV):Prop where
 vi:v.vi.oneCell'=true
 va:v.va.oneCell'=true
 vt:v.vt.oneCell'=true
 vl:v.vl.oneCell'=true
def yA(G:GS)(n:Nat)(ch:List Ch):Prop:=∀i m,i<n->G.ms[i]?=some m->m.dn=false->m.x.role=2->∀q∈ch,QQ q.1/\(q.1<=m.x.g.base\/q.2.2>m.x.g.term\/m.x.g.at q.1=some q.2.1)
def uN(b:Nat)(v:WV)(W:WS)(w:GV)(G:GS)(n:Nat)(hn:n=G.ms.length)(hok:GOk R w G)(hw:GW G)(hc:yA G n W.ch)(hv:WVk v):QTri prog 42 [.pointer (some ⟨b,0,none⟩),.pointer (some ⟨w.g,0,none⟩),.int .i64 (n:Int)] R [mf b v,zu v.vi W.ch,aA v.va W.ch,aH v.vt W.ch,yd w G,Zv w,Zl w] (.bool true):=by
 have hn9:=hw.n
 have hent1:∀(e:Qy),∀u∈XB e,u.oneCell'=true:=λe=>entE.one (R:=R) (x:=e) rfl
 refine Tri.q2 ?_
 refine To func42 ntmps42 λ_ F _ r_ _ _=>?_
 try simp[cB]
 refine qh (A:=zu v.vi W.ch) Qm ZF (λhs1=>?_)
 refine qh (A:=aA v.va W.ch) Qm ZF (λhs2=>?_)
 refine qh (A:=aH v.vt W.ch) Qm ZF (λhs3=>?_)
 obtain⟨bM,vi,va,vt,vl⟩:=v
 dsimp only at hs1 hs2 hs3|-
 obtain⟨q1,c1,rfl,hl1,hl2,_⟩:=hs1
 obtain⟨q2,c2,rfl,_,_,_⟩:=hs2
 obtain⟨q3,c3,rfl,_,_,_⟩:=hs3
 unfold maxLen at hl2
 refine cS λ_ k1=>Qc (Ps (Qd (k1 (cS λ_ k2=>cS λ_ k3=>Qc ?_))))
 refine Pm (Pm (Qd (k3 (Qp ?_))))
 refine Lp (λ(x:Nat)=>[(0,.pointer (some ⟨b,0,none⟩)),(1,.pointer (some ⟨w.g,0,none⟩)),(16,.int .i64 (n:Int)),(17,.int .i64 (x:Int))]) (λx=>R) (λx=>mf b ⟨bM,.slice q1 W.ch.length c1,.slice q2 W.ch.length c2,.slice q3 W.ch.length c3,vl⟩::zu (.slice q1 W.ch.length c1) W.ch::aA (.slice q2 W.ch.length c2) W.ch::aH (.slice q3 W.ch.length c3) W.ch::yd w G::Zv w::Zl w::F) (λx=>x<=n) (λx=>n-x) 0 Si ?_
 rintro i hi
 try dsimp only
 refine cS λ_ k4=>Qc ?_
 refine Pa QR (Qd (k4 (cS λ_ k5=>?_)))
 refine Qi rfl (λhc18=>?_) (λhc18=>?_)
 try simp[dx]at hc18
 refine Qh (k5 (cS λ_ k7=>Qp (cS λ_ k8=>?_)))
 have hi2:i<n:=by have hz:=hc18;omega
 obtain⟨m0,hm0⟩:∃m,G.ms[i]?=some m:=⟨_,b7 Om⟩
 obtain⟨c0,hc0,hnk,_⟩:=hok.at hm0
 have hcm:=hc i m0 hi2 hm0
 refine Qc (Pm (Ps (Qd (k8 (cS λ_ k9=>Qc ?_)))))
 refine Pm (Pm ?_)
 refine Pa (Ca Mh (dU (w:=w) hc0 hm0)) (Ps (Qd (k9 (cS λ_ k10=>cS λ_ k11=>Qc ?_))))
 refine Pm ?_
 refine Pa (Ca KU (sM hc0 hm0)) (Pm ?_)
 refine QM 25 rfl (λhg25=>?_) (λhg25=>?_)
 try simp[dx]at hg25
 refine Pk (Pk (Pk ?_))
 refine Pa Qq (Qd (k11 (QD rfl (QG (k7 (Qc ?_))))))
 refine Pa Qz (Pm (Qd ?_))
 refine ro rfl (rd (i+1) Om Om)
 try simp[dx]at hg25
 refine Pb Qf ?_
 refine Pb (Ca MT (lS hc0 hm0)) ?_
 refine Pb Yp ?_
 refine Pa Qn (Qd (k11 ?_))
 refine cE [0,1,8,16,17,29] ?_
 refine Qi rfl (λhc29=>?_) (λhc29=>?_)
 try simp[dx]at hc29
 refine QG (k7 (Qc ?_))
 refine Pa Qz (Pm (Qd ?_))
 refine ro rfl (rd (i+1) Om Om)
 have hup:m0.dn=false:=by(try simp at hg25);assumption
 have hro:m0.x.role=2:=by have hz:=hc29;simpa using hz
 have hcm2:=hcm hup hro
 have hgo:m0.x.g.ok:=((hw.ms m0 (Gv hm0)).up (by rw[hup];decide)).g Om
 refine Qh (k10 (cS λ_ k13=>Qc (Pm ?_)))
 refine Pa (Ca KB (aw hc0 hm0)) ?_
 refine Pa (Ca LF (sO hc0 hm0)) (Pm ?_)
 refine Pa Ql ?_
 refine Pa Ql ?_
 refine Pa Ql (Ps (Ps (Ps (Qd (k13 (cS λ_ k14=>Qc ?_))))))
 refine Pm ?_
 refine Pa Qe ?_
 refine Pa (Ga HI II) ?_
 refine Pa (Ga HU IX) ?_
 refine Pa (La zI) ?_
 refine Pa (QV GR) (Pm (Qd (k14 ?_)))
 refine cE [0,1,8,9,16,17,41,42,43] ?_
 refine Qp ?_
 refine Lp (λ(y:Nat)=>[(0,.pointer (some ⟨b,0,none⟩)),(1,.pointer (some ⟨w.g,0,none⟩)),(8,.pointer (some ⟨c0.b.x,0,none⟩)),(9,.int .u64 m0.x.g.base),(16,.int .i64 (n:Int)),(17,.int .i64 (i:Int)),(41,.slice q1 W.ch.length c1),(42,.int .i64 (W.ch.length:Int)),(43,.int .i64 (y:Int))]) (λy=>R) (λy=>mf b ⟨bM,.slice q1 W.ch.length c1,.slice q2 W.ch.length c2,.slice q3 W.ch.length c3,vl⟩::zu (.slice q1 W.ch.length c1) W.ch::aA (.slice q2 W.ch.length c2) W.ch::aH (.slice q3 W.ch.length c3) W.ch::yd w G::Zv w::Zl w::F) (λy=>y<=W.ch.length) (λy=>W.ch.length-y) 0 Si ?_
 rintro k hk
 try dsimp only
 refine cS λ_ k15=>Qc ?_
 refine Pa QR (Qd (k15 (cS λ_ k16=>?_)))
 refine Qi rfl (λhc44=>?_) (λhc44=>?_)
 try simp[dx]at hc44
 refine Qh (k16 (cS λ_ k18=>Qp (cS λ_ k19=>?_)))
 have hk2:k<W.ch.length:=by have hz:=hc44;omega
 obtain⟨q,hq⟩:∃q,W.ch[k]?=some q:=⟨_,b7 hk2⟩
 have hcq:=hcm2 q (Gv hq)
 refine Qc (Pm ?_)
 refine Pa ((Xn (sz:=1) (n:=W.ch.length) GR Gw)) ?_
 refine Pa ((XC QO rfl Qm (sI hq))) (Ps (Ps (Qd (k19 (cS λ_ k20=>cS λ_ k21=>?_)))))
 refine dW ?_
 refine Qa Qf ?_
 refine Qa Qf ?_
 refine Qa aL ?_
 refine Qa Qf ?_
 refine ZM 51 rfl (λhg51=>?_) (λhg51=>?_)
 try simp[dx]at hg51
 refine Qk ?_
 refine Qk ?_
 refine Qk ?_
 refine Qk ?_
 refine Qk ?_
 refine Qk ?_
 refine Qk ?_
 refine Qk ?_
 refine Qk ?_
 refine Qk ?_
 refine Qk ?_
 refine Qk ?_
 refine Qa Qq ?_
 refine Xj ?_
 refine k21 ?_
 refine cE [0,1,8,9,12,13,16,17,41,42,43,64] ?_
 refine QD rfl (QG (k18 (Qc ?_)))
 refine Pa Qz (Pm (Qd ?_))
 refine ro rfl (rd (k+1) Om Om)
 try simp[dx]at hg51
 refine Qb Qf ?_
 refine Qb Qe ?_
 refine Qb (Ga HI II) ?_
 refine Qb (Ga HU IX) ?_
 refine Qb (La zI) ?_
 refine Qb Qf ?_
 refine Qb ((Xn (sz:=1) (n:=W.ch.length) GR Gw)) ?_
 refine Qb ((XC QO rfl Qm (rX hq))) ?_
 refine Qb Qf ?_
 refine Qb (Ca KB (aw hc0 hm0)) ?_
 refine Qb (Ca Jz (gX hc0 hm0)) ?_
 refine Qb XG ?_
 refine Qa Qn ?_
 refine Xj ?_
 refine k21 ?_
 refine Qi rfl (λhc64=>?_) (λhc64=>?_)
 try simp[dx]at hc64
 refine QG (k18 (Qc ?_))
 refine Pa Qz (Pm (Qd ?_))
 refine ro rfl (rd (k+1) Om Om)
 have hat:m0.x.g.at q.1=some q.2.1:=by have hz:=hc64;(try simp at hz hg51);rcases hcq.2 with h|h|h;omega;omega;exact h
 refine Qh (k20 (cS λ_ k23=>Qc (Pm ?_)))
 refine Pa (Ca KB (aw hc0 hm0)) (Pm ?_)
 refine Pa (Ca Mf ((A8 hc0 hm0 hnk hgo hcq.1).eq3 (v':=QI [.agg ⟨XB q.2.1⟩,.bool true]) (by rw[hat];rfl))) (Pm ?_)
 refine Pa Ql ?_
 refine Pa Ql ?_
 refine QC Qo rfl H2 rfl (λbe=>?_)
 refine Sm (vs:=XB q.2.1) yQ (hent1 q.2.1) ?_
 refine Ps (Qd (k23 ?_))
 refine cE [0,1,8,9,12,14,15,16,17,41,42,43] ?_
 refine cS λ_ k24=>?_
 refine dW ?_
 refine Qa Qf ?_
 refine Qa Xa ?_
 refine Qa Qf ?_
 refine Qb (Lb yQ) ?_
 refine Qb Qf ?_
 refine Qb Qe ?_
 refine Qb (Ga HI II) ?_
 refine Qb (Ga HU Iu) ?_
 refine Qb (La zG) ?_
 refine Qb Qf ?_
 refine Qb (Xn GN Iy) ?_
 refine Qb ((jZ yQ rfl Qm (rc hq) rfl Om)) ?_
 refine Qb ((Yld.to (u:=.bool false) (rN Kr rfl rfl (λw=>sV q.2.1 q.2.1 w)) Si)) ?_
 refine Qa Qn ?_
 refine Xj ?_
 refine k24 (Qt rfl (Qh (k18 (Qc ?_))))
 refine Pa Qz (Pm (Qd ?_))
 refine ro rfl (rd (k+1) Om Om)
 try simp[dx]at hc44
 refine QG (k7 (Qc ?_))
 refine Pa Qz (Pm (Qd ?_))
 refine ro rfl (rd (i+1) Om Om)
 try simp[dx]at hc18
 refine QG (k2 ?_)
 refine cE [] ?_
 refine cS λ_ k25=>Qc (Ps (Qd (k25 (Qg (r_ ?_)))))
 refine Es results42 [mf b ⟨bM,.slice q1 W.ch.length c1,.slice q2 W.ch.length c2,.slice q3 W.ch.length c3,vl⟩,zu (.slice q1 W.ch.length c1) W.ch,aA (.slice q2 W.ch.length c2) W.ch,aH (.slice q3 W.ch.length c3) W.ch,yd w G,Zv w,Zl w] ?_
 exact⟨rfl,rfl⟩
def nu(W:WS)(t i:Int):WS:={W with ld:=λs=>if s=t then some i else W.ld s,nld:=if(W.ld t).isSome then W.nld else W.nld+1}
def yD(W:WS)(i:Nat)(m:MS):WS:=if m.x.role=2 then nu W m.x.g.term i else W
def ye(ch:List Ch)(m:MS):Nat->List Ch
 |0=>ch
 |j+1=>match m.x.g.at (m.x.g.base+1+j)with
  |some e=>zp (ye ch m j) (m.x.g.base+1+j) e m.x.g.term
  |none=>ye ch m j
def de(m:MS):Nat:=(m.x.commit-m.x.g.base).toNat
def zb(W:WS)(i:Nat)(m:MS):WS:=if m.dn=true then W else
 {yD W i m with ch:=ye W.ch m (de m),lo:=if m.l.length>W.lo.length then m.l else W.lo}
def Yn(G:GS)(W:WS):Nat->WS
 |0=>W
 |i+1=>match G.ms[i]? with
  |some m=>zb (Yn G W i) i m
  |none=>Yn G W i
structure LookOK (W:WS) (i:Nat) (m:MS):Prop where
 ld:m.x.role=2->W.ld m.x.g.term=none\/W.ld m.x.g.term=some (i:Int)
 bc:0<=m.x.g.base/\m.x.g.base<=m.x.commit/\m.x.commit<1000000
 at_:∀j,j<de m->∃e,m.x.g.at (m.x.g.base+1+j)=some e/\∀k q,ZJ (ye W.ch m j) (m.x.g.base+1+j)=some k->(ye W.ch m j)[k]?=some q->q.2.1=e
 len:∀j,j<=de m->(ye W.ch m j).length<=100000000
 lo:zt m.l W.lo=true/\W.lo.length<=100000/\m.l.length<=100000
 ap:m.ap<=m.x.commit
def sE{i:Int}:yv (au W) t (.int .i64 i)=au (nu W t i):=by
 funext s;unfold yv au nu;dsimp only;split<;>rfl
def pn:((au W) t).isSome=(W.ld t).isSome:=by unfold au;cases W.ld t<;>rfl
def kB{ch:List Ch}{m:MS}(h:m.x.g.at (m.x.g.base+1+j)=some e):ye ch m (j+1)=zp (ye ch m j) (m.x.g.base+1+j) e m.x.g.term:=by
 show(match m.x.g.at (m.x.g.base+1+j)with|some e=>_|none=>_)=_;rw[h]
def CF{i:Int}(h:W.ld t=none\/W.ld t=some i):∃(old:Int) (there:Bool),Value.tuple #[((au W) t).getD (.int .i64 0),.bool ((au W) t).isSome]=QI [.int .i64 old,.bool there]/\(there=true->old=i):=by
 unfold au;rcases h with h|h
 .rw[h];exact⟨0,false,rfl,λh=>by cases h⟩
 rw[h];exact⟨i,true,rfl,λ_=>rfl⟩
def Zj{a b c:Value}(ha:a.oneCell'=true)(hb:b.oneCell'=true)(hc:c.oneCell'=true):∀u∈[a,b,c],u.oneCell'=true:=λu hu=>by
 simp[Gn,Gs,G7]at hu;rcases hu with rfl|rfl|rfl<;>assumption
def ER{l:List Bs}:∀u∈jM l,u.oneCell'=true:=λu hu=>by obtain⟨z,_,rfl⟩:=Gu.1 hu;rfl
def BV{cx:Cx}{L M:List Qj}{w:GV}{c:MV}{m:MS}{tx e':TypeId}(hk:cx.P.underlying tx=some (.slice e'))(f:Find (Yj (Zw w.cs G.ms)) L M)(hc:w.cs[i]?=some c)(hm:G.ms[i]?=some m):fq cx R L tx 1 c.vl m.l.length (jM m.l):=λw' hs=>
 XL (e:=9) (n:=m.l.length) (xs:=jM m.l) hk Qm ER w' (Sat.split (A:=gA (Yi c m)) (As:=Yi c m) (λ_ k=>k) (Sat.split (A:=Yj (Zw w.cs G.ms)) (As:=[gA (Yi c m),Yj ((Zw w.cs G.ms).eraseIdx i)]) (cF (yK hc hm)) (hs.find f)))
def pb(b:Nat)(v:WV)(W:WS)(w:GV)(G:GS)(n:Nat)(hn:n=G.ms.length)(hok:GOk R w G)(hw:GW G)(hv:WVk v)(hl:∀i m,i<n->G.ms[i]?=some m->m.dn=false->LookOK (Yn G W i) i m)(hc:yA G n (Yn G W n).ch):Tri prog 14 [.pointer (some ⟨b,0,none⟩),.pointer (some ⟨w.g,0,none⟩),.int .i64 (n:Int)] R (me b v W++YN w G)
  (λr R' L'=>r=.bool true/\R.le R'/\∃v',WVk v'/\L'=me b v' (Yn G W n)++YN w G):=by
 have hn9:=hw.n;have hent1:∀(e:Qy),∀u∈XB e,u.oneCell'=true:=λe=>entE.one (R:=R) (x:=e) rfl;refine To func14 ntmps14 λσ F _ r_ _ _=>?_;try simp[cB]
 refine XN λK1 hK1=>Qc (Ps (Qd (hK1 _ _ _ (cS λ_ k2=>cS λ_ k3=>Qc ?_))));refine Pm (Pm (Qd (k3 (Qp ?_))));refine Lp (λ(x:Nat×WV×Hp)=>[(0,.pointer (some ⟨b,0,none⟩)),(1,.pointer (some ⟨w.g,0,none⟩)),(2,.int .i64 (n:Int)),(21,.int .i64 (n:Int)),(22,.int .i64 (x.1:Int))]) (λx=>x.2.2) (λx=>me b x.2.1 (Yn G W x.1)++(YN w G++F)) (λx=>x.1<=n/\WVk x.2.1/\R.le x.2.2) (λx=>n-x.1) (0,v,R) (⟨Si,hv,Hp.le_refl _⟩) ?_;rintro⟨i,v1,R1⟩ ⟨hi,hv1,hR1⟩;try dsimp only
 dsimp only at hi hv1 hR1;refine cS λ_ k4=>Qc ?_;refine Pa QR (Qd (k4 (cS λ_ k5=>?_)));refine Qi rfl (λhc23=>?_) (λhc23=>?_);try simp[dx]at hc23
 refine Qh (k5 (cS λ_ k7=>Qp (cS λ_ k8=>?_)));have hi2:i<n:=by have hz:=hc23;omega
 obtain⟨m0,hm0⟩:∃m,G.ms[i]?=some m:=⟨_,b7 Om⟩;let⟨c0,hc0,hnk,_⟩:=hok.at hm0;have hlk:=hl i m0 hi2 hm0;have hls:Yn G W (i+1)=zb (Yn G W i) i m0:=by show(match G.ms[i]? with|some m=>_|none=>_)=_;rw[hm0]
 refine Qc (Pm (Ps (Qd (k8 (cS λ_ k9=>Qc ?_)))));refine Pm (Pm ?_);refine Pa (Ca Mh (dU (w:=w) hc0 hm0)) (Ps (Qd (k9 (cS λ_ k10=>cS λ_ k11=>Qc ?_))));refine Pm ?_;refine Pa (Ca KU (sM hc0 hm0)) (Qd (k11 ?_));refine Qi rfl (λhc29=>?_) (λhc29=>?_);have hdn:m0.dn=true:=hc29;have hls2:Yn G W (i+1)=Yn G W i:=by rw[hls];unfold zb;rw[an hdn]
 rw[<-hls2];refine QG (k7 (Qc ?_));refine Pa Qz (Pm (Qd ?_));refine ro rfl (rd ((i+1,v1,R1)) (⟨by dsimp only;omega,hv1,hR1⟩) Do);have hup:m0.dn=false:=hc29;have hlo:=hlk hup;have hgo:m0.x.g.ok:=((hw.ms m0 (Gv hm0)).up (by rw[hup];decide)).g Om;have hbc:=hlo.bc;have hll:=hlo.lo.2;obtain⟨W0,hW0⟩:∃W0,W0=Yn G W i:=⟨_,rfl⟩;rw[<-hW0]at hlo hls|-;refine Qh (k10 (cS λ_ k13=>Qc (Pm ?_)));refine Pa (Ca KB (aw hc0 hm0)) ?_;refine Pa (Ca Jz (gX hc0 hm0)) (Ps (Qd (k13 ?_)));refine cE [0,1,2,7,8,9,21,22] ?_;refine XN λK14 hK14=>?_;have hJ12:∀(z:(Int->Option Value)×Nat),z.1=au (yD W0 i m0)/\z.2=(yD W0 i m0).nld->EJ ⟨prog,137,σ⟩ K14 [(0,.pointer (some ⟨b,0,none⟩)),(1,.pointer (some ⟨w.g,0,none⟩)),(2,.int .i64 (n:Int)),(7,.int .i64 (i:Int)),(8,.pointer (some ⟨c0.b.x,0,none⟩)),(9,.int .u64 m0.x.g.term),(21,.int .i64 (n:Int)),(22,.int .i64 (i:Int))] R1 (mf b v1::qN v1.m .u64 z.1 z.2::zu v1.vi W0.ch::aA v1.va W0.ch::aH v1.vt W0.ch::Zk v1.vl W0.lo::(YN w G++F)):=by
  rintro⟨f1,k1⟩ ⟨hz1,hz2⟩;try dsimp only
  dsimp only at hz1 hz2;refine hK14 _ _ _ (cS λ_ k15=>?_);have hls3:Yn G W (i+1)={yD W0 i m0 with ch:=ye W0.ch m0 (de m0),lo:=if m0.l.length>W0.lo.length then m0.l else W0.lo}:=by rw[hls];unfold zb;rw[ac (by rw[hup];decide)]
  have hld3:au (Yn G W (i+1))=f1:=by rw[hz1,hls3];rfl
  have hnl3:(Yn G W (i+1)).nld=k1:=by rw[hz2,hls3]
  have hch3:(Yn G W (i+1)).ch=ye W0.ch m0 (de m0):=by rw[hls3]
  have hlo3:(Yn G W (i+1)).lo=if m0.l.length>W0.lo.length then m0.l else W0.lo:=by rw[hls3]
  obtain⟨W9,hW9⟩:∃W9,W9=Yn G W (i+1):=⟨_,rfl⟩;rw[<-hW9]at hld3 hnl3 hch3 hlo3;rw[<-hld3,<-hnl3];let⟨bM,vi0,va0,vt0,vl0⟩:=v1;have hcN:((de m0:Nat):Int)=m0.x.commit-m0.x.g.base:=by unfold de;omega
  refine Qc (Pm ?_);refine Pa (Ca KB (aw hc0 hm0)) ?_;refine Pa (Ca LF (sO hc0 hm0)) (Pm ?_);refine Pa Ql ?_;refine Pa Ql ?_;refine Pa Ql (Ps (Ps (Ps (Qd (k15 (cS λ_ k16=>cS λ_ k17=>Qc ?_))))));refine Pm ?_;refine Pa ((Yld.to (u:=.int .u64 (m0.x.g.base+1+((0:Nat):Int))) Yg Si)) ?_;refine Ps (Qd (k17 (Qp ?_)));refine Lp (λ(y:Nat×(Value×Value×Value)×Hp)=>[(0,.pointer (some ⟨b,0,none⟩)),(1,.pointer (some ⟨w.g,0,none⟩)),(2,.int .i64 (n:Int)),(7,.int .i64 (i:Int)),(8,.pointer (some ⟨c0.b.x,0,none⟩)),(9,.int .u64 m0.x.g.term),(15,.int .u64 (m0.x.g.base+1+(y.1:Int))),(21,.int .i64 (n:Int)),(22,.int .i64 (i:Int))]) (λy=>y.2.2) (λy=>mf b ⟨bM,y.2.1.1,y.2.1.2.1,y.2.1.2.2,vl0⟩::qN bM .u64 (au W9) W9.nld::zu y.2.1.1 (ye W0.ch m0 y.1)::aA y.2.1.2.1 (ye W0.ch m0 y.1)::aH y.2.1.2.2 (ye W0.ch m0 y.1)::Zk vl0 W0.lo::(YN w G++F)) (λy=>y.1<=de m0/\(y.2.1.1.oneCell'=true/\y.2.1.2.1.oneCell'=true/\y.2.1.2.2.oneCell'=true)/\R1.le y.2.2) (λy=>de m0-y.1) (0,(vi0,va0,vt0),R1) (⟨Si,⟨hv1.vi,hv1.va,hv1.vt⟩,Hp.le_refl _⟩) ?_;rintro⟨j,⟨vi,va,vt⟩,R2⟩ ⟨hj,⟨h1,h2,h3⟩,hR2⟩;try dsimp only
  dsimp only at hj h1 h2 h3 hR2;refine cS λ_ k18=>cS λ_ k19=>Qc (Pm (Pm ?_));refine Pa (Ca call39 (mS hc0 hm0)) ?_;refine Pa aL (Qd (k19 ?_));refine Qi rfl (λhc69=>?_) (λhc69=>?_);try simp[dx]at hc69
  refine Qh (k18 (cS λ_ k21=>Qp (cS λ_ k22=>?_)));have hj2:j<de m0:=by have hz:=hc69;omega
  let⟨e,hat,hkn⟩:=hlo.at_ j hj2;have hkl:=hlo.len j Om;have hks:=kB (ch:=W0.ch) hat;refine Qc (Pm ?_);refine Pa (Ca KB (aw hc0 hm0)) (Pm ?_);refine Pa (Ca Mf ((A8 hc0 hm0 (hnk.mono (Hp.le_trans hR1 hR2)) hgo (show QQ (m0.x.g.base+1+(j:Int))by unfold QQ;omega)).eq3 (v':=QI [.agg ⟨XB e⟩,.bool true]) (by rw[hat];rfl))) ?_;refine Pm ?_;refine Pa Ql ?_;refine Pa Ql ?_;refine QC Qo rfl H2 rfl (λbe=>?_);refine Sm (vs:=XB e) yQ (hent1 e) ?_;refine Ps (Qd (k22 ?_));refine cE [0,1,2,7,8,9,15,16,17,21,22] ?_;refine cS λ_ k23=>?_;refine l7 (L:=[mf b ⟨bM,vi,va,vt,vl0⟩,QA be (XB e) 93]) [0,1,2,3,4,5,6] [7,8,9,10,11,12] [13] _ oS Qw Kr Kr Kr rfl ?_;refine Wc rfl Qf ?_;refine Wc rfl Qe ?_;refine Wc rfl (Ga HI II) ?_;refine Wc rfl (Lb Yk) ?_;refine Wc rfl Qf ?_;refine Wc rfl (Lb yQ) ?_;refine Wc rfl Qf ?_;refine Xq ?_;refine Xi [7,11] Kr ⟨?_,?_,trivial⟩;refine QW rfl ?_;try simp[cC]
  refine Ra call41 (wy vi va vt (ye W0.ch m0 j) (m0.x.g.base+1+j) e m0.x.g.term h2 h1 h3 hkl hkn) ?_;rintro r R3 L' hR3 ⟨vi',va',vt',rfl,⟨h1',h2',h3'⟩,rfl⟩;rw[<-hks];try simp[cB]
  refine QX QB Qw ?_;refine Xi [8,11] Kr ⟨?_,?_,trivial⟩;refine QW rfl ?_;try simp[cC]
  refine Pm ?_;refine QX QB Qw ?_;refine Xi [9,10,11] Kr ⟨?_,?_,?_,trivial⟩;refine QW rfl ?_;try simp[cC]
  refine Pa Ql ?_;refine QX QB Qw ?_;refine Xi [10,11] Kr ⟨?_,?_,trivial⟩;refine QW rfl ?_;try simp[cC]
  refine Pa Ql ?_;refine QX QB Qw ?_;refine Xi [11] Kr ⟨?_,trivial⟩;refine QW rfl ?_;try simp[cC]
  refine QC Qo rfl Ju rfl (λb18=>?_);refine QX QB Qw ?_;refine Xi [12] Kr ⟨?_,trivial⟩;refine QW rfl ?_;try simp[cC]
  refine Qr Yk rfl Qo rfl rfl (Zj h1' h2' h3') Qm (by exact Gl 3) rfl ?_;refine QX QB Qw ?_;refine Zi ?_;try simp[cC]
  refine Ps (Qd (k23 (cS λ_ k24=>cS λ_ k25=>Qc ?_)));refine Pm ?_;refine Pa Xa (Pm ?_);refine Pb Qf ?_;refine Pb Xa ?_;refine Pa Qn (Qd (k25 (Qt rfl (Qh (k24 (Qc (Pm ?_)))))));refine Pa (Lb Yk) ?_;refine Pa Qe ?_;refine Pa (Ga HI II) ?_;refine Qr Yk rfl Qo rfl rfl (Zj h1' h2' h3') Qm (Gz rfl) rfl ?_;refine Qd (k21 ?_);refine cE [0,1,2,7,8,9,15,21,22] ?_;refine Qc (Pm ?_);refine Pa ((Yld.to (u:=.int .u64 (m0.x.g.base+1+((j+1:Nat):Int))) Yg (by congr 1;omega))) ?_;refine Ps (Qd ?_);refine ro rfl (rd ((j+1,(vi',va',vt'),R3)) (⟨by dsimp only;omega,⟨h1',h2',h3'⟩,Hp.le_trans hR2 hR3⟩) Do);refine QW rfl ?_;try simp[cC]
  refine QC Qo rfl Ju rfl (λb18=>?_);refine QX QB Qw ?_;refine Xi [10,12] Kr ⟨?_,?_,trivial⟩;refine QW rfl ?_;try simp[cC]
  refine Pa Ql ?_;refine QX QB Qw ?_;refine Xi [12] Kr ⟨?_,trivial⟩;refine QW rfl ?_;try simp[cC]
  refine Qr Yk rfl Qo rfl rfl (Zj h1' h2' h3') Qm (by exact Gl 3) rfl ?_;refine QX QB Qw ?_;refine Zi ?_;try simp[cC]
  refine Ps (Qd (k23 (cS λ_ k26=>cS λ_ k27=>Qc ?_)));refine Pm ?_;refine Pa Xa (Pm ?_);refine Pb Qf ?_;refine Pb Xa ?_;refine Pa Qn (Qd (k27 (Qt rfl (Qh (k26 (Qc (Pm ?_)))))));refine Pa (Lb Yk) ?_;refine Pa Qe ?_;refine Pa (Ga HI II) ?_;refine Qr Yk rfl Qo rfl rfl (Zj h1' h2' h3') Qm (Gz rfl) rfl ?_;refine Qd (k21 (Qc (Pm ?_)));refine Pa ((Yld.to (u:=.int .u64 (m0.x.g.base+1+((j+1:Nat):Int))) Yg (by congr 1;omega))) ?_;refine Ps (Qd ?_);refine ro rfl (rd ((j+1,(vi',va',vt'),R3)) (⟨by dsimp only;omega,⟨h1',h2',h3'⟩,Hp.le_trans hR2 hR3⟩) Do);refine QW rfl ?_;try simp[cC]
  refine Qr Yk rfl Qo rfl rfl (Zj h1' h2' h3') Qm (by exact Gl 3) rfl ?_;refine QX QB Qw ?_;refine Xi [10] Kr ⟨?_,trivial⟩;refine QW rfl ?_;try simp[cC]
  refine Pa Ql ?_;refine QX QB Qw ?_;refine Zi ?_;try simp[cC]
  refine Ps (Qd (k23 ?_));refine cE [0,1,2,7,8,9,15,17,18,19,21,22] ?_;refine cS λ_ k28=>cS λ_ k29=>Qc (Pm ?_);refine Pa Xa (Pm ?_);refine Pb Qf ?_;refine Pb Xa ?_;refine Pa Qn (Qd (k29 (Qt rfl (Qh (k28 (Qc (Pm ?_)))))));refine Pa (Lb Yk) ?_;refine Pa Qe ?_;refine Pa (Ga HI II) ?_;refine Qr Yk rfl Qo rfl rfl (Zj h1' h2' h3') Qm (Gz rfl) rfl ?_;refine Qd (k21 (Qc (Pm ?_)));refine Pa ((Yld.to (u:=.int .u64 (m0.x.g.base+1+((j+1:Nat):Int))) Yg (by congr 1;omega))) ?_;refine Ps (Qd ?_);refine ro rfl (rd ((j+1,(vi',va',vt'),R3)) (⟨by dsimp only;omega,⟨h1',h2',h3'⟩,Hp.le_trans hR2 hR3⟩) Do);refine QW rfl ?_;try simp[cC]
  refine Pa Ql ?_;refine QX QB Qw ?_;refine Xi [9,11] Kr ⟨?_,?_,trivial⟩;refine QW rfl ?_;try simp[cC]
  refine Pa Ql ?_;refine QX QB Qw ?_;refine Xi [11] Kr ⟨?_,trivial⟩;refine QW rfl ?_;try simp[cC]
  refine QC Qo rfl Ju rfl (λb18=>?_);refine QX QB Qw ?_;refine Xi [12] Kr ⟨?_,trivial⟩;refine QW rfl ?_;try simp[cC]
  refine Qr Yk rfl Qo rfl rfl (Zj h1' h2' h3') Qm (by exact Gl 3) rfl ?_;refine QX QB Qw ?_;refine Zi ?_;try simp[cC]
  refine Ps (Qd (k23 (cS λ_ k30=>cS λ_ k31=>Qc ?_)));refine Pm ?_;refine Pa Xa (Pm ?_);refine Pb Qf ?_;refine Pb Xa ?_;refine Pa Qn (Qd (k31 ?_));refine cE [0,1,2,7,8,9,15,18,21,22,95] ?_;refine Qt rfl (Qh (k30 (Qc (Pm ?_))));refine Pa (Lb Yk) ?_;refine Pa Qe ?_;refine Pa (Ga HI II) ?_;refine Qr Yk rfl Qo rfl rfl (Zj h1' h2' h3') Qm (Gz rfl) rfl ?_;refine Qd (k21 (Qc (Pm ?_)));refine Pa ((Yld.to (u:=.int .u64 (m0.x.g.base+1+((j+1:Nat):Int))) Yg (by congr 1;omega))) ?_;refine Ps (Qd ?_);refine ro rfl (rd ((j+1,(vi',va',vt'),R3)) (⟨by dsimp only;omega,⟨h1',h2',h3'⟩,Hp.le_trans hR2 hR3⟩) Do);refine QW rfl ?_;try simp[cC]
  refine QC Qo rfl Ju rfl (λb18=>?_);refine QX QB Qw ?_;refine Xi [9] Kr ⟨?_,trivial⟩;refine QW rfl ?_;try simp[cC]
  refine Pa Ql ?_;refine QX QB Qw ?_;refine Xi [12] Kr ⟨?_,trivial⟩;refine QW rfl ?_;try simp[cC]
  refine Qr Yk rfl Qo rfl rfl (Zj h1' h2' h3') Qm (by exact Gl 3) rfl ?_;refine QX QB Qw ?_;refine Zi ?_;try simp[cC]
  refine Ps (Qd (k23 (cS λ_ k32=>cS λ_ k33=>Qc ?_)));refine Pm ?_;refine Pa Xa (Pm ?_);refine Pb Qf ?_;refine Pb Xa ?_;refine Pa Qn (Qd (k33 (Qt rfl (Qh (k32 (Qc (Pm ?_)))))));refine Pa (Lb Yk) ?_;refine Pa Qe ?_;refine Pa (Ga HI II) ?_;refine Qr Yk rfl Qo rfl rfl (Zj h1' h2' h3') Qm (Gz rfl) rfl ?_;refine Qd (k21 ?_);refine cE [0,1,2,7,8,9,15,21,22] ?_;refine Qc (Pm ?_);refine Pa ((Yld.to (u:=.int .u64 (m0.x.g.base+1+((j+1:Nat):Int))) Yg (by congr 1;omega))) ?_;refine Ps (Qd ?_);refine ro rfl (rd ((j+1,(vi',va',vt'),R3)) (⟨by dsimp only;omega,⟨h1',h2',h3'⟩,Hp.le_trans hR2 hR3⟩) Do);refine QW rfl ?_;try simp[cC]
  refine QC Qo rfl Ju rfl (λb18=>?_);refine QX QB Qw ?_;refine Xi [9,10] Kr ⟨?_,?_,trivial⟩;refine QW rfl ?_;try simp[cC]
  refine Pa Ql ?_;refine QX QB Qw ?_;refine Xi [10,12] Kr ⟨?_,?_,trivial⟩;refine QW rfl ?_;try simp[cC]
  refine Pa Ql ?_;refine QX QB Qw ?_;refine Xi [12] Kr ⟨?_,trivial⟩;refine QW rfl ?_;try simp[cC]
  refine Qr Yk rfl Qo rfl rfl (Zj h1' h2' h3') Qm (by exact Gl 3) rfl ?_;refine QX QB Qw ?_;refine Zi ?_;try simp[cC]
  refine Ps (Qd (k23 (cS λ_ k34=>cS λ_ k35=>Qc ?_)));refine Pm ?_;refine Pa Xa (Pm ?_);refine Pb Qf ?_;refine Pb Xa ?_;refine Pa Qn (Qd (k35 (Qt rfl (Qh (k34 (Qc (Pm ?_)))))));refine Pa (Lb Yk) ?_;refine Pa Qe ?_;refine Pa (Ga HI II) ?_;refine Qr Yk rfl Qo rfl rfl (Zj h1' h2' h3') Qm (Gz rfl) rfl ?_;refine Qd (k21 (Qc (Pm ?_)));refine Pa ((Yld.to (u:=.int .u64 (m0.x.g.base+1+((j+1:Nat):Int))) Yg (by congr 1;omega))) ?_;refine Ps (Qd ?_);refine ro rfl (rd ((j+1,(vi',va',vt'),R3)) (⟨by dsimp only;omega,⟨h1',h2',h3'⟩,Hp.le_trans hR2 hR3⟩) Do);refine QW rfl ?_;try simp[cC]
  refine Qr Yk rfl Qo rfl rfl (Zj h1' h2' h3') Qm (by exact Gl 3) rfl ?_;refine QX QB Qw ?_;refine Xi [10] Kr ⟨?_,trivial⟩;refine QW rfl ?_;try simp[cC]
  refine Pa Ql ?_;refine QX QB Qw ?_;refine Zi ?_;try simp[cC]
  refine Ps (Qd (k23 ?_));refine cE [0,1,2,7,8,9,15,17,18,19,21,22] ?_;refine cS λ_ k36=>cS λ_ k37=>Qc (Pm ?_);refine Pa Xa (Pm ?_);refine Pb Qf ?_;refine Pb Xa ?_;refine Pa Qn (Qd (k37 (Qt rfl (Qh (k36 (Qc (Pm ?_)))))));refine Pa (Lb Yk) ?_;refine Pa Qe ?_;refine Pa (Ga HI II) ?_;refine Qr Yk rfl Qo rfl rfl (Zj h1' h2' h3') Qm (Gz rfl) rfl ?_;refine Qd (k21 (Qc (Pm ?_)));refine Pa ((Yld.to (u:=.int .u64 (m0.x.g.base+1+((j+1:Nat):Int))) Yg (by congr 1;omega))) ?_;refine Ps (Qd ?_);refine ro rfl (rd ((j+1,(vi',va',vt'),R3)) (⟨by dsimp only;omega,⟨h1',h2',h3'⟩,Hp.le_trans hR2 hR3⟩) Do);refine QW rfl ?_;try simp[cC]
  refine Pa Ql ?_;refine QX QB Qw ?_;refine Xi [9] Kr ⟨?_,trivial⟩;refine QW rfl ?_;try simp[cC]
  refine Pa Ql ?_;refine QX QB Qw ?_;refine Xi [12] Kr ⟨?_,trivial⟩;refine QW rfl ?_;try simp[cC]
  refine Qr Yk rfl Qo rfl rfl (Zj h1' h2' h3') Qm (by exact Gl 3) rfl ?_;refine QX QB Qw ?_;refine Zi ?_;try simp[cC]
  refine Ps (Qd (k23 (cS λ_ k38=>cS λ_ k39=>Qc ?_)));refine Pm ?_;refine Pa Xa (Pm ?_);refine Pb Qf ?_;refine Pb Xa ?_;refine Pa Qn (Qd (k39 ?_));refine cE [0,1,2,7,8,9,15,18,21,22,95] ?_;refine Qt rfl (Qh (k38 (Qc (Pm ?_))));refine Pa (Lb Yk) ?_;refine Pa Qe ?_;refine Pa (Ga HI II) ?_;refine Qr Yk rfl Qo rfl rfl (Zj h1' h2' h3') Qm (Gz rfl) rfl ?_;refine Qd (k21 (Qc (Pm ?_)));refine Pa ((Yld.to (u:=.int .u64 (m0.x.g.base+1+((j+1:Nat):Int))) Yg (by congr 1;omega))) ?_;refine Ps (Qd ?_);refine ro rfl (rd ((j+1,(vi',va',vt'),R3)) (⟨by dsimp only;omega,⟨h1',h2',h3'⟩,Hp.le_trans hR2 hR3⟩) Do);refine QW rfl ?_;try simp[cC]
  refine QC Qo rfl Ju rfl (λb18=>?_);refine QX QB Qw ?_;refine Xi [8] Kr ⟨?_,trivial⟩;refine QW rfl ?_;try simp[cC]
  refine Pm ?_;refine QX QB Qw ?_;refine Xi [9,10] Kr ⟨?_,?_,trivial⟩;refine QW rfl ?_;try simp[cC]
  refine Pa Ql ?_;refine QX QB Qw ?_;refine Xi [10,12] Kr ⟨?_,?_,trivial⟩;refine QW rfl ?_;try simp[cC]
  refine Pa Ql ?_;refine QX QB Qw ?_;refine Xi [12] Kr ⟨?_,trivial⟩;refine QW rfl ?_;try simp[cC]
  refine Qr Yk rfl Qo rfl rfl (Zj h1' h2' h3') Qm (by exact Gl 3) rfl ?_;refine QX QB Qw ?_;refine Zi ?_;try simp[cC]
  refine Ps (Qd (k23 (cS λ_ k40=>cS λ_ k41=>Qc ?_)));refine Pm ?_;refine Pa Xa (Pm ?_);refine Pb Qf ?_;refine Pb Xa ?_;refine Pa Qn (Qd (k41 (Qt rfl (Qh (k40 (Qc (Pm ?_)))))));refine Pa (Lb Yk) ?_;refine Pa Qe ?_;refine Pa (Ga HI II) ?_;refine Qr Yk rfl Qo rfl rfl (Zj h1' h2' h3') Qm (Gz rfl) rfl ?_;refine Qd (k21 ?_);refine cE [0,1,2,7,8,9,15,21,22] ?_;refine Qc (Pm ?_);refine Pa ((Yld.to (u:=.int .u64 (m0.x.g.base+1+((j+1:Nat):Int))) Yg (by congr 1;omega))) ?_;refine Ps (Qd ?_);refine ro rfl (rd ((j+1,(vi',va',vt'),R3)) (⟨by dsimp only;omega,⟨h1',h2',h3'⟩,Hp.le_trans hR2 hR3⟩) Do);refine QW rfl ?_;try simp[cC]
  refine Qr Yk rfl Qo rfl rfl (Zj h1' h2' h3') Qm (by exact Gl 3) rfl ?_;refine QX QB Qw ?_;refine Xi [10] Kr ⟨?_,trivial⟩;refine QW rfl ?_;try simp[cC]
  refine Pa Ql ?_;refine QX QB Qw ?_;refine Zi ?_;try simp[cC]
  refine Ps (Qd (k23 (cS λ_ k42=>cS λ_ k43=>Qc ?_)));refine Pm ?_;refine Pa Xa (Pm ?_);refine Pb Qf ?_;refine Pb Xa ?_;refine Pa Qn (Qd (k43 (Qt rfl (Qh (k42 (Qc (Pm ?_)))))));refine Pa (Lb Yk) ?_;refine Pa Qe ?_;refine Pa (Ga HI II) ?_;refine Qr Yk rfl Qo rfl rfl (Zj h1' h2' h3') Qm (Gz rfl) rfl ?_;refine Qd (k21 (Qc (Pm ?_)));refine Pa ((Yld.to (u:=.int .u64 (m0.x.g.base+1+((j+1:Nat):Int))) Yg (by congr 1;omega))) ?_;refine Ps (Qd ?_);refine ro rfl (rd ((j+1,(vi',va',vt'),R3)) (⟨by dsimp only;omega,⟨h1',h2',h3'⟩,Hp.le_trans hR2 hR3⟩) Do);refine QW rfl ?_;try simp[cC]
  refine Pa Ql ?_;refine QX QB Qw ?_;refine Xi [9] Kr ⟨?_,trivial⟩;refine QW rfl ?_;try simp[cC]
  refine Pa Ql ?_;refine QX QB Qw ?_;refine Xi [12] Kr ⟨?_,trivial⟩;refine QW rfl ?_;try simp[cC]
  refine Qr Yk rfl Qo rfl rfl (Zj h1' h2' h3') Qm (by exact Gl 3) rfl ?_;refine QX QB Qw ?_;refine Zi ?_;try simp[cC]
  refine Ps (Qd (k23 ?_));refine cE [0,1,2,7,8,9,15,17,18,19,21,22] ?_;refine cS λ_ k44=>cS λ_ k45=>Qc (Pm ?_);refine Pa Xa (Pm ?_);refine Pb Qf ?_;refine Pb Xa ?_;refine Pa Qn (Qd (k45 (Qt rfl (Qh (k44 (Qc (Pm ?_)))))));refine Pa (Lb Yk) ?_;refine Pa Qe ?_;refine Pa (Ga HI II) ?_;refine Qr Yk rfl Qo rfl rfl (Zj h1' h2' h3') Qm (Gz rfl) rfl ?_;refine Qd (k21 (Qc (Pm ?_)));refine Pa ((Yld.to (u:=.int .u64 (m0.x.g.base+1+((j+1:Nat):Int))) Yg (by congr 1;omega))) ?_;refine Ps (Qd ?_);refine ro rfl (rd ((j+1,(vi',va',vt'),R3)) (⟨by dsimp only;omega,⟨h1',h2',h3'⟩,Hp.le_trans hR2 hR3⟩) Do);refine QW rfl ?_;try simp[cC]
  refine QC Qo rfl Ju rfl (λb18=>?_);refine QX QB Qw ?_;refine Xi [7] Kr ⟨?_,trivial⟩;refine QW rfl ?_;try simp[cC]
  refine Ra call41 (wy vi va vt (ye W0.ch m0 j) (m0.x.g.base+1+j) e m0.x.g.term h2 h1 h3 hkl hkn) ?_;rintro r R3 L' hR3 ⟨vi',va',vt',rfl,⟨h1',h2',h3'⟩,rfl⟩;rw[<-hks];try simp[cB]
  refine QX QB Qw ?_;refine Xi [8] Kr ⟨?_,trivial⟩;refine QW rfl ?_;try simp[cC]
  refine Pm ?_;refine QX QB Qw ?_;refine Xi [9,10] Kr ⟨?_,?_,trivial⟩;refine QW rfl ?_;try simp[cC]
  refine Pa Ql ?_;refine QX QB Qw ?_;refine Xi [10,12] Kr ⟨?_,?_,trivial⟩;refine QW rfl ?_;try simp[cC]
  refine Pa Ql ?_;refine QX QB Qw ?_;refine Xi [12] Kr ⟨?_,trivial⟩;refine QW rfl ?_;try simp[cC]
  refine Qr Yk rfl Qo rfl rfl (Zj h1' h2' h3') Qm (by exact Gl 3) rfl ?_;refine QX QB Qw ?_;refine Zi ?_;try simp[cC]
  refine Ps (Qd (k23 (cS λ_ k46=>cS λ_ k47=>Qc ?_)));refine Pm ?_;refine Pa Xa (Pm ?_);refine Pb Qf ?_;refine Pb Xa ?_;refine Pa Qn (Qd (k47 ?_));refine cE [0,1,2,7,8,9,15,18,21,22,95] ?_;refine Qt rfl (Qh (k46 (Qc (Pm ?_))));refine Pa (Lb Yk) ?_;refine Pa Qe ?_;refine Pa (Ga HI II) ?_;refine Qr Yk rfl Qo rfl rfl (Zj h1' h2' h3') Qm (Gz rfl) rfl ?_;refine Qd (k21 (Qc (Pm ?_)));refine Pa ((Yld.to (u:=.int .u64 (m0.x.g.base+1+((j+1:Nat):Int))) Yg (by congr 1;omega))) ?_;refine Ps (Qd ?_);refine ro rfl (rd ((j+1,(vi',va',vt'),R3)) (⟨by dsimp only;omega,⟨h1',h2',h3'⟩,Hp.le_trans hR2 hR3⟩) Do);refine QW rfl ?_;try simp[cC]
  refine Qr Yk rfl Qo rfl rfl (Zj h1' h2' h3') Qm (by exact Gl 3) rfl ?_;refine QX QB Qw ?_;refine Xi [10] Kr ⟨?_,trivial⟩;refine QW rfl ?_;try simp[cC]
  refine Pa Ql ?_;refine QX QB Qw ?_;refine Zi ?_;try simp[cC]
  refine Ps (Qd (k23 (cS λ_ k48=>cS λ_ k49=>Qc ?_)));refine Pm ?_;refine Pa Xa (Pm ?_);refine Pb Qf ?_;refine Pb Xa ?_;refine Pa Qn (Qd (k49 (Qt rfl (Qh (k48 (Qc (Pm ?_)))))));refine Pa (Lb Yk) ?_;refine Pa Qe ?_;refine Pa (Ga HI II) ?_;refine Qr Yk rfl Qo rfl rfl (Zj h1' h2' h3') Qm (Gz rfl) rfl ?_;refine Qd (k21 ?_);refine cE [0,1,2,7,8,9,15,21,22] ?_;refine Qc (Pm ?_);refine Pa ((Yld.to (u:=.int .u64 (m0.x.g.base+1+((j+1:Nat):Int))) Yg (by congr 1;omega))) ?_;refine Ps (Qd ?_);refine ro rfl (rd ((j+1,(vi',va',vt'),R3)) (⟨by dsimp only;omega,⟨h1',h2',h3'⟩,Hp.le_trans hR2 hR3⟩) Do);refine QW rfl ?_;try simp[cC]
  refine Pa Ql ?_;refine QX QB Qw ?_;refine Xi [9] Kr ⟨?_,trivial⟩;refine QW rfl ?_;try simp[cC]
  refine Pa Ql ?_;refine QX QB Qw ?_;refine Xi [12] Kr ⟨?_,trivial⟩;refine QW rfl ?_;try simp[cC]
  refine Qr Yk rfl Qo rfl rfl (Zj h1' h2' h3') Qm (by exact Gl 3) rfl ?_;refine QX QB Qw ?_;refine Zi ?_;try simp[cC]
  refine Ps (Qd (k23 (cS λ_ k50=>cS λ_ k51=>Qc ?_)));refine Pm ?_;refine Pa Xa (Pm ?_);refine Pb Qf ?_;refine Pb Xa ?_;refine Pa Qn (Qd (k51 (Qt rfl (Qh (k50 (Qc (Pm ?_)))))));refine Pa (Lb Yk) ?_;refine Pa Qe ?_;refine Pa (Ga HI II) ?_;refine Qr Yk rfl Qo rfl rfl (Zj h1' h2' h3') Qm (Gz rfl) rfl ?_;refine Qd (k21 (Qc (Pm ?_)));refine Pa ((Yld.to (u:=.int .u64 (m0.x.g.base+1+((j+1:Nat):Int))) Yg (by congr 1;omega))) ?_;refine Ps (Qd ?_);refine ro rfl (rd ((j+1,(vi',va',vt'),R3)) (⟨by dsimp only;omega,⟨h1',h2',h3'⟩,Hp.le_trans hR2 hR3⟩) Do);try simp[dx]at hc69
  refine QG (k16 ?_);refine cE [0,1,2,7,8,21,22] ?_;refine cS λ_ k52=>?_;have hjn:j=de m0:=by have hz:=hc69;omega
  rw[hjn,<-hch3];refine qh (A:=yd w G) Qm (iz hc0 hm0) (λhq=>?_);let⟨q0,cap0,hq0⟩:=hq;refine Qc (Pm (Pm ?_));refine Pa (Ca call17 ((kH (w:=w) hc0 hm0).eq3 hq0)) (Ps (Qd (k52 (cS λ_ k53=>cS λ_ k54=>Qc ?_))));refine Pm (Pm ?_);refine Pa Qe ?_;refine Pa (Ga HI Jl) ?_;refine Pa (La fx) ?_;refine Pa (Ca call27 ((hq0▸(wL (w:=w) hc0 hm0 vl0 W0.lo)).eq3 (v':=.bool true) (by rw[hlo.lo.1]))) ?_;refine Pa Xa (Pm ?_);refine Pb Qf ?_;refine Pb Qf ?_;refine Pb (Ca call18 (eX (w:=w) hc0 hm0)) ?_;refine Pb Qf ?_;refine Pb (Ca call39 (mS hc0 hm0)) ?_;refine Pb ((Yld.to (u:=.bool false) XG (by have:=hlo.ap;rw[decide_eq_false Om]))) ?_;refine Pa Qn (Qd (k54 ?_));refine cE [0,1,2,20,21,22,117] ?_;refine Qt rfl (Qh (k53 (cS λ_ k55=>Qc (Pm ?_))));refine Pa (QV HJ) (Pm ?_);refine Pa Qe ?_;refine Pa (Ga HI Jl) ?_;refine Pa (La fx) ?_;refine Pa (Zf HJ) ?_;refine Pa XG (Qd (k55 ?_));refine Qi rfl (λhc125=>?_) (λhc125=>?_);have hgt:m0.l.length>W0.lo.length:=by have hz:=hc125;simp at hz;omega
  have hlo4:W9.lo=m0.l:=by rw[hlo3,an hgt]
  refine Qc (Pm ?_);refine Qv (sz:=1) Qo rfl HJ Ic MJ rfl rfl rfl Dc Dc (λb127=>?_);refine Pm ?_;refine QZ (sz:=1) (by_:=16) ⟨HJ,_,_,rfl,rfl,rfl,rfl,rfl⟩ Qo rfl rfl rfl Qm ((hq0▸BV (w:=w) (G:=G) HJ Qm hc0 hm0)) rfl Qu (by simp[maxLen];omega) (λv129 ho129 hh129=>?_);rw[show 0+m0.l.length=m0.l.length from H4 _,Hr];rw[<-hlo4,hW9];refine Pa Qe ?_;refine Pa (Ga HI Jl) ?_;refine Sa fx ?_;refine Qd (k7 (Qc ?_));refine Pa Qz (Pm (Qd ?_));refine ro rfl (rd ((i+1,⟨bM,vi,va,vt,v129⟩,R2)) (⟨by dsimp only;omega,⟨h1,h2,h3,by assumption⟩,Hp.le_trans hR1 hR2⟩) Do);have hgt:¬m0.l.length>W0.lo.length:=by have hz:=hc125;simp at hz;omega
  have hlo4:W9.lo=W0.lo:=by rw[hlo3,ac hgt]
  rw[<-hlo4,hW9];refine Qh (k7 (Qc ?_));refine Pa Qz (Pm (Qd ?_));refine ro rfl (rd ((i+1,⟨bM,vi,va,vt,vl0⟩,R2)) (⟨by dsimp only;omega,⟨h1,h2,h3,hv1.vl⟩,Hp.le_trans hR1 hR2⟩) Do)
 refine cS λ_ k57=>Qc (Pm ?_);refine Pa (Ca MT (lS hc0 hm0)) ?_;refine Pa QL (Qd (k57 ?_));refine Qi rfl (λhc35=>?_) (λhc35=>?_);have hro:m0.x.role=2:=by have hz:=hc35;simpa using hz
 let⟨old,there,hlk,hlk2⟩:=CF (hlo.ld hro);refine cS λ_ k59=>cS λ_ k60=>Qc (Pm ?_);refine Pa Qe ?_;refine Pa (Ga HI sizeOf74) ?_;refine Pa (La Ee) (Pm ?_);refine Pa ((Yld.to (u:=QI [.int .i64 old,.bool there]) (nI L9 Ib KR rfl rfl Qm) (by rw[<-hlk];rfl))) (Pm ?_);refine Pa Ql ?_;refine Pa Ql (Ps (Ps (Qd (k60 ?_))));refine cE [0,1,2,7,8,9,10,11,21,22] ?_;refine cS λ_ k61=>Qc (Pm (Pm ?_));refine QM 46 rfl (λhg46=>?_) (λhg46=>?_);have hold:old=(i:Int):=hlk2 hg46;refine Pb Qf ?_;refine Pb Qf ?_;refine Pb ((Yld.to (u:=.bool false) Yp (by rw[hold];simp))) ?_;refine Pa Qq (Qd (k61 (Qt rfl (Qh (k59 (Qc (Pm ?_)))))));refine Pa Qe ?_;refine Pa (Ga HI sizeOf74) ?_;refine Pa (La Ee) (Pm (Pm ?_));refine jt L9 Ib Qo rfl rfl rfl Qm ?_;refine Qd ?_;refine Jn hJ12 ((yv (au W0) m0.x.g.term (.int .i64 (i:Int)),if((au W0) m0.x.g.term).isSome then W0.nld else W0.nld+1)) (⟨by dsimp only;rw[sE];unfold yD;rw[an hro],by dsimp only;rw[pn];unfold yD;rw[an hro];rfl⟩);try simp[dx]at hg46
 refine Pk (Pk (Pk ?_));refine Pa Qn (Qd (k61 (Qt rfl (Qh (k59 (Qc (Pm ?_)))))));refine Pa Qe ?_;refine Pa (Ga HI sizeOf74) ?_;refine Pa (La Ee) (Pm (Pm ?_));refine jt L9 Ib Qo rfl rfl rfl Qm ?_;refine Qd ?_;refine Jn hJ12 ((yv (au W0) m0.x.g.term (.int .i64 (i:Int)),if((au W0) m0.x.g.term).isSome then W0.nld else W0.nld+1)) (⟨by dsimp only;rw[sE];unfold yD;rw[an hro],by dsimp only;rw[pn];unfold yD;rw[an hro];rfl⟩);have hro:¬m0.x.role=2:=by have hz:=hc35;simpa using hz
 refine Qh ?_;refine Jn hJ12 ((au W0,W0.nld)) (⟨by dsimp only;unfold yD;rw[ac hro],by dsimp only;unfold yD;rw[ac hro]⟩);try simp[dx]at hc23
 refine QG (k2 ?_);refine cE [0,1,2] ?_;refine cS λ_ k62=>?_;have hin:i=n:=by have hz:=hc23;omega
 rw[hin];refine Qc (Pm (Pm (Pm ?_)));refine Pa (Ca call42 (uN b v1 (Yn G W n) w G n hn (hok.mono hR1) hw hc hv1)) (Ps (Qd (k62 (Qg (r_ ?_)))));refine Er results14 (me b v1 (Yn G W n)++YN w G) hR1 ?_;exact⟨rfl,hR1,v1,hv1,rfl⟩
def E5:WS:=⟨λ_=>none,0,[],[]⟩
structure PlayOK (n:Nat) (J:Nat->Nat->GS->Prop) (S:Nat->GS->WS->Prop):Prop where
 init:S 0 (GS.new n) E5
 step:∀k G W e c d,e.Bd->e.sm->J (c+60) (d+60) G->S k G W->(∀i m,i<n->(G.doE n e).ms[i]?=some m->m.dn=false->LookOK (Yn (G.doE n e) W i) i m)/\yA (G.doE n e) n (Yn (G.doE n e) W n).ch/\S (k+1) (G.doE n e) (Yn (G.doE n e) W n)
def D5(n:Nat)(hn:1<=n/\n<=9){C:Nat}{J:Nat->Nat->GS->Prop}(hB:Bud n C J){S:Nat->GS->WS->Prop}(hS:PlayOK n J S)(l:List Ev)(va:Value)(hva:FrX evE R l va)(hbd:∀e∈l,e.Bd)(hsm:∀e∈l,e.sm)(c d:Nat)(hC:n*C<=n*c+100000)(hj:J (c+l.length*60) (d+l.length*60) (GS.new n)):
  Tri prog 11 [.int .i64 (n:Int),va] R []
   (λr R' L'=>∃w G b v W,r=QI [.pointer (some ⟨w.g,0,none⟩),.pointer (some ⟨b,0,none⟩),.bool true]/\R.le R'/\GOk R' w G/\WVk v/\S l.length G W/\J c d G/\L'=me b v W++YN w G):=by
 obtain⟨q,cap,rfl,hq1,hq2⟩:=hva.shape;unfold maxLen at hq2;refine To func11 ntmps11 λ_ F _ r_ _ _=>?_;try simp[cB]
 refine cS λ_ k1=>Qc (Ps (Ps (Ps (Qd (k1 (cS λ_ k2=>Qc ?_))))));refine Pm ?_;refine Ra call19 (sK n Om) ?_;rintro r R2 L' hR2 ⟨w,rfl,hok,rfl⟩;try simp[cB]
 refine Pm ?_;refine Pa Ql ?_;refine Pa Ql (Ps (Ps (Qd (k2 (cS λ_ k3=>Qc ?_)))));refine eG (ik:=.u64) Qo rfl (λbm=>?_);refine Pa (Xh (cells:=[_,_,_,_,_]) [(0,1),(1,3),(4,1)] HI zeroValue80 (λ_=>rfl)) ?_;refine Xc Qo rfl rfl rfl (λbw=>?_);refine Ps (Qd (k3 (cS λ_ k4=>cS λ_ k5=>Qc ?_)));refine Pm ?_;refine Pa ((Yld.to (u:=.bool false) Yp Si)) (Qd (k5 (Qt rfl (Qh (k4 (cS λ_ k6=>cS λ_ k7=>Qc ?_))))));refine Zb (A:=zu (.slice none 0 0) []) (Yr _ _) ?_;refine Zb (A:=aA (.slice none 0 0) []) (Yr _ _) ?_;refine Zb (A:=aH (.slice none 0 0) []) (Yr _ _) ?_;refine Zb (A:=Zk (.slice none 0 0) []) (Yr _ _) ?_;refine Pm ?_;refine Pa (QV Kn) (Pm (Qd (k7 (Qp ?_))));refine Lp (λ(x:Nat×(GV×WV×Hp)×(GS×WS))=>[(0,.int .i64 (n:Int)),(7,.pointer (some ⟨w.g,0,none⟩)),(9,.pointer (some ⟨bw,0,none⟩)),(24,.slice q l.length cap),(25,.int .i64 (l.length:Int)),(26,.int .i64 (x.1:Int))]) (λx=>x.2.1.2.2) (λx=>me bw x.2.1.2.1 x.2.2.2++(YN x.2.1.1 x.2.2.1++F)) (λx=>x.1<=l.length/\(∃vn css vo cs,x.2.1.1=⟨w.g,w.va,w.n,vn,css,vo,cs⟩)/\GOk x.2.1.2.2 x.2.1.1 x.2.2.1/\R.le x.2.1.2.2/\J (c+(l.length-x.1)*60) (d+(l.length-x.1)*60) x.2.2.1/\S x.1 x.2.2.1 x.2.2.2/\WVk x.2.1.2.1) (λx=>l.length-x.1) (0,(w,⟨bm,.slice none 0 0,.slice none 0 0,.slice none 0 0,.slice none 0 0⟩,R2),(GS.new n,E5)) (⟨by simp,⟨_,_,_,_,rfl⟩,hok,hR2,hj,hS.init,⟨rfl,rfl,rfl,rfl⟩⟩) ?_;rintro⟨i,⟨w1,v1,R4⟩,⟨G,W⟩⟩ ⟨hi,hg1,hok1,hR4,hjG,hSG,hv1⟩;try dsimp only
 dsimp only at hi hg1 hok1 hR4 hjG hSG hv1;obtain⟨vn1,css1,vo1,cs1,rfl⟩:=hg1;refine cS λ_ k8=>Qc ?_;refine Pa QR (Qd (k8 (cS λ_ k9=>?_)));refine Qi rfl (λhc27=>?_) (λhc27=>?_);try simp[dx]at hc27
 refine Qh (k9 (cS λ_ k11=>Qp (cS λ_ k12=>?_)));have hi2:i<l.length:=by have hz:=hc27;omega
 obtain⟨a,ha⟩:∃x,l[i]?=some x:=⟨_,b7 hi2⟩;have ham:=Gv ha;obtain⟨be,oe,ce,cse,hee,rfl,_,hcell⟩:=(hva.mono hR4).at ha;obtain⟨rfl,rfl⟩:q=some ⟨be,oe,none⟩/\cap=ce:=by cases hee;exact⟨rfl,rfl⟩
 rw[show(l.length-i)*60=(l.length-(i+1))*60+60 by omega,<-HQ,<-HQ]at hjG;have hst:=hS.step i G W a _ _ (hbd a ham) (hsm a ham) hjG hSG;have hjn:=hB.doE Om (hbd a ham) (hsm a ham) hjG;refine Qc ?_;refine Pa (QE Kn sizeOf53) ?_;refine Pa ((Yq wt (vs:=fy a) rfl rfl (λj u hj=>hcell j u hj))) ?_;refine QC Qo rfl zeroValue53 rfl (λb6=>?_);refine Sm (vs:=fy a) wt lU ?_;refine Qd (k12 ?_);refine cE [0,7,9,11,24,25,26] ?_;refine cS λ_ k13=>Qc (Pm (Pm ?_));refine Pa ((Lb (vs:=fy a) wt)) ?_;refine Ra call21 (F4 ⟨w.g,w.va,w.n,vn1,css1,vo1,cs1⟩ G n _ _ C hB Om (by have:=Jk n (show c<=c+(l.length-(i+1))*60 by omega);omega) a (hbd a ham) (hsm a ham) hok1 hjG) ?_;rintro x R5 L' hR5 ⟨vn5,css5,vo5,cs5,hok5,rfl⟩;try simp[cB]
 refine Qd (k13 (cS λ_ k14=>Qc (Pm (Pm (Pm ?_)))));refine Ra call14 (pb bw v1 W ⟨w.g,w.va,w.n,vn5,css5,vo5,cs5⟩ (G.doE n a) n (hB.ln _ _ _ hjn).symm hok5 (hB.gw _ _ _ hjn) hv1 hst.1 hst.2.1) ?_;rintro r R6 L' hR6 ⟨rfl,_,v2,hv2,rfl⟩;try simp[cB]
 refine Pa Xa (Qd (k14 (Qt rfl (Qh (k11 (Qc ?_))))));refine Pa Qz (Pm (Qd ?_));refine ro rfl (rd ((i+1,(⟨w.g,w.va,w.n,vn5,css5,vo5,cs5⟩,v2,R6),(G.doE n a,Yn (G.doE n a) W n))) (⟨by dsimp only;omega,⟨_,_,_,_,rfl⟩,hok5.mono hR6,Hp.le_trans hR4 (Hp.le_trans hR5 hR6),hjn,hst.2.2,hv2⟩) Do);try simp[dx]at hc27
 refine QG (k6 (cS λ_ k15=>Qc (Pm (Pm (Ps (Ps (Ps (Qd (k15 (Qg (r_ ?_)))))))))));refine Er results11 (me bw v1 W++YN ⟨w.g,w.va,w.n,vn1,css1,vo1,cs1⟩ G) (by first|exact hR4|exact Hp.le_refl _) ?_;exact⟨⟨w.g,w.va,w.n,vn1,css1,vo1,cs1⟩,G,bw,v1,W,rfl,hR4,hok1,hv1,by rw[show i=l.length by have hz:=hc27;omega]at hSG;exact hSG,by rw[show i=l.length by have hz:=hc27;omega]at hjG;simpa using hjG,rfl⟩
def Later.bind{G':GS}(h:Later n Γ G)(f:∀Δ,SafeI n Δ G->Later n Δ G'):Later n Γ G':=by
 let⟨Δ,h1,h2⟩:=h;let⟨Ε,h3,h4⟩:=f Δ h2;exact⟨Ε,le_trans h1 h3,h4⟩
def aS(h:SafeI n Γ G)(hj:GJ n (c+1) (d+1) G)(i:Nat):Later n Γ (G.tick i):=by
 let⟨a,t,I,ha,ht,g⟩:=hj;exact h.tick g Om Om
def av(h:SafeI n Γ G)(hj:GJ n (c+1) d G)(k:Int):Later n Γ (G.deliver k):=by
 let⟨a,t,I,ha,ht,g⟩:=hj;exact h.deliver g k Om Om
def eS(h:SafeI n Γ G)(hj:GJ n (c+1) (d+1) G)(i:Nat){cmd:Bs}(hc:cmd.length<=100):Later n Γ (G.propose i cmd).2:=by
 let⟨a,t,I,ha,ht,g⟩:=hj;exact h.prop g hc Om Om
def uu(h:SafeI n Γ G)(hj:GJ n (c+1) d G)(i:Nat):Later n Γ (G.compact i).2:=by
 let⟨a,t,I,ha,ht,g⟩:=hj;exact h.comp g Om Om
def ir(h:SafeI n Γ G)(hj:GJ n (c+1) d G)(i:Nat)(k:Int):Later n Γ (G.crash i k):=by
 let⟨a,t,I,ha,ht,g⟩:=hj;exact h.crash g k
def iq{n i:Nat}(hi:i<n){Γ:GH}{G:GS}(h:SafeI n Γ G):∀{k c d:Nat},GJ n (c+k) (d+k) G->Later n Γ (G.tickN i k)
 |0,_,_,_=>h.later
 |k+1,c,d,hj=>(iq hi h (k:=k) (c:=c+1) (d:=d+1) (by rw[show c+1+k=c+(k+1)by omega,show d+1+k=d+(k+1)by omega];exact hj)).bind λΔ hd=>aS hd ((yn n).tickN hi (c:=c+1) (d:=d+1) (by rw[show c+1+k=c+(k+1)by omega,show d+1+k=d+(k+1)by omega];exact hj)) i
def kA{n:Nat}{Γ:GH}{G:GS}(h:SafeI n Γ G):∀{k c d:Nat},GJ n (c+k) d G->Later n Γ (G.delN k)
 |0,_,_,_=>h.later
 |k+1,c,d,hj=>(kA h (k:=k) (c:=c+1) (d:=d) (by rw[show c+1+k=c+(k+1)by omega];exact hj)).bind λΔ hd=>av hd ((yn n).delN (c:=c+1) (by rw[show c+1+k=c+(k+1)by omega];exact hj)) 0
theorem wx{e:Ev}(hn:0<n)(hb:e.Bd)(hs:e.sm)(hj:GJ n (c+60) (d+60) G)(h:SafeI n Γ G):Later n Γ (G.doE n e):=by
 have hi:=nC e.i (n:=n) Om;have hil:(cj e.i n).toNat<n:=Om;have h1:GJ n (c+1) (d+1) G:=(yn n).leq Om Om hj;have h0:GJ n (c+1) d G:=(yn n).leq Om Om hj;unfold GS.doE GS.does;split;.rename_i hw;have:=hs.n (.inl hw);exact iq hil h (c:=c) (d:=d) ((yn n).leq Om Om hj)
 split;.exact av h h0 _
 split;.exact(h.drop _).later
 split
 .split;.exact(h.twice _).later
  exact h.later
 split;.exact eS h h1 _ hs.text
 split;.exact uu h h0 _
 split;.exact ir h h0 _ _
 split;.exact h.fuel _
 split;.rename_i hw;have:=hs.n (.inr hw);exact kA h (c:=c) (d:=d) ((yn n).leq Om Om hj)
 exact h.later
def Gh(n:Nat)(Γ:GH)(q:Ch):Prop:=∃k:Nat,q.1=k/\1<=k/\k<=9500/\∃p,Γ.cmt n p q.2.2/\p[k-1]?=some q.2.1
structure ChsI (n:Nat) (Γ:GH) (l:List Ch):Prop where
 at_:∀q∈l,Gh n Γ q
 nd:(l.map (·.1)).Nodup
structure WI (n:Nat) (Γ:GH) (W:WS):Prop where
 ld:∀t i,W.ld t=some i->∃x:Nat,i=x/\Γ.el t x
 ch:ChsI n Γ W.ch
 lo:W.lo.length<=9500/\∃p τ,Γ.cmt n p τ/\W.lo=Yh p
def ChsI.mono{A B:GH}(h:A.le n B){l:List Ch}(hw:ChsI n A l):ChsI n B l:=
 ⟨λq hq=>by obtain⟨k,a,b,c,p,d,e⟩:=hw.at_ q hq;exact⟨k,a,b,c,p,ZK h d,e⟩,hw.nd⟩
def WI.mono{n:Nat}{A B:GH}(h:A.le n B){W:WS}(hw:WI n A W):WI n B W:=
 ⟨λt i e=>by obtain⟨x,a,b⟩:=hw.ld t i e;exact⟨x,a,h.el _ _ b⟩,hw.ch.mono h,hw.lo.1,by obtain⟨p,τ,a,b⟩:=hw.lo.2;exact⟨p,τ,ZK h a,b⟩⟩
def WI.new(n:Nat)(Γ:GH):WI n Γ E5:=⟨λt i e=>(by cases e),⟨λq hq=>(by cases hq),List.nodup_nil⟩,Dc,[],0,.inl rfl,rfl⟩
def ChsI.len{l:List Ch}(h:ChsI n Γ l):l.length<=9501:=by
 have h1:(l.map (λq=>q.1.toNat)).Nodup:=by
  have h2:=h.nd;rw[List.Nodup,List.pairwise_map]at h2|-;refine h2.imp_of_mem λ{a b} ha hb hne he=>hne ?_;obtain⟨k,e1,_⟩:=h.at_ a ha;obtain⟨j,e2,_⟩:=h.at_ b hb;omega
 have h3:=iM 9501 _ h1 (λi hi=>by
  obtain⟨q,hq,rfl⟩:=Gu.1 hi;obtain⟨k,e1,_,e2,_⟩:=h.at_ q hq;omega)
 simpa using h3
def sF(hi:GHI n Γ){l:List Ch}(h:ChsI n Γ l)(hj:1<=j/\j<=9500){τ:Int}{p:List Qy}(hp:Γ.cmt n p τ)(he:p[j-1]?=some e):
  (∀k q,ZJ l (j:Int)=some k->l[k]?=some q->q.2.1=e)/\ChsI n Γ (zp l j e τ):=by
 have hsame:∀k q,ZJ l (j:Int)=some k->l[k]?=some q->q.2.1=e:=λk q hk hq=>by
  obtain⟨q',hq',hqj⟩:=iJ hk;rw[hq]at hq';obtain rfl:=GU hq';obtain⟨k',e1,_,_,p',e2,e3⟩:=h.at_ q (Gv hq);obtain rfl:k'=j:=Om;have key:∀A B:List Qy,A<+:B->∀x y,A[k'-1]?=some x->B[k'-1]?=some y->x=y:=λA B hAB x y hx hy=>by
   obtain⟨r,rfl⟩:=hAB;rw[GG (Gj.1 hx).1,hx]at hy;exact GU hy
  rcases l6 hi e2 hp with h4|h4;.exact key _ _ h4 _ _ e3 he
  exact(key _ _ h4 _ _ he e3).symm
 refine⟨hsame,?_⟩;unfold zp;cases hpl:ZJ l (j:Int)with
 |none=>
  dsimp only;have hno:∀q∈l,¬q.1=(j:Int):=λq hq hqj=>by
   unfold ZJ at hpl;rw[LM]at hpl;have:=hpl q hq;simp[hqj]at this
  refine⟨λq hq=>?_,?_⟩
  .rcases GE.1 hq with hq|hq;.exact h.at_ q hq
   simp[GO]at hq;subst hq;exact⟨j,rfl,hj.1,hj.2,p,hp,he⟩
  rw[Ie,Hb];refine⟨h.nd,Si,λa ha b hb e=>?_⟩;obtain⟨q,hq,rfl⟩:=Gu.1 ha;simp[Hf,List.map_nil,GO]at hb;exact hno q hq (e.trans hb)
 |some k=>
  dsimp only;cases hq:l[k]? with
  |none=>exact h
  |some q=>
   dsimp only;split
   .have hqe:=hsame k q hpl hq;obtain⟨q',hq',hqj⟩:=iJ hpl;rw[hq]at hq';obtain rfl:=GU hq';refine⟨λr hr=>?_,?_⟩
    .rcases IW hr with hr|hr;.exact h.at_ r hr
     subst hr;exact⟨j,hqj,hj.1,hj.2,p,hp,by dsimp only;rw[he,hqe]⟩
    have:(l.set k (q.1,q.2.1,τ)).map (·.1)=l.map (·.1):=by
     rw[KY];apply Ir;intro i;by_cases hki:k=i;.subst hki;rw[Hz (by simpa using(Gj.1 hq).1),HD,hq];rfl
     rw[HC hki]
    rw[this];exact h.nd
   exact h
structure Seen (n:Nat) (Γ:GH) (i:Nat) (m:MS) (F:List Qy):Prop where
 ni:NodeI n Γ i m.x F
 l:m.l=Yh (F.take m.ap.toNat)
 ap:m.ap<=m.x.commit
 cm:m.x.g.base<=m.x.commit/\m.x.commit<=m.x.g.last
 la:m.x.g.last<=9400
 ll:(m.l.length:Int)<=m.ap
 ap0:0<=m.ap
def lr(h:SafeI n Γ G)(hj:GJ n c d G){m:MS}(hm:G.ms[i]?=some m)(hu:m.dn=false):∃F,Seen n Γ i m F:=by
 let⟨a,t,I,ha,ht,g⟩:=hj;have mi:=g.ms i m hm;have hI:=g.I;have u:MU a I (17000000+6000*a) i n m:=by
  rcases mi.st with u|d;.exact u
  rw[Ys d.1]at hu;cases hu
 let⟨F,h1,h2⟩:=(h.ms i m hm).up (by rw[hu];decide);have h3:=u.ub.inn.last;exact⟨F,h1,h2,u.ap,u.ub.inn.commit,Om,mi.l.1,by have:=mi.l.1;omega⟩
def Seen.at{n:Nat}{Γ:GH}{i:Nat}{m:MS}{F:List Qy}(h:Seen n Γ i m F){j:Nat}(hj:j<de m):∃e k:Nat,∃x:Qy,(k:Int)=m.x.g.base+1+j/\1<=k/\k<=9500/\m.x.g.at (m.x.g.base+1+j)=some x/\(F.take m.x.commit.toNat)[k-1]?=some x:=by
 have hag:=h.ni.lo.ag;have hb:=hag.b0;have hl:=hag.last;have hc:=h.cm;have hla:=h.la;unfold de at hj;obtain⟨k,hk⟩:∃k:Nat,(k:Int)=m.x.g.base+1+j:=⟨(m.x.g.base+1+j).toNat,Om⟩;have hkF:k-1<F.length:=Om;refine⟨0,k,F[k-1],hk,Om,Om,?_,?_⟩;.rw[<-hk,hag.at Om];exact b7 hkF
 rw[I3 Om];exact b7 hkF
def eT{n:Nat}{Γ:GH}(hi:GHI n Γ){i:Nat}{m:MS}{F:List Qy}(h:Seen n Γ i m F){ch:List Ch}(hc:ChsI n Γ ch):∀j,j<=de m->ChsI n Γ (ye ch m j)
 |0,_=>hc
 |j+1,hj=>by
  let⟨_,k,x,h1,h2,h3,h4,h5⟩:=h.at (j:=j) Om;rw[kB h4,<-h1];exact(sF hi (eT hi h hc j Om) ⟨h2,h3⟩ h.ni.cm h5).2
def nO{A B:List Qy}(h:A<+:B):Yh A<+:Yh B:=by
 obtain⟨r,rfl⟩:=h;rw[zV];exact I9 _ _
def uP{a b:List Bs}(h:a<+:b\/b<+:a):zt a b=true:=by
 unfold zt;refine IS ?_;rcases h with h|h
 .have hl:=h.length_le;rw[Hj hl,Ji];exact(Jw.1 h)
 have hl:=h.length_le;rw[Nat.min_eq_right hl,Ji];exact(Jw.1 h).symm
def Seen.look(hi:GHI n Γ){m:MS}(h:Seen n Γ i m F)(hw:WI n Γ W):LookOK W i m where
 ld:=λhr=>by
  cases hx:W.ld m.x.g.term with
  |none=>exact .inl rfl
  |some j=>
   let⟨x,e1,e2⟩:=hw.ld _ _ hx
   obtain rfl:=hi.one _ _ _ e2 (h.ni.ld hr).1
   exact .inr (by rw[e1])
 bc:=by
  have:=h.ni.lo.ag.b0
  have:=h.cm
  have:=h.la
  omega
 at_:=λj hj=>by
  let⟨_,k,x,h1,h2,h3,h4,h5⟩:=h.at hj
  refine⟨x,h4,?_⟩
  rw[<-h1]
  exact(sF hi (eT hi h hw.ch j Om) ⟨h2,h3⟩ h.ni.cm h5).1
 len:=λj hj=>by
  have:=(eT hi h hw.ch j hj).len
  omega
 lo:=by
  have:=hw.lo.1
  have:=h.ll
  have:=h.ap
  have:=h.cm
  have:=h.la
  refine⟨uP ?_,Om,Om⟩
  let⟨p,τ,e1,e2⟩:=hw.lo.2
  rw[h.l,e2]
  have h1:Γ.cmt n (F.take m.ap.toNat) m.x.g.term:=zr h.ni.cm (IU Om) (Gk _)
  exact(l6 hi h1 e1).imp nO nO
 ap:=h.ap
def Seen.step(hi:GHI n Γ){m:MS}(hu:m.dn=false)(h:Seen n Γ i m F)(hw:WI n Γ W):WI n Γ (zb W i m):=by
 unfold zb;rw[ac (by rw[hu];decide)];refine⟨λt j hj=>?_,eT hi h hw.ch _ (Gl _),?_,?_⟩
 .have hj:(yD W i m).ld t=some j:=hj;unfold yD at hj;split at hj
  .rename_i hr;unfold nu at hj;dsimp only at hj;split at hj;.rename_i ht;obtain rfl:=GU hj;exact⟨i,rfl,ht▸(h.ni.ld hr).1⟩
   exact hw.ld _ _ hj
  exact hw.ld _ _ hj
 .have:=hw.lo.1;have:=h.ll;have:=h.ap;have:=h.cm;have:=h.la;dsimp only;split<;>omega
 dsimp only;split;.exact⟨F.take m.ap.toNat,m.x.g.term,zr h.ni.cm (IU (by have:=h.ap;omega)) (Gk _),h.l⟩
 exact hw.lo.2
def gV{n c d:Nat}{Γ:GH}{G:GS}(h:SafeI n Γ G)(hj:GJ n c d G){W:WS}(hw:WI n Γ W):∀i,WI n Γ (Yn G W i)
 |0=>hw
 |i+1=>by
  have ih:=gV h hj hw i;show WI n Γ (match G.ms[i]? with|some m=>zb (Yn G W i) i m|none=>Yn G W i);cases hm:G.ms[i]? with
  |none=>exact ih
  |some m=>
   dsimp only;by_cases hu:m.dn=false;.let⟨F,hs⟩:=lr h hj hm hu;exact hs.step h.hi hu ih
   unfold zb;rw[an (by simpa using hu)];exact ih
def rK(h:SafeI n Γ G)(hj:GJ n c d G){ch:List Ch}(hc:ChsI n Γ ch):yA G n ch:=λi m hi hm hu hr q hq=>by
 let⟨F,hs⟩:=lr h hj hm hu;let⟨k,e1,e2,e3,p,e4,e5⟩:=hc.at_ q hq;have hag:=hs.ni.lo.ag;refine⟨by unfold QQ;omega,?_⟩;by_cases h1:q.1<=m.x.g.base;.exact .inl h1
 by_cases h2:q.2.2>m.x.g.term;.exact .inr (.inl h2)
 refine .inr (.inr ?_);let⟨g1,g2,_⟩:=hs.ni.ld hr;have h3:=eR h.hi g1 (show q.2.2<=m.x.g.term by omega) e4;rw[g2]at h3;let⟨r,hr⟩:=h3;rw[e1,hag.at Om,<-hr,GG (Gj.1 e5).1];exact e5
def SW(n:Nat)(G:GS)(W:WS):Prop:=∃Γ,SafeI n Γ G/\WI n Γ W
def SW.look{n c d:Nat}{G:GS}{W:WS}(h:SW n G W)(hj:GJ n c d G):(∀i m,i<n->G.ms[i]?=some m->m.dn=false->LookOK (Yn G W i) i m)/\yA G n (Yn G W n).ch/\SW n G (Yn G W n):=by
 let⟨Γ,h1,h2⟩:=h;refine⟨λi m hi hm hu=>?_,rK h1 hj (gV h1 hj h2 n).ch,Γ,h1,gV h1 hj h2 n⟩;let⟨F,hs⟩:=lr h1 hj hm hu;exact hs.look h1.hi (gV h1 hj h2 i)
def wb(hn:0<n):PlayOK n (GJ n) (λ_=>SW n) where
 init:=⟨GH.new,SafeI.new n,WI.new n _⟩
 step:=λk G W e c d hb hs hj ⟨Γ,h1,h2⟩=>by
  let⟨Δ,h3,h4⟩:=wx hn hb hs hj h1;exact SW.look ⟨Δ,h4,h2.mono h3⟩ ((yn n).doE hn hb hs hj)
def ne(w:List Bs)(T:Int)(c:Bs):w++Yh [(T,c)]=yy w c:=by
 unfold Yh yy;by_cases h:c=[]<;>simp[h]
def fh{x:ND}(h:x.mid>x.commit->x.tAt x.mid=x.g.term):∃cm,x.count={x with commit:=cm}/\x.commit<=cm/\(cm=x.commit\/cm=x.mid)/\x.mid<=cm:=by
 by_cases h1:x.mid>x.commit;.exact⟨x.mid,by unfold ND.count;rw[an ⟨h1,h h1⟩],Om,.inr rfl,Gk _⟩
 exact⟨x.commit,by unfold ND.count;rw[ac Om],Gk _,.inl rfl,Om⟩
def BM.grow{m:MS}(h:BM n T k t w i m)(c:Bs)(hy:y={m.x with g:=m.x.g.play (.add k [(T,c)]),role:=y.role,leader:=y.leader,patience:=y.patience,commit:=y.commit,peers:=y.peers,votes:=y.votes})(hc:m.x.commit<=y.commit/\y.commit<=k+1)(o:List OC):
  BM n T (k+1) T (yy w c) i (doneS i {m with x:=y} o).1/\(doneS i {m with x:=y} o).1.x=y:=by
 have hl:=h.last;have hb:=h.base;have hA:=h.A;let⟨a1,a2,a3⟩:=h.at;let⟨e1,e2⟩:=j6 (g:=m.x.g) (T,c) hb;rw[hl]at e1 e2;have hyg:y.g=m.x.g.play (.add k [(T,c)]):=by rw[hy]
 have hyb:y.g.base=m.x.g.base:=by rw[hyg];rfl
 have hyl:y.g.last=k+1:=by rw[hyg];exact e2
 have hya:y.g.all=m.x.g.all++[(T,c)]:=by rw[hyg];exact e1
 have hll:m.x.g.last=m.x.g.base+m.x.g.all.length:=rfl;have hc0:lY y.g=yy w c:=by
  unfold lY;rw[hya,hyb,zV,<-GA];have:y.g.state=m.x.g.state:=by rw[hyg];rfl
  rw[this];have h2:=h.ct;unfold lY at h2;rw[h2,ne]
 have hA2:AP (yy w c) {m with x:=y}:=by
  refine⟨by show y.g.base<=m.ap;rw[hyb];exact hA.b,by show m.ap<=y.commit;have:=hA.c;omega,by show y.commit<=y.g.last;rw[hyl];exact hc.2,?_⟩;show m.l++Yh (y.g.all.drop (m.ap-y.g.base).toNat)=_;rw[hyb,hya,H5 (by have:=hA.b;have:=hA.c;omega),zV,<-GA,hA.t,ne]
 let⟨d1,d2,d3,d4,d5⟩:=hA2.done (i:Int) o;refine⟨⟨by rw[d3];show y.id=i;rw[hy];exact h.id,by rw[d3];show y.n=n;rw[hy];exact h.n,by rw[d3];show y.out=[];rw[hy];exact h.out,by rw[d3];show y.g.term=T;rw[hyg];exact h.term,by rw[d3];show 0<=y.g.base;rw[hyb];exact hb,by rw[d3];exact hyl,?_,by rw[d3];exact hc0,by rw[d2,d3],d1⟩,d3⟩;rw[d3];show y.g.termAt (k+1)=some T;unfold LG.termAt;rw[ac (by rw[hyb];omega),dg (by rw[hyb,hyl];omega),hya,hyb,GY Om,show(k+1-m.x.g.base-1).toNat-m.x.g.all.length=0 by omega];rfl
def BM.keep{m:MS}(h:BM n T k t w i m)(hy:y={m.x with role:=y.role,leader:=y.leader,patience:=y.patience,commit:=y.commit,peers:=y.peers,votes:=y.votes})(hc:m.x.commit<=y.commit/\y.commit<=k)(o:List OC):
  BM n T k t w i (doneS i {m with x:=y} o).1/\(doneS i {m with x:=y} o).1.x=y:=by
 have hl:=h.last;have hA:=h.A;have hyg:y.g=m.x.g:=by rw[hy]
 have hA2:AP w {m with x:=y}:=⟨by show y.g.base<=m.ap;rw[hyg];exact hA.b,by show m.ap<=y.commit;have:=hA.c;omega,by show y.commit<=y.g.last;rw[hyg,hl];exact hc.2,by show m.l++Yh (y.g.all.drop (m.ap-y.g.base).toNat)=_;rw[hyg];exact hA.t⟩;let⟨d1,d2,d3,d4,d5⟩:=hA2.done (i:Int) o;exact⟨⟨by rw[d3];show y.id=i;rw[hy];exact h.id,by rw[d3];show y.n=n;rw[hy];exact h.n,by rw[d3];show y.out=[];rw[hy];exact h.out,by rw[d3];show y.g.term=T;rw[hyg];exact h.term,by rw[d3];show 0<=y.g.base;rw[hyg];exact h.base,by rw[d3];show y.g.last=k;rw[hyg];exact hl,by rw[d3];show y.g.termAt k=some t;rw[hyg];exact h.tl,by rw[d3];show lY y.g=w;rw[hyg];exact h.ct,by rw[d2,d3],d1⟩,d3⟩
def fM(L:Nat)(T k t:Int)(c:Bs)(cm:Int)(i:Nat):Msg:={Msg.zero with kind:=2,frm:=L,to:=i,term:=T,index:=k,logTerm:=t,es:=[(T,c)],commit:=cm}
def dc(L:Nat)(T k t:Int)(c:Bs)(i:Nat)(m:Msg):Prop:=∃cm,(k<=cm/\cm<=k+1)/\m=fM L T k t c cm i
structure CL (n L:Nat) (p:Int) (m:MS):Prop where
 role:m.x.role=2
 leader:m.x.leader=L
 pat:m.x.patience=p
 mid:m.x.mid<=m.x.commit
 l:m.x.peers.length=n
structure CQ (n L:Nat) (T k t:Int) (w:List Bs) (c:Bs) (p b:Int) (q:Nat) (G:GS):Prop where
 len:G.ms.length=n
 lt:L<n
 ms:∀i m,G.ms[i]?=some m->(i=L->BM n T (k+1) T (yy w c) i m/\CL n L (if q<=L then p else if p+1>=3 then 0 else p+1) m/\k<=m.x.commit/\(m.x.g.base<=k/\m.x.tAt k=t/\m.x.g.at (k+1)=some (T,c))/\∀j,j<n->j≠L->m.x.peers[j]?=some (k+1,k))/\(i≠L->BM n T k t w i m/\BF L (if q<=i then b else b+1) m)
 st:(∀x∈G.st,∃i,i<n/\i≠L/\dc L T k t c i x.2)/\(∀i,i<n->i≠L->∃x∈G.st,dc L T k t c i x.2)/\G.st.length<=(if q<=L then n else 2*n)
def pJ{x:ND}{n:Nat}{c:Bs}(hid:x.id=L)(ht:x.g.term=T)(hb:x.g.base<=k)(hl:x.g.last=k+1)(hta:x.tAt k=t)(hat:x.g.at (k+1)=some (T,c))(hc:k<=x.commit/\x.commit<=k+1)(hp:x.peers[i]?=some (k+1,k)):dc L T k t c i (x.stamp (x.feedMsg i)):=by
 have hl2:x.g.last=x.g.base+x.g.all.length:=rfl;rw[qE (by rw[(qI hp).2];omega),(qI hp).2];have e1:(x.g.all.drop (k+1-x.g.base-1).toNat).take 8=[(T,c)]:=by
  rw[dg Om]at hat;let⟨h1,h2⟩:=Gj.1 hat;rw[J8 h1,h2,Ix Om];rfl
 have e2:k+1-1=k:=Om;rw[e1,e2,hta];refine⟨x.commit,hc,?_⟩;unfold ND.stamp fM;rw[hid,ht];try rfl
def CQ.tick{c:Bs}{p:Int}{q:Nat}(h:CQ n L T k t w c p b q G)(hq:q<n)(hp:0<=p/\p<=2)(hb:0<=b/\b<=8):CQ n L T k t w c p b (q+1) (G.tickS q):=by
 obtain⟨m,hm⟩:∃m,G.ms[q]?=some m:=⟨_,b7 (by rw[h.len];exact hq)⟩;let⟨c2,c3⟩:=h.ms q m hm;let⟨e1,e2⟩:=ew hm;let⟨s1,s2,s3⟩:=h.st;have hoth:∀j mj,j≠q->((j=L->BM n T (k+1) T (yy w c) j mj/\CL n L (if q<=L then p else if p+1>=3 then 0 else p+1) mj/\k<=mj.x.commit/\(mj.x.g.base<=k/\mj.x.tAt k=t/\mj.x.g.at (k+1)=some (T,c))/\∀j,j<n->j≠L->mj.x.peers[j]?=some (k+1,k))/\(j≠L->BM n T k t w j mj/\BF L (if q<=j then b else b+1) mj))->
   ((j=L->BM n T (k+1) T (yy w c) j mj/\CL n L (if q+1<=L then p else if p+1>=3 then 0 else p+1) mj/\k<=mj.x.commit/\(mj.x.g.base<=k/\mj.x.tAt k=t/\mj.x.g.at (k+1)=some (T,c))/\∀j,j<n->j≠L->mj.x.peers[j]?=some (k+1,k))/\(j≠L->BM n T k t w j mj/\BF L (if q+1<=j then b else b+1) mj)):=λj mj hj hP=>by
  refine⟨λe=>?_,λe=>?_⟩
  .have h5:=hP.1 e
   rcases HK L q with hjq|hjq
   .rw[ac Om];rw[ac Om]at h5;exact h5
   .rw[an Om];rw[an Om]at h5;exact h5
  .have h5:=hP.2 e
   rcases HK j q with hjq|hjq
   .rw[ac Om];rw[ac Om]at h5;exact h5
   .rw[an Om];rw[an Om]at h5;exact h5
 by_cases hL:q=L
 .subst hL;let⟨b1,b2,b3,b4,b5⟩:=c2 rfl;rw[an (Gl _)]at b2;rw[an (Gl _)]at s3;obtain⟨y,l,hy,hl,hx,hpt⟩:∃y l,m.x.tickP=ND.sends y l/\(l.map y.stamp=[]\/l.map y.stamp=m.x.others.map λi=>y.stamp (y.feedMsg i))/\y={m.x with patience:=y.patience}/\y.patience=if p+1>=3 then 0 else p+1:=by
   unfold ND.tickP;rw[an b2.role,b2.pat];by_cases hbeat:p+1>=3;.rw[an hbeat,an hbeat,Xe];exact⟨_,_,rfl,.inr (by rw[JX];rfl),rfl,rfl⟩
   rw[ac hbeat,ac hbeat];exact⟨{m.x with patience:=p+1},[],by unfold ND.sends;simp,.inl rfl,rfl,rfl⟩
  have hyo:y.out=[]:=by rw[hx];exact b1.out
  have e3:m.tickS.1={m with x:=y}:=by
   unfold MS.tickS;rw[hy];show MS.mk (ND.q _) _ _ _=_;have:ND.q (y.sends l)=y:=Zd hyo;rw[this]
  have e4:m.tickS.2=l.map y.stamp:=by
   unfold MS.tickS;rw[hy];show y.out++_=_;rw[hyo];rfl
  let⟨k1,k2⟩:=b1.keep (y:=y) (by rw[hx]) ⟨by rw[hx];exact Gk _,by rw[hx];exact b1.at.2.1⟩ G.out;rw[e3]at e1;rw[e4]at e2;have hfy:∀i,i<n->i≠q->dc q T k t c i (y.stamp (y.feedMsg i)):=λi hi hiq=>pJ (n:=n) (by rw[hx];exact b1.id) (by rw[hx];exact b1.term) (by rw[hx];exact b4.1) (by rw[hx];exact b1.last) (by rw[hx];exact b4.2.1) (by rw[hx];exact b4.2.2) (by rw[hx];exact⟨b3,b1.at.2.1⟩) (by rw[hx];exact b5 i hi hiq);refine⟨by rw[e1,Hy];exact h.len,h.lt,?_,?_,?_,?_⟩;.rw[e1];refine qn h.ms (λj mj hj hP=>hoth j mj hj hP) ⟨λ_=>⟨k1,?_,by rw[k2,hx];exact b3,by rw[k2,hx];exact b4,by rw[k2,hx];exact b5⟩,λhjL=>Gr rfl hjL⟩;rw[ac Om];exact⟨by rw[k2,hx];exact b2.role,by rw[k2,hx];exact b2.leader,by rw[k2];exact hpt,by rw[k2,hx];exact b2.mid,by rw[k2,hx];exact b2.l⟩
  .intro x hx2;rw[e2]at hx2;rcases GE.1 hx2 with hx2|hx2
   .exact s1 x hx2
   have h6:=qZ hx2;rcases hl with hl|hl
   .rw[hl]at h6;cases h6
   rw[hl]at h6;let⟨j,hj,e⟩:=Gu.1 h6;let⟨hj1,hj2⟩:=others_mem.1 hj;rw[b1.n]at hj1;rw[b1.id]at hj2;rw[<-e];exact⟨j,hj1,hj2,hfy j hj1 hj2⟩
  .intro i hi hiL;let⟨x,hx2,hxF⟩:=s2 i hi hiL;exact⟨x,by rw[e2];exact GT _ hx2,hxF⟩
  rw[e2,ac Om,Gm,yu];have:(l.map y.stamp).length<=n:=by
   rcases hl with hl|hl;.rw[hl];exact He _
   rw[hl,H8];have:=jx m.x;rw[b1.n]at this;exact this
  omega
 let⟨c4,c5⟩:=c3 hL;rw[an (Gl _)]at c5;have hlm:=yL m.x.id m.x.g.term;have hpt:=c5.pat;have et:m.x.tickP={m.x with patience:=m.x.patience+1}:=by
  unfold ND.tickP;rw[ac (by rw[c5.role];decide),ac Om]
 let⟨b1,b2⟩:=c4.same (m.x.patience+1) G.out;have e3:m.tickS=({m with x:=ND.q {m.x with patience:=m.x.patience+1}},[]):=by
  unfold MS.tickS;rw[et];exact JL rfl c4.out
 rw[e3]at e1 e2;have e2:(G.tickS q).st=G.st:=by rw[e2];simp[XD]
 refine⟨by rw[e1,Hy];exact h.len,h.lt,?_,by rw[e2];exact s1,by rw[e2];exact s2,?_⟩;.rw[e1];refine qn h.ms (λj mj hj hP=>hoth j mj hj hP) ⟨λe=>Gr e hL,λ_=>⟨b1,?_⟩⟩;rw[ac Om];exact⟨by rw[b2];exact c5.role,by rw[b2];show 0<=m.x.patience+1/\m.x.patience+1<=b+1;omega⟩
 rw[e2];split;.rw[an Om]at s3;exact s3
 split at s3;.omega
 exact s3
def CQ.ticks{n L:Nat}{T k t:Int}{w:List Bs}{c:Bs}{p b:Int}{G:GS}(h:CQ n L T k t w c p b 0 G)(hp:0<=p/\p<=2)(hb:0<=b/\b<=8):∀q,q<=n->CQ n L T k t w c p b q (G.ticksS q)
 |0,_=>h
 |q+1,hq=>by
  rw[zC];exact(h.ticks hp hb q Om).tick Om hp hb
def oD{x:ND}{c:Bs}{cm:Int}(hid:x.id=i)(hn:x.n=n)(hL:L<n/\L≠i)(ht:x.g.term=T)(hr:x.role=0)(hb:x.g.base<=k)(htl:x.g.termAt k=some t):
  x.receiveP (fM L T k t c cm i)=match ND.fits x.g [(T,c)] (k+1)with
   |none=>ND.answer {x with role:=0,leader:=L,patience:=0,commit:=max x.commit (min cm (k+1))} (fM L T k t c cm i) true (k+1)
   |some (j,l)=>if j<=x.commit then{x with role:=0,leader:=L,patience:=0}else ND.answer {x with role:=0,leader:=L,patience:=0,g:=x.g.play (.add (j-1) l),commit:=max x.commit (min cm (k+1))} (fM L T k t c cm i) true (k+1):=by
 unfold ND.receiveP
 rw[ac (by rw[hid,hn];show¬(¬(i:Int)=i\/(L:Int)=i\/(L:Int)<0\/(L:Int)>=n);omega),ac (by show¬T>x.g.term;omega)]
 unfold ND.kindP
 rw[ac (by show¬(2:Int)=0;decide),ac (by show¬(2:Int)=1;decide),an (.inl (show(fM L T k t c cm i).kind=2 from rfl))]
 unfold ND.fedP
 rw[ac (by show¬T<x.g.term;omega),ac Om,an (show(fM L T k t c cm i).kind=2 from rfl)]
 unfold ND.addP
 rw[ac (by show¬(k<x.g.base/\_);omega),ac (by show¬(_/\¬x.g.termAt k=some t);rw[htl];simp)]
 have hcut:(x.follows (fM L T k t c cm i)).cutM (fM L T k t c cm i)=(k,[(T,c)]):=by
  unfold ND.cutM
  rw[ac (by show¬k<x.g.base;omega)]
  rfl
 rw[hcut]
 unfold ND.restP
 rfl
def w4(m:Msg):Nat:=if m.kind=3 then 1 else 2
structure CB (n L:Nat) (T k t:Int) (w:List Bs) (c:Bs) (p b:Int) (G:GS):Prop where
 len:G.ms.length=n
 lt:L<n
 ms:∀i m,G.ms[i]?=some m->(i=L->BM n T (k+1) T (yy w c) i m/\CL n L p m/\∀j,j<n->j≠L->m.x.peers[j]?=some (k+1,k)\/m.x.peers[j]?=some (k+2,k+1))/\
  (i≠L->BF L b m/\(BM n T k t w i m/\(∃x∈G.st,dc L T k t c i x.2)\/BM n T (k+1) T (yy w c) i m/\m.x.g.termAt k=some t/\m.x.g.base<=k/\((∃mL,G.ms[L]?=some mL/\mL.x.peers[i]?=some (k+2,k+1))\/(∃x∈G.st,x.2=aM L T (k+1) i\/dc L T k t c i x.2))))
 st:∀x∈G.st,∃i,i<n/\i≠L/\(dc L T k t c i x.2\/x.2=aM L T (k+1) i)
def kD{c:Bs}(h:dc L T k t c i m):m.to=i/\m.kind=2:=by
 obtain⟨cm,_,rfl⟩:=h;exact⟨rfl,rfl⟩
def CB.del{c:Bs}{p:Int}{x:Yf}{l:List Yf}(h:CB n L T k t w c p b G)(hb:0<=b)(hs:G.st=x::l):CB n L T k t w c p b (G.delS 0)/\yb w2 (G.delS 0).st<yb w2 G.st:=by
 let⟨i,hi,hiL,hx⟩:=h.st x (by rw[hs];simp);have hLn:=h.lt;have hst:∀y∈l,y∈G.st:=λy hy=>by rw[hs];exact H9 _ hy
 obtain⟨mL,hmL⟩:∃m,G.ms[L]?=some m:=⟨_,b7 (by rw[h.len];exact hLn)⟩;rcases hx with hx|hx
 .obtain⟨m,hm⟩:∃m,G.ms[i]?=some m:=⟨_,b7 (by rw[h.len];exact hi)⟩;let⟨hxto,hxk⟩:=kD hx;let⟨cm,hcm,hxe⟩:=hx;let⟨_,c3⟩:=h.ms i m hm;let⟨c4,c5⟩:=c3 hiL;let⟨e1,e2⟩:=bE hs hxto hm;have hgot:∃m1,(G.delS 0).ms=G.ms.set i m1/\(G.delS 0).st=l++XD G.last [aM L T (k+1) i]/\BM n T (k+1) T (yy w c) i m1/\m1.x.g.termAt k=some t/\m1.x.g.base<=k/\BF L b m1:=by
   rcases c5 with⟨c6,_⟩|⟨c6,c7,c8,_⟩
   .let⟨a1,a2,a3⟩:=c6.at;have hl:=c6.last;have hfit:ND.fits m.x.g [(T,c)] (k+1)=some (k+1,[(T,c)]):=zq (by rw[cH Om];simp);have hr:=oD (x:=m.x) (c:=c) (cm:=cm) c6.id c6.n ⟨hLn,λe=>hiL e.symm⟩ c6.term c4.role a1 c6.tl;rw[hfit]at hr;dsimp only at hr;rw[ac Om,show k+1-1=k by omega]at hr;have er:m.recvS x.2=({m with x:={m.x with role:=0,leader:=L,patience:=0,g:=m.x.g.play (.add k [(T,c)]),commit:=max m.x.commit (min cm (k+1))}},[aM L T (k+1) i]):=by
     unfold MS.recvS;rw[hxe,hr];unfold ND.answer ND.send ND.q;dsimp only;rw[c6.out];refine JL ?_ ?_;.show MS.mk _ _ _ _=MS.mk _ _ _ _;congr 1;try(show ND.mk _ _ _ _ _ _ _ _ _ _ _=ND.mk _ _ _ _ _ _ _ _ _ _ _;rw[c6.out])
     show[_]=[_];unfold aM fM;dsimp only;rw[c6.id,show(m.x.g.play (.add k [(T,c)])).term=T from c6.term];try rfl
    rw[er]at e1 e2;let⟨g1,g2⟩:=c6.grow c (y:={m.x with role:=0,leader:=L,patience:=0,g:=m.x.g.play (.add k [(T,c)]),commit:=max m.x.commit (min cm (k+1))}) rfl ⟨by dsimp only;omega,by dsimp only;omega⟩ G.out;refine⟨_,e1,e2,g1,?_,by rw[g2];exact a1,⟨by rw[g2],by rw[g2];exact⟨Gk _,hb⟩⟩⟩;rw[g2];show(m.x.g.play (.add k [(T,c)])).termAt k=some t;have htl:=c6.tl;unfold LG.termAt at htl|-;rw[show(m.x.g.play (.add k [(T,c)])).base=m.x.g.base from rfl,show(m.x.g.play (.add k [(T,c)])).baseT=m.x.g.baseT from rfl,gQ Om Om];exact htl
   have hl:=c6.last;let⟨a1,a2,a3⟩:=c6.at;have htl:=c6.tl;have hfit:ND.fits m.x.g [(T,c)] (k+1)=none:=by
    rw[zf];.rfl
    unfold LG.termAt at htl;rw[ac Om]at htl;exact htl
   have hr:=oD (x:=m.x) (c:=c) (cm:=cm) c6.id c6.n ⟨hLn,λe=>hiL e.symm⟩ c6.term c4.role c8 c7;rw[hfit]at hr;dsimp only at hr;have er:m.recvS x.2=({m with x:={m.x with role:=0,leader:=L,patience:=0,commit:=max m.x.commit (min cm (k+1))}},[aM L T (k+1) i]):=by
    unfold MS.recvS;rw[hxe,hr];unfold ND.answer ND.send ND.q;dsimp only;rw[c6.out];refine JL ?_ ?_;.show MS.mk _ _ _ _=MS.mk _ _ _ _;congr 1;try(show ND.mk _ _ _ _ _ _ _ _ _ _ _=ND.mk _ _ _ _ _ _ _ _ _ _ _;rw[c6.out])
    show[_]=[_];unfold aM fM;dsimp only;rw[c6.id,c6.term];try rfl
   rw[er]at e1 e2;let⟨g1,g2⟩:=c6.keep (y:={m.x with role:=0,leader:=L,patience:=0,commit:=max m.x.commit (min cm (k+1))}) rfl ⟨by dsimp only;omega,by dsimp only;omega⟩ G.out;exact⟨_,e1,e2,g1,by rw[g2];exact c7,by rw[g2];exact c8,⟨by rw[g2],by rw[g2];exact⟨Gk _,hb⟩⟩⟩
  let⟨m1,f1,f2,f3,f4,f5,f6⟩:=hgot;have hmL2:(G.delS 0).ms[L]?=some mL:=by rw[f1,HC hiL];exact hmL
  constructor
  .refine⟨by rw[f1,Hy];exact h.len,hLn,?_,?_⟩
   .have hset:=qn (i:=i) (m':=m1) (Q:=λj mj=>(j=L->BM n T (k+1) T (yy w c) j mj/\CL n L p mj/\∀j,j<n->j≠L->mj.x.peers[j]?=some (k+1,k)\/mj.x.peers[j]?=some (k+2,k+1))/\
     (j≠L->BF L b mj/\(BM n T k t w j mj/\(∃x∈(G.delS 0).st,dc L T k t c j x.2)\/BM n T (k+1) T (yy w c) j mj/\mj.x.g.termAt k=some t/\mj.x.g.base<=k/\((∃mL,(G.delS 0).ms[L]?=some mL/\mL.x.peers[j]?=some (k+2,k+1))\/(∃x∈(G.delS 0).st,x.2=aM L T (k+1) j\/dc L T k t c j x.2))))) h.ms (λj mj hj hP=>?_) ?_
    .rw[f1];rw[f1]at hset;exact hset
    .refine⟨hP.1,λhjL=>⟨(hP.2 hjL).1,?_⟩⟩;have htok:∀y∈G.st,(y.2=aM L T (k+1) j\/dc L T k t c j y.2)->y∈(G.delS 0).st:=λy hy hz=>by
      rw[hs]at hy;rw[f2];rcases Gn.1 hy with hy|hy
      .exfalso;rw[hy,hxe]at hz;rcases hz with hz|hz
       .have:(2:Int)=3:=GM Msg.kind hz;omega
       have h7:(i:Int)=j:=(kD hz).1;omega
      exact GT _ hy
     rcases(hP.2 hjL).2 with⟨h7,y,hy,hz⟩|⟨h7,h8,h9,h10⟩
     .exact .inl ⟨h7,y,htok y hy (.inr hz),hz⟩
     refine .inr ⟨h7,h8,h9,?_⟩;rcases h10 with⟨mL',h11,h12⟩|⟨y,hy,hz⟩
     .exact .inl ⟨mL',by rw[f1,HC hiL];exact h11,h12⟩
     exact .inr ⟨y,htok y hy hz,hz⟩
    refine⟨λe=>Gr e hiL,λ_=>⟨f6,.inr ⟨f3,f4,f5,.inr ?_⟩⟩⟩;let⟨y,hy,e⟩:=c9 (k:=G.last) (show aM L T (k+1) i∈[aM L T (k+1) i]by simp);exact⟨y,by rw[f2];exact HH _ hy,.inl e⟩
   intro y hy;rw[f2]at hy;rcases GE.1 hy with hy|hy
   .exact h.st y (hst y hy)
   have:=qZ hy;simp at this;exact⟨i,hi,hiL,.inr this⟩
  rw[f2,hs,sv,ss];have h1:w2 (aM L T (k+1) i)=1:=rfl;have h2:w2 x.2=2:=by unfold w2;rw[ac Om]
  unfold yb;simp[Hf,Io];omega
 let⟨c2,_⟩:=h.ms L mL hmL;let⟨b1,b2,b3⟩:=c2 rfl;let⟨e1,e2⟩:=bE hs (by rw[hx];rfl) hmL;have hl:=b1.last;have hpi:=b3 i hi hiL;have hmt:k<=mL.x.mat i/\mL.x.mat i<=k+1:=by
  rcases hpi with h7|h7;.rw[(qI h7).1];omega
  rw[(qI h7).1];omega
 let⟨a1,a2,a3⟩:=b1.at;have hsp:∀j,j<n->j≠L->(mL.x.setPeer i (k+2,k+1)).peers[j]?=if j=i then some (k+2,k+1)else mL.x.peers[j]?:=λj hj hjL=>by
  unfold ND.setPeer;by_cases hji:j=i;.subst hji;rw[an rfl];exact Hz (by rw[b2.l];exact hj)
  rw[ac hji];exact HC (λe=>hji e.symm)
 have hmid2:(mL.x.setPeer i (k+2,k+1)).mid<=k+1:=by
  refine gi (x:=mL.x.setPeer i (k+2,k+1)) (by show mL.x.id<mL.x.n;rw[b1.id,b1.n];exact hLn) (by show mL.x.g.last<=k+1;omega) (λj hj hjn=>?_);have hj:j<n:=by rw[<-b1.n];exact hj
  have hjn:j≠L:=by rw[<-b1.id];exact hjn
  have h8:=hsp j hj hjn;split at h8;.rw[(qI h8).1];exact Gk _
  rcases b3 j hj hjn with h7|h7;.rw[h7]at h8;rw[(qI h8).1];dsimp only;omega
  rw[h7]at h8;rw[(qI h8).1];exact Gk _
 have hmidk:∀v,v=(mL.x.setPeer i (k+2,k+1)).mid->v>mL.x.commit->mL.x.tAt v=mL.x.g.term:=λv hv hgt=>by
  have hck:k<=mL.x.commit:=by
   have h9:=b2.mid;have h10:k<=mL.x.mid:=by
    have hm:=dQ (x:=mL.x) (by rw[b1.id,b1.n];exact hLn);unfold ND.reach at hm;rcases Gn.1 hm with hm|hm
    .omega
    let⟨j,hj,e⟩:=Gu.1 hm;let⟨hj1,hj2⟩:=others_mem.1 hj;rw[b1.n]at hj1;rw[b1.id]at hj2;rw[<-e];rcases b3 j hj1 hj2 with h7|h7
    .rw[(qI h7).1];exact Gk _
    rw[(qI h7).1];dsimp only;omega
   omega
  have:v=k+1:=by omega
  subst this;unfold ND.tAt;rw[b1.tl,b1.term];rfl
 let⟨cm,hcnt,hcm1,hcm2,hcm3⟩:=fh (x:=mL.x.setPeer i (k+2,k+1)) (λhgt=>hmidk _ rfl hgt);have hr:mL.x.receiveP x.2={mL.x.setPeer i (k+2,k+1)with commit:=cm}:=by
  rw[hx];unfold ND.receiveP;rw[ac (by rw[b1.id,b1.n];show¬(¬(L:Int)=L\/(i:Int)=L\/(i:Int)<0\/(i:Int)>=n);omega),ac (by show¬T>mL.x.g.term;have:=b1.term;omega)];unfold ND.kindP;rw[ac (by show¬(3:Int)=0;decide),ac (by show¬(3:Int)=1;decide),ac (by show¬((3:Int)=2\/(3:Int)=4);decide),an (show(aM L T (k+1) i).kind=3 from rfl)];unfold ND.heardP Ya;dsimp only;rw[ac (by show¬(¬mL.x.role=2\/¬T=mL.x.g.term);have:=b1.term;have:=b2.role;omega),ac (by show¬true=false;decide)];have e5:(aM L T (k+1) i).frm.toNat=i:=by show(i:Int).toNat=i;simp
  have e6:max (mL.x.mat i) (min (aM L T (k+1) i).index mL.x.g.last)=k+1:=by
   show max (mL.x.mat i) (min (k+1) mL.x.g.last)=k+1;omega
  rw[e5,e6,show k+1+1=k+2 by omega,hcnt,ac (by show¬k+2<=mL.x.g.last;omega)]
 have hrq:mL.recvS x.2=({mL with x:={mL.x.setPeer i (k+2,k+1)with commit:=cm}},[]):=by
  unfold MS.recvS;rw[hr];have hq:ND.q {mL.x.setPeer i (k+2,k+1)with commit:=cm}={mL.x.setPeer i (k+2,k+1)with commit:=cm}:=Zd b1.out;rw[hq];exact JL rfl b1.out
 rw[hrq]at e1 e2;have e2:(G.delS 0).st=l:=by rw[e2];simp[XD]
 have hcm4:mL.x.commit<=cm/\cm<=k+1:=by
  refine⟨hcm1,?_⟩;rcases hcm2 with h7|h7
  .rw[h7];exact a2
  omega
 let⟨g1,g2⟩:=b1.keep (y:={mL.x.setPeer i (k+2,k+1)with commit:=cm}) rfl hcm4 G.out;have hpe:(doneS L {mL with x:={mL.x.setPeer i (k+2,k+1)with commit:=cm}} G.out).1.x.peers=(mL.x.setPeer i (k+2,k+1)).peers:=by rw[g2]
 constructor
 .refine⟨by rw[e1,Hy];exact h.len,hLn,?_,λy hy=>by rw[e2]at hy;exact h.st y (hst y hy)⟩;have hLs:(G.delS 0).ms[L]?=some (doneS L {mL with x:={mL.x.setPeer i (k+2,k+1)with commit:=cm}} G.out).1:=by rw[e1];exact Hz (by rw[h.len];exact hLn)
  have hset:=qn (i:=L) (m':=(doneS L {mL with x:={mL.x.setPeer i (k+2,k+1)with commit:=cm}} G.out).1) (Q:=λj mj=>(j=L->BM n T (k+1) T (yy w c) j mj/\CL n L p mj/\∀j,j<n->j≠L->mj.x.peers[j]?=some (k+1,k)\/mj.x.peers[j]?=some (k+2,k+1))/\
    (j≠L->BF L b mj/\(BM n T k t w j mj/\(∃x∈(G.delS 0).st,dc L T k t c j x.2)\/BM n T (k+1) T (yy w c) j mj/\mj.x.g.termAt k=some t/\mj.x.g.base<=k/\((∃mL,(G.delS 0).ms[L]?=some mL/\mL.x.peers[j]?=some (k+2,k+1))\/(∃x∈(G.delS 0).st,x.2=aM L T (k+1) j\/dc L T k t c j x.2))))) h.ms (λj mj hj hP=>?_) ?_
  .rw[e1];rw[e1]at hset;exact hset
  .refine⟨λe=>Gr e hj,λhjL=>⟨(hP.2 hjL).1,?_⟩⟩;rcases(hP.2 hjL).2 with⟨h7,y,hy,hz⟩|⟨h7,h8,h9,h10⟩
   .refine .inl ⟨h7,y,?_,hz⟩;rw[hs]at hy;rw[e2];rcases Gn.1 hy with hy|hy
    .exfalso;rw[hy,hx]at hz;have:(3:Int)=2:=(kD hz).2;omega
    exact hy
   refine .inr ⟨h7,h8,h9,?_⟩;rcases h10 with⟨mL',h11,h12⟩|⟨y,hy,hz⟩
   .rw[hmL]at h11;have h11:=GU h11;subst h11;refine .inl ⟨_,hLs,?_⟩;rw[hpe];have hjn:j<n:=by
     have:=(Gj.1 h12).1;rw[b2.l]at this;exact this
    rw[hsp j hjn hjL];split;.rfl
    exact h12
   rw[hs]at hy;rcases Gn.1 hy with hy|hy
   .rw[hy,hx]at hz;have hji:j=i:=by
     rcases hz with hz|hz;.have:(i:Int)=j:=GM Msg.frm hz;omega
     have:(3:Int)=2:=(kD hz).2;omega
    subst hji;refine .inl ⟨_,hLs,?_⟩;rw[hpe,hsp j hi hjL,an rfl]
   exact .inr ⟨y,by rw[e2];exact hy,hz⟩
  refine⟨λ_=>⟨g1,⟨by rw[g2];exact b2.role,by rw[g2];exact b2.leader,by rw[g2];exact b2.pat,by rw[g2];exact hcm3,by rw[hpe];unfold ND.setPeer;rw[Hy];exact b2.l⟩,λj hj hjL=>?_⟩,λe=>Gr rfl e⟩;rw[hpe,hsp j hj hjL];split;.exact .inr rfl
  exact b3 j hj hjL
 rw[e2,hs];have h2:w2 x.2=1:=by rw[hx];rfl
 unfold yb;simp[Hf,Io];omega
def oY{x:ND}(hid:x.id<x.n)(h1:k<=x.g.last)(h2:∀j,j<x.n->j≠x.id->k<=x.mat j):k<=x.mid:=by
 have hm:=dQ hid;unfold ND.reach at hm;rcases Gn.1 hm with hm|hm
 .omega
 let⟨j,hj,e⟩:=Gu.1 hm;let⟨a,b⟩:=others_mem.1 hj;rw[<-e];exact h2 j a b
def PS.mem{p:Int}{y:Prop}(h:PS n L T k t w p b y G)(hi:i<n):∃m,G.ms[i]?=some m:=⟨_,b7 (by rw[h.len];exact hi)⟩
def PS.prop{p:Int}{y:Prop}(h:PS n L T k t w p b y G)(c:Bs):(G.propS L c).1.1=k+1/\CQ n L T k t w c p b 0 (G.propS L c).2:=by
 have hLn:=h.lt;let⟨m,hm⟩:=h.mem hLn;let⟨c1,c2,_⟩:=h.ms L m hm;have c2:=c2 rfl;let⟨a1,a2,a3⟩:=c1.at;have hl:=c1.last;have hb:=c1.base;let⟨e1,e2⟩:=j6 (g:=m.x.g) (T,c) hb;rw[hl]at e1 e2;have hz:({m.x with g:=m.x.g.play (.add m.x.g.last [(m.x.g.term,c)])}:ND)={m.x with g:=m.x.g.play (.add k [(T,c)])}:=by rw[hl,c1.term]
 have hmid:ND.mid {m.x with g:=m.x.g.play (.add k [(T,c)])}<=k+1:=by
  refine gi (x:={m.x with g:=m.x.g.play (.add k [(T,c)])}) (by show m.x.id<m.x.n;rw[c1.id,c1.n];exact hLn) (by show(m.x.g.play _).last<=_;rw[e2];exact Gk _) (λj hj hjn=>?_);have hj:j<n:=by rw[<-c1.n];exact hj
  have hjn:j≠L:=by rw[<-c1.id];exact hjn
  rw[(qI (x:={m.x with g:=m.x.g.play (.add k [(T,c)])}) (c2.peers j hj hjn)).1];dsimp only;omega
 have hll:m.x.g.last=m.x.g.base+m.x.g.all.length:=rfl;have hat:(m.x.g.play (.add k [(T,c)])).at (k+1)=some (T,c):=by
  rw[dg (by rw[e2];show m.x.g.base<k+1/\_;omega),e1];show(m.x.g.all++[(T,c)])[(k+1-m.x.g.base-1).toNat]?=_;rw[GY Om,show(k+1-m.x.g.base-1).toNat-m.x.g.all.length=0 by omega];rfl
 let⟨cm,hcnt,hcm1,hcm2,hcm3⟩:=fh (x:={m.x with g:=m.x.g.play (.add k [(T,c)])}) (λhgt=>by
  have hgt:ND.mid {m.x with g:=m.x.g.play (.add k [(T,c)])}>m.x.commit:=hgt;have:ND.mid {m.x with g:=m.x.g.play (.add k [(T,c)])}=k+1:=by have:=c2.com;omega
  rw[this];unfold ND.tAt LG.termAt;dsimp only;rw[ac (by show¬k+1=m.x.g.base;omega),hat];exact c1.term.symm)
 have hcm4:m.x.commit<=cm/\cm<=k+1:=by
  refine⟨hcm1,?_⟩;rcases hcm2 with h7|h7
  .have:cm=m.x.commit:=h7;omega
  omega
 obtain⟨Y,hY⟩:∃Y:ND,Y={m.x with g:=m.x.g.play (.add k [(T,c)]),commit:=cm}:=⟨_,rfl⟩;have hent:m.x.entryP c=Y.feedAll:=by
  unfold ND.entryP;rw[hz,hcnt,hY]
 have hYo:Y.out=[]:=by rw[hY];exact c1.out
 have hq:(m.x.entryP c).q=Y:=by
  rw[hent,Xe];exact Zd hYo
 let⟨g1,g2⟩:=c1.grow c (y:=Y) (by rw[hY]) (by rw[hY];exact hcm4) G.out;have hp:m.propS c=((k+1,T),({m with x:=Y},(Y.others.map Y.feedMsg).map Y.stamp)):=by
  unfold MS.propS;rw[an c2.role,hq,hent,ZS hYo,ZW,hY];refine JL (JL e2 c1.term) rfl
 have eg:G.propS L c=((k+1,T),G.doneS L {m with x:=Y} ((Y.others.map Y.feedMsg).map Y.stamp)):=by
  unfold GS.propS;rw[hm];dsimp only;rw[hp]
 rw[eg];refine⟨rfl,?_⟩;have hfy:∀i,i<n->i≠L->dc L T k t c i (Y.stamp (Y.feedMsg i)):=λi hi hiq=>by
  refine pJ (n:=n) (by rw[hY];exact c1.id) (by rw[hY];exact c1.term) (by rw[hY];exact a1) (by rw[hY];exact e2) ?_ (by rw[hY];exact hat) (by rw[hY];have:=c2.com;exact⟨by show k<=cm;omega,hcm4.2⟩) (by rw[hY];exact c2.peers i hi hiq);rw[hY];unfold ND.tAt LG.termAt;dsimp only;rw[show(m.x.g.play (.add k [(T,c)])).base=m.x.g.base from rfl,show(m.x.g.play (.add k [(T,c)])).baseT=m.x.g.baseT from rfl,gQ Om (Gk _)];have htl:=c1.tl;unfold LG.termAt at htl;rw[htl];rfl
 refine⟨by show(G.ms.set L _).length=n;rw[Hy];exact h.len,hLn,?_,λx hx=>?_,λi hi hiL=>?_,?_⟩
 .refine qn h.ms (λj mj hj hP=>⟨λe=>Gr e hj,λhjL=>⟨hP.1,by rw[an (He _)];exact(hP.2.2 hjL).1⟩⟩) ⟨λ_=>⟨g1,?_,?_,⟨?_,?_,?_⟩,?_⟩,λe=>Gr rfl e⟩;.rw[an (He _)];exact⟨by rw[g2,hY];exact c2.role,by rw[g2,hY];exact c2.leader,by rw[g2,hY];exact c2.pat,by rw[g2,hY];exact hcm3,by rw[g2,hY];exact c2.l⟩
  .rw[g2,hY];show k<=cm;have:=c2.com;omega
  .rw[g2,hY];exact a1
  .rw[g2,hY];unfold ND.tAt LG.termAt;dsimp only;rw[show(m.x.g.play (.add k [(T,c)])).base=m.x.g.base from rfl,show(m.x.g.play (.add k [(T,c)])).baseT=m.x.g.baseT from rfl,gQ Om (Gk _)];have htl:=c1.tl;unfold LG.termAt at htl;rw[htl];rfl
  .rw[g2,hY];exact hat
  rw[g2,hY];exact c2.peers
 .have hx:x∈G.st++XD G.last ((Y.others.map Y.feedMsg).map Y.stamp):=hx;rw[h.st,Hr]at hx;have:=qZ hx;let⟨m1,hm1,e⟩:=Gu.1 this;let⟨j,hj,e'⟩:=Gu.1 hm1;let⟨hj1,hj2⟩:=others_mem.1 hj;rw[hY]at hj1 hj2;have hj1:j<n:=by rw[<-c1.n];exact hj1
  have hj2:j≠L:=by rw[<-c1.id];exact hj2
  rw[<-e,<-e'];exact⟨j,hj1,hj2,hfy j hj1 hj2⟩
 .have hmem:Y.stamp (Y.feedMsg i)∈(Y.others.map Y.feedMsg).map Y.stamp:=Gu.2 ⟨_,Gu.2 ⟨i,others_mem.2 ⟨by rw[hY];show i<m.x.n;rw[c1.n];exact hi,by rw[hY];show i≠m.x.id;rw[c1.id];exact hiL⟩,rfl⟩,rfl⟩;let⟨x,hx,e⟩:=c9 (k:=G.last) hmem;refine⟨x,?_,by rw[e];exact hfy i hi hiL⟩;show x∈G.st++XD G.last ((Y.others.map Y.feedMsg).map Y.stamp);exact HH _ hx
 rw[an (He _)];show(G.st++XD G.last ((Y.others.map Y.feedMsg).map Y.stamp)).length<=n;rw[h.st,Hr,yu,H8,H8];have:=jx Y;have hYn:Y.n=n:=by rw[hY];exact c1.n
 rw[hYn]at this;exact this
def CQ.round{c:Bs}{p:Int}(h:CQ n L T k t w c p b 0 G)(hn:n<=9)(hp:0<=p/\p<=2)(hb:0<=b/\b<=8):PS n L T (k+1) T (yy w c) (if p+1>=3 then 0 else p+1) (b+1) False (G.roundS n):=by
 have h1:=h.ticks hp hb n (Gl n);have hLn:=h1.lt;let⟨s1,s2,s3⟩:=h1.st;rw[ac Om]at s3;have h2:CB n L T k t w c (if p+1>=3 then 0 else p+1) (b+1) (G.ticksS n):=by
  refine⟨h1.len,hLn,λi m hi=>?_,λx hx=>?_⟩
  .let⟨c1,c2⟩:=h1.ms i m hi;have hin:i<n:=by have:=(Gj.1 hi).1;rw[h1.len]at this;exact this
   refine⟨λe=>?_,λe=>?_⟩;.let⟨a,b1,_,_,d⟩:=c1 e;rw[ac Om]at b1;exact⟨a,b1,λj hj hjL=>.inl (d j hj hjL)⟩
   let⟨a,b1⟩:=c2 e;rw[ac Om]at b1;exact⟨b1,.inl ⟨a,s2 i hin e⟩⟩
  let⟨i,a1,a2,a3⟩:=s1 x hx;exact⟨i,a1,a2,.inl a3⟩
 have hmu:yb w2 (G.ticksS n).st<=200:=by
  have:∀l:List Yf,yb w2 l<=2*l.length:=λl=>by
   induction l with
   |nil=>exact Gl _
   |cons x l ih=>
    have h5:w2 x.2<=2:=by unfold w2;split<;>omega
    unfold yb at ih|-;simp[Hf,Io,GD];omega
  have:=this (G.ticksS n).st;omega
 let⟨h3,h4⟩:=pS (Inv:=CB n L T k t w c (if p+1>=3 then 0 else p+1) (b+1)) uZ (λG x l hG hs=>hG.del Om hs) h2 hmu;have h4':(G.roundS n).st=[]:=h4;have h3:CB n L T k t w c (if p+1>=3 then 0 else p+1) (b+1) (G.roundS n):=h3;obtain⟨mL,hmL⟩:∃m,(G.roundS n).ms[L]?=some m:=⟨_,b7 (by rw[h3.len];exact hLn)⟩;let⟨b1,b2,b3⟩:=(h3.ms L mL hmL).1 rfl;have hpe:∀j,j<n->j≠L->mL.x.peers[j]?=some (k+2,k+1):=λj hj hjL=>by
  obtain⟨m,hm⟩:∃m,(G.roundS n).ms[j]?=some m:=⟨_,b7 (by rw[h3.len];exact hj)⟩;rcases((h3.ms j m hm).2 hjL).2 with⟨_,y,hy,_⟩|⟨_,_,_,h10⟩
  .rw[h4']at hy;cases hy
  rcases h10 with⟨mL',h11,h12⟩|⟨y,hy,_⟩;.rw[hmL]at h11;have h11:=GU h11;subst h11;exact h12
  rw[h4']at hy;cases hy
 have hcom:mL.x.commit=k+1:=by
  have h5:=b2.mid;have h6:=b1.at.2.1
  have h7:k+1<=mL.x.mid:=oY (by rw[b1.id,b1.n];exact hLn) (by rw[b1.last];exact Gk _) (λj hj hjn=>by
   rw[(qI (hpe j (by rw[<-b1.n];exact hj) (by rw[<-b1.id];exact hjn))).1];exact Gk _)
  omega
 refine⟨h3.len,hLn,λi m hi=>?_,h4'⟩;by_cases e:i=L;.subst e;rw[hmL]at hi;have hi:=GU hi;subst hi;refine⟨b1,λ_=>⟨b2.role,b2.leader,b2.pat,hcom,b2.l,λj hj hjL=>?_⟩,λe=>Gr rfl e⟩;rw[hpe j hj hjL,show k+1+1=k+2 by omega]
 let⟨d1,d2⟩:=(h3.ms i m hi).2 e;refine⟨?_,λe'=>Gr e' e,λ_=>⟨d1,λh=>h.elim⟩⟩;rcases d2 with⟨_,y,hy,_⟩|⟨d3,_⟩
 .rw[h4']at hy;cases hy
 exact d3
def js(G:GS)(n j:Nat):G.roundsS n (j+1)=(G.roundsS n j).roundS n:=rfl
def yi(G:GS)(n:Nat):G.roundsS n 0=G:=rfl
def PS.rounds{n L:Nat}{T k t:Int}{w:List Bs}{p b:Int}{y:Prop}{G:GS}(h:PS n L T k t w p b y G)(hn:n<=9)(hp:0<=p/\p<=2)(hb:0<=b/\b<=5):∀j:Nat,∃p' b':Int,(0<=p'/\p'<=2)/\(if p+j>=3 then(b'=p'/\PS n L T k t w p' b' True (G.roundsS n j))else(p'=p+j/\b'=b+j/\PS n L T k t w p' b' y (G.roundsS n j)))
 |0=>⟨p,b,hp,by rw[ac (by simp;omega)];exact⟨Si,Si,h⟩⟩
 |j+1=>by
  let⟨p1,b1,hp1,h1⟩:=h.rounds hn hp hb j;rw[js];by_cases hj:p+(j:Int)>=3
  .rw[an hj]at h1;let⟨e1,h1⟩:=h1;have h2:=h1.round hn hp1 Om;by_cases hq:p1+1>=3;.rw[an hq]at h2;exact⟨0,0,Om,by rw[an Om];exact⟨rfl,h2⟩⟩
   rw[ac hq]at h2;exact⟨p1+1,b1+1,Om,by rw[an Om];exact⟨Om,h2⟩⟩
  rw[ac hj]at h1;let⟨e1,e2,h1⟩:=h1;have h2:=h1.round hn hp1 Om;by_cases hq:p1+1>=3;.rw[an hq]at h2;exact⟨0,0,Om,by rw[an Om];exact⟨rfl,h2⟩⟩
  rw[ac hq]at h2;exact⟨p1+1,b1+1,Om,by rw[ac Om];exact⟨Om,Om,h2⟩⟩
def St(n L:Nat)(T k t:Int)(w:List Bs)(G:GS):Prop:=∃p,(0<=p/\p<=2)/\PS n L T k t w p p True G
def PS.st3{p:Int}{y:Prop}(h:PS n L T k t w p b y G)(hn:n<=9)(hp:0<=p/\p<=2)(hb:0<=b/\b<=5)(hj:3<=j):St n L T k t w (G.roundsS n j):=by
 let⟨p',b',h1,h2⟩:=h.rounds hn hp hb j;rw[an Om]at h2;let⟨e,h2⟩:=h2;subst e;exact⟨_,h1,h2⟩
def XP(G:GS)(n:Nat):∀j,G.roundsS n (j+1)=(G.roundS n).roundsS n j
 |0=>by rw[js,yi,yi]
 |j+1=>by rw[js,XP G n j,<-js]
def St.cmd(h:St n L T k t w G)(hn:n<=9)(c:Bs)(hj:4<=j):(G.propS L c).1.1=k+1/\St n L T (k+1) T (yy w c) ((G.propS L c).2.roundsS n j):=by
 let⟨p,hp,h⟩:=h;let⟨h1,h2⟩:=h.prop c;have h3:=h2.round hn hp Om;refine⟨h1,?_⟩;obtain⟨i,rfl⟩:∃i,j=i+1:=⟨j-1,Om⟩;rw[XP];refine h3.st3 hn ?_ Om Om;split<;>omega
def St.leads{n L:Nat}{T k t:Int}{w:List Bs}{G:GS}(h:St n L T k t w G):G.leads n=((L:Int),true):=by
 let⟨p,hp,h⟩:=h;have hL:=h.lt;have h1:∀i,i<n->G.leader i=L/\G.term i=T:=λi hi=>by
  let⟨m,hm⟩:=h.mem hi;let⟨c1,c2,c3⟩:=h.ms i m hm;let⟨e1,e2,e3⟩:=GS.at_l hm;refine⟨?_,by rw[e2];exact c1.term⟩;rw[e1];by_cases e:i=L;.exact(c2 e).leader
  exact((c3 e).2 trivial).1
 have h2:G.alike n=true:=by
  unfold GS.alike;rw[Hm];intro i hi;have hi:i<n:=by simpa using hi
  have h0:=h1 0 Om;have hi:=h1 i hi;simp[h0.1,h0.2,hi.1,hi.2]
 let⟨m,hm⟩:=h.mem hL;have hr:=((h.ms L m hm).2.1 rfl).role;have h3:=(GS.at_l hm).2.2;have h0:=h1 0 Om;unfold GS.leads;rw[an h2,h0.1,h3,hr];simp
def St.l(h:St n L T k t w G):∀m∈G.ms,m.l=w/\m.ap=k:=λm hm=>by
 let⟨p,hp,h⟩:=h;let⟨i,hi⟩:=Ik.1 hm;let⟨c1,c2,c3⟩:=h.ms i m hi;have hc:m.x.commit=k:=by
  by_cases e:i=L;.exact(c2 e).com
  exact((c3 e).2 trivial).2
 have hA:=c1.A.t;have hl2:m.x.g.last=m.x.g.base+m.x.g.all.length:=rfl;have hl:=c1.last;rw[c1.ap,hc,Ix Om]at hA;exact⟨by simpa[Yh]using hA,by rw[c1.ap,hc]⟩
def GS.nd(H:GS)(i:Nat):ND:=((H.ms[i]?).map (·.x)).getD (ND.start 0 0 LG.new)
def GS.q(H:GS):List Msg:=H.st.map (·.2)
def qL{m:MS}(h:H.ms[i]?=some m):H.nd i=m.x:=by unfold GS.nd;rw[h];rfl
def kq:∀(l:List Msg) (k:Int),(XD k l).map (·.2)=l
 |[],_=>rfl
 |m::l,k=>by rw[XD,Hf,kq l]
def od{m':MS}(hi:i<H.ms.length)(h:H'.ms=H.ms.set i m')(j:Nat):H'.nd j=if j=i then m'.x else H.nd j:=by
 unfold GS.nd;rw[h];by_cases e:j=i;.rw[an e,e,Hz hi];rfl
 rw[ac e,HC (λh=>e h.symm)]
def dE(hi:i<H.ms.length):(∀j,(H.tickS i).nd j=if j=i then(H.nd i).tickP.q else H.nd j)/\(H.tickS i).q=H.q++(H.nd i).tickP.out/\(H.tickS i).ms.length=H.ms.length:=by
 have hm:H.ms[i]?=some H.ms[i]:=b7 hi;let⟨h1,h2⟩:=ew hm;refine⟨λj=>?_,?_,by rw[h1,Hy]⟩;.rw[od hi h1 j,bD,qL hm];rfl
 unfold GS.q;rw[h2,Ie,kq];have:=qL hm;rw[this];rfl
def pT{l:List Msg}(hq:H.q=m::l)(hto:m.to=i)(hi:i<H.ms.length):(∀j,(H.delS 0).nd j=if j=i then((H.nd i).receiveP m).q else H.nd j)/\(H.delS 0).q=l++((H.nd i).receiveP m).out/\(H.delS 0).ms.length=H.ms.length:=by
 have hm:H.ms[i]?=some H.ms[i]:=b7 hi;unfold GS.q at hq;cases hs:H.st with
 |nil=>rw[hs]at hq;cases hq
 |cons x r=>
  rw[hs]at hq;injection hq with e1 e2
  let⟨h1,h2⟩:=bE hs (by rw[<-hto,<-e1]) hm;refine⟨λj=>?_,?_,by rw[h1,Hy]⟩;.rw[od hi h1 j,bD,qL hm,<-e1];rfl
  unfold GS.q;have:=qL hm;rw[h2,Ie,kq,this,<-e1,<-e2];rfl
def EG{l:List Msg}(hq:H.q=m::l)(hto:¬(0<=m.to/\m.to<(H.ms.length:Int))):(∀j,(H.delS 0).nd j=H.nd j)/\(H.delS 0).q=l/\(H.delS 0).ms.length=H.ms.length:=by
 unfold GS.q at hq;cases hs:H.st with
 |nil=>rw[hs]at hq;cases hq
 |cons x r=>
  rw[hs]at hq;injection hq with e1 e2
  have e:H.delS 0=H.take 0:=by
   unfold GS.delS;rw[hs,pr,Bi,an rfl];split;.rename_i h;have e3:x.2=m:=e1;have:H.ms[x.2.to.toNat]?=none:=Ho (by rw[e3]at h|-;omega);rw[this]
   rfl
  rw[e];refine⟨λj=>rfl,?_,rfl⟩;show(YO H.st 0).map _=l;rw[hs,Be,e2]
def co{l:List Msg}(hq:H.q=m::l):H.del1S=H.delS 0:=by
 unfold GS.del1S;have:H.st.length=(m::l).length:=by rw[<-hq];unfold GS.q;simp
 rw[an (by rw[this];simp)]
def yw(hq:H.q=[]):H.del1S=H:=by
 unfold GS.del1S;have:H.st.length=0:=by have:=GM List.length hq;unfold GS.q at this;simpa using this
 rw[ac Om]
def GB(n c d:Nat)(G:GS):Prop:=∃a t I,a+c<=90000/\t+d<=5700/\GI n a t I G
def GB.gj(h:GB n c d G):GJ n c d G:=by
 let⟨a,t,I,h1,h2,h3⟩:=h;exact⟨a,t,I,h1,Om,h3⟩
def GB.leq{c' d':Nat}(h:GB n c' d' G)(hc:c<=c')(hd:d<=d'):GB n c d G:=by
 let⟨a,t,I,h1,h2,h3⟩:=h;exact⟨a,t,I,Om,Om,h3⟩
def GB.tick{n c d i:Nat}{G:GS}(h:GB n (c+1) (d+1) G)(hi:i<n):GB n c d (G.tick i):=by
 let⟨a,t,I,h1,h2,h3⟩:=h;let⟨I',h4⟩:=h3.tick hi Om Om;exact⟨a+1,t+1,I',Om,Om,h4⟩
def GB.del(h:GB n (c+1) d G)(k:Int):GB n c d (G.deliver k):=by
 let⟨a,t,I,h1,h2,h3⟩:=h;let⟨I',h4⟩:=h3.deliver k Om Om;exact⟨a+1,t,I',Om,Om,h4⟩
def GB.prop{n c d i:Nat}{G:GS}(h:GB n (c+1) (d+10) G)(hi:i<n){cmd:Bs}(hc:cmd.length<=100):GB n c d (G.propose i cmd).2:=by
 let⟨a,t,I,h1,h2,h3⟩:=h;let⟨I',h4⟩:=h3.prop hi hc Om Om;exact⟨a+1,t+10,I',Om,Om,h4⟩
def LW(n c d:Nat)(H:GS):Prop:=∃G Γ,(GB n c d G/\Hl G)/\SafeI n Γ G/\H=G.er
def LW.tick{n c d i:Nat}{H:GS}(h:LW n (c+1) (d+1) H)(hi:i<n):LW n c d (H.tickS i):=by
 obtain⟨G,Γ,h1,h2,rfl⟩:=h;obtain⟨a,b⟩:=SJ11.tick ⟨h1.1.gj,h1.2⟩ hi;obtain⟨Δ,_,h3⟩:=aS h2 h1.1.gj i;exact⟨G.tick i,Δ,⟨h1.1.tick hi,a.2⟩,h3,b.symm⟩
def LW.del{n c d:Nat}{H:GS}(h:LW n (c+1) d H):LW n c d (H.delS 0):=by
 obtain⟨G,Γ,h1,h2,rfl⟩:=h;obtain⟨a,b⟩:=SJ11.del (k:=0) ⟨h1.1.gj,h1.2⟩;obtain⟨Δ,_,h3⟩:=av h2 h1.1.gj 0;exact⟨G.deliver 0,Δ,⟨h1.1.del 0,a.2⟩,h3,b.symm⟩
def LW.leq{n c c' d d':Nat}{H:GS}(h:LW n c' d' H)(hc:c<=c')(hd:d<=d'):LW n c d H:=by
 let⟨G,Γ,h1,h2,e⟩:=h;exact⟨G,Γ,⟨h1.1.leq hc hd,h1.2⟩,h2,e⟩
def LW.del1(h:LW n (c+1) d H):LW n c d H.del1S:=by
 unfold GS.del1S;split;.exact h.del
 exact h.leq Om (Gl _)
def LW.len{n c d:Nat}{H:GS}(h:LW n c d H):H.ms.length=n/\1<=n/\n<=9:=by
 obtain⟨G,Γ,⟨⟨a,t,I,_,_,g⟩,_⟩,_,rfl⟩:=h;have:=g.len;exact⟨by show(G.ms.map _).length=n;rw[H8];exact this.1,this.2⟩
structure NdB (n:Nat) (T I:Int) (Γ:GH) (i:Nat) (x:ND) (F:List Qy):Prop where
 ni:NodeI n Γ i x F
 ub:UB T I x
 id:x.id=i
 n:x.n=n
 out:x.out=[]
structure LvB (n:Nat) (T I:Int) (Γ:GH) (H:GS):Prop where
 hi:GHI n Γ
 nd:∀i,i<n->∃F,NdB n T I Γ i (H.nd i) F
 msg:∀m∈H.q,MsgI n Γ m/\MB T I m
def gU(hj:GB n c d G)(hl:Hl G)(hs:SafeI n Γ G):∃T I:Int,10*I+d<=5700/\LvB n T I Γ G.er:=by
 obtain⟨a,t,I,ha,ht,g⟩:=hj;have hI:=g.I;refine⟨a,I,Om,hs.hi,λi hi=>?_,λm hm=>?_⟩
 .obtain⟨m,hm⟩:=g.mem hi;have mi:=g.ms i m hm;have u:=mi.up (hl m (Gv hm));obtain⟨F,hF,_⟩:=(hs.ms i m hm).up (by rw[u.dn];decide);have e:G.er.nd i=m.x:=by rw[qL (e9 hm)];rfl
  exact⟨F,by rw[e];exact⟨hF,u.ub,u.id,u.n,mi.out⟩⟩
 obtain⟨x,hx,rfl⟩:=Gu.1 (show m∈G.st.map (·.2)from hm);exact⟨hs.msg x hx,g.msg x hx⟩
def LW.lv(h:LW n c d H):∃(T I:Int) (Γ:GH),10*I+d<=5700/\LvB n T I Γ H:=by
 obtain⟨G,Γ,⟨hj,hl⟩,hs,rfl⟩:=h;obtain⟨T,I,h1,h2⟩:=gU hj hl hs;exact⟨T,I,Γ,h1,h2⟩
def u7{x:ND}(hr:¬x.role=2)(hp:x.patience+1<YA x.id x.g.term):x.tickP={x with patience:=x.patience+1}:=by
 unfold ND.tickP;rw[ac hr,ac Om]
def u9{x:ND}(hr:x.role=2)(hp:x.patience+1<3):x.tickP={x with patience:=x.patience+1}:=by
 unfold ND.tickP;rw[an hr,ac Om]
def vd{x:ND}(ho:x.out=[])(hr:x.role=2)(hp:¬x.patience+1<3):x.tickP.q={x with patience:=0}/\x.tickP.out=x.others.map λj=>x.stamp (x.feedMsg j):=by
 unfold ND.tickP;rw[an hr,an Om];refine⟨?_,?_⟩;.rw[Xe];exact Zd (x:={x with patience:=0}) ho
 rw[ZS (x:={x with patience:=0}) ho,JX];rfl
def ND.stood(x:ND):ND:=ND.stands {x with patience:=x.patience+1,g:={x.g with term:=x.g.term+1,vote:=x.id}}
def tN{x:ND}(ho:x.out=[])(hn:¬x.n=1)(hr:¬x.role=2)(hp:¬x.patience+1<YA x.id x.g.term):x.tickP.q=x.stood/\x.tickP.out=x.others.map λj=>x.stood.stamp (x.stood.askMsg j):=by
 have e:x.tickP=x.stood.askAll:=by
  unfold ND.tickP;rw[ac hr,an Om];unfold ND.standP;rw[ac hn];rfl
 rw[e];refine⟨?_,?_⟩;.unfold ND.askAll;rw[yM];exact Zd (x:=x.stood) ho
 rw[aV (x:=x.stood) ho,JX];rfl
def nS{x:ND}(hn:x.n=1)(hr:¬x.role=2)(hp:¬x.patience+1<YA x.id x.g.term):x.tickP=x.stood.winP:=by
 unfold ND.tickP;rw[ac hr,an Om];unfold ND.standP;rw[an hn];rfl
structure Won (x y:ND) (out:List Msg):Prop where
 role:y.role=2
 leader:y.leader=x.id
 pat:y.patience=0
 g:y.g=x.g.play (.add x.g.last [(x.g.term,[])])
 peers:y.peers=List.replicate x.n (x.g.last+1,0)
 out:out=y.others.map λj=>y.stamp (y.feedMsg j)
 id:y.id=x.id/\y.n=x.n/\y.out=[]
def FU{x:ND}(ho:x.out=[]):Won x x.winP.q x.winP.out:=by
 let⟨c,hc⟩:=cq {x.wins with g:=x.wins.g.play (.add x.wins.g.last [(x.wins.g.term,[])])};have e:x.winP=ND.feedAll {x.wins with g:=x.wins.g.play (.add x.wins.g.last [(x.wins.g.term,[])]),commit:=c}:=by
  unfold ND.winP ND.entryP;rw[hc]
 obtain⟨y,hy⟩:∃y:ND,y={x.wins with g:=x.wins.g.play (.add x.wins.g.last [(x.wins.g.term,[])]),commit:=c}:=⟨_,rfl⟩;have hyo:y.out=[]:=by rw[hy];exact ho
 rw[e,<-hy];have e2:y.feedAll.q=y:=by rw[Xe];exact Zd (x:=y) hyo
 rw[e2,ZS hyo,JX];subst hy;exact⟨rfl,rfl,rfl,rfl,rfl,rfl,rfl,rfl,ho⟩
def ND.up(x:ND)(t:Int):ND:=if t>x.g.term then ND.newTerm {x with g:={x.g with term:=t,vote:= -1}}else x
structure Up (x y:ND) (t:Int):Prop where
 term:y.g.term=max x.g.term t
 same:t<=x.g.term->y=x
 role:x.g.term<t->y.role=0/\y.leader= -1/\y.g.vote= -1
 rest:y.patience=x.patience/\y.commit=x.commit/\y.id=x.id/\y.n=x.n/\y.out=x.out/\y.peers=x.peers/\y.votes=x.votes
 g:y.g.base=x.g.base/\y.g.baseT=x.g.baseT/\y.g.all=x.g.all/\y.g.state=x.g.state
def yN(x:ND)(t:Int):Up x (x.up t) t:=by
 unfold ND.up;split;.rename_i h;exact⟨by show t=_;omega,λh'=>Om,λ_=>⟨rfl,rfl,rfl⟩,⟨rfl,rfl,rfl,rfl,rfl,rfl,rfl⟩,rfl,rfl,rfl,rfl⟩
 rename_i h;exact⟨Om,λ_=>rfl,λh'=>Om,⟨rfl,rfl,rfl,rfl,rfl,rfl,rfl⟩,rfl,rfl,rfl,rfl⟩
def sf{x:ND}(h:m.to=x.id/\¬m.frm=x.id/\0<=m.frm/\m.frm<(x.n:Int)):x.receiveP m=(x.up m.term).kindP m:=by
 unfold ND.receiveP ND.up;rw[ac Om];split<;>rfl
def oE{x:ND}(ho:x.out=[])(h:¬(m.to=x.id/\¬m.frm=x.id/\0<=m.frm/\m.frm<(x.n:Int))):(x.receiveP m).q=x/\(x.receiveP m).out=[]:=by
 unfold ND.receiveP;rw[an Om];exact⟨Zd ho,ho⟩
def z7{x:ND}(ho:x.out=[])(h:m.kind=0):(x.kindP m).q=(if x.grants m=true then{x with g:={x.g with vote:=m.frm},patience:=0}else x)/\(x.kindP m).out=[x.stamp (ND.voteMsg m (x.grants m))]:=by
 unfold ND.kindP ND.askedP;rw[an h];split;.rename_i h1;rw[h1];exact⟨Zd (x:={x with g:={x.g with vote:=m.frm},patience:=0}) ho,yW (y:={x with g:={x.g with vote:=m.frm},patience:=0}) ho _⟩
 rename_i h1;rw[show x.grants m=false by simpa using h1];exact⟨Zd ho,yW ho _⟩
def wz{x:ND}(ho:x.out=[])(h:m.kind=1):
  (¬(x.role=1/\m.term=x.g.term/\m.ok=true)/\(x.kindP m).q=x/\(x.kindP m).out=[])\/
  (x.role=1/\m.term=x.g.term/\m.ok=true/\((2*((QS x.votes m.frm).length:Int)>x.n/\Won x (x.kindP m).q (x.kindP m).out)\/(¬2*((QS x.votes m.frm).length:Int)>x.n/\(x.kindP m).q={x with votes:=QS x.votes m.frm}/\(x.kindP m).out=[]))):=by
 unfold ND.kindP ND.votedP;rw[ac Om,an h];split;.rename_i h1;exact .inl ⟨λ⟨a,b,c⟩=>by rcases h1 with h1|h1|h1<;>simp_all,Zd ho,ho⟩
 rename_i h1;have h2:x.role=1/\m.term=x.g.term/\m.ok=true:=by simpa[LC]using h1
 refine .inr ⟨h2.1,h2.2.1,h2.2.2,?_⟩;split;.rename_i h3;have w:=FU (x:={x with votes:=QS x.votes m.frm}) ho;exact .inl ⟨h3,w.role,w.leader,w.pat,w.g,w.peers,w.out,w.id⟩
 rename_i h3;exact .inr ⟨h3,Zd (x:={x with votes:=QS x.votes m.frm}) ho,ho⟩
structure Ans (x y:ND) (m:Msg):Prop where
 c:y.role=x.role/\y.leader=x.leader/\y.patience=x.patience/\y.g.term=x.g.term/\y.g.vote=x.g.vote/\y.id=x.id/\y.n=x.n
 out:y.out=x.out\/∃ok i,y.out=x.out++[x.stamp {Msg.zero with kind:=3,to:=m.frm,ok:=ok,index:=i}]
def AD(x:ND)(m:Msg)(ok:Bool)(i:Int):Ans x (x.answer m ok i) m:=⟨⟨rfl,rfl,rfl,rfl,rfl,rfl,rfl⟩,.inr ⟨ok,i,rfl⟩⟩
def De(x:ND)(m:Msg):Ans x (x.addP m) m:=by
 unfold ND.addP;split;.exact AD x m _ _
 split;.exact AD x m _ _
 unfold ND.restP;split;.exact⟨⟨rfl,rfl,rfl,rfl,rfl,rfl,rfl⟩,.inr ⟨_,_,rfl⟩⟩
 split;.exact⟨⟨rfl,rfl,rfl,rfl,rfl,rfl,rfl⟩,.inl rfl⟩
 exact⟨⟨rfl,rfl,rfl,rfl,rfl,rfl,rfl⟩,.inr ⟨_,_,rfl⟩⟩
def sH(g:LG)(i t:Int)(s:Bs):(g.inst i t s).term=g.term/\(g.inst i t s).vote=g.vote:=by
 unfold LG.inst;split;.exact⟨rfl,rfl⟩
 exact⟨rfl,rfl⟩
def xx(x:ND)(m:Msg):Ans x (x.snapP m) m:=by
 unfold ND.snapP;split
 .let⟨h1,h2⟩:=sH x.g m.index m.logTerm m.state
  exact⟨⟨rfl,rfl,rfl,h1,h2,rfl,rfl⟩,.inr ⟨true,m.index,by
   show x.out++[_]=_;congr 2;show({{Msg.zero with kind:=3,to:=m.frm,ok:=true,index:=m.index}with frm:=x.id,term:=(x.g.inst m.index m.logTerm m.state).term}:Msg)=_;rw[h1];rfl⟩⟩
 exact AD x m _ _
structure Fed (x y:ND) (m:Msg) (out:List Msg):Prop where
 c:y.role=0/\y.leader=m.frm/\y.patience=0/\y.g.term=x.g.term/\y.g.vote=x.g.vote
 out:out=[]\/∃a:Msg,out=[a]/\a.kind=3/\a.to=m.frm/\a.frm=x.id/\a.term=x.g.term
def z6{x:ND}(ho:x.out=[])(h:m.kind=2\/m.kind=4):
  (m.term<x.g.term/\(x.kindP m).q=x/\(x.kindP m).out=[x.stamp {Msg.zero with kind:=3,to:=m.frm,ok:=false,index:=0}])\/
  (¬m.term<x.g.term/\x.role=2/\(x.kindP m).q=x/\(x.kindP m).out=[])\/
  (¬m.term<x.g.term/\¬x.role=2/\x.kindP m=(if m.kind=2 then(x.follows m).addP m else(x.follows m).snapP m)/\Fed x (x.kindP m).q m (x.kindP m).out):=by
 have e:x.kindP m=x.fedP m:=by unfold ND.kindP;rw[ac Om,ac Om,an h]
 rw[e];by_cases h1:m.term<x.g.term
 .have:x.fedP m=x.answer m false 0:=by unfold ND.fedP;rw[an h1]
  rw[this];exact .inl ⟨h1,Zd ho,yx ho _ _ _⟩
 by_cases h2:x.role=2
 .have:x.fedP m=x:=by unfold ND.fedP;rw[ac h1,an h2]
  rw[this];exact .inr (.inl ⟨h1,h2,Zd ho,ho⟩)
 have e2:x.fedP m=(if m.kind=2 then(x.follows m).addP m else(x.follows m).snapP m):=by unfold ND.fedP;rw[ac h1,ac h2]
 refine .inr (.inr ⟨h1,h2,e2,?_⟩);have ha:Ans (x.follows m) (x.fedP m) m:=by
  rw[e2];split;.exact De _ _
  exact xx _ _
 let⟨⟨a1,a2,a3,a4,a5,a6,a7⟩,ha⟩:=ha;refine⟨⟨a1,a2,a3,a4,a5⟩,?_⟩;have ho2:(x.follows m).out=[]:=ho;rw[ho2]at ha;rcases ha with ha|⟨ok,i,ha⟩
 .exact .inl ha
 exact .inr ⟨_,ha,rfl,rfl,rfl,rfl⟩
structure Hrd (x y:ND) (m:Msg) (out:List Msg):Prop where
 c:y.role=2/\y.leader=x.leader/\y.patience=x.patience/\y.g=x.g
 out:out=[]\/out=[y.stamp (y.feedMsg m.frm.toNat)]
def uw{x:ND}(ho:x.out=[])(h:m.kind=3):
  (¬(x.role=2/\m.term=x.g.term)/\(x.kindP m).q=x/\(x.kindP m).out=[])\/(x.role=2/\m.term=x.g.term/\Hrd x (x.kindP m).q m (x.kindP m).out):=by
 have e:x.kindP m=x.heardP m:=by unfold ND.kindP;rw[ac Om,ac Om,ac Om,an h]
 rw[e];by_cases h1:x.role=2/\m.term=x.g.term
 .refine .inr ⟨h1.1,h1.2,?_⟩;unfold ND.heardP Ya;rw[ac (by simp[h1])];dsimp only;split;.refine⟨⟨h1.1,rfl,rfl,rfl⟩,.inr ?_⟩;rw[eZ (y:=ND.setPeer x _ _) ho];rfl
  obtain⟨y,hy⟩:∃y,y=ND.count (x.setPeer m.frm.toNat (max (x.mat m.frm.toNat) (min m.index x.g.last)+1,max (x.mat m.frm.toNat) (min m.index x.g.last))):=⟨_,rfl⟩;rw[<-hy];let⟨c,hc⟩:=cq (x.setPeer m.frm.toNat (max (x.mat m.frm.toNat) (min m.index x.g.last)+1,max (x.mat m.frm.toNat) (min m.index x.g.last)));rw[hc]at hy;have hyo:y.out=[]:=by rw[hy];exact ho
  have hyc:y.role=2/\y.leader=x.leader/\y.patience=x.patience/\y.g=x.g:=by rw[hy];exact⟨h1.1,rfl,rfl,rfl⟩
  split;.refine⟨⟨hyc.1,hyc.2.1,hyc.2.2.1,hyc.2.2.2⟩,.inr ?_⟩;show(y.feed _).out=_;rw[eZ hyo];have:(y.feed m.frm.toNat).q=y:=Zd (x:=y) hyo;show _=[(y.feed m.frm.toNat).q.stamp ((y.feed m.frm.toNat).q.feedMsg m.frm.toNat)];rw[this]
  exact⟨⟨hyc.1,hyc.2.1,hyc.2.2.1,hyc.2.2.2⟩,.inl hyo⟩
 refine .inl ⟨h1,?_⟩;unfold ND.heardP Ya;rw[an (by rcases Classical.em (x.role=2)with h2|h2<;>simp_all)];exact⟨Zd ho,ho⟩
def uv{x:ND}(ho:x.out=[])(h0:¬m.kind=0)(h1:¬m.kind=1)(h2:¬(m.kind=2\/m.kind=4))(h3:¬m.kind=3):(x.kindP m).q=x/\(x.kindP m).out=[]:=by
 unfold ND.kindP;rw[ac h0,ac h1,ac h2,ac h3];exact⟨Zd ho,ho⟩
def zg(m:Msg):Int:=if m.kind=4 then m.index else m.index+m.es.length
def oK{A B:List Qy}(h:A<+:B){q:Nat}(he:A[q]?=some e):B[q]?=some e:=by
 obtain⟨r,rfl⟩:=h;rw[GG (Gj.1 he).1];exact he
def mW(hG:GHI n Γ){x:ND}(hx:NodeI n Γ i x F)(ub:UB T I x)(hm:MsgI n Γ m)(hk:m.kind=2\/m.kind=4)(ht:x.g.term<=m.term){z:ND}(hz:z.g.base=x.g.base/\z.g.baseT=x.g.baseT/\z.g.all=x.g.all/\z.commit=x.commit)(ho:z.out=[]):
  ∃ok k,(if m.kind=2 then z.addP m else z.snapP m).out=[z.stamp {Msg.zero with kind:=3,to:=m.frm,ok:=ok,index:=k}]/\(ok=true->zg m<=k)/\((m.kind=4\/∃c:Nat,m.index<=c/\Γ.pre F m.term c)->ok=true):=by
 let⟨z1,z2,z3,z4⟩:=hz;have hag:AG z.g F:=⟨by rw[z1];exact hx.lo.ag.b0,by rw[z1];exact hx.lo.ag.b,by rw[z1,z3];exact hx.lo.ag.all,by rw[z1,z2];exact hx.lo.ag.bt⟩;have hb0:=hag.b0;have hbl:=hag.b;have hcm:=ub.inn.commit;have hla:=hag.last;have hlz:z.g.last=x.g.last:=by unfold LG.last;rw[z1,z3]
 rcases hk with hk|hk
 .rw[an hk];have hcl:zg m=m.index+m.es.length:=by unfold zg;rw[ac Om]
  let⟨⟨y0,hy0⟩,k,c,hi1,hi2,hi3,hi4,hi5,hi6,hi7⟩:=hm.app hk;unfold ND.addP;by_cases h1:m.index<z.g.base/\(m.es.length:Int)<z.g.base-m.index;.rw[an h1];exact⟨true,z.g.base,yx ho _ _ _,λ_=>by omega,λ_=>rfl⟩
  rw[ac h1];by_cases h2:¬m.index<z.g.base/\¬z.g.termAt m.index=some m.logTerm
  .rw[an h2];refine⟨false,_,yx ho _ _ _,(λh=>by cases h),λh=>?_⟩;exfalso;rcases h with h|⟨q,hq,hp1,hp2⟩
   .omega
   apply h2.2;have:=hag.termAt (j:=k) Om;rw[hi1,this,hi3];exact GM some (jb (k:=q) hp2 Om)
  rw[ac h2];have hce:=s8 h1;unfold ND.restP;cases hfi:ND.fits z.g (z.cutM m).2 ((z.cutM m).1+1)with
  |none=>
   dsimp only;exact⟨true,_,yx (y:=z.commits m _) ho _ _ _,λ_=>by omega,λ_=>rfl⟩
  |some p=>
   let⟨j,l2⟩:=p;dsimp only;by_cases h5:j<=z.commit
   .exfalso;let⟨d,hd1,hd2,hd3,hd4,hd5⟩:=cn hfi;have he:=b7 (l:=(z.cutM m).2) (i:=d) hd3;generalize (z.cutM m).2[d]=e at he;have hlg:z.g.base<=(z.cutM m).1/\(Γ.lg m.term)[(z.cutM m).1.toNat+d]?=some e:=by
     unfold ND.cutM at he|-;by_cases h3:m.index<z.g.base;.rw[an h3]at he|-;dsimp only at he|-;rw[HF]at he;have:=oK hi4 he;rw[HF]at this;exact⟨Gk _,by rw[<-this];congr 1;omega⟩
     rw[ac h3]at he|-;dsimp only at he|-;have:=oK hi4 he;rw[HF]at this;exact⟨by omega,by rw[<-this];congr 1;omega⟩
    have hpr:=eR hG hy0 ht hx.cm;have hjn:j=(((z.cutM m).1.toNat+d+1:Nat):Int):=by omega
    apply hd5 e he;rw[hjn,hag.at Om,show(z.cutM m).1.toNat+d+1-1=(z.cutM m).1.toNat+d by omega];have hlt:(z.cutM m).1.toNat+d<F.length:=by omega
    have h6:(F.take x.commit.toNat)[(z.cutM m).1.toNat+d]?=some F[(z.cutM m).1.toNat+d]:=by
     rw[I3 Om];exact b7 hlt
    have h7:=oK hpr h6;rw[hlg.2]at h7;rw[b7 hlt,<-GU h7];rfl
   rw[ac h5];exact⟨true,_,yx (y:=ND.commits {z with g:=z.g.play (.add (j-1) l2)} m _) ho _ _ _,λ_=>by omega,λ_=>rfl⟩
 rw[ac Om];have hcl:zg m=m.index:=by unfold zg;rw[an hk]
 unfold ND.snapP;split;.refine⟨true,m.index,?_,λ_=>by omega,λ_=>rfl⟩;have hit:=(sH z.g m.index m.logTerm m.state).1;rw[yx (y:={z with g:=z.g.inst m.index m.logTerm m.state,commit:=m.index}) ho];unfold ND.stamp;dsimp only;rw[hit]
 exact⟨true,_,yx ho _ _ _,λ_=>by omega,λ_=>rfl⟩
def qS{x:ND}{p:Int×Int}(hj:j<x.peers.length)(i:Nat):(x.setPeer j p).nxt i=(if i=j then p.1 else x.nxt i)/\(x.setPeer j p).mat i=(if i=j then p.2 else x.mat i):=by
 unfold ND.nxt ND.mat ND.setPeer;dsimp only;rw[Gt,Gt];by_cases e:i=j;.rw[an e,an e,e,Hz hj];exact⟨rfl,rfl⟩
 rw[ac e,ac e,HC (λh=>e h.symm)];exact⟨rfl,rfl⟩
def cv(x:ND)(i:Nat):x.count.nxt i=x.nxt i/\x.count.mat i=x.mat i:=by
 have h:=(YU x).2.2.2.1;unfold ND.nxt ND.mat;rw[h];exact⟨rfl,rfl⟩
def jh(x:ND)(m:Msg):Int×Int:=(max (min (x.nxt m.frm.toNat-1) (m.index+1)) (x.mat m.frm.toNat+1),x.mat m.frm.toNat)
def Xm(x:ND)(m:Msg):Int:=max (x.mat m.frm.toNat) (min m.index x.g.last)
def po{x:ND}(ho:x.out=[])(hr:x.role=2)(ht:m.term=x.g.term)(hok:m.ok=false):(x.heardP m).q=x.setPeer m.frm.toNat (jh x m)/\(x.heardP m).out=[(x.setPeer m.frm.toNat (jh x m)).stamp ((x.setPeer m.frm.toNat (jh x m)).feedMsg m.frm.toNat)]:=by
 unfold ND.heardP Ya;rw[ac (by simp[hr,ht])];dsimp only;rw[an hok];exact⟨Zd (x:=x.setPeer m.frm.toNat (jh x m)) ho,eZ (y:=x.setPeer m.frm.toNat (jh x m)) ho _⟩
def mN{x:ND}(ho:x.out=[])(hr:x.role=2)(ht:m.term=x.g.term)(hok:m.ok=true):(x.heardP m).q=(x.setPeer m.frm.toNat (Xm x m+1,Xm x m)).count/\(x.heardP m).out=if Xm x m+1<=x.g.last then[(x.setPeer m.frm.toNat (Xm x m+1,Xm x m)).count.stamp ((x.setPeer m.frm.toNat (Xm x m+1,Xm x m)).count.feedMsg m.frm.toNat)]else[]:=by
 have hgl:(x.setPeer m.frm.toNat (Xm x m+1,Xm x m)).count.g=x.g:=(YU _).2.1;have hco:(x.setPeer m.frm.toNat (Xm x m+1,Xm x m)).count.out=[]:=by rw[(YU _).1];exact ho
 unfold ND.heardP Ya;rw[ac (by simp[hr,ht])];dsimp only;rw[ac (by simp[hok])];show ND.q (if Xm x m+1<=(x.setPeer m.frm.toNat (Xm x m+1,Xm x m)).count.g.last then(true,((x.setPeer m.frm.toNat (Xm x m+1,Xm x m)).count.feed m.frm.toNat,DK.new))else(true,((x.setPeer m.frm.toNat (Xm x m+1,Xm x m)).count,DK.new))).2.1=_/\ND.out (if Xm x m+1<=(x.setPeer m.frm.toNat (Xm x m+1,Xm x m)).count.g.last then(true,((x.setPeer m.frm.toNat (Xm x m+1,Xm x m)).count.feed m.frm.toNat,DK.new))else(true,((x.setPeer m.frm.toNat (Xm x m+1,Xm x m)).count,DK.new))).2.1=_;rw[hgl];split;.exact⟨Zd hco,eZ hco _⟩
 exact⟨Zd hco,hco⟩
def Xv(m:Msg):Prop:=m.kind=2\/m.kind=4
inductive Ef (x:ND) (m:Msg) (y:ND) (out:List Msg):Prop
 |ask (hk:m.kind=0) (hy:y=if x.grants m=true then{x with g:={x.g with vote:=m.frm},patience:=0}else x) (ho:out=[x.stamp (ND.voteMsg m (x.grants m))])
 |win (hk:m.kind=1) (hr:x.role=1) (ht:m.term=x.g.term) (hok:m.ok=true) (hm:2*((QS x.votes m.frm).length:Int)>x.n) (hw:Won x y out)
 |vt (hk:m.kind=1) (hr:x.role=1) (ht:m.term=x.g.term) (hok:m.ok=true) (hm:¬2*((QS x.votes m.frm).length:Int)>x.n) (hy:y={x with votes:=QS x.votes m.frm}) (ho:out=[])
 |qt (h0:¬m.kind=0) (h1:m.kind=1->¬(x.role=1/\m.term=x.g.term/\m.ok=true)) (h2:Xv m->x.role=2/\¬m.term<x.g.term) (h3:m.kind=3->¬(x.role=2/\m.term=x.g.term)) (hy:y=x) (ho:out=[])
 |low (hk:Xv m) (ht:m.term<x.g.term) (hy:y=x) (ho:out=[x.stamp {Msg.zero with kind:=3,to:=m.frm,ok:=false,index:=0}])
 |fed (hk:Xv m) (ht:¬m.term<x.g.term) (hr:¬x.role=2) (hd:∃z:ND,y=z.q/\out=z.out/\z=if m.kind=2 then(x.follows m).addP m else(x.follows m).snapP m) (hf:Fed x y m out)
 |hrd (hk:m.kind=3) (hr:x.role=2) (ht:m.term=x.g.term) (hd:∃z:ND,y=z.q/\out=z.out/\z=x.heardP m) (hh:Hrd x y m out)
def Bc{x:ND}(ho:x.out=[]):Ef x m (x.kindP m).q (x.kindP m).out:=by
 by_cases h0:m.kind=0;.let⟨a,b⟩:=z7 ho h0;exact .ask h0 a b
 by_cases h1:m.kind=1
 .rcases wz ho h1 with⟨a,b,c⟩|⟨a,b,c,⟨d,e⟩|⟨d,e,f⟩⟩;.exact .qt h0 (λ_=>a) (λh=>by unfold Xv at h;omega) (λh=>Om) b c
  .exact .win h1 a b c d e
  exact .vt h1 a b c d e f
 by_cases h2:m.kind=2\/m.kind=4
 .rcases z6 ho h2 with⟨a,b,c⟩|⟨a,b,c,d⟩|⟨a,b,c,d⟩;.exact .low h2 a b c
  .exact .qt h0 (λh=>Om) (λ_=>⟨b,a⟩) (λh=>Om) c d
  exact .fed h2 a b ⟨_,rfl,rfl,c⟩ d
 by_cases h3:m.kind=3
 .have e:x.kindP m=x.heardP m:=by unfold ND.kindP;rw[ac h0,ac h1,ac h2,an h3]
  rcases uw ho h3 with⟨a,b,c⟩|⟨a,b,c⟩;.exact .qt h0 (λh=>Om) (λh=>Gr h h2) (λ_=>a) b c
  exact .hrd h3 a b ⟨_,rfl,rfl,e⟩ c
 let⟨a,b⟩:=uv ho h0 h1 h2 h3;exact .qt h0 (λh=>Om) (λh=>Gr h h2) (λh=>Om) a b
def ZB(y:ND)(j:Nat):Xv (y.stamp (y.feedMsg j))/\(y.stamp (y.feedMsg j)).to=j:=by
 by_cases h:y.nxt j<=y.g.base;.rw[yl h];exact⟨.inr rfl,rfl⟩
 rw[qE h];exact⟨.inl rfl,rfl⟩
def Ef.term{x:ND}(h:Ef x m y out):y.g.term=x.g.term:=by
 cases h with
 |ask hk hy ho=>rw[hy];split<;>rfl
 |win hk hr ht hok hm hw=>rw[hw.g];rfl
 |vt hk hr ht hok hm hy ho=>rw[hy]
 |qt h0 h1 h2 h3 hy ho=>rw[hy]
 |low hk ht hy ho=>rw[hy]
 |fed hk ht hr hd hf=>exact hf.c.2.2.2.1
 |hrd hk hr ht hd hh=>rw[hh.c.2.2.2]
def Ef.outs{x:ND}(h:Ef x m y out)(hid:y.id=x.id):∀a∈out,a.frm=x.id/\a.term=x.g.term/\(Xv a->y.role=2)/\¬a.kind=0/\(a.kind=1->m.kind=0):=by
 have ht:=h.term;intro a ha;cases h with
 |ask hk hy ho=>rw[ho,GO]at ha;subst ha;exact⟨rfl,rfl,λh=>by rcases h with h|h<;>exact Gr (show(1:Int)=_ from h) Dc,(by decide:¬(1:Int)=0),λ_=>hk⟩
 |win hk hr ht' hok hm hw=>
  rw[hw.out]at ha;obtain⟨j,_,rfl⟩:=Gu.1 ha;have:=(ZB y j).1;exact⟨GM Int.ofNat hid,ht,λ_=>hw.role,by unfold Xv at this;omega,λh=>by unfold Xv at this;omega⟩
 |vt hk hr ht hok hm hy ho=>rw[ho]at ha;cases ha
 |qt h0 h1 h2 h3 hy ho=>rw[ho]at ha;cases ha
 |low hk ht hy ho=>rw[ho,GO]at ha;subst ha;exact⟨rfl,rfl,λh=>by rcases h with h|h<;>exact Gr (show(3:Int)=_ from h) Dc,(by decide:¬(3:Int)=0),λh=>Gr (show(3:Int)=1 from h) Dc⟩
 |fed hk ht' hr hd hf=>
  rcases hf.out with e|⟨b,e,b1,b2,b3,b4⟩;.rw[e]at ha;cases ha
  rw[e,GO]at ha;subst ha;exact⟨b3,b4,λh=>by unfold Xv at h;omega,Om,λh=>Om⟩
 |hrd hk hr ht' hd hh=>
  rcases hh.out with e|e;.rw[e]at ha;cases ha
  rw[e,GO]at ha;subst ha;have:=(ZB y m.frm.toNat).1;exact⟨GM Int.ofNat hid,ht,λ_=>hh.c.1,by unfold Xv at this;omega,λh=>by unfold Xv at this;omega⟩
def Ef.lead{x:ND}(h:Ef x m y out)(hr:y.role=2):(m.kind=1/\m.term=x.g.term/\x.role=1/\Won x y out)\/(x.role=2/\y.patience=x.patience/\¬m.kind=1\/x.role=2/\y.patience=x.patience/\out=[]):=by
 cases h with
 |ask hk hy ho=>
  have hg:x.role=2->x.grants m=false:=λh2=>by unfold ND.grants;rw[h2];simp
  by_cases h2:x.grants m=true
  .rw[an h2]at hy;have hr':x.role=2:=by rw[hy]at hr;exact hr
   rw[hg hr']at h2;cases h2
  rw[ac h2]at hy;rw[hy]at hr|-;exact .inr (.inl ⟨hr,rfl,Om⟩)
 |win hk h1 ht' hok hm hw=>exact .inl ⟨hk,ht',h1,hw⟩
 |vt hk h1 ht hok hm hy ho=>rw[hy]at hr;exact Gr (show x.role=2 from hr) Om
 |qt h0 h1 h2 h3 hy ho=>rw[hy]at hr|-;exact .inr (.inr ⟨hr,rfl,ho⟩)
 |low hk ht hy ho=>rw[hy]at hr|-;exact .inr (.inl ⟨hr,rfl,by unfold Xv at hk;omega⟩)
 |fed hk ht' h1 hd hf=>have:=hf.c.1;omega
 |hrd hk h1 ht' hd hh=>exact .inr (.inl ⟨h1,hh.c.2.2.1,Om⟩)
def Vd(n:Nat)(m:Msg):Prop:=0<=m.frm/\m.frm<(n:Int)/\¬m.frm=m.to
inductive Dl (n:Nat) (H H':GS) (m:Msg) (l:List Msg):Prop
 |skip (hn:¬(Vd n m/\0<=m.to/\m.to<(n:Int))) (h:∀j,H'.nd j=H.nd j) (hq:H'.q=l)
 |go (i:Nat) (y:ND) (out:List Msg) (hi:i<n) (hto:m.to=i) (hv:Vd n m) (h:∀j,H'.nd j=if j=i then y else H.nd j) (hq:H'.q=l++out) (he:Ef ((H.nd i).up m.term) m y out) (hid:y.id=i/\y.n=n)
def LvB.dl(h:LvB n T I Γ H)(h':LvB n T' I' Γ' (H.delS 0))(hl:H.ms.length=n){l:List Msg}(hq:H.q=m::l):Dl n H (H.delS 0) m l:=by
 by_cases h1:0<=m.to/\m.to<(n:Int)
 .let⟨i,hi⟩:=Hu h1.1;have hin:i<n:=Om;let⟨a,b,c⟩:=pT hq hi Om;let⟨F,hb⟩:=h.nd i hin;let⟨F',hb'⟩:=h'.nd i hin;by_cases hv:Vd n m
  .have hv2:=hv;unfold Vd at hv;have e:=sf (x:=H.nd i) (m:=m) (by rw[hb.id,hb.n];omega);rw[e]at a b;have hu:=yN (H.nd i) m.term;have hy:(H.delS 0).nd i=(((H.nd i).up m.term).kindP m).q:=by rw[a i,an rfl]
   exact .go i _ _ hin hi hv2 a b (Bc (by rw[hu.rest.2.2.2.2.1];exact hb.out)) (by rw[<-hy];exact⟨hb'.id,hb'.n⟩)
  unfold Vd at hv;let⟨e1,e2⟩:=oE (x:=H.nd i) (m:=m) hb.out (by rw[hb.id,hb.n];omega);rw[e1]at a;rw[e2,HY]at b;exact .skip (λh=>hv h.1) (λj=>by rw[a j];split<;>simp_all) b
 let⟨a,b,c⟩:=EG hq (by rw[hl];exact h1);exact .skip (λh=>h1 h.2) a b
def Ap(L:Nat)(t:Int)(j:Nat)(m:Msg):Prop:=Xv m/\m.frm=L/\m.to=j/\m.term=t
def tk(p i:Nat):Int:=if i<p then 1 else 0
def zk(n:Nat)(H:GS)(L:Nat):Prop:=∃m∈H.q,Vd n m/\m.to=L/\(H.nd L).g.term<m.term
structure LdI (n:Nat) (H:GS) (p L:Nat) (A:List Msg):Prop where
 fo:∀j,j<n->j≠L->(∃m∈A,Ap L (H.nd L).g.term j m)\/(H.nd L).g.term<(H.nd j).g.term\/((H.nd j).g.term=(H.nd L).g.term/\(H.nd j).role=0/\(H.nd j).leader=L/\(H.nd j).patience<=(H.nd L).patience+tk p j-tk p L)
 nw:(∃j,j<n/\(H.nd L).g.term<(H.nd j).g.term)->zk n H L\/∃j,j<n/\j≠L/\(H.nd L).g.term<(H.nd j).g.term/\∃m∈A,Ap L (H.nd L).g.term j m
 ow:∀m∈H.q,Vd n m->Xv m->m.term=(H.nd L).g.term->m.frm=L
def Gg(L:Nat)(t:Int)(j:Nat)(m:Msg):Prop:=Ap L t j m\/(m.kind=3/\m.frm=j/\m.to=L/\m.term=t)
structure LvO (n:Nat) (H:GS) (L:Nat):Prop where
 lv:(∀k,k<n->(H.nd k).g.term<=(H.nd L).g.term)->∀j,j<n->j≠L->(H.nd L).mat j=(H.nd L).g.last\/∃m∈H.q,Gg L (H.nd L).g.term j m
 cm:2<=n->(∀j,j<n->j≠L->(H.nd L).mat j=(H.nd L).g.last)->(H.nd L).commit=(H.nd L).g.last
 ldr:(H.nd L).leader=L
 nx:∀j,j<n->j≠L->(H.nd L).mat j+1<=(H.nd L).nxt j
structure InvL (n p:Nat) (H:GS):Prop where
 mt:∀m∈H.q,Vd n m->∃k,k<n/\m.term<=(H.nd k).g.term
 ld:∀L,L<n->(H.nd L).role=2->LdI n H p L H.q
 lo:∀L,L<n->(H.nd L).role=2->LvO n H L
def eQ(h:LvB n T I Γ H)(hi:i<n)(hj:j<n)(h1:(H.nd i).role=2)(h2:(H.nd j).role=2)(ht:(H.nd i).g.term=(H.nd j).g.term):i=j:=by
 let⟨F,a⟩:=h.nd i hi;let⟨F',b⟩:=h.nd j hj;have a1:=(a.ni.ld h1).1;rw[ht]at a1;exact h.hi.one _ _ _ a1 (b.ni.ld h2).1
def Up.mono{x:ND}(h:Up x y t):x.g.term<=y.g.term:=by have:=h.term;omega
def Up.two{x:ND}(h:Up x y t)(hr:¬y.role=0):y=x/\t<=x.g.term:=by
 by_cases h1:t<=x.g.term;.exact⟨h.same h1,h1⟩
 exact Gr (h.role Om).1 hr
def jg(h1:j<y.n)(h2:j≠y.id):j∈y.others:=others_mem.2 ⟨h1,h2⟩
def Br(h:LvB n T I Γ H)(h':LvB n T' I' Γ' H')(hle:Γ.le n Γ')(hi:i<n)(h1:(H.nd i).role=1)(h2:(H'.nd i).role=2)(ht:(H'.nd i).g.term=(H.nd i).g.term):∀m∈H.q,Xv m->¬m.term=(H.nd i).g.term:=λm hm hk e=>by
 let⟨F,a⟩:=h.nd i hi;let⟨F',b⟩:=h'.nd i hi;have b1:=(b.ni.ld h2).1;rw[ht]at b1;have hx:∃x,Γ.el m.term x:=by
  rcases hk with hk|hk;.exact((h.msg m hm).1.app hk).1
  exact((h.msg m hm).1.snap hk).1
 let⟨x,hx⟩:=hx;rw[e]at hx;have:=h'.hi.one _ _ _ (hle.el _ _ hx) b1;subst this;exact(a.ni.cd h1).2.2.1 hx
def LdI.del(h:LvB n T I Γ H)(h':LvB n T' I' Γ' (H.delS 0))(hl:H.ms.length=n){l:List Msg}(hq:H.q=m::l)(hmt:∀m∈H.q,Vd n m->∃k,k<n/\m.term<=(H.nd k).g.term)(hL:L<n){A':List Msg}(hA:∀a∈A,a=m\/a∈A')(h2:(H.nd L).role=2)(hr:((H.delS 0).nd L).role=2)(hv:LdI n H 0 L A):LdI n (H.delS 0) 0 L A'/\((H.delS 0).nd L).g.term=(H.nd L).g.term/\((H.delS 0).nd L).patience=(H.nd L).patience:=by
 have hd:=h.dl h' hl hq;generalize H.delS 0=H' at h' hd hr;have hin:∀a∈l,a∈H.q:=λa ha=>by rw[hq];exact H9 _ ha
 have hout:∀a∈H.q,a=m\/a∈l:=λa ha=>by rw[hq]at ha;exact Gn.1 ha
 have tz:∀i,tk 0 i=0:=λi=>by unfold tk;rw[ac Om]
 let⟨f1,f2,f3⟩:=hv;cases hd with
 |skip hn hnd hq'=>
  have ka:∀j,j<n->j≠L->(∃a∈A,Ap L (H.nd L).g.term j a)->∃a∈A',Ap L (H.nd L).g.term j a:=λj hj hjL ⟨a,ha,a1,a2,a3,a4⟩=>by
   rcases hA a ha with e|e;.subst e;exact Gr ⟨by unfold Vd;omega,Om,Om⟩ hn
   exact⟨a,e,a1,a2,a3,a4⟩
  refine⟨⟨λj hj hjL=>?_,λhx=>?_,λa ha=>?_⟩,by rw[hnd],by rw[hnd]⟩;.rw[hnd,hnd];exact(f1 j hj hjL).imp (ka j hj hjL) id
  .simp[hnd]at hx;unfold zk;simp[hnd];rcases f2 hx with⟨a,ha,a1,a2,a3⟩|⟨j,hj,hjL,j1,j2⟩
   .refine .inl ⟨a,?_,a1,a2,a3⟩;rcases hout a ha with e|e
    .subst e;exact Gr ⟨a1,Om,Om⟩ hn
    rw[hq'];exact e
   exact .inr ⟨j,hj,hjL,j1,ka j hj hjL j2⟩
  rw[hnd];rw[hq']at ha;exact f3 a (hin a ha)
 |go i y out hi hto hvm hnd hq' he hid=>
  have hu:=yN (H.nd i) m.term;let⟨Fi,bi⟩:=h.nd i hi;generalize (H.nd i).up m.term=x1 at he hu;have x1id:x1.id=i:=hu.rest.2.2.1.trans bi.id;have hyt:=he.term;have houts:=he.outs (by rw[hid.1,x1id]);have hmono:∀j,(H.nd j).g.term<=(H'.nd j).g.term:=λj=>by
   rw[hnd];split;.rename_i e;subst e;rw[hyt];exact hu.mono
   exact Gk _
  have hni:H'.nd i=y:=by rw[hnd,an rfl]
  have hnj:∀j,j≠i->H'.nd j=H.nd j:=λj e=>by rw[hnd,ac e]
  by_cases hLi:L=i
  .subst hLi;rw[hni]at hr|-;rcases he.lead hr with⟨k1,k2,k3,hw⟩|hk
   .let⟨e1,e2⟩:=hu.two Om;subst e1;omega
   have hk2:x1.role=2/\y.patience=x1.patience:=by rcases hk with⟨a,b,_⟩|⟨a,b,_⟩<;>exact⟨a,b⟩
   let⟨e1,e2⟩:=hu.two Om;subst e1;have ka:∀j,j<n->j≠L->(∃a∈A,Ap L (H.nd L).g.term j a)->∃a∈A',Ap L (H.nd L).g.term j a:=λj hj hjL ⟨a,ha,a1,a2,a3,a4⟩=>by
    rcases hA a ha with e|e;.subst e;omega
    exact⟨a,e,a1,a2,a3,a4⟩
   refine⟨⟨λj hj hjL=>?_,λ⟨j,hj,hx⟩=>?_,λa ha hva hk ht=>?_⟩,hyt,hk2.2⟩;.rw[hni,hyt,hnj j hjL,hk2.2];exact(f1 j hj hjL).imp (ka j hj hjL) id
   .unfold zk;rw[hni,hyt]at hx|-;have hjL:j≠L:=λe=>by subst e;rw[hni,hyt]at hx;omega
    rw[hnj j hjL]at hx;rcases f2 ⟨j,hj,hx⟩with⟨a,ha,a1,a2,a3⟩|⟨j',hj',hjL',j1,j2⟩
    .rcases hout a ha with e|e;.subst e;omega
     exact .inl ⟨a,by rw[hq'];exact GT _ e,a1,a2,a3⟩
    exact .inr ⟨j',hj',hjL',by rw[hnj j' hjL'];exact j1,ka j' hj' hjL' j2⟩
   rw[hni,hyt]at ht;rw[hq']at ha;rcases GE.1 ha with ha|ha
   .exact f3 a (hin a ha) hva hk ht
   rw[(houts a ha).1,x1id]
  rw[hnj L hLi]at hr;let⟨FL,bL⟩:=h.nd L hL;have hpL:=bL.ub.inn.patience.1;refine⟨⟨λj hj hjL=>?_,λ⟨j,hj,hx⟩=>?_,λa ha hva hk ht=>?_⟩,by rw[hnj L hLi],by rw[hnj L hLi]⟩
  .rw[hnj L hLi,tz,tz];have f:=f1 j hj hjL;rw[tz,tz]at f;by_cases hji:j=i
   .subst hji;rw[hni];rcases f with⟨a,ha,a1,a2,a3,a4⟩|f|⟨g1,g2,g3,g4⟩
    .rcases hA a ha with e|e
     .subst e;refine .inr ?_;cases he with
      |ask hk hy ho=>unfold Xv at a1;omega
      |win hk hr ht hok hm hw=>unfold Xv at a1;omega
      |vt hk hr ht hok hm hy ho=>unfold Xv at a1;omega
      |qt h0 h1 h2 h3 hy ho=>
       have h2:=(h2 a1).1;let⟨e1,e2⟩:=hu.two Om;subst e1;by_cases hlt:(H.nd L).g.term<(H.nd j).g.term;.left;rw[hy];exact hlt
       exact Gr (eQ h hL hj hr h2 Om) (λe=>hjL e.symm)
      |low hk ht hy ho=>left;rw[hyt];omega
      |fed hk ht hr hd hf=>
       let⟨c1,c2,c3,c4,c5⟩:=hf.c;right;have:=hu.term;exact⟨by rw[c4];omega,c1,by rw[c2];exact a2,by rw[c3];omega⟩
      |hrd hk hr ht hd hh=>unfold Xv at a1;omega
     exact .inl ⟨a,e,a1,a2,a3,a4⟩
    .exact .inr (.inl (by rw[hyt];have:=hu.mono;omega))
    by_cases hmt:m.term<=(H.nd j).g.term
    .have e1:=hu.same hmt;subst e1;refine .inr (.inr ?_);cases he with
     |ask hk hy ho=>
      rw[hy];split;.exact⟨g1,g2,g3,by show(0:Int)<=_;omega⟩
      exact⟨g1,g2,g3,g4⟩
     |win hk hr ht hok hm hw=>omega
     |vt hk hr ht hok hm hy ho=>omega
     |qt h0 h1 h2 h3 hy ho=>rw[hy];exact⟨g1,g2,g3,g4⟩
     |low hk ht hy ho=>rw[hy];exact⟨g1,g2,g3,g4⟩
     |fed hk ht hr hd hf=>
      let⟨c1,c2,c3,c4,c5⟩:=hf.c;exact⟨by rw[c4];exact g1,c1,by rw[c2];exact f3 m (by rw[hq];simp) hvm hk Om,by rw[c3];omega⟩
     |hrd hk hr ht hd hh=>omega
    exact .inr (.inl (by rw[hyt];have:=hu.term;omega))
   rw[hnj j hji];refine f.imp (λ⟨a,ha,a1,a2,a3,a4⟩=>?_) id;rcases hA a ha with e|e
   .subst e;omega
   exact⟨a,e,a1,a2,a3,a4⟩
  .unfold zk;rw[hnj L hLi]at hx|-;have hb:∃k,k<n/\(H.nd L).g.term<(H.nd k).g.term:=by
    by_cases hji:j=i
    .subst hji;rw[hni,hyt,hu.term]at hx;by_cases h5:(H.nd L).g.term<(H.nd j).g.term;.exact⟨j,hj,h5⟩
     let⟨k,hk,e⟩:=hmt m (by rw[hq];simp) hvm;exact⟨k,hk,Om⟩
    rw[hnj j hji]at hx;exact⟨j,hj,hx⟩
   rcases f2 hb with⟨a,ha,a1,a2,a3⟩|⟨j',hj',hjL',j1,a,ha,a1,a2,a3,a4⟩
   .rcases hout a ha with e|e;.subst e;omega
    exact .inl ⟨a,by rw[hq'];exact GT _ e,a1,a2,a3⟩
   rcases hA a ha with e|e
   .subst e;have hji:j'=i:=Om;subst hji;have e1:=hu.same Om;subst e1;left;cases he with
    |ask hk hy ho=>unfold Xv at a1;omega
    |win hk hr ht hok hm hw=>unfold Xv at a1;omega
    |vt hk hr ht hok hm hy ho=>unfold Xv at a1;omega
    |qt h0 h1 h2 h3 hy ho=>
     have h2:=(h2 a1).2;omega
    |low hk ht hy ho=>
     refine⟨_,by rw[hq',ho];exact HH _ (GO.2 rfl),?_,a2,?_⟩;.unfold Vd;show 0<=((H.nd j').id:Int)/\((H.nd j').id:Int)<_/\¬((H.nd j').id:Int)=a.frm;omega
     exact j1
    |fed hk ht hr hd hf=>omega
    |hrd hk hr ht hd hh=>unfold Xv at a1;omega
   exact .inr ⟨j',hj',hjL',J4 j1 (hmono j'),a,e,a1,a2,a3,a4⟩
  rw[hnj L hLi]at ht;rw[hq']at ha;rcases GE.1 ha with ha|ha
  .exact f3 a (hin a ha) hva hk ht
  let⟨o1,o2,o3,_⟩:=houts a ha;have h5:i=L:=eQ h' hi hL (by rw[hni];exact o3 hk) (by rw[hnj L hLi];exact hr) (by rw[hni,hyt,hnj L hLi,<-o2];exact ht);exact Gr h5.symm hLi
def iT(h:LvB n T I Γ H)(h':LvB n T' I' Γ' (H.delS 0))(hl:H.ms.length=n){l:List Msg}(hq:H.q=m::l)(hL:L<n)(hr:((H.delS 0).nd L).role=2):(H.nd L).role=2\/((H.nd L).role=1/\m.kind=1/\m.to=L/\∃out,(H.delS 0).q=l++out/\Won (H.nd L) ((H.delS 0).nd L) out):=by
 have hd:=h.dl h' hl hq;generalize H.delS 0=H' at h' hd hr;cases hd with
 |skip hn hnd hq'=>rw[hnd]at hr;exact .inl hr
 |go i y out hi hto hvm hnd hq' he hid=>
  by_cases hLi:L=i
  .subst hLi;have hu:=yN (H.nd L) m.term;have hni:H'.nd L=y:=by rw[hnd,an rfl]
   rw[hni]at hr|-;rcases he.lead hr with⟨k1,k2,k3,hw⟩|hk
   .let⟨e1,e2⟩:=hu.two Om;rw[e1]at k3 hw;exact .inr ⟨k3,k1,hto,out,hq',hw⟩
   have hk2:((H.nd L).up m.term).role=2:=by rcases hk with⟨a,b,_⟩|⟨a,b,_⟩<;>exact a
   let⟨e1,e2⟩:=hu.two Om;rw[e1]at hk2;exact .inl hk2
  rw[hnd,ac hLi]at hr;exact .inl hr
def zc(h:LvB n T I Γ H)(hL:L<n)(hr:(H.nd L).role=2):(H.nd L).tAt (H.nd L).g.last=(H.nd L).g.term/\0<(H.nd L).g.last:=by
 let⟨F,b⟩:=h.nd L hL;let⟨h1,h2,_⟩:=b.ni.ld hr;let⟨_,_,e3,e4⟩:=h.hi.elc _ _ h1;rw[h2]at e3 e4;have hlt:F.length-1<F.length:=Om;refine⟨?_,by rw[b.ni.lo.ag.last];omega⟩;rw[bO b.ni.lo.ag];let⟨e,he,ht⟩:=ab (F:=F) (k:=F.length) Om (Gl _);rw[ht];exact e4 _ e Om he
def LvO.del(h:LvB n T I Γ H)(h':LvB n T' I' Γ' (H.delS 0))(hl:H.ms.length=n){l:List Msg}(hq:H.q=m::l)(hL:L<n)(h2:(H.nd L).role=2)(hr:((H.delS 0).nd L).role=2)(hv:LvO n H L):LvO n (H.delS 0) L:=by
 have hd:=h.dl h' hl hq;generalize H.delS 0=H' at h' hd hr;have hout:∀a∈H.q,a=m\/a∈l:=λa ha=>by rw[hq]at ha;exact Gn.1 ha
 let⟨lv,cm,ldr,nx⟩:=hv;cases hd with
 |skip hn hnd hq'=>
  refine⟨λhle j hj hjL=>?_,λhn2 hx=>?_,by rw[hnd];exact ldr,λj hj hjL=>by rw[hnd];exact nx j hj hjL⟩
  .simp[hnd]at hle|-;refine(lv hle j hj hjL).imp id λ⟨a,ha,k⟩=>?_;rcases hout a ha with e|e
   .subst e;exfalso;apply hn;rcases k with⟨k1,k2,k3,k4⟩|⟨k1,k2,k3,k4⟩
    .exact⟨by unfold Vd;omega,Om,Om⟩
    exact⟨by unfold Vd;omega,Om,Om⟩
   exact⟨a,by rw[hq'];exact e,k⟩
  simp[hnd]at hx|-;exact cm hn2 hx
 |go i y out hi hto hvm hnd hq' he hid=>
  have hu:=yN (H.nd i) m.term;let⟨Fi,bi⟩:=h.nd i hi;have x1id:((H.nd i).up m.term).id=i:=hu.rest.2.2.1.trans bi.id;have hyt:=he.term;have hmono:∀j,(H.nd j).g.term<=(H'.nd j).g.term:=λj=>by
   rw[hnd];split;.rename_i e;subst e;rw[hyt];exact hu.mono
   exact Gk _
  have hni:H'.nd i=y:=by rw[hnd,an rfl]
  have hnj:∀j,j≠i->H'.nd j=H.nd j:=λj e=>by rw[hnd,ac e]
  by_cases hLi:L=i
  .subst hLi;have hx1:(H.nd L).up m.term=H.nd L:=by
    by_cases h5:m.term<=(H.nd L).g.term;.exact hu.same h5
    exfalso;rw[hni]at hr;rcases he.lead hr with⟨_,_,k3,_⟩|hk
    .have:=(hu.role Om).1;omega
    have hk2:((H.nd L).up m.term).role=2:=by rcases hk with⟨a,b,_⟩|⟨a,b,_⟩<;>exact a
    have:=(hu.role Om).1;omega
   rw[hx1]at he hyt;have same:y=H.nd L->(m.kind=3->¬m.term=(H.nd L).g.term)->LvO n H' L:=λs0 s4=>by
    have s1:∀j,y.mat j=(H.nd L).mat j:=λj=>by rw[s0]
    have s2:y.g.last=(H.nd L).g.last:=by rw[s0]
    have s3:y.commit=(H.nd L).commit:=by rw[s0]
    refine⟨λhle j hj hjL=>?_,λhn2 hx=>?_,by rw[hni,s0];exact ldr,λj hj hjL=>by rw[hni,s0];exact nx j hj hjL⟩
    .rw[hni]at hle|-;rw[s1,s2,hyt];refine(lv (λk hk=>by have:=hle k hk;have:=hmono k;rw[hyt]at*;omega) j hj hjL).imp id λ⟨a,ha,k⟩=>?_;rcases hout a ha with e|e
     .subst e;exfalso;rcases k with⟨k1,k2,k3,k4⟩|⟨k1,k2,k3,k4⟩
      .omega
      exact s4 k1 k4
     exact⟨a,by rw[hq'];exact GT _ e,k⟩
    rw[hni]at hx|-;rw[s3,s2];exact cm hn2 λj hj hjL=>by have:=hx j hj hjL;rw[s1,s2]at this;exact this
   cases he with
   |ask hk hy ho=>
    have hg:(H.nd L).grants m=false:=by unfold ND.grants;rw[h2];simp
    rw[hg]at hy;have hy:y=H.nd L:=hy;exact same hy (λh=>Om)
   |win hk hr' ht hok hm hw=>omega
   |vt hk hr' ht hok hm hy ho=>omega
   |qt h0 h1 h2' h3 hy ho=>exact same hy (λk1 k2=>h3 k1 ⟨h2,k2⟩)
   |low hk ht hy ho=>exact same hy (λk1=>by unfold Xv at hk;omega)
   |fed hk ht hr' hd hf=>exact Gr h2 hr'
   |hrd hk hr' ht hd hh=>
    let⟨z,hyz,hoz,hz⟩:=hd;have hpl:=bi.ub.inn.peers h2;have hvm2:=hvm;unfold Vd at hvm2;let⟨j0,hj0⟩:=Hu hvm.1;have ej:m.frm.toNat=j0:=Om;have hjl:m.frm.toNat<(H.nd L).peers.length:=by rw[hpl,bi.n];omega
    have hyg:y.g=(H.nd L).g:=hh.c.2.2.2;have hidy:y.id=L:=hid.1;have rest:(∀j,j≠j0->y.mat j=(H.nd L).mat j)->(y.mat j0=(H.nd L).g.last\/out=[y.stamp (y.feedMsg m.frm.toNat)])->((∀j,j<n->j≠L->y.mat j=(H.nd L).g.last)->2<=n->y.commit=(H.nd L).g.last)->(∀j,j<n->j≠L->y.mat j+1<=y.nxt j)->LvO n H' L:=λs1 s2 s3 s5=>by
     refine⟨λhle j hj hjL=>?_,λhn2 hx=>?_,by rw[hni,hh.c.2.1];exact ldr,λj hj hjL=>by rw[hni];exact s5 j hj hjL⟩
     .rw[hni]at hle|-;rw[hyg];by_cases e:j=j0
      .subst e;rcases s2 with s2|s2
       .exact .inl s2
       let⟨f1,f2⟩:=ZB y m.frm.toNat;refine .inr ⟨y.stamp (y.feedMsg m.frm.toNat),by rw[hq',s2];exact HH _ (GO.2 rfl),.inl ⟨f1,GM Int.ofNat hidy,by rw[f2];omega,by show y.g.term=_;rw[hyg]⟩⟩
      rw[s1 j e];refine(lv (λk hk=>by have:=hle k hk;have:=hmono k;rw[hyg]at*;omega) j hj hjL).imp id λ⟨a,ha,k⟩=>?_;rcases hout a ha with e2|e2
      .subst e2;exfalso;rcases k with⟨k1,k2,k3,k4⟩|⟨k1,k2,k3,k4⟩
       .omega
       omega
      exact⟨a,by rw[hq'];exact GT _ e2,k⟩
     rw[hni]at hx|-;rw[hyg]at hx|-;exact s3 hx hn2
    by_cases hok:m.ok=true
    .let⟨y1,y2⟩:=mN bi.out h2 ht hok;rw[<-hz,<-hyz]at y1;rw[<-hz,<-hoz]at y2;have hmt:∀j,y.mat j=if j=j0 then Xm (H.nd L) m else(H.nd L).mat j:=λj=>by
      rw[y1,(cv _ j).2,(qS hjl j).2,ej]
     have hpb:=bi.ub.inn.peerb h2 m.frm.toNat;have hkb:Xm (H.nd L) m<=(H.nd L).g.last:=by unfold Xm;omega
     have hnt:∀j,y.nxt j=if j=j0 then Xm (H.nd L) m+1 else(H.nd L).nxt j:=λj=>by
      rw[y1,(cv _ j).1,(qS hjl j).1,ej]
     refine rest (λj e=>by rw[hmt,ac e]) ?_ (λhx hn2=>?_) (λj hj hjL=>by
      rw[hmt,hnt];split;.exact Gk _
      exact nx j hj hjL)
     .by_cases h5:Xm (H.nd L) m+1<=(H.nd L).g.last;.rw[an h5,<-y1]at y2;exact .inr y2
      left;rw[hmt,an rfl];omega
     let⟨hla,_⟩:=zc h hL h2;obtain⟨w,hw⟩:∃w,w=(H.nd L).setPeer m.frm.toNat (Xm (H.nd L) m+1,Xm (H.nd L) m):=⟨_,rfl⟩;rw[<-hw]at y1;have hwg:w.g=(H.nd L).g:=by rw[hw];rfl
     have hwid:w.id=L/\w.n=n:=by rw[hw];exact⟨bi.id,bi.n⟩
     have hwm:∀j,w.mat j=y.mat j:=λj=>by rw[y1,(cv _ j).2]
     have m1:(H.nd L).g.last<=w.mid:=oY (x:=w) (by rw[hwid.1,hwid.2];exact hL) (by rw[hwg];exact Gk _) (λj hj hjn=>by
      rw[hwm,hx j (by rw[<-hwid.2];exact hj) (by rw[<-hwid.1];exact hjn)];exact Gk _)
     have m2:w.mid<=(H.nd L).g.last:=gi (x:=w) (by rw[hwid.1,hwid.2];exact hL) (by rw[hwg];exact Gk _) (λj hj hjn=>by
      rw[hwm,hx j (by rw[<-hwid.2];exact hj) (by rw[<-hwid.1];exact hjn)];exact Gk _)
     have m3:w.mid=(H.nd L).g.last:=Om
     let⟨c,hc1,hc2,hc3,hc4⟩:=fh (x:=w) (λ_=>by
      rw[m3,hwg];have:w.tAt (H.nd L).g.last=(H.nd L).tAt (H.nd L).g.last:=by unfold ND.tAt;rw[hwg]
      rw[this];exact hla)
     have hyc:y.commit=c:=by rw[y1,hc1]
     have hwc:w.commit=(H.nd L).commit:=by rw[hw];rfl
     have hcl:=bi.ub.inn.commit.2;rw[hyc];rcases hc3 with h6|h6<;>omega
    let⟨y1,y2⟩:=po bi.out h2 ht (by simpa using hok);rw[<-hz,<-hyz]at y1;rw[<-hz,<-hoz,<-y1]at y2;have hmt:∀j,y.mat j=(H.nd L).mat j:=λj=>by
     rw[y1,(qS hjl j).2];split;.rename_i e;rw[e];rfl
     rfl
    refine rest (λj e=>hmt j) (.inr y2) (λhx hn2=>?_) (λj hj hjL=>by
     rw[hmt,y1,(qS hjl j).1];split;.rename_i e;rw[e];unfold jh;dsimp only;omega
     exact nx j hj hjL)
    have:y.commit=(H.nd L).commit:=by rw[y1];rfl
    rw[this];exact cm hn2 λj hj hjL=>by rw[<-hmt];exact hx j hj hjL
  refine⟨λhle j hj hjL=>?_,λhn2 hx=>?_,by rw[hnj L hLi];exact ldr,λj hj hjL=>by rw[hnj L hLi];exact nx j hj hjL⟩
  .rw[hnj L hLi]at hle|-;have hle0:∀k,k<n->(H.nd k).g.term<=(H.nd L).g.term:=λk hk=>Hg (hmono k) (hle k hk);refine(lv hle0 j hj hjL).imp id λ⟨a,ha,k⟩=>?_;rcases hout a ha with e|e
   .subst e;rcases k with⟨k1,k2,k3,k4⟩|⟨k1,k2,k3,k4⟩
    .have hji:j=i:=by omega
     subst hji;have hj0:=hle0 j hj;have hut:=hu.term;cases he with
     |ask hk hy ho=>unfold Xv at k1;omega
     |win hk hr ht hok hm hw=>unfold Xv at k1;omega
     |vt hk hr ht hok hm hy ho=>unfold Xv at k1;omega
     |qt h0 h1 h2' h3 hy ho=>
      have h5:=(h2' k1).1;let⟨e1,e2⟩:=hu.two Om;rw[e1]at h5;exact Gr (eQ h hL hj h2 h5 Om) (λe=>hjL e.symm)
     |low hk ht hy ho=>omega
     |fed hk ht hr' hd hf=>
      let⟨z,_,hoz,hz⟩:=hd;let⟨ok,q,r1,_⟩:=mW h.hi bi.ni bi.ub (h.msg a ha).1 k1 Om (z:=((H.nd j).up a.term).follows a) ⟨hu.g.1,hu.g.2.1,hu.g.2.2.1,hu.rest.2.1⟩ (by show((H.nd j).up a.term).out=[];rw[hu.rest.2.2.2.2.1];exact bi.out);rw[<-hz,<-hoz]at r1;refine⟨_,by rw[hq',r1];exact HH _ (GO.2 rfl),.inr ⟨rfl,?_,k2,?_⟩⟩;.show(((H.nd j).up a.term).id:Int)=j;rw[x1id]
      show((H.nd j).up a.term).g.term=_;omega
     |hrd hk hr ht hd hh=>unfold Xv at k1;omega
    omega
   exact⟨a,by rw[hq'];exact GT _ e,k⟩
  rw[hnj L hLi]at hx|-;exact cm hn2 hx
def InvL.del{n:Nat}{T I T' I':Int}{Γ Γ':GH}{H:GS}(h:LvB n T I Γ H)(h':LvB n T' I' Γ' (H.delS 0))(hle:Γ.le n Γ')(hl:H.ms.length=n){m:Msg}{l:List Msg}(hq:H.q=m::l)(hv:InvL n 0 H):InvL n 0 (H.delS 0):=by
 have hd:=h.dl h' hl hq;have hin:∀a∈l,a∈H.q:=λa ha=>by rw[hq];exact H9 _ ha
 refine⟨?_,λL hL hr=>?_,λL hL hr=>?_⟩;rotate_right
 .rcases iT h h' hl hq hL hr with h2|⟨h1,k1,hto,out,hq',hw⟩;.exact LvO.del h h' hl hq hL h2 hr (hv.lo L hL h2)
  obtain⟨FL,bL⟩:=h'.nd L hL;obtain⟨F0,b0⟩:=h.nd L hL;refine⟨λ_ j hj hjL=>.inr ?_,λhn2 hx=>?_,by rw[hw.leader,b0.id],λj hj hjL=>?_⟩;rotate_right
  .have hl0:=(zc h' hL hr).2;have h6:((H.delS 0).nd L).mat j=0/\((H.delS 0).nd L).nxt j=(H.nd L).g.last+1:=by
    unfold ND.mat ND.nxt;rw[hw.peers,Gt,Jx,an (by rw[b0.n];exact hj)];exact⟨rfl,rfl⟩
   have hb:=b0.ub.lb.base;have hl2:(H.nd L).g.last=(H.nd L).g.base+(H.nd L).g.all.length:=rfl;rw[h6.1,h6.2];omega
  .obtain⟨a1,a2⟩:=ZB ((H.delS 0).nd L) j;refine⟨((H.delS 0).nd L).stamp (((H.delS 0).nd L).feedMsg j),?_,.inl ⟨a1,GM Int.ofNat bL.id,a2,rfl⟩⟩;rw[hq',hw.out];exact HH _ (Gu.2 ⟨j,jg (by rw[bL.n];exact hj) (by rw[bL.id];exact hjL),rfl⟩)
  exfalso;obtain⟨j,hj,hjL⟩:∃j,j<n/\j≠L:=by
   by_cases e:L=0;.exact⟨1,Om,Om⟩
   exact⟨0,Om,λh=>e h.symm⟩
  have h5:=hx j hj hjL;have h6:((H.delS 0).nd L).mat j=0:=by
   unfold ND.mat;rw[hw.peers,Gt,Jx];split<;>rfl
  have h7:=(zc h' hL hr).2;omega
 .generalize H.delS 0=H' at h' hd;cases hd with
  |skip hn hnd hq'=>
   intro a ha hva;rw[hq']at ha;obtain⟨k,hk,e⟩:=hv.mt a (hin a ha) hva;exact⟨k,hk,by rw[hnd];exact e⟩
  |go i y out hi hto hvm hnd hq' he hid=>
   intro a ha hva;have hu:=yN (H.nd i) m.term;obtain⟨Fi,bi⟩:=h.nd i hi;have houts:=he.outs (by rw[hid.1,hu.rest.2.2.1,bi.id]);rw[hq']at ha;rcases GE.1 ha with ha|ha
   .obtain⟨k,hk,e⟩:=hv.mt a (hin a ha) hva;refine⟨k,hk,Hg e ?_⟩;rw[hnd];split;.rename_i e;subst e;rw[he.term];exact hu.mono
    exact Gk _
   exact⟨i,hi,by rw[hnd,an rfl,he.term,(houts a ha).2.1];exact Gk _⟩
 rcases iT h h' hl hq hL hr with h2|⟨h1,k1,hto,out,hq',hw⟩
 .refine(LdI.del h h' hl hq hv.mt hL (A:=H.q) (λa ha=>?_) h2 hr (hv.ld L hL h2)).1;rw[hq]at ha;rcases Gn.1 ha with e|e
  .exact .inl e
  cases hd with
  |skip hn hnd hq'=>exact .inr (by rw[hq'];exact e)
  |go i y out hi hto hvm hnd hq' he hid=>exact .inr (by rw[hq'];exact GT _ e)
 have hyt:((H.delS 0).nd L).g.term=(H.nd L).g.term:=by rw[hw.g];rfl
 have hno:=Br h h' hle hL h1 hr hyt;obtain⟨FL,bL⟩:=h'.nd L hL;have hfd:∀j,j<n->j≠L->∃a∈(H.delS 0).q,Ap L ((H.delS 0).nd L).g.term j a:=λj hj hjL=>by
  obtain⟨a1,a2⟩:=ZB ((H.delS 0).nd L) j;refine⟨((H.delS 0).nd L).stamp (((H.delS 0).nd L).feedMsg j),?_,a1,GM Int.ofNat bL.id,a2,rfl⟩;rw[hq',hw.out];exact HH _ (Gu.2 ⟨j,jg (by rw[bL.n];exact hj) (by rw[bL.id];exact hjL),rfl⟩)
 refine⟨λj hj hjL=>.inl (hfd j hj hjL),λ⟨j,hj,hx⟩=>.inr ⟨j,hj,λe=>by subst e;omega,hx,hfd j hj (λe=>by subst e;omega)⟩,λa ha hva hk ht=>?_⟩;rw[hq']at ha;rcases GE.1 ha with ha|ha
 .rw[hyt]at ht;exact Gr ht (hno a (hin a ha) hk)
 rw[hw.out]at ha;obtain⟨j,_,rfl⟩:=Gu.1 ha;exact GM Int.ofNat bL.id
inductive Tk (x y:ND) (out:List Msg):Prop
 |wait (hr:¬x.role=2) (hp:x.patience+1<YA x.id x.g.term) (hy:y={x with patience:=x.patience+1}) (ho:out=[])
 |lead (hr:x.role=2) (hp:x.patience+1<3) (hy:y={x with patience:=x.patience+1}) (ho:out=[])
 |beat (hr:x.role=2) (hp:¬x.patience+1<3) (hy:y={x with patience:=0}) (ho:out=x.others.map λj=>x.stamp (x.feedMsg j))
 |stand (hn:¬x.n=1) (hr:¬x.role=2) (hp:¬x.patience+1<YA x.id x.g.term) (hy:y=x.stood) (ho:out=x.others.map λj=>x.stood.stamp (x.stood.askMsg j))
 |one (hn:x.n=1) (hr:¬x.role=2) (hp:¬x.patience+1<YA x.id x.g.term) (hw:Won x.stood y out)
def AO{x:ND}(ho:x.out=[]):Tk x x.tickP.q x.tickP.out:=by
 by_cases hr:x.role=2
 .by_cases hp:x.patience+1<3;.rw[u9 hr hp];exact .lead hr hp (Zd (x:={x with patience:=x.patience+1}) ho) ho
  let⟨a,b⟩:=vd ho hr hp;exact .beat hr hp a b
 by_cases hp:x.patience+1<YA x.id x.g.term;.rw[u7 hr hp];exact .wait hr hp (Zd (x:={x with patience:=x.patience+1}) ho) ho
 by_cases hn:x.n=1;.rw[nS hn hr hp];exact .one hn hr hp (FU (x:=x.stood) ho)
 let⟨a,b⟩:=tN ho hn hr hp;exact .stand hn hr hp a b
def LvB.tk(h:LvB n T I Γ H)(h':LvB n T' I' Γ' (H.tickS p))(hl:H.ms.length=n)(hp:p<n):∃y out,(∀j,(H.tickS p).nd j=if j=p then y else H.nd j)/\(H.tickS p).q=H.q++out/\Tk (H.nd p) y out/\y.id=p/\y.n=n:=by
 let⟨a,b,c⟩:=dE (H:=H) (i:=p) Om;let⟨F,hb⟩:=h.nd p hp;let⟨F',hb'⟩:=h'.nd p hp;have hy:(H.tickS p).nd p=(H.nd p).tickP.q:=by rw[a p,an rfl]
 exact⟨_,_,a,b,AO hb.out,by rw[<-hy];exact⟨hb'.id,hb'.n⟩⟩
def Tk.term{x y:ND}{out:List Msg}(h:Tk x y out):x.g.term<=y.g.term:=by
 cases h with
 |wait hr hp hy ho=>rw[hy];exact Gk _
 |lead hr hp hy ho=>rw[hy];exact Gk _
 |beat hr hp hy ho=>rw[hy];exact Gk _
 |stand hn hr hp hy ho=>rw[hy];show x.g.term<=x.g.term+1;omega
 |one hn hr hp hw=>rw[hw.g];show x.g.term<=x.g.term+1;omega
def Tk.outs{x:ND}(h:Tk x y out)(hid:y.id=x.id):∀a∈out,a.frm=x.id/\a.term=y.g.term/\(Xv a/\y.role=2\/a.kind=0/\y.role=1):=by
 intro a ha;cases h with
 |wait hr hp hy ho=>rw[ho]at ha;cases ha
 |lead hr hp hy ho=>rw[ho]at ha;cases ha
 |beat hr hp hy ho=>
  rw[ho]at ha;obtain⟨j,_,rfl⟩:=Gu.1 ha;exact⟨rfl,by rw[hy];rfl,.inl ⟨(ZB x j).1,by rw[hy];exact hr⟩⟩
 |stand hn hr hp hy ho=>
  rw[ho]at ha;obtain⟨j,_,rfl⟩:=Gu.1 ha;exact⟨rfl,by rw[hy];rfl,.inr ⟨rfl,by rw[hy];rfl⟩⟩
 |one hn hr hp hw=>
  rw[hw.out]at ha;obtain⟨j,_,rfl⟩:=Gu.1 ha;exact⟨GM Int.ofNat hid,rfl,.inl ⟨(ZB y j).1,hw.role⟩⟩
def ke(h:i≠p):tk (p+1) i=tk p i:=by
 unfold V.tk;by_cases h1:i<p;.rw[an h1,an Om]
 rw[ac h1,ac Om]
def tk_self:tk (p+1) p=1/\tk p p=0:=by
 unfold V.tk;rw[an Om,ac Om];exact⟨rfl,rfl⟩
def InvL.tick(h:LvB n T I Γ H)(h':LvB n T' I' Γ' (H.tickS p))(hl:H.ms.length=n)(hp:p<n)(hv:InvL n p H):InvL n (p+1) (H.tickS p):=by
 let⟨y,out,hnd,hq',ht,hid,hyn⟩:=h.tk h' hl hp;generalize H.tickS p=H' at h' hnd hq';let⟨Fp,bp⟩:=h.nd p hp;have hmt:=ht.term;have houts:=ht.outs (by rw[hid,bp.id]);have hmono:∀j,(H.nd j).g.term<=(H'.nd j).g.term:=λj=>by
  rw[hnd];split;.rename_i e;subst e;exact hmt
  exact Gk _
 have hnp:H'.nd p=y:=by rw[hnd,an rfl]
 have hnj:∀j,j≠p->H'.nd j=H.nd j:=λj e=>by rw[hnd,ac e]
 have hin:∀a∈H.q,a∈H'.q:=λa ha=>by rw[hq'];exact GT _ ha
 have hio:∀a∈out,a∈H'.q:=λa ha=>by rw[hq'];exact HH _ ha
 refine⟨λa ha hva=>?_,λL hL hr=>?_,λL hL hr=>?_⟩;rotate_right
 .have hkeep:(H.nd L).role=2->(H'.nd L).g=(H.nd L).g->(H'.nd L).peers=(H.nd L).peers->(H'.nd L).commit=(H.nd L).commit->(H'.nd L).leader=(H.nd L).leader->LvO n H' L:=λh2 e1 e2 e3 e4=>by
   let⟨lv,cm,ldr,nx⟩:=hv.lo L hL h2;have en:∀j,(H'.nd L).nxt j=(H.nd L).nxt j:=λj=>by unfold ND.nxt;rw[e2]
   have em:∀j,(H'.nd L).mat j=(H.nd L).mat j:=λj=>by unfold ND.mat;rw[e2]
   refine⟨λhle j hj hjL=>?_,λhn2 hx=>?_,e4.trans ldr,λj hj hjL=>by rw[em,en];exact nx j hj hjL⟩;.rw[em,e1];exact(lv (λk hk=>Hg (hmono k) (by have:=hle k hk;rw[e1]at this;exact this)) j hj hjL).imp id λ⟨a,ha,k⟩=>⟨a,hin a ha,k⟩
   rw[e3,e1];exact cm hn2 λj hj hjL=>by have:=hx j hj hjL;rw[em,e1]at this;exact this
  by_cases hLp:L=p
  .subst hLp;rw[hnp]at hr;cases ht with
   |wait hr' hp hy ho=>rw[hy]at hr;exact Gr hr hr'
   |lead hr' hp hy ho=>exact hkeep hr' (by rw[hnp,hy]) (by rw[hnp,hy]) (by rw[hnp,hy]) (by rw[hnp,hy])
   |beat hr' hp hy ho=>exact hkeep hr' (by rw[hnp,hy]) (by rw[hnp,hy]) (by rw[hnp,hy]) (by rw[hnp,hy])
   |stand hn hr' hp hy ho=>rw[hy]at hr;exact Gr (show(1:Int)=2 from hr) Dc
   |one hn hr' hp hw=>have:=bp.n;exact⟨λ_ j hj hjL=>Om,λh2=>Om,by rw[hnp,hw.leader];exact GM Int.ofNat bp.id,λj hj hjL=>Om⟩
  rw[hnj L hLp]at hr;exact hkeep hr (by rw[hnj L hLp]) (by rw[hnj L hLp]) (by rw[hnj L hLp]) (by rw[hnj L hLp])
 .rw[hq']at ha;rcases GE.1 ha with ha|ha
  .let⟨k,hk,e⟩:=hv.mt a ha hva;exact⟨k,hk,Hg e (hmono k)⟩
  exact⟨p,hp,by rw[hnp,(houts a ha).2.1];exact Gk _⟩
 by_cases hLp:L=p
 .subst hLp;rw[hnp]at hr;let⟨t1,t2⟩:=tk_self (p:=L);by_cases hr0:(H.nd L).role=2
  .let⟨f1,f2,f3⟩:=hv.ld L hL hr0;have hyt:y.g.term=(H.nd L).g.term:=by
    cases ht with
    |wait hr hp hy ho=>exact Gr hr0 hr
    |lead hr hp hy ho=>rw[hy]
    |beat hr hp hy ho=>rw[hy]
    |stand hn hr hp hy ho=>exact Gr hr0 hr
    |one hn hr hp hw=>exact Gr hr0 hr
   refine⟨λj hj hjL=>?_,λ⟨j,hj,hx⟩=>?_,λa ha hva hk htm=>?_⟩
   .rw[hnp,hyt,hnj j hjL,ke hjL,t1];cases ht with
    |wait hr hp hy ho=>exact Gr hr0 hr
    |lead hr hp hy ho=>
     refine(f1 j hj hjL).imp (λ⟨a,ha,h⟩=>⟨a,hin a ha,h⟩) (MZ id λ⟨g1,g2,g3,g4⟩=>⟨g1,g2,g3,?_⟩);rw[hy];show _<=(H.nd L).patience+1+_-_;rw[t2]at g4;omega
    |beat hr hp hy ho=>
     let⟨a1,a2⟩:=ZB (H.nd L) j;refine .inl ⟨(H.nd L).stamp ((H.nd L).feedMsg j),hio _ ?_,a1,GM Int.ofNat bp.id,a2,rfl⟩;rw[ho];exact Gu.2 ⟨j,jg (by rw[bp.n];exact hj) (by rw[bp.id];exact hjL),rfl⟩
    |stand hn hr hp hy ho=>exact Gr hr0 hr
    |one hn hr hp hw=>exact Gr hr0 hr
   .unfold zk;rw[hnp,hyt]at hx|-;have hjL:j≠L:=λe=>by subst e;rw[hnp,hyt]at hx;omega
    rw[hnj j hjL]at hx;rcases f2 ⟨j,hj,hx⟩with⟨a,ha,k⟩|⟨j',hj',hjL',j1,a,ha,k⟩
    .exact .inl ⟨a,hin a ha,k⟩
    exact .inr ⟨j',hj',hjL',by rw[hnj j' hjL'];exact j1,a,hin a ha,k⟩
   rw[hnp,hyt]at htm;rw[hq']at ha;rcases GE.1 ha with ha|ha
   .exact f3 a ha hva hk htm
   rw[(houts a ha).1,bp.id]
  .
   have hn1:n=1:=by
    cases ht with
    |wait hr' hp hy ho=>rw[hy]at hr;exact Gr hr hr0
    |lead hr hp hy ho=>exact Gr hr hr0
    |beat hr hp hy ho=>exact Gr hr hr0
    |stand hn hr' hp hy ho=>rw[hy]at hr;exact Gr (show(1:Int)=2 from hr) Dc
    |one hn hr hp hw=>rw[<-bp.n];exact hn
   refine⟨λj hj hjL=>Om,λ⟨j,hj,hx⟩=>?_,λa ha hva hk htm=>?_⟩
   .have:j=L:=by omega
    subst this;omega
   .unfold Vd at hva;omega
 rw[hnj L hLp]at hr;let⟨f1,f2,f3⟩:=hv.ld L hL hr;have hask:¬(H.nd L).g.term<(H.nd p).g.term->(H.nd L).g.term<y.g.term->∃a∈H'.q,Vd n a/\a.to=L/\(H.nd L).g.term<a.term:=λg1 g2=>by
  cases ht with
  |wait hr hp hy ho=>rw[hy]at g2;exact Gr g2 g1
  |lead hr hp hy ho=>rw[hy]at g2;exact Gr g2 g1
  |beat hr hp hy ho=>rw[hy]at g2;exact Gr g2 g1
  |stand hn hr hp' hy ho=>
   refine⟨(H.nd p).stood.stamp ((H.nd p).stood.askMsg L),hio _ ?_,?_,rfl,by rw[hy]at g2;exact g2⟩;.rw[ho];exact Gu.2 ⟨L,jg (by rw[bp.n];exact hL) (by rw[bp.id];exact hLp),rfl⟩
   have e1:((H.nd p).stood.stamp ((H.nd p).stood.askMsg L)).frm=p:=GM Int.ofNat bp.id;have e2:((H.nd p).stood.stamp ((H.nd p).stood.askMsg L)).to=L:=rfl;unfold Vd;rw[e1,e2];omega
  |one hn hr hp' hw=>rw[bp.n]at hn;omega
 refine⟨λj hj hjL=>?_,λ⟨j,hj,hx⟩=>?_,λa ha hva hk htm=>?_⟩
 .rw[hnj L hLp,ke hLp];have f:=f1 j hj hjL;by_cases hjp:j=p
  .subst hjp;rw[hnp,tk_self.1];rw[tk_self.2]at f;rcases f with⟨a,ha,k⟩|f|⟨g1,g2,g3,g4⟩
   .exact .inl ⟨a,hin a ha,k⟩
   .exact .inr (.inl Om)
   refine .inr ?_;cases ht with
   |wait hr hp hy ho=>rw[hy];exact .inr ⟨g1,g2,g3,by show(H.nd j).patience+1<=_;omega⟩
   |lead hr hp hy ho=>omega
   |beat hr hp hy ho=>omega
   |stand hn hr hp hy ho=>rw[hy];left;show _<(H.nd j).g.term+1;omega
   |one hn hr hp hw=>rw[bp.n]at hn;clear hask f1 f2 f3;omega
  rw[hnj j hjp,ke hjp];exact f.imp (λ⟨a,ha,k⟩=>⟨a,hin a ha,k⟩) id
 .unfold zk;rw[hnj L hLp]at hx|-;by_cases hb:∃k,k<n/\(H.nd L).g.term<(H.nd k).g.term
  .rcases f2 hb with⟨a,ha,k⟩|⟨j',hj',hjL',j1,a,ha,k⟩;.exact .inl ⟨a,hin a ha,k⟩
   exact .inr ⟨j',hj',hjL',J4 j1 (hmono j'),a,hin a ha,k⟩
  by_cases hjp:j=p;.subst hjp;rw[hnp]at hx;exact .inl (hask (λg=>hb ⟨j,hj,g⟩) hx)
  rw[hnj j hjp]at hx;exact Gr ⟨j,hj,hx⟩ hb
 rw[hnj L hLp]at htm;rw[hq']at ha;rcases GE.1 ha with ha|ha
 .exact f3 a ha hva hk htm
 let⟨o1,o2,o3⟩:=houts a ha;have h5:p=L:=eQ h' hp hL (by rw[hnp];rcases o3 with o3|o3;exact o3.2;exfalso;unfold Xv at hk;omega) (by rw[hnj L hLp];exact hr) (by rw[hnp,hnj L hLp,<-o2];exact htm);exact Gr h5.symm hLp
def InvL.turn(h:InvL n n H):InvL n 0 H:=by
 refine⟨h.mt,λL hL hr=>?_,h.lo⟩;let⟨a,b,c⟩:=h.ld L hL hr;refine⟨λj hj hjL=>(a j hj hjL).imp id (MZ id λ⟨g1,g2,g3,g4⟩=>⟨g1,g2,g3,?_⟩),b,c⟩;unfold V.tk at g4|-;rw[an hj,an hL]at g4;rw[ac Om,ac Om];omega
def Stp(n:Nat)(H H':GS):Prop:=∃T I Γ T' I' Γ',LvB n T I Γ H/\LvB n T' I' Γ' H'/\Γ.le n Γ'/\H.ms.length=n
def LW.dels1(h:LW n (c+1) d H):LW n c d (H.delS 0)/\Stp n H (H.delS 0):=by
 refine⟨h.del,?_⟩;have hl:=h.len;obtain⟨G,Γ,h1,h2,rfl⟩:=h;obtain⟨a,b⟩:=SJ11.del (k:=0) ⟨h1.1.gj,h1.2⟩;obtain⟨Δ,hle,h3⟩:=av h2 h1.1.gj 0;obtain⟨T,I,_,k1⟩:=gU h1.1 h1.2 h2;obtain⟨T',I',_,k2⟩:=gU (h1.1.del 0) a.2 h3;rw[b]at k2;exact⟨T,I,Γ,T',I',Δ,k1,k2,hle,hl.1⟩
def LW.tick1(h:LW n (c+1) (d+1) H)(hi:i<n):LW n c d (H.tickS i)/\Stp n H (H.tickS i):=by
 refine⟨h.tick hi,?_⟩;have hl:=h.len;obtain⟨G,Γ,h1,h2,rfl⟩:=h;obtain⟨a,b⟩:=SJ11.tick ⟨h1.1.gj,h1.2⟩ hi;obtain⟨Δ,hle,h3⟩:=aS h2 h1.1.gj i;obtain⟨T,I,_,k1⟩:=gU h1.1 h1.2 h2;obtain⟨T',I',_,k2⟩:=gU (h1.1.tick hi) a.2 h3;rw[b]at k2;exact⟨T,I,Γ,T',I',Δ,k1,k2,hle,hl.1⟩
def Stp.dl{n:Nat}{H:GS}(h:Stp n H (H.delS 0)){m:Msg}{l:List Msg}(hq:H.q=m::l):Dl n H (H.delS 0) m l:=by
 let⟨T,I,Γ,T',I',Γ',h1,h2,_,hl⟩:=h;exact h1.dl h2 hl hq
def Stp.tk{n p:Nat}{H:GS}(h:Stp n H (H.tickS p))(hp:p<n):∃y out,(∀j,(H.tickS p).nd j=if j=p then y else H.nd j)/\(H.tickS p).q=H.q++out/\Tk (H.nd p) y out/\y.id=p/\y.n=n:=by
 let⟨T,I,Γ,T',I',Γ',h1,h2,_,hl⟩:=h;exact h1.tk h2 hl hp
structure NdC (n i:Nat) (x:ND):Prop where
 id:x.id=i
 n:x.n=n
 pat:0<=x.patience
def Stp.nd{n:Nat}{H H':GS}(h:Stp n H H'){i:Nat}(hi:i<n):NdC n i (H.nd i):=by
 let⟨T,I,Γ,T',I',Γ',h1,h2,_,hl⟩:=h;let⟨F,b⟩:=h1.nd i hi;exact⟨b.id,b.n,b.ub.inn.patience.1⟩
def Stp.inv(h:Stp n H (H.delS 0)){l:List Msg}(hq:H.q=m::l)(hv:InvL n 0 H):InvL n 0 (H.delS 0):=by
 let⟨T,I,Γ,T',I',Γ',h1,h2,h3,hl⟩:=h;exact InvL.del h1 h2 h3 hl hq hv
def Stp.invT(h:Stp n H (H.tickS p))(hp:p<n)(hv:InvL n p H):InvL n (p+1) (H.tickS p):=by
 let⟨T,I,Γ,T',I',Γ',h1,h2,h3,hl⟩:=h;exact InvL.tick h1 h2 hl hp hv
def Stp.ldI(h:Stp n H (H.delS 0)){l:List Msg}(hq:H.q=m::l)(hv:InvL n 0 H)(hL:L<n){A':List Msg}(hA:∀a∈A,a=m\/a∈A')(h2:(H.nd L).role=2)(hr:((H.delS 0).nd L).role=2)(hd:LdI n H 0 L A):LdI n (H.delS 0) 0 L A'/\((H.delS 0).nd L).g.term=(H.nd L).g.term/\((H.delS 0).nd L).patience=(H.nd L).patience:=by
 let⟨T,I,Γ,T',I',Γ',k1,k2,_,hl⟩:=h;exact LdI.del k1 k2 hl hq hv.mt hL hA h2 hr hd
def Stp.was(h:Stp n H (H.delS 0)){l:List Msg}(hq:H.q=m::l)(hL:L<n)(hr:((H.delS 0).nd L).role=2):(H.nd L).role=2\/((H.nd L).role=1/\m.kind=1/\m.to=L/\∃out,(H.delS 0).q=l++out/\Won (H.nd L) ((H.delS 0).nd L) out):=by
 let⟨T,I,Γ,T',I',Γ',k1,k2,_,hl⟩:=h;exact iT k1 k2 hl hq hL hr
def YR:Nat->(Nat->Int)->Int
 |0,_=>0
 |n+1,f=>YR n f+f n
def yB{f g:Nat->Int}:∀{n:Nat},(∀j,j<n->f j<=g j)->YR n f<=YR n g
 |0,_=>Gk _
 |n+1,h=>by
  have h1:=yB (f:=f) (g:=g) (n:=n) (λj hj=>h j Om);have h2:=h n Om;unfold YR;omega
def bQ{f g:Nat->Int}{i:Nat}:∀{n:Nat},i<n->(∀j,j<n->j≠i->f j=g j)->YR n f+g i=YR n g+f i
 |0,h,_=>Om
 |n+1,hi,h=>by
  unfold YR;by_cases e:i=n;.subst e;have:YR i f=YR i g:=Kv (yB λj hj=>I2 (h j Om Om)) (yB λj hj=>I2 (h j Om Om).symm);omega
  have h1:=bQ (f:=f) (g:=g) (n:=n) (i:=i) Om (λj hj hji=>h j Om hji);have h2:=h n Om (λh=>e h.symm);omega
def nt{f:Nat->Int}{a b:Int}:∀{n:Nat},(∀j,j<n->a<=f j/\f j<=b)->a*n<=YR n f/\YR n f<=b*n
 |0,_=>by unfold YR;omega
 |n+1,h=>by
  have h1:=nt (f:=f) (n:=n) (λj hj=>h j Om);have h2:=h n Om;unfold YR;have e1:a*((n+1:Nat):Int)=a*n+a:=by rw[Int.natCast_succ,Int.mul_add,Int.mul_one]
  have e2:b*((n+1:Nat):Int)=b*n+b:=by rw[Int.natCast_succ,Int.mul_add,Int.mul_one]
  omega
def zd(m:Msg):Bool:=decide (m.kind=0)||decide (m.kind=1)
def ci(m:Msg):Bool:=decide (m.kind=0)
def mV(q:List Msg):Nat:=q.countP zd
def mA(q:List Msg):Nat:=q.countP ci
def mX(q:List Msg):Nat:=q.countP (λm=> !zd m)
def yp(q:List Msg):mV q+mX q=q.length:=by
 unfold mV mX;induction q with
 |nil=>rfl
 |cons m q ih=>
  rw[JG,JG,GD];cases zd m<;>simp<;>omega
def dR(a b:List Msg):mV (a++b)=mV a+mV b/\mX (a++b)=mX a+mX b/\mA (a++b)=mA a+mA b:=⟨JZ,JZ,JZ⟩
def vI(m:Msg):Nat:=if zd m=true then 1 else 0
def aI(m:Msg):Nat:=if ci m=true then 1 else 0
def bv(m:Msg)(l:List Msg):mV (m::l)=mV l+vI m/\mX (m::l)+vI m=mX l+1/\mA (m::l)=mA l+aI m:=by
 unfold mV mX mA vI aI;rw[JG,JG,JG];refine⟨rfl,?_,rfl⟩;cases zd m<;>simp
def gT{q:List Msg}(h:∀m∈q,¬m.kind=0/\¬m.kind=1):mV q=0:=by
 unfold mV;rw[KM];intro m hm;have:=h m hm;unfold zd;simp[this]
def Co{q:List Msg}(h:mV q=0):∀m∈q,¬m.kind=0/\¬m.kind=1:=by
 unfold mV at h;rw[KM]at h;intro m hm;have:=h m hm;unfold zd at this;simpa using this
def lJ{q:List Msg}(h:∀m∈q,¬m.kind=0):mA q=0:=by
 unfold mA;rw[KM];intro m hm;have:=h m hm;unfold ci;simpa using this
def qY(h:y.id<y.n):y.others.length+1<=y.n:=by
 unfold ND.others;have h1:((List.range y.n).filter (λi=>i !=y.id)).length<(List.range y.n).length:=by
  rw[List.length_filter_lt_length_iff_exists];exact⟨y.id,KE.2 h,Si⟩
 rw[List.length_range]at h1;exact h1
def zv(H:GS)(i:Nat):Int:=if(H.nd i).role=1 then 1 else 0
def zK(n:Nat)(H:GS):Int:=YR n (zv H)
def kR(H:GS)(i:Nat):0<=zv H i/\zv H i<=1:=by unfold zv;split<;>omega
def Ef.pot(hn:n<=5){x:ND}(h:Ef x m y out)(hy:y.id<n/\y.n=n)(hp0:0<=x.patience):
  mA out=0/\mV out<=aI m/\y.patience<=x.patience/\((mX out+vI m<=1/\(y.role=1->x.role=1))\/(x.role=1/\¬y.role=1/\m.kind=1/\mX out<=4/\mV out=0))/\((y.patience=x.patience\/y.patience=0)):=by
 have Zj:∀a:Msg,¬a.kind=0->¬a.kind=1->mA [a]=0/\mV [a]=0/\mX [a]=1:=λa h0 h1=>by
  have e:zd a=false:=by unfold zd;simp[h0,h1]
  have e2:ci a=false:=by unfold ci;simp[h0]
  unfold mA mV mX;simp[e,e2]
 have feed:∀(z:ND) (j:Nat),¬(z.stamp (z.feedMsg j)).kind=0/\¬(z.stamp (z.feedMsg j)).kind=1:=λz j=>by
  have:=(ZB z j).1;unfold Xv at this;omega
 have v3:¬m.kind=0->¬m.kind=1->vI m=0:=λh0 h1=>by unfold vI zd;simp[h0,h1]
 cases h with
 |ask hk hy' ho=>
  have e1:zd (x.stamp (ND.voteMsg m (x.grants m)))=true:=rfl;have e2:ci (x.stamp (ND.voteMsg m (x.grants m)))=false:=rfl;have e3:vI m=1/\aI m=1:=by unfold vI aI zd ci;simp[hk]
  rw[ho,e3.1,e3.2];have hpx:y.patience<=x.patience\/y.patience=0:=by
   rw[hy'];split;.exact .inr rfl
   exact .inl (Gk _)
  refine⟨by unfold mA;simp[e2],by unfold mV;simp[e1],?_,.inl ⟨by unfold mX;simp[e1],?_⟩,?_⟩;.rcases hpx with h|h<;>omega
  .rw[hy'];split<;>exact id
  rw[hy'];split;.exact .inr rfl
  exact .inl rfl
 |win hk hr ht hok hm hw=>
  have hz:∀a∈out,¬a.kind=0/\¬a.kind=1:=λa ha=>by
   rw[hw.out]at ha;obtain⟨j,_,rfl⟩:=Gu.1 ha;exact feed y j
  have hl:out.length<=4:=by
   rw[hw.out,H8];have:=qY (y:=y) Om;omega
  have h1:=yp out;have h2:=gT hz;exact⟨lJ λa ha=>(hz a ha).1,Om,by rw[hw.pat];exact hp0,.inr ⟨hr,by rw[hw.role];decide,hk,Om,h2⟩,.inr hw.pat⟩
 |vt hk hr ht hok hm hy' ho=>
  rw[ho,hy'];exact⟨rfl,He _,Gk _,.inl ⟨by unfold vI;split<;>simp[mX],λ_=>hr⟩,.inl rfl⟩
 |qt h0 h1 h2 h3 hy' ho=>
  rw[ho,hy'];exact⟨rfl,He _,Gk _,.inl ⟨by unfold vI;split<;>simp[mX],id⟩,.inl rfl⟩
 |low hk ht hy' ho=>
  unfold Xv at hk;obtain⟨a,b,c⟩:=Zj (x.stamp {Msg.zero with kind:=3,to:=m.frm,ok:=false,index:=0}) (by show¬(3:Int)=0;decide) (by show¬(3:Int)=1;decide);rw[ho,hy',a,b,c,v3 Om Om];exact⟨rfl,He _,Gk _,.inl ⟨Gl _,id⟩,.inl rfl⟩
 |fed hk ht hr hd hf=>
  unfold Xv at hk;rw[v3 Om Om];obtain⟨c1,c2,c3,c4,c5⟩:=hf.c;have hp:mA out=0/\mV out=0/\mX out<=1:=by
   rcases hf.out with e|⟨b,e,b1,_⟩;.rw[e];exact⟨rfl,rfl,He _⟩
   rw[e];obtain⟨a,b,c⟩:=Zj b Om Om;exact⟨a,b,Om⟩
  exact⟨hp.1,Om,Om,.inl ⟨Om,λh=>Om⟩,.inr c3⟩
 |hrd hk hr ht hd hh=>
  rw[v3 Om Om];obtain⟨c1,c2,c3,c4⟩:=hh.c;have hp:mA out=0/\mV out=0/\mX out<=1:=by
   rcases hh.out with e|e;.rw[e];exact⟨rfl,rfl,He _⟩
   rw[e];obtain⟨a,b,c⟩:=Zj (y.stamp (y.feedMsg m.frm.toNat)) (feed y _).1 (feed y _).2;exact⟨a,b,Om⟩
  exact⟨hp.1,Om,Om,.inl ⟨Om,λh=>Om⟩,.inl c3⟩
def Stp.pot{n:Nat}(hn:n<=5){H:GS}(h:Stp n H (H.delS 0)){m:Msg}{l:List Msg}(hq:H.q=m::l):
  ∃out,(H.delS 0).q=l++out/\mA out=0/\mV out<=aI m/\(mX out:Int)+4*zK n (H.delS 0)+vI m<=1+4*zK n H/\(∀i,i<n->((H.delS 0).nd i).patience<=(H.nd i).patience)/\(¬m.kind=1->mX out<=1):=by
 have hd:=h.dl hq;have hnd':=λi hi=>h.nd (i:=i) hi;generalize H.delS 0=H' at hd;have hvm:vI m<=1:=by unfold vI;split<;>omega
 cases hd with
 |skip hx hnd hq'=>
  refine⟨[],by rw[hq',HY],rfl,He _,?_,λi hi=>by rw[hnd];exact Gk _,λ_=>He _⟩;have:zK n H'=zK n H:=by unfold zK zv;simp[hnd]
  rw[this];show(0:Int)+_+_<=_;omega
 |go i y out hi hto hvm' hnd hq' he hid=>
  have hu:=yN (H.nd i) m.term;let⟨c1,c2,c3⟩:=hnd' i hi;let⟨p1,p2,p3,p4,p5⟩:=he.pot hn (by rw[hid.1,hid.2];exact⟨hi,rfl⟩) (by rw[hu.rest.1];exact c3);have hs:zK n H'+zv H i=zK n H+zv H' i:=bQ hi λj _ hj=>by unfold zv;rw[hnd,ac hj]
  have hni:H'.nd i=y:=by rw[hnd,an rfl]
  have hc1:=kR H i;have hc2:=kR H' i;refine⟨out,hq',p1,p2,?_,λj hj=>?_,λh=>Om⟩
  .rcases p4 with⟨q1,q2⟩|⟨q1,q2,q3,q4,q5⟩
   .have:zv H' i<=zv H i:=by
     unfold zv;rw[hni];by_cases h1:y.role=1;.let⟨e1,_⟩:=hu.two (by have:=q2 h1;omega);rw[an h1,an (by rw[<-e1];exact q2 h1)];exact Gk _
     rw[ac h1];split<;>omega
    omega
   have h1:zv H' i=0:=by unfold zv;rw[hni,ac q2]
   have h2:zv H i=1:=by
    let⟨e1,_⟩:=hu.two Om;unfold zv;rw[an (by rw[<-e1];exact q1)]
   omega
  rw[hnd];split;.rename_i e;subst e;rw[hu.rest.1]at p3;exact p3
  exact Gk _
def Tk.pot(hn:n<=5){x:ND}(h:Tk x y out)(hx:x.id<n/\x.n=n)(hy:y.id<n/\y.n=n):
  (out=[]/\y.g=x.g/\y.role=x.role/\y.leader=x.leader/\y.patience=x.patience+1/\(x.role=2->x.patience<2))\/
  (x.role=2/\y={x with patience:=0}/\2<=x.patience/\mV out=0/\mA out=0/\mX out<=4)\/
  (¬x.role=2/\9<=x.patience/\y.patience=0/\y.g.term=x.g.term+1/\¬y.role=0/\mX out=0/\mV out<=4/\mA out=mV out/\(1<n->y.role=1)):=by
 have feed:∀(z:ND) (j:Nat),¬(z.stamp (z.feedMsg j)).kind=0/\¬(z.stamp (z.feedMsg j)).kind=1:=λz j=>by
  have:=(ZB z j).1;unfold Xv at this;omega
 have hl:=yL x.id x.g.term;cases h with
 |wait hr hp hy' ho=>exact .inl ⟨ho,by rw[hy'],by rw[hy'],by rw[hy'],by rw[hy'],λh=>Gr h hr⟩
 |lead hr hp hy' ho=>exact .inl ⟨ho,by rw[hy'],by rw[hy'],by rw[hy'],by rw[hy'],λh=>Om⟩
 |beat hr hp hy' ho=>
  have hz:∀a∈out,¬a.kind=0/\¬a.kind=1:=λa ha=>by
   rw[ho]at ha;obtain⟨j,_,rfl⟩:=Gu.1 ha;exact feed x j
  have h1:=yp out;have h2:=gT hz;have h3:out.length<=4:=by
   rw[ho,H8];have:=qY (y:=x) Om;omega
  exact .inr (.inl ⟨hr,hy',Om,h2,lJ λa ha=>(hz a ha).1,Om⟩)
 |stand hn1 hr hp hy' ho=>
  have hz:∀a∈out,a.kind=0:=λa ha=>by
   rw[ho]at ha;obtain⟨j,_,rfl⟩:=Gu.1 ha;rfl
  have e1:mV out=out.length:=by
   unfold mV;rw[JF];intro a ha;have:=hz a ha;unfold zd;simp[this]
  have e2:mA out=out.length:=by
   unfold mA;rw[JF];intro a ha;have:=hz a ha;unfold ci;simp[this]
  have h1:=yp out;have h3:out.length<=4:=by
   rw[ho,H8];have:=qY (y:=x) Om;omega
  refine .inr (.inr ⟨hr,Om,by rw[hy'];rfl,by rw[hy'];rfl,by rw[hy'];show¬(1:Int)=0;decide,Om,Om,Om,λ_=>by rw[hy'];rfl⟩)
 |one hn1 hr hp hw=>
  have h3:out=[]:=by
   have h4:=qY (y:=y) Om;have:y.others=[]:=IE.1 Om;rw[hw.out,this];rfl
  refine .inr (.inr ⟨hr,Om,hw.pat,by rw[hw.g];rfl,by rw[hw.role];decide,by rw[h3];rfl,by rw[h3];exact He _,by rw[h3];rfl,λh=>Om⟩)
def qW(H:GS):∀k,H.delsS (k+1)=H.del1S.delsS k
 |0=>rfl
 |k+1=>by show(H.delsS (k+1)).del1S=(H.del1S.delsS k).del1S;rw[qW H k]
def jW(H:GS)(a:Nat):∀b,H.delsS (a+b)=(H.delsS a).delsS b
 |0=>rfl
 |b+1=>by show(H.delsS (a+b)).del1S=((H.delsS a).delsS b).del1S;rw[jW H a b]
def jV{n:Nat}{J:GS->Prop}(step:∀m l H,Stp n H (H.delS 0)->H.q=m::l->J H->J (H.delS 0)):∀{k c d:Nat} {H:GS},LW n (c+k) d H->J H->J (H.delsS k)/\LW n c d (H.delsS k)
 |0,c,d,H,h,hj=>⟨hj,h⟩
 |k+1,c,d,H,h,hj=>by
  rw[qW];have h:LW n (c+k+1) d H:=h;cases hq:H.q with
  |nil=>rw[yw hq];exact jV step (h.leq Om (Gl _)) hj
  |cons m l=>
   rw[co hq];let⟨h1,h2⟩:=h.dels1;exact jV step h1 (step m l H h2 hq hj)
structure PassI (n:Nat) (H0:GS) (A:List Msg) (H:GS):Prop where
 pre:A<+:H.q
 inv:InvL n 0 H
 ld:∀L,L<n->(H.nd L).role=2->((H0.nd L).role=2/\(H.nd L).g.term=(H0.nd L).g.term/\(H.nd L).patience=(H0.nd L).patience/\LdI n H 0 L A/\(zk n H0 L->∃a∈A,Vd n a/\a.to=L/\(H.nd L).g.term<a.term))\/((H.nd L).patience=0/\0<mV H0.q)
 a:mA H.q=mA A
 v:mV H.q+mA A<=mA H0.q+mV A
 v2:mV H.q<=mV H0.q
 x:(mX H.q:Int)+4*zK n H<=mX H0.q+4*zK n H0
 x0:mV H0.q=0->mX H.q<=mX H0.q
 pat:∀i,i<n->(H.nd i).patience<=(H0.nd i).patience
 tm:∀i,i<n->∃k,k<n/\(H.nd i).g.term<=(H0.nd k).g.term
def PassI.start(h:InvL n 0 H):PassI n H H.q H:=
 ⟨If _,h,λL hL hr=>.inl ⟨hr,rfl,rfl,h.ld L hL hr,λh=>h⟩,rfl,Om,Gl _,Gk _,λ_=>Gl _,λi _=>Gk _,λi hi=>⟨i,hi,Gk _⟩⟩
def PassI.del(hn:n<=5)(h:PassI n H0 A H)(hs:Stp n H (H.delS 0)){l:List Msg}(hq:H.q=m::l):PassI n H0 A.tail (H.delS 0):=by
 let⟨out,hq',o1,o2,o3,o4,o5⟩:=hs.pot hn hq
 have hd:=hs.dl hq
 let⟨v1,x1,a1⟩:=bv m l
 let⟨v3,x3,a3⟩:=dR l out
 have hA:A=[]\/A=m::A.tail:=by
   have:=h.pre
   rw[hq]at this
   cases A with
   |nil=>exact .inl rfl
   |cons b A=>
     rw[Mu]at this
     exact .inr (by rw[this.1];rfl)
 have hAm:∀a∈A,a=m\/a∈A.tail:=λa ha=>by
   rcases hA with e|e
   . rw[e]at ha;cases ha
   . rw[e]at ha;exact Gn.1 ha
 have ha0:=h.a
 have hv0:=h.v
 have hv2:=h.v2
 have hx0:=h.x
 rw[hq]at ha0 hv0 hv2 hx0
 have hcnt:mA (l++out)=mA A.tail/\mV (l++out)+mA A.tail<=mA H0.q+mV A.tail:=by
   rcases hA with e|e
   . rw[e]at ha0 hv0|-
     have z1:mA ([]:List Msg)=0:=rfl
     have z2:mV ([]:List Msg)=0:=rfl
     rw[List.tail_nil];omega
   . obtain⟨v4,x4,a4⟩:=bv m A.tail
     rw[<-e]at v4 a4
     omega
 have hav:aI m<=vI m:=by
   unfold aI vI
   by_cases h1:ci m=true
   . rw[an h1,an (by unfold ci at h1;unfold zd;rw[h1];rfl)];exact Gl _
   . rw[ac h1];exact He _
 refine⟨?_,hs.inv hq h.inv,λL hL hr=>?_,by rw[hq'];exact hcnt.1,by rw[hq'];exact hcnt.2,by rw[hq'];omega,by rw[hq'];omega,λhz=>?_,λi hi=>Hg (o4 i hi) (h.pat i hi),λi hi=>?_⟩
 . rw[hq']
   rcases hA with e|e
   . rw[e];exact JR
   . have:=h.pre
     rw[hq,e,Mu]at this
     exact this.2.trans (I9 _ _)
 . rcases hs.was hq hL hr with h2|⟨h1,k1,hto,out',hq2,hw⟩
   . rcases h.ld L hL h2 with⟨b1,b2,b3,b4,b5⟩|⟨b1,b2⟩
     . obtain⟨c1,c2,c3⟩:=hs.ldI hq h.inv hL hAm h2 hr b4
       refine .inl ⟨b1,c2.trans b2,c3.trans b3,c1,λhw=>?_⟩
       let⟨a,ha,d1,d2,d3⟩:=b5 hw
       rcases hAm a ha with e|e
       . subst e
         exfalso
         cases hd with
         |skip hx hnd hq'=>exact hx ⟨d1,Om,Om⟩
         |go i y o hi hto hvm hnd hq' he hid=>
           have:i=L:=Om
           subst this
           rw[hnd,an rfl,he.term,(yN (H.nd i) a.term).term]at c2
           omega
       . exact⟨a,e,d1,d2,by rw[c2];exact d3⟩
     . obtain⟨c1,c2,c3⟩:=hs.ldI (A:=H.q) (A':=(H.delS 0).q) hq h.inv hL (λa ha=>by rw[hq]at ha;rw[hq'];exact(Gn.1 ha).imp id (GT _)) h2 hr (h.inv.ld L hL h2)
       exact .inr ⟨c3.trans b1,b2⟩
   . refine .inr ⟨hw.pat,?_⟩
     have:vI m=1:=by unfold vI zd;rw[an (by simp[k1])]
     omega
 . have h6:=h.x0 hz
   rw[hq]at h6
   have h7:vI m=0:=Om
   have h8 := o5 (fun k1 => by have:vI m=1:=by{unfold vI zd;rw[an (by simp[k1])]}
                               omega)
   rw[hq'];omega
 . cases hd with
   |skip hx hnd hq'=>rw[hnd];exact h.tm i hi
   |go j y o hj hto hvm hnd hq'' he hid=>
     rw[hnd]
     split
     . rename_i e
       subst e
       rw[he.term,(yN (H.nd i) m.term).term]
       by_cases h5:m.term<=(H.nd i).g.term
       . rw[Ku h5];exact h.tm i hi
       . obtain⟨k,hk,e⟩:=h.inv.mt m (by rw[hq];simp) hvm
         let⟨k',hk',e'⟩:=h.tm k hk
         exact⟨k',hk',Om⟩
     . exact h.tm i hi
def PassI.dels{n:Nat}(hn:n<=5){H0:GS}:∀{k c d:Nat} {A:List Msg} {H:GS},LW n (c+k) d H->PassI n H0 A H->PassI n H0 (A.drop k) (H.delsS k)/\LW n c d (H.delsS k)
 |0,c,d,A,H,h,hj=>⟨hj,h⟩
 |k+1,c,d,A,H,h,hj=>by
  rw[qW];have h:LW n (c+k+1) d H:=h;cases hq:H.q with
  |nil=>
   have e:A=[]:=by have:=hj.pre;rw[hq]at this;exact List.prefix_nil.1 this
   rw[yw hq,e,List.drop_nil];have:=PassI.dels hn (k:=k) (A:=A) (h.leq (c:=c+k) Om (Gl _)) hj;rw[e,List.drop_nil]at this;exact this
  |cons m l=>
   rw[co hq];let⟨h1,h2⟩:=h.dels1;have:=PassI.dels hn (k:=k) h1 (hj.del hn h2 hq);rw[List.drop_tail]at this;exact this
def pass(hn:n<=5){k:Nat}(h:LW n (c+k) d H)(hv:InvL n 0 H)(hk:H.q.length<=k):PassI n H [] (H.delsS k)/\LW n c d (H.delsS k):=by
 have:=PassI.dels hn h (PassI.start hv);rw[IM hk]at this;exact this
structure Sb (n L:Nat) (H:GS):Prop where
 lt:L<n
 role:(H.nd L).role=2
 pat:(H.nd L).patience<=2
 fo:∀j,j<n->j≠L->(H.nd j).g.term=(H.nd L).g.term/\(H.nd j).role=0/\(H.nd j).leader=L/\(H.nd j).patience<=(H.nd L).patience
def PassI.lead(h:PassI n H0 [] H)(hL:L<n)(hr:(H.nd L).role=2):
  ((H0.nd L).role=2/\(H.nd L).g.term=(H0.nd L).g.term/\(H.nd L).patience=(H0.nd L).patience/\¬zk n H0 L/\(((H.nd L).patience<=2->Sb n L H)\/zk n H L))\/((H.nd L).patience=0/\0<mV H0.q):=by
 rcases h.ld L hL hr with⟨b1,b2,b3,b4,b5⟩|b
 .refine .inl ⟨b1,b2,b3,(λhw=>by obtain⟨a,ha,_⟩:=b5 hw;cases ha),?_⟩;by_cases hx:∃j,j<n/\(H.nd L).g.term<(H.nd j).g.term
  .rcases b4.nw hx with h1|⟨j,_,_,_,a,ha,_⟩;.exact .inr h1
   cases ha
  refine .inl λhp=>⟨hL,hr,hp,λj hj hjL=>?_⟩;rcases b4.fo j hj hjL with⟨a,ha,_⟩|h1|⟨g1,g2,g3,g4⟩
  .cases ha
  .exact Gr ⟨j,hj,h1⟩ hx
  unfold V.tk at g4;rw[ac Om,ac Om]at g4;exact⟨g1,g2,g3,Om⟩
 exact .inr b
def bK(q:List Msg):Nat:=(q.map λm=>if m.kind=2\/m.kind=4 then 2 else 1).sum
def Dq(q:List Msg):bK q<=2*q.length:=by
 unfold bK;induction q with
 |nil=>exact Gl _
 |cons m q ih=>rw[Hf,Io,GD];split<;>omega
def Dr(a b:List Msg):bK (a++b)=bK a+bK b:=by unfold bK;simp
def EF{n:Nat}:∀{k c d:Nat} {H:GS},LW n (c+k) d H->mV H.q=0->(∀i,i<n->¬(H.nd i).role=2)->bK H.q<=k->(H.delsS k).q=[]/\(∀i,i<n->¬((H.delsS k).nd i).role=2)/\LW n c d (H.delsS k)
 |0,c,d,H,h,h0,hr,hk=>by
  refine⟨?_,hr,h⟩
  cases hq:H.q with
  |nil=>exact hq
  |cons m l=>rw[hq]at hk;unfold bK at hk;rw[Hf,Io]at hk;split at hk<;>omega
 |k+1,c,d,H,h,h0,hr,hk=>by
  rw[qW]
  have h:LW n (c+k+1) d H:=h
  cases hq:H.q with
  |nil=>rw[yw hq];exact EF (h.leq Om (Gl _)) h0 hr (by rw[hq];exact He _)
  |cons m l=>
   rw[co hq]
   let⟨h1,h2⟩:=h.dels1
   have hm:=Co h0 m (by rw[hq];simp)
   have hl0:mV l=0:=by have:=(bv m l).1;rw[hq]at h0;omega
   have hd:=h2.dl hq
   have hwc:bK (m::l)=(if m.kind=2\/m.kind=4 then 2 else 1)+bK l:=by unfold bK;rw[Hf,Io]
   rw[hq,hwc]at hk
   have hnr:∀i,i<n->¬((H.delS 0).nd i).role=2:=λi hi h5=>by
    rcases h2.was hq hi h5 with h6|⟨_,h6,_⟩
    .exact hr i hi h6
    .omega
   refine EF h1 ?_ hnr ?_
   .cases hd with
    |skip hx hnd hq'=>rw[hq'];exact hl0
    |go i y o hi hto hvm hnd hq' he hid=>
     rw[hq',(dR l o).1,hl0,H4]
     have hu:=yN (H.nd i) m.term
     refine gT λa ha=>?_
     let⟨_,_,_,o4,o5⟩:=he.outs (by rw[hid.1,hu.rest.2.2.1,(h2.nd hi).id]) a ha
     exact⟨o4,λh6=>hm.1 (o5 h6)⟩
   .cases hd with
    |skip hx hnd hq'=>rw[hq'];split at hk<;>omega
    |go i y o hi hto hvm hnd hq' he hid=>
     rw[hq',Dr]
     have hu:=yN (H.nd i) m.term
     have hy:¬y.role=2:=by have:=hnr i hi;rw[hnd,an rfl]at this;exact this
     have hx:¬((H.nd i).up m.term).role=2:=λh6=>by
      let⟨e,_⟩:=hu.two Om
      rw[e]at h6;exact hr i hi h6
     cases he with
     |ask hk' hy' ho=>omega
     |win hk' hr' ht hok hm' hw=>omega
     |vt hk' hr' ht hok hm' hy' ho=>omega
     |qt h0 h1 h2 h3 hy' ho=>rw[ho];have:bK []=0:=rfl;split at hk<;>omega
     |low hk' ht hy' ho=>
      have:bK o=1:=by rw[ho];rfl
      rw[an (show m.kind=2\/m.kind=4 from hk')]at hk;omega
     |fed hk' ht hr' hd hf=>
      have:bK o<=1:=by
       rcases hf.out with e|⟨b,e,b1,_⟩
       .rw[e];exact He _
       .rw[e];unfold bK;rw[Hf,Io,ac Om];exact Gl _
      rw[an (show m.kind=2\/m.kind=4 from hk')]at hk;omega
     |hrd hk' hr' ht hd hh=>exact Gr hr' hx
def Sb.del(h:Sb n L H)(hv:InvL n 0 H)(hs:Stp n H (H.delS 0)){l:List Msg}(hq:H.q=m::l):Sb n L (H.delS 0):=by
 have hL:=h.lt;have hle:∀k,k<n->(H.nd k).g.term<=(H.nd L).g.term:=λk hk=>by
  by_cases e:k=L;.rw[e];exact Gk _
  exact I2 (h.fo k hk e).1
 have hd:=hs.dl hq;have hm:Vd n m->m.term<=(H.nd L).g.term:=λhvd=>by
  let⟨k,hk,e⟩:=hv.mt m (by rw[hq];simp) hvd;have:=hle k hk;omega
 have hr:((H.delS 0).nd L).role=2:=by
  generalize H.delS 0=H' at hd;cases hd with
  |skip hx hnd hq'=>rw[hnd];exact h.role
  |go i y o hi hto hvm hnd hq' he hid=>
   rw[hnd];split
   .rename_i e;subst e;have e1:=(yN (H.nd L) m.term).same (hm hvm);rw[e1]at he;have h2:=h.role;cases he with
    |ask hk hy ho=>
     rw[hy];split;.exact h2
     exact h2
    |win hk hr ht hok hm' hw=>exact hw.role
    |vt hk hr ht hok hm' hy ho=>rw[hy];exact h2
    |qt h0 h1 h2' h3 hy ho=>rw[hy];exact h2
    |low hk ht hy ho=>rw[hy];exact h2
    |fed hk ht hr hd hf=>exact Gr h2 hr
    |hrd hk hr ht hd hh=>exact hh.c.1
   exact h.role
 have tz:∀i,tk 0 i=0:=λi=>by unfold tk;rw[ac Om]
 let⟨⟨f1,f2,f3⟩,e1,e2⟩:=hs.ldI hq hv hL (A:=[]) (A':=[]) (λa ha=>by cases ha) h.role hr ⟨λj hj hjL=>.inr (.inr (by
  let⟨a,b,c,d⟩:=h.fo j hj hjL;rw[tz,tz];exact⟨a,b,c,Om⟩)),λ⟨j,hj,hx⟩=>by have:=hle j hj;omega,(hv.ld L hL h.role).ow⟩
 refine⟨hL,hr,by rw[e2];exact h.pat,λj hj hjL=>?_⟩;rcases f1 j hj hjL with⟨a,ha,_⟩|g|⟨g1,g2,g3,g4⟩
 .cases ha
 .exfalso;rw[e1]at g;generalize H.delS 0=H' at hd g;cases hd with
  |skip hx hnd hq'=>rw[hnd]at g;have:=hle j hj;omega
  |go i y o hi hto hvm hnd hq' he hid=>
   rw[hnd]at g;split at g;.rename_i e;subst e;rw[he.term,(yN (H.nd j) m.term).term]at g;have:=hle j hj;have:=hm hvm;omega
   have:=hle j hj;omega
 rw[tz,tz]at g4;exact⟨g1,g2,g3,Om⟩
def Sb.dels{k:Nat}(h:Sb n L H)(hv:InvL n 0 H)(hl:LW n (c+k) d H):Sb n L (H.delsS k)/\InvL n 0 (H.delsS k):=by
 have:=jV (J:=λH=>Sb n L H/\InvL n 0 H) (λm l H hs hq hj=>⟨hj.1.del hj.2 hs hq,hs.inv hq hj.2⟩) hl ⟨h,hv⟩;exact this.1
def Gb(n b:Nat)(H:GS):Prop:=InvL n 0 H/\((∃L,Sb n L H/\H.q.length<=b)\/(H.q=[]/\∀i,i<n->¬(H.nd i).role=2))
def DY(hn:n<=5){b r:Nat}(h:LW n (c+(4*b+r)) d H)(hv:InvL n 0 H)(h0:mV H.q=0)(hb:H.q.length<=b)(hp:∀L,L<n->(H.nd L).role=2->(H.nd L).patience<=2):Gb n b (H.delsS (4*b+r)):=by
 have e:4*b+r=b+(b+(2*b+r)):=by omega
 rw[e,jW,jW];obtain⟨p1,l1⟩:=pass hn (c:=c+(b+(2*b+r))) (k:=b) (by rw[show c+(b+(2*b+r))+b=c+(4*b+r)by omega];exact h) hv hb;have hz1:mV (H.delsS b).q=0:=by have:=p1.v2;omega
 have hb1:(H.delsS b).q.length<=b:=by have:=p1.x0 h0;have:=yp (H.delsS b).q;have:=yp H.q;omega
 obtain⟨p2,l2⟩:=pass hn (c:=c+(2*b+r)) (k:=b) (by rw[show c+(2*b+r)+b=c+(b+(2*b+r))by omega];exact l1) p1.inv hb1;have hz2:mV ((H.delsS b).delsS b).q=0:=by have:=p2.v2;omega
 have hb2:((H.delsS b).delsS b).q.length<=b:=by have:=p2.x0 hz1;have:=yp ((H.delsS b).delsS b).q;have:=yp (H.delsS b).q;omega
 by_cases hx:∃L,L<n/\((H.delsS b).nd L).role=2/\¬zk n (H.delsS b) L
 .obtain⟨L,hL,hr,hw⟩:=hx;rcases p1.lead hL hr with⟨k1,k2,k3,k4,k5⟩|⟨_,k⟩
  .have hs:Sb n L (H.delsS b):=by
    rcases k5 with k5|k5;.exact k5 (by rw[k3];exact hp L hL k1)
    exact Gr k5 hw
   obtain⟨s1,s2⟩:=hs.dels p1.inv (k:=b) (c:=c+(2*b+r)) (by rw[show c+(2*b+r)+b=c+(b+(2*b+r))by omega];exact l1);obtain⟨s3,s4⟩:=s1.dels s2 (k:=2*b+r) l2;refine⟨s4,.inl ⟨L,s3,?_⟩⟩;obtain⟨p3,_⟩:=pass hn (k:=2*b+r) l2 p2.inv Om;have:=p3.x0 hz2;have:=p3.v2;have:=yp (((H.delsS b).delsS b).delsS (2*b+r)).q;have:=yp ((H.delsS b).delsS b).q;omega
  omega
 have hnl:∀i,i<n->¬(((H.delsS b).delsS b).nd i).role=2:=λi hi hr=>by
  rcases p2.lead hi hr with⟨k1,k2,k3,k4,k5⟩|⟨_,k⟩;.exact hx ⟨i,hi,k1,k4⟩
  omega
 have hw:=Dq ((H.delsS b).delsS b).q;obtain⟨d1,d2,d3⟩:=EF l2 hz2 hnl Om;obtain⟨p3,_⟩:=pass hn (k:=2*b+r) l2 p2.inv Om;exact⟨p3.inv,.inr ⟨d1,d2⟩⟩
def ZT{n:Nat}{J:Nat->GS->Prop}(step:∀p H,p<n->Stp n H (H.tickS p)->J p H->J (p+1) (H.tickS p)){c d:Nat}{H:GS}(hj:J 0 H):∀{k:Nat},k<=n->LW n (c+k) (d+k) H->J k (H.ticksS k)/\LW n c d (H.ticksS k)
 |0,_,h=>⟨hj,h⟩
 |k+1,hk,h=>by
  have:=ZT step (c:=c+1) (d:=d+1) hj (k:=k) Om (by rw[show c+1+k=c+(k+1)by omega,show d+1+k=d+(k+1)by omega];exact h);rw[zC];let⟨a,b⟩:=this.2.tick1 (i:=k) Om;exact⟨step k _ Om b this.1,a⟩
def al(k:Int)(p:Nat)(H:GS)(i:Nat):Int:=if(H.nd i).patience>k+tk p i then 1 else 0
def qA(n:Nat)(k:Int)(p:Nat)(H:GS):Int:=YR n (al k p H)
def tw(k:Int)(p:Nat)(H:GS)(i:Nat):0<=al k p H i/\al k p H i<=1:=by unfold al;split<;>omega
structure TkI (n:Nat) (k:Int) (H0:GS) (p:Nat) (H:GS):Prop where
 inv:InvL n p H
 ld:∀L,L<n->(H.nd L).role=2->((H0.nd L).role=2/\(H.nd L).patience=(H0.nd L).patience+tk p L/\(zk n H0 L->zk n H L))\/(n=1/\L<p/\(H.nd L).patience=0)
 x:mX H.q=mX H0.q
 z:qA n k p H<=qA n k 0 H0
 v:(mV H.q:Int)+4*qA n k p H<=mV H0.q+4*qA n k 0 H0
 a:(mA H.q:Int)+4*qA n k p H<=mA H0.q+4*qA n k 0 H0
 c:zK n H+qA n k p H<=zK n H0+qA n k 0 H0
 s:(H.q=H0.q/\∀i,i<n->(H.nd i).g=(H0.nd i).g)\/qA n k p H+1<=qA n k 0 H0
def TkI.tick(hn:n<=5)(hk:0<=k/\k<=8)(hp:p<n)(h:TkI n k H0 p H)(h1:∀L,L<n->(H0.nd L).role=2->(H0.nd L).patience<=1)(hs:Stp n H (H.tickS p)):TkI n k H0 (p+1) (H.tickS p):=by
 have hiv:=hs.invT hp h.inv;have hc:=hs.nd hp;let⟨y,out,hnd,hq',ht,hid,hyn⟩:=hs.tk hp;generalize H.tickS p=H' at hiv hnd hq';let⟨a1,a2,a3⟩:=dR H.q out;have hni:H'.nd p=y:=by rw[hnd,an rfl]
 have hnj:∀j,j≠p->H'.nd j=H.nd j:=λj e=>by rw[hnd,ac e]
 have hz:qA n k (p+1) H'+al k p H p=qA n k p H+al k (p+1) H' p:=bQ hp λj _ hj=>by unfold al;rw[hnj j hj,ke hj]
 have hcd:zK n H'+zv H p=zK n H+zv H' p:=bQ hp λj _ hj=>by unfold zv;rw[hnj j hj]
 have z1:=tw k p H p;have z2:=tw k (p+1) H' p;have c1:=kR H p;have c2:=kR H' p;have hx0:=h.x;have hz0:=h.z;have hv0:=h.v;have ha0:=h.a;have hc0:=h.c;let⟨t1,t2⟩:=tk_self (p:=p);have hp1:(H.nd p).role=2->(H.nd p).patience<=1:=λhr=>by
  rcases h.ld p hp hr with⟨b1,b2,b3⟩|⟨b1,b2,b3⟩;.have:=h1 p hp b1;rw[t2]at b2;omega
  omega
 have hin:∀a∈H.q,a∈H'.q:=λa ha=>by rw[hq'];exact GT _ ha
 have hkeep:∀L,L≠p->L<n->(H'.nd L).role=2->((H0.nd L).role=2/\(H'.nd L).patience=(H0.nd L).patience+tk (p+1) L/\(zk n H0 L->zk n H' L))\/(n=1/\L<p+1/\(H'.nd L).patience=0):=λL hLp hL hr=>by
  rw[hnj L hLp]at hr|-;rw[ke hLp]
  exact(h.ld L hL hr).imp (λ⟨b1,b2,b3⟩=>⟨b1,b2,λhw=>by
   let⟨a,ha,k1,k2,k3⟩:=b3 hw;exact⟨a,hin a ha,k1,k2,by rw[hnj L hLp];exact k3⟩⟩) (λ⟨b1,b2,b3⟩=>⟨b1,Om,b3⟩)
 rcases ht.pot hn (by rw[hc.id,hc.n];exact⟨hp,rfl⟩) (by rw[hid,hyn];exact⟨hp,rfl⟩)with⟨o1,o2,o3,o4,o5,o6⟩|⟨o1,o2,o3,_⟩|⟨o1,o2,o3,o4,o5,o6,o7,o8,o9⟩
 .have e1:al k (p+1) H' p=al k p H p:=by
   unfold al;rw[hni,o5,t1,t2];by_cases h5:(H.nd p).patience>k;.rw[an Om,an Om]
   rw[ac Om,ac Om]
  have e2:zv H' p=zv H p:=by unfold zv;rw[hni,o3]
  have e3:H'.q=H.q:=by rw[hq',o1,HY]
  refine⟨hiv,λL hL hr=>?_,by rw[e3];exact hx0,Om,by rw[e3];omega,by rw[e3];omega,Om,?_⟩
  .by_cases hLp:L=p
   .subst hLp;rw[hni]at hr|-;rw[o3]at hr;rcases h.ld L hL hr with⟨b1,b2,b3⟩|⟨b1,b2,_⟩
    .refine .inl ⟨b1,by rw[t1,o5,b2,t2];omega,λhw=>?_⟩;let⟨a,ha,k1,k2,k3⟩:=b3 hw;exact⟨a,hin a ha,k1,k2,by rw[hni,o2];exact k3⟩
    omega
   exact hkeep L hLp hL hr
  rcases h.s with⟨s1,s2⟩|s1
  .refine .inl ⟨e3.trans s1,λi hi=>?_⟩;by_cases e:i=p;.subst e;rw[hni,o2];exact s2 i hi
   rw[hnj i e];exact s2 i hi
  exact .inr Om
 .have:=hp1 o1;omega
 have e1:al k p H p=1:=by unfold al;rw[t2,an Om]
 have e2:al k (p+1) H' p=0:=by unfold al;rw[hni,o3,t1,ac Om]
 refine⟨hiv,λL hL hr=>?_,by rw[hq'];omega,Om,by rw[hq'];omega,by rw[hq'];omega,Om,.inr Om⟩;by_cases hLp:L=p
 .subst hLp;rw[hni]at hr|-;refine .inr ⟨?_,Om,o3⟩;by_cases h5:1<n;.have:=o9 h5;omega
  omega
 exact hkeep L hLp hL hr
def FY(n:Nat)(H:GS):Prop:=∀L,L<n->(H.nd L).role=2->(H.nd L).patience=0\/((H.nd L).patience=1/\zk n H L)
structure Wd9 (n:Nat) (k B:Int) (H:GS):Prop where
 inv:InvL n 0 H
 h1:FY n H
 v:(mV H.q:Int)+4*qA n k 0 H<=B
 x:(mX H.q:Int)+4*zK n H+4*qA n k 0 H<=40
def aC:0<=qA n k p H/\qA n k p H<=n:=by
 have:=nt (f:=al k p H) (a:=0) (b:=1) (n:=n) (λj _=>tw k p H j);unfold qA;omega
def dw:0<=zK n H/\zK n H<=n:=by
 have:=nt (f:=zv H) (a:=0) (b:=1) (n:=n) (λj _=>kR H j);unfold zK;omega
def Bp:qA n (k+1) 0 H=qA n k n H:=by
 refine Kv (yB λj hj=>?_) (yB λj hj=>?_);all_goals
  unfold al tk
  rw[an hj,ac (show¬j<0 by omega),show k+1+0=k+1 by omega]
  exact Gk _
def tv(h:∀i,i<n->(H'.nd i).patience<=(H.nd i).patience):qA n k 0 H'<=qA n k 0 H:=yB λj hj=>by
 have:=h j hj;unfold al;by_cases h1:(H'.nd j).patience>k+tk 0 j;.rw[an h1,an Om];exact Gk _
 rw[ac h1];split<;>omega
structure Md9 (n:Nat) (k B:Int) (H0 H:GS):Prop where
 inv:InvL n 0 H
 ld:∀L,L<n->(H.nd L).role=2->(H.nd L).patience<=2/\((H.nd L).patience<=1\/zk n H L)
 v:(mV H.q:Int)+4*qA n (k+1) 0 H<=B
 a:(mA H.q:Int)+4*qA n (k+1) 0 H<=mA H0.q+4*qA n k 0 H0
 x:(mX H.q:Int)+4*zK n H+4*qA n (k+1) 0 H<=40
 s:H.q=H0.q\/qA n (k+1) 0 H+1<=qA n k 0 H0
def Wd9.mid(hn:n<=5){B:Int}(hk:0<=k/\k<=8)(h:Wd9 n k B H)(hl:LW n (c+n) (d+n) H):Md9 n k B H (H.ticksS n)/\LW n c d (H.ticksS n):=by
 have h1:∀L,L<n->(H.nd L).role=2->(H.nd L).patience<=1:=λL hL hr=>by have:=h.h1 L hL hr;omega
 have tz:∀i,tk 0 i=0:=λi=>by unfold tk;rw[ac Om]
 let⟨t,l⟩:=ZT (J:=TkI n k H) (λp H1 hp hs hj=>hj.tick hn hk hp h1 hs) ⟨h.inv,λL hL hr=>.inl ⟨hr,by rw[tz];omega,id⟩,rfl,Gk _,Gk _,Gk _,Gk _,.inl ⟨rfl,λi _=>rfl⟩⟩ (Gl n) hl;refine⟨?_,l⟩;have e:=Bp (n:=n) (k:=k) (H:=H.ticksS n);have hx:=t.x;have hv:=t.v;have ha:=t.a;have hc:=t.c;have hz:=t.z;have hv0:=h.v;have hx0:=h.x;refine⟨t.inv.turn,λL hL hr=>?_,Om,Om,Om,by rw[e];exact t.s.imp (·.1) id⟩;rcases t.ld L hL hr with⟨b1,b2,b3⟩|⟨b1,b2,b3⟩
 .have e2:tk n L=1:=by unfold tk;rw[an hL]
  rw[e2]at b2;rcases h.h1 L hL b1 with h5|⟨h5,h6⟩
  .exact⟨Om,.inl Om⟩
  exact⟨Om,.inr (b3 h6)⟩
 exact⟨Om,.inl Om⟩
def Stab(n:Nat)(H:GS):Prop:=InvL n 0 H/\∃L,Sb n L H/\H.q.length<=160/\mX H.q<=40
def lD(h:PassI n H0 [] H)(hl:LW n (c+1) d H)(hld:∀L,L<n->(H0.nd L).role=2->(H0.nd L).patience<=2/\((H0.nd L).patience<=1\/zk n H0 L)):(∃L,Sb n L H)\/FY n H:=by
 by_cases hx:∃L,Sb n L H;.exact .inl hx
 refine .inr λL hL hr=>?_;have hp:=(hl.dels1.2.nd hL).pat;rcases h.lead hL hr with⟨k1,k2,k3,k4,k5⟩|⟨k,_⟩
 .let⟨a,b⟩:=hld L hL k1;have b:=b.resolve_right k4;rcases k5 with k5|k5
  .exact Gr ⟨L,k5 Om⟩ hx
  by_cases h0:(H.nd L).patience=0;.exact .inl h0
  exact .inr ⟨Om,k5⟩
 exact .inl k
def Wd9.r1(hn:n<=5){B:Int}(hk:0<=k/\k<=8)(hB:B<=120)(h:Wd9 n k B H)(hl:LW n (c+1+(n+200)) (d+n) H):Stab n (H.roundS n)\/(Wd9 n (k+1) B (H.roundS n)/\mA (H.roundS n).q=0/\(mA H.q=0->Wd9 n (k+1) 20 (H.roundS n))):=by
 let⟨m,l⟩:=h.mid hn hk (c:=c+1+200) (d:=d) (by rw[show c+1+200+n=c+1+(n+200)by omega];exact hl);have e:=yp (H.ticksS n).q;have hv:=m.v;have hx:=m.x;have ha:=m.a;have hz:=aC (n:=n) (k:=k+1) (p:=0) (H:=H.ticksS n);have hc:=dw (n:=n) (H:=H.ticksS n);have hz0:=aC (n:=n) (k:=k) (p:=0) (H:=H);let⟨p,l2⟩:=pass hn (k:=200) l m.inv Om;have hp:PassI n (H.ticksS n) [] (H.roundS n):=p;have l2:LW n (c+1) d (H.roundS n):=l2;have p1:=hp.v;have p2:=hp.v2;have p3:=hp.x;have p4:=hp.a;have z1:mA ([]:List Msg)=0:=rfl;have z2:mV ([]:List Msg)=0:=rfl;have hzz:=tv (n:=n) (k:=k+1) hp.pat;have hc2:=dw (n:=n) (H:=H.roundS n);have hz2:=aC (n:=n) (k:=k+1) (p:=0) (H:=H.roundS n);have e2:=yp (H.roundS n).q;rcases lD hp l2 m.ld with⟨L,hL⟩|h1
 .exact .inl ⟨hp.inv,L,hL,by omega,by omega⟩
 exact .inr ⟨⟨hp.inv,h1,by omega,by omega⟩,by omega,λh0=>⟨hp.inv,h1,by omega,by omega⟩⟩
def Wd9.r2(hn:n<=5)(hk:0<=k/\k<=8)(h:Wd9 n k 20 H)(hl:LW n (c+1+(n+200)) (d+n) H):Stab n (H.roundS n)\/(Wd9 n (k+1) 20 (H.roundS n)/\mV (H.roundS n).q=0/\((H.ticksS n).q=H.q\/qA n (k+1) 0 (H.roundS n)+1<=qA n k 0 H)):=by
 let⟨m,l⟩:=h.mid hn hk (c:=c+1+200) (d:=d) (by rw[show c+1+200+n=c+1+(n+200)by omega];exact hl);have e:=yp (H.ticksS n).q;have hv:=m.v;have hx:=m.x;have hz:=aC (n:=n) (k:=k+1) (p:=0) (H:=H.ticksS n);have hc:=dw (n:=n) (H:=H.ticksS n);have z1:mA ([]:List Msg)=0:=rfl;have z2:mV ([]:List Msg)=0:=rfl;let⟨p,l1⟩:=pass hn (c:=c+1+140) (k:=60) l m.inv Om;have p1:=p.v;have p2:=p.v2;have p3:=p.x;have p4:=p.a;have hc1:=dw (n:=n) (H:=(H.ticksS n).delsS 60);have e1:=yp ((H.ticksS n).delsS 60).q;let⟨p',l2⟩:=pass hn (c:=c+1) (k:=140) l1 p.inv Om;have er:H.roundS n=((H.ticksS n).delsS 60).delsS 140:=by rw[<-jW];rfl
 rw[<-er]at p' l2;have q1:=p'.v;have q2:=p'.v2;have q3:=p'.x;have hzz:=tv (n:=n) (k:=k+1) p.pat;have hzz2:=tv (n:=n) (k:=k+1) p'.pat;have hc2:=dw (n:=n) (H:=H.roundS n);have hz2:=aC (n:=n) (k:=k+1) (p:=0) (H:=H.roundS n);have e2:=yp (H.roundS n).q;rcases lD p (c:=c+140) (by rw[show c+140+1=c+1+140 by omega];exact l1) m.ld with⟨L,hL⟩|h1
 .let⟨s1,s2⟩:=hL.dels p.inv l1;rw[<-er]at s1 s2;exact .inl ⟨s2,L,s1,by omega,by omega⟩
 rcases lD p' l2 (λL hL hr=>by have:=h1 L hL hr;exact⟨by omega,by omega⟩)with⟨L,hL⟩|h2;.exact .inl ⟨p'.inv,L,hL,by omega,by omega⟩
 refine .inr ⟨⟨p'.inv,h2,by omega,by omega⟩,by omega,m.s.imp id λh=>by omega⟩
def Calm(n:Nat)(H:GS):Prop:=InvL n 0 H/\H.q=[]/\∀i,i<n->¬(H.nd i).role=2
def Wd9.r3(hn:n<=5)(hk:0<=k/\k<=8)(h:Wd9 n k 20 H)(h0:mV H.q=0)(hl:LW n (c+1+(n+200)) (d+n) H):Stab n (H.roundS n)\/Calm n (H.roundS n)\/(Wd9 n (k+1) 20 (H.roundS n)/\mV (H.roundS n).q=0/\qA n (k+1) 0 (H.roundS n)+1<=qA n k 0 H):=by
 rcases h.r2 hn hk hl with h1|⟨h1,h2,h3⟩;.exact .inl h1
 rcases h3 with h3|h3
 .let⟨m,l⟩:=h.mid hn hk (c:=c+1+200) (d:=d) (by rw[show c+1+200+n=c+1+(n+200)by omega];exact hl);have e:=yp (H.ticksS n).q;have hx:=m.x;have hz:=aC (n:=n) (k:=k+1) (p:=0) (H:=H.ticksS n);have hc:=dw (n:=n) (H:=H.ticksS n);rw[<-h3]at h0;rcases DY hn (c:=c+1) (d:=d) (b:=40) (r:=40) l m.inv h0 Om (λL hL hr=>(m.ld L hL hr).1)with⟨a,⟨L,b1,b2⟩|b⟩;.exact .inl ⟨a,L,b1,Hn b2 Om,by have e:(H.roundS n).q.length<=40:=b2;have:=yp (H.roundS n).q;omega⟩
  exact .inr (.inl ⟨a,b⟩)
 exact .inr (.inr ⟨h1,h2,h3⟩)
def AF(n:Nat)(H:GS):Prop:=Stab n H\/Calm n H
def Reach(n j:Nat)(H:GS):Prop:=∃i,i<=j/\AF n (H.roundsS n i)
def Reach.zero(h:AF n H):Reach n j H:=⟨0,He _,h⟩
def Reach.one(h:Reach n j (H.roundS n)):Reach n (j+1) H:=by
 let⟨i,hi,h⟩:=h;exact⟨i+1,Om,by rw[XP];exact h⟩
def Reach.le{k:Nat}(h:Reach n j H)(hk:j<=k):Reach n k H:=by
 let⟨i,hi,h⟩:=h;exact⟨i,Om,h⟩
def LW.ticks(h:LW n (c+n) (d+n) H):LW n c d (H.ticksS n):=(ZT (J:=λ_ _=>True) (λ_ _ _ _ _=>trivial) trivial (Gl n) h).2
def LW.dels{k:Nat}(h:LW n (c+k) d H):LW n c d (H.delsS k):=(jV (J:=λ_=>True) (λ_ _ _ _ _ _=>trivial) h trivial).2
def LW.round(h:LW n (c+(n+200)) (d+n) H):LW n c d (H.roundS n):=LW.dels (k:=200) (LW.ticks (c:=c+200) (by rw[show c+200+n=c+(n+200)by omega];exact h))
def LW.rounds{n:Nat}:∀{k c d:Nat} {H:GS},LW n (c+k*(n+200)) (d+k*n) H->LW n c d (H.roundsS n k)
 |0,c,d,H,h=>by simpa[yi]using h
 |k+1,c,d,H,h=>by
  rw[XP];exact LW.rounds (LW.round (by rw[show c+k*(n+200)+(n+200)=c+(k+1)*(n+200)by rw[G4];omega,show d+k*n+n=d+(k+1)*n by rw[G4];omega];exact h))
def rT{n:Nat}(hn:n<=5):∀(z:Nat) {k:Int} {c d:Nat} {H:GS},0<=k->k+z<=8->Wd9 n k 20 H->mV H.q=0->qA n k 0 H<=z->LW n (c+1+(z+1)*(n+200)) (d+(z+1)*n) H->Reach n (z+1) H
 |z,k,c,d,H,h0,hk,h,hv,hz,hl=>by
  have hl1:LW n (c+z*(n+200)+1+(n+200)) (d+z*n+n) H:=by
   rw[show c+z*(n+200)+1+(n+200)=c+1+(z+1)*(n+200)by rw[G4];omega,show d+z*n+n=d+(z+1)*n by rw[G4];omega];exact hl
  rcases h.r3 hn ⟨h0,by omega⟩ hv hl1 with h1|h1|⟨h1,h2,h3⟩;.exact(Reach.zero (j:=z) (.inl h1)).one
  .exact(Reach.zero (j:=z) (.inr h1)).one
  have hb:=aC (n:=n) (k:=k+1) (p:=0) (H:=H.roundS n);cases z with
  |zero=>omega
  |succ z=>
   refine(rT hn z (c:=c) (d:=d) Om Om h1 h2 Om ?_).one;exact LW.round (by rw[show c+1+(z+1)*(n+200)+(n+200)=c+(z+1)*(n+200)+1+(n+200)by omega];exact hl1)
def Dn(hn:n<=5)(h:Wd9 n 0 118 H)(hl:LW n (c+1+9*(n+200)) (d+9*n) H):Reach n 9 H:=by
 rcases h.r1 hn Om Om (c:=c+8*(n+200)) (d:=d+8*n) (by rw[show c+8*(n+200)+1+(n+200)=c+1+9*(n+200)by omega,show d+8*n+n=d+9*n by omega];exact hl)with h1|⟨h1,h2,_⟩;.exact(Reach.zero (j:=8) (.inl h1)).one
 have l1:LW n (c+1+8*(n+200)) (d+8*n) (H.roundS n):=LW.round (by rw[show c+1+8*(n+200)+(n+200)=c+1+9*(n+200)by omega,show d+8*n+n=d+9*n by omega];exact hl);refine Reach.one (j:=8) ?_;rcases h1.r1 hn Om Om (c:=c+7*(n+200)) (d:=d+7*n) (by rw[show c+7*(n+200)+1+(n+200)=c+1+8*(n+200)by omega,show d+7*n+n=d+8*n by omega];exact l1)with h3|⟨_,_,h3⟩
 .exact(Reach.zero (j:=7) (.inl h3)).one
 have l2:LW n (c+1+7*(n+200)) (d+7*n) ((H.roundS n).roundS n):=LW.round (by rw[show c+1+7*(n+200)+(n+200)=c+1+8*(n+200)by omega,show d+7*n+n=d+8*n by omega];exact l1);refine Reach.one (j:=7) ?_;have h3:=h3 h2;rcases h3.r2 hn Om (c:=c+6*(n+200)) (d:=d+6*n) (by rw[show c+6*(n+200)+1+(n+200)=c+1+7*(n+200)by omega,show d+6*n+n=d+7*n by omega];exact l2)with h4|⟨h4,h5,_⟩
 .exact(Reach.zero (j:=6) (.inl h4)).one
 have l3:LW n (c+1+(5+1)*(n+200)) (d+(5+1)*n) (((H.roundS n).roundS n).roundS n):=LW.round (by rw[show c+1+(5+1)*(n+200)+(n+200)=c+1+7*(n+200)by omega,show d+(5+1)*n+n=d+7*n by omega];exact l2);refine Reach.one (j:=6) ?_;have hz:=aC (n:=n) (k:=0+1+1+1) (p:=0) (H:=((H.roundS n).roundS n).roundS n);exact rT hn 5 Om Om h4 h5 Om l3
structure PhA (n:Nat) (T0:Nat->Int) (H:GS):Prop where
 nl:∀i,i<n->¬(H.nd i).role=2/\((H.nd i).role=1->T0 i<(H.nd i).g.term)/\T0 i<=(H.nd i).g.term
def rg(n:Nat)(T0:Nat->Int)(m:Msg):Prop:=(m.kind=1->m.ok=true->∀i:Nat,i<n->m.to=i->m.term<=T0 i)/\(m.kind=0->∀i:Nat,i<n->m.frm=i->m.term<=T0 i)
def NewM(n:Nat)(T0:Nat->Int)(H:GS)(m:Msg):Prop:=¬Xv m/\(m.kind=1->m.ok=true->∀i:Nat,i<n->m.to=i->m.term<=T0 i)/\∃k,k<n/\m.term<=(H.nd k).g.term
def LtM(n:Nat)(H:GS)(m:Msg):Prop:=zd m=true/\∃k,k<n/\m.term<=(H.nd k).g.term
def yX(n:Nat)(H:GS):Int:=YR n λi=>(H.nd i).patience
def PhA.ef(h:PhA n T0 H){l:List Msg}(hd:Dl n H H' m l)(hid:∀i,i<n->(H.nd i).id=i)(hst:m.kind=1->m.ok=true->∀i:Nat,i<n->m.to=i->m.term<=T0 i):
  PhA n T0 H'/\(∀i,i<n->(H.nd i).g.term<=(H'.nd i).g.term)/\∃out,H'.q=l++out/\out.length<=1/\(∀a∈out,(¬Xv a/\¬a.kind=0)/\(¬Xv m->m.kind=0)/\(m.kind=0->zd a=true)/\(a.kind=1->a.ok=true->m.kind=0/\a.to=m.frm/\a.term=m.term)/\∃k,k<n/\a.term<=(H'.nd k).g.term):=by
 cases hd with
 |skip hx hnd hq'=>exact⟨⟨λi hi=>by rw[hnd];exact h.nl i hi⟩,λi hi=>by rw[hnd];exact Gk _,[],by rw[hq',HY],He _,λa ha=>by cases ha⟩
 |go i y out hi hto hvm hnd hq' he hid'=>
  have hu:=yN (H.nd i) m.term;let⟨n1,n2,n3⟩:=h.nl i hi;have hx2:¬((H.nd i).up m.term).role=2:=λh6=>by
   let⟨e,_⟩:=hu.two Om;rw[e]at h6;exact n1 h6
  have hx1:((H.nd i).up m.term).role=1->T0 i<((H.nd i).up m.term).g.term:=λh6=>by
   let⟨e,_⟩:=hu.two Om;rw[e]at h6|-;exact n2 h6
  have hyt:=he.term;have hno:m.kind=1->m.ok=true->((H.nd i).up m.term).role=1->m.term=((H.nd i).up m.term).g.term->False:=λk1 k2 k3 k4=>by
   have:=hst k1 k2 i hi hto;have:=hx1 k3;omega
  have hnd':∀j,j<n->(H.nd j).g.term<=(H'.nd j).g.term:=λj hj=>by
   rw[hnd];split;.rename_i e;subst e;rw[hyt];exact hu.mono
   exact Gk _
  have hfin:(¬y.role=2/\(y.role=1->((H.nd i).up m.term).role=1))->PhA n T0 H':=λ⟨h2,h1⟩=>⟨λj hj=>by
   rw[hnd];split;.rename_i e;subst e;exact⟨h2,λh5=>by rw[hyt];exact hx1 (h1 h5),by rw[hyt];have:=hu.mono;omega⟩
   exact h.nl j hj⟩
  have houts:=he.outs (by rw[hid'.1,hu.rest.2.2.1,hid i hi]);have hmt:∀a∈out,∃k,k<n/\a.term<=(H'.nd k).g.term:=λa ha=>⟨i,hi,by rw[hnd,an rfl,hyt,(houts a ha).2.1];exact Gk _⟩;cases he with
  |ask hk hy ho=>
   refine⟨hfin ?_,hnd',out,hq',by rw[ho];exact Gl _,λa ha=>⟨⟨?_,(houts a ha).2.2.2.1⟩,λ_=>hk,λ_=>?_,λk1 k2=>⟨hk,?_,?_⟩,hmt a ha⟩⟩
   .rw[hy];split;.exact⟨hx2,id⟩
    exact⟨hx2,id⟩
   .rw[ho,GO]at ha;subst ha;intro h;rcases h with h|h<;>exact Gr (show(1:Int)=_ from h) Dc
   .rw[ho,GO]at ha;subst ha;rfl
   .rw[ho,GO]at ha;subst ha;rfl
   rw[ho,GO]at ha;subst ha;have k2:((H.nd i).up m.term).grants m=true:=k2;show((H.nd i).up m.term).g.term=m.term;unfold ND.grants at k2;simp[G6,HR]at k2;exact k2.1.1.1.symm
  |win hk hr ht hok hm hw=>exact(hno hk hok hr ht).elim
  |vt hk hr ht hok hm hy ho=>exact(hno hk hok hr ht).elim
  |qt h0 h1 h2 h3 hy ho=>exact⟨hfin (by rw[hy];exact⟨hx2,id⟩),hnd',out,hq',by rw[ho];exact He _,λa ha=>by rw[ho]at ha;cases ha⟩
  |low hk ht hy ho=>
   refine⟨hfin (by rw[hy];exact⟨hx2,id⟩),hnd',out,hq',by rw[ho];exact Gl _,λa ha=>⟨⟨?_,(houts a ha).2.2.2.1⟩,λh=>Gr hk h,λh=>by unfold Xv at hk;omega,λk1=>?_,hmt a ha⟩⟩;.rw[ho,GO]at ha;subst ha;intro h;rcases h with h|h<;>exact Gr (show(3:Int)=_ from h) Dc
   rw[ho,GO]at ha;subst ha;exact Gr (show(3:Int)=1 from k1) Dc
  |fed hk ht hr hd hf=>
   have hal:∀a∈out,a.kind=3:=λa ha=>by
    rcases hf.out with e|⟨b,e,b1,_⟩;.rw[e]at ha;cases ha
    rw[e,GO]at ha;rw[ha];exact b1
   have hln:out.length<=1:=by
    rcases hf.out with e|⟨b,e,b1,_⟩;.rw[e];exact He _
    rw[e];exact Gl _
   exact⟨hfin ⟨by rw[hf.c.1];decide,λh=>by rw[hf.c.1]at h;cases h⟩,hnd',out,hq',hln,λa ha=>⟨⟨λh=>by have:=hal a ha;unfold Xv at h;omega,(houts a ha).2.2.2.1⟩,λh=>Gr hk h,λh=>by unfold Xv at hk;omega,λk1=>by have:=hal a ha;omega,hmt a ha⟩⟩
  |hrd hk hr ht hd hh=>exact Gr hr hx2
inductive PhX (n:Nat) (T0:Nat->Int) (μ w:Int) (H:GS):Prop
 |a (X N:List Msg) (hq:H.q=X++N) (h:PhA n T0 H) (ho:∀m∈X,rg n T0 m) (hn:∀m∈N,NewM n T0 H m) (hμ:20*(X.length:Int)+10*N.length+4*yX n H<=μ) (hw:10*(mA N:Int)+4*yX n H<=w)
 |b (X M:List Msg) (hq:H.q=X++M) (h:PhA n T0 H) (hn:∀m∈X,NewM n T0 H m) (hm:∀m∈M,LtM n H m) (hμ:10*(X.length:Int)<=μ) (hw:10*(mA X+M.length:Int)+4*yX n H<=w)
 |c (hv:InvL n 0 H) (hl:∀L,L<n->(H.nd L).role=2->(H.nd L).patience=0) (hw:10*(mV H.q:Int)<=w) (hx:(mX H.q:Int)+4*zK n H<=20)
def wg(h:∀i,i<n->(H'.nd i).patience<=(H.nd i).patience):yX n H'<=yX n H:=yB h
def Stp.pat0(h:Stp n H H'):0<=yX n H:=by
 have:=yB (f:=λ_=>0) (g:=λi=>(H.nd i).patience) (n:=n) (λj hj=>(h.nd hj).pat);have h0:∀n,YR n (λ_=>(0:Int))=0:=λn=>by
  induction n with
  |zero=>rfl
  |succ n ih=>unfold YR;rw[ih];rfl
 rw[h0]at this;exact this
def NewM.mono(h:NewM n T0 H m)(ht:∀i,i<n->(H.nd i).g.term<=(H'.nd i).g.term):NewM n T0 H' m:=by
 let⟨a,b,k,hk,e⟩:=h;exact⟨a,b,k,hk,Hg e (ht k hk)⟩
def LtM.mono(h:LtM n H m)(ht:∀i,i<n->(H.nd i).g.term<=(H'.nd i).g.term):LtM n H' m:=by
 let⟨a,k,hk,e⟩:=h;exact⟨a,k,hk,Hg e (ht k hk)⟩
def PhA.inv(h:PhA n T0 H)(hm:∀m∈H.q,∃k,k<n/\m.term<=(H.nd k).g.term):InvL n 0 H:=⟨λm hq _=>hm m hq,λL hL hr=>Gr hr (h.nl L hL).1,λL hL hr=>Gr hr (h.nl L hL).1⟩
def FV(hn5:n<=5){w:Int}(h:PhA n T0 H)(hm:∀m∈H.q,LtM n H m)(hw:10*(H.q.length:Int)<=w):InvL n 0 H/\10*(mV H.q:Int)<=w/\(mX H.q:Int)+4*zK n H<=20:=by
 have e:mV H.q=H.q.length:=by unfold mV;rw[JF];exact λm hq=>(hm m hq).1
 have e2:=yp H.q;have hc:=dw (n:=n) (H:=H);exact⟨h.inv λm hq=>(hm m hq).2,Om,Om⟩
def AZ(hn5:n<=5){w:Int}(hs:Stp n H (H.delS 0)){l:List Msg}(hq:H.q=m::l)(hv:InvL n 0 H)(hl:∀L,L<n->(H.nd L).role=2->(H.nd L).patience=0)(hw:10*(mV H.q:Int)<=w)(hx:(mX H.q:Int)+4*zK n H<=20):PhX n T0 μ w (H.delS 0):=by
 let⟨out,hq',o1,o2,o3,o4,o5⟩:=hs.pot hn5 hq;let⟨v1,x1,a1⟩:=bv m l;let⟨v3,x3,a3⟩:=dR l out;rw[hq]at hw hx;have hav:aI m<=vI m:=by
  unfold aI vI;by_cases h1:ci m=true;.rw[an h1,an (by unfold ci at h1;unfold zd;rw[h1];rfl)];exact Gl _
  rw[ac h1];exact He _
 refine .c (hs.inv hq hv) (λL hL hr=>?_) (by rw[hq'];omega) (by rw[hq'];omega);rcases hs.was hq hL hr with h2|⟨_,_,_,out',_,hw⟩
 .let⟨c1,c2,c3⟩:=hs.ldI (A:=H.q) (A':=(H.delS 0).q) hq hv hL (λa ha=>by rw[hq]at ha;rw[hq'];exact(Gn.1 ha).imp id (GT _)) h2 hr (hv.ld L hL h2);rw[c3];exact hl L hL h2
 exact hw.pat
def A0(hn5:n<=5){w:Int}(hs:Stp n H (H.delS 0)){l:List Msg}(hq0:H.q=m::l){X M:List Msg}(hq:H.q=X++M)(h:PhA n T0 H)(hn:∀m∈X,NewM n T0 H m)(hm:∀m∈M,LtM n H m)(hμ:10*(X.length:Int)<=μ)(hw:10*(mA X+M.length:Int)+4*yX n H<=w):PhX n T0 (μ-10) w (H.delS 0):=by
 have hp0:=hs.pat0;cases X with
 |nil=>
  have hq1:H.q=M:=hq;have z1:mA ([]:List Msg)=0:=rfl;let⟨a,b,c⟩:=FV hn5 h (w:=w) (by rw[hq1];exact hm) (by rw[hq1];omega);exact AZ hn5 hs hq0 a (λL hL hr=>Gr hr (h.nl L hL).1) b c
 |cons m' X=>
  rw[hq0,HW,IH]at hq;let⟨rfl,e⟩:=hq;let⟨g1,g2,out,g3,g4,g5⟩:=h.ef (hs.dl hq0) (λi hi=>(hs.nd hi).id) (hn m Si).2.1;let⟨_,_,_,_,_,o4,_⟩:=hs.pot hn5 hq0;have hpp:=wg o4;let⟨v1,x1,a1⟩:=bv m X;rw[a1]at hw;rw[GD]at hμ;refine .b X (M++out) (by rw[g3,e,GA]) g1 (λa ha=>(hn a (by simp[ha])).mono g2) (λa ha=>?_) Om ?_
  .rcases GE.1 ha with ha|ha;.exact(hm a ha).mono g2
   let⟨k1,k2,k3,k4,k5⟩:=g5 a ha;exact⟨k3 (k2 (hn m Si).1),k5⟩
  rw[Gm];have:out.length<=aI m:=by
   cases out with
   |nil=>exact He _
   |cons a r=>
    have h6:=(g5 a Si).2.1 (hn m Si).1;have:aI m=1:=by unfold aI ci;simp[h6]
    omega
  omega
def PhX.del(hn5:n<=5){w:Int}(h:PhX n T0 μ w H)(hs:Stp n H (H.delS 0)){l:List Msg}(hq0:H.q=m::l):PhX n T0 (μ-10) w (H.delS 0):=by
 have hp0:=hs.pat0;cases h with
 |c hv hl hw hx=>exact AZ hn5 hs hq0 hv hl hw hx
 |b X M hq h hn hm hμ hw=>exact A0 hn5 hs hq0 hq h hn hm hμ hw
 |a X N hq h ho hn hμ hw=>
  cases X with
  |nil=>exact A0 hn5 hs hq0 (X:=N) (M:=[]) (by rw[HY];exact hq) h hn (λa ha=>by cases ha) (by simp at hμ;omega) (by simp;omega)
  |cons m' X=>
   rw[hq0,HW,IH]at hq;let⟨rfl,e⟩:=hq;let⟨g1,g2,out,g3,g4,g5⟩:=h.ef (hs.dl hq0) (λi hi=>(hs.nd hi).id) (ho m Si).1;let⟨_,_,_,_,_,o4,_⟩:=hs.pot hn5 hq0;have hpp:=wg o4;have ha0:mA out=0:=lJ λa ha=>(g5 a ha).1.2;have ha1:=(dR N out).2.2;rw[GD]at hμ;refine .a X (N++out) (by rw[g3,e,GA]) g1 (λa ha=>ho a (by simp[ha])) (λa ha=>?_) (by rw[Gm];omega) Om;rcases GE.1 ha with ha|ha
   .exact(hn a ha).mono g2
   let⟨⟨k1,_⟩,k2,k3,k4,k5⟩:=g5 a ha;refine⟨k1,λh1 h2 i hi hto=>?_,k5⟩;let⟨j1,j2,j3⟩:=k4 h1 h2;rw[j3];exact(ho m Si).2 j1 i hi Om
def PhX.dels{n:Nat}(hn5:n<=5){T0:Nat->Int}:∀{k c d:Nat} {μ w:Int} {H:GS},LW n (c+k) d H->PhX n T0 μ w H->∃ν,PhX n T0 ν w (H.delsS k)/\((H.delsS k).q=[]\/ν+10*k=μ)
 |0,c',d',μ,w,H,h,hj=>⟨μ,hj,.inr Si⟩
 |k+1,c',d',μ,w,H,h,hj=>by
  rw[qW];have h:LW n (c'+k+1) d' H:=h;cases hq:H.q with
  |nil=>
   rw[yw hq];have e:H.delsS k=H:=by
    have:∀j,H.delsS j=H:=λj=>by
     induction j with
     |zero=>rfl
     |succ j ih=>show(H.delsS j).del1S=H;rw[ih,yw hq]
    exact this k
   rw[e];exact⟨μ,hj,.inl hq⟩
  |cons m l=>
   rw[co hq];obtain⟨h1,h2⟩:=h.dels1;obtain⟨ν,a,b⟩:=PhX.dels hn5 h1 (hj.del hn5 h2 hq);exact⟨ν,a,b.imp id λb=>by push_cast;omega⟩
def PhX.fin{w:Int}(h:PhX n T0 μ w H)(hq:H.q=[]):AF n H:=by
 have hmt:∀m∈H.q,∃k,k<n/\m.term<=(H.nd k).g.term:=λm hm=>by rw[hq]at hm;cases hm
 cases h with
 |a X N _ h ho hn hμ hw=>exact .inr ⟨h.inv hmt,hq,λi hi=>(h.nl i hi).1⟩
 |b X M _ h hn hm hμ hw=>exact .inr ⟨h.inv hmt,hq,λi hi=>(h.nl i hi).1⟩
 |c hv hl hw hx=>
  by_cases hx:∃L,L<n/\(H.nd L).role=2
  .let⟨L,hL,hr⟩:=hx;let⟨f1,f2,f3⟩:=hv.ld L hL hr;have hno:¬∃j,j<n/\(H.nd L).g.term<(H.nd j).g.term:=λhx=>by
    rcases f2 hx with⟨a,ha,_⟩|⟨_,_,_,_,a,ha,_⟩;.rw[hq]at ha;cases ha
    rw[hq]at ha;cases ha
   refine .inl ⟨hv,L,⟨hL,hr,by rw[hl L hL hr];decide,λj hj hjL=>?_⟩,by rw[hq];exact He _,by rw[hq];exact He _⟩;rcases f1 j hj hjL with⟨a,ha,_⟩|g|⟨g1,g2,g3,g4⟩
   .rw[hq]at ha;cases ha
   .exact Gr ⟨j,hj,g⟩ hno
   unfold V.tk at g4;rw[ac Om,ac Om]at g4;exact⟨g1,g2,g3,Om⟩
  exact .inr ⟨hv,hq,λi hi hr=>hx ⟨i,hi,hr⟩⟩
def PhA.tick(hn:2<=n/\n<=5)(hp:p<n)(h:PhA n T0 H)(hs:Stp n H (H.tickS p)):
  PhA n T0 (H.tickS p)/\(∀i,i<n->(H.nd i).g.term<=((H.tickS p).nd i).g.term)/\∃out,(H.tickS p).q=H.q++out/\(∀a∈out,a.kind=0/\∃k,k<n/\a.term<=((H.tickS p).nd k).g.term)/\10*(out.length:Int)+4*yX n (H.tickS p)<=4*yX n H+4:=by
 have hc:=hs.nd hp;let⟨y,out,hnd,hq',ht,hid,hyn⟩:=hs.tk hp;generalize H.tickS p=H' at hnd hq';let⟨n1,n2,n3⟩:=h.nl p hp;have hni:H'.nd p=y:=by rw[hnd,an rfl]
 have hps:yX n H'+(H.nd p).patience=yX n H+(H'.nd p).patience:=bQ (f:=λi=>(H'.nd i).patience) (g:=λi=>(H.nd i).patience) hp λj _ hj=>by rw[hnd,ac hj]
 have hmt:=ht.term;have houts:=ht.outs (by rw[hid,hc.id]);have hmono:∀j,j<n->(H.nd j).g.term<=(H'.nd j).g.term:=λj _=>by
  rw[hnd];split;.rename_i e;subst e;exact hmt
  exact Gk _
 rw[hni]at hps;rcases ht.pot hn.2 (by rw[hc.id,hc.n];exact⟨hp,rfl⟩) (by rw[hid,hyn];exact⟨hp,rfl⟩)with⟨o1,o2,o3,o4,o5,o6⟩|⟨o1,_⟩|⟨o1,o2,o3,o4,o5,o6,o7,o8,o9⟩
 .refine⟨⟨λi hi=>?_⟩,hmono,out,hq',(λa ha=>by rw[o1]at ha;cases ha),by rw[o1];simp;omega⟩;by_cases e:i=p;.subst e;rw[hni,o2,o3];exact h.nl i hi
  rw[hnd,ac e];exact h.nl i hi
 .exact Gr o1 n1
 have hr:=o9 Om;refine⟨⟨λi hi=>?_⟩,hmono,out,hq',λa ha=>?_,?_⟩
 .by_cases e:i=p;.subst e;rw[hni];exact⟨Om,λ_=>Om,Om⟩
  rw[hnd,ac e];exact h.nl i hi
 .let⟨k1,k2,k3⟩:=houts a ha;exact⟨by rcases k3 with k3|k3;omega;exact k3.1,p,hp,by rw[hni,k2];exact Gk _⟩
 have:=yp out;omega
inductive PhY (n:Nat) (T0:Nat->Int) (μ w:Int) (H:GS):Prop
 |a (X N:List Msg) (hq:H.q=X++N) (h:PhA n T0 H) (ho:∀m∈X,rg n T0 m) (hn:∀m∈N,NewM n T0 H m) (hμ:20*(X.length:Int)+10*N.length+4*yX n H<=μ) (hw:10*(mA N:Int)+4*yX n H<=w)
 |b (X M:List Msg) (hq:H.q=X++M) (h:PhA n T0 H) (hn:∀m∈X,NewM n T0 H m) (hm:∀m∈M,LtM n H m) (hμ:10*(X.length:Int)<=μ) (hw:10*(mA X+M.length:Int)+4*yX n H<=w)
def PhY.x{w:Int}(h:PhY n T0 μ w H):PhX n T0 μ w H:=by
 cases h with
 |a X N a b c d e f=>exact .a X N a b c d e f
 |b X M a b c d e f=>exact .b X M a b c d e f
def PhY.tick{n:Nat}(hn:2<=n/\n<=5){T0:Nat->Int}{μ w:Int}{H:GS}{p:Nat}(hp:p<n)(h:PhY n T0 μ w H)(hs:Stp n H (H.tickS p)):PhY n T0 (μ+4) (w+4) (H.tickS p):=by
 cases h with
 |a X N hq h ho hn' hμ hw=>
  let⟨g1,g2,out,g3,g4,g5⟩:=h.tick hn hp hs;have h1:=(dR N out).2.2;have h2:mA out<=out.length:=List.countP_le_length;refine .a X (N++out) (by rw[g3,hq,GA]) g1 ho (λa ha=>?_) (by rw[Gm];omega) Om;rcases GE.1 ha with ha|ha
  .exact(hn' a ha).mono g2
  let⟨k1,k2⟩:=g4 a ha;exact⟨λh=>by unfold Xv at h;omega,λh=>Om,k2⟩
 |b X M hq h hn' hm hμ hw=>
  let⟨g1,g2,out,g3,g4,g5⟩:=h.tick hn hp hs;refine .b X (M++out) (by rw[g3,hq,GA]) g1 (λa ha=>(hn' a ha).mono g2) (λa ha=>?_) Om (by rw[Gm];omega);rcases GE.1 ha with ha|ha
  .exact(hm a ha).mono g2
  let⟨k1,k2⟩:=g4 a ha;exact⟨by unfold zd;simp[k1],k2⟩
def we{n:Nat}(hn:2<=n/\n<=5){T0:Nat->Int}:∀(r:Nat) {c d:Nat} {μ w:Int} {H:GS},PhY n T0 μ w H->μ<=1980*r->w+20*r<=980->LW n (c+1+r*(n+200)) (d+1+r*n) H->Reach n r H\/∃i,i<=r/\Wd9 n 0 118 (H.roundsS n i)
 |0,c,d,μ,w,H,h,hμ,hw,hl=>by
  have hp0:=(LW.dels1 (c:=c) (d:=d+1) (by simpa using hl)).2.pat0
  cases h with
  |a X N hq h ho hn' hμ' hw'=>
   have e1:X=[]:=IE.1 Om
   have e2:N=[]:=IE.1 Om
   have e:H.q=[]:=by rw[hq,e1,e2];rfl
   exact .inl (Reach.zero ((PhX.a (μ:=μ) (w:=w) X N hq h ho hn' hμ' hw').fin e))
  |b X M hq h hn' hm hμ' hw'=>
   have e1:X=[]:=IE.1 Om
   subst e1
   have hq1:H.q=M:=hq
   let⟨a,b,e⟩:=FV hn.2 h (w:=980) (by rw[hq1];exact hm) (by rw[hq1];omega)
   have hz:=aC (n:=n) (k:=0) (p:=0) (H:=H)
   exact .inr ⟨0,Gl _,a,λL hL hr=>Gr hr (h.nl L hL).1,by show(mV H.q:Int)+_<=_;rw[yi];omega,by rw[yi];omega⟩
 |r+1,c,d,μ,w,H,h,hμ,hw,hl=>by
  have hl1:LW n (c+1+r*(n+200)+200+n) (d+1+r*n+n) H:=by
   rw[show c+1+r*(n+200)+200+n=c+1+(r+1)*(n+200)by rw[G4];omega,show d+1+r*n+n=d+1+(r+1)*n by rw[G4];omega];exact hl
  let⟨h1,l1⟩:=ZT (J:=λp H=>PhY n T0 (μ+4*p) (w+4*p) H) (λp H1 hp hs hj=>by
   have:=hj.tick hn hp hs
   rw[show μ+4*((p+1:Nat):Int)=μ+4*p+4 by omega,show w+4*((p+1:Nat):Int)=w+4*p+4 by omega]
   exact this) (by simpa using h) (Gl n) hl1
  let⟨ν,h2,h3⟩:=PhX.dels hn.2 l1 h1.x
  have l2:LW n (c+1+r*(n+200)) (d+1+r*n) (H.roundS n):=l1.dels
  have h2:PhX n T0 ν (w+4*n) (H.roundS n):=h2
  have h3:(H.roundS n).q=[]\/ν+10*((200:Nat):Int)=μ+4*n:=h3
  rcases h3 with h3|h3
  .exact .inl (Reach.one (Reach.zero (h2.fin h3)))
  .have key:PhY n T0 ν (w+4*n) (H.roundS n)->Reach n (r+1) H\/∃i,i<=r+1/\Wd9 n 0 118 (H.roundsS n i):=λh4=>by
    rcases we hn r h4 Om Om l2 with h5|⟨i,hi,h5⟩
    .exact .inl h5.one
    .exact .inr ⟨i+1,by omega,by rw[XP];exact h5⟩
   cases h2 with
   |a X N a b c d e f=>exact key (.a X N a b c d e f)
   |b X M a b c d e f=>exact key (.b X M a b c d e f)
   |c hv hl hw' hx=>
    have hz:=aC (n:=n) (k:=0) (p:=0) (H:=H.roundS n)
    refine .inr ⟨1,by omega,?_⟩
    rw[XP,yi]
    exact⟨hv,λL hL hr=>.inl (hl L hL hr),by omega,by omega⟩
def tT(hn:2<=n/\n<=5)(h:PhA n T0 H)(ho:∀m∈H.q,rg n T0 m)(hp:yX n H=0)(hq:H.q.length<=4850)(hl:LW n (c+1+58*(n+200)) (d+1+58*n) H):Reach n 58 H:=by
 rcases we hn 49 (c:=c) (d:=d) (.a (μ:=97000) (w:=0) H.q [] (by rw[HY]) h ho (λm hm=>by cases hm) (by rw[hp];simp;omega) (by rw[hp];show(10:Int)*((0:Nat):Int)+_<=_;omega)) Dc Dc (hl.leq Om Om)with h1|⟨i,hi,h1⟩;.exact h1.le Om
 have hl2:LW n (c+1+9*(n+200)) (d+9*n) (H.roundsS n i):=LW.rounds (hl.leq (by
  have:=Hv (n+200) hi;omega) (by have:=Hv n hi;omega))
 let⟨j,hj,h2⟩:=Dn hn.2 h1 hl2;refine⟨i+j,Om,?_⟩;have e:∀j,H.roundsS n (i+j)=(H.roundsS n i).roundsS n j:=λj=>by
  induction j with
  |zero=>rfl
  |succ j ih=>show(H.roundsS n (i+j)).roundS n=_;rw[ih];rfl
 rw[e];exact h2
def LW.nd{n c d:Nat}{H:GS}(h:LW n (c+1) d H){i:Nat}(hi:i<n):NdC n i (H.nd i):=h.dels1.2.nd hi
def aT(hn:n<=5)(h:Calm n H)(hl:LW n (c+1+(n+200)) (d+n) H){J:GS->Prop}(hJ:J (H.ticksS n))(step:∀m l H,Stp n H (H.delS 0)->H.q=m::l->J H->J (H.delS 0)):Stab n (H.roundS n)\/(Calm n (H.roundS n)/\J (H.roundS n)):=by
 let⟨h1,h2,h3⟩:=h;have tz:∀i,tk 0 i=0:=λi=>by unfold tk;rw[ac Om]
 let⟨t,l⟩:=ZT (c:=c+1+200) (d:=d) (J:=TkI n 0 H) (λp H1 hp hs hj=>hj.tick hn Om hp (λL hL hr=>Gr hr (h3 L hL)) hs) ⟨h1,λL hL hr=>Gr hr (h3 L hL),rfl,Gk _,Gk _,Gk _,Gk _,.inl ⟨rfl,λi _=>rfl⟩⟩ (Gl n) (by rw[show c+1+200+n=c+1+(n+200)by omega];exact hl);have hx:=t.x;have hv:=t.v;have ha:=t.a;rw[h2]at hx hv ha;have z0:mA ([]:List Msg)=0:=rfl;have z1:mV ([]:List Msg)=0:=rfl;have z2:mX ([]:List Msg)=0:=rfl;have hz:=aC (n:=n) (k:=0) (p:=n) (H:=H.ticksS n);have hz0:=aC (n:=n) (k:=0) (p:=0) (H:=H);have hc:=dw (n:=n) (H:=H.ticksS n);have e:=yp (H.ticksS n).q;let⟨p1,l1⟩:=pass hn (c:=c+1+180) (k:=20) l t.inv.turn Om;have hc1:=dw (n:=n) (H:=(H.ticksS n).delsS 20);have e1:=yp ((H.ticksS n).delsS 20).q;have v1:=p1.v2;have x1:=p1.x;have a1:=p1.a;let⟨p2,l2⟩:=pass hn (c:=c+1+140) (k:=40) l1 p1.inv Om;have hc2:=dw (n:=n) (H:=((H.ticksS n).delsS 20).delsS 40);have e2:=yp (((H.ticksS n).delsS 20).delsS 40).q;have v2:=p2.v;have x2:=p2.x;have er:H.roundS n=(((H.ticksS n).delsS 20).delsS 40).delsS (4*20+60):=by rw[<-jW,<-jW];rfl
 have hp0:∀L,L<n->((H.ticksS n).nd L).role=2->((H.ticksS n).nd L).patience=0:=λL hL hr=>by
  rcases t.ld L hL hr with⟨b1,_⟩|⟨_,_,b⟩;.exact Gr b1 (h3 L hL)
  exact b
 have hp1:∀L,L<n->(((H.ticksS n).delsS 20).nd L).role=2->(((H.ticksS n).delsS 20).nd L).patience=0:=λL hL hr=>by
  rcases p1.lead hL hr with⟨b1,_,b2,_⟩|⟨b,_⟩;.rw[b2];exact hp0 L hL b1
  exact b
 have hr:=DY hn (c:=c+1) (d:=d) (b:=20) (r:=60) l2 p2.inv Om Om (λL hL hr=>by
  rcases p2.lead hL hr with⟨b1,_,b2,_⟩|⟨b,_⟩;.rw[b2,hp1 L hL b1];decide
  rw[b];decide)
 rw[<-er]at hr;have hJ2:J (H.roundS n):=(jV (k:=200) step l hJ).1;obtain⟨a,⟨L,b1,b2⟩|b⟩:=hr;.exact .inl ⟨a,L,b1,Hn b2 Om,by have:=yp (H.roundS n).q;omega⟩
 exact .inr ⟨⟨a,b⟩,hJ2⟩
def Sd(x:ND):Prop:=¬x.patience+1<YA x.id x.g.term
def YG(x:ND)(j:Nat):Msg:=x.stood.stamp (x.stood.askMsg j)
structure TkC (n:Nat) (H0:GS) (p:Nat) (H:GS):Prop where
 w:∀i,i<p->¬Sd (H0.nd i)->H.nd i={H0.nd i with patience:=(H0.nd i).patience+1}
 s:∀i,i<p->Sd (H0.nd i)->H.nd i=(H0.nd i).stood
 r:∀i,p<=i->H.nd i=H0.nd i
 q:∀m∈H.q,∃s j,s<p/\Sd (H0.nd s)/\j<n/\j≠s/\m=YG (H0.nd s) j
 a:∀s j,s<p->Sd (H0.nd s)->j<n->j≠s->YG (H0.nd s) j∈H.q
def TkC.tick(hn:2<=n)(hp:p<n)(h:TkC n H0 p H)(hr:∀i,i<n->¬(H0.nd i).role=2)(hs:Stp n H (H.tickS p)):TkC n H0 (p+1) (H.tickS p):=by
 have hc:=hs.nd hp;obtain⟨y,out,hnd,hq',ht,hid,hyn⟩:=hs.tk hp;have e0:=h.r p (Gl p);rw[e0]at ht hc;generalize H.tickS p=H' at hnd hq';have hni:H'.nd p=y:=by rw[hnd,an rfl]
 have hnj:∀j,j≠p->H'.nd j=H.nd j:=λj e=>by rw[hnd,ac e]
 cases ht with
 |lead h2 hp' hy ho=>exact Gr h2 (hr p hp)
 |beat h2 hp' hy ho=>exact Gr h2 (hr p hp)
 |one hn1 h2 hp' hw=>have:=hc.n;omega
 |wait h2 hp' hy ho=>
  have hns:¬Sd (H0.nd p):=λh=>h hp';rw[ho,HY]at hq';refine⟨λi hi hd=>?_,λi hi hd=>?_,λi hi=>?_,λm hm=>?_,λs j hs hd hj hjs=>?_⟩
  .by_cases e:i=p;.subst e;rw[hni,hy]
   rw[hnj i e];exact h.w i Om hd
  .by_cases e:i=p;.subst e;exact Gr hd hns
   rw[hnj i e];exact h.s i Om hd
  .rw[hnj i Om];exact h.r i Om
  .rw[hq']at hm;obtain⟨s,j,h1,h2⟩:=h.q m hm;exact⟨s,j,Om,h2⟩
  rw[hq'];by_cases e:s=p;.subst e;exact Gr hd hns
  exact h.a s j Om hd hj hjs
 |stand hn1 h2 hp' hy ho=>
  have hsd:Sd (H0.nd p):=hp';refine⟨λi hi hd=>?_,λi hi hd=>?_,λi hi=>?_,λm hm=>?_,λs j hs hd hj hjs=>?_⟩
  .by_cases e:i=p;.subst e;exact Gr hsd hd
   rw[hnj i e];exact h.w i Om hd
  .by_cases e:i=p;.subst e;rw[hni,hy]
   rw[hnj i e];exact h.s i Om hd
  .rw[hnj i Om];exact h.r i Om
  .rw[hq']at hm;rcases GE.1 hm with hm|hm
   .obtain⟨s,j,h1,h2⟩:=h.q m hm;exact⟨s,j,Om,h2⟩
   rw[ho]at hm;obtain⟨j,hj,rfl⟩:=Gu.1 hm;obtain⟨j1,j2⟩:=others_mem.1 hj;exact⟨p,j,Om,hsd,by rw[<-hc.n];exact j1,by rw[<-hc.id];exact j2,rfl⟩
  rw[hq'];by_cases e:s=p;.subst e;refine HH _ ?_;rw[ho];exact Gu.2 ⟨j,jg (by rw[hc.n];exact hj) (by rw[hc.id];exact hjs),rfl⟩
  exact GT _ (h.a s j Om hd hj hjs)
def Calm.ticks(hn:2<=n)(h:Calm n H)(hl:LW n (c+n) (d+n) H):TkC n H n (H.ticksS n):=
 (ZT (J:=TkC n H) (λp H1 hp hs hj=>hj.tick hn hp h.2.2 hs) ⟨λi hi=>Om,λi hi=>Om,λi _=>rfl,λm hm=>(by rw[h.2.1]at hm;cases hm),λs j hs=>Om⟩ (Gl n) hl).1
def qp(x:ND)(j:Nat):(YG x j).kind=0/\(YG x j).frm=x.id/\(YG x j).to=j/\(YG x j).term=x.g.term+1/\(YG x j).index=x.g.last/\(YG x j).logTerm=x.tAt x.g.last:=⟨rfl,rfl,rfl,rfl,rfl,rfl⟩
structure ToT (n:Nat) (t:Int) (H:GS):Prop where
 inv:InvL n 0 H
 hi:∀j,j<n->(H.nd j).g.term<=t
 lo:∀j,j<n->(H.nd j).g.term=t\/∃a∈H.q,Vd n a/\a.to=j/\a.term=t
def ToT.del(h:ToT n t H)(hs:Stp n H (H.delS 0)){l:List Msg}(hq:H.q=m::l):ToT n t (H.delS 0):=by
 have hd:=hs.dl hq;suffices k:(∀j,j<n->((H.delS 0).nd j).g.term<=t)/\∀j,j<n->((H.delS 0).nd j).g.term=t\/∃a∈(H.delS 0).q,Vd n a/\a.to=j/\a.term=t from⟨hs.inv hq h.inv,k.1,k.2⟩
 generalize H.delS 0=H' at hd;cases hd with
 |skip hx hnd hq'=>
  refine⟨λj hj=>by rw[hnd];exact h.hi j hj,λj hj=>?_⟩;rw[hnd];refine(h.lo j hj).imp id λ⟨a,ha,h1,h2,h3⟩=>?_;rw[hq]at ha;rcases Gn.1 ha with e|e
  .subst e;exact Gr ⟨h1,Om,Om⟩ hx
  exact⟨a,by rw[hq'];exact e,h1,h2,h3⟩
 |go i y out hi hto hvm hnd hq' he hid=>
  have hmt:m.term<=t:=by
   let⟨k,hk,e⟩:=h.inv.mt m (by rw[hq];simp) hvm;have:=h.hi k hk;omega
  have hyt:y.g.term=max (H.nd i).g.term m.term:=he.term.trans (yN (H.nd i) m.term).term;have hit:=h.hi i hi;refine⟨λj hj=>?_,λj hj=>?_⟩
  .rw[hnd];split;.rw[hyt];omega
   exact h.hi j hj
  rw[hnd];rcases h.lo j hj with h1|⟨a,ha,h1,h2,h3⟩
  .left;split;.rename_i e;subst e;rw[hyt];omega
   exact h1
  rw[hq]at ha;rcases Gn.1 ha with e|e
  .subst e;have:j=i:=Om;subst this;left;rw[an rfl,hyt];omega
  exact .inr ⟨a,by rw[hq'];exact GT _ e,h1,h2,h3⟩
end V
end Go.Proofs.YtenfjpigffjgmaaGreat
