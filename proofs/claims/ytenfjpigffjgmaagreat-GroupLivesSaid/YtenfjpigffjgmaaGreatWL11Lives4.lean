/- Parts: T11j T11K. -/
import Derived.Test.YtenfjpigffjgmaaGreatWL11Lives3
set_option linter.defProp false
set_option linter.unusedSimpArgs false
set_option linter.unusedVariables false
set_option maxRecDepth 100000
namespace Go.Proofs.YtenfjpigffjgmaaGreat
open Go.RowKit
open Go.Proofs.Tryz
namespace V
set_option maxHeartbeats 4000000
variable{n i N k a j L d N' C:Nat}{T t c u τ T' σ b:Int}{x y:ND}{F p:List Qy}{m m':MS}{G:GS}{R:Hp}{g:LG}{cmd:Bs}{D:DK}{e:Qy}{J:Nat->Nat->GS->Prop}{P:LG->Prop}{l:List Yf}{w:List Bs}{f:NS->Bool×NS}
def GS.drop(G:GS)(k:Int):GS:={G with st:=YO G.st k}
def GS.twice(G:GS)(k:Int):GS:={G with st:=aG G.st G.last k,last:=kd G.st G.last k}
def GS.outs(G:GS):GS:={G with out:=[]}
structure Bud (n C:Nat) (J:Nat->Nat->GS->Prop):Prop where
 gw:∀c d G,J c d G->GW G
 ln:∀c d G,J c d G->G.ms.length=n
 le:∀c d G,J (c+1) d G->J c d G
 le2:∀c d G,J c (d+1) G->J c d G
 tick:∀c d G i,i<n->J (c+1) (d+1) G->J c d (G.tick i)
 del:∀c d G k,J (c+1) d G->J c d (G.deliver k)
 prop:∀c d G i cmd,i<n->cmd.length<=100->J (c+1) (d+1) G->J c d (G.propose i cmd).2
 comp:∀c d G i,i<n->J (c+1) d G->J c d (G.compact i).2
 fuel:∀c d G i k,i<n->dp k->J (c+1) d G->J c d (G.fuel i k)
 opens:∀(c d:Nat) (G:GS) (i:Nat) (m:MS) (k:Int),J (c+1) d G->G.ms[i]?=some m->nE m.D k
 crash:∀c d G i k,i<n->J (c+1) d G->J c d (G.crash i k)
 drop:∀c d G k,J (c+1) d G->J c d (G.drop k)
 twice:∀c d G k,J (c+1) d G->J c d (G.twice k)
 last:∀c d G,J c d G->G.last+n*c<=n*C/\G.st.length+n*c<=n*C
 outs:∀c d G,J c d G->J c d G.outs
def Bud.les{n C:Nat}{J:Nat->Nat->GS->Prop}(h:Bud n C J){G:GS}{d:Nat}:∀(k:Nat) {c:Nat},J (c+k) d G->J c d G
 |0,_,hj=>hj
 |k+1,c,hj=>h.les k (h.le _ _ _ (by rw[show c+k+1=c+(k+1)by omega];exact hj))
def Bud.les2{n C:Nat}{J:Nat->Nat->GS->Prop}(h:Bud n C J){G:GS}{c:Nat}:∀(k:Nat) {d:Nat},J c (d+k) G->J c d G
 |0,_,hj=>hj
 |k+1,d,hj=>h.les2 k (h.le2 _ _ _ (by rw[show d+k+1=d+(k+1)by omega];exact hj))
def Bud.leq(h:Bud n C J){c c' d':Nat}(hc:c<=c')(hd:d<=d')(hj:J c' d' G):J c d G:=
 h.les (c'-c) (h.les2 (d'-d) (by rw[show c+(c'-c)=c' by omega,show d+(d'-d)=d' by omega];exact hj))
def GS.ticks(G:GS)(k:Nat):GS:=(List.range k).foldl GS.tick G
def jo(G:GS)(k:Nat):G.ticks (k+1)=(G.ticks k).tick k:=by unfold GS.ticks;rw[JQ,KZ];rfl
def GS.del1(G:GS):GS:=if G.st.length>0 then G.deliver 0 else G
def GS.dels(G:GS):Nat->GS
 |0=>G
 |k+1=>(G.dels k).del1
def mZ{G:GS}{k:Nat}(h:(G.dels k).st.length=0):∀j,G.dels (k+j)=G.dels k
 |0=>rfl
 |j+1=>by
  show(G.dels (k+j)).del1=_;rw[mZ h j];unfold GS.del1;rw[ac Om]
def i7(hk:k<=n)(h:(G.dels k).st.length=0):G.dels n=G.dels k:=by
 have:=mZ h (n-k);rw[show k+(n-k)=n by omega]at this;exact this
def GS.round(G:GS)(n:Nat):GS:=(G.ticks n).dels 200
def GS.rounds(G:GS)(n:Nat):Nat->GS
 |0=>G
 |k+1=>(G.rounds n k).round n
def Bud.ticks{n C:Nat}{J:Nat->Nat->GS->Prop}(h:Bud n C J){G:GS}{c d:Nat}:∀{k:Nat},k<=n->J (c+k) (d+k) G->J c d (G.ticks k)
 |0,_,hj=>hj
 |k+1,hk,hj=>by
  rw[jo];exact h.tick _ _ _ _ Om (h.ticks (c:=c+1) (d:=d+1) Om (by rw[show c+1+k=c+(k+1)by omega,show d+1+k=d+(k+1)by omega];exact hj))
def Bud.dels{n C:Nat}{J:Nat->Nat->GS->Prop}(h:Bud n C J){G:GS}{d:Nat}:∀{k c:Nat},J (c+k) d G->J c d (G.dels k)
 |0,_,hj=>hj
 |k+1,c,hj=>by
  have h1:=h.dels (k:=k) (c:=c+1) (by rw[show c+1+k=c+(k+1)by omega];exact hj);show J c d (G.dels k).del1;unfold GS.del1;split;.exact h.del _ _ _ _ h1
  exact h.le _ _ _ h1
def Bud.round(h:Bud n C J){c:Nat}(hj:J (c+(n+200)) (d+n) G):J c d (G.round n):=
 h.dels (h.ticks (Gl n) (by rw[show c+200+n=c+(n+200)by omega];exact hj))
def Bud.rounds{n C:Nat}{J:Nat->Nat->GS->Prop}(h:Bud n C J){G:GS}:∀{k c d:Nat},J (c+k*(n+200)) (d+k*n) G->J c d (G.rounds n k)
 |0,c,d,hj=>by simpa[GS.rounds]using hj
 |k+1,c,d,hj=>h.round (h.rounds (k:=k) (by rw[show c+(n+200)+k*(n+200)=c+(k+1)*(n+200)by rw[G4];omega,show d+n+k*n=d+(k+1)*n by rw[G4];omega];exact hj))
def eF(w:GV)(G:GS)(n r c d C:Nat)(hB:Bud n C J)(hn:0<n/\n<=9)(hr:r<=1000)(hok:GOk R w G)(hj:J (c+r*(n+200)) (d+r*n) G):
  Tri prog 13 [.pointer (some ⟨w.g,0,none⟩),.int .i64 (n:Int),.int .i64 (r:Int)] R (YN w G)
   (λx R' L'=>x=QI [.int .i64 ((G.rounds n r).leads n).1,.bool ((G.rounds n r).leads n).2]/\iy w (G.rounds n r) R' L'):=by
 refine To func13 ntmps13 λ_ F _ r_ _ _=>?_
 refine cS λ_ k1=>Qc (Ps (Ps (Qd (k1 (cS λ_ k2=>cS λ_ k3=>Qc (Pm (Pm (Qd (k3 (Qp (Lp (λ(x:Nat×GV×Hp)=>[(0,.pointer (some ⟨w.g,0,none⟩)),(1,.int .i64 (n:Int)),(10,.int .i64 (r:Int)),(11,.int .i64 (x.1:Int))]) (λx=>x.2.2) (λx=>YN x.2.1 (G.rounds n x.1)++F) (λx=>x.1<=r/\(∃vn css vo cs,x.2.1=⟨w.g,w.va,w.n,vn,css,vo,cs⟩)/\GOk x.2.2 x.2.1 (G.rounds n x.1)/\J (c+(r-x.1)*(n+200)) (d+(r-x.1)*n) (G.rounds n x.1)/\R.le x.2.2) (λx=>r-x.1) (0,w,R) (⟨by simp,⟨_,_,_,_,rfl⟩,hok,by simpa[GS.rounds]using hj,Hp.le_refl _⟩) ?_)))))))))))
 rintro⟨k,w1,R1⟩ ⟨hk,hg1,hok1,hj1,hR1⟩
 obtain⟨vn1,css1,vo1,cs1,rfl⟩:=hg1
 refine cS λ_ k4=>Qc (Pa QR (Qd (k4 (cS λ_ k5=>Qi rfl (λhc12=>?_) (λhc12=>?_)))))
 try simp only[dx]at hc12
 refine Qh (k5 (cS λ_ k7=>Qp (cS λ_ k8=>cS λ_ k9=>?_)))
 have hj2:J (c+(r-(k+1))*(n+200)+200+n) (d+(r-(k+1))*n+n) (G.rounds n k):=by rw[show c+(r-(k+1))*(n+200)+200+n=c+(r-k)*(n+200)by rw[show r-k=(r-(k+1))+1 by omega,G4];omega,show d+(r-(k+1))*n+n=d+(r-k)*n by rw[show r-k=(r-(k+1))+1 by omega,G4];omega];exact hj1
 obtain⟨cc,hcc⟩:∃cc,cc=c+(r-(k+1))*(n+200):=⟨_,rfl⟩
 obtain⟨dd,hdd⟩:∃dd,dd=d+(r-(k+1))*n:=⟨_,rfl⟩
 rw[<-hcc,<-hdd]at hj2
 obtain⟨G1,hG1⟩:∃G1,G1=G.rounds n k:=⟨_,rfl⟩
 rw[<-hG1]at hj2 hok1|-
 refine Qc (Pm (Pm (Qd (k9 (Qp (Lp (λ(y:Nat×GV×Hp)=>[(0,.pointer (some ⟨w.g,0,none⟩)),(1,.int .i64 (n:Int)),(10,.int .i64 (r:Int)),(11,.int .i64 (k:Int)),(13,.int .i64 (n:Int)),(14,.int .i64 (y.1:Int))]) (λy=>y.2.2) (λy=>YN y.2.1 (G1.ticks y.1)++F) (λy=>y.1<=n/\(∃vn css vo cs,y.2.1=⟨w.g,w.va,w.n,vn,css,vo,cs⟩)/\GOk y.2.2 y.2.1 (G1.ticks y.1)/\R1.le y.2.2) (λy=>n-y.1) (0,⟨w.g,w.va,w.n,vn1,css1,vo1,cs1⟩,R1) (⟨by simp,⟨_,_,_,_,rfl⟩,hok1,Hp.le_refl _⟩) ?_))))))
 rintro⟨j,w2,R2⟩ ⟨hj3,hg2,hok2,hR2⟩
 obtain⟨vn2,css2,vo2,cs2,rfl⟩:=hg2
 refine cS λ_ k10=>Qc (Pa QR (Qd (k10 (cS λ_ k11=>Qi rfl (λhc15=>?_) (λhc15=>?_)))))
 refine Qh (k11 (cS λ_ k13=>Qp (cS λ_ k14=>?_)))
 have hj4:j<n:=by(try simp at hc15);omega
 have hjt:=hB.ticks (c:=cc+200+(n-j)) (d:=dd+(n-j)) (k:=j) Om (by rw[show cc+200+(n-j)+j=cc+200+n by omega,show dd+(n-j)+j=dd+n by omega];exact hj2)
 have hjt2:=hB.tick (cc+200+(n-(j+1))) (dd+(n-(j+1))) _ j hj4 (by rw[show cc+200+(n-(j+1))+1=cc+200+(n-j)by omega,show dd+(n-(j+1))+1=dd+(n-j)by omega];exact hjt)
 refine Qc (Pm (Ps (Qd (k14 (Qc (Pm (Pm (Ra call26 (pv ⟨w.g,w.va,w.n,vn2,css2,vo2,cs2⟩ (G1.ticks j) j hok2 (by rw[hB.ln _ _ _ hjt];exact hj4) (hB.gw _ _ _ hjt) (hB.gw _ _ _ hjt2)) ?_))))))))
 rintro x R4 L' hR4 ⟨vn4,css4,vo4,cs4,hok4,rfl⟩
 rw[<-jo]
 refine Qd (k13 (Qc (Pa Qz (Pm (Qd (ro rfl (rd ((j+1,⟨w.g,w.va,w.n,vn4,css4,vo4,cs4⟩,R4)) (⟨by dsimp only;omega,⟨_,_,_,_,rfl⟩,by dsimp only;rw[jo];exact hok4,Hp.le_trans hR2 hR4⟩) Do)))))))
 refine QG (k8 (cS λ_ k15=>?_))
 have hjn0:j=n:=by(try simp at hc15);omega
 have hjt:=hB.ticks (c:=cc+200) (d:=dd) (k:=n) (Gl n) hj2
 rw[hjn0]at hok2|-
 obtain⟨G2,hG2⟩:∃G2,G2=G1.ticks n:=⟨_,rfl⟩
 rw[<-hG2]at hjt hok2|-
 refine Qc (Ps (Qd (k15 (Qp (Lp (λ(z:Nat×GV×Hp)=>[(0,.pointer (some ⟨w.g,0,none⟩)),(1,.int .i64 (n:Int)),(9,.int .i64 (z.1:Int)),(10,.int .i64 (r:Int)),(11,.int .i64 (k:Int))]) (λz=>z.2.2) (λz=>YN z.2.1 (G2.dels z.1)++F) (λz=>z.1<=200/\(∃vn css vo cs,z.2.1=⟨w.g,w.va,w.n,vn,css,vo,cs⟩)/\GOk z.2.2 z.2.1 (G2.dels z.1)/\R2.le z.2.2) (λz=>200-z.1) (0,⟨w.g,w.va,w.n,vn2,css2,vo2,cs2⟩,R2) (⟨by simp,⟨_,_,_,_,rfl⟩,hok2,Hp.le_refl _⟩) ?_)))))
 rintro⟨q,w3,R3⟩ ⟨hq,hg3,hok3,hR3⟩
 obtain⟨vn3,css3,vo3,cs3,rfl⟩:=hg3
 refine cS λ_ k16=>cS λ_ k17=>Qc (Pm (Pa QR (Pm (QM 23 rfl (λhg23=>?_) (λhg23=>?_)))))
 try simp only[dx]at hg23
 refine Pb Qf (Pb (Ca Mg (bA ⟨w.g,w.va,w.n,vn3,css3,vo3,cs3⟩)) (Pb (Ca MX (bW w.n vn3 (G2.dels q).last (G2.dels q).st css3)) (Pb XG (Pa Qq (Qd (k17 (cE [0,1,9,10,11,28] (Qi rfl (λhc28=>?_) (λhc28=>?_)))))))))
 refine Qh (k16 (cS λ_ k19=>Qp ?_))
 have hln:(G2.dels q).st.length>0:=by(try simp at hc28);omega
 have hd1:(G2.dels q).deliver 0=G2.dels (q+1):=by show _=(G2.dels q).del1;unfold GS.del1;rw[an hln]
 have hjd:=hB.dels (c:=cc+(200-q)) (k:=q) (by rw[show cc+(200-q)+q=cc+200 by omega];exact hjt)
 have hjd2:=hB.del (cc+(200-(q+1))) dd _ 0 (by rw[show cc+(200-(q+1))+1=cc+(200-q)by omega];exact hjd)
 refine Qc (Pm (Ra call31 (dr ⟨w.g,w.va,w.n,vn3,css3,vo3,cs3⟩ (G2.dels q) 0 hok3 (hB.gw _ _ _ hjd) (hB.gw _ _ _ hjd2)) ?_))
 rintro x R5 L' hR5 ⟨rfl,vn5,css5,vo5,cs5,hok5,rfl⟩
 rw[hd1]
 refine Qd (k19 (Qc (Pm ?_)))
 refine Pa Qz (Ps (Qd (ro rfl (rd ((q+1,⟨w.g,w.va,w.n,vn5,css5,vo5,cs5⟩,R5)) (⟨by dsimp only;omega,⟨_,_,_,_,rfl⟩,by dsimp only;rw[hd1]at hok5;exact hok5,Hp.le_trans hR3 hR5⟩) Do))))
 try simp only[dx]at hc28
 refine QG (k7 ?_)
 have hfin:G2.dels q=G2.dels 200:=by first|(exact(i7 Om Om).symm)|(rw[show q=200 by omega])
 have hrd:G2.dels 200=G.rounds n (k+1):=by rw[hG2,hG1];rfl
 have hjn:J (c+(r-(k+1))*(n+200)) (d+(r-(k+1))*n) (G.rounds n (k+1)):=by rw[<-hrd,<-hcc,<-hdd];exact hB.dels hjt
 rw[hfin,hrd]at hok3|-
 refine Qc (Pa Qz (Pm (Qd (ro rfl (rd ((k+1,⟨w.g,w.va,w.n,vn3,css3,vo3,cs3⟩,R3)) (⟨by dsimp only;omega,⟨_,_,_,_,rfl⟩,hok3,by dsimp only;exact hjn,Hp.le_trans hR1 (Hp.le_trans hR2 hR3)⟩) Do)))))
 try simp only[dx]at hg23
 refine Pk (Pk (Pk (Pk (Pa Qn (Qd (k17 (Qt rfl (QG (k7 ?_)))))))))
 have hfin:G2.dels q=G2.dels 200:=by first|(exact(i7 Om Om).symm)|(rw[show q=200 by omega])
 have hrd:G2.dels 200=G.rounds n (k+1):=by rw[hG2,hG1];rfl
 have hjn:J (c+(r-(k+1))*(n+200)) (d+(r-(k+1))*n) (G.rounds n (k+1)):=by rw[<-hrd,<-hcc,<-hdd];exact hB.dels hjt
 rw[hfin,hrd]at hok3|-
 refine Qc (Pa Qz (Pm (Qd (ro rfl (rd ((k+1,⟨w.g,w.va,w.n,vn3,css3,vo3,cs3⟩,R3)) (⟨by dsimp only;omega,⟨_,_,_,_,rfl⟩,hok3,by dsimp only;exact hjn,Hp.le_trans hR1 (Hp.le_trans hR2 hR3)⟩) Do)))))
 refine QG (k2 (cS λ_ k20=>?_))
 have hkr:k=r:=by(try simp at hc12);omega
 have hms:=hB.ln _ _ _ hj1
 rw[hkr]at hok1 hms|-
 refine Qc (Pm (Pm (Pa (Ca call36 (CE ⟨w.g,w.va,w.n,vn1,css1,vo1,cs1⟩ (G.rounds n r) n hok1.len (by rw[hms];omega) hn.2)) (Pa Ql (Pa Ql (Ps (Ps (Qd (k20 (cE [6,7] ?_))))))))))
 exact Qg (r_ (Er results13 (YN ⟨w.g,w.va,w.n,vn1,css1,vo1,cs1⟩ (G.rounds n r)) hR1 ⟨rfl,vn1,css1,vo1,cs1,hok1,rfl⟩))
def dt(w:GV)(G:GS)(hok:GOk R w G):Tri prog 15 [.pointer (some ⟨w.g,0,none⟩)] R (YN w G)
  (λr R' L'=>r=w.vo/\R'=R/\∃vn css vo cs,GOk R' ⟨w.g,w.va,w.n,vn,css,vo,cs⟩ G.outs/\L'=YN ⟨w.g,w.va,w.n,vn,css,vo,cs⟩ G.outs++[cZ w.vo G.out]):=by
 refine To func15 ntmps15 λ_ F _ r_ _ _=>?_;refine cS λ_ k1=>Qc (Ps (Qd (k1 (cS λ_ k2=>cS λ_ k3=>Qc (Pm (Pa (Yv Km) (Qd (k3 (Qt rfl (Qh (k2 (cS λ_ k4=>Qc (Pm (Pa Qe (Pa (Ga Ii Mz) ?_)))))))))))))));refine Pa (La A3) (Ps (Qd (k4 (cS λ_ k5=>Qc (Pm (Pa Qe (Pa (Ga Ii Mz) ?_)))))));refine Sa A3 (Zb (A:=cZ (.slice none 0 0) []) (Yr _ _) ?_);exact Qd (k5 (cS λ_ k6=>Qc (Pm (Ps (Qd (k6 (Qg (r_ (Es results15 (YN ⟨w.g,w.va,w.n,w.vn,w.css,.slice none 0 0,w.cs⟩ G.outs++[cZ w.vo G.out]) ⟨rfl,rfl,w.vn,w.css,.slice none 0 0,w.cs,⟨hok.len,hok.nd,hok.els⟩,rfl⟩)))))))))
def iz{cs:List MV}{ms:List MS}{c:MV}(hc:cs[i]?=some c)(hm:ms[i]?=some m):∀h,Yj (Zw cs ms) h->∃q cap,c.vl=.slice q m.l.length cap:=λh k=>by
 let⟨h1,h2,_,_,_,d,_⟩:=cF (yK hc hm) h k;let⟨_,h3,_,_,_,_,e⟩:=d;let⟨_,h4,_,_,_,_,e⟩:=e;let⟨h5,_,_,_,_,f,_⟩:=e;let⟨q,cap,hq,_⟩:=ZF _ f;exact⟨q,cap,hq⟩
structure AwOK (t:Int):Prop where
 l1:((GS.new 3).rounds 3 60).leads 3=(0,true)
 p:(((GS.new 3).rounds 3 60).propose 0 [97]).1=(2,t)
 t0:t>0
 l2:((((GS.new 3).rounds 3 60).propose 0 [97]).2.rounds 3 10).leads 3=(0,true)
 o:((((GS.new 3).rounds 3 60).propose 0 [97]).2.rounds 3 10).out.length=3
 d:∀m,((((GS.new 3).rounds 3 60).propose 0 [97]).2.rounds 3 10).ms[0]?=some m->m.l.length=1
 a:∀m,((((GS.new 3).rounds 3 60).propose 0 [97]).2.rounds 3 10).ms[1]?=some m->m.ap=2
def xa{c:Nat}(hB:Bud 3 C J)(hj:J (c+10*(3+200)+1+60*(3+200)) (d+10*3+1+60*3) (GS.new 3))(t:Int)(ha:AwOK t):Tri prog 9 [] R [] (λv R' L'=>v=.bool true/\L'=[]):=by
 have hj1:=hB.rounds (k:=60) (c:=c+10*(3+200)+1) (d:=d+10*3+1) hj;have hj2:=hB.prop _ _ _ 0 [97] Om Dc hj1;have hj3:=hB.rounds (k:=10) (c:=c) (d:=d) hj2;have h1:=ha.l1;have h2:=ha.p;have h3:=ha.l2;have h4:=ha.o;have h5:=ha.d;have h6:=ha.a;have ht:=ha.t0;have hw1:=hB.gw _ _ _ hj1;have hw2:=hB.gw _ _ _ hj2;obtain⟨G1,hG1⟩:∃G1,G1=(GS.new 3).rounds 3 60:=⟨_,rfl⟩;rw[<-hG1]at h1 h2 h3 h4 h5 h6 hj1 hj2 hj3 hw1 hw2;obtain⟨G2,hG2⟩:∃G2,G2=(G1.propose 0 [97]).2:=⟨_,rfl⟩;rw[<-hG2]at h3 h4 h5 h6 hj2 hj3 hw2;obtain⟨G3,hG3⟩:∃G3,G3=G2.rounds 3 10:=⟨_,rfl⟩;rw[<-hG3]at h3 h4 h5 h6 hj3;have hn1:=hB.ln _ _ _ hj1;have hn3:=hB.ln _ _ _ hj3;obtain⟨m0,hm0⟩:∃m,G3.outs.ms[0]?=some m:=⟨_,b7 (by show 0<G3.ms.length;omega)⟩;obtain⟨m1,hm1⟩:∃m,G3.outs.ms[1]?=some m:=⟨_,b7 (by show 1<G3.ms.length;omega)⟩;have h5:=h5 m0 hm0;have h6:=h6 m1 hm1;refine To func9 ntmps9 λ_ F _ r_ _ _=>?_;refine cE [] (cS λ_ k1=>Qc (Ps (Qd (k1 (cS λ_ k2=>Qc (Ra call19 (sK 3 Dc) ?_))))));rintro r R1 L' hR1 ⟨w,rfl,hok,rfl⟩;refine Pm (Pa (Ql rfl rfl) (Pa (Ql rfl rfl) (Ps (Ps (Qd (k2 (cS λ_ k3=>cS λ_ k4=>Qc ?_)))))));refine Pm ?_;refine Pa ((Yld.to (u:=.bool false) Yp Si)) (Pm (Pb Qf (Pb (Ca Mg ((bA w))) (Pb (Yv Ma) (Pa Qn (Qd (k4 (Qt rfl (Qh (k3 (cS λ_ k5=>Qc (Pm (Ra call13 (eF w (GS.new 3) 3 60 (c+10*(3+200)+1) (d+10*3+1) C hB Dc Dc hok hj) ?_)))))))))))));rintro r R2 L' hR2 ⟨rfl,vn2,css2,vo2,cs2,hok2,rfl⟩;rw[<-hG1]at hok2|-;rw[h1];refine Pm (Pa (Ql rfl rfl) (Pa (Ql rfl rfl) (Ps (Ps (Qd (k5 (cE [1,3,4] ?_)))))));refine cS λ_ k6=>Qc (Pm (Pm (Ra call16 (dq ⟨w.g,w.va,w.n,vn2,css2,vo2,cs2⟩ G1 0 [97] Dc hok2 Om hw1 (by rw[<-hG2];exact hw2)) ?_)));rintro r R3 L' hR3 ⟨rfl,vn3,css3,vo3,cs3,hok3,rfl⟩;rw[<-hG2]at hok3|-;rw[h2];refine Pm (Pa (Ql rfl rfl) (Pa (Ql rfl rfl) (Ps (Ps (Qd (k6 (cS λ_ k7=>Qc (Pm (Ra call13 (eF ⟨w.g,w.va,w.n,vn3,css3,vo3,cs3⟩ G2 3 10 c d C hB Dc Dc hok3 hj2) ?_)))))))));rintro r R4 L' hR4 ⟨rfl,vn4,css4,vo4,cs4,hok4,rfl⟩;rw[<-hG3]at hok4|-;rw[h3];refine gP (A:=cZ vo4 G3.out) Qm zl (λhvo4=>?_);refine Pm (Pa (Ql rfl rfl) (Pa (Ql rfl rfl) (Ps (Ps (Qd (k7 (cS λ_ k8=>Qc (Pm (Pm (Pb (Qf rfl) (Pa (Qq rfl rfl) (Pm (Pb Qf (Pb ((Yld.to (u:=.bool true) QL Si)) (Pa Qq (Pm (Pb Qf (Pb ((Yld.to (u:=.bool true) XG (by simp;omega))) (Pa Qq (Pm (Pb Qf (XW (cP rfl) rfl call15 rfl (dt ⟨w.g,w.va,w.n,vn4,css4,vo4,cs4⟩ G3 hok4) Za (λ_ _ _ _ h=>h.elim) ?_))))))))))))))))))))));rintro r R5 L' hR5 ⟨rfl,rfl,vn5,css5,vo5,cs5,hok5,rfl⟩;let⟨c0,hc0,_,_⟩:=hok5.at hm0;let⟨c1,hc1,_,_⟩:=hok5.at hm1;refine gP (A:=yd ⟨w.g,w.va,w.n,vn5,css5,vo5,cs5⟩ G3.outs) Qm (iz hc0 hm0) (λhq=>?_);let⟨q0,cap0,hq0⟩:=hq;refine Pb (Zf JW) (Pb ((Yld.to (u:=.bool true) QL (by rw[h4];simp))) (Pa Qq (Pm (Pb Qf (Pb (Ca call17 ((kH (w:=⟨w.g,w.va,w.n,vn5,css5,vo5,cs5⟩) (i:=0) hc0 hm0).eq3 hq0)) (Pb (QV HJ) (Pb ((Yld.to (u:=.bool true) QL (by rw[h5];simp))) (Pa Qq (Pm (Pb Qf (Pb (Ca call18 ((eX (w:=⟨w.g,w.va,w.n,vn5,css5,vo5,cs5⟩) (i:=1) hc1 hm1).eq3 (by rw[h6]))) (Pb ((Yld.to (u:=.bool true) QL Si)) (Pa Qq (Ps (Qd (k8 (cE [0] ?_)))))))))))))))))
 exact Qg (r_ (Er results9 [] (by exact Hp.le_trans hR1 (Hp.le_trans hR2 (Hp.le_trans hR3 hR4))) ⟨rfl,rfl⟩))
structure Ev where
 what:Int
 i:Int
 n:Int
 text:Bs
def fy(e:Ev):List Value:=[.int .i64 e.what,.int .i64 e.i,.int .i64 e.n,.string (Qs e.text)]
def lU{e:Ev}:∀u∈fy e,u.oneCell'=true:=λu hu=>by
 simp[fy,Gn,Gs,G7]at hu;rcases hu with rfl|rfl|rfl|rfl<;>rfl
def evE:Elt Ev where
 P:=λR e cs=>cs=fy e
 sz:=4
 mono:=λhR h=>h
 len:=λh=>by subst h;rfl
 one:=λh u hu=>by subst h;exact lU u hu
structure Ev.Bd (e:Ev):Prop where
 what:dp e.what
 i:dp e.i
 n:dp e.n
structure Ev.sm (e:Ev):Prop where
 text:e.text.length<=100
 n:e.what=0\/e.what=8->0<=e.n/\e.n<=60
def bS{α:Type}{p:α->Prop}{l:List α}{x:α}(h:∀y∈l.take i,p y)(hx:l[i]?=some x)(hp:p x):∀y∈l.take (i+1),p y:=λy hy=>by
 rw[HV,hx]at hy;rcases GE.1 hy with hy|hy
 .exact h y hy
 simp at hy;subst hy;exact hp
def vD(va:Value)(l:List Ev)(hva:FrX evE R l va)(n:Int):Tri prog 10 [va,.int .i64 n] R []
  (λx R' L'=>(∃s,x=.bool s/\(s=true->(l.length:Int)<=n/\∀a∈l,a.sm))/\R'=R/\L'=[]):=by
 obtain⟨q,cap,rfl,hq1,hq2⟩:=hva.shape
 unfold maxLen at hq2
 refine To func10 ntmps10 λ_ F _ r_ _ _=>?_
 try simp[cB]
 refine cS λ_ k1=>Qc (Ps (Qd (k1 (cS λ_ k2=>cS λ_ k3=>Qc (Pm (Pa (QV Kn) (Pm (Pa XG (Qd (k3 (Qi rfl (λhc10=>?_) (λhc10=>?_))))))))))))
 try simp[dx]at hc10
 refine cS λ_ k5=>Qc (Ps (Qd (k5 (Qg (r_ (Es Kf [] ?_))))))
 first|(exact⟨⟨true,rfl,λ_=>⟨hlen,by rw[Gx (by(try simp at hc14);omega)]at hs;exact hs⟩⟩,rfl,rfl⟩)|exact⟨⟨false,rfl,λh=>by cases h⟩,rfl,rfl⟩
 have hlen:(l.length:Int)<=n:=by(try simp at hc10);omega
 refine Qh (k2 (cS λ_ k6=>cS λ_ k7=>Qc (Pm (Pa (QV Kn) (Pm (Qd (k7 (Qp (Lp (λ(x1:Nat)=>[(11,.slice q l.length cap),(12,.int .i64 (l.length:Int)),(13,.int .i64 (x1:Int))]) (λx1=>R) (λx1=>F) (λx1=>x1<=l.length/\∀a∈l.take x1,a.sm) (λx1=>l.length-x1) 0 (⟨Si,λl hl=>by simp at hl⟩) ?_)))))))))
 rintro i ⟨hi,hs⟩
 try dsimp only
 refine cS λ_ k8=>Qc (Pa QR (Qd (k8 (cS λ_ k9=>Qi rfl (λhc14=>?_) (λhc14=>?_)))))
 try simp[dx]at hc14
 refine Qh (k9 (cS λ_ k11=>Qp (cS λ_ k12=>?_)))
 have hi2:i<l.length:=by(try simp at hc14);omega
 obtain⟨a,ha⟩:∃x,l[i]?=some x:=⟨_,b7 hi2⟩
 obtain⟨be,oe,ce,cse,hee,rfl,_,hcell⟩:=hva.at ha
 obtain⟨rfl,rfl⟩:q=some ⟨be,oe,none⟩/\cap=ce:=by cases hee;exact⟨rfl,rfl⟩
 refine Qc (Pa (QE Kn sizeOf53 rfl rfl Qu) (Pa ((Yq wt (vs:=fy a) rfl rfl (λj u hj=>hcell j u hj))) (QC Qo rfl zeroValue53 rfl (λb6=>Sm (vs:=fy a) wt lU (Qd (k12 (cS λ_ k13=>Qc (Pa (Ga Ip Ic) ?_))))))))
 refine Pa (La o9) (Pa (YP GZ) (Pa XG (Pm (QM 21 rfl (λhg21=>?_) (λhg21=>?_)))))
 try simp[dx]at hg21
 refine Pk (Pk (Pk (Pk (Xp Zx rfl rfl (Xp Zx rfl rfl (Xp Zx rfl rfl (Pk (Pk (Xp Zx rfl rfl (Xp Zx rfl rfl (Xp Zx rfl rfl (Xp Zx rfl rfl (Xp Zx rfl rfl (Xp Zx rfl rfl (Xp Zx rfl rfl (Xp Zx rfl rfl (Pk (Pa Qq (Qd (k13 (cE [11,12,13,40] (QD rfl (cS λ_ k14=>Qc (Ps (Qd (k14 (Qg (r_ (Es Kf [] ?_)))))))))))))))))))))))))))))
 first|(exact⟨⟨true,rfl,λ_=>⟨hlen,by rw[Gx (by(try simp at hc14);omega)]at hs;exact hs⟩⟩,rfl,rfl⟩)|exact⟨⟨false,rfl,λh=>by cases h⟩,rfl,rfl⟩
 try simp[dx]at hg21
 refine Pb (Ga Ip GQ) (Pb (La o3) (Pb QL (Pb Qf (QM 25 rfl (λhg25=>?_) (λhg25=>?_)))))
 try simp[dx]at hg25
 refine Pk (Pk (Pk (Pb Qq (Pb Qf (Pb (Ga Ip GQ) (Pb (La o3) (Pb QR (Pb Qf (QM 34 rfl (λhg34=>?_) (λhg34=>?_))))))))))
 try simp[dx]at hg34
 refine Pk (Pk (Pk (Pb Qq (Pb Qq (Pa Qn (Qd (k13 (cE [11,12,13,40] (QD rfl (cS λ_ k15=>Qc (Ps (Qd (k15 (Qg (r_ (Es Kf [] ?_))))))))))))))))
 first|(exact⟨⟨true,rfl,λ_=>⟨hlen,by rw[Gx (by(try simp at hc14);omega)]at hs;exact hs⟩⟩,rfl,rfl⟩)|exact⟨⟨false,rfl,λh=>by cases h⟩,rfl,rfl⟩
 try simp[dx]at hg34
 refine Pb (Ga Ip GQ) (Pb (La o3) (Pb XG (Pb Qn (Pb Qq (Pa Qn (Qd (k13 (Qi rfl (λhc40=>?_) (λhc40=>?_)))))))))
 try simp[dx]at hc40
 refine cS λ_ k17=>Qc (Ps (Qd (k17 (Qg (r_ (Es Kf [] ?_))))))
 first|(exact⟨⟨true,rfl,λ_=>⟨hlen,by rw[Gx (by(try simp at hc14);omega)]at hs;exact hs⟩⟩,rfl,rfl⟩)|exact⟨⟨false,rfl,λh=>by cases h⟩,rfl,rfl⟩
 try simp[dx]at hc40
 refine Qh (k11 (Qc (Pa Qz (Pm (Qd (ro rfl (rd (i+1) (⟨Om,bS hs ha (by refine⟨by(try simp at hg21);omega,λhw=>?_⟩;(try simp at hc24 hg25 hg30 hg34 hc37 hc40);omega)⟩) Om)))))))
 try simp[dx]at hg25
 refine Pb (Ga Ip GQ) (Pb (La o3) (Pb QL (Pb Qn (Pb Qf (QM 30 rfl (λhg30=>?_) (λhg30=>?_))))))
 try simp[dx]at hg30
 refine Pb (Ga Ip GQ) (Pb (La o3) (Pb QR (Pb Qf (QM 34 rfl (λhg34=>?_) (λhg34=>?_)))))
 try simp[dx]at hg34
 refine Pk (Pk (Pk (Pb Qq (Pb Qq (Pa Qn (Qd (k13 (cE [11,12,13,40] (QD rfl (cS λ_ k18=>Qc (Ps (Qd (k18 (Qg (r_ (Es Kf [] ?_))))))))))))))))
 first|(exact⟨⟨true,rfl,λ_=>⟨hlen,by rw[Gx (by(try simp at hc14);omega)]at hs;exact hs⟩⟩,rfl,rfl⟩)|exact⟨⟨false,rfl,λh=>by cases h⟩,rfl,rfl⟩
 try simp[dx]at hg34
 refine Pb (Ga Ip GQ) (Pb (La o3) (Pb XG (Pb Qn (Pb Qq (Pa Qn (Qd (k13 (Qi rfl (λhc40=>?_) (λhc40=>?_)))))))))
 try simp[dx]at hc40
 refine cS λ_ k20=>Qc (Ps (Qd (k20 (Qg (r_ (Es Kf [] ?_))))))
 first|(exact⟨⟨true,rfl,λ_=>⟨hlen,by rw[Gx (by(try simp at hc14);omega)]at hs;exact hs⟩⟩,rfl,rfl⟩)|exact⟨⟨false,rfl,λh=>by cases h⟩,rfl,rfl⟩
 try simp[dx]at hc40
 refine Qh (k11 (Qc (Pa Qz (Pm (Qd (ro rfl (rd (i+1) (⟨Om,bS hs ha (by refine⟨by(try simp at hg21);omega,λhw=>?_⟩;(try simp at hc24 hg25 hg30 hg34 hc37 hc40);omega)⟩) Om)))))))
 try simp[dx]at hg30
 refine Pk (Pk (Pk (Pk (Xp Zx rfl rfl (Xp Zx rfl rfl (Xp Zx rfl rfl (Pk (Pb Qn (Pa Qn (Qd (k13 (Qt rfl (Qh (k11 (Qc (Pa Qz (Pm (Qd (ro rfl (rd (i+1) (⟨Om,bS hs ha (by refine⟨by(try simp at hg21);omega,λhw=>?_⟩;(try simp at hc24 hg25 hg30 hg34 hc37 hc40);omega)⟩) Om))))))))))))))))))))
 try simp[dx]at hc14
 refine QG (k6 (cE [] (cS λ_ k21=>Qc (Ps (Qd (k21 (Qg (r_ (Es Kf [] ?_)))))))))
 first|(exact⟨⟨true,rfl,λ_=>⟨hlen,by rw[Gx (by(try simp at hc14);omega)]at hs;exact hs⟩⟩,rfl,rfl⟩)|exact⟨⟨false,rfl,λh=>by cases h⟩,rfl,rfl⟩
def nR(a:Int){n:Int}(h:0<n): -n<a.tmod n/\a.tmod n<n:=by
 by_cases h0:0<=a;.rw[IV h0];have h1:=Kw a (show n≠0 by omega);have h2:=J5 a h;omega
 obtain⟨b,rfl⟩:∃b,a= -b:=⟨-a,by omega⟩;rw[Int.neg_tmod,IV Om];have h1:=Kw b (show n≠0 by omega);have h2:=J5 b h;omega
def cj(i n:Int):Int:=(i.tmod n+n).tmod n
def nC(i:Int){n:Int}(h:0<n):0<=cj i n/\cj i n<n:=by
 have h1:=nR i h;unfold cj;rw[IV Om];exact⟨Kw _ Om,J5 _ h⟩
def GS.tickN(G:GS)(i:Nat):Nat->GS
 |0=>G
 |k+1=>(G.tickN i k).tick i
def GS.delN(G:GS):Nat->GS
 |0=>G
 |k+1=>(G.delN k).deliver 0
noncomputable def GS.does(G:GS)(n:Nat)(e:Ev)(k:Int):GS:=
 if e.what=0 then G.tickN (cj e.i n).toNat e.n.toNat
 else if e.what=1 then G.deliver k
 else if e.what=2 then G.drop k
 else if e.what=3 then(if G.st.length<300 then G.twice k else G)
 else if e.what=4 then(G.propose (cj e.i n).toNat e.text).2
 else if e.what=5 then(G.compact (cj e.i n).toNat).2
 else if e.what=6 then G.crash (cj e.i n).toNat e.n
 else if e.what=7 then G.fuel (cj e.i n).toNat e.n
 else if e.what=8 then G.delN e.n.toNat
 else G
def GS.place(G:GS)(e:Ev):Int:=if G.st.length>0 then cj e.n G.st.length else 0
noncomputable def GS.doE(G:GS)(n:Nat)(e:Ev):GS:=G.does n e (G.place e)
def Bud.tickN{n C:Nat}{J:Nat->Nat->GS->Prop}(h:Bud n C J){i:Nat}(hi:i<n){G:GS}:∀{k c d:Nat},J (c+k) (d+k) G->J c d (G.tickN i k)
 |0,_,_,hj=>hj
 |k+1,c,d,hj=>h.tick _ _ _ _ hi (h.tickN hi (c:=c+1) (d:=d+1) (by rw[show c+1+k=c+(k+1)by omega,show d+1+k=d+(k+1)by omega];exact hj))
def Bud.delN{n C:Nat}{J:Nat->Nat->GS->Prop}(h:Bud n C J){G:GS}:∀{k c d:Nat},J (c+k) d G->J c d (G.delN k)
 |0,_,_,hj=>hj
 |k+1,c,d,hj=>h.del _ _ _ _ (h.delN (c:=c+1) (by rw[show c+1+k=c+(k+1)by omega];exact hj))
theorem Bud.doE{n C:Nat}{J:Nat->Nat->GS->Prop}(h:Bud n C J){G:GS}{e:Ev}{c d:Nat}(hn:0<n)(hb:e.Bd)(hs:e.sm)(hj:J (c+60) (d+60) G):J c d (G.doE n e):=by
 have hi:=nC e.i (n:=n) Om;have hil:(cj e.i n).toNat<n:=Om;have h1:J (c+1) (d+1) G:=h.leq Om Om hj;have h0:J (c+1) d G:=h.leq Om Om hj;unfold GS.doE GS.does;split;.rename_i hw;have:=hs.n (.inl hw);exact h.tickN hil (h.leq Om Om hj)
 split;.exact h.del _ _ _ _ h0
 split;.exact h.drop _ _ _ _ h0
 split
 .split;.exact h.twice _ _ _ _ h0
  exact h.le _ _ _ h0
 split;.exact h.prop _ _ _ _ _ hil hs.text h1
 split;.exact h.comp _ _ _ _ hil h0
 split;.exact h.crash _ _ _ _ _ hil h0
 split;.exact h.fuel _ _ _ _ _ hil hb.n h0
 split;.rename_i hw;have:=hs.n (.inr hw);exact h.delN (h.leq Om Om hj)
 exact h.le _ _ _ h0
def F4(w:GV)(G:GS)(n c d C:Nat)(hB:Bud n C J)(hn:0<n/\n<=9)(hC:n*C<=n*c+100000)(e:Ev)(hb:e.Bd)(hs:e.sm)(hok:GOk R w G)(hj:J (c+60) (d+60) G):
  Tri prog 21 [.pointer (some ⟨w.g,0,none⟩),.int .i64 (n:Int),.agg ⟨fy e⟩] R (YN w G) (λr R' L'=>iy w (G.doE n e) R' L'):=by
 have hb1:=hb.i
 have hb2:=hb.n
 have hb3:=hb.what
 unfold dp at hb1 hb2 hb3
 have hi1:=nR e.i (n:=n) Om
 have hi2:=nC e.i (n:=n) Om
 obtain⟨i,hi⟩:∃i:Nat,cj e.i n=i:=Hu hi2.1
 have hil:i<n:=by omega
 have hit:(cj e.i n).toNat=i:=by omega
 have hgw:=hB.gw _ _ _ hj
 have hst:=hgw.st
 have hln:=hB.ln _ _ _ hj
 have hjd:=hB.doE hn.1 hb hs hj
 have h1:J (c+1) (d+1) G:=hB.leq Om Om hj
 have h0:J (c+1) d G:=hB.leq Om Om hj
 have hla:=hB.last _ _ _ hj
 have hmul:(n:Int)*((c+60:Nat):Int)=n*c+60*n:=by rw[<-Kt,KD];push_cast;omega
 obtain⟨k,hk⟩:∃k,k=G.place e:=⟨_,rfl⟩
 have hdo:G.doE n e=G.does n e k:=by rw[hk];rfl
 rw[hdo]at hjd|-
 clear hdo
 unfold fy
 refine To func21 ntmps21 λσ F _ _ n_ _=>?_
 try simp only[cB]
 refine cS λ_ k1=>Qc (Xc Qo rfl rfl rfl (λb5=>Qd (k1 (cS λ_ k2=>Qc (Pa (Ga Ip GQ) (Pa (La o3) (Pm ?_)))))))
 refine Pa ((Yld.to (u:=.int .i64 (e.i.tmod n)) (cJ rfl rfl Om) (by rfl))) (Pm ?_)
 refine Pa (Qz) (Pm ?_)
 refine Pa ((Yld.to (u:=.int .i64 (i:Int)) (cJ rfl rfl Om) (by rw[<-hi];rfl))) (Ps (Qd (k2 (cS λ_ k3=>Qc (Ps (Qd (k3 (XN λK4 hK4=>?_))))))))
 have hJ6:∀(x:Unit),True->EJ ⟨prog,98,σ⟩ K4 [(0,.pointer (some ⟨w.g,0,none⟩)),(5,.pointer (some ⟨b5,0,none⟩)),(6,.int .i64 (i:Int)),(7,.int .i64 k)] R (QA b5 [.int .i64 e.what,.int .i64 e.i,.int .i64 e.n,.string (Qs e.text)] 53::(YN w G++F)):=by
  rintro _ _
  try dsimp only
  refine hK4 _ _ _ (cS λ_ k5=>Qc (Pa (Ga Ip GQ) (Pa (La o3) (Qd (k5 (Qp (cS λ_ k6=>Qc (Pa QL (Ps (Qd (k6 (Qi rfl (λhc32=>?_) (λhc32=>?_)))))))))))))
  have q0:e.what=0:=by simpa using hc32
  have hsn:=hs.n (.inl q0)
  refine cS λ_ k8=>Qc (Pa (Ga Ip GQ) (Pa (La o3) (Pm (Qd (k8 (Qp (Lp (λ(x1:Nat×GV×Hp)=>[(0,.pointer (some ⟨w.g,0,none⟩)),(6,.int .i64 (i:Int)),(35,.int .i64 e.n),(36,.int .i64 (x1.1:Int))]) (λx1=>x1.2.2) (λx1=>YN x1.2.1 (G.tickN i x1.1)++F) (λx1=>x1.1<=e.n.toNat/\(∃vn css vo cs,x1.2.1=⟨w.g,w.va,w.n,vn,css,vo,cs⟩)/\GOk x1.2.2 x1.2.1 (G.tickN i x1.1)/\R.le x1.2.2) (λx1=>e.n.toNat-x1.1) (0,w,R) (⟨by simp,⟨_,_,_,_,rfl⟩,hok,Hp.le_refl _⟩) ?_)))))))
  rintro⟨j,w1,R1⟩ ⟨hj1,hg1,hok1,hR1⟩
  try dsimp only
  dsimp only at hj1 hg1 hok1 hR1
  obtain⟨vn1,css1,vo1,cs1,rfl⟩:=hg1
  refine cS λ_ k9=>Qc (Pa QR (Qd (k9 (cS λ_ k10=>Qi rfl (λhc37=>?_) (λhc37=>?_)))))
  try simp only[dx]at hc37
  refine Qh (k10 (cS λ_ k12=>Qp ?_))
  have hj2:j<e.n.toNat:=by(try simp at hc37);omega
  have hjt:=hB.tickN hil (c:=c+(60-j)) (d:=d+(60-j)) (k:=j) (by rw[show c+(60-j)+j=c+60 by omega,show d+(60-j)+j=d+60 by omega];exact hj)
  have hjt2:=hB.tick (c+(60-(j+1))) (d+(60-(j+1))) _ i hil (by rw[show c+(60-(j+1))+1=c+(60-j)by omega,show d+(60-(j+1))+1=d+(60-j)by omega];exact hjt)
  refine Qc (Pm (Pm (Ra call26 (pv ⟨w.g,w.va,w.n,vn1,css1,vo1,cs1⟩ (G.tickN i j) i hok1 (by rw[hB.ln _ _ _ hjt];exact hil) (hB.gw _ _ _ hjt) (hB.gw _ _ _ hjt2)) ?_)))
  rintro x R4 L' hR4 ⟨vn4,css4,vo4,cs4,hok4,rfl⟩
  try simp only[cB]
  refine Qd (k12 (cE [0,6,35,36] (Qc ?_)))
  refine Pa Qz (Pm (Qd (ro rfl (rd ((j+1,⟨w.g,w.va,w.n,vn4,css4,vo4,cs4⟩,R4)) (⟨by dsimp only;omega,⟨_,_,_,_,rfl⟩,hok4,Hp.le_trans hR1 hR4⟩) Do))))
  try simp only[dx]at hc37
  refine QG (n_ (Et Jf (YN ⟨w.g,w.va,w.n,vn1,css1,vo1,cs1⟩ (G.tickN i j)) (by first|exact hR1|exact hR4|exact Hp.le_refl _) ?_))
  rw[show G.does n e k=G.tickN i j by unfold GS.does;rw[an q0];rw[hit,show e.n.toNat=j by(try simp at hc37);omega]];exact⟨vn1,css1,vo1,cs1,hok1,rfl⟩
  have q0:¬e.what=0:=by simpa using hc32
  refine cS λ_ k13=>Qc (Pa QL (Ps (Qd (k13 (Qi rfl (λhc42=>?_) (λhc42=>?_))))))
  have q1:e.what=1:=by simpa using hc42
  refine Qc (Pm (Pm (Ra call31 (dr w G k hok hgw (hB.gw _ _ _ (hB.del c d G k h0))) ?_)))
  rintro x R4 L' hR4 ⟨rfl,vn4,css4,vo4,cs4,hok4,rfl⟩
  try simp only[cB]
  refine Qd (n_ (Et Jf (YN ⟨w.g,w.va,w.n,vn4,css4,vo4,cs4⟩ (G.deliver k)) (by first|exact hR1|exact hR4|exact Hp.le_refl _) ?_))
  rw[show G.does n e k=G.deliver k by unfold GS.does;rw[ac q0,an q1]];exact⟨vn4,css4,vo4,cs4,hok4,rfl⟩
  have q1:¬e.what=1:=by simpa using hc42
  refine cS λ_ k15=>Qc (Pa QL (Ps (Qd (k15 (Qi rfl (λhc47=>?_) (λhc47=>?_))))))
  have q2:e.what=2:=by simpa using hc47
  refine Qc (Pm (Pa (Ca Mg ((bA w))) (Pm (Ra call48 (mF w.n w.vn G.last G.st w.css hok.els Om k) ?_))))
  rintro x R4 L' hR4 ⟨rfl,rfl,vn4,css4,hels4,rfl⟩
  try simp only[cB]
  refine Qd (n_ (Et Jf (YN ⟨w.g,w.va,w.n,vn4,css4,w.vo,w.cs⟩ (G.drop k)) (by first|exact hR1|exact hR4|exact Hp.le_refl _) ?_))
  rw[show G.does n e k=G.drop k by unfold GS.does;rw[ac q0,ac q1,an q2]];exact⟨vn4,css4,w.vo,w.cs,⟨hok.len,hok.nd,hels4⟩,rfl⟩
  have q2:¬e.what=2:=by simpa using hc47
  refine cS λ_ k17=>Qc (Pa QL (Ps (Qd (k17 (Qi rfl (λhc53=>?_) (λhc53=>?_))))))
  have q3:e.what=3:=by simpa using hc53
  refine cS λ_ k19=>Qc (Pm (Pa (Ca Mg ((bA w))) (Pa (Ca MX ((bW w.n w.vn G.last G.st w.css))) (Pa QR (Qd (k19 (Qi rfl (λhc58=>?_) (λhc58=>?_))))))))
  have q33:G.st.length<300:=by(try simp at hc58);omega
  refine Qc (Pm (Pa (Ca Mg ((bA w))) (Pm (Ra call49 (ul w.n w.vn G.last G.st w.css hok.els (fN hgw) Om (by have:=hgw.last;omega) k) ?_))))
  rintro x R4 L' hR4 ⟨rfl,vn4,css4,hels4,rfl⟩
  try simp only[cB]
  refine Qd (n_ (Et Jf (YN ⟨w.g,w.va,w.n,vn4,css4,w.vo,w.cs⟩ (G.twice k)) (by first|exact hR1|exact hR4|exact Hp.le_refl _) ?_))
  rw[show G.does n e k=G.twice k by unfold GS.does;rw[ac q0,ac q1,ac q2,an q3];rw[an q33]];exact⟨vn4,css4,w.vo,w.cs,⟨hok.len,λi c m hc hm=>(hok.nd i c m hc hm).mono hR4,hels4⟩,rfl⟩
  have q33:¬G.st.length<300:=by(try simp at hc58);omega
  refine Qh (n_ (Et Jf (YN w G) (by first|exact hR1|exact hR4|exact Hp.le_refl _) ?_))
  rw[show G.does n e k=G by unfold GS.does;rw[ac q0,ac q1,ac q2,an q3];rw[ac q33]];exact⟨w.vn,w.css,w.vo,w.cs,hok,rfl⟩
  have q3:¬e.what=3:=by simpa using hc53
  refine cS λ_ k21=>Qc (Pa QL (Ps (Qd (k21 (cE [0,5,6,31,63] (Qi rfl (λhc63=>?_) (λhc63=>?_)))))))
  have q4:e.what=4:=by simpa using hc63
  refine Qc (Pm (Pm (Pa (Ga Ip Ic) (Pa (La o9) (Ra call16 (dq w G i e.text hs.text hok Om hgw (hB.gw _ _ _ (hB.prop c d G i e.text hil hs.text h1))) ?_)))))
  rintro x R4 L' hR4 ⟨rfl,vn4,css4,vo4,cs4,hok4,rfl⟩
  try simp only[cB]
  refine Qd (n_ (Et Jf (YN ⟨w.g,w.va,w.n,vn4,css4,vo4,cs4⟩ (G.propose i e.text).2) (by first|exact hR1|exact hR4|exact Hp.le_refl _) ?_))
  rw[show G.does n e k=(G.propose i e.text).2 by unfold GS.does;rw[ac q0,ac q1,ac q2,ac q3,an q4];rw[hit]];exact⟨vn4,css4,vo4,cs4,hok4,rfl⟩
  have q4:¬e.what=4:=by simpa using hc63
  refine cS λ_ k23=>Qc (Pa QL (Ps (Qd (k23 (Qi rfl (λhc70=>?_) (λhc70=>?_))))))
  have q5:e.what=5:=by simpa using hc70
  refine Qc (Pm (Pm (Ra call32 (rH w G i hok Om hgw) ?_)))
  rintro x R4 L' hR4 ⟨rfl,vn4,css4,vo4,cs4,hok4,rfl⟩
  try simp only[cB]
  refine Qd (n_ (Et Jf (YN ⟨w.g,w.va,w.n,vn4,css4,vo4,cs4⟩ (G.compact i).2) (by first|exact hR1|exact hR4|exact Hp.le_refl _) ?_))
  rw[show G.does n e k=(G.compact i).2 by unfold GS.does;rw[ac q0,ac q1,ac q2,ac q3,ac q4,an q5];rw[hit]];exact⟨vn4,css4,vo4,cs4,hok4,rfl⟩
  have q5:¬e.what=5:=by simpa using hc70
  refine cS λ_ k25=>Qc (Pa QL (Ps (Qd (k25 (Qi rfl (λhc75=>?_) (λhc75=>?_))))))
  have q6:e.what=6:=by simpa using hc75
  refine Qc (Pm (Pm (Pa (Ga Ip GQ) (Pa (La o3) (Ra call12 (mQ w G i e.n hok Om hgw (λm hm=>hB.opens c d G i m e.n h0 hm)) ?_)))))
  rintro x R4 L' hR4 ⟨vn4,css4,vo4,cs4,hok4,rfl⟩
  try simp only[cB]
  refine Qd (n_ (Et Jf (YN ⟨w.g,w.va,w.n,vn4,css4,vo4,cs4⟩ (G.crash i e.n)) (by first|exact hR1|exact hR4|exact Hp.le_refl _) ?_))
  rw[show G.does n e k=G.crash i e.n by unfold GS.does;rw[ac q0,ac q1,ac q2,ac q3,ac q4,ac q5,an q6];rw[hit]];exact⟨vn4,css4,vo4,cs4,hok4,rfl⟩
  have q6:¬e.what=6:=by simpa using hc75
  refine cS λ_ k27=>Qc (Pa QL (Ps (Qd (k27 (Qi rfl (λhc82=>?_) (λhc82=>?_))))))
  have q7:e.what=7:=by simpa using hc82
  refine Qc (Pm (Pm (Pa (Ga Ip GQ) (Pa (La o3) (Ra call30 (Ab w G i e.n hok Om) ?_)))))
  rintro x R4 L' hR4 ⟨vn4,css4,vo4,cs4,hok4,rfl⟩
  try simp only[cB]
  refine Qd (n_ (Et Jf (YN ⟨w.g,w.va,w.n,vn4,css4,vo4,cs4⟩ (G.fuel i e.n)) (by first|exact hR1|exact hR4|exact Hp.le_refl _) ?_))
  rw[show G.does n e k=G.fuel i e.n by unfold GS.does;rw[ac q0,ac q1,ac q2,ac q3,ac q4,ac q5,ac q6,an q7];rw[hit]];exact⟨vn4,css4,vo4,cs4,hok4,rfl⟩
  have q7:¬e.what=7:=by simpa using hc82
  refine cS λ_ k29=>Qc (Pa QL (Ps (Qd (k29 (cE [0,5,89] (Qi rfl (λhc89=>?_) (λhc89=>?_)))))))
  have q8:e.what=8:=by simpa using hc89
  have hsn:=hs.n (.inr q8)
  refine cS λ_ k31=>Qc (Pa (Ga Ip GQ) (Pa (La o3) (Pm (Qd (k31 (Qp (Lp (λ(x1:Nat×GV×Hp)=>[(0,.pointer (some ⟨w.g,0,none⟩)),(92,.int .i64 e.n),(93,.int .i64 (x1.1:Int))]) (λx1=>x1.2.2) (λx1=>YN x1.2.1 (G.delN x1.1)++F) (λx1=>x1.1<=e.n.toNat/\(∃vn css vo cs,x1.2.1=⟨w.g,w.va,w.n,vn,css,vo,cs⟩)/\GOk x1.2.2 x1.2.1 (G.delN x1.1)/\R.le x1.2.2) (λx1=>e.n.toNat-x1.1) (0,w,R) (⟨by simp,⟨_,_,_,_,rfl⟩,hok,Hp.le_refl _⟩) ?_)))))))
  rintro⟨j,w1,R1⟩ ⟨hj1,hg1,hok1,hR1⟩
  try dsimp only
  dsimp only at hj1 hg1 hok1 hR1
  obtain⟨vn1,css1,vo1,cs1,rfl⟩:=hg1
  refine cS λ_ k32=>Qc (Pa QR (Qd (k32 (cS λ_ k33=>Qi rfl (λhc94=>?_) (λhc94=>?_)))))
  try simp only[dx]at hc94
  refine Qh (k33 (cS λ_ k35=>Qp ?_))
  have hj2:j<e.n.toNat:=by(try simp at hc94);omega
  have hjt:=hB.delN (c:=c+(60-j)) (d:=d+60) (k:=j) (by rw[show c+(60-j)+j=c+60 by omega];exact hj)
  have hjt2:=hB.del (c+(60-(j+1))) (d+60) _ 0 (by rw[show c+(60-(j+1))+1=c+(60-j)by omega];exact hjt)
  refine Qc (Pm (Ra call31 (dr ⟨w.g,w.va,w.n,vn1,css1,vo1,cs1⟩ (G.delN j) 0 hok1 (hB.gw _ _ _ hjt) (hB.gw _ _ _ hjt2)) ?_))
  rintro x R4 L' hR4 ⟨rfl,vn4,css4,vo4,cs4,hok4,rfl⟩
  try simp only[cB]
  refine Qd (k35 (Qc (Pa Qz (Pm (Qd (ro rfl (rd ((j+1,⟨w.g,w.va,w.n,vn4,css4,vo4,cs4⟩,R4)) (⟨by dsimp only;omega,⟨_,_,_,_,rfl⟩,hok4,Hp.le_trans hR1 hR4⟩) Do)))))))
  try simp only[dx]at hc94
  refine QG (n_ (Et Jf (YN ⟨w.g,w.va,w.n,vn1,css1,vo1,cs1⟩ (G.delN j)) (by first|exact hR1|exact hR4|exact Hp.le_refl _) ?_))
  rw[show G.does n e k=G.delN j by unfold GS.does;rw[ac q0,ac q1,ac q2,ac q3,ac q4,ac q5,ac q6,ac q7,an q8];rw[show e.n.toNat=j by(try simp at hc94);omega]];exact⟨vn1,css1,vo1,cs1,hok1,rfl⟩
  have q8:¬e.what=8:=by simpa using hc89
  refine Qh (n_ (Et Jf (YN w G) (by first|exact hR1|exact hR4|exact Hp.le_refl _) ?_))
  rw[show G.does n e k=G by unfold GS.does;rw[ac q0,ac q1,ac q2,ac q3,ac q4,ac q5,ac q6,ac q7,ac q8]];exact⟨w.vn,w.css,w.vo,w.cs,hok,rfl⟩
 refine cS λ_ k36=>Qc (Pm (Pa (Ca Mg ((bA w))) (Pa (Ca MX ((bW w.n w.vn G.last G.st w.css))) (Ps (Qd (k36 (cS λ_ k37=>Qc ?_)))))))
 refine Pm (Pa XG (Qd (k37 (Qi rfl (λhc21=>?_) (λhc21=>?_)))))
 have hpos:0<(G.st.length:Int):=by(try simp at hc21);omega
 have hk1:=nR e.n hpos
 have hk2:k=cj e.n G.st.length:=by rw[hk];unfold GS.place;rw[an Om]
 refine Qc (Pa (Ga Ip GQ) (Pa (La o3) (Pm ?_)))
 refine Pa ((Yld.to (u:=.int .i64 (e.n.tmod G.st.length)) (cJ rfl rfl Om) (by rfl))) (Pm ?_)
 refine Pa (Qz) (Pm ?_)
 refine Pa ((Yld.to (u:=.int .i64 k) (cJ rfl rfl Om) (by rw[hk2];rfl))) (Ps (Qd (Jn hJ6 (()) (trivial))))
 have hk2:k=0:=by rw[hk];unfold GS.place;rw[ac (by have hz:=hc21;simp only[decide_eq_false_iff_not]at hz;omega)]
 subst hk2
 refine Qh (Jn hJ6 (()) (trivial))
abbrev xg:=Int×Int×Int×List UInt8
abbrev EB:jL xg:=ai 1 (jE .i64) (ai 1 (jE .i64) (ai 1 (jE .i64) n7))
def i5(y:xg):Ev:=⟨y.1,y.2.1,y.2.2.1,y.2.2.2⟩
def Ba{cs:List Value}{y:xg}(hl:cs.length=4)(h:EB R cs y):evE.P R (i5 y) cs/\(i5 y).Bd:=by
 match cs,hl with
 |c0::c1::c2::[c3],_=>
  let⟨⟨e0,b0⟩,⟨e1,b1⟩,⟨e2,b2⟩,e3,b3⟩:=h;simp[KL,List.take_zero,MH,JC,IH,MA]at e0 e1 e2 e3;refine⟨?_,⟨lQ b0,lQ b1,lQ b2⟩⟩;show _=fy (i5 y);unfold fy;rw[e0,e1,e2,e3];rfl
def Ez{v:Value}{ys:List xg}(h:lp 4 EB R [v] ys):FrX evE R (ys.map i5) v/\∀a∈ys.map i5,a.Bd:=by
 refine⟨xy (T:=evE) i5 (λc x hc h=>(Ba hc h).1) h,λm hm=>?_⟩;obtain⟨y,hy,rfl⟩:=Gu.1 hm;obtain⟨q,cap,_,_,_,h3⟩:=h;rcases h3 with rfl|⟨b,off,_,hz⟩
 .simp at hy
 obtain⟨i,hi,rfl⟩:=Ij hy;obtain⟨c,h1,_,h2⟩:=hz i hi;exact(Ba h1 h2).2
def zt(a b:List Bs):Bool:=decide (a.take (min a.length b.length)=b.take (min a.length b.length))
def rq{α:Type}{l m:List α}{x y:α}(hx:l[i]?=some x)(hy:m[i]?=some y)(h:l.take i=m.take i)(e:x=y):l.take (i+1)=m.take (i+1):=by
 rw[HV,HV,hx,hy,h,e]
def w8{a b:List Bs}{x y:Bs}(hx:a[i]?=some x)(hy:b[i]?=some y)(h:¬x=y):zt a b=false:=by
 unfold zt;refine decide_eq_false λe=>h ?_;have h1:=(Gj.1 hx).1;have h2:=(Gj.1 hy).1;have:=GM (λl=>l[i]?) e;simp[I3 (show i<min a.length b.length by omega),hx,hy]at this;simpa using this
def kT{a b:List Bs}(h:a.take i=b.take i)(hi:min a.length b.length<=i):zt a b=true:=by
 unfold zt;refine IS ?_;have:=GM (List.take (min a.length b.length)) h;rwa [Hd,Hd,Hj hi]at this
def Az(va vb:Value)(a b:List Bs):QTri prog 27 [va,vb] R [Zk va a,Zk vb b] (.bool (zt a b)):=by
 refine Tri.q (To func27 ntmps27 λ_ F _ r_ _ _=>?_)
 try simp[cB]
 refine qh (A:=Zk va a) Qm ZF (λhsa=>qh (A:=Zk vb b) Qm ZF (λhsb=>?_))
 obtain⟨qa,ca,rfl,ha1,ha2,_⟩:=hsa
 obtain⟨qb,cb,rfl,hb1,hb2,_⟩:=hsb
 unfold maxLen at ha2 hb2
 refine cS λ_ k1=>Qc (Ps (Qd (k1 (cS λ_ k2=>cS λ_ k3=>Qc (Ps (Qd (k3 (Qp (Lp (λ(x:Nat)=>[(0,.slice qa a.length ca),(1,.slice qb b.length cb),(5,.int .i64 (x:Int))]) (λx=>R) (λx=>Zk (.slice qa a.length ca) a::Zk (.slice qb b.length cb) b::F) (λx=>x<=min a.length b.length/\a.take x=b.take x) (λx=>a.length-x) 0 (⟨Si,Si⟩) ?_)))))))))
 rintro i ⟨hi,he⟩
 try dsimp only
 refine cS λ_ k4=>cS λ_ k5=>Qc (Pm (Pm (Pa (QV HJ) (Pa QR (Pm (QM 10 rfl (λhg10=>?_) (λhg10=>?_)))))))
 try simp[dx]at hg10
 refine Pb Qf (Pb Qf (Pb (QV HJ) (Pb QR (Pa Qq (Qd (k5 (Qi rfl (λhc15=>?_) (λhc15=>?_))))))))
 try simp[dx]at hc15
 refine Qh (k4 (cS λ_ k7=>Qp (cS λ_ k8=>?_)))
 have hi1:i<a.length/\i<b.length:=by(try simp at hg10 hc15);omega
 obtain⟨x,hx⟩:∃x,a[i]?=some x:=⟨_,b7 hi1.1⟩
 obtain⟨y,hy⟩:∃x,b[i]?=some x:=⟨_,b7 hi1.2⟩
 have hna:ZO (jM a) ((i:Int).toNat*1+0)=some (.string (Qs x)):=by rw[Hc,qr];simp[jM,hx]
 have hnb:ZO (jM b) ((i:Int).toNat*1+0)=some (.string (Qs y)):=by rw[Hc,qr];simp[jM,hy]
 refine dW (Qa Qf (Qa (Qf rfl) ?_))
 refine Qa ((Xn (sz:=1) (n:=a.length) HJ Ic)) (Qa ((XC o9 rfl Qm hna)) (Qa (Qf rfl) (Qa (Qf rfl) ?_)))
 refine Qa ((Xn (sz:=1) (n:=b.length) HJ Ic)) (Qa ((XC o9 rfl Qm hnb)) (Qa (fA rfl rfl) (Xj (k8 ?_))))
 refine cE [0,1,5,26] (Qi rfl (λhc26=>?_) (λhc26=>?_))
 try simp[dx]at hc26
 refine cS λ_ k10=>Qc (Ps (Qd (k10 (Qg (r_ (Es results27 [Zk (.slice qa a.length ca) a,Zk (.slice qb b.length cb) b] ?_))))))
 rw[w8 hx hy (by simpa using hc26)];exact⟨rfl,rfl,rfl⟩
 try simp[dx]at hc26
 refine Qh (k7 (Qc (Pm ?_)))
 refine Pa Qz (Ps (Qd (ro rfl (rd (i+1) (⟨Om,rq hx hy he (by simpa using hc26)⟩) Om))))
 try simp[dx]at hc15
 refine QG (k2 (cE [] (cS λ_ k11=>Qc (Ps (Qd (k11 (Qg (r_ (Es results27 [Zk (.slice qa a.length ca) a,Zk (.slice qb b.length cb) b] ?_)))))))))
 rw[kT he (by(try simp at hg10);omega)];exact⟨rfl,rfl,rfl⟩
 try simp[dx]at hg10
 refine Pk (Pk (Pk (Pk (Pa Qn (Qd (k5 (Qt rfl (QG (k2 (cE [] (cS λ_ k12=>Qc (Ps (Qd (k12 (Qg (r_ (Es results27 [Zk (.slice qa a.length ca) a,Zk (.slice qb b.length cb) b] ?_)))))))))))))))))
 rw[kT he (by(try simp at hg10 hc15);omega)];exact⟨rfl,rfl,rfl⟩
def wL{w:GV}{c:MV}(hc:w.cs[i]?=some c)(hm:G.ms[i]?=some m)(vb:Value)(b:List Bs):QTri prog 27 [c.vl,vb] R [yd w G,Zk vb b] (.bool (zt m.l b)):=
 QTri.big (yK hc hm) ((Az c.vl vb m.l b).split (L:=Yi c m++[Zk vb b]) Za)
def ZS(h:x.out=[]):x.feedAll.out=(x.others.map x.feedMsg).map x.stamp:=by rw[Xe];unfold ND.sends;simp[h]
def aV(h:x.out=[]):x.askAll.out=(x.others.map x.askMsg).map x.stamp:=by unfold ND.askAll;rw[yM];unfold ND.sends;simp[h]
def yW(h:y.out=[])(m:Msg):(y.send m).out=[y.stamp m]:=by unfold ND.send;rw[h];rfl
def eZ(h:y.out=[])(to:Nat):(y.feed to).out=[y.stamp (y.feedMsg to)]:=yW h _
def yx(h:y.out=[])(m:Msg)(ok:Bool)(i:Int):(y.answer m ok i).out=[y.stamp {Msg.zero with kind:=3,to:=m.frm,ok:=ok,index:=i}]:=yW h _
structure LB (T I:Int) (g:LG):Prop where
 term:0<=g.term/\g.term<=T
 vote: -1<=g.vote/\g.vote<9
 base:0<=g.base
 baseT:0<=g.baseT/\g.baseT<=T
 last:g.last<=I
 all:∀e∈g.all,(0<=e.1/\e.1<=T)/\e.2.length<=100
 st:((ZC g.state).length:Int)<=g.base/\∀s∈ZC g.state,s.length<=100
 stl:g.state.length<=1000000
def LB.mono{I I':Int}(h:LB T I g)(hT:T<=T')(hI:I<=I'):LB T' I' g:=
 ⟨⟨h.term.1,Hg h.term.2 hT⟩,h.vote,h.base,⟨h.baseT.1,Hg h.baseT.2 hT⟩,Hg h.last hI,λe he=>⟨⟨(h.all e he).1.1,Hg (h.all e he).1.2 hT⟩,(h.all e he).2⟩,h.st,h.stl⟩
def LB.set{I:Int}(h:LB T I g){v:Int}(ht:0<=t/\t<=T)(hv: -1<=v/\v<9):LB T I {g with term:=t,vote:=v}:=
 ⟨ht,hv,h.base,h.baseT,h.last,h.all,h.st,h.stl⟩
structure MB (T I:Int) (m:Msg):Prop where
 term:0<=m.term/\m.term<=T
 index:0<=m.index/\m.index+m.es.length<=I
 logTerm:0<=m.logTerm/\m.logTerm<=T
 commit:0<=m.commit/\m.commit<=I
 es:m.es.length<=8/\∀e∈m.es,(0<=e.1/\e.1<=T)/\e.2.length<=100
 st:((ZC m.state).length:Int)<=m.index/\∀s∈ZC m.state,s.length<=100
 stl:m.state.length<=1000000
def MB.mono{I I':Int}{m:Msg}(h:MB T I m)(hT:T<=T')(hI:I<=I'):MB T' I' m:=
 ⟨⟨h.term.1,Hg h.term.2 hT⟩,⟨h.index.1,Hg h.index.2 hI⟩,⟨h.logTerm.1,Hg h.logTerm.2 hT⟩,⟨h.commit.1,Hg h.commit.2 hI⟩,⟨h.es.1,λe he=>⟨⟨(h.es.2 e he).1.1,Hg (h.es.2 e he).1.2 hT⟩,(h.es.2 e he).2⟩⟩,h.st,h.stl⟩
def MB.ln{I:Int}{m:Msg}(h:MB T I m):MLn T I m:=
 ⟨h.term,⟨h.index.1,by have:=h.index.2;omega⟩,h.logTerm,h.commit.1,⟨by have:=h.es.1;omega,h.es.2⟩,h.stl⟩
def MB.im{T I:Int}{m:Msg}(h:MB T I m)(hT:T<=2305843009213693952)(hI:I<=100000000000000):MIm 0 m/\zE m:=
 ⟨h.ln.im hT hI (by have:=h.commit.2;omega),by unfold zE;have:=h.es.1;omega⟩
def lh:ZC []=[]:=Dc
def MB.plain{I:Int}{m:Msg}(ht:0<=m.term/\m.term<=T)(hi:0<=m.index/\m.index<=I)(hl:0<=m.logTerm/\m.logTerm<=T)(hc:m.commit=0)(he:m.es=[])(hs:m.state=[])(hI:0<=I):MB T I m:=
 ⟨ht,by rw[he];simpa using hi,hl,by rw[hc];omega,by rw[he];simp,by rw[hs,lh];simpa using hi.1,by rw[hs];simp⟩
structure UB (T I:Int) (x:ND):Prop where
 inn:LIn T I I.toNat x
 lb:LB T I x.g
def LB.of{J I:Int}{A:Nat}(h:LIn T J A y)(hl:y.g.last<=I)(hs:((ZC y.g.state).length:Int)<=y.g.base/\∀s∈ZC y.g.state,s.length<=100):LB T I y.g:=
 ⟨h.term,h.vote,h.base,h.baseT,hl,h.all,hs,h.state⟩
def UB.mk0{J I:Int}{A:Nat}(h:LIn T J A y)(hl:y.g.last<=I)(hp:∀p∈y.peers,p.1<=I+1/\p.2<=I)(hs:((ZC y.g.state).length:Int)<=y.g.base/\∀s∈ZC y.g.state,s.length<=100):UB T I y:=
 ⟨⟨h.idn,h.down,h.term,h.vote,h.base,h.baseT,hl,h.state,by have:=h.base;unfold LG.last at hl;omega,h.all,h.commit,h.patience,h.peers,λp hq=>by have h1:=h.peer p hq;have h2:=hp p hq;omega,h.pl,h.votes⟩,LB.of h hl hs⟩
def UB.mono{T T' I I':Int}{x:ND}(h:UB T I x)(hT:T<=T')(hI:I<=I'):UB T' I' x:=⟨h.inn.mono hT hI Om,h.lb.mono hT hI⟩
def UB.pp{I:Int}(h:UB T I x):∀p∈x.peers,p.1<=I+1/\p.2<=I:=λp hp=>by have:=h.inn.peer p hp;omega
def UB.i0{I:Int}(h:UB T I x):0<=I:=by
 have h1:=h.lb.base;have h2:=h.lb.last;unfold LG.last at h2;omega
def UB.t0{I:Int}(h:UB T I x):0<=T:=by have h1:=h.lb.term;omega
def AR{I:Int}(h:UB T I x)(i:Int):0<=x.tAt i/\x.tAt i<=T:=by
 have ht:=h.t0;have hb:=h.lb.baseT;unfold ND.tAt LG.termAt;split;.exact hb
 cases h1:x.g.at i with
 |none=>simp;omega
 |some e=>exact(h.lb.all e (LG.at_mem h1)).1
def Fm{I:Int}(h:UB T I x)(to:Nat):0<=x.nxt to/\x.nxt to<=I+1:=by
 have h0:=h.i0;unfold ND.nxt;by_cases h1:to<x.peers.length
 .have hm:x.peers.getD to (0,0)∈x.peers:=by rw[Gt,b7 h1];simp
  have:=h.inn.peer _ hm;omega
 rw[Gt,Ho Om];simp;omega
def UB.feedM{I:Int}(h:UB T I x)(to:Nat):MB T I (x.stamp (x.feedMsg to)):=by
 have hn:=Fm h to;have hb:=h.lb.base;have hl:=h.lb.last;have hl2:x.g.last=x.g.base+x.g.all.length:=rfl;have hc:=h.inn.commit;by_cases h1:x.nxt to<=x.g.base;.rw[yl h1];exact⟨h.lb.term,⟨hb,by show x.g.base+(([]:List Qy).length:Int)<=I;simp;omega⟩,h.lb.baseT,⟨by show(0:Int)<=0;omega,by show(0:Int)<=I;omega⟩,⟨by show([]:List Qy).length<=8;simp,λe he=>by cases he⟩,h.lb.st,h.lb.stl⟩
 rw[qE h1];refine⟨h.lb.term,⟨by show 0<=x.nxt to-1;omega,?_⟩,AR h _,⟨by show 0<=x.commit;omega,by show x.commit<=I;omega⟩,⟨?_,λe he=>h.lb.all e (Hx (I1 he))⟩,?_,by show([]:Bs).length<=1000000;simp⟩
 .show x.nxt to-1+(((x.g.all.drop (x.nxt to-x.g.base-1).toNat).take 8).length:Int)<=I;have:((x.g.all.drop (x.nxt to-x.g.base-1).toNat).take 8).length<=x.g.all.length-(x.nxt to-x.g.base-1).toNat:=by simp;omega
  omega
 .show((x.g.all.drop (x.nxt to-x.g.base-1).toNat).take 8).length<=8;simp;omega
 show((ZC []).length:Int)<=x.nxt to-1/\∀s∈ZC [],s.length<=100;rw[lh];simp;omega
def cr(x:ND):Int:=(if x.role=1 then 10 else 0)+max 0 x.patience
def pW(x:ND):0<=cr x:=by unfold cr;split<;>omega
def RB(T I c:Int)(y:ND):Prop:=∃I',I<=I'/\10*I'+cr y<=10*I+c/\UB T I' y/\∀m∈y.out,MB T I' m
def RB.same{I:Int}(h:UB T I y)(hc:cr y<=c)(ho:∀m∈y.out,MB T I m):RB T I c y:=⟨I,Gk _,Om,h,ho⟩
def UB.sends{T I:Int}{x:ND}(h:UB T I x)(l:List Msg):UB T I {x with out:=l}:=⟨h.inn.sends l,h.lb⟩
def jx(x:ND):x.others.length<=x.n:=by unfold ND.others;have:=List.length_filter_le (λi=>i !=x.id) (List.range x.n);simpa using this
def UB.feedAll{I:Int}(h:UB T I x)(ho:x.out=[]):UB T I x.feedAll/\∀m∈x.feedAll.out,MB T I m:=by
 refine⟨by rw[Xe];exact h.sends _,λm hm=>?_⟩;rw[ZS ho]at hm;obtain⟨m1,hm1,rfl⟩:=Gu.1 hm;obtain⟨to,_,rfl⟩:=Gu.1 hm1;exact h.feedM to
def UB.count{T I:Int}{x:ND}(h:UB T I x)(hr:x.role=2):UB T I x.count:=⟨(h.inn.count hr).inn,by rw[ym];exact h.lb⟩
def UB.entryP{T I:Int}{x:ND}{cmd:Bs}(h:UB T I x)(ho:x.out=[])(hr:x.role=2)(hc:cmd.length<=100):UB T (I+1) (x.entryP cmd)/\∀m∈(x.entryP cmd).out,MB T (I+1) m:=by
 have hi:=h.i0;have hb:=h.inn.commit;have hl:=h.lb.last;have h1:=(h.inn.add (i:=x.g.last) (m:=[(x.g.term,cmd)]) ⟨h.inn.commit.2,Gk _⟩ (λ_=>HE _) (λe he=>by simp at he;subst he;exact⟨h.inn.term,hc⟩)).inn;have hla:=ao (g:=x.g) (i:=x.g.last) (m:=[(x.g.term,cmd)]) Om;have h2:UB T (I+1) {x with g:=x.g.play (.add x.g.last [(x.g.term,cmd)])}:=UB.mk0 h1 (by show(x.g.play _).last<=_;rw[hla];simp;omega) (λp hp=>by have:=h.pp p hp;omega) h.lb.st;unfold ND.entryP;exact(h2.count hr).feedAll (by rw[(YU _).1];exact ho)
def UB.wins{T I:Int}{x:ND}(h:UB T I x):UB T I x.wins:=⟨h.inn.wins,h.lb⟩
def fb(x:ND)(cmd:Bs):(x.entryP cmd).role=x.role:=by
 unfold ND.entryP;rw[Xe];exact(YU _).2.2.1
def gB(x:ND)(cmd:Bs):(x.entryP cmd).patience=x.patience:=by
 unfold ND.entryP;rw[Xe];show(ND.count _).patience=_;unfold ND.count;split<;>rfl
def UB.winP{T I:Int}{x:ND}(h:UB T I x)(ho:x.out=[]):UB T (I+1) x.winP/\(∀m∈x.winP.out,MB T (I+1) m)/\cr x.winP=0:=by
 have h1:=UB.entryP (x:=x.wins) (cmd:=[]) h.wins ho rfl Si;exact⟨h1.1,h1.2,by unfold cr ND.winP;rw[fb,gB];rfl⟩
def UB.askM{I:Int}(h:UB T I x)(to:Nat):MB T I (x.stamp (x.askMsg to)):=
 MB.plain h.lb.term ⟨by have:=h.lb.base;show 0<=x.g.last;unfold LG.last;omega,h.lb.last⟩ (AR h _) rfl rfl rfl h.i0
def UB.standP{T I:Int}{x:ND}(h:UB T I x)(ho:x.out=[])(hv:(x.id:Int)<9):RB (T+1) I 10 x.standP:=by
 have ht:=h.lb.term;have hid:=h.inn.idn;have h1:=((h.inn.mono (show T<=T+1 by omega) (Gk _) (Gl _)).set (t:=x.g.term+1) (v:=x.id) Om Om (.inl Om)).inn.stands;have h2:UB (T+1) I (ND.stands {x with g:={x.g with term:=x.g.term+1,vote:=x.id}}):=⟨h1,(h.lb.mono Om (Gk _)).set Om Om⟩;unfold ND.standP;by_cases hn:x.n=1;.rw[an hn];obtain⟨a,b,c⟩:=h2.winP ho;exact⟨I+1,by omega,by rw[c];omega,a,b⟩
 rw[ac hn];have e:cr (ND.askAll (ND.stands {x with g:={x.g with term:=x.g.term+1,vote:=x.id}}))=10:=by unfold ND.askAll;rw[yM];rfl
 refine RB.same ?_ (by rw[e];omega) (λm hm=>?_);.unfold ND.askAll;rw[yM];exact h2.sends _
 rw[aV (x:=ND.stands {x with g:={x.g with term:=x.g.term+1,vote:=x.id}}) ho]at hm;obtain⟨m1,hm1,rfl⟩:=Gu.1 hm;obtain⟨to,_,rfl⟩:=Gu.1 hm1;exact h2.askM to
def UB.pat{T I:Int}{x:ND}(h:UB T I x){p:Int}(hp:0<=p/\p<=30):UB T I {x with patience:=p}:=⟨(h.inn.pat hp).inn,h.lb⟩
def UB.tickP{T I:Int}{x:ND}(h:UB T I x)(ho:x.out=[]):RB (T+1) I (cr x+1) x.tickP:=by
 have hc:=pW x;have hp:=h.inn.patience;have hid:=h.inn.idn;have hlm:=yL x.id x.g.term;have hm:=h.mono (show T<=T+1 by omega) (Gk I);unfold ND.tickP;by_cases h1:x.role=2
 .rw[an h1];by_cases h2:x.patience+1>=3;.rw[an h2];let⟨a,b⟩:=(hm.pat (p:=0) Om).feedAll ho;exact RB.same a (by rw[Xe];show cr {x with patience:=0}<=_;unfold cr;dsimp only;omega) b
  rw[ac h2];exact RB.same (hm.pat Om) (by unfold cr;dsimp only;omega) (λm hm=>by rw[show({x with patience:=x.patience+1}:ND).out=x.out from rfl,ho]at hm;cases hm)
 rw[ac h1];by_cases h2:x.patience+1>=YA x.id x.g.term;.rw[an h2];have e:ND.standP {x with patience:=x.patience+1}=ND.standP {x with patience:=0}:=HE _;rw[e];have h3:=UB.standP (x:={x with patience:=0}) (h.pat Om) ho (by show(x.id:Int)<9;omega);let⟨I',a,b,c,d⟩:=h3;exact⟨I',a,by unfold cr at b|-;split<;>omega,c,d⟩
 rw[ac h2];exact RB.same (hm.pat Om) (by unfold cr;dsimp only;omega) (λm hm=>by rw[show({x with patience:=x.patience+1}:ND).out=x.out from rfl,ho]at hm;cases hm)
def UB.send1{I:Int}(h:UB T I x)(ho:x.out=[])(m:Msg)(hm:MB T I (x.stamp m))(hc:cr x<=c):RB T I c (x.send m):=
 RB.same (h.sends _) hc (λm1 hm1=>by rw[yW ho]at hm1;simp at hm1;subst hm1;exact hm)
def UB.quiet{I:Int}(h:UB T I x)(ho:x.out=[])(hc:cr x<=c):RB T I c x:=RB.same h hc (λm hm=>by rw[ho]at hm;cases hm)
def UB.answer1{I:Int}(h:UB T I x)(ho:x.out=[])(m:Msg)(ok:Bool){i:Int}(hi:0<=i/\i<=I)(hc:cr x<=c):RB T I c (x.answer m ok i):=
 h.send1 ho _ (MB.plain h.lb.term hi ⟨by show(0:Int)<=0;omega,by have:=h.t0;exact this⟩ rfl rfl rfl h.i0) hc
def UB.askedP{T I:Int}{x:ND}{m:Msg}(h:UB T I x)(ho:x.out=[])(hm:0<=m.frm/\m.frm<x.n):RB T I (cr x) (x.askedP m):=by
 have hid:=h.inn.idn;have ht:=h.t0;have hi:=h.inn.askedP hm;have hv:∀(y:ND),y.g.term=x.g.term->∀ok,MB T I (y.stamp (ND.voteMsg m ok)):=λy hy ok=>MB.plain (by show 0<=y.g.term/\y.g.term<=T;rw[hy];exact h.lb.term) ⟨by show(0:Int)<=0;omega,h.i0⟩ ⟨by show(0:Int)<=0;omega,ht⟩ rfl rfl rfl h.i0;unfold ND.askedP at hi|-;by_cases h1:x.grants m=true;.rw[an h1]at hi|-;refine RB.same ⟨hi.inn,h.lb.set h.lb.term Om⟩ (by unfold cr;show(if x.role=1 then(10:Int)else 0)+max 0 0<=(if x.role=1 then 10 else 0)+max 0 x.patience;omega) (λm1 hm1=>?_);rw[yW (y:={x with g:={x.g with term:=x.g.term,vote:=m.frm},patience:=0}) ho]at hm1;simp at hm1;subst hm1;exact hv _ rfl _
 rw[ac h1];exact h.send1 ho _ (hv x rfl false) (Gk _)
def UB.votedP{T I:Int}{x:ND}{m:Msg}(h:UB T I x)(ho:x.out=[])(hm:0<=m.frm/\m.frm<x.n):RB T I (cr x) (x.votedP m):=by
 unfold ND.votedP;by_cases h1:¬x.role=1\/¬m.term=x.g.term\/m.ok=false;.rw[an h1];exact h.quiet ho (Gk _)
 rw[ac h1];have h2:UB T I {x with votes:=QS x.votes m.frm}:=⟨h.inn.vote1 hm,h.lb⟩;split
 .let⟨a,b,c⟩:=UB.winP (x:={x with votes:=QS x.votes m.frm}) h2 ho;have hr:x.role=1:=by
   by_cases hr:x.role=1;.exact hr
   exact Gr (.inl hr) h1
  exact⟨I+1,Om,by rw[c];unfold cr;rw[an hr];omega,a,b⟩
 exact h2.quiet ho (Gk _)
def s8{m:Msg}(h:¬(m.index<x.g.base/\(m.es.length:Int)<x.g.base-m.index)):(x.cutM m).1+(x.cutM m).2.length=m.index+m.es.length:=by
 unfold ND.cutM;split;.dsimp only;simp;omega
 rfl
def EK(h:x.role=0)(hp:x.patience=0):cr x=0:=by unfold cr;rw[ac Om,hp];rfl
def EI:cr (ND.newTerm {x with g:={x.g with term:=t,vote:= -1}})<=cr x:=by unfold cr;show(0:Int)+_<=_;split<;>(show 0+max 0 x.patience<=_;omega)
def UB.commits{T I:Int}{x:ND}(h:UB T I x)(m:Msg){last:Int}(hl:last<=x.g.last):UB T I (x.commits m last):=⟨(LIn.commits (LT.rfl h.inn) m hl).inn,h.lb⟩
def UB.restP{T I:Int}{x:ND}{m:Msg}(h:UB T I x)(ho:x.out=[])(hr:x.role=0)(hp0:x.patience=0)(hm:MB T I m)(hc:x.g.base<=(x.cutM m).1/\(x.cutM m).1<=x.g.last)(hn:¬(m.index<x.g.base/\(m.es.length:Int)<x.g.base-m.index)):RB T I 0 (x.restP m (x.cutM m)):=by
 have he:=s8 hn;have hmi:=hm.index;have h0:cr x<=0:=by rw[EK hr hp0];omega
 have hb:=h.lb.base;have hcm:=h.inn.commit;have hb3:(x.cutM m).2.length<=20/\∀e∈(x.cutM m).2,(0<=e.1/\e.1<=T)/\e.2.length<=100:=by
  have:=hm.ln.es;unfold ND.cutM;split;.exact⟨by simp;omega,λe he=>this.2 e (Hx he)⟩
  exact this
 unfold ND.restP;cases hfi:ND.fits x.g (x.cutM m).2 ((x.cutM m).1+1)with
 |none=>
  have hl:(x.cutM m).1+(x.cutM m).2.length<=x.g.last:=by
   rcases gy hfi with h1|h1;.rw[h1];simp;omega
   omega
  exact(h.commits m hl).answer1 ho m true Om h0
 |some p=>
  let⟨i,l⟩:=p;let⟨a1,⟨c,hc1,hc2⟩,a3⟩:=dX hfi;dsimp only;by_cases h1:i<=x.commit;.rw[an h1];exact h.quiet ho h0
  rw[ac h1];have hi:x.commit<=i-1/\i-1<=x.g.last:=by
   rcases a3 with a3|⟨e,a3⟩;.omega
   have:=bF a3;omega
  have hll:l.length<=(x.cutM m).2.length:=by rw[hc1];simp
  have h2:=(h.inn.add (i:=i-1) (m:=l) hi (λhr2=>Gr (hr.symm.trans hr2) Dc) (λe he=>hb3.2 e (by rw[hc1]at he;exact Hx he))).inn;have hpl:=ao (g:=x.g) (i:=i-1) (m:=l) Om;have hcl:c<(x.cutM m).2.length:=by
   by_cases hcl:c<(x.cutM m).2.length;.exact hcl
   have:l=[]:=by rw[hc1];exact Ix Om
   exfalso;have key:∀{l:List Qy} {i j:Int} {l2:List Qy},ND.fits x.g l i=some (j,l2)->l2≠[]:=by
    intro l;induction l with
    |nil=>intro i j l2 h;cases h
    |cons e l ih=>
     intro i j l2 h;by_cases h1:(x.g.at i).map (·.1)=some e.1;.rw[zf h1]at h;exact ih h
     rw[zq h1]at h;cases h;simp
   exact key hfi this
  have hle:(x.g.play (.add (i-1) l)).last=(x.cutM m).1+(x.cutM m).2.length:=by
   rw[hpl,hc1];simp;omega
  have h3:UB T I {x with g:=x.g.play (.add (i-1) l)}:=UB.mk0 h2 (by show(x.g.play _).last<=I;rw[hle];omega) h.pp h.lb.st;exact(h3.commits m (last:=(x.cutM m).1+(x.cutM m).2.length) (by show _<=(x.g.play _).last;rw[hle];omega)).answer1 ho m true Om h0
def UB.addP{T I:Int}{x:ND}{m:Msg}(h:UB T I x)(ho:x.out=[])(hr:x.role=0)(hp0:x.patience=0)(hm:MB T I m):RB T I 0 (x.addP m):=by
 have h0:cr x<=0:=by rw[EK hr hp0];omega
 have hmi:=hm.index;have hb:=h.lb.base;have hl:=h.lb.last;have hl2:x.g.last=x.g.base+x.g.all.length:=rfl;unfold ND.addP;by_cases h1:m.index<x.g.base/\(m.es.length:Int)<x.g.base-m.index;.rw[an h1];exact h.answer1 ho m true Om h0
 by_cases h2:¬m.index<x.g.base/\¬x.g.termAt m.index=some m.logTerm;.rw[ac h1,an h2];exact h.answer1 ho m false Om h0
 rw[ac h1,ac h2];refine h.restP ho hr hp0 hm ?_ h1;unfold ND.cutM;by_cases h3:m.index<x.g.base;.rw[an h3];dsimp only;omega
 rw[ac h3];have h4:x.g.termAt m.index=some m.logTerm:=by
  by_cases h4:x.g.termAt m.index=some m.logTerm;.exact h4
  exact Gr ⟨h3,h4⟩ h2
 exact yG h4
def UB.snapP{T I:Int}{x:ND}{m:Msg}(h:UB T I x)(ho:x.out=[])(hr:x.role=0)(hp0:x.patience=0)(hm:MB T I m):RB T I 0 (x.snapP m):=by
 have h0:cr x<=0:=by rw[EK hr hp0];omega
 have hmi:=hm.index;have hcm:=h.inn.commit;have hb:=h.lb.base;have hl:=h.lb.last;have hi:=(h.inn.snapP (λhr2=>Gr (hr.symm.trans hr2) Dc) hm.ln).inn;unfold ND.snapP at hi|-;by_cases h1:m.index>x.commit
 .rw[an h1]at hi|-;let⟨e1,e2,e3,e4,e5,e6,e7,e8⟩:=mK (g:=x.g) (i:=m.index) (t:=m.logTerm) (s:=m.state) Om;have hi2:LIn T I I.toNat {x with g:=x.g.inst m.index m.logTerm m.state,commit:=m.index}:=by
   have:=hi.sends x.out;exact this
  have h3:UB T I {x with g:=x.g.inst m.index m.logTerm m.state,commit:=m.index}:=UB.mk0 hi2 (by show(x.g.inst _ _ _).last<=I;omega) h.pp (by rw[show({x with g:=x.g.inst m.index m.logTerm m.state,commit:=m.index}:ND).g=x.g.inst m.index m.logTerm m.state from rfl,e8,e1];exact hm.st);exact h3.answer1 ho m true Om h0
 rw[ac h1];exact h.answer1 ho m true Om h0
def UB.follows{T I:Int}{x:ND}{m:Msg}(h:UB T I x):UB T I (x.follows m):=⟨(LIn.follows (m:=m) h.inn).inn,h.lb⟩
def RB.le{I d:Int}(h:RB T I c y)(hc:c<=d):RB T I d y:=by
 let⟨I',a,b,e,f⟩:=h;exact⟨I',a,Om,e,f⟩
def UB.fedP{T I:Int}{x:ND}{m:Msg}(h:UB T I x)(ho:x.out=[])(hm:MB T I m):RB T I (cr x) (x.fedP m):=by
 have hc:=pW x;unfold ND.fedP;split;.exact h.answer1 ho m false ⟨Gk _,h.i0⟩ (Gk _)
 split;.exact h.quiet ho (Gk _)
 split;.exact(UB.addP (x:=x.follows m) h.follows ho rfl rfl hm).le Om
 exact(UB.snapP (x:=x.follows m) h.follows ho rfl rfl hm).le Om
def UB.setPeer{T I:Int}{x:ND}(h:UB T I x)(to:Nat){p:Int×Int}(hp:(1<=p.1/\p.1<=I+1)/\(0<=p.2/\p.2<=x.g.last)):UB T I (x.setPeer to p):=⟨(h.inn.setPeer to hp).inn,h.lb⟩
def UB.feed1{I:Int}(h:UB T I x)(ho:x.out=[])(to:Nat)(hc:cr x<=c):RB T I c (x.feed to):=h.send1 ho _ (h.feedM to) hc
def UB.heardP{T I:Int}{x:ND}{m:Msg}(h:UB T I x)(ho:x.out=[])(hm:MB T I m):RB T I (cr x) (x.heardP m):=by
 have hix:=hm.index;have h0:=h.lb.base;have hcm:=h.inn.commit;have hl:=h.lb.last;unfold ND.heardP Ya;dsimp only;by_cases h1:¬x.role=2\/¬m.term=x.g.term;.rw[an h1];exact h.quiet ho (Gk _)
 have hr:x.role=2:=by
  by_cases hr:x.role=2;.exact hr
  exact Gr (.inl hr) h1
 have hp:=h.inn.peerb hr m.frm.toNat;rw[ac h1];by_cases h2:m.ok=false;.rw[an h2];exact(h.setPeer m.frm.toNat (p:=(max (min (x.nxt m.frm.toNat-1) (m.index+1)) (x.mat m.frm.toNat+1),x.mat m.frm.toNat)) Do).feed1 ho _ (Gk _)
 rw[ac h2];have h3:=h.setPeer m.frm.toNat (p:=(max (x.mat m.frm.toNat) (min m.index x.g.last)+1,max (x.mat m.frm.toNat) (min m.index x.g.last))) Do;have h4:=h3.count hr;have hcr:cr (ND.count (x.setPeer m.frm.toNat (max (x.mat m.frm.toNat) (min m.index x.g.last)+1,max (x.mat m.frm.toNat) (min m.index x.g.last))))=cr x:=by
  have hcp:∀z:ND,z.count.patience=z.patience:=λz=>by unfold ND.count;split<;>rfl
  unfold cr;rw[(YU _).2.2.1,hcp];rfl
 split;.exact h4.feed1 (by rw[(YU _).1];exact ho) _ (I2 hcr)
 exact h4.quiet (by rw[(YU _).1];exact ho) (I2 hcr)
def UB.kindP{T I:Int}{x:ND}{m:Msg}(h:UB T I x)(ho:x.out=[])(hm:MB T I m)(hf:0<=m.frm/\m.frm<x.n):RB T I (cr x) (x.kindP m):=by
 unfold ND.kindP;split;.exact h.askedP ho hf
 split;.exact h.votedP ho hf
 split;.exact h.fedP ho hm
 split;.exact h.heardP ho hm
 exact h.quiet ho (Gk _)
def UB.receiveP{T I:Int}{x:ND}{m:Msg}(h:UB T I x)(ho:x.out=[])(hm:MB T I m):RB T I (cr x) (x.receiveP m):=by
 have hc:=pW x;have ht:=h.inn.term;unfold ND.receiveP;by_cases h1:¬m.to=x.id\/m.frm=x.id\/m.frm<0\/m.frm>=x.n;.rw[an h1];exact h.quiet ho (Gk _)
 rw[ac h1];have hf:0<=m.frm/\m.frm<x.n:=Om;by_cases h2:m.term>x.g.term;.rw[an h2];have h3:=h.inn.set (t:=m.term) (v:= -1) hm.term Om (.inl Om);have h4:UB T I (ND.newTerm {x with g:={x.g with term:=m.term,vote:= -1}}):=⟨h3.inn.newTerm,h.lb.set hm.term Om⟩;exact(h4.kindP ho hm hf).le EI
 rw[ac h2];exact h.kindP ho hm hf
def iu(h:x.out=[]):x.feedAll.out.length<=x.n:=by
 rw[ZS h];simp;exact jx x
def gC(h:x.out=[])(cmd:Bs):(x.entryP cmd).out.length<=x.n:=by
 have h1:∀z:ND,z.out=[]->z.n=x.n->z.feedAll.out.length<=x.n:=λz hz hn=>by have:=iu hz;omega
 unfold ND.entryP;exact h1 _ (by rw[(YU _).1];exact h) (by rw[(YU _).2.2.2.2.1])
def xq(h:x.out=[]):x.tickP.out.length<=x.n:=by
 unfold ND.tickP;split
 .split;.exact iu (x:={x with patience:=0}) h
  show x.out.length<=_;rw[h];simp
 split
 .unfold ND.standP;split;.exact gC (x:=ND.wins (ND.stands {x with patience:=x.patience+1,g:={x.g with term:=x.g.term+1,vote:=x.id}})) h []
  rw[aV (x:=ND.stands {x with patience:=x.patience+1,g:={x.g with term:=x.g.term+1,vote:=x.id}}) h];simp;exact jx x
 show x.out.length<=_;rw[h];simp
def xN(h:x.out=[])(hn:1<=x.n)(m:Msg):(x.receiveP m).out.length<=x.n:=by
 have h1:∀z:ND,z.out=[]->z.n=x.n->(z.kindP m).out.length<=x.n:=λz hz hzn=>by
  have hs:∀(y:ND),y.out=[]->∀m,(y.send m).out.length<=x.n:=λy hy m=>by rw[yW hy];simpa using hn
  have ha:∀(y:ND),y.out=[]->∀(ok:Bool) (i:Int),(y.answer m ok i).out.length<=x.n:=λy hy ok i=>hs y hy _;have hf:∀(y:ND),y.out=[]->∀(to:Nat),(y.feed to).out.length<=x.n:=λy hy to=>hs y hy _;have h0:∀(y:ND),y.out=[]->y.out.length<=x.n:=λy hy=>by rw[hy];simp
  unfold ND.kindP;split
  .unfold ND.askedP;split;.exact hs {z with g:={z.g with term:=z.g.term,vote:=m.frm},patience:=0} hz _
   exact hs z hz _
  split
  .unfold ND.votedP;split;.exact h0 z hz
   split;.exact hzn▸gC (x:=ND.wins {z with votes:=QS z.votes m.frm}) hz []
   exact h0 {z with votes:=QS z.votes m.frm} hz
  split
  .unfold ND.fedP;split;.exact ha z hz _ _
   split;.exact h0 z hz
   split
   .unfold ND.addP;split;.exact ha (z.follows m) hz _ _
    split;.exact ha (z.follows m) hz _ _
    unfold ND.restP;split;.exact ha ((z.follows m).commits m _) hz _ _
    split;.exact h0 (z.follows m) hz
    exact ha (ND.commits {(z.follows m)with g:=_} m _) hz _ _
   unfold ND.snapP;split;.exact ha {(z.follows m)with g:=_,commit:=m.index} hz _ _
   exact ha (z.follows m) hz _ _
  split
  .unfold ND.heardP Ya;dsimp only;split;.exact h0 z hz
   split;.exact hf (z.setPeer m.frm.toNat _) hz _
   split;.exact hf (ND.count (z.setPeer m.frm.toNat _)) (by rw[(YU _).1];exact hz) _
   exact h0 (ND.count (z.setPeer m.frm.toNat _)) (by rw[(YU _).1];exact hz)
  exact h0 z hz
 unfold ND.receiveP;split;.rw[h];simp
 split;.exact h1 (ND.newTerm {x with g:={x.g with term:=m.term,vote:= -1}}) h rfl
 exact h1 x h rfl
def nv{m:Nat}(hd:x.down=false)(hl:SD m x.g D)(ho:x.out=[])(h:Fx n P (f (x,D)) y):
  ((Xw (x,D) f).1=y.out/\(Xw (x,D) f).2.1=y/\SD n y.g (Xw (x,D) f).2.2)\/((Xw (x,D) f).1=[]/\Xy (Xw (x,D) f).2=true/\FD n P (Xw (x,D) f).2.2):=by
 have hu:¬Xy (x,D)=true:=by unfold Xy;simp[hd,hl.1,hl.2.2.2.1]
 rw[dJ];unfold zW;rw[ac hu,show({x with out:=[]}:ND)=x from Zd ho];rcases h with⟨h1,h2,h3⟩|⟨h1,h2,h3⟩
 .rw[an h1];exact .inl ⟨by rw[h2],h2,h3⟩
 rw[ac (by simp[h1])];exact .inr ⟨rfl,by unfold Xy;rw[h2];rfl,h3⟩
def fE(hd:x.down=false)(hl:SD n x.g D):¬Xy (x,D)=true:=by unfold Xy;simp[hd,hl.1,hl.2.2.2.1]
structure MU (T I:Int) (N i n:Nat) (m:MS):Prop where
 ub:UB T I m.x
 id:m.x.id=i
 n:m.x.n=n
 sd:SD N m.x.g m.D
 ap:m.ap<=m.x.commit
structure MI (T I:Int) (N i n:Nat) (m:MS):Prop where
 out:m.x.out=[]
 l:(m.l.length:Int)<=m.ap/\∀s∈m.l,s.length<=100
 ap:m.ap<=I
 st:MU T I N i n m\/(m.D.down=true/\FD N (LB T I) m.D)
def Zc(m:MS):Int:=if m.dn=true then 0 else cr m.x
def fg(m:MS):0<=Zc m:=by have:=pW m.x;unfold Zc;split<;>omega
def MU.dn{T I:Int}{N i n:Nat}{m:MS}(h:MU T I N i n m):m.dn=false:=by
 have:=fE h.ub.inn.down h.sd;unfold MS.dn;simpa using this
def Ys(h:m.D.down=true):m.dn=true:=by unfold MS.dn Xy;rw[h];simp
def MI.mono{T T' I I':Int}{N N' i n:Nat}{m:MS}(h:MI T I N i n m)(hT:T<=T')(hI:I<=I')(hN:N<=N'):MI T' I' N' i n m:=
 ⟨h.out,h.l,Hg h.ap hI,h.st.imp (λu=>⟨u.ub.mono hT hI,u.id,u.n,u.sd.mono hN,u.ap⟩) (λd=>⟨d.1,d.2.imp hN (λg hg=>hg.mono hT hI)⟩)⟩
def MI.ok{I:Int}(h:MI T I N i n m):m.D.ok N:=by
 rcases h.st with u|d;.exact u.sd.okD
 exact d.2.1
def MI.mw{I:Int}(h:MI T I N i n m)(hT:T<=2305843009213693952)(hI:I<=9500)(hN:N<=690000000):MW m:=by
 have hl:=h.l;have ha:=h.ap;refine⟨λhd=>?_,h.out,DK.ok_le h.ok hN,⟨Om,hl.2⟩,Om⟩;rcases h.st with u|d
 .exact u.ub.inn.nin0 ⟨hT,Om,Om⟩ h.out
 exact Gr (Ys d.1) hd
def MI.act{T T' I I':Int}{N N' i n:Nat}{m:MS}{f:NS->Bool×NS}{y:ND}(h:MI T I N i n m)(u:MU T I N i n m)(hT:T<=T')(hI:I<=I')(hy:UB T' I' y)(htr:TR m.x y)(hfx:Fx N' (LB T' I') (f (m.x,m.D)) y)(hym:∀g∈y.out,MB T' I' g):
  MI T' I' N' i n (m.act (Xw (m.x,m.D) f)).1/\(∀g∈(m.act (Xw (m.x,m.D) f)).2,MB T' I' g)/\(m.act (Xw (m.x,m.D) f)).2.length<=y.out.length/\Zc (m.act (Xw (m.x,m.D) f)).1<=cr y:=by
 have hl:=h.l;have ha:=h.ap;have hcr:=pW y;rcases nv u.ub.inn.down u.sd h.out hfx with⟨e1,e2,e3⟩|⟨e1,e2,e3⟩
 .have ex:(m.act (Xw (m.x,m.D) f)).1={m with x:=y.q,D:=(Xw (m.x,m.D) f).2.2}:=by unfold MS.act;rw[e2]
  have em:(m.act (Xw (m.x,m.D) f)).2=y.out:=e1;rw[ex,em];have hu:MU T' I' N' i n {m with x:=y.q,D:=(Xw (m.x,m.D) f).2.2}:=⟨⟨hy.inn.q,hy.lb⟩,htr.id.trans u.id,htr.n.trans u.n,e3,Hg u.ap htr.com⟩;exact⟨⟨rfl,hl,Hg ha hI,.inl hu⟩,hym,Gl _,by unfold Zc;rw[hu.dn];exact Gk _⟩
 have em:(m.act (Xw (m.x,m.D) f)).2=[]:=e1;rw[em];refine⟨⟨rfl,hl,Hg ha hI,.inr ⟨e3.2.1,e3⟩⟩,λg hg=>(by cases hg),He _,?_⟩;unfold Zc;rw[an (show(m.act (Xw (m.x,m.D) f)).1.dn=true from Ys e3.2.1)];omega
def MI.act0{I:Int}(h:MI T I N i n m):(m.act ([],(m.x,m.D)))=(m,[]):=by
 unfold MS.act;rw[Zd h.out]
def ia(T I:Int)(N i n:Nat)(c:Int)(r:MS×List Msg):Prop:=∃I',I<=I'/\10*I'+Zc r.1<=10*I+c/\MI T I' N i n r.1/\(∀g∈r.2,MB T I' g)/\r.2.length<=n
def MI.stay{I:Int}(h:MI T I N i n m)(hT:T<=T')(hN:N<=N')(hc:Zc m<=c):ia T' I N' i n c (m,[]):=
 ⟨I,Gk _,by dsimp only;omega,h.mono hT (Gk _) hN,λg hg=>(by cases hg),He _⟩
def EE(h:m.dn=true):Zc m=0:=by unfold Zc;rw[an h]
def MI.tick{T I:Int}{N i n:Nat}{m:MS}(h:MI T I N i n m)(hT:T<=1000000000)(hI:I<=9500):ia (T+1) I (N+6000) i n (Zc m+1) m.tick:=by
 have hcm:=fg m;rcases h.st with u|d
 .have ht:=u.ub.lb.term;have hid:=u.ub.inn.idn;have hcr:Zc m=cr m.x:=by unfold Zc;rw[u.dn];rfl
  let⟨I',a1,a2,a3,a4⟩:=u.ub.tickP h.out;have hnn:=u.ub.inn.nin0 ⟨by omega,by omega,by omega⟩ h.out;have hm:=u.ub.lb.mono (show T<=T+1 by omega) a1;have hfx:=Dv (n:=N) (P:=LB (T+1) I') Om u.sd hnn hm (hm.set (t:=m.x.g.term+1) (v:=m.x.id) Om Om) a3.lb;let⟨b1,b2,b3,b4⟩:=h.act u (show T<=T+1 by omega) a1 a3 u.ub.inn.tickP.tr hfx a4;exact⟨I',a1,by rw[hcr];show 10*I'+Zc (m.act (Xw (m.x,m.D) tickN)).1<=_;omega,b1,b2,Hn b3 (by have:=xq h.out;rw[u.n]at this;exact this)⟩
 have hd:=Ys d.1;have e:m.tick=(m,[]):=by unfold MS.tick;rw[qB (show Xy (m.x,m.D)=true from hd)];exact h.act0
 rw[e];exact h.stay Om Om Om
def MI.recv{T I:Int}{N i n:Nat}{m:MS}(h:MI T I N i n m){g:Msg}(hg:MB T I g)(hT:T<=1000000000)(hI:I<=9500)(hN:17000000<=N):ia T I (N+6000) i n (Zc m) (m.recv g):=by
 have hcm:=fg m;rcases h.st with u|d
 .have ht:=u.ub.lb.term;have hid:=u.ub.inn.idn;have hcr:Zc m=cr m.x:=by unfold Zc;rw[u.dn];rfl
  let⟨I',a1,a2,a3,a4⟩:=u.ub.receiveP h.out hg;have hnn:=u.ub.inn.nin0 ⟨Om,Om,Om⟩ h.out;have hm:=u.ub.lb.mono (Gk T) a1;have hgt:=hg.term;have hfx:=vS (n:=N) (k:=0) (m:=g) (P:=LB T I') hN Om u.sd hnn (hg.im Om Om).1 u.ub.inn.commit.1 hm (λ_=>hm.set (t:=g.term) (v:= -1) Om Om) a3.lb;let⟨b1,b2,b3,b4⟩:=h.act (f:=λs=>Xz s g) u (Gk T) a1 a3 (u.ub.inn.receiveP hg.ln).tr hfx a4;exact⟨I',a1,by rw[hcr];show 10*I'+Zc (m.act (Xw (m.x,m.D) (λs=>Xz s g))).1<=_;omega,b1,b2,Hn b3 (by have:=xN h.out Om g;rw[u.n]at this;exact this)⟩
 have hd:=Ys d.1;have e:m.recv g=(m,[]):=by unfold MS.recv;rw[qB (show Xy (m.x,m.D)=true from hd)];exact h.act0
 rw[e];exact h.stay Om Om Om
def gb{I:Int}(h:MI T I N i n m)(u:MU T I N i n m)(hr:m.x.role=2)(hfx:Fx N' P (Xb (m.x,m.D) cmd) (m.x.entryP cmd)):(m.prop cmd).2=m.act (Xw (m.x,m.D) (λs=>Xb s cmd)):=by
 unfold MS.prop XX;rw[ac (by simpa using hr)];by_cases h1:Xy (Xw (m.x,m.D) (λs=>Xb s cmd)).2=true
 .rw[an h1];rcases nv (f:=λs=>Xb s cmd) u.ub.inn.down u.sd h.out hfx with⟨e1,e2,e3⟩|⟨e1,e2,e3⟩
  .exfalso;have h2:Xy (m.x.entryP cmd,(Xw (m.x,m.D) (λs=>Xb s cmd)).2.2)=true:=by rw[<-e2];exact h1
   have e3d:=e3.1;have e3g:=e3.2.2.2.1;unfold Xy at h2;rw[e3d,e3g]at h2;have h3:(m.x.entryP cmd).down=m.x.down:=by unfold ND.entryP;rw[Xe];show(ND.count _).down=_;unfold ND.count;split<;>rfl
   rw[h3,u.ub.inn.down]at h2;cases h2
  unfold MS.act;rw[e1]
 rw[ac h1]
def dO(hr:¬m.x.role=2):m.prop cmd=((0,0),m.act ([],(m.x,m.D))):=by
 unfold MS.prop XX;rw[an hr]
def lB(hd:m.dn=true):m.prop cmd=((0,0),m.act ([],(m.x,m.D))):=by
 by_cases hr:m.x.role=2;.unfold MS.prop XX;rw[ac (by simpa using hr)];rw[qB (show Xy (m.x,m.D)=true from hd),an (show Xy (([]:List Msg),(m.x,m.D)).2=true from hd)]
 exact dO hr
def MI.prop{I:Int}(h:MI T I N i n m)(hc:cmd.length<=100)(hT:T<=1000000000)(hI:I<=9500):ia T I (N+6000) i n (Zc m+10) (m.prop cmd).2:=by
 have hcm:=fg m;have hst:ia T I (N+6000) i n (Zc m+10) (m,[]):=h.stay (Gk _) Om Om;rcases h.st with u|d
 .by_cases hr:m.x.role=2
  .have ht:=u.ub.lb.term;have hnn:=u.ub.inn.nin0 ⟨by omega,by omega,by omega⟩ h.out;let⟨a3,a4⟩:=u.ub.entryP h.out hr hc;have hfx:=(lW (n:=N) (P:=LB T (I+1)) Om u.sd hnn hc (u.ub.lb.mono (Gk _) Om) a3.lb).mono (show N+3000<=N+6000 by omega);rw[gb h u hr hfx];let⟨b1,b2,b3,b4⟩:=h.act (f:=λs=>Xb s cmd) u (Gk T) (show I<=I+1 by omega) a3 (u.ub.inn.entryP hr hc).tr hfx a4;have hcr:cr (m.x.entryP cmd)=Zc m:=by unfold Zc;rw[u.dn];unfold cr;rw[fb,gB];rfl
   exact⟨I+1,by omega,by omega,b1,b2,Hn b3 (by have:=gC h.out cmd;rw[u.n]at this;exact this)⟩
  rw[dO hr,h.act0];exact hst
 rw[lB (Ys d.1),h.act0];exact hst
def l5(h:m.x.out=[])(hd:m.dn=true):m.comp=(3,m):=by
 unfold MS.comp YV;rw[an (show Xy (m.x,m.D)=true from hd)];dsimp only;rw[Zd h]
def lZ{I:Int}(h:MI T I N i n m)(u:MU T I N i n m):m.comp=if m.ap<m.x.g.base then(1,m)else(((m.x.g.swapD m.D (m.x.g.comp m.ap (ZI m.l)))).1,{m with x:={m.x with g:=(m.x.g.swapD m.D (m.x.g.comp m.ap (ZI m.l))).2.1},D:=(m.x.g.swapD m.D (m.x.g.comp m.ap (ZI m.l))).2.2}):=by
 have hcm:=u.ub.inn.commit;have hap:=u.ap;have ho:=h.out;have hx:({m.x with out:=[]}:ND)=m.x:=Zd h.out;have hgd:(m.x.g.down||m.D.down)=false:=by rw[u.sd.1,u.sd.2.2.2.1];rfl
 unfold MS.comp YV;rw[ac (fE u.ub.inn.down u.sd),ac Do];unfold LG.compD;dsimp only;rw[ac (by rw[hgd];decide)];by_cases h1:m.ap<m.x.g.base
 .rw[an (.inl h1),an h1];try dsimp only
  rw[show ND.q {m.x with g:=m.x.g}=m.x from Zd h.out]
 rw[ac Om,ac h1];unfold ND.q;rw[show({m.x with g:=(m.x.g.swapD m.D (m.x.g.comp m.ap (ZI m.l))).2.1,out:=[]}:ND)={m.x with g:=(m.x.g.swapD m.D (m.x.g.comp m.ap (ZI m.l))).2.1}by rw[<-ho]]
def MI.comp{T I:Int}{N i n:Nat}{m:MS}(h:MI T I N i n m)(hT:T<=1000000000)(hI:I<=9400)(hN:17000000<=N):MI T I (N+6000) i n m.comp.2/\Zc m.comp.2<=Zc m:=by
 have hcm:=fg m;have hl:=h.l;have hai:=h.ap;rcases h.st with u|d
 .have hcmm:=u.ub.inn.commit;have hap:=u.ap;rw[lZ h u];by_cases h1:m.ap<m.x.g.base;.rw[an h1];exact⟨h.mono (Gk _) (Gk _) Om,Gk _⟩
  rw[ac h1];have hsl:=bf hl.2 Om;have hun:=rV hl.2 Om;have hi:=(u.ub.inn.comp (i:=m.ap) (s:=ZI m.l) Om Om).inn;have hla:(m.x.g.comp m.ap (ZI m.l)).last=m.x.g.last:=by unfold LG.comp LG.last at*;simp;omega
  have hy:UB T I {m.x with g:=m.x.g.comp m.ap (ZI m.l)}:=UB.mk0 hi (by show(m.x.g.comp _ _).last<=I;rw[hla];exact u.ub.lb.last) u.ub.pp (by show((ZC (ZI m.l)).length:Int)<=m.ap/\∀s∈ZC (ZI m.l),s.length<=100;rw[hun];exact hl);have hnn:=hy.inn.nin0 ⟨by omega,by omega,by omega⟩ h.out;have hok:=hnn.g Om;have hw:=eW (k:=0) Om hnn;have hsw:=nX (P:=LB T I) (to:=m.x.g.comp m.ap (ZI m.l)) (u.sd.mono (show N<=N+6000 by omega)) hok u.sd.2.2.2.1 hw Om u.ub.lb;have hcr:Zc m=cr m.x:=by unfold Zc;rw[u.dn];rfl
  unfold LG.swapD;rcases hsw with⟨p1,p2⟩|⟨p1,p2⟩
  .rw[an p1];have hu:MU T I (N+6000) i n {m with x:={m.x with g:=m.x.g.comp m.ap (ZI m.l)},D:=(m.D.swap (Rec.all (m.x.g.comp m.ap (ZI m.l))).bytes).2}:=⟨hy,u.id,u.n,p2,u.ap⟩;exact⟨⟨h.out,hl,hai,.inl hu⟩,by unfold Zc;rw[hu.dn];rw[ac Dc,u.dn,ac Dc];exact Gk _⟩
  rw[ac p1];exact⟨⟨h.out,hl,hai,.inr ⟨p2.2.1,p2⟩⟩,by rw[EE (Ys p2.2.1)];omega⟩
 rw[l5 h.out (Ys d.1)];exact⟨h.mono (Gk _) (Gk _) Om,Gk _⟩
def MI.fuel{I:Int}(h:MI T I N i n m){k:Int}(hk:dp k):MI T I N i n {m with D:=m.D.setFuel k}/\Zc {m with D:=m.D.setFuel k}=Zc m:=by
 refine⟨⟨h.out,h.l,h.ap,?_⟩,rfl⟩;unfold dp at hk;rcases h.st with u|⟨d1,⟨a1,a2,a3⟩,d3,d4⟩
 .let⟨s1,s2,s3,s4,s5,s6⟩:=u.sd;exact .inl ⟨u.ub,u.id,u.n,⟨s1,s2,⟨by show _<=k;omega,by show k<=_;omega,λhb=>by simpa[DK.setFuel]using hb⟩,s4,s5,s6⟩,u.ap⟩
 exact .inr ⟨d1,⟨a1,a2,⟨by show _<=k;omega,by show k<=_;omega,λhb=>by simpa[DK.setFuel]using hb⟩⟩,d3,d4⟩
def MI.keeps{I:Int}(h:MI T I N i n m):∀keep:Int,∃rs p g,(m.D.crash keep).b=Xr rs++p/\yr p/\Plays LG.new rs g/\g.down=false/\LB T I g:=by
 rcases h.st with u|d;.exact u.sd.crash_any u.ub.lb
 exact d.2.2.2
def MI.opens{I:Int}(h:MI T I N i n m)(keep:Int):nE m.D keep:=by
 let⟨rs,p,g,a,b,c,_⟩:=h.keeps keep;exact⟨rs,p,g,a,b,c⟩
def pV(hk:D.ok N)(h:∀keep:Int,∃rs p g,(D.crash keep).b=Xr rs++p/\yr p/\Plays LG.new rs g/\g.down=false/\P g)(keep:Int):
  P (fH (D.crash keep).b)/\SD N (fH (D.crash keep).b) ((D.crash keep).open (fF (D.crash keep).b) (fG (D.crash keep).b)).2:=by
 let⟨rs,p,g,a1,a2,a3,a4,a5,a6,a7⟩:=D9 hk h keep;let⟨t1,t2,t3⟩:=vq ⟨a2,a3,a4⟩;have e:(D.crash keep).open (fF (D.crash keep).b) (fG (D.crash keep).b)=(D.crash keep).open rs p:=by
  unfold DK.open;rw[t1,t2]
 rw[t3,e];exact⟨a5,a7⟩
def LB.start{T I:Int}{i n:Nat}{g:LG}(h:LB T I g)(hn:i<n/\n<=9):UB T I (ND.start i n g):=by
 have hl:=h.last;have hb:=h.base;have h1:LIn T I I.toNat (ND.start i n g):=LIn.start hn h.term h.vote h.base h.baseT h.last h.stl (by unfold LG.last at hl;omega) h.all;exact⟨h1,h⟩
def MI.start{T I:Int}{N i n:Nat}{g:LG}{D:DK}(h:LB T I g)(hs:SD N g D)(hn:i<n/\n<=9):MI T I N i n (Zt i n g D)/\Zc (Zt i n g D)=0:=by
 have hl:=h.last;have hb:=h.base;have hgl:g.base<=g.last:=by unfold LG.last;omega
 unfold Zt;split;.rename_i h1;have hu:MU T I N i n ⟨ND.start i n g,D,ZC g.state,g.base⟩:=⟨h.start hn,rfl,rfl,hs,Gk _⟩;exact⟨⟨rfl,h.st,by dsimp only;omega,.inl hu⟩,by unfold Zc;rw[hu.dn];rfl⟩
 have hu:MU T I N i n ⟨ND.start i n g,D,[],0⟩:=⟨h.start hn,rfl,rfl,hs,hb⟩;exact⟨⟨rfl,Si,by dsimp only;omega,.inl hu⟩,by unfold Zc;rw[hu.dn];rfl⟩
def MI.crash{T I:Int}{N i n:Nat}{m:MS}(h:MI T I N i n m)(hn:i<n/\n<=9)(keep:Int):MI T I N i n (m.crash i n keep)/\Zc (m.crash i n keep)=0:=by
 let⟨h1,h2⟩:=pV h.ok h.keeps keep;unfold MS.crash;exact MI.start h1 h2 hn
def tp(i:Int):∀(l:List Qy) (r:MS×List OC),(r.1.l.length:Int)<=r.1.ap->(∀s∈r.1.l,s.length<=100)->(∀e∈l,e.2.length<=100)->((l.foldl (Ye i) r).1.l.length:Int)<=(l.foldl (Ye i) r).1.ap/\∀s∈(l.foldl (Ye i) r).1.l,s.length<=100
 |[],r,h1,h2,_=>⟨h1,h2⟩
 |e::l,r,h1,h2,h3=>by
  rw[It];refine tp i l _ ?_ ?_ (λe he=>h3 e (by simp[he]))
  .unfold Ye;split;.show(r.1.l.length:Int)<=r.1.ap+1;omega
   show((r.1.l++[e.2]).length:Int)<=r.1.ap+1;simp;omega
  unfold Ye;split;.exact h2
  intro s hs;rcases GE.1 (show s∈r.1.l++[e.2]from hs)with hs|hs
  .exact h2 s hs
  simp at hs;subst hs;exact h3 e Si
def MI.done{I:Int}(h:MI T I N i n m)(j:Int)(o:List OC):MI T I N i n (XI j m o).1/\Zc (XI j m o).1=Zc m/\((XI j m o).2.length:Int)<=o.length+I:=by
 let⟨ex,eD⟩:=jU j m o;have hcr:Zc (XI j m o).1=Zc m:=by unfold Zc MS.dn;rw[ex,eD]
 have hl:=h.l;have hai:=h.ap;by_cases hd:m.dn=true
 .have e:XI j m o=(m,o):=by unfold XI;rw[an hd]
  rw[e];exact⟨h,rfl,by dsimp only;omega⟩
 rcases h.st with u|d
 .have e:XI j m o=m.rest.todo.foldl (Ye j) (m.rest,o):=by unfold XI;rw[ac hd]
  let⟨p1,p2,p3,p4,p5⟩:=g9 j m.rest.todo (m.rest,o);rw[<-e]at p1 p2 p3 p4 p5;let⟨q1,q2,q3,q4⟩:=bu m;have hcm:=u.ub.inn.commit;have hlb:=u.ub.lb;have hll:=hlb.last;have htl:=(nQ (m:=m.rest)).1;rw[q1]at htl;have hap:=u.ap;have hrl:(m.rest.l.length:Int)<=m.rest.ap/\(∀s∈m.rest.l,s.length<=100)/\m.rest.ap<=m.x.commit:=by
   unfold MS.rest;split;.exact⟨hlb.st.1,hlb.st.2,hcm.1⟩
   exact⟨hl.1,hl.2,hap⟩
  have hte:∀e∈m.rest.todo,e.2.length<=100:=λe he=>by
   have:e∈m.rest.x.g.all:=Hx (I1 he);rw[q1]at this;exact(hlb.all e this).2
  let⟨r1,r2⟩:=tp j m.rest.todo (m.rest,o) hrl.1 hrl.2.1 hte;rw[<-e]at r1 r2;dsimp only at p3 p5;have hapn:(XI j m o).1.ap<=m.x.commit:=by rw[p3];have:=hrl.2.2;omega
  exact⟨⟨by rw[ex];exact h.out,⟨r1,r2⟩,Om,.inl ⟨by rw[ex];exact u.ub,by rw[ex];exact u.id,by rw[ex];exact u.n,by rw[ex,eD];exact u.sd,by rw[ex];exact hapn⟩⟩,hcr,by have:=hrl.1;omega⟩
 exact Gr (Ys d.1) hd
def aF(l:List MS):Int:=(l.map Zc).sum
def fj:∀{l:List MS} {i:Nat} {m:MS} (m':MS),l[i]?=some m->aF (l.set i m')+Zc m=aF l+Zc m'
 |[],i,m,m',h=>by simp at h
 |x::l,0,m,m',h=>by simp at h;subst h;simp[aF];omega
 |x::l,i+1,m,m',h=>by
  have:=fj m' (l:=l) (i:=i) (m:=m) (by simpa using h);unfold aF at this|-;simp only[M2,Hf,Io];omega
def cD:∀l:List MS,0<=aF l
 |[]=>by simp[aF]
 |x::l=>by
  have h1:=cD l;have h2:=fg x;unfold aF at h1|-;simp[Hf,Io];omega
structure GI (n a t:Nat) (I:Int) (G:GS):Prop where
 len:G.ms.length=n/\1<=n/\n<=9
 i0:0<=I/\10*I+aF G.ms<=t
 ms:∀i m,G.ms[i]?=some m->MI a I (17000000+6000*a) i n m
 st:G.st.length<=n*a/\0<=G.last/\G.last<=((n*a:Nat):Int)
 msg:∀x∈G.st,MB a I x.2
 out:G.out.length<=a*9500
def qZ:∀{l:List Msg} {k:Int} {x:Yf},x∈XD k l->x.2∈l
 |[],_,_,h=>by cases h
 |m::l,k,x,h=>by
  rw[XD]at h;rcases Gn.1 h with h|h
  .subst h;simp
  exact H9 _ (qZ h)
def GI.later{t:Nat}{I:Int}(h:GI n a t I G):GI n (a+1) t I G:=by
 have hm:n*(a+1)=n*a+n:=by rw[KD];omega
 have h1:=h.st;have h2:=h.out;have h3:(a+1)*9500=a*9500+9500:=G4 a 1 9500;exact⟨h.len,h.i0,λi m hi=>(h.ms i m hi).mono Om (Gk _) Om,by rw[hm];omega,λx hx=>(h.msg x hx).mono Om (Gk _),by rw[h3];exact Hn h2 (Nat.le_add_right _ _)⟩
def GI.gw{t:Nat}{I:Int}(h:GI n a t I G)(ha:a<=90000)(ht:t<=94000):GW G:=by
 have hc:=cD G.ms;have h0:=h.i0;have hs:=h.st;have ho:=h.out;have hna:n*a<=9*90000:=Jc h.len.2.2 ha;refine⟨by have:=h.len;omega,λm hm=>?_,Om,Om,λx hx=>(h.msg x hx).im Om Om,Om⟩;let⟨i,hi⟩:=Ik.1 hm;exact(h.ms i m hi).mw Om Om Om
def GI.done{n a t:Nat}{I:Int}{G:GS}(h:GI n a t I G){i:Nat}{m:MS}(hm:G.ms[i]?=some m){r:MS×List Msg}{δ:Nat}(hr:ia ((a:Int)+1) I (17000000+6000*a+6000) i n (Zc m+δ) r)(ht:t+δ<=94000):∃I',GI n (a+1) (t+δ) I' (G.done i r.1 r.2):=by
 let⟨I',a1,a2,a3,a4,a5⟩:=hr;have hc:=cD G.ms;have hc2:=fj r.1 hm;have h0:=h.i0;have hi:=(Gj.1 hm).1;let⟨d1,d2,d3⟩:=a3.done i G.out;have hc3:=fj (XI i r.1 G.out).1 hm;have hcr:=fg r.1;have hcp:=cD (G.ms.set i r.1);have hm2:n*(a+1)=n*a+n:=by rw[KD];omega
 have hs:=h.st;have ho:=h.out;refine⟨I',⟨by show(G.ms.set i _).length=n/\_;rw[Hy];exact h.len,⟨Om,by show 10*I'+aF (G.ms.set i _)<=_;rw[d2]at hc3;omega⟩,λj mj hj=>?_,?_,λx hx=>?_,?_⟩⟩
 .have hj:(G.ms.set i (XI i r.1 G.out).1)[j]?=some mj:=hj;by_cases e:i=j;.subst e;rw[Hz hi]at hj;have hj:=GU hj;subst hj;exact d1.mono Om (Gk _) Om
  rw[HC e]at hj;exact(h.ms j mj hj).mono Om a1 Om
 .show(G.st++XD G.last r.2).length<=_/\0<=G.last+(r.2.length:Int)/\G.last+(r.2.length:Int)<=_;rw[Gm,yu,hm2];omega
 .rcases GE.1 (show x∈G.st++XD G.last r.2 from hx)with hx|hx;.exact(h.msg x hx).mono Om a1
  exact(a4 _ (qZ hx)).mono Om (Gk _)
 show(XI i r.1 G.out).2.length<=_;omega
def GI.mem{t:Nat}{I:Int}(h:GI n a t I G)(hi:i<n):∃m,G.ms[i]?=some m:=⟨_,b7 (by rw[h.len.1];exact hi)⟩
def GI.I{t:Nat}{I:Int}(h:GI n a t I G):10*I<=t:=by
 have:=cD G.ms;have:=h.i0;omega
def GI.tick{n a t:Nat}{I:Int}{G:GS}(h:GI n a t I G){i:Nat}(hi:i<n)(ha:a<=90000)(ht:t+1<=94000):∃I',GI n (a+1) (t+1) I' (G.tick i):=by
 have hI:=h.I;let⟨m,hm⟩:=h.mem hi;rw[a8 hm];exact h.done hm (δ:=1) ((h.ms i m hm).tick Om Om) ht
def GI.take{t:Nat}{I:Int}(h:GI n a t I G)(k:Int):GI n a t I (G.take k):=by
 have h1:∀x∈YO G.st k,x∈G.st:=λx hx=>by
  unfold YO at hx;split at hx;.exact LO hx
  exact hx
 have h2:(YO G.st k).length<=G.st.length:=by
  unfold YO;split;.exact L6 _ _
  exact Gl _
 have hs:=h.st;exact⟨h.len,h.i0,h.ms,⟨by show(YO G.st k).length<=_;omega,hs.2⟩,λx hx=>h.msg x (h1 x hx),h.out⟩
def jk{st:List Yf}{k:Int}(h:Yb st k=true):XV st k∈st:=by
 unfold Yb at h;simp at h;obtain⟨n,rfl⟩:=Hu h.1;have hn:n<st.length:=Om;rw[(cI (x:=st[n]) Si).1];exact Kj hn
def GI.deliver{n a t:Nat}{I:Int}{G:GS}(h:GI n a t I G)(k:Int)(ha:a<=90000)(ht:t<=94000):∃I',GI n (a+1) t I' (G.deliver k):=by
 have hI:=h.I;unfold GS.deliver;split
 .rename_i hb;split
  .split;.exact⟨I,(h.take k).later⟩
   rename_i m hm;have hg:=h.msg _ (jk hb);have hmi:=h.ms _ m hm;have hs:=hmi.recv hg Om Om Om;refine(h.take k).done hm (δ:=0) ?_ Om;let⟨I',a1,a2,a3,a4,a5⟩:=hs;exact⟨I',a1,Om,a3.mono Om (Gk _) (Gl _),λg hg=>(a4 g hg).mono Om (Gk _),a5⟩
  exact⟨I,(h.take k).later⟩
 exact⟨I,h.later⟩
def GI.prop{n a t:Nat}{I:Int}{G:GS}(h:GI n a t I G){i:Nat}(hi:i<n){cmd:Bs}(hc:cmd.length<=100)(ha:a<=90000)(ht:t+10<=94000):∃I',GI n (a+1) (t+10) I' (G.propose i cmd).2:=by
 have hI:=h.I;let⟨m,hm⟩:=h.mem hi;rw[bj hm];refine h.done hm (δ:=10) ?_ ht;let⟨I',a1,a2,a3,a4,a5⟩:=(h.ms i m hm).prop hc Om Om;exact⟨I',a1,a2,a3.mono Om (Gk _) (Gl _),λg hg=>(a4 g hg).mono Om (Gk _),a5⟩
def GI.set{n a t:Nat}{I:Int}{G:GS}(h:GI n a t I G){i:Nat}{m m':MS}(hm:G.ms[i]?=some m)(hm':MI a I (17000000+6000*a+6000) i n m')(hc:Zc m'<=Zc m):GI n (a+1) t I {G with ms:=G.ms.set i m'}:=by
 have hl:=h.later;have h0:=h.i0;have hc2:=fj m' hm;have hi:=(Gj.1 hm).1;refine⟨by show(G.ms.set i _).length=n/\_;rw[Hy];exact h.len,⟨h0.1,by show 10*I+aF (G.ms.set i m')<=_;omega⟩,λj mj hj=>?_,hl.st,hl.msg,hl.out⟩;have hj:(G.ms.set i m')[j]?=some mj:=hj;by_cases e:i=j;.subst e;rw[Hz hi]at hj;have hj:=GU hj;subst hj;exact hm'.mono Om (Gk _) Om
 rw[HC e]at hj;exact hl.ms j mj hj
def GI.comp{n a t:Nat}{I:Int}{G:GS}(h:GI n a t I G){i:Nat}(hi:i<n)(ha:a<=90000)(ht:t<=94000):GI n (a+1) t I (G.compact i).2:=by
 have hI:=h.I;let⟨m,hm⟩:=h.mem hi;rw[d7 hm];let⟨b1,b2⟩:=(h.ms i m hm).comp Om Om Om;exact h.set hm b1 b2
def GI.fuel{n a t:Nat}{I:Int}{G:GS}(h:GI n a t I G){i:Nat}(hi:i<n){k:Int}(hk:dp k):GI n (a+1) t I (G.fuel i k):=by
 let⟨m,hm⟩:=h.mem hi;rw[dV hm];let⟨b1,b2⟩:=(h.ms i m hm).fuel hk;exact h.set hm (b1.mono (Gk _) (Gk _) Om) (I2 b2)
def GI.crash{n a t:Nat}{I:Int}{G:GS}(h:GI n a t I G){i:Nat}(hi:i<n)(keep:Int):GI n (a+1) t I (G.crash i keep):=by
 let⟨m,hm⟩:=h.mem hi;have hl:=h.len;have hc:=fg m;rw[jX hm,hl.1];let⟨b1,b2⟩:=(h.ms i m hm).crash ⟨hi,hl.2.2⟩ keep;exact h.set hm (b1.mono (Gk _) (Gk _) Om) Om
def GI.twice{t:Nat}{I:Int}(h:GI n a t I G)(k:Int):GI n (a+1) t I (G.twice k):=by
 have hl:=h.later;have hm2:n*(a+1)=n*a+n:=by rw[KD];omega
 have hs:=h.st;have hn:=h.len;refine⟨hl.len,hl.i0,hl.ms,?_,λx hx=>?_,hl.out⟩
 .show(aG G.st G.last k).length<=_/\0<=kd G.st G.last k/\kd G.st G.last k<=_;unfold aG kd;rw[hm2];split;.simp[XD];omega
  omega
 have hx:x∈aG G.st G.last k:=hx;unfold aG at hx;split at hx
 .rename_i hb;rcases GE.1 hx with hx|hx
  .exact hl.msg x hx
  have:=qZ hx;simp at this;rw[this];exact hl.msg _ (jk hb)
 exact hl.msg x hx
def GI.outs{t:Nat}{I:Int}(h:GI n a t I G):GI n a t I G.outs:=⟨h.len,h.i0,h.ms,h.st,h.msg,by show([]:List OC).length<=_;simp⟩
def LB.new:LB 0 0 LG.new:=⟨Dc,Dc,Dc,Dc,Dc,λe he=>(by cases he),by rw[show ZC LG.new.state=[]from lh];decide,Dc⟩
def GI.new{n:Nat}(hn:1<=n/\n<=9):GI n 0 0 0 (GS.new n):=by
 have hm:∀i m,(GS.new n).ms[i]?=some m->i<n/\m=Zt i n LG.new DK.new:=λi m h=>by
  have hi:=(Gj.1 h).1;have hi:i<n:=by simpa[GS.new]using hi
  simp[GS.new,hi]at h;exact⟨hi,h.symm⟩
 have hz:∀m∈(GS.new n).ms,Zc m=0:=λm h=>by
  obtain⟨i,hi⟩:=Ik.1 h;obtain⟨h1,rfl⟩:=hm i m hi;exact(MI.start LB.new SD.new ⟨h1,hn.2⟩).2
 have hs:∀l:List MS,(∀m∈l,Zc m=0)->aF l=0:=λl=>by
  induction l with
  |nil=>intro _;rfl
  |cons x l ih=>
   intro h;have h1:=ih (λm hm=>h m (by simp[hm]));unfold aF at h1|-;rw[Hf,Io,h1,h x Si];rfl
 refine⟨⟨by simp[GS.new],hn⟩,⟨by omega,by rw[hs _ hz];omega⟩,λi m h=>?_,⟨by simp[GS.new],by simp[GS.new]⟩,λx hx=>by simp[GS.new]at hx,by simp[GS.new]⟩;obtain⟨h1,rfl⟩:=hm i m h;exact(MI.start LB.new (SD.new.mono (show 0<=17000000+6000*0 by omega)) ⟨h1,hn.2⟩).1
def GJ(n c d:Nat)(G:GS):Prop:=∃a t I,a+c<=90000/\t+10*d<=90000/\GI n a t I G
def GJ.new{n:Nat}(hn:1<=n/\n<=9):GJ n 90000 9000 (GS.new n):=⟨0,0,0,Om,Om,GI.new hn⟩
def yn(n:Nat):Bud n 90000 (GJ n) where
 gw:=λc d G ⟨a,t,I,ha,ht,h⟩=>h.gw Om Om
 ln:=λc d G ⟨a,t,I,ha,ht,h⟩=>h.len.1
 le:=λc d G ⟨a,t,I,ha,ht,h⟩=>⟨a,t,I,Om,Om,h⟩
 le2:=λc d G ⟨a,t,I,ha,ht,h⟩=>⟨a,t,I,Om,Om,h⟩
 tick:=λc d G i hi ⟨a,t,I,ha,ht,h⟩=>by
  let⟨I',h'⟩:=h.tick hi Om Om
  exact⟨a+1,t+1,I',Om,Om,h'⟩
 del:=λc d G k ⟨a,t,I,ha,ht,h⟩=>by
  let⟨I',h'⟩:=h.deliver k Om Om
  exact⟨a+1,t,I',Om,Om,h'⟩
 prop:=λc d G i cmd hi hc ⟨a,t,I,ha,ht,h⟩=>by
  let⟨I',h'⟩:=h.prop hi hc Om Om
  exact⟨a+1,t+10,I',Om,Om,h'⟩
 comp:=λc d G i hi ⟨a,t,I,ha,ht,h⟩=>⟨a+1,t,I,Om,Om,h.comp hi Om Om⟩
 fuel:=λc d G i k hi hk ⟨a,t,I,ha,ht,h⟩=>⟨a+1,t,I,Om,Om,h.fuel hi hk⟩
 opens:=λc d G i m k ⟨a,t,I,ha,ht,h⟩ hm=>(h.ms i m hm).opens k
 crash:=λc d G i k hi ⟨a,t,I,ha,ht,h⟩=>⟨a+1,t,I,Om,Om,h.crash hi k⟩
 drop:=λc d G k ⟨a,t,I,ha,ht,h⟩=>⟨a+1,t,I,Om,Om,(h.take k).later⟩
 twice:=λc d G k ⟨a,t,I,ha,ht,h⟩=>⟨a+1,t,I,Om,Om,h.twice k⟩
 last:=λc d G ⟨a,t,I,ha,ht,h⟩=>by
  have h1:=h.st
  have h2:n*a+n*c<=n*90000:=by rw[<-KD];exact Jk n Om
  omega
 outs:=λc d G ⟨a,t,I,ha,ht,h⟩=>⟨a,t,I,ha,ht,h.outs⟩
def MS.er(m:MS):MS:={m with D:=DK.new}
def MS.tickS(m:MS):MS×List Msg:=({m with x:=m.x.tickP.q},m.x.tickP.out)
def MS.recvS(m:MS)(g:Msg):MS×List Msg:=({m with x:=(m.x.receiveP g).q},(m.x.receiveP g).out)
def MS.propS(m:MS)(c:Bs):(Int×Int)×(MS×List Msg):=if m.x.role=2 then(((m.x.entryP c).g.last,(m.x.entryP c).g.term),({m with x:=(m.x.entryP c).q},(m.x.entryP c).out))else((0,0),(m,[]))
def doneS(i:Int)(m:MS)(o:List OC):MS×List OC:=m.rest.todo.foldl (Ye i) (m.rest,o)
def GS.doneS(G:GS)(i:Nat)(m:MS)(l:List Msg):GS:=⟨G.ms.set i (V.doneS i m G.out).1,G.st++XD G.last l,G.last+l.length,(V.doneS i m G.out).2⟩
def GS.tickS(G:GS)(i:Nat):GS:=match G.ms[i]? with
 |none=>G
 |some m=>G.doneS i m.tickS.1 m.tickS.2
def GS.delS(G:GS)(k:Int):GS:=
 if Yb G.st k=true then
  if 0<=(XV G.st k).2.to then match G.ms[(XV G.st k).2.to.toNat]? with
   |none=>G.take k
   |some m=>(G.take k).doneS (XV G.st k).2.to.toNat (m.recvS (XV G.st k).2).1 (m.recvS (XV G.st k).2).2
  else G.take k
 else G
def GS.propS(G:GS)(i:Nat)(c:Bs):(Int×Int)×GS:=match G.ms[i]? with
 |none=>((0,0),G)
 |some m=>((m.propS c).1,G.doneS i (m.propS c).2.1 (m.propS c).2.2)
def GS.er(G:GS):GS:={G with ms:=G.ms.map MS.er}
def Hl(G:GS):Prop:=∀m∈G.ms,yq m.D
def MI.up{I:Int}(h:MI T I N i n m)(hh:yq m.D):MU T I N i n m:=by
 rcases h.st with u|d;.exact u
 rw[hh.1]at d;cases d.1
def MU.ld{I:Int}(u:MU T I N i n m)(hh:yq m.D):LD N m.x.g m.D:=by
 let⟨s1,s2,s3,s4,s5,s6⟩:=u.sd;exact⟨s1,hh.2,s2,⟨s3.1,s3.2.1⟩,s4,s5,s6⟩
def EY(i:Int)(e:Qy)(r:MS×List OC)(D:DK):Ye i ({r.1 with D:=D},r.2) e=({(Ye i r e).1 with D:=D},(Ye i r e).2):=by
 unfold Ye;split<;>rfl
def Bj(i:Int)(D:DK):∀(l:List Qy) (r:MS×List OC),l.foldl (Ye i) ({r.1 with D:=D},r.2)=({(l.foldl (Ye i) r).1 with D:=D},(l.foldl (Ye i) r).2)
 |[],r=>rfl
 |e::l,r=>by rw[It,It,EY,Bj i D l]
def Ao(i:Int)(m:MS)(o:List OC)(D:DK):doneS i {m with D:=D} o=({(doneS i m o).1 with D:=D},(doneS i m o).2):=by
 unfold doneS;have h1:({m with D:=D}:MS).rest={m.rest with D:=D}:=by unfold MS.rest;split<;>rfl
 have h2:({m with D:=D}:MS).rest.todo=m.rest.todo:=by rw[h1];rfl
 rw[h2,h1];exact Bj i D _ (m.rest,o)
def s7(i:Int)(m:MS)(o:List OC):(doneS i m o).1.D=m.D:=by
 unfold doneS;rw[(g9 i m.rest.todo (m.rest,o)).2.1];exact(bu m).2.1
def pQ{l:List Msg}(hm:G.ms[i]?=some m)(hd:m'.dn=false)(hh:yq m'.D)(hl:Hl G):(G.done i m' l).er=G.er.doneS i m'.er l/\Hl (G.done i m' l):=by
 have e:XI i m' G.out=doneS i m' G.out:=by unfold XI;rw[ac (by rw[hd];decide)];rfl
 have e2:=Ao i m' G.out DK.new;constructor;.unfold GS.done GS.doneS GS.er;rw[e];show GS.mk _ _ _ _=GS.mk _ _ _ _;rw[show m'.er={m' with D:=DK.new}from rfl,e2,KY];rfl
 intro x hx;rcases IW (show x∈G.ms.set i (XI i m' G.out).1 from hx)with hx|hx
 .exact hl x hx
 rw[hx,e,s7];exact hh
def Bl{I:Int}(h:MI T I N i n m)(u:MU T I N i n m)(hh:yq m.D)(hf:Hs N' (f (m.x,m.D)) y):∃D',yq D'/\m.act (Xw (m.x,m.D) f)=({m with x:=y.q,D:=D'},y.out):=by
 let⟨a,b,c⟩:=AT u.ub.inn.down (u.ld hh) h.out hf;exact⟨_,c.h,by unfold MS.act;rw[a,b]⟩
def Dx{I:Int}(h:MI T I N i n m)(hh:yq m.D)(hT:T<=1000000000)(hI:I<=9500):∃D',yq D'/\m.tick=({m with x:=m.x.tickP.q,D:=D'},m.x.tickP.out):=by
 have u:=h.up hh;have hnn:=u.ub.inn.nin0 ⟨Om,Om,Om⟩ h.out;exact Bl h u hh (Dy Om (u.ld hh) hnn)
def DZ{I:Int}(h:MI T I N i n m)(hh:yq m.D){g:Msg}(hg:MB T I g)(hT:T<=1000000000)(hI:I<=9500)(hN:17000000<=N):∃D',yq D'/\m.recv g=({m with x:=(m.x.receiveP g).q,D:=D'},(m.x.receiveP g).out):=by
 have u:=h.up hh;have hnn:=u.ub.inn.nin0 ⟨Om,Om,Om⟩ h.out;exact Bl (f:=λs=>Xz s g) h u hh (vU (k:=0) hN Om (u.ld hh) hnn (hg.im Om Om).1 u.ub.inn.commit.1)
def D3{I:Int}(h:MI T I N i n m)(hh:yq m.D){c:Bs}(hc:c.length<=100)(hT:T<=1000000000)(hI:I<=9500):∃D',yq D'/\m.prop c=((m.propS c).1,({(m.propS c).2.1 with D:=D'},(m.propS c).2.2)):=by
 have u:=h.up hh;by_cases hr:m.x.role=2
 .have hnn:=u.ub.inn.nin0 ⟨Om,Om,Om⟩ h.out;have hf:=sS (cmd:=c) Om (u.ld hh) hnn hc;let⟨a,b,d⟩:=AT (f:=λs=>Xb s c) u.ub.inn.down (u.ld hh) h.out hf;have hb2:(m.x.entryP c).down=false:=by
   have h3:(m.x.entryP c).down=m.x.down:=by unfold ND.entryP;rw[Xe];show(ND.count _).down=_;unfold ND.count;split<;>rfl
   rw[h3];exact u.ub.inn.down
  have hnd:¬Xy (Xw (m.x,m.D) (λs=>Xb s c)).2=true:=by
   have:=sY (D:=(Xw (m.x,m.D) (λs=>Xb s c)).2.2) hb2 d;rw[<-b]at this;exact this
  refine⟨_,d.h,?_⟩;unfold MS.prop XX MS.propS MS.act;rw[ac (by simpa using hr),ac hnd,an hr,a,b]
 refine⟨m.D,hh,?_⟩;rw[dO hr,h.act0];unfold MS.propS;rw[ac hr]
def e9(hm:G.ms[i]?=some m):G.er.ms[i]?=some m.er:=by unfold GS.er;simp[hm]
def uG(hm:G.ms[i]?=none):G.er.ms[i]?=none:=by unfold GS.er;simpa using hm
def CP{t:Nat}{I:Int}(h:GI n a t I G)(hl:Hl G)(ha:a<=90000)(ht:t+1<=94000):(G.tick i).er=G.er.tickS i/\Hl (G.tick i):=by
 have hI:=h.I;cases hm:G.ms[i]? with
 |none=>unfold GS.tick GS.tickS;rw[hm,uG hm];exact⟨rfl,hl⟩
 |some m=>
  have hmi:=h.ms i m hm;have hh:=hl m (Gv hm);let⟨D',hD',e⟩:=Dx hmi hh Om Om;let⟨I',a1,a2,a3,a4,a5⟩:=hmi.tick Om Om;rw[a8 hm];rw[e]at a3|-;let⟨b1,b2⟩:=pQ (m':={m with x:=m.x.tickP.q,D:=D'}) (l:=m.x.tickP.out) hm (a3.up hD').dn hD' hl;refine⟨?_,b2⟩;unfold GS.tickS;rw[e9 hm];exact b1
def vw(hl:Hl G)(k:Int):(G.take k).er=G.er.take k/\Hl (G.take k):=⟨rfl,hl⟩
def En{t:Nat}{I:Int}(h:GI n a t I G)(hl:Hl G){k:Int}(ha:a<=90000)(ht:t<=94000):(G.deliver k).er=G.er.delS k/\Hl (G.deliver k):=by
 have hI:=h.I;have est:G.er.st=G.st:=rfl;unfold GS.deliver GS.delS;rw[est];split
 .rename_i hb;split
  .cases hm:G.ms[(XV G.st k).2.to.toNat]? with
   |none=>rw[uG hm];exact vw hl k
   |some m=>
    rw[e9 hm];have hmi:=h.ms _ m hm;have hh:=hl m (Gv hm);have hg:=h.msg _ (jk hb);let⟨D',hD',e⟩:=DZ hmi hh hg Om Om Om;let⟨I',a1,a2,a3,a4,a5⟩:=hmi.recv hg Om Om Om;dsimp only;rw[e]at a3|-;exact pQ (G:=G.take k) (m':={m with x:=(m.x.receiveP (XV G.st k).2).q,D:=D'}) hm (a3.up hD').dn hD' hl
  exact vw hl k
 exact⟨rfl,hl⟩
def CT{t:Nat}{I:Int}(h:GI n a t I G)(hl:Hl G){c:Bs}(hc:c.length<=100)(ha:a<=90000)(ht:t+10<=94000):(G.propose i c).1=(G.er.propS i c).1/\(G.propose i c).2.er=(G.er.propS i c).2/\Hl (G.propose i c).2:=by
 have hI:=h.I;cases hm:G.ms[i]? with
 |none=>unfold GS.propose GS.propS;rw[hm,uG hm];exact⟨rfl,rfl,hl⟩
 |some m=>
  have hmi:=h.ms i m hm;have hh:=hl m (Gv hm);let⟨D',hD',e⟩:=D3 hmi hh hc Om Om;let⟨I',a1,a2,a3,a4,a5⟩:=hmi.prop hc Om Om;have ep:m.er.propS c=((m.propS c).1,((m.propS c).2.1.er,(m.propS c).2.2)):=by unfold MS.propS;show(if m.x.role=2 then _ else _)=_;split<;>rfl
  rw[bj hm];rw[e]at a3|-;let⟨b1,b2⟩:=pQ (m':={(m.propS c).2.1 with D:=D'}) (l:=(m.propS c).2.2) hm (a3.up hD').dn hD' hl;unfold GS.propS;rw[e9 hm];dsimp only;rw[ep];exact⟨rfl,b1,b2⟩
def SJ11(n c d:Nat)(G:GS):Prop:=GJ n c d G/\Hl G
def SJ11.tick{n c d i:Nat}{G:GS}(h:SJ11 n (c+1) (d+1) G)(hi:i<n):SJ11 n c d (G.tick i)/\(G.tick i).er=G.er.tickS i:=by
 have hb:=(yn n).tick c d G i hi h.1;let⟨⟨a,t,I,ha,ht,hg⟩,hl⟩:=h;let⟨e1,e2⟩:=CP hg hl (i:=i) Om Om;exact⟨⟨hb,e2⟩,e1⟩
def SJ11.del{n c d:Nat}{k:Int}{G:GS}(h:SJ11 n (c+1) d G):SJ11 n c d (G.deliver k)/\(G.deliver k).er=G.er.delS k:=by
 have hb:=(yn n).del c d G k h.1;let⟨⟨a,t,I,ha,ht,hg⟩,hl⟩:=h;let⟨e1,e2⟩:=En hg hl (k:=k) Om Om;exact⟨⟨hb,e2⟩,e1⟩
def SJ11.prop{n c d i:Nat}{cmd:Bs}{G:GS}(h:SJ11 n (c+1) (d+1) G)(hi:i<n)(hc:cmd.length<=100):SJ11 n c d (G.propose i cmd).2/\(G.propose i cmd).1=(G.er.propS i cmd).1/\(G.propose i cmd).2.er=(G.er.propS i cmd).2:=by
 have hb:=(yn n).prop c d G i cmd hi hc h.1;let⟨⟨a,t,I,ha,ht,hg⟩,hl⟩:=h;let⟨e1,e2,e3⟩:=CT hg hl (i:=i) hc Om Om;exact⟨⟨hb,e3⟩,e1,e2⟩
def SJ11.leq{n c c' d d':Nat}{G:GS}(h:SJ11 n c' d' G)(hc:c<=c')(hd:d<=d'):SJ11 n c d G:=⟨(yn n).leq hc hd h.1,h.2⟩
def GS.ticksS(G:GS)(k:Nat):GS:=(List.range k).foldl GS.tickS G
def zC(G:GS)(k:Nat):G.ticksS (k+1)=(G.ticksS k).tickS k:=by unfold GS.ticksS;rw[JQ,KZ];rfl
def SJ11.ticks{n c d:Nat}{G:GS}:∀{k:Nat},k<=n->SJ11 n (c+k) (d+k) G->SJ11 n c d (G.ticks k)/\(G.ticks k).er=G.er.ticksS k
 |0,_,h=>⟨h,rfl⟩
 |k+1,hk,h=>by
  obtain⟨h1,e1⟩:=SJ11.ticks (n:=n) (c:=c+1) (d:=d+1) (k:=k) Om (by rw[show c+1+k=c+(k+1)by omega,show d+1+k=d+(k+1)by omega];exact h);obtain⟨h2,e2⟩:=h1.tick (i:=k) Om;rw[jo,zC,e2,e1];exact⟨h2,rfl⟩
def GS.del1S(G:GS):GS:=if G.st.length>0 then G.delS 0 else G
def GS.delsS(G:GS):Nat->GS
 |0=>G
 |k+1=>(G.delsS k).del1S
def SJ11.dels{n c d:Nat}{G:GS}:∀{k:Nat},SJ11 n (c+k) d G->SJ11 n c d (G.dels k)/\(G.dels k).er=G.er.delsS k
 |0,h=>⟨h,rfl⟩
 |k+1,h=>by
  obtain⟨h1,e1⟩:=SJ11.dels (c:=c+1) (k:=k) (by rw[show c+1+k=c+(k+1)by omega];exact h);show SJ11 n c d (G.dels k).del1/\(G.dels k).del1.er=(G.er.delsS k).del1S;rw[<-e1];unfold GS.del1 GS.del1S;rw[show(G.dels k).er.st=(G.dels k).st from rfl];split;.exact h1.del
  exact⟨h1.leq Om (Gl _),rfl⟩
def GS.roundS(G:GS)(n:Nat):GS:=(G.ticksS n).delsS 200
def GS.roundsS(G:GS)(n:Nat):Nat->GS
 |0=>G
 |k+1=>(G.roundsS n k).roundS n
def SJ11.round{c:Nat}(h:SJ11 n (c+(n+200)) (d+n) G):SJ11 n c d (G.round n)/\(G.round n).er=G.er.roundS n:=by
 obtain⟨h1,e1⟩:=SJ11.ticks (c:=c+200) (d:=d) (k:=n) (Gl n) (by rw[show c+200+n=c+(n+200)by omega];exact h);obtain⟨h2,e2⟩:=h1.dels;unfold GS.roundS;rw[<-e1];exact⟨h2,e2⟩
def SJ11.rounds{n:Nat}{G:GS}:∀{k c d:Nat},SJ11 n (c+k*(n+200)) (d+k*n) G->SJ11 n c d (G.rounds n k)/\(G.rounds n k).er=G.er.roundsS n k
 |0,c,d,h=>⟨by simpa[GS.rounds]using h,rfl⟩
 |k+1,c,d,h=>by
  obtain⟨h1,e1⟩:=SJ11.rounds (k:=k) (c:=c+(n+200)) (d:=d+n) (by rw[show c+(n+200)+k*(n+200)=c+(k+1)*(n+200)by rw[G4];omega,show d+n+k*n=d+(k+1)*n by rw[G4];omega];exact h);obtain⟨h2,e2⟩:=h1.round;show SJ11 n c d ((G.rounds n k).round n)/\((G.rounds n k).round n).er=(G.er.roundsS n k).roundS n;rw[<-e1];exact⟨h2,e2⟩
def pj(G:GS)(n:Nat):G.er.leads n=G.leads n:=by
 have h1:∀k,G.er.leader k=G.leader k:=λk=>by unfold GS.leader GS.er;cases h:G.ms[k]? <;>simp[h]<;>rfl
 have h2:∀k,G.er.term k=G.term k:=λk=>by unfold GS.term GS.er;cases h:G.ms[k]? <;>simp[h]<;>rfl
 have h3:∀k,G.er.role k=G.role k:=λk=>by unfold GS.role GS.er;split<;>(try rfl);cases h:G.ms[k.toNat]? <;>simp[h]<;>rfl
 have h4:G.er.alike n=G.alike n:=by unfold GS.alike;simp[h1,h2]
 unfold GS.leads;simp[h1,h3,h4]
def yy(l:List Bs)(c:Bs):List Bs:=if c=[]then l else l++[c]
def Yh(es:List Qy):List Bs:=(es.map (·.2)).filter (λs=>decide (¬s=[]))
def zV(a b:List Qy):Yh (a++b)=Yh a++Yh b:=by simp[Yh]
def eY(i:Int):∀(es:List Qy) (r:MS×List OC),(es.foldl (Ye i) r).1={r.1 with ap:=r.1.ap+es.length,l:=r.1.l++Yh es}
 |[],r=>by simp[Yh]
 |e::es,r=>by
  rw[It,eY i es];unfold Ye;by_cases h:e.2=[];.rw[an h,show Yh (e::es)=Yh es by simp[Yh,h]];dsimp only;rw[GD,show r.1.ap+1+(es.length:Int)=r.1.ap+((es.length+1:Nat):Int)by omega]
  rw[ac h,show Yh (e::es)=e.2::Yh es by simp[Yh,h]];dsimp only;rw[GD,show r.1.ap+1+(es.length:Int)=r.1.ap+((es.length+1:Nat):Int)by omega,GA];rfl
def j6(e:Qy)(hb:0<=g.base):(g.play (.add g.last [e])).all=g.all++[e]/\(g.play (.add g.last [e])).last=g.last+1:=by
 have h1:(g.play (.add g.last [e])).all=g.all++[e]:=by
  show g.all.take (g.last-g.base).toNat++[e]=_;rw[Gx (by unfold LG.last;omega)]
 refine⟨h1,?_⟩;show g.base+((g.play (.add g.last [e])).all.length:Int)=g.last+1;rw[h1];unfold LG.last;simp;omega
structure GH where
 lg:Int->List Qy
 cl:Int->Nat->List Qy
 el:Int->Nat->Prop
 ak:Nat->Int->Nat->Prop
 vt:Nat->Int->Nat->Prop
 tf:Nat->Int
variable{Γ A B Δ:GH}
def ZD(F:List Qy)(j:Nat):Int:=if j=0 then 0 else((F[j-1]?).map (·.1)).getD 0
def GH.own(Γ:GH)(c:Int)(k:Nat):Prop:=1<=k/\∃e,(Γ.lg c)[k-1]?=some e/\e.1=c
def GH.pre(Γ:GH)(F:List Qy)(c:Int)(k:Nat):Prop:=k<=F.length/\F.take k=(Γ.lg c).take k
structure Maj (n:Nat) (M:List Nat):Prop where
 nd:M.Nodup
 lt:∀i∈M,i<n
 most:n<2*M.length
def GH.dead(Γ:GH)(n:Nat)(c:Int)(k:Nat):Prop:=∃M,Maj n M/\∀i∈M,c<Γ.tf i/\∀a,k<=a->¬Γ.ak i c a
def GH.cm(Γ:GH)(n:Nat)(c:Int)(k:Nat):Prop:=Γ.own c k/\∃M,Maj n M/\∀i∈M,∃a,k<=a/\Γ.ak i c a
def GH.cmt(Γ:GH)(n:Nat)(p:List Qy)(τ:Int):Prop:=p=[]\/∃c k,c<=τ/\Γ.cm n c k/\p<+:(Γ.lg c).take k
structure GH.pl (Γ:GH) (F:List Qy):Prop where
 at_:∀j e,F[j]?=some e->(∃x,Γ.el e.1 x)/\F.take (j+1)=(Γ.lg e.1).take (j+1)
 mono:F.Pairwise (λa b=>a.1<=b.1)
def iM:∀(n:Nat) (l:List Nat),l.Nodup->(∀i∈l,i<n)->l.length<=n
 |0,l,_,h=>by
  cases l with
  |nil=>exact Gl _
  |cons a l=>exact Gr (h a Si) Om
 |n+1,l,hd,h=>by
  have h1:=iM n (l.erase n) (hd.erase n) (λi hi=>by
   have h2:=(List.Nodup.mem_erase_iff hd).1 hi
   have h3:=h i h2.2
   have:=h2.1
   omega)
  by_cases hn:n∈l
  .rw[Jo hn]at h1;omega
  .rw[List.erase_of_not_mem hn]at h1;omega
def pa{A B:List Nat}(hA:Maj n A)(hB:Maj n B):∃i,i∈A/\i∈B:=by
 by_cases h:∃i,i∈A/\i∈B;.exact h
 exfalso;have hnd:(A++B).Nodup:=Hb.2 ⟨hA.nd,hB.nd,λa ha b hb e=>h ⟨a,ha,e▸hb⟩⟩;have hsub:∀i∈A++B,i<n:=λi hi=>by
  rcases GE.1 hi with hi|hi;.exact hA.lt i hi
  exact hB.lt i hi
 have h1:=iM n _ hnd hsub;have h2:=hA.most;have h3:=hB.most;simp at h1;omega
structure GHI (n:Nat) (Γ:GH):Prop where
 one:∀t x y,Γ.el t x->Γ.el t y->x=y
 elq:∀u x,Γ.el u x->∃M,Maj n M/\∀i∈M,Γ.vt i u x
 vt1:∀i t x y,Γ.vt i t x->Γ.vt i t y->x=y
 vtf:∀i t x,Γ.vt i t x->t<=Γ.tf i
 vts:∀i t x,Γ.vt i t x->Γ.vt x t x
 vc:∀i u x,Γ.vt i u x->∀c k,c<u->Γ.own c k->(∃a,k<=a/\Γ.ak i c a)->Γ.pre (Γ.cl u x) c k\/Γ.dead n c k
 clp:∀u x,Γ.vt x u x->Γ.pl (Γ.cl u x)/\∀e∈Γ.cl u x,e.1<u
 elc:∀u x,Γ.el u x->Γ.vt x u x/\Γ.cl u x<+:Γ.lg u/\(Γ.cl u x).length<(Γ.lg u).length/\∀j e,(Γ.cl u x).length<=j->(Γ.lg u)[j]?=some e->e.1=u
 lgp:∀u x,Γ.el u x->Γ.pl (Γ.lg u)
 no:∀u,(¬∃x,Γ.el u x)->Γ.lg u=[]
 lc:∀u x,Γ.el u x->∀c k,c<u->Γ.own c k->Γ.pre (Γ.cl u x) c k\/Γ.dead n c k
 pos:∀t x,Γ.el t x->0<t
 akl:∀i c a,Γ.ak i c a->a<=(Γ.lg c).length/\c<=Γ.tf i/\∃x,Γ.el c x
 vpos:∀i t x,Γ.vt i t x->0<t
def EM(h:Γ.cm n c k):¬Γ.dead n c k:=λ⟨M,hM,hd⟩=>by
 let⟨_,A,hA,ha⟩:=h;let⟨i,hi,hj⟩:=pa hA hM;let⟨a,h1,h2⟩:=ha i hi;exact(hd i hj).2 a h1 h2
def oM(h:GHI n Γ)(ho:Γ.own c k):(∃x,Γ.el c x)/\k<=(Γ.lg c).length:=by
 let⟨h1,e,h2,_⟩:=ho;have hl:=(Gj.1 h2).1;refine⟨?_,Om⟩;by_cases hx:∃x,Γ.el c x;.exact hx
 rw[h.no c hx]at hl;simp at hl
def iU(h:GHI n Γ){x:Nat}(hu:Γ.el u x)(hc:c<=u)(hk:Γ.cm n c k):k<=(Γ.lg u).length/\(Γ.lg u).take k=(Γ.lg c).take k:=by
 rcases J2 hc with hlt|heq
 .rcases h.lc u x hu c k hlt hk.1 with h1|h1;.let⟨_,h2,h3,_⟩:=h.elc u x hu;let⟨r,hr⟩:=h2;let⟨h4,h5⟩:=h1;refine⟨Om,?_⟩;rw[<-h5,<-hr,Ha h4]
  exact Gr h1 (EM hk)
 subst heq;exact⟨(oM h hk.1).2,rfl⟩
def eR(h:GHI n Γ){x:Nat}(hu:Γ.el u x)(hc:τ<=u)(hp:Γ.cmt n p τ):p<+:Γ.lg u:=by
 rcases hp with rfl|⟨c,k,h1,h2,h3⟩;.exact JR
 let⟨_,h4⟩:=iU h hu (show c<=u by omega) h2;exact(h4▸h3).trans (Jh _ _)
def zr{q:List Qy}(h:Γ.cmt n p τ)(hq:q<+:p)(ht:τ<=σ):Γ.cmt n q σ:=by
 rcases h with rfl|⟨c,k,h1,h2,h3⟩;.exact .inl (List.prefix_nil.1 hq)
 exact .inr ⟨c,k,Om,h2,hq.trans h3⟩
def wa{α:Type}{a b c:List α}(ha:a<+:c)(hb:b<+:c):a<+:b\/b<+:a:=by
 rcases Nat.le_total a.length b.length with h|h;.exact .inl (Lc ha hb h)
 exact .inr (Lc hb ha h)
def l6(h:GHI n Γ){q:List Qy}(hp:Γ.cmt n p τ)(hq:Γ.cmt n q σ):p<+:q\/q<+:p:=by
 rcases hp with rfl|⟨c,k,h1,h2,h3⟩;.exact .inl JR
 rcases hq with rfl|⟨d,l,h4,h5,h6⟩;.exact .inr JR
 let⟨x,hx⟩:=(oM h h2.1).1;let⟨y,hy⟩:=(oM h h5.1).1;rcases K0 c d with hcd|hcd
 .let⟨_,e⟩:=iU h hy hcd h2;exact wa ((e▸h3).trans (Jh _ _)) (h6.trans (Jh _ _))
 let⟨_,e⟩:=iU h hx hcd h5;exact wa (h3.trans (Jh _ _)) ((e▸h6).trans (Jh _ _))
structure GH.le (n:Nat) (A B:GH):Prop where
 lg:∀t,A.lg t<+:B.lg t
 cl:∀u x,A.vt x u x->B.cl u x=A.cl u x
 el:∀t x,A.el t x->B.el t x
 ak:∀i c a,A.ak i c a->B.ak i c a
 akn:∀i c a,B.ak i c a->A.ak i c a\/A.tf i<=c
 vt:∀i t x,A.vt i t x->B.vt i t x
 tf:∀i,A.tf i<=B.tf i
def pk(n:Nat)(A:GH):A.le n A:=⟨λ_=>If _,λ_ _ _=>rfl,λ_ _ h=>h,λ_ _ _ h=>h,λ_ _ _ h=>.inl h,λ_ _ _ h=>h,λ_=>Gk _⟩
def le_trans{C:GH}(h:A.le n B)(k:B.le n C):A.le n C:=
 ⟨λt=>(h.lg t).trans (k.lg t),λu x hv=>(k.cl u x (h.vt _ _ _ hv)).trans (h.cl u x hv),λt x he=>k.el t x (h.el t x he),λi c a ha=>k.ak i c a (h.ak i c a ha),λi c a ha=>by
  rcases k.akn i c a ha with h1|h1;.exact h.akn i c a h1
  exact .inr (Hg (h.tf i) h1),λi t x hv=>k.vt i t x (h.vt i t x hv),λi=>Hg (h.tf i) (k.tf i)⟩
def Zu(h:A.le n B)(hd:A.dead n c k):B.dead n c k:=by
 let⟨M,hM,hd⟩:=hd;refine⟨M,hM,λi hi=>⟨J4 (hd i hi).1 (h.tf i),λa ha hb=>?_⟩⟩;rcases h.akn i c a hb with h1|h1
 .exact(hd i hi).2 a ha h1
 have:=(hd i hi).1;omega
def lO(h:A.le n B)(hk:k<=(A.lg t).length):(B.lg t).take k=(A.lg t).take k:=by
 let⟨r,hr⟩:=h.lg t;rw[<-hr,Ha hk]
def pm(h:A.le n B)(t:Int):(A.lg t).length<=(B.lg t).length:=(h.lg t).length_le
def Ek(h:A.le n B)(ho:A.own c k):B.own c k:=by
 let⟨h1,e,h2,h3⟩:=ho;let⟨r,hr⟩:=h.lg c;refine⟨h1,e,?_,h3⟩;rw[<-hr,GG (Gj.1 h2).1];exact h2
def sD(h:A.le n B)(ho:B.own c k)(hk:k<=(A.lg c).length):A.own c k:=by
 let⟨h1,e,h2,h3⟩:=ho;let⟨r,hr⟩:=h.lg c;refine⟨h1,e,?_,h3⟩;rw[<-hr,GG Om]at h2;exact h2
def qV(h:A.le n B)(hk:k<=(A.lg c).length)(hp:A.pre F c k):B.pre F c k:=⟨hp.1,by rw[lO h hk];exact hp.2⟩
def qg(h:A.le n B)(hp:A.pl F):B.pl F:=by
 refine⟨λj e hj=>?_,hp.mono⟩;let⟨⟨x,hx⟩,h1⟩:=hp.at_ j e hj;refine⟨⟨x,h.el _ _ hx⟩,?_⟩;have hl:=(Gj.1 hj).1;have h2:=GM List.length h1;simp[GX]at h2;rw[lO h Om];exact h1
def FA(h:A.le n B)(hc:A.cm n c k):B.cm n c k:=by
 let⟨h1,M,hM,h2⟩:=hc;exact⟨Ek h h1,M,hM,λi hi=>by obtain⟨a,ha,hb⟩:=h2 i hi;exact⟨a,ha,h.ak _ _ _ hb⟩⟩
def qF(ho:Γ.own c k):k<=(Γ.lg c).length:=by
 let⟨h1,e,h2,_⟩:=ho;have:=(Gj.1 h2).1;omega
def ZK(h:A.le n B)(hp:A.cmt n p τ):B.cmt n p τ:=by
 rcases hp with rfl|⟨c,k,h1,h2,h3⟩;.exact .inl rfl
 refine .inr ⟨c,k,h1,FA h h2,?_⟩;rw[lO h (qF h2.1)];exact h3
structure AG (g:LG) (F:List Qy):Prop where
 b0:0<=g.base
 b:g.base.toNat<=F.length
 all:g.all=F.drop g.base.toNat
 bt:g.baseT=ZD F g.base.toNat
structure LogI (n:Nat) (Γ:GH) (i:Nat) (g:LG) (F:List Qy):Prop where
 ag:AG g F
 pl:Γ.pl F
 tm:∀e∈F,e.1<=g.term
 nn:∀c k,Γ.own c k->(∃a,k<=a/\Γ.ak i c a)->Γ.pre F c k\/Γ.dead n c k
 vv:∀t x,Γ.vt i t x->t<g.term\/(t=g.term/\g.vote=(x:Int))
 tf:Γ.tf i<=g.term
 cb:Γ.cmt n (F.take g.base.toNat) g.term
 st:g.base>0->ZC g.state=Yh (F.take g.base.toNat)
 fl:∀k,Γ.ak i g.term k->Γ.pre F g.term k
def AG.last{g:LG}{F:List Qy}(h:AG g F):g.last=F.length:=by
 have h1:=h.b0;have h2:=h.b;unfold LG.last;rw[h.all];simp;omega
def AG.at(h:AG g F)(hj:g.base<j):g.at j=F[j-1]?:=by
 have h1:=h.b0;have h2:=h.b;have hl:=h.last;by_cases h3:(j:Int)<=g.last;.rw[dg ⟨hj,h3⟩,h.all,HF];congr 1;omega
 rw[cH Om,Ho Om]
def AG.termAt{g:LG}{F:List Qy}(h:AG g F){j:Nat}(hj:g.base<=j/\j<=F.length):g.termAt j=some (ZD F j):=by
 have h1:=h.b0;unfold LG.termAt;by_cases h2:(j:Int)=g.base;.rw[an h2,h.bt,show g.base.toNat=j by omega]
 rw[ac h2,h.at Om];unfold ZD;rw[ac Om,b7 Om];rfl
def AG.termAt_none(h:AG g F){j:Int}(hj:j<g.base\/F.length<j):g.termAt j=none:=by
 have h1:=h.b0;have h2:=h.b;have hl:=h.last;unfold LG.termAt;rw[ac Om,cH Om];rfl
def AG.termAt_some(h:AG g F){j:Int}(hj:g.termAt j=some t):∃k:Nat,j=k/\g.base<=j/\k<=F.length/\t=ZD F k:=by
 have h1:=h.b0;have h2:=h.b;by_cases h3:j<g.base\/F.length<j;.rw[h.termAt_none h3]at hj;cases hj
 obtain⟨k,rfl⟩:=Hu (show 0<=j by omega);have h4:g.termAt (k:Int)=some (ZD F k):=h.termAt Om;have hj':g.termAt (k:Int)=some t:=hj;rw[h4]at hj';exact⟨k,rfl,by omega,by omega,(GU hj').symm⟩
def ab(h0:1<=k)(h:k<=F.length):∃e,F[k-1]?=some e/\ZD F k=e.1:=by
 refine⟨F[k-1],b7 Om,?_⟩;unfold ZD;rw[ac Om,b7 Om];rfl
def jb{G:List Qy}(h:F.take k=G.take k)(hj:j<=k):ZD F j=ZD G j:=by
 unfold ZD;by_cases h0:j=0;.rw[an h0,an h0]
 rw[ac h0,ac h0];have h1:=GM (λl=>l[j-1]?) h;simp[HS]at h1;rw[an Om,an Om]at h1;rw[h1]
def ui{G:List Qy}(hF:Γ.pl F)(hG:Γ.pl G)(h1:k<=F.length)(h2:k<=G.length)(h:ZD F k=ZD G k):F.take k=G.take k:=by
 by_cases h0:k=0;.subst h0;simp
 let⟨e,he,e1⟩:=ab Om h1;let⟨f,hf,f1⟩:=ab Om h2;have a1:=(hF.at_ _ _ he).2;have a2:=(hG.at_ _ _ hf).2;rw[show k-1+1=k by omega]at a1 a2;rw[a1,a2,show e.1=f.1 by omega]
def AX(hF:Γ.pl F)(h0:1<=k)(h1:k<=F.length):(∃x,Γ.el (ZD F k) x)/\F.take k=(Γ.lg (ZD F k)).take k:=by
 let⟨e,he,e1⟩:=ab h0 h1;have a1:=hF.at_ _ _ he;rw[show k-1+1=k by omega,<-e1]at a1;exact a1
def wn(h:GHI n Γ){C:List Qy}(hF:Γ.pl F)(hC:Γ.pl C)(hCu:∀e∈C,e.1<u)(ho:Γ.own c k)(hp:Γ.pre F c k)(hup:ZD C C.length>ZD F F.length\/(ZD C C.length=ZD F F.length/\C.length>=F.length)):Γ.pre C c k\/Γ.dead n c k:=by
 let⟨hk1,e,he,hec⟩:=ho;have hkl:=(Gj.1 he).1;have hpl:=hp.1;have hFk:F[k-1]?=some e:=by
  have h1:=GM (λl=>l[k-1]?) hp.2;simp[HS]at h1;rw[an Om,an Om]at h1;rw[h1];exact he
 let⟨f,hf,f1⟩:=ab (F:=F) (k:=F.length) Om (Gl _);have hcf:c<=f.1:=by
  by_cases hkF:k=F.length;.rw[hkF]at hFk;rw[hFk]at hf;have:=GU hf;rw[<-this];omega
  have h2:=(Jj.1 hF.mono) (k-1) (F.length-1) Om Om Om;have h3:=(Gj.1 hFk).2;have h4:=(Gj.1 hf).2;rw[h3,h4]at h2;omega
 have hC0:1<=C.length:=by
  by_cases h0:C.length=0
  .exfalso;have:ZD C C.length=0:=by unfold ZD;rw[an h0]
   rcases hup with h5|h5
   .
    let⟨⟨x,hx⟩,_⟩:=AX hF (k:=F.length) Om (Gl _)
    have:=h.pos _ _ hx
    omega
   omega
  omega
 let⟨g,hg,g1⟩:=ab (F:=C) (k:=C.length) hC0 (Gl _);let⟨⟨y,hy⟩,hCt⟩:=AX hC hC0 (Gl _);rw[Ji]at hCt;have hgu:g.1<u:=hCu g (Gv hg);have hcg:c<=g.1:=Om;rcases J2 hcg with hlt|heq
 .rw[g1]at hy hCt;let⟨_,h2,_,h4⟩:=h.elc _ _ hy;rcases h.lc g.1 y hy c k hlt ⟨hk1,e,he,hec⟩with h5|h5
  .left;let⟨r,hr⟩:=h2;have hlen:(Γ.cl g.1 y).length<C.length:=by
    rcases HK (Γ.cl g.1 y).length C.length with h6|h6;.exact h6
    exfalso;have h7:(Γ.cl g.1 y)[C.length-1]?=some g:=by
     have h8:C[C.length-1]?=((Γ.lg g.1).take C.length)[C.length-1]?:=by rw[<-hCt]
     rw[hg,HS,an Om,<-hr,GG Om]at h8;exact h8.symm
    have h9:=(h.clp g.1 y (h.elc _ _ hy).1).2 g (Gv h7);omega
   have h5l:=h5.1;refine⟨Om,?_⟩;rw[hCt,Hd,Hj Om,<-h5.2,<-hr,Ha h5.1]
  exact .inr h5
 left;have hfc:f.1=c:=Om;have hlen:C.length>=F.length:=Om;refine⟨Om,?_⟩;rw[hCt,g1,<-heq,Hd,Hj Om]
structure GH.stp (n i:Nat) (A B:GH):Prop where
 le:A.le n B
 ak:∀j,j≠i->∀c a,B.ak j c a->A.ak j c a
 vt:∀j,j≠i->∀t x,B.vt j t x->A.vt j t x
 tf:∀j,j≠i->B.tf j=A.tf j
 lgo:∀t j,j≠i->A.el t j->B.lg t=A.lg t
 elo:∀t j,j≠i->B.el t j->A.el t j
def Yx(n i:Nat)(A:GH):A.stp n i A:=⟨pk n A,λ_ _ _ _ h=>h,λ_ _ _ _ h=>h,λ_ _=>rfl,λ_ _ _ _=>rfl,λ_ _ _ h=>h⟩
def mn{C:GH}(h:A.stp n i B)(k:B.stp n i C):A.stp n i C:=
 ⟨le_trans h.le k.le,λj hj c a ha=>h.ak j hj c a (k.ak j hj c a ha),λj hj t x hv=>h.vt j hj t x (k.vt j hj t x hv),λj hj=>(k.tf j hj).trans (h.tf j hj),λt j hj he=>(k.lgo t j hj (h.le.el t j he)).trans (h.lgo t j hj he),λt j hj he=>h.elo t j hj (k.elo t j hj he)⟩
def GH.tfU(Γ:GH)(i:Nat)(t:Int):GH:={Γ with tf:=λj=>if j=i then t else Γ.tf j}
def lj(ht:Γ.tf i<=t):Γ.stp n i (Γ.tfU i t):=by
 refine⟨⟨λ_=>If _,λ_ _ _=>rfl,λ_ _ h=>h,λ_ _ _ h=>h,λ_ _ _ h=>.inl h,λ_ _ _ h=>h,λj=>?_⟩,λ_ _ _ _ h=>h,λ_ _ _ _ h=>h,λj hj=>?_,λ_ _ _ _=>rfl,λ_ _ _ h=>h⟩
 .show Γ.tf j<=if j=i then t else Γ.tf j;split;.rename_i h;rw[h];exact ht
  exact Gk _
 show(if j=i then t else Γ.tf j)=Γ.tf j;rw[ac hj]
def kf:(Γ.tfU i t).tf i=t:=by show(if i=i then t else _)=t;rw[an rfl]
def vg(h:GHI n Γ)(ht:Γ.tf i<=t):GHI n (Γ.tfU i t):=by
 have s:=(lj (n:=n) ht).le;exact⟨h.one,h.elq,h.vt1,λj u x hv=>Hg (h.vtf j u x hv) (s.tf j),h.vts,λj u x hv c k hc ho ha=>(h.vc j u x hv c k hc ho ha).imp id (Zu s),λu x hv=>⟨qg s (h.clp u x hv).1,(h.clp u x hv).2⟩,h.elc,λu x hu=>qg s (h.lgp u x hu),h.no,λu x hu c k hc ho=>(h.lc u x hu c k hc ho).imp id (Zu s),h.pos,λj c a ha=>⟨(h.akl j c a ha).1,Hg (h.akl j c a ha).2.1 (s.tf j),(h.akl j c a ha).2.2⟩,h.vpos⟩
def GH.akU(Γ:GH)(i:Nat)(c:Int)(a:Nat):GH:={Γ with ak:=λj d b=>Γ.ak j d b\/(j=i/\d=c/\b=a)}
def mb(hc:Γ.tf i=c):Γ.stp n i (Γ.akU i c a):=
 ⟨⟨λ_=>If _,λ_ _ _=>rfl,λ_ _ h=>h,λ_ _ _ h=>.inl h,λj d b h=>h.imp id (λ⟨h1,h2,_⟩=>by rw[h1,h2,hc];exact Gk _),λ_ _ _ h=>h,λ_=>Gk _⟩,λj hj d b h=>h.elim id (λh=>Gr h.1 hj),λ_ _ _ _ h=>h,λ_ _=>rfl,λ_ _ _ _=>rfl,λ_ _ _ h=>h⟩
def xf(h:GHI n Γ)(hc:Γ.tf i=c)(ha:a<=(Γ.lg c).length)(he:∃x,Γ.el c x):GHI n (Γ.akU i c a):=by
 have s:=(mb (n:=n) (a:=a) hc).le;refine⟨h.one,h.elq,h.vt1,h.vtf,h.vts,λj u x hv d k hd ho hk=>?_,λu x hv=>⟨qg s (h.clp u x hv).1,(h.clp u x hv).2⟩,h.elc,λu x hu=>qg s (h.lgp u x hu),h.no,λu x hu d k hd ho=>(h.lc u x hu d k hd ho).imp id (Zu s),h.pos,λj d b hb=>?_,h.vpos⟩
 .let⟨b,hb1,hb2⟩:=hk;rcases hb2 with hb2|⟨rfl,rfl,rfl⟩
  .exact(h.vc j u x hv d k hd ho ⟨b,hb1,hb2⟩).imp id (Zu s)
  have:=h.vtf _ _ _ hv;omega
 rcases hb with hb|⟨rfl,rfl,rfl⟩;.exact h.akl j d b hb
 exact⟨ha,by show d<=Γ.tf j;omega,he⟩
def GH.exU(Γ:GH)(i:Nat)(t:Int)(e:Qy):GH:={Γ with lg:=λu=>if u=t then Γ.lg u++[e]else Γ.lg u}
def dZ:(Γ.exU i t e).lg t=Γ.lg t++[e]:=by show(if t=t then _ else _)=_;rw[an rfl]
def dY(h:u≠t):(Γ.exU i t e).lg u=Γ.lg u:=by show(if u=t then _ else _)=_;rw[ac h]
def sQ(h:GHI n Γ)(he:Γ.el t i):Γ.stp n i (Γ.exU i t e):=by
 refine⟨⟨λu=>?_,λ_ _ _=>rfl,λ_ _ h=>h,λ_ _ _ h=>h,λ_ _ _ h=>.inl h,λ_ _ _ h=>h,λ_=>Gk _⟩,λ_ _ _ _ h=>h,λ_ _ _ _ h=>h,λ_ _=>rfl,λu j hj hu=>?_,λ_ _ _ h=>h⟩
 .by_cases hu:u=t;.subst hu;rw[dZ];exact I9 _ _
  rw[dY hu];exact If _
 refine dY (λe=>hj ?_);subst e;exact h.one u j i hu he
def ut(h:GHI n Γ)(he:Γ.el t i):∀e∈Γ.lg t,e.1<=t:=λe hm=>by
 let⟨j,hj⟩:=Ik.1 hm;let⟨h1,⟨r,hr⟩,h3,h4⟩:=h.elc t i he;rcases HK j (Γ.cl t i).length with h5|h5
 .rw[<-hr,GG h5]at hj;have:=(h.clp t i h1).2 e (Gv hj);omega
 have:=h4 j e h5 hj;omega
def lC{c:Bs}(h:Γ.pl F)(ht:∀e∈F,e.1<=t)(hl:Γ.lg t=F++[(t,c)])(he:∃x,Γ.el t x):Γ.pl (F++[(t,c)]):=by
 refine⟨λj e hj=>?_,?_⟩
 .rcases HK j F.length with h1|h1;.rw[GG h1]at hj;rw[Ha Om];exact h.at_ j e hj
  rw[GY h1]at hj;have h0:j-F.length=0:=by
   have:=(Gj.1 hj).1;simpa using this
  rw[h0]at hj;have hj:=GU hj;subst hj;exact⟨he,by rw[hl]⟩
 rw[List.pairwise_append];exact⟨h.mono,Si,λa ha b hb=>by simp at hb;subst hb;exact ht a ha⟩
def xX(hl:Δ.lg t=Γ.lg t++[e])(ho:Δ.own t k):Γ.own t k\/k=(Γ.lg t).length+1:=by
 let⟨h1,f,h2,h3⟩:=ho;rw[hl]at h2;rcases HK (k-1) (Γ.lg t).length with h4|h4
 .rw[GG h4]at h2;exact .inl ⟨h1,f,h2,h3⟩
 right;have:=(Gj.1 h2).1;simp at this;omega
def oL(hl:Δ.lg t=Γ.lg t)(ho:Δ.own t k):Γ.own t k:=by
 let⟨h1,f,h2,h3⟩:=ho;rw[hl]at h2;exact⟨h1,f,h2,h3⟩
def Ew(h:GHI n Γ)(he:Γ.el t i):GHI n (Γ.exU i t (t,cmd)):=by
 have s:=(sQ (e:=(t,cmd)) h he).le;have hown:∀c k,(Γ.exU i t (t,cmd)).own c k->Γ.own c k\/(c=t/\k=(Γ.lg t).length+1):=λc k ho=>by
  by_cases hc:c=t
  .subst hc;rcases xX dZ ho with h1|h1
   .exact .inl h1
   exact .inr ⟨rfl,h1⟩
  exact .inl (oL (dY hc) ho)
 refine⟨h.one,h.elq,h.vt1,h.vtf,h.vts,λj u x hv c k hc ho ha=>?_,λu x hv=>⟨qg s (h.clp u x hv).1,(h.clp u x hv).2⟩,λu x hu=>?_,λu x hu=>?_,λu hu=>?_,λu x hu c k hc ho=>?_,h.pos,λj c a ha=>⟨Hn (h.akl j c a ha).1 (pm s c),(h.akl j c a ha).2⟩,h.vpos⟩
 .rcases hown c k ho with h1|⟨rfl,h1⟩;.exact(h.vc j u x hv c k hc h1 ha).imp (qV s (qF h1)) (Zu s)
  let⟨a,ha1,ha2⟩:=ha;have:=(h.akl j _ a ha2).1;omega
 .let⟨h1,h2,h3,h4⟩:=h.elc u x hu;refine⟨h1,h2.trans (s.lg u),Hw h3 (pm s u),λj e hj hje=>?_⟩;by_cases hut:u=t
  .subst hut;rw[dZ]at hje;rcases HK j (Γ.lg u).length with h5|h5
   .rw[GG h5]at hje;exact h4 j e hj hje
   rw[GY h5]at hje;have h0:j-(Γ.lg u).length=0:=by
    have:=(Gj.1 hje).1;simpa using this
   rw[h0]at hje;have:=GU hje;rw[<-this]
  rw[dY hut]at hje;exact h4 j e hj hje
 .by_cases hut:u=t;.subst hut;have h1:=qg s (h.lgp u x hu);rw[dZ];exact lC h1 (ut h hu) dZ ⟨x,hu⟩
  rw[dY hut];exact qg s (h.lgp u x hu)
 .by_cases hut:u=t;.subst hut;exact Gr ⟨i,he⟩ hu
  rw[dY hut];exact h.no u hu
 rcases hown c k ho with h1|⟨rfl,h1⟩;.exact(h.lc u x hu c k hc h1).imp (qV s (qF h1)) (Zu s)
 right;let⟨M,hM,hv⟩:=h.elq u x hu;refine⟨M,hM,λj hj=>⟨?_,λa ha hb=>?_⟩⟩;.have:=h.vtf _ _ _ (hv j hj);show c<Γ.tf j;omega
 have:=(h.akl j c a hb).1;omega
def GH.sdU(Γ:GH)(i:Nat)(t:Int)(F:List Qy):GH:={Γ with tf:=λj=>if j=i then t else Γ.tf j,vt:=λj u x=>Γ.vt j u x\/(j=i/\u=t/\x=i),cl:=λu x=>if u=t/\x=i then F else Γ.cl u x}
def oh:(Γ.sdU i t F).cl t i=F:=by show(if t=t/\i=i then F else _)=F;rw[an ⟨rfl,rfl⟩]
def og:(Γ.sdU i t F).tf i=t:=by show(if i=i then t else _)=t;rw[an rfl]
def dI(h:GHI n Γ)(ht:Γ.tf i<t){x:Nat}(hv:Γ.vt x u x):(Γ.sdU i t F).cl u x=Γ.cl u x:=by
 show(if u=t/\x=i then F else Γ.cl u x)=_;rw[ac];rintro⟨rfl,rfl⟩;have:=h.vtf _ _ _ hv;omega
def sc(h:GHI n Γ)(ht:Γ.tf i<t):Γ.stp n i (Γ.sdU i t F):=by
 refine⟨⟨λ_=>If _,λu x hv=>dI h ht hv,λ_ _ h=>h,λ_ _ _ h=>h,λ_ _ _ h=>.inl h,λ_ _ _ h=>.inl h,λj=>?_⟩,λ_ _ _ _ h=>h,λj hj u x hv=>hv.elim id (λh=>Gr h.1 hj),λj hj=>?_,λ_ _ _ _=>rfl,λ_ _ _ h=>h⟩
 .show Γ.tf j<=if j=i then t else Γ.tf j;split;.rename_i h;rw[h];omega
  exact Gk _
 show(if j=i then t else Γ.tf j)=Γ.tf j;rw[ac hj]
def DP(h:GHI n Γ)(h0:0<t)(ht:Γ.tf i<t)(hF:Γ.pl F)(hl:∀e∈F,e.1<t)(hn:∀c k,Γ.own c k->(∃a,k<=a/\Γ.ak i c a)->Γ.pre F c k\/Γ.dead n c k):GHI n (Γ.sdU i t F):=by
 have s:=(sc (F:=F) h ht).le;refine⟨h.one,λu x hu=>?_,λj u x y hx hy=>?_,λj u x hv=>?_,λj u x hv=>?_,λj u x hv c k hc ho ha=>?_,λu x hv=>?_,λu x hu=>?_,λu x hu=>qg s (h.lgp u x hu),h.no,λu x hu c k hc ho=>?_,h.pos,λj c a ha=>⟨(h.akl j c a ha).1,Hg (h.akl j c a ha).2.1 (s.tf j),(h.akl j c a ha).2.2⟩,λj u x hv=>hv.elim (h.vpos j u x) (λe=>by rw[e.2.1];exact h0)⟩;.let⟨M,hM,hv⟩:=h.elq u x hu;exact⟨M,hM,λj hj=>.inl (hv j hj)⟩
 .rcases hx with hx|⟨rfl,rfl,rfl⟩
  .rcases hy with hy|⟨rfl,rfl,rfl⟩;.exact h.vt1 j u x y hx hy
   have:=h.vtf _ _ _ hx;omega
  rcases hy with hy|⟨_,_,rfl⟩;.have:=h.vtf _ _ _ hy;omega
  rfl
 .rcases hv with hv|⟨rfl,rfl,rfl⟩;.exact Hg (h.vtf j u x hv) (s.tf j)
  rw[og];exact Gk _
 .rcases hv with hv|⟨rfl,rfl,rfl⟩;.exact .inl (h.vts j u x hv)
  exact .inr ⟨rfl,rfl,rfl⟩
 .rcases hv with hv|⟨rfl,rfl,rfl⟩;.rw[dI h ht (h.vts _ _ _ hv)];exact(h.vc j u x hv c k hc ho ha).imp id (Zu s)
  rw[oh];exact(hn c k ho ha).imp id (Zu s)
 .rcases hv with hv|⟨_,rfl,rfl⟩;.rw[dI h ht hv];exact⟨qg s (h.clp u x hv).1,(h.clp u x hv).2⟩
  rw[oh];exact⟨qg s hF,hl⟩
 .let⟨h1,h2⟩:=h.elc u x hu;rw[dI h ht h1];exact⟨.inl h1,h2⟩
 rw[dI h ht (h.elc u x hu).1];exact(h.lc u x hu c k hc ho).imp id (Zu s)
def GH.vtU(Γ:GH)(i:Nat)(t:Int)(x:Nat):GH:={Γ with vt:=λj u y=>Γ.vt j u y\/(j=i/\u=t/\y=x)}
def rU{x:Nat}:Γ.stp n i (Γ.vtU i t x):=
 ⟨⟨λ_=>If _,λ_ _ _=>rfl,λ_ _ h=>h,λ_ _ _ h=>h,λ_ _ _ h=>.inl h,λ_ _ _ h=>.inl h,λ_=>Gk _⟩,λ_ _ _ _ h=>h,λj hj u y hv=>hv.elim id (λh=>Gr h.1 hj),λ_ _=>rfl,λ_ _ _ _=>rfl,λ_ _ _ h=>h⟩
def Ds{x:Nat}(h:GHI n Γ)(ht:t<=Γ.tf i)(hx:Γ.vt x t x)(hix:i≠x)(h1:∀y,Γ.vt i t y->y=x)(hvc:∀c k,c<t->Γ.own c k->(∃a,k<=a/\Γ.ak i c a)->Γ.pre (Γ.cl t x) c k\/Γ.dead n c k):GHI n (Γ.vtU i t x):=by
 have s:=(rU (n:=n) (i:=i) (Γ:=Γ) (t:=t) (x:=x)).le;have self:∀u y,(Γ.vtU i t x).vt y u y->Γ.vt y u y:=λu y hv=>by
  rcases hv with hv|⟨rfl,_,h3⟩;.exact hv
  exact Gr h3 hix
 refine⟨h.one,λu y hu=>?_,λj u y z hy hz=>?_,λj u y hv=>?_,λj u y hv=>?_,λj u y hv c k hc ho ha=>?_,λu y hv=>⟨qg s (h.clp u y (self u y hv)).1,(h.clp u y (self u y hv)).2⟩,λu y hu=>⟨.inl (h.elc u y hu).1,(h.elc u y hu).2⟩,λu x hu=>qg s (h.lgp u x hu),h.no,h.lc,h.pos,h.akl,λj u y hv=>hv.elim (h.vpos j u y) (λe=>by rw[e.2.1];exact h.vpos x t x hx)⟩;.let⟨M,hM,hv⟩:=h.elq u y hu;exact⟨M,hM,λj hj=>.inl (hv j hj)⟩
 .rcases hy with hy|⟨rfl,rfl,rfl⟩
  .rcases hz with hz|⟨rfl,rfl,rfl⟩;.exact h.vt1 j u y z hy hz
   exact h1 y hy
  rcases hz with hz|⟨_,_,rfl⟩;.exact(h1 z hz).symm
  rfl
 .rcases hv with hv|⟨rfl,rfl,rfl⟩;.exact h.vtf j u y hv
  exact ht
 .rcases hv with hv|⟨rfl,rfl,rfl⟩;.exact .inl (h.vts j u y hv)
  exact .inl hx
 rcases hv with hv|⟨rfl,rfl,rfl⟩;.exact h.vc j u y hv c k hc ho ha
 exact hvc c k hc ho ha
def GH.wnU(Γ:GH)(i:Nat)(t:Int)(e:Qy):GH:={Γ with el:=λu x=>Γ.el u x\/(u=t/\x=i),lg:=λu=>if u=t then Γ.cl t i++[e]else Γ.lg u}
def kc:(Γ.wnU i t e).lg t=Γ.cl t i++[e]:=by show(if t=t then _ else _)=_;rw[an rfl]
def dB(h:u≠t):(Γ.wnU i t e).lg u=Γ.lg u:=by show(if u=t then _ else _)=_;rw[ac h]
def uW(h:GHI n Γ){M:List Nat}(hM:Maj n M)(hv:∀j∈M,Γ.vt j t i)(hno:¬Γ.el t i):¬∃x,Γ.el t x:=λ⟨x,hx⟩=>by
 let⟨A,hA,ha⟩:=h.elq t x hx;let⟨j,hj1,hj2⟩:=pa hA hM;have:=h.vt1 j t x i (ha j hj1) (hv j hj2);subst this;exact hno hx
def rS(h:GHI n Γ)(hf:¬∃x,Γ.el t x):Γ.stp n i (Γ.wnU i t e):=by
 refine⟨⟨λu=>?_,λ_ _ _=>rfl,λ_ _ h=>.inl h,λ_ _ _ h=>h,λ_ _ _ h=>.inl h,λ_ _ _ h=>h,λ_=>Gk _⟩,λ_ _ _ _ h=>h,λ_ _ _ _ h=>h,λ_ _=>rfl,λu j hj hu=>?_,λu j hj hu=>hu.elim id (λh=>Gr h.2 hj)⟩
 .by_cases hu:u=t;.subst hu;rw[h.no u hf];exact JR
  rw[dB hu];exact If _
 refine dB (λe=>hf ?_);subst e;exact⟨j,hu⟩
def Dm(h:GHI n Γ)(h0:0<t){M:List Nat}(hM:Maj n M)(hv:∀j∈M,Γ.vt j t i)(hs:Γ.vt i t i)(hf:¬∃x,Γ.el t x):GHI n (Γ.wnU i t (t,cmd)):=by
 have s:=(rS (i:=i) (e:=(t,cmd)) h hf).le;have hcl:=h.clp t i hs;have hnak:∀j a,¬Γ.ak j t a:=λj a ha=>hf (h.akl j t a ha).2.2;have hown:∀c k,(Γ.wnU i t (t,cmd)).own c k->Γ.own c k\/c=t:=λc k ho=>by
  by_cases hc:c=t;.exact .inr hc
  exact .inl (oL (dB hc) ho)
 refine⟨λu x y hx hy=>?_,λu x hu=>?_,h.vt1,h.vtf,h.vts,λj u x hvt c k hc ho ha=>?_,λu x hvt=>⟨qg s (h.clp u x hvt).1,(h.clp u x hvt).2⟩,λu x hu=>?_,λu x hu=>?_,λu hu=>?_,λu x hu c k hc ho=>?_,λu x hu=>?_,λj c a ha=>?_,h.vpos⟩
 .rcases hx with hx|⟨rfl,rfl⟩
  .rcases hy with hy|⟨rfl,rfl⟩;.exact h.one u x y hx hy
   exact Gr ⟨x,hx⟩ hf
  rcases hy with hy|⟨_,rfl⟩;.exact Gr ⟨y,hy⟩ hf
  rfl
 .rcases hu with hu|⟨rfl,rfl⟩;.exact h.elq u x hu
  exact⟨M,hM,hv⟩
 .rcases hown c k ho with h1|rfl;.exact(h.vc j u x hvt c k hc h1 ha).imp (qV s (qF h1)) (Zu s)
  let⟨a,_,ha⟩:=ha;exact Gr ha (hnak j a)
 .rcases hu with hu|⟨rfl,rfl⟩;.have hut:u≠t:=λe=>hf ⟨x,e▸hu⟩;rw[dB hut];exact h.elc u x hu
  rw[kc];refine⟨hs,I9 _ _,by simp[GH.wnU],λj e hj hje=>?_⟩;have hj:(Γ.cl u x).length<=j:=hj;rw[GY hj]at hje;have h0:j-(Γ.cl u x).length=0:=by
   have:=(Gj.1 hje).1;simpa using this
  rw[h0]at hje;have:=GU hje;rw[<-this]
 .rcases hu with hu|⟨rfl,rfl⟩;.have hut:u≠t:=λe=>hf ⟨x,e▸hu⟩;rw[dB hut];exact qg s (h.lgp u x hu)
  rw[kc];exact lC (qg s hcl.1) (λe he=>by have:=hcl.2 e he;omega) kc ⟨x,.inr ⟨rfl,rfl⟩⟩
 .by_cases hut:u=t;.exact Gr ⟨i,.inr ⟨hut,rfl⟩⟩ hu
  rw[dB hut];exact h.no u (λ⟨x,hx⟩=>hu ⟨x,.inl hx⟩)
 .rcases hown c k ho with h1|rfl
  .rcases hu with hu|⟨rfl,rfl⟩;.exact(h.lc u x hu c k hc h1).imp (qV s (qF h1)) (Zu s)
   by_cases hq:∃j,j∈M/\∃a,k<=a/\Γ.ak j c a;.let⟨j,hj,ha⟩:=hq;exact(h.vc j u x (hv j hj) c k hc h1 ha).imp (qV s (qF h1)) (Zu s)
   right;refine⟨M,hM,λj hj=>⟨?_,λa ha hb=>hq ⟨j,hj,a,ha,hb⟩⟩⟩;have:=h.vtf _ _ _ (hv j hj);show c<Γ.tf j;omega
  rcases hu with hu|⟨rfl,rfl⟩;.right;let⟨A,hA,ha⟩:=h.elq u x hu;refine⟨A,hA,λj hj=>⟨?_,λa _ hb=>hnak j a hb⟩⟩;have:=h.vtf _ _ _ (ha j hj);show c<Γ.tf j;omega
  omega
 .rcases hu with hu|⟨rfl,rfl⟩;.exact h.pos u x hu
  exact h0
 let⟨h1,h2,x,h3⟩:=h.akl j c a ha;exact⟨Hn h1 (pm s c),h2,x,.inl h3⟩
structure NodeI (n:Nat) (Γ:GH) (i:Nat) (x:ND) (F:List Qy):Prop where
 lo:LogI n Γ i x.g F
 tf:Γ.tf i=x.g.term
 cm:Γ.cmt n (F.take x.commit.toNat) x.g.term
 ld:x.role=2->Γ.el x.g.term i/\Γ.lg x.g.term=F/\Γ.ak i x.g.term F.length/\∀j,j<n->j≠i->x.nxt j<=F.length+1/\(x.mat j=0\/Γ.ak j x.g.term (x.mat j).toNat)
 cd:x.role=1->Γ.cl x.g.term i=F/\Γ.vt i x.g.term i/\¬Γ.el x.g.term i/\∀v∈x.votes,∃w:Nat,v=w/\Γ.vt w x.g.term i
structure MsgI (n:Nat) (Γ:GH) (m:Msg):Prop where
 ask:m.kind=0->∃x:Nat,m.frm=x/\Γ.vt x m.term x/\m.index=(Γ.cl m.term x).length/\m.logTerm=ZD (Γ.cl m.term x) (Γ.cl m.term x).length
 vote:m.kind=1->m.ok=true->∃i x:Nat,m.frm=i/\m.to=x/\Γ.vt i m.term x
 app:m.kind=2->(∃x,Γ.el m.term x)/\∃k c:Nat,m.index=k/\k<=(Γ.lg m.term).length/\m.logTerm=ZD (Γ.lg m.term) k/\m.es<+:(Γ.lg m.term).drop k/\m.commit=c/\c<=(Γ.lg m.term).length/\Γ.cmt n ((Γ.lg m.term).take c) m.term
 snap:m.kind=4->(∃x,Γ.el m.term x)/\∃k:Nat,m.index=k/\k<=(Γ.lg m.term).length/\m.logTerm=ZD (Γ.lg m.term) k/\Γ.cmt n ((Γ.lg m.term).take k) m.term/\ZC m.state=Yh ((Γ.lg m.term).take k)
 ack:m.kind=3->m.ok=true->∃i k:Nat,m.frm=i/\m.index=k/\(k=0\/Γ.ak i m.term k)
def a9{α:Type}{a b:List α}(h:a<+:b)(hk:k<=a.length):b.take k=a.take k:=by
 obtain⟨r,rfl⟩:=h;exact Ha hk
def oV(h:A.le n B){m:Msg}(hm:MsgI n A m):MsgI n B m where
 ask:=λhk=>by
  let⟨x,h1,h2,h3,h4⟩:=hm.ask hk
  exact⟨x,h1,h.vt _ _ _ h2,by rw[h.cl _ _ h2];exact h3,by rw[h.cl _ _ h2];exact h4⟩
 vote:=λhk ho=>by
  let⟨i,x,h1,h2,h3⟩:=hm.vote hk ho
  exact⟨i,x,h1,h2,h.vt _ _ _ h3⟩
 app:=λhk=>by
  let⟨⟨x,hx⟩,k,c,h1,h2,h3,h4,h5,h6,h7⟩:=hm.app hk
  have hp:=h.lg m.term
  refine⟨⟨x,h.el _ _ hx⟩,k,c,h1,Hn h2 hp.length_le,?_,?_,h5,Hn h6 hp.length_le,?_⟩
  .rw[h3]
   exact jb (k:=k) (a9 hp h2).symm (Gl _)
  .let⟨r,hr⟩:=hp
   rw[<-hr,H5 h2]
   exact h4.trans (I9 _ _)
  .rw[a9 hp h6];exact ZK h h7
 snap:=λhk=>by
  let⟨⟨x,hx⟩,k,h1,h2,h3,h4,h5⟩:=hm.snap hk
  have hp:=h.lg m.term
  exact⟨⟨x,h.el _ _ hx⟩,k,h1,Hn h2 hp.length_le,by rw[h3];exact jb (k:=k) (a9 hp h2).symm (Gl _),by rw[a9 hp h2];exact ZK h h4,by rw[a9 hp h2];exact h5⟩
 ack:=λhk ho=>by
  let⟨i,k,h1,h2,h3⟩:=hm.ack hk ho
  exact⟨i,k,h1,h2,h3.imp id (h.ak _ _ _)⟩
def gn(hA:GHI n A)(h:A.le n B)(hl:LogI n A i g F)(hak:∀c a,B.ak i c a->A.ak i c a)(hvt:∀t x,B.vt i t x->A.vt i t x)(htf:B.tf i<=g.term):LogI n B i g F:=
 ⟨hl.ag,qg h hl.pl,hl.tm,λc k ho ha=>by
  let⟨a,h1,h2⟩:=ha;have h3:=hak c a h2;have h4:=sD h ho (by have:=(hA.akl i c a h3).1;omega);exact(hl.nn c k h4 ⟨a,h1,h3⟩).imp (qV h (qF h4)) (Zu h),λt x hv=>hl.vv t x (hvt t x hv),htf,ZK h hl.cb,hl.st,λk hk=>qV h (hA.akl _ _ _ (hak _ _ hk)).1 (hl.fl k (hak _ _ hk))⟩
def sA(hA:GHI n A)(h:A.stp n i B)(hj:j≠i)(hl:LogI n A j g F):LogI n B j g F:=
 gn hA h.le hl (h.ak j hj) (h.vt j hj) (by rw[h.tf j hj];exact hl.tf)
def y5(hA:GHI n A)(h:A.stp n i B)(hj:j≠i)(hx:NodeI n A j x F):NodeI n B j x F where
 lo:=sA hA h hj hx.lo
 tf:=by rw[h.tf j hj];exact hx.tf
 cm:=ZK h.le hx.cm
 ld:=λhr=>by
  let⟨h1,h2,h3,h4⟩:=hx.ld hr
  exact⟨h.le.el _ _ h1,by rw[h.lgo _ j hj h1];exact h2,h.le.ak _ _ _ h3,λq hq hqj=>⟨(h4 q hq hqj).1,(h4 q hq hqj).2.imp id (h.le.ak _ _ _)⟩⟩
 cd:=λhr=>by
  let⟨h1,h2,h3,h4⟩:=hx.cd hr
  exact⟨by rw[h.le.cl _ _ h2];exact h1,h.le.vt _ _ _ h2,λhe=>h3 (h.elo _ j hj he),λv hv=>by obtain⟨w,a,b⟩:=h4 v hv;exact⟨w,a,h.le.vt _ _ _ b⟩⟩
def aJ(n:Nat)(Γ:GH)(i:Nat)(y:ND):Prop:=∃Δ F,Γ.stp n i Δ/\GHI n Δ/\NodeI n Δ i y F/\∀m∈y.out,MsgI n Δ m
def Act2(n:Nat)(Γ:GH)(i:Nat)(x y:ND):Prop:=∃Δ,Γ.stp n i Δ/\GHI n Δ/\(∃F,LogI n Δ i x.g F)/\(∃F,LogI n Δ i y.g F)/\aJ n Δ i y
def fY(h:Γ.stp n i Δ)(r:aJ n Δ i y):aJ n Γ i y:=by
 let⟨E,F,h1,h2⟩:=r;exact⟨E,F,mn h h1,h2⟩
def Zr(hG:GHI n Γ)(hx:NodeI n Γ i x F)(hg:y.g=x.g)(r:aJ n Γ i y):Act2 n Γ i x y:=
 ⟨Γ,Yx n i Γ,hG,⟨F,hx.lo⟩,⟨F,by rw[hg];exact hx.lo⟩,r⟩
def NodeI.cong(h:NodeI n Γ i x F)(hg:y.g=x.g)(hc:y.commit=x.commit)(h2:y.role=2->x.role=2/\y.peers=x.peers)(h1:y.role=1->x.role=1/\y.votes=x.votes):NodeI n Γ i y F where
 lo:=by rw[hg];exact h.lo
 tf:=by rw[hg];exact h.tf
 cm:=by rw[hg,hc];exact h.cm
 ld:=λhr=>by
  let⟨a,b⟩:=h2 hr
  have:=h.ld a
  unfold ND.nxt ND.mat at this|-
  rw[hg,b];exact this
 cd:=λhr=>by
  let⟨a,b⟩:=h1 hr
  have:=h.cd a
  rw[hg,b];exact this
def NodeI.follow(h:NodeI n Γ i x F)(hg:y.g=x.g)(hc:y.commit=x.commit)(hr:y.role=0):NodeI n Γ i y F:=
 h.cong hg hc (λh=>by rw[hr]at h;cases h) (λh=>by rw[hr]at h;cases h)
def tP(h:AG x.g F)(hj:x.g.base<=j/\j<=F.length):x.tAt j=ZD F j:=by
 unfold ND.tAt;rw[h.termAt hj];rfl
def bO(h:AG x.g F):x.tAt x.g.last=ZD F F.length:=by
 have h1:=h.b0;have h2:=h.b;rw[h.last];exact tP h Om
def lT{I:Int}(hx:NodeI n Γ i x F)(ub:UB T I x)(hn:x.n=n)(hr:x.role=2)(hj:j<n)(hji:j≠i):MsgI n Γ (x.stamp (x.feedMsg j)):=by
 let⟨h1,h2,h3,h4⟩:=hx.ld hr;have hag:=hx.lo.ag;have hb0:=hag.b0;have hb:=hag.b;have hnx:=(h4 j hj hji).1;have hpl:=ub.inn.peers hr;have hn1:1<=x.nxt j:=by
  unfold ND.nxt;have hm:x.peers.getD j (0,0)∈x.peers:=by rw[Gt,b7 (by rw[hpl,hn];exact hj)];simp
  exact(ub.inn.peer _ hm).1.1
 have hcm:=ub.inn.commit;have hla:=hag.last;by_cases hs:x.nxt j<=x.g.base
 .rw[yl hs];refine⟨λhk=>Gr (show(4:Int)=0 from hk) Dc,λhk=>Gr (show(4:Int)=1 from hk) Dc,λhk=>Gr (show(4:Int)=2 from hk) Dc,λ_=>⟨⟨i,h1⟩,x.g.base.toNat,by show x.g.base=_;omega,?_,?_,?_,?_⟩,λhk=>Gr (show(4:Int)=3 from hk) Dc⟩;.show _<=(Γ.lg x.g.term).length;rw[h2];exact hb
  .show x.g.baseT=ZD (Γ.lg x.g.term) _;rw[h2];exact hag.bt
  .show Γ.cmt n ((Γ.lg x.g.term).take _) x.g.term;rw[h2];exact hx.lo.cb
  show ZC x.g.state=Yh ((Γ.lg x.g.term).take _);rw[h2];exact hx.lo.st Om
 rw[qE hs];refine⟨λhk=>Gr (show(2:Int)=0 from hk) Dc,λhk=>Gr (show(2:Int)=1 from hk) Dc,λ_=>⟨⟨i,h1⟩,(x.nxt j-1).toNat,x.commit.toNat,by show x.nxt j-1=_;omega,?_,?_,?_,by show x.commit=_;omega,?_,?_⟩,λhk=>Gr (show(2:Int)=4 from hk) Dc,λhk=>Gr (show(2:Int)=3 from hk) Dc⟩;.show _<=(Γ.lg x.g.term).length;rw[h2];omega
 .show x.tAt (x.nxt j-1)=ZD (Γ.lg x.g.term) _;rw[h2];have:=tP (x:=x) hag (j:=(x.nxt j-1).toNat) Om;rw[<-this];congr 1;omega
 .show(x.g.all.drop (x.nxt j-x.g.base-1).toNat).take 8<+:(Γ.lg x.g.term).drop _;rw[h2,hag.all,HL,show x.g.base.toNat+(x.nxt j-x.g.base-1).toNat=(x.nxt j-1).toNat by omega];exact Jh _ _
 .show _<=(Γ.lg x.g.term).length;rw[h2];omega
 show Γ.cmt n ((Γ.lg x.g.term).take _) x.g.term;rw[h2];exact hx.cm
def kM{I:Int}(hx:NodeI n Γ i x F)(ub:UB T I x)(hid:x.id=i)(hn:x.n=n)(hr:x.role=2)(ho:x.out=[]):∀m∈x.feedAll.out,MsgI n Γ m:=λm hm=>by
 rw[ZS ho]at hm;obtain⟨m1,hm1,rfl⟩:=Gu.1 hm;obtain⟨j,hj,rfl⟩:=Gu.1 hm1;have hj2:j<x.n/\j≠x.id:=by unfold ND.others at hj;rw[IG]at hj;simpa using hj
 exact lT hx ub hn hr Om Om
def rv{l:List Int}(h:l.Pairwise (λa b=>decide (a<=b)=true)){m:Nat}(hm:m<l.length):l.length-m<=l.countP (λr=>decide (l.getD m 0<=r)):=by
 have hg:l.getD m 0=l[m]:=by simp[Gt,b7 hm]
 rw[hg];rw[Jj]at h;have hsp:=HG m l;have:(l.drop m).countP (λr=>decide (l[m]<=r))=(l.drop m).length:=by
  rw[JF];intro a ha;obtain⟨j,hj,rfl⟩:=Ij ha;rw[List.getElem_drop];simp;by_cases hj0:j=0;.subst hj0;simp
  have h2:=h m (m+j) hm (by simp at hj;omega) Om;simpa using h2
 have h3:l.countP (λr=>decide (l[m]<=r))=(l.take m).countP (λr=>decide (l[m]<=r))+(l.drop m).countP (λr=>decide (l[m]<=r)):=by
  rw[<-JZ,hsp]
 rw[h3,this];simp
def Cl(hid:x.id<x.n)(hl:x.mid<=x.g.last):Maj x.n (x.id::x.others.filter (λj=>decide (x.mid<=x.mat j))):=by
 have h1:=JT x.reach (λa b=>decide (a<=b));have h2:=Ki (le:=λ(a b:Int)=>decide (a<=b)) (λa b c h1 h2=>by simp at*;omega) (λa b=>by simp;omega) x.reach;have h3:=h1.length_eq;rw[fZ hid]at h3;have h4:=rv h2 (m:=(x.n-1)/2) Om;have e:(x.reach.mergeSort (λa b=>decide (a<=b))).getD ((x.n-1)/2) 0=x.mid:=rfl;rw[e,h3,h1.countP_eq]at h4;unfold ND.reach at h4;rw[List.countP_cons_of_pos (by simpa using hl),List.countP_map]at h4;have hfil:(x.others.filter (λj=>decide (x.mid<=x.mat j))).length=x.others.countP ((λr=>decide (x.mid<=r))∘x.mat):=by
  rw[<-List.countP_eq_length_filter];rfl
 have hmo:∀j∈x.others,j<x.n/\j≠x.id:=λj hj=>by unfold ND.others at hj;rw[IG]at hj;simpa using hj
 refine⟨Id.2 ⟨λh=>(hmo _ (IG.1 h).1).2 rfl,?_⟩,λj hj=>?_,?_⟩;.unfold ND.others;exact(List.nodup_range.filter _).filter _
 .rcases Gn.1 hj with rfl|hj;.exact hid
  exact(hmo j (IG.1 hj).1).1
 rw[GD,hfil];omega
def NodeI.count{n i:Nat}{Γ:GH}{x:ND}{F:List Qy}{T I:Int}(hx:NodeI n Γ i x F)(ub:UB T I x)(hid:x.id=i)(hn:x.n=n)(hr:x.role=2):NodeI n Γ i x.count F:=by
 unfold ND.count;split
 .rename_i hc;let⟨h1,h2,h3,h4⟩:=hx.ld hr;have hag:=hx.lo.ag;have hb0:=hag.b0;have hla:=hag.last;have hcm:=ub.inn.commit;have hml:x.mid<=x.g.last:=oX ub.inn.idn.1 (ub.inn.pl hr) Om;have hta:x.tAt x.mid=ZD F x.mid.toNat:=by
   have:=tP (x:=x) hag (j:=x.mid.toNat) Om;rw[<-this];congr 1;omega
  have hM:=Cl ub.inn.idn.1 hml;rw[hn]at hM;refine⟨hx.lo,hx.tf,?_,λhr=>hx.ld hr,λhr1=>hx.cd hr1⟩;show Γ.cmt n (F.take x.mid.toNat) x.g.term;let⟨e,he,e1⟩:=ab (F:=F) (k:=x.mid.toNat) Om Om;refine .inr ⟨x.g.term,x.mid.toNat,Gk _,⟨⟨Om,e,by rw[h2];exact he,by rw[<-e1,<-hta];exact hc.2⟩,_,hM,λj hj=>?_⟩,by rw[h2];exact If _⟩;rcases Gn.1 hj with rfl|hj
  .exact⟨F.length,Om,by rw[hid];exact h3⟩
  let⟨hj1,hj2⟩:=IG.1 hj;have hj3:j<x.n/\j≠x.id:=by unfold ND.others at hj1;rw[IG]at hj1;simpa using hj1
  have hj2:x.mid<=x.mat j:=by simpa using hj2
  rcases(h4 j Om Om).2 with h5|h5
  .omega
  exact⟨_,Om,h5⟩
 exact hx
def pM{z:ND}{I:Int}(hd:GHI n Δ)(hs:Γ.stp n i Δ)(he:Δ.el z.g.term i)(hl:Δ.lg z.g.term=F++[(z.g.term,cmd)])(hlo:LogI n Δ i z.g F)(htf:Δ.tf i=z.g.term)(hcm:Δ.cmt n (F.take z.commit.toNat) z.g.term)(hp:∀j,j<n->j≠i->z.nxt j<=F.length+1/\(z.mat j=0\/Δ.ak j z.g.term (z.mat j).toNat))(ub:UB T I z)(hid:z.id=i)(hn:z.n=n)(hr:z.role=2)(ho:z.out=[])(hc:cmd.length<=100):Act2 n Γ i z (z.entryP cmd):=by
 have hag:=hlo.ag;have hb0:=hag.b0;have hb:=hag.b;have hla:=hag.last;have hcom:=ub.inn.commit;let⟨e1,e2⟩:=j6 (g:=z.g) (z.g.term,cmd) hb0;obtain⟨Y,hY⟩:∃Y:ND,Y={z with g:=z.g.play (.add z.g.last [(z.g.term,cmd)])}:=⟨_,rfl⟩;have hYg:Y.g=z.g.play (.add z.g.last [(z.g.term,cmd)]):=by rw[hY]
 have hag2:AG Y.g (F++[(z.g.term,cmd)]):=by
  rw[hYg];refine⟨hb0,by show z.g.base.toNat<=_;simp;omega,?_,?_⟩;.rw[e1,hag.all];show _=(F++[(z.g.term,cmd)]).drop z.g.base.toNat;rw[H5 hb]
  show z.g.baseT=ZD (F++[(z.g.term,cmd)]) z.g.base.toNat;rw[hag.bt];exact jb (k:=z.g.base.toNat) (Ha hb).symm (Gl _)
 have htake:∀k,k<=F.length->(F++[(z.g.term,cmd)]).take k=F.take k:=λk hk=>Ha hk;have hlo2:LogI n Δ i Y.g (F++[(z.g.term,cmd)]):=by
  refine⟨hag2,lC hlo.pl hlo.tm hl ⟨i,he⟩,λe hm=>?_,λc k ho ha=>?_,λt x hv=>?_,?_,?_,λhb=>?_,λk hk=>?_⟩
  .rw[hYg];rcases GE.1 hm with hm|hm
   .exact hlo.tm e hm
   simp at hm;subst hm;exact Gk _
  .rcases hlo.nn c k ho ha with h1|h1;.exact .inl ⟨by have:=h1.1;simp;omega,by rw[htake k h1.1];exact h1.2⟩
   exact .inr h1
  .rw[hYg];exact hlo.vv t x hv
  .rw[hYg];exact hlo.tf
  .rw[hYg];show Δ.cmt n ((F++[(z.g.term,cmd)]).take z.g.base.toNat) z.g.term;rw[htake _ hb];exact hlo.cb
  .rw[hYg]at hb|-;show ZC z.g.state=Yh ((F++[(z.g.term,cmd)]).take z.g.base.toNat);rw[htake _ hlo.ag.b];exact hlo.st hb
  rw[hYg]at hk|-;have h1:=hlo.fl k hk;exact⟨by have:=h1.1;simp;omega,by rw[htake k h1.1];exact h1.2⟩
 have hYt:Y.g.term=z.g.term:=by rw[hYg];rfl
 have hst:=mb (n:=n) (i:=i) (Γ:=Δ) (a:=(F++[(z.g.term,cmd)]).length) htf;have hd2:=xf (a:=(F++[(z.g.term,cmd)]).length) hd htf (by rw[hl];exact Gl _) ⟨i,he⟩;obtain⟨E,hE⟩:∃E,E=Δ.akU i z.g.term (F++[(z.g.term,cmd)]).length:=⟨_,rfl⟩;rw[<-hE]at hst hd2;have hElg:∀t,E.lg t=Δ.lg t:=λt=>by rw[hE];rfl
 have hakE:E.ak i z.g.term (F++[(z.g.term,cmd)]).length:=by rw[hE];exact .inr ⟨rfl,rfl,rfl⟩
 have hlo3:LogI n E i Y.g (F++[(z.g.term,cmd)]):=by
  refine⟨hag2,qg hst.le hlo2.pl,hlo2.tm,λc k ho ha=>?_,λt x hv=>hlo2.vv t x (by rw[hE]at hv;exact hv),by rw[show E.tf i=Δ.tf i by rw[hE];rfl];exact hlo2.tf,ZK hst.le hlo2.cb,hlo2.st,λk hk=>?_⟩;rotate_left
  .rw[hYt]at hk|-;have hk2:=hk;rw[hE]at hk2;rcases hk2 with hk2|⟨_,_,rfl⟩
   .exact qV hst.le (hd.akl _ _ _ hk2).1 (by have:=hlo2.fl k (by rw[hYt];exact hk2);rw[hYt]at this;exact this)
   exact⟨Gl _,by rw[hElg,hl]⟩
  have ho2:Δ.own c k:=oL (hElg c).symm.symm ho;let⟨a,ha1,ha2⟩:=ha;rw[hE]at ha2;rcases ha2 with ha2|⟨_,rfl,rfl⟩
  .exact(hlo2.nn c k ho2 ⟨a,ha1,ha2⟩).imp (qV hst.le (qF ho2)) (Zu hst.le)
  left;exact⟨ha1,by rw[hElg,hl]⟩
 have hubY:UB T (I+1) Y:=by
  have h1:=(ub.inn.add (i:=z.g.last) (m:=[(z.g.term,cmd)]) ⟨ub.inn.commit.2,Gk _⟩ (λ_=>HE _) (λe he=>by simp at he;subst he;exact⟨ub.inn.term,hc⟩)).inn;rw[<-hY]at h1;have hlb:=ub.lb.last;exact UB.mk0 h1 (by rw[hYg,e2];omega) (λp hp=>by rw[hY]at hp;have:=ub.pp p hp;omega) (by rw[hYg];exact ub.lb.st)
 have hN:NodeI n E i Y (F++[(z.g.term,cmd)]):=by
  refine⟨hlo3,by rw[hYt,show E.tf i=Δ.tf i by rw[hE];rfl];exact htf,?_,λ_=>⟨?_,?_,?_,λj hj hji=>?_⟩,λh=>?_⟩;.rw[hYt,show Y.commit=z.commit by rw[hY]];rw[htake _ Om];exact ZK hst.le hcm
  .rw[hYt];exact hst.le.el _ _ he
  .rw[hYt,hElg];exact hl
  .rw[hYt];exact hakE
  .have:=hp j hj hji;rw[hYt,show Y.nxt j=z.nxt j by rw[hY];rfl,show Y.mat j=z.mat j by rw[hY];rfl];exact⟨by simp;omega,this.2.imp id (hst.le.ak _ _ _)⟩
  rw[show Y.role=z.role by rw[hY],hr]at h;cases h
 have hYid:Y.id=i:=by rw[hY];exact hid
 have hYn:Y.n=n:=by rw[hY];exact hn
 have hYr:Y.role=2:=by rw[hY];exact hr
 have hYo:Y.out=[]:=by rw[hY];exact ho
 have hNc:=hN.count hubY hYid hYn hYr;have hubc:=hubY.count hYr;have hcr:=YU Y;have ey:z.entryP cmd=Y.count.feedAll:=by unfold ND.entryP;rw[hY]
 have hcid:Y.count.id=i:=by
  have:Y.count.id=Y.id:=by unfold ND.count;split<;>rfl
  rw[this];exact hYid
 have hms:=kM hNc hubc hcid (by rw[hcr.2.2.2.2.1];exact hYn) (by rw[hcr.2.2.1];exact hYr) (by rw[hcr.1];exact hYo);refine⟨Δ,hs,hd,⟨F,hlo⟩,⟨F++[(z.g.term,cmd)],?_⟩,E,F++[(z.g.term,cmd)],hst,hd2,?_,?_⟩;.rw[ey,ZW,ym];exact hlo2
 .rw[ey];refine hNc.cong (ZW _) (by rw[Xe];rfl) (λh=>⟨by rw[Xe]at h;exact h,by rw[Xe];rfl⟩) (λh=>⟨by rw[Xe]at h;exact h,by rw[Xe];rfl⟩)
 rw[ey];exact hms
def wq{m:Msg}(h0:¬m.kind=0)(h2:¬m.kind=2)(h4:¬m.kind=4)(h1:¬(m.kind=1/\m.ok=true))(h3:¬(m.kind=3/\m.ok=true)):MsgI n Γ m:=
 ⟨λh=>Gr h h0,λh k=>Gr ⟨h,k⟩ h1,λh=>Gr h h2,λh=>Gr h h4,λh k=>Gr ⟨h,k⟩ h3⟩
def qC(hG:GHI n Γ)(hy:NodeI n Γ i y F)(ho:y.out=[]):aJ n Γ i y:=⟨Γ,F,Yx n i Γ,hG,hy,λm hm=>by rw[ho]at hm;cases hm⟩
def jN{m:Msg}(hs:Γ.stp n i Δ)(hG:GHI n Δ)(hy:NodeI n Δ i y F)(ho:y.out=[])(hm:MsgI n Δ (y.stamp m)):aJ n Γ i (y.send m):=
 ⟨Δ,F,hs,hG,hy.cong rfl rfl (λh=>⟨h,rfl⟩) (λh=>⟨h,rfl⟩),λm1 hm1=>by rw[yW ho]at hm1;simp at hm1;subst hm1;exact hm⟩
def vP{m:Msg}{k:Int}(hG:GHI n Γ)(hy:NodeI n Γ i y F)(ho:y.out=[]):aJ n Γ i (y.answer m false k):=
 jN (Yx n i Γ) hG hy ho (wq (λh=>Gr (show(3:Int)=0 from h) Dc) (λh=>Gr (show(3:Int)=2 from h) Dc) (λh=>Gr (show(3:Int)=4 from h) Dc) (λh=>Gr (show(3:Int)=1 from h.1) Dc) (λh=>Gr (show false=true from h.2) Dc))
def dN{m:Msg}(hG:GHI n Γ)(hy:NodeI n Γ i y F)(hr:y.role=0)(hid:y.id=i)(ho:y.out=[])(he:∃x,Γ.el y.g.term x)(hp:Γ.pre F y.g.term a):aJ n Γ i (y.answer m true a):=by
 have hlen:a<=(Γ.lg y.g.term).length:=by
  have h1:=GM List.length hp.2;have h2:=hp.1;simp[GX]at h1;omega
 have hs:=mb (n:=n) (i:=i) (Γ:=Γ) (a:=a) hy.tf;have hd:=xf hG hy.tf hlen he
 refine jN hs hd (F:=F) ⟨⟨hy.lo.ag,qg hs.le hy.lo.pl,hy.lo.tm,λc k hk ha=>?_,hy.lo.vv,hy.lo.tf,ZK hs.le hy.lo.cb,hy.lo.st,λk hk=>by
  rcases hk with hk|⟨_,_,rfl⟩;.exact qV hs.le (hG.akl _ _ _ hk).1 (hy.lo.fl k hk)
  exact hp⟩,hy.tf,ZK hs.le hy.cm,λh=>(by rw[hr]at h;cases h),λh=>(by rw[hr]at h;cases h)⟩ ho ?_
 .let⟨b,hb1,hb2⟩:=ha;rcases hb2 with hb2|⟨_,rfl,rfl⟩
  .exact(hy.lo.nn c k hk ⟨b,hb1,hb2⟩).imp (qV hs.le (qF hk)) (Zu hs.le)
  left;refine⟨Hn hb1 hp.1,?_⟩;have h1:=GM (List.take k) hp.2;rw[Hd,Hd,Hj hb1]at h1;exact h1
 refine⟨λh=>Gr (show(3:Int)=0 from h) Dc,λh=>Gr (show(3:Int)=1 from h) Dc,λh=>Gr (show(3:Int)=2 from h) Dc,λh=>Gr (show(3:Int)=4 from h) Dc,λ_ _=>⟨i,a,?_,rfl,.inr (.inr ⟨rfl,rfl,rfl⟩)⟩⟩;show(y.id:Int)=i;rw[hid]
def AA{m:Msg}(hG:GHI n Γ)(hx:NodeI n Γ i x F)(hid:x.id=i)(ho:x.out=[])(hm:MsgI n Γ m)(hk:m.kind=0)(hf:¬m.frm=i):Act2 n Γ i x (x.askedP m):=by
 unfold ND.askedP;by_cases h1:x.grants m=true
 .rw[an h1];unfold ND.grants ND.good at h1;simp[G6,HZ,HR]at h1;let⟨⟨⟨ht,hr⟩,hfree⟩,hgood⟩:=h1;let⟨c,hc1,hc2,hc3,hc4⟩:=hm.ask hk;have hclp:=hG.clp _ _ hc2;have hta:=bO (x:=x) hx.lo.ag;have hla:=hx.lo.ag.last;rw[ht]at hc2 hc3 hc4 hclp;have hone:∀y,Γ.vt i x.g.term y->y=c:=λy hv=>by
   rcases hx.lo.vv _ y hv with h2|⟨_,h2⟩;.omega
   omega
  have hne:i≠c:=λe=>hf (by rw[hc1,e]);have hs:=rU (n:=n) (i:=i) (Γ:=Γ) (t:=x.g.term) (x:=c)
  have hd:=Ds hG (by rw[hx.tf];exact Gk _) hc2 hne hone (λd k hdt hown hak=>by
   rcases hx.lo.nn d k hown hak with h2|h2;.refine wn hG (F:=F) (C:=Γ.cl x.g.term c) hx.lo.pl hclp.1 hclp.2 hown h2 ?_;rw[hta,hc4,hc3,hla]at hgood;omega
   exact .inr h2)
  have hlo:∀Δ:GH,Γ.le n Δ->(∀d a,Δ.ak i d a->Γ.ak i d a)->(∀t y,Δ.vt i t y->Γ.vt i t y\/(t=x.g.term/\y=c))->Δ.tf i=Γ.tf i->LogI n Δ i {x.g with term:=x.g.term,vote:=m.frm} F:=λΔ hle hak hvt htf=>by
   refine⟨⟨hx.lo.ag.b0,hx.lo.ag.b,hx.lo.ag.all,hx.lo.ag.bt⟩,qg hle hx.lo.pl,hx.lo.tm,λd k hown ha=>?_,λt y hv=>?_,by rw[htf];exact hx.lo.tf,ZK hle hx.lo.cb,hx.lo.st,λk hk=>qV hle (hG.akl _ _ _ (hak _ _ hk)).1 (hx.lo.fl k (hak _ _ hk))⟩;.let⟨a,ha1,ha2⟩:=ha;have h3:=hak d a ha2;have h4:=sD hle hown (by have:=(hG.akl i d a h3).1;omega);exact(hx.lo.nn d k h4 ⟨a,ha1,h3⟩).imp (qV hle (qF h4)) (Zu hle)
   rcases hvt t y hv with hv|⟨rfl,rfl⟩
   .rcases hx.lo.vv t y hv with h2|⟨h2,h3⟩;.exact .inl h2
    right;refine⟨h2,?_⟩;show m.frm=(y:Int);rw[h2]at hv;rw[hc1,hone y hv]
   exact .inr ⟨rfl,hc1⟩
  refine⟨Γ,Yx n i Γ,hG,⟨F,hx.lo⟩,⟨F,hlo Γ (pk n Γ) (λ_ _ h=>h) (λ_ _ h=>.inl h) rfl⟩,?_⟩;refine jN hs hd (F:=F) (y:={x with g:={x.g with term:=x.g.term,vote:=m.frm},patience:=0}) ⟨hlo _ hs.le (λ_ _ h=>h) (λt y hv=>hv.imp id (λh=>⟨h.2.1,h.2.2⟩)) rfl,hx.tf,ZK hs.le hx.cm,λh=>?_,λh=>?_⟩ ho ?_;.have:x.role=2:=h;omega
  .have:x.role=1:=h;omega
  refine⟨λh=>Gr (show(1:Int)=0 from h) Dc,λ_ _=>⟨i,c,?_,hc1,.inr ⟨rfl,rfl,rfl⟩⟩,λh=>Gr (show(1:Int)=2 from h) Dc,λh=>Gr (show(1:Int)=4 from h) Dc,λh=>Gr (show(1:Int)=3 from h) Dc⟩;show(x.id:Int)=i;rw[hid]
 rw[ac h1];exact Zr hG hx rfl (jN (Yx n i Γ) hG hx ho (wq (λh=>Gr (show(1:Int)=0 from h) Dc) (λh=>Gr (show(1:Int)=2 from h) Dc) (λh=>Gr (show(1:Int)=4 from h) Dc) (λh=>Gr (show false=true from h.2) Dc) (λh=>Gr (show(1:Int)=3 from h.1) Dc)))
def uV{I:Int}(hG:GHI n Γ)(hx:NodeI n Γ i x F)(ub:UB T I x)(hid:x.id=i)(hn:x.n=n)(hr:x.role=1)(ho:x.out=[])(h0:0<x.g.term)(hmost:2*(x.votes.length:Int)>n):Act2 n Γ i x x.winP:=by
 obtain⟨h1,h2,h3,h4⟩:=hx.cd hr;have hvb:=ub.inn.votes;have hM:Maj n (x.votes.map Int.toNat):=by
  refine⟨?_,λj hj=>?_,by simp;omega⟩;.rw[LI,List.pairwise_map];refine(LI.1 hvb.1).imp_of_mem (λ{a b} ha hb hab e=>?_);have:=hvb.2 a ha;have:=hvb.2 b hb;omega
  obtain⟨v,hv,rfl⟩:=Gu.1 hj;have:=hvb.2 v hv;rw[hn]at this;omega
 have hv:∀j∈x.votes.map Int.toNat,Γ.vt j x.g.term i:=λj hj=>by
  obtain⟨v,hv,rfl⟩:=Gu.1 hj;obtain⟨w,hw,hvt⟩:=h4 v hv;rw[hw];exact hvt
 have hf:=uW hG hM hv h3;have hs:=rS (i:=i) (e:=(x.g.term,([]:Bs))) hG hf;have hd:=Dm (cmd:=[]) hG h0 hM hv h2 hf;have hub:=ub.wins;have hlo:LogI n (Γ.wnU i x.g.term (x.g.term,[])) i x.g F:=gn hG hs.le hx.lo (λ_ _ h=>h) (λ_ _ h=>h) hx.lo.tf
 obtain⟨Δ,a1,a2,a3,a4,a5⟩:=pM (Γ:=Γ) (z:=x.wins) (F:=F) (cmd:=[]) hd hs (.inr ⟨rfl,rfl⟩) (by rw[<-h1];exact kc) hlo hx.tf (ZK hs.le hx.cm) (λj hj hji=>by
  have hnx:x.wins.nxt j=x.g.last+1/\x.wins.mat j=0:=by
   unfold ND.nxt ND.mat;have e:x.wins.peers=List.replicate x.n (x.g.last+1,0):=rfl;rw[e,Gt,Jx,an Om];exact⟨rfl,rfl⟩
  rw[hnx.1,hnx.2,hx.lo.ag.last];exact⟨Om,.inl rfl⟩) hub hid hn rfl ho Si
 exact⟨Δ,a1,a2,a3,a4,a5⟩
def xn{I:Int}{m:Msg}(hG:GHI n Γ)(hx:NodeI n Γ i x F)(ub:UB T I x)(hid:x.id=i)(hn:x.n=n)(ho:x.out=[])(hm:MsgI n Γ m)(hk:m.kind=1)(hto:m.to=i)(hf:0<=m.frm/\m.frm<x.n):Act2 n Γ i x (x.votedP m):=by
 unfold ND.votedP;by_cases h1:¬x.role=1\/¬m.term=x.g.term\/m.ok=false;.rw[an h1];exact Zr hG hx rfl (qC hG hx ho)
 rw[ac h1];have hr:x.role=1:=Om;have ht:m.term=x.g.term:=Om;have hok:m.ok=true:=by
  cases hb:m.ok with
  |true=>rfl
  |false=>exact Gr (.inr (.inr hb)) h1
 let⟨v,w,hv1,hv2,hv3⟩:=hm.vote hk hok;have hwi:w=i:=Om;subst hwi;rw[ht]at hv3;have hx2:NodeI n Γ w {x with votes:=QS x.votes m.frm} F:=by
  refine⟨hx.lo,hx.tf,hx.cm,λh=>?_,λh=>?_⟩;.have:x.role=2:=h;omega
  let⟨a1,a2,a3,a4⟩:=hx.cd hr;refine⟨a1,a2,a3,λu hu=>?_⟩;rcases eE hu with hu|hu
  .exact a4 u hu
  exact⟨v,by rw[hu,hv1],hv3⟩
 have hub2:UB T I {x with votes:=QS x.votes m.frm}:=⟨ub.inn.vote1 hf,ub.lb⟩;split;.rename_i hmo;have hpos:0<x.g.term:=hG.vpos _ _ _ (hx.cd hr).2.1;let⟨Δ,b1,b2,b3,b4,b5⟩:=uV (x:={x with votes:=QS x.votes m.frm}) hG hx2 hub2 hid hn hr ho hpos (by rw[<-hn];exact hmo);exact⟨Δ,b1,b2,b3,b4,b5⟩
 exact Zr hG hx rfl (qC hG hx2 ho)
def sk(h:Γ.pl F)(k:Nat):Γ.pl (F.take k):=by
 refine⟨λj e hj=>?_,h.mono.sublist (List.take_sublist _ _)⟩;have hl:=(Gj.1 hj).1;simp[GX]at hl;rw[HS,an Om]at hj;rw[Hd,Hj Om];exact h.at_ j e hj
def gx{g:LG}:∀{l:List Qy} {i:Int},ND.fits g l i=none->∀(j:Nat) (e:Qy),l[j]?=some e->(g.at (i+j)).map (·.1)=some e.1
 |[],_,_,j,e,h=>by simp at h
 |a::l,i,h,j,e,hj=>by
  by_cases h1:(g.at i).map (·.1)=some a.1
  .rw[zf h1]at h;match j,hj with
   |0,hj=>have:=GU hj;subst this;simpa using h1
   |j+1,hj=>
    have:=gx h j e hj;rw[show i+((j+1:Nat):Int)=i+1+j by omega];exact this
  rw[zq h1]at h;cases h
def cn{g:LG}:∀{l:List Qy} {i j:Int} {l2:List Qy},ND.fits g l i=some (j,l2)->∃c:Nat,j=i+c/\l2=l.drop c/\c<l.length/\(∀(q:Nat) (e:Qy),q<c->l[q]?=some e->(g.at (i+q)).map (·.1)=some e.1)/\∀e,l[c]?=some e->¬(g.at j).map (·.1)=some e.1
 |[],i,j,l2,h=>by cases h
 |a::l,i,j,l2,h=>by
  by_cases h1:(g.at i).map (·.1)=some a.1
  .rw[zf h1]at h;let⟨c,h2,h3,h4,h5,h6⟩:=cn h;refine⟨c+1,by omega,by simpa using h3,by simp;omega,λq e hq he=>?_,λe he=>h6 e (by simpa using he)⟩;match q,he with
   |0,he=>have:=GU he;subst this;simpa using h1
   |q+1,he=>
    have:=h5 q e Om he;rw[show i+((q+1:Nat):Int)=i+1+q by omega];exact this
  rw[zq h1]at h;cases h;exact⟨0,by simp,rfl,by simp,λq e hq=>by omega,λe he=>by have:=GU he;subst this;exact h1⟩
def CC{g':LG}{y:Nat}{p:Nat}(hG:GHI n Γ)(hl:LogI n Γ i g F)(he:Γ.el g.term y)(hp:p<=F.length)(hpa:p<a)(ha:a<=(Γ.lg g.term).length)(hpre:F.take p=(Γ.lg g.term).take p)(hdif:¬F.take (p+1)=(Γ.lg g.term).take (p+1))(hb:g.base.toNat<=p)(hag:AG g' ((Γ.lg g.term).take a))(hgt:g'.term=g.term)(hgv:g'.vote=g.vote)(hgb:g'.base=g.base)(hgs:g'.state=g.state)(htf:Γ.tf i=g.term):LogI n Γ i g' ((Γ.lg g.term).take a):=by
 have htk:∀k,k<=p->((Γ.lg g.term).take a).take k=F.take k:=λk hk=>by
  rw[Hd,Hj Om];have:=GM (List.take k) hpre;rw[Hd,Hd,Hj hk]at this;exact this.symm
 refine⟨hag,sk (hG.lgp _ _ he) a,λe hm=>by rw[hgt];exact ut hG he e (I1 hm),λc k ho ha2=>?_,λt x hv=>by rw[hgt,hgv];exact hl.vv t x hv,by rw[hgt];exact hl.tf,?_,λh=>?_,λk hk=>?_⟩
 .rcases hl.nn c k ho ha2 with h1|h1
  .
   have hlead:(Γ.lg g.term).take k=(Γ.lg c).take k/\k<=(Γ.lg g.term).length\/Γ.dead n c k:=by
    let⟨b,hb1,hb2⟩:=ha2
    have hct:=(hG.akl i c b hb2).2.1
    rcases J2 (show c<=g.term by omega)with h2|h2
    .rcases hG.lc _ y he c k h2 ho with h3|h3
     .let⟨_,⟨r,hr⟩,_⟩:=hG.elc _ y he
      left
      have:=h3.1
      exact⟨by rw[<-hr,Ha h3.1];exact h3.2,by rw[<-hr];simp;omega⟩
     .exact .inr h3
    .subst h2
     exact .inl ⟨rfl,qF ho⟩
   rcases hlead with⟨h2,h3⟩|h2
   .left
    have hkp:k<=p:=by
     rcases HK p k with h4|h4
     .exfalso
      apply hdif
      have h5:=h1.2.trans h2.symm
      have h6:=GM (List.take (p+1)) h5
      rw[Hd,Hd,Hj Om]at h6
      exact h6
     .exact h4
    refine⟨by simp;omega,?_⟩
    rw[htk k hkp];exact h1.2
   .exact .inr h2
  exact .inr h1
 .rw[hgt,hgb,htk _ hb];exact hl.cb
 .rw[hgb]at h;rw[hgs,hgb,htk _ hb];exact hl.st h
 rw[hgt]at hk|-;have h1:=hl.fl k hk;have hkp:k<=p:=by
  rcases HK p k with h4|h4;.exfalso;apply hdif;have h6:=GM (List.take (p+1)) h1.2;rw[Hd,Hd,Hj Om]at h6;exact h6
  exact h4
 exact⟨by simp;omega,by rw[htk k hkp];exact h1.2⟩
def CW{I:Int}{m:Msg}(hG:GHI n Γ)(hx:NodeI n Γ i x F)(ub:UB T I x)(hid:x.id=i)(ho:x.out=[])(hr:x.role=0)(hm:MsgI n Γ m)(hk:m.kind=2)(ht:m.term=x.g.term):Act2 n Γ i x (x.addP m):=by
 let⟨⟨y,hy⟩,k,c,hi1,hi2,hi3,hi4,hi5,hi6,hi7⟩:=hm.app hk;rw[ht]at hy hi2 hi3 hi4 hi6 hi7;have hag:=hx.lo.ag;have hb0:=hag.b0;have hbl:=hag.b;have hla:=hag.last;have hcom:=ub.inn.commit;have hbase:F.take x.g.base.toNat=(Γ.lg x.g.term).take x.g.base.toNat/\x.g.base.toNat<=(Γ.lg x.g.term).length:=by
  have h1:=eR hG hy (Gk _) hx.lo.cb;have h2:=Jw.1 h1;have h3:=h1.length_le;simp only[GX,Hj hbl]at h2 h3;exact⟨h2,h3⟩
 have hlgpl:=hG.lgp _ _ hy;unfold ND.addP;by_cases h1:m.index<x.g.base/\(m.es.length:Int)<x.g.base-m.index;.rw[an h1];refine Zr hG hx rfl ?_;have:=dN (m:=m) (a:=x.g.base.toNat) hG hx hr hid ho ⟨y,hy⟩ ⟨hbl,hbase.1⟩;rw[show((x.g.base.toNat:Nat):Int)=x.g.base by omega]at this;exact this
 rw[ac h1];by_cases h2:¬m.index<x.g.base/\¬x.g.termAt m.index=some m.logTerm;.rw[an h2];exact Zr hG hx rfl (vP hG hx ho)
 rw[ac h2];obtain⟨b,l,hcut,hb1,hb2,hb3,hb4⟩:∃(b:Nat) (l:List Qy),x.cutM m=((b:Int),l)/\x.g.base.toNat<=b/\b<=F.length/\F.take b=(Γ.lg x.g.term).take b/\l<+:(Γ.lg x.g.term).drop b:=by
  unfold ND.cutM;by_cases h3:m.index<x.g.base;.rw[an h3];refine⟨x.g.base.toNat,m.es.drop (x.g.base-m.index).toNat,by rw[show((x.g.base.toNat:Nat):Int)=x.g.base by omega],Gl _,hbl,hbase.1,?_⟩;let⟨r,hr⟩:=hi4;rw[show x.g.base.toNat=k+(x.g.base-m.index).toNat by omega,<-HL,<-hr,H5 Om];exact I9 _ _
  rw[ac h3];have h4:x.g.termAt m.index=some m.logTerm:=by
   by_cases h4:x.g.termAt m.index=some m.logTerm;.exact h4
   exact Gr ⟨h3,h4⟩ h2
  let⟨k',hk1,hk2,hk3,hk4⟩:=hag.termAt_some h4;have:k'=k:=by omega
  subst this;refine⟨k',m.es,by rw[hi1],by omega,hk3,?_,hi4⟩;exact ui hx.lo.pl hlgpl hk3 hi2 (by rw[<-hk4,hi3])
 rw[hcut];have hblg:b<=(Γ.lg x.g.term).length:=by
  have:=GM List.length hb3;simp only[GX]at this;omega
 have hll:b+l.length<=(Γ.lg x.g.term).length:=by
  have:=hb4.length_le;simp only[Hh]at this;omega
 have hlq:∀(q:Nat) (e:Qy),l[q]?=some e->(Γ.lg x.g.term)[b+q]?=some e:=λq e he=>by
  let⟨r,hr⟩:=hb4;have h5:((Γ.lg x.g.term).drop b)[q]?=some e:=by rw[<-hr,GG (Gj.1 he).1];exact he
  rw[HF]at h5;exact h5
 have hmatch:∀q,q<=l.length->(∀(p:Nat) (e:Qy),p<q->l[p]?=some e->(x.g.at ((b:Int)+1+p)).map (·.1)=some e.1)->b+q<=F.length/\F.take (b+q)=(Γ.lg x.g.term).take (b+q):=λq hq hall=>by
  by_cases hq0:q=0;.subst hq0;exact⟨hb2,hb3⟩
  have he:=b7 (l:=l) (i:=q-1) Om;have h5:=hall (q-1) _ Om he;rw[show(b:Int)+1+((q-1:Nat):Int)=((b+q:Nat):Int)by omega,hag.at Om]at h5;cases h6:F[b+q-1]? with
  |none=>rw[h6]at h5;cases h5
  |some f=>
   rw[h6]at h5;have h5:f.1=l[q-1].1:=by simpa using h5
   have h7:=(Gj.1 h6).1;refine⟨by omega,ui hx.lo.pl hlgpl Om Om ?_⟩;let⟨f',hf',e1⟩:=ab (F:=F) (k:=b+q) Om Om;let⟨f'',hf'',e2⟩:=ab (F:=Γ.lg x.g.term) (k:=b+q) Om Om;rw[h6]at hf';have:=GU hf';have h8:=hlq (q-1) _ he;rw[show b+(q-1)=b+q-1 by omega,hf'']at h8;have h9:=GU h8;rw[e1,e2,<-this,h5,h9]
 unfold ND.restP;dsimp only;cases hfi:ND.fits x.g l ((b:Int)+1)with
 |none=>
  let⟨q1,q2⟩:=hmatch l.length (Gl _) (λp e _ he=>gx hfi p e he);dsimp only;have hcmx:NodeI n Γ i (x.commits m ((b:Int)+l.length)) F:=by
   refine⟨hx.lo,hx.tf,?_,λh=>?_,λh=>?_⟩
   .show Γ.cmt n (F.take (max x.commit (min m.commit ((b:Int)+l.length))).toNat) x.g.term;rcases K0 (min m.commit ((b:Int)+l.length)) x.commit with h5|h5
    .rw[Ku h5];exact hx.cm
    rw[Lt h5];refine zr hi7 ?_ (Gk _);have h6:(min m.commit ((b:Int)+l.length)).toNat<=b+l.length:=by omega
    have h7:=GM (List.take (min m.commit ((b:Int)+l.length)).toNat) q2;rw[Hd,Hd,Hj h6]at h7;rw[h7];exact IU Om
   .have:x.role=2:=h;omega
   have:x.role=1:=h;omega
  refine Zr hG hx rfl ?_;have:=dN (m:=m) (a:=b+l.length) hG hcmx hr hid ho ⟨y,hy⟩ ⟨q1,q2⟩;rw[show((b+l.length:Nat):Int)=(b:Int)+l.length by omega]at this;exact this
 |some p=>
  let⟨j,l2⟩:=p;let⟨d,hd1,hd2,hd3,hd4,hd5⟩:=cn hfi;dsimp only;by_cases h5:j<=x.commit;.rw[an h5];exact Zr hG hx rfl (qC hG hx ho)
  rw[ac h5];let⟨q1,q2⟩:=hmatch d Om hd4;have hjd:j-1=((b+d:Nat):Int):=by omega
  have hF':F.take (b+d)++l2=(Γ.lg x.g.term).take (b+l.length):=by
   let⟨r,hr⟩:=hb4;have h6:l2=((Γ.lg x.g.term).drop (b+d)).take (l.length-d):=by
    rw[hd2,<-HL,<-hr,H5 Om,Ha Si];rw[Gx Si]
   rw[q2,h6,<-List.take_add];congr 1;omega
  have hdif:¬F.take (b+d+1)=(Γ.lg x.g.term).take (b+d+1):=λe=>by
   have he:=b7 (l:=l) (i:=d) hd3;have h7:=hd5 _ he;apply h7;have h8:=hlq d _ he;have h9:=GM (λl=>l[b+d]?) e;simp only[HS]at h9;rw[an Om,an Om,h8]at h9;rw[show j=((b+d+1:Nat):Int)by omega,hag.at Om,show b+d+1-1=b+d by omega,h9];rfl
  have hag2:AG (x.g.play (.add (j-1) l2)) ((Γ.lg x.g.term).take (b+l.length)):=by
   rw[<-hF'];refine⟨hb0,by show x.g.base.toNat<=_;simp;omega,?_,?_⟩;.show x.g.all.take (j-1-x.g.base).toNat++l2=(F.take (b+d)++l2).drop x.g.base.toNat;rw[H5 (by simp;omega),hag.all,List.drop_take,show(j-1-x.g.base).toNat=b+d-x.g.base.toNat by omega]
   show x.g.baseT=ZD (F.take (b+d)++l2) x.g.base.toNat;rw[hag.bt];refine jb (k:=x.g.base.toNat) ?_ (Gl _);rw[Ha (by simp;omega),Hd,Hj Om]
  have hlo2:=CC hG hx.lo hy q1 (show b+d<b+l.length by omega) hll q2 hdif Om hag2 rfl rfl rfl rfl hx.tf;have hNx:NodeI n Γ i (ND.commits {x with g:=x.g.play (.add (j-1) l2)} m ((b:Int)+l.length)) ((Γ.lg x.g.term).take (b+l.length)):=by
   refine⟨hlo2,hx.tf,?_,λh=>?_,λh=>?_⟩
   .show Γ.cmt n (((Γ.lg x.g.term).take (b+l.length)).take (max x.commit (min m.commit ((b:Int)+l.length))).toNat) x.g.term;rcases K0 (min m.commit ((b:Int)+l.length)) x.commit with h6|h6
    .rw[Ku h6,<-hF',Ha (by simp;omega),Hd,Hj Om];exact hx.cm
    rw[Lt h6];refine zr hi7 ?_ (Gk _);rw[Hd,Hj Om];exact IU Om
   .have:x.role=2:=h;omega
   have:x.role=1:=h;omega
  refine⟨Γ,Yx n i Γ,hG,⟨F,hx.lo⟩,⟨_,hlo2⟩,?_⟩;have hpre:Γ.pre ((Γ.lg x.g.term).take (b+l.length)) x.g.term (b+l.length):=⟨by simp;omega,by rw[Hd,Nat.min_self]⟩;have:=dN (m:=m) (a:=b+l.length) hG hNx hr hid ho ⟨y,hy⟩ hpre;rw[show((b+l.length:Nat):Int)=(b:Int)+l.length by omega]at this;exact this
def Aj{I:Int}{m:Msg}(hG:GHI n Γ)(hx:NodeI n Γ i x F)(ub:UB T I x)(hid:x.id=i)(ho:x.out=[])(hr:x.role=0)(hm:MsgI n Γ m)(hk:m.kind=4)(ht:m.term=x.g.term):Act2 n Γ i x (x.snapP m):=by
 let⟨⟨y,hy⟩,k,hi1,hi2,hi3,hi4,hi5⟩:=hm.snap hk;rw[ht]at hy hi2 hi3 hi4 hi5;have hag:=hx.lo.ag;have hb0:=hag.b0;have hbl:=hag.b;have hla:=hag.last;have hcom:=ub.inn.commit;have hlgpl:=hG.lgp _ _ hy;unfold ND.snapP;by_cases h1:m.index>x.commit
 .rw[an h1];have hnr:∀z:ND,z.role=x.role->(z.role=2->False)/\(z.role=1->False):=λz hz=>⟨λh=>by omega,λh=>by omega⟩;obtain⟨F',hlo2,hF'⟩:∃F',LogI n Γ i (x.g.inst m.index m.logTerm m.state) F'/\F'.take k=(Γ.lg x.g.term).take k/\k<=F'.length:=by
   unfold LG.inst;by_cases h2:x.g.termAt m.index=some m.logTerm
   .rw[an h2];let⟨k',hk1,hk2,hk3,hk4⟩:=hag.termAt_some h2;have:k'=k:=by omega
    subst this;have hFk:F.take k'=(Γ.lg x.g.term).take k':=ui hx.lo.pl hlgpl hk3 hi2 (by rw[<-hk4,hi3]);refine⟨F,⟨⟨by show 0<=m.index;omega,by show m.index.toNat<=_;omega,?_,?_⟩,hx.lo.pl,hx.lo.tm,hx.lo.nn,hx.lo.vv,hx.lo.tf,?_,λ_=>?_,hx.lo.fl⟩,hFk,hk3⟩;.show x.g.all.drop (m.index-x.g.base).toNat=F.drop m.index.toNat;rw[hag.all,HL];congr 1;omega
    .show(x.g.termAt m.index).getD 0=ZD F m.index.toNat;rw[h2,show m.index.toNat=k' by omega,<-hk4];rfl
    .show Γ.cmt n (F.take m.index.toNat) x.g.term;rw[show m.index.toNat=k' by omega,hFk];exact hi4
    show ZC m.state=Yh (F.take m.index.toNat);rw[show m.index.toNat=k' by omega,hFk];exact hi5
   rw[ac h2];have hlen:((Γ.lg x.g.term).take k).length=k:=by simp;omega
   have htt:((Γ.lg x.g.term).take k).take k=(Γ.lg x.g.term).take k:=by rw[Hd,Nat.min_self]
   refine⟨(Γ.lg x.g.term).take k,⟨⟨by show 0<=m.index;omega,by show m.index.toNat<=_;omega,?_,?_⟩,sk hlgpl k,λe hm=>ut hG hy e (I1 hm),λc q ho2 ha=>?_,hx.lo.vv,hx.lo.tf,?_,λ_=>?_,λq hq=>?_⟩,htt,by omega⟩;.show([]:List Qy)=((Γ.lg x.g.term).take k).drop m.index.toNat;rw[Ix Om]
   .show m.logTerm=ZD ((Γ.lg x.g.term).take k) m.index.toNat;rw[show m.index.toNat=k by omega,hi3];exact(jb (k:=k) htt (Gl _)).symm
   .rcases hx.lo.nn c q ho2 ha with h3|h3
    .have hlead:(Γ.lg x.g.term).take q=(Γ.lg c).take q/\q<=(Γ.lg x.g.term).length\/Γ.dead n c q:=by
      let⟨b,hb1,hb2⟩:=ha;have hct:=(hG.akl i c b hb2).2.1;have htf:=hx.tf;rcases J2 (show c<=x.g.term by omega)with h4|h4
      .rcases hG.lc _ y hy c q h4 ho2 with h5|h5;.let⟨_,⟨r,hr⟩,_⟩:=hG.elc _ y hy;left;have:=h5.1;exact⟨by rw[<-hr,Ha h5.1];exact h5.2,by rw[<-hr];simp;omega⟩
       exact .inr h5
      subst h4;exact .inl ⟨rfl,qF ho2⟩
     rcases hlead with⟨h4,h5⟩|h4
     .left;have hqk:q<=k:=by
       rcases HK k q with h6|h6;.exfalso;apply h2;have h7:=h3.2.trans h4.symm;have h8:=GM (List.take k) h7;rw[Hd,Hd,Hj Om]at h8;have h9:=h3.1;have h10:x.g.termAt (k:Int)=some (ZD F k):=hag.termAt Om;rw[hi1,h10,hi3];exact GM some (jb (k:=k) h8 (Gl _))
       exact h6
      refine⟨by omega,?_⟩;rw[Hd,Hj hqk];exact h4
     exact .inr h4
    exact .inr h3
   .show Γ.cmt n (((Γ.lg x.g.term).take k).take m.index.toNat) x.g.term;rw[show m.index.toNat=k by omega,htt];exact hi4
   .show ZC m.state=Yh (((Γ.lg x.g.term).take k).take m.index.toNat);rw[show m.index.toNat=k by omega,htt];exact hi5
   have h3:=hx.lo.fl q hq;have hqk:q<=k:=by
    rcases HK k q with h6|h6;.exfalso;apply h2;have h8:=GM (List.take k) h3.2;rw[Hd,Hd,Hj Om]at h8;have h9:=h3.1;have h10:x.g.termAt (k:Int)=some (ZD F k):=hag.termAt Om;rw[hi1,h10,hi3];exact GM some (jb (k:=k) h8 (Gl _))
    exact h6
   exact⟨by omega,by rw[Hd,Hj hqk];rfl⟩
  have hterm:(x.g.inst m.index m.logTerm m.state).term=x.g.term:=by unfold LG.inst;split<;>rfl
  have hNx:NodeI n Γ i {x with g:=x.g.inst m.index m.logTerm m.state,commit:=m.index} F':=by
   refine⟨hlo2,by show Γ.tf i=(x.g.inst _ _ _).term;rw[hterm];exact hx.tf,?_,λh=>?_,λh=>?_⟩;.show Γ.cmt n (F'.take m.index.toNat) (x.g.inst _ _ _).term;rw[hterm,show m.index.toNat=k by omega,hF'.1];exact hi4
   .have:x.role=2:=h;omega
   have:x.role=1:=h;omega
  refine⟨Γ,Yx n i Γ,hG,⟨F,hx.lo⟩,⟨F',hlo2⟩,?_⟩;have:=dN (m:=m) (a:=k) hG hNx hr hid ho ⟨y,by show Γ.el (x.g.inst _ _ _).term y;rw[hterm];exact hy⟩ ⟨hF'.2,by show _=(Γ.lg (x.g.inst _ _ _).term).take k;rw[hterm];exact hF'.1⟩;rw[<-hi1]at this;exact this
 rw[ac h1];refine Zr hG hx rfl ?_;have h2:=eR hG hy (Gk _) hx.cm;have h3:=Jw.1 h2;simp[GX,Hj (show x.commit.toNat<=F.length by omega)]at h3;have:=dN (m:=m) (a:=x.commit.toNat) hG hx hr hid ho ⟨y,hy⟩ ⟨by omega,h3⟩;rw[show((x.commit.toNat:Nat):Int)=x.commit by omega]at this;exact this
def Eu{I:Int}{m:Msg}(hG:GHI n Γ)(hx:NodeI n Γ i x F)(ub:UB T I x)(hid:x.id=i)(ho:x.out=[])(hm:MsgI n Γ m)(hk:m.kind=2\/m.kind=4)(ht:m.term<=x.g.term):Act2 n Γ i x (x.fedP m):=by
 unfold ND.fedP;by_cases h1:m.term<x.g.term;.rw[an h1];exact Zr hG hx rfl (vP hG hx ho)
 rw[ac h1];by_cases h2:x.role=2;.rw[an h2];exact Zr hG hx rfl (qC hG hx ho)
 rw[ac h2];have hf:NodeI n Γ i (x.follows m) F:=hx.follow rfl rfl rfl;split;.rename_i h3;exact CW (x:=x.follows m) hG hf ub.follows hid ho rfl hm h3 (show m.term=x.g.term by omega)
 rename_i h3;exact Aj (x:=x.follows m) hG hf ub.follows hid ho rfl hm Om (show m.term=x.g.term by omega)
def z'{I:Int}{m:Msg}(hG:GHI n Γ)(hx:NodeI n Γ i x F)(ub:UB T I x)(hid:x.id=i)(hn:x.n=n)(ho:x.out=[])(hm:MsgI n Γ m)(hb:MB T I m)(hk:m.kind=3)(hf:0<=m.frm/\m.frm<x.n)(hne:¬m.frm=i):Act2 n Γ i x (x.heardP m):=by
 unfold ND.heardP Ya;dsimp only;by_cases h1:¬x.role=2\/¬m.term=x.g.term;.rw[an h1];exact Zr hG hx rfl (qC hG hx ho)
 rw[ac h1];have hr:x.role=2:=Om;have ht:m.term=x.g.term:=Om;let⟨a1,a2,a3,a4⟩:=hx.ld hr;have hla:=hx.lo.ag.last;have hpl:=ub.inn.peers hr;have hjn:m.frm.toNat<n/\m.frm.toNat≠i:=Om;have hpb:=ub.inn.peerb hr m.frm.toNat;have hset:∀(p:Int×Int) (q:Nat),q<n->(x.setPeer m.frm.toNat p).nxt q=(if q=m.frm.toNat then p.1 else x.nxt q)/\(x.setPeer m.frm.toNat p).mat q=(if q=m.frm.toNat then p.2 else x.mat q):=λp q hq=>by
  unfold ND.setPeer ND.nxt ND.mat;dsimp only;by_cases hqj:q=m.frm.toNat;.rw[an hqj,an hqj,hqj];rw[Gt,Hz Om];exact⟨rfl,rfl⟩
  rw[ac hqj,ac hqj,Gt,HC (λe=>hqj e.symm),<-Gt];exact⟨rfl,rfl⟩
 have hNs:∀p:Int×Int,p.1<=F.length+1->(p.2=0\/Γ.ak m.frm.toNat x.g.term p.2.toNat)->NodeI n Γ i (x.setPeer m.frm.toNat p) F:=λp hp1 hp2=>by
  refine⟨hx.lo,hx.tf,hx.cm,λ_=>⟨a1,a2,a3,λq hq hqi=>?_⟩,λh=>?_⟩
  .let⟨s1,s2⟩:=hset p q hq;rw[s1,s2];split;.rename_i hqj;rw[hqj];exact⟨hp1,hp2⟩
   exact a4 q hq hqi
  have:x.role=1:=h;omega
 by_cases h2:m.ok=false;.rw[an h2];have hN:=hNs (max (min (x.nxt m.frm.toNat-1) (m.index+1)) (x.mat m.frm.toNat+1),x.mat m.frm.toNat) (by have:=(a4 _ hjn.1 hjn.2).1;dsimp only;omega) (a4 _ hjn.1 hjn.2).2;have hu:=ub.setPeer m.frm.toNat (p:=(max (min (x.nxt m.frm.toNat-1) (m.index+1)) (x.mat m.frm.toNat+1),x.mat m.frm.toNat)) (by have hix:=hb.index;have hi0:=ub.inn.commit;have hl0:=ub.lb.last;have hb0:=ub.lb.base;dsimp only;omega);exact Zr hG hx rfl (jN (Yx n i Γ) hG hN ho (lT hN hu hn hr hjn.1 hjn.2))
 rw[ac h2];have hok:m.ok=true:=by
  cases hb:m.ok with
  |true=>rfl
  |false=>exact Gr hb h2
 let⟨v,q,hv1,hv2,hv3⟩:=hm.ack hk hok;rw[ht]at hv3;have hvj:v=m.frm.toNat:=Om;have hq:(q:Int)<=x.g.last:=by
  rcases hv3 with h3|h3;.have:=ub.lb.base;have:=ub.inn.commit;omega
  have:=(hG.akl _ _ _ h3).1;rw[a2]at this;omega
 have hN:=hNs (max (x.mat m.frm.toNat) (min m.index x.g.last)+1,max (x.mat m.frm.toNat) (min m.index x.g.last)) Do (by
  dsimp only;rw[Int.min_eq_left Om];rcases K0 m.index (x.mat m.frm.toNat)with h3|h3
  .rw[Ku h3];exact(a4 _ hjn.1 hjn.2).2
  rw[Lt h3,hv2];rcases hv3 with h4|h4
  .left;rw[h4];rfl
  right;rw[<-hvj];exact h4)
 have hu:=ub.setPeer m.frm.toNat (p:=(max (x.mat m.frm.toNat) (min m.index x.g.last)+1,max (x.mat m.frm.toNat) (min m.index x.g.last))) (by have hix:=hb.index;have hi0:=ub.inn.commit;have hl0:=ub.lb.last;have hb0:=ub.lb.base;dsimp only;omega);have hNc:=hN.count hu hid hn hr;have huc:=hu.count hr;have hcr:=YU (x.setPeer m.frm.toNat (max (x.mat m.frm.toNat) (min m.index x.g.last)+1,max (x.mat m.frm.toNat) (min m.index x.g.last)));split;.exact Zr hG hx (by show(ND.count _).g=_;rw[ym];rfl) (jN (Yx n i Γ) hG hNc (by rw[hcr.1];exact ho) (lT hNc huc (by rw[hcr.2.2.2.2.1];exact hn) (by rw[hcr.2.2.1];exact hr) hjn.1 hjn.2))
 exact Zr hG hx (by rw[ym];rfl) (qC hG hNc (by rw[hcr.1];exact ho))
def sG{I:Int}{m:Msg}(hG:GHI n Γ)(hx:NodeI n Γ i x F)(ub:UB T I x)(hid:x.id=i)(hn:x.n=n)(ho:x.out=[])(hm:MsgI n Γ m)(hb:MB T I m)(hto:m.to=i)(hf:0<=m.frm/\m.frm<x.n)(hne:¬m.frm=i)(ht:m.term<=x.g.term):Act2 n Γ i x (x.kindP m):=by
 unfold ND.kindP;split;.rename_i hk;exact AA hG hx hid ho hm hk hne
 split;.rename_i hk;exact xn hG hx ub hid hn ho hm hk hto hf
 split;.rename_i hk;exact Eu hG hx ub hid ho hm hk ht
 split;.rename_i hk;exact z' hG hx ub hid hn ho hm hb hk hf hne
 exact Zr hG hx rfl (qC hG hx ho)
def NodeI.term{n i:Nat}{Γ:GH}{x:ND}{F:List Qy}(hG:GHI n Γ)(hx:NodeI n Γ i x F){t:Int}(ht:x.g.term<t):LogI n Γ i {x.g with term:=t,vote:= -1} F/\Γ.stp n i (Γ.tfU i t)/\GHI n (Γ.tfU i t)/\NodeI n (Γ.tfU i t) i (ND.newTerm {x with g:={x.g with term:=t,vote:= -1}}) F:=by
 have htf:=hx.tf;have hlo:LogI n Γ i {x.g with term:=t,vote:= -1} F:=⟨⟨hx.lo.ag.b0,hx.lo.ag.b,hx.lo.ag.all,hx.lo.ag.bt⟩,hx.lo.pl,λe he=>by have:=hx.lo.tm e he;show e.1<=t;omega,hx.lo.nn,λu y hv=>by left;rcases hx.lo.vv u y hv with h|h<;>(show u<t;omega),by show Γ.tf i<=t;omega,zr hx.lo.cb (If _) (by show x.g.term<=t;omega),hx.lo.st,λk hk=>Gr (hG.akl _ _ _ hk).2.1 (by rw[hx.tf];show¬t<=x.g.term;omega)⟩;have hs:=lj (n:=n) (i:=i) (Γ:=Γ) (t:=t) Om;have hd:=vg hG (show Γ.tf i<=t by omega);exact⟨hlo,hs,hd,gn hG hs.le hlo (λ_ _ h=>h) (λ_ _ h=>h) (by rw[kf];exact Gk _),kf,zr (ZK hs.le hx.cm) (If _) (by show x.g.term<=t;omega),λh=>Gr (show(0:Int)=2 from h) Dc,λh=>Gr (show(0:Int)=1 from h) Dc⟩
def Fx.bind2{m:Nat}{Q:LG->Prop}{r:Bool×NS}{z:ND}(h:Fx n P r y)(hm:n<=m)(hf:∀D,SD n y.g D->Fx m Q (f (y,D)) z):Fx m P (Xo r f) z\/Fx m Q (Xo r f) z:=by
 unfold Xo;rcases h with⟨h1,h2,h3⟩|⟨h1,h2,h3⟩
 .rw[an h1,show r.2=(y,r.2.2)from by rw[<-h2]];exact .inr (hf _ h3)
 rw[ac (by simp[h1])];exact .inl (.inr ⟨h1,h2,h3.imp hm (λ_ h=>h)⟩)
def xh(n:Nat)(Γ:GH)(i:Nat)(P:LG->Prop):Prop:=∃Δ,Γ.stp n i Δ/\GHI n Δ/\∀g,P g->∃F,LogI n Δ i g F
def nc(h:Γ.stp n i Δ)(b:xh n Δ i P):xh n Γ i P:=by
 let⟨E,h1,h2⟩:=b;exact⟨E,mn h h1,h2⟩
def Act2.bad(h:Act2 n Γ i x y):xh n Γ i (λg=>g=x.g\/g=y.g):=by
 let⟨Δ,h1,h2,⟨F,h3⟩,⟨F',h4⟩,_⟩:=h
 exact⟨Δ,h1,h2,λg hg=>by
  rcases hg with rfl|rfl;.exact⟨F,h3⟩
  exact⟨F',h4⟩⟩
def Act2.res(h:Act2 n Γ i x y):aJ n Γ i y:=by
 let⟨Δ,h1,_,_,_,h5⟩:=h;exact fY h1 h5
def ib(n:Nat)(Γ:GH)(i:Nat)(N:Nat)(r:Bool×NS)(y:ND):Prop:=∃P,Fx N P r y/\xh n Γ i P
def vR{I:Int}{m:Msg}(hG:GHI n Γ)(hx:NodeI n Γ i x F)(ub:UB T I x)(hid:x.id=i)(hn:x.n=n)(ho:x.out=[])(hsd:SD N x.g D)(hm:MsgI n Γ m)(hb:MB T I m)(hT:T<=1000000000)(hI:I<=9500)(hN:17000000<=N):ib n Γ i (N+6000) (Xz (x,D) m) (x.receiveP m)/\aJ n Γ i (x.receiveP m):=by
 have ht:=ub.inn.term;have hid2:=ub.inn.idn;have hnn:=ub.inn.nin0 ⟨Om,Om,Om⟩ ho;have him:=(hb.im Om Om).1;have hmt:=hb.term;unfold Xz ND.receiveP;dsimp only;by_cases h1:¬m.to=x.id\/m.frm=x.id\/m.frm<0\/m.frm>=x.n;.rw[an h1,an h1];exact⟨⟨λg=>g=x.g,Fx.ret hsd rfl Om,Γ,Yx n i Γ,hG,λg hg=>⟨F,by rw[hg];exact hx.lo⟩⟩,qC hG hx ho⟩
 rw[ac h1,ac h1];have hf:0<=m.frm/\m.frm<x.n:=Om;by_cases h2:m.term>x.g.term
 .rw[an h2,an h2];let⟨hlo,hs,hd,hN2⟩:=hx.term hG h2;have h3:=ub.inn.set (t:=m.term) (v:= -1) hmt Om (.inl Om);have hub2:UB T I (ND.newTerm {x with g:={x.g with term:=m.term,vote:= -1}}):=⟨h3.inn.newTerm,ub.lb.set hmt Om⟩;have hk:=sG (x:=ND.newTerm {x with g:={x.g with term:=m.term,vote:= -1}}) hd hN2 hub2 hid hn ho (oV hs.le hm) hb Om hf Om (Gk _);refine⟨?_,fY hs hk.res⟩;have hst:=jC (P:=λg=>g=x.g\/g={x.g with term:=m.term,vote:= -1}) Om hsd hnn (t:=m.term) (v:= -1) Om Om (.inl rfl) (.inr rfl);rcases Fx.bind2 (m:=N+6000) (f:=λs=>YB (s.1.newTerm,s.2) m) (z:=ND.kindP (ND.newTerm {x with g:={x.g with term:=m.term,vote:= -1}}) m) (Q:=λg=>g={x.g with term:=m.term,vote:= -1}\/g=(ND.kindP (ND.newTerm {x with g:={x.g with term:=m.term,vote:= -1}}) m).g) hst Om (λD' h=>kC (P:=λg=>g={x.g with term:=m.term,vote:= -1}\/g=(ND.kindP (ND.newTerm {x with g:={x.g with term:=m.term,vote:= -1}}) m).g) (k:=0+1) (n:=N+3000) (x:=ND.newTerm {x with g:={x.g with term:=m.term,vote:= -1}}) Om Om h ((hnn.set (t:=m.term) (vt:= -1) Om Om).newTerm) (him.to hf Om) ub.inn.commit.1 (.inl rfl) (.inr rfl))with h4|h4
  .exact⟨_,h4,Γ,Yx n i Γ,hG,λg hg=>by
    rcases hg with rfl|rfl;.exact⟨F,hx.lo⟩
    exact⟨F,hlo⟩⟩
  exact⟨_,h4,nc hs hk.bad⟩
 rw[ac h2,ac h2];have hk:=sG (m:=m) hG hx ub hid hn ho hm hb Om hf Om Om;exact⟨⟨_,(kC (P:=λg=>g=x.g\/g=(x.kindP m).g) (k:=0) hN Om hsd hnn (him.to hf (Gl _)) ub.inn.commit.1 (.inl rfl) (.inr rfl)).mono Om,hk.bad⟩,hk.res⟩
def BT{I:Int}(hG:GHI n Γ)(hx:NodeI n Γ i x F)(ub:UB T I {x with patience:=0})(hnn:NIn 0 x)(hid:x.id=i)(hn:x.n=n)(ho:x.out=[])(hsd:SD N x.g D)(hT:T<=1000000000)(hI:I<=9500):ib n Γ i (N+6000) (YF (x,D)) x.standP/\aJ n Γ i x.standP:=by
 have ht:0<=x.g.term/\x.g.term<=T:=ub.inn.term;have hid2:x.id<x.n/\x.n<=9:=ub.inn.idn;have htf:=hx.tf;have hla:=hx.lo.ag.last;have hs:=sc (n:=n) (i:=i) (Γ:=Γ) (t:=x.g.term+1) (F:=F) hG Om;have hd:=DP (F:=F) hG (show 0<x.g.term+1 by omega) (show Γ.tf i<x.g.term+1 by omega) hx.lo.pl (λe he=>by have:=hx.lo.tm e he;omega) hx.lo.nn;obtain⟨Δ,hΔ⟩:∃Δ,Δ=Γ.sdU i (x.g.term+1) F:=⟨_,rfl⟩;rw[<-hΔ]at hs hd;obtain⟨S,hS⟩:∃S:ND,S=ND.stands {x with g:={x.g with term:=x.g.term+1,vote:=x.id}}:=⟨_,rfl⟩;have hSg:S.g={x.g with term:=x.g.term+1,vote:=(x.id:Int)}:=by rw[hS];rfl
 have hag:AG S.g F:=by rw[hSg];exact⟨hx.lo.ag.b0,hx.lo.ag.b,hx.lo.ag.all,hx.lo.ag.bt⟩
 have hlo0:LogI n Γ i S.g F:=by
  refine⟨hag,hx.lo.pl,λe he=>?_,hx.lo.nn,λu y hv=>?_,?_,?_,?_,λk hk=>Gr (hG.akl _ _ _ hk).2.1 (by rw[hx.tf,hSg];show¬x.g.term+1<=x.g.term;omega)⟩;.rw[hSg];have:=hx.lo.tm e he;show e.1<=x.g.term+1;omega
  .left;rw[hSg];rcases hx.lo.vv u y hv with h|h<;>(show u<x.g.term+1;omega)
  .rw[hSg];show Γ.tf i<=x.g.term+1;omega
  .rw[hSg];exact zr hx.lo.cb (If _) (by show x.g.term<=x.g.term+1;omega)
  rw[hSg];exact hx.lo.st
 have hclt:Δ.cl (x.g.term+1) i=F:=by rw[hΔ];exact oh
 have hvt:Δ.vt i (x.g.term+1) i:=by rw[hΔ];exact .inr ⟨rfl,rfl,rfl⟩
 have hlo1:LogI n Δ i S.g F:=by
  refine⟨hag,qg hs.le hx.lo.pl,hlo0.tm,λc k hown ha=>?_,λu y hv=>?_,?_,ZK hs.le hlo0.cb,hlo0.st,λk hk=>Gr (hG.akl i _ _ (show Γ.ak i S.g.term k by rw[hΔ]at hk;exact hk)).2.1 (by rw[hx.tf,hSg];show¬x.g.term+1<=x.g.term;omega)⟩
  .have hak:∃a,k<=a/\Γ.ak i c a:=by rw[hΔ]at ha;exact ha
   have ho2:Γ.own c k:=by rw[hΔ]at hown;exact hown
   exact(hx.lo.nn c k ho2 hak).imp (qV hs.le (qF ho2)) (Zu hs.le)
  .rw[hΔ]at hv;rcases hv with hv|⟨_,rfl,rfl⟩
   .exact hlo0.vv u y hv
   right;rw[hSg];exact⟨rfl,by show(x.id:Int)=_;rw[hid]⟩
  rw[hΔ,og,hSg];exact Gk _
 have hSt:S.g.term=x.g.term+1:=by rw[hSg]
 have hnoel:¬Γ.el (x.g.term+1) i:=λhe=>by
  have:=hG.vtf _ _ _ (hG.elc _ _ he).1;omega
 have hNS:NodeI n Δ i S F:=by
  refine⟨hlo1,by rw[hΔ,og,hSt],?_,λh=>?_,λ_=>⟨by rw[hSt];exact hclt,by rw[hSt];exact hvt,?_,λv hv=>?_⟩⟩;.rw[hSt,show S.commit=x.commit by rw[hS];rfl];exact zr (ZK hs.le hx.cm) (If _) Om
  .have:S.role=1:=by rw[hS];rfl
   omega
  .rw[hSt];intro he;apply hnoel;rw[hΔ]at he;exact he
  have:S.votes=[(x.id:Int)]:=by rw[hS];rfl
  rw[this]at hv;simp at hv;exact⟨i,by rw[hv,hid],by rw[hSt];exact hvt⟩
 have h1:=((ub.inn.mono (show T<=T+1 by omega) (Gk _) (Gl _)).set (t:=x.g.term+1) (v:=x.id) Om Om (.inl (show x.g.term<x.g.term+1 by omega))).inn.stands;have hubS:UB (T+1) I S:=by rw[hS];exact⟨h1,(ub.lb.mono Om (Gk _)).set Om Om⟩
 have hst:=jC (P:=λg=>g=x.g\/g=S.g) Om hsd hnn (t:=x.g.term+1) (v:=x.id) Om Om (.inl rfl) (.inr hSg.symm)
 have hbad0:xh n Γ i (λg=>g=x.g\/g=S.g):=⟨Γ,Yx n i Γ,hG,λg hg=>by
  rcases hg with rfl|rfl;.exact⟨F,hx.lo⟩
  exact⟨F,hlo0⟩⟩
 unfold YF ND.standP;by_cases hn1:x.n=1
 .rw[an hn1,<-hS];have hw:=uV (x:=S) hd hNS hubS (by rw[hS];exact hid) (by rw[hS];exact hn) (by rw[hS];rfl) (by rw[hS];exact ho) (by rw[hSt];omega) (by rw[show S.votes=[(x.id:Int)]by rw[hS];rfl];simp;omega);refine⟨?_,fY hs hw.res⟩
  rcases Fx.bind2 (m:=N+6000) (Q:=λg=>g=S.g\/g=S.winP.g) (z:=S.winP) (f:=λs=>if s.1.n=1 then qM (s.1.stands,s.2)else(true,(s.1.stands.askAll,s.2))) hst Om (λD' h=>by
   dsimp only;rw[an hn1,<-hS];have h2:=(hnn.set (t:=x.g.term+1) (vt:=x.id) Om Om).stands;rw[<-hS]at h2;have h':SD (N+3000) S.g D':=by rw[hSg];exact h
   exact tD (k:=0+1) Om h' h2 (.inl rfl) (.inr rfl))with h4|h4
  .exact⟨_,h4,hbad0⟩
  exact⟨_,h4,nc hs hw.bad⟩
 rw[ac hn1,<-hS];have hout:S.out=[]:=by rw[hS];exact ho
 refine⟨?_,?_⟩
 .rcases Fx.bind2 (m:=N+6000) (Q:=λg=>g=S.g) (z:=S.askAll) (f:=λs=>if s.1.n=1 then qM (s.1.stands,s.2)else(true,(s.1.stands.askAll,s.2))) hst Om (λD' h=>by
   dsimp only;rw[ac hn1,<-hS];exact Fx.ret h (by rw[fp,hSg]) Om)with h4|h4
  .exact⟨_,h4,hbad0⟩
  exact⟨_,h4,Δ,hs,hd,λg hg=>⟨F,by rw[hg];exact hlo1⟩⟩
 have hea:S.askAll=S.sends (S.others.map S.askMsg):=by unfold ND.askAll;exact yM S _
 refine⟨Δ,F,hs,hd,hNS.cong (fp S) (by rw[hea];rfl) (λh=>⟨by rw[hea]at h;exact h,by rw[hea];rfl⟩) (λh=>⟨by rw[hea]at h;exact h,by rw[hea];rfl⟩),λm hm=>?_⟩;rw[aV hout]at hm;obtain⟨m1,hm1,rfl⟩:=Gu.1 hm;obtain⟨j,hj,rfl⟩:=Gu.1 hm1;have hSid:S.id=i:=by rw[hS];exact hid
 refine⟨λ_=>⟨i,by show(S.id:Int)=i;rw[hSid],by show Δ.vt i S.g.term i;rw[hSt];exact hvt,?_,?_⟩,λh=>Gr (show(0:Int)=1 from h) Dc,λh=>Gr (show(0:Int)=2 from h) Dc,λh=>Gr (show(0:Int)=4 from h) Dc,λh=>Gr (show(0:Int)=3 from h) Dc⟩;.show S.g.last=((Δ.cl S.g.term i).length:Int);rw[hSt,hclt];exact hag.last
 show S.tAt S.g.last=ZD (Δ.cl S.g.term i) (Δ.cl S.g.term i).length;rw[hSt,hclt];exact bO hag
def vf{I:Int}(hG:GHI n Γ)(hx:NodeI n Γ i x F)(ub:UB T I x)(hid:x.id=i)(hn:x.n=n)(ho:x.out=[])(hsd:SD N x.g D)(hT:T<=1000000000)(hI:I<=9500):ib n Γ i (N+6000) (tickN (x,D)) x.tickP/\aJ n Γ i x.tickP:=by
 have hp:=ub.inn.patience;have ht:=ub.inn.term;have hlm:=yL x.id x.g.term;have hquiet:∀(y:ND) (r:Bool×NS),r=(true,(y,D))->y.g=x.g->aJ n Γ i y->ib n Γ i (N+6000) r y/\aJ n Γ i y:=λy r hr hg hres=>by
  refine⟨⟨λg=>g=x.g,?_,Γ,Yx n i Γ,hG,λg hg=>⟨F,by rw[hg];exact hx.lo⟩⟩,hres⟩;rw[hr];exact Fx.ret hsd hg Om
 unfold tickN ND.tickP;dsimp only;by_cases h1:x.role=2
 .rw[an h1,an h1];by_cases h2:x.patience+1>=3;.rw[an h2,an h2];have hx0:NodeI n Γ i {x with patience:=0} F:=hx.cong rfl rfl (λh=>⟨h,rfl⟩) (λh=>⟨h,rfl⟩);refine hquiet _ _ rfl (ZW _) ⟨Γ,F,Yx n i Γ,hG,hx0.cong (ZW _) (by rw[Xe];rfl) (λh=>⟨by rw[Xe]at h;exact h,by rw[Xe];rfl⟩) (λh=>⟨by rw[Xe]at h;exact h,by rw[Xe];rfl⟩),kM hx0 (ub.pat Om) hid hn h1 ho⟩
  rw[ac h2,ac h2];exact hquiet _ _ rfl rfl (qC hG (hx.cong rfl rfl (λh=>⟨h,rfl⟩) (λh=>⟨h,rfl⟩)) ho)
 rw[ac h1,ac h1];by_cases h2:x.patience+1>=YA x.id x.g.term;.rw[an h2,an h2];have e:∀p:Int,ND.standP {x with patience:=p}=x.standP:=λp=>rfl;have e2:YF ({x with patience:=x.patience+1},D)=YF ({x with patience:=x.patience},D)\/True:=.inr trivial;rw[e];have hx1:NodeI n Γ i {x with patience:=x.patience+1} F:=hx.cong rfl rfl (λh=>⟨h,rfl⟩) (λh=>⟨h,rfl⟩);have hnn:=ub.inn.nin0 ⟨Om,Om,Om⟩ ho;have:=BT (x:={x with patience:=x.patience+1}) (D:=D) hG hx1 (ub.pat (p:=0) Om) (hnn.pat Om) hid hn ho hsd hT hI;rw[e]at this;exact this
 rw[ac h2,ac h2];exact hquiet _ _ rfl rfl (qC hG (hx.cong rfl rfl (λh=>⟨h,rfl⟩) (λh=>⟨h,rfl⟩)) ho)
def sU{I:Int}(hG:GHI n Γ)(hx:NodeI n Γ i x F)(ub:UB T I x)(hid:x.id=i)(hn:x.n=n)(ho:x.out=[])(hsd:SD N x.g D)(hr:x.role=2)(hc:cmd.length<=100)(hT:T<=1000000000)(hI:I<=9500):ib n Γ i (N+6000) (Xb (x,D) cmd) (x.entryP cmd)/\aJ n Γ i (x.entryP cmd):=by
 have ht:=ub.inn.term;have hnn:=ub.inn.nin0 ⟨Om,Om,Om⟩ ho;let⟨a1,a2,a3,a4⟩:=hx.ld hr;have hs:=sQ (e:=(x.g.term,cmd)) hG a1;have hd:=Ew (cmd:=cmd) hG a1;have hlo:LogI n (Γ.exU i x.g.term (x.g.term,cmd)) i x.g F:=gn hG hs.le hx.lo (λ_ _ h=>h) (λ_ _ h=>h) hx.lo.tf;have hA:=pM (Γ:=Γ) (z:=x) (F:=F) (cmd:=cmd) hd hs a1 (by rw[dZ,a2]) hlo hx.tf (ZK hs.le hx.cm) a4 ub hid hn hr ho hc;exact⟨⟨_,(lW (P:=λg=>g=x.g\/g=(x.entryP cmd).g) Om hsd hnn hc (.inl rfl) (.inr rfl)).mono Om,hA.bad⟩,hA.res⟩
structure MemS (n:Nat) (Γ:GH) (i:Nat) (m:MS):Prop where
 up:¬m.dn=true->∃F,NodeI n Γ i m.x F/\m.l=Yh (F.take m.ap.toNat)
 dn:m.dn=true->∀keep:Int,∃rs p g,(m.D.crash keep).b=Xr rs++p/\yr p/\Plays LG.new rs g/\g.down=false/\∃F,LogI n Γ i g F
def sx(hA:GHI n A)(h:A.stp n i B)(hj:j≠i)(hm:MemS n A j m):MemS n B j m:=
 ⟨λhd=>by obtain⟨F,h1,h2⟩:=hm.up hd;exact⟨F,y5 hA h hj h1,h2⟩,λhd keep=>by
  let⟨rs,p,g,h1,h2,h3,h4,F,h5⟩:=hm.dn hd keep;exact⟨rs,p,g,h1,h2,h3,h4,F,sA hA h hj h5⟩⟩
def Av(h:GHI n Γ){F':List Qy}{c c':Nat}(h1:Γ.cmt n (F.take c) τ)(h2:Γ.cmt n (F'.take c') σ)(hc:c<=F.length)(hc':c'<=F'.length)(ha:a<=c)(hac:a<=c'):F.take a=F'.take a:=by
 have key:∀(A B:List Qy),A<+:B->a<=A.length->A.take a=B.take a:=λA B hp hl=>(a9 hp hl).symm;have e1:(F.take c).take a=F.take a:=by rw[Hd,Hj ha]
 have e2:(F'.take c').take a=F'.take a:=by rw[Hd,Hj hac]
 rcases l6 h h1 h2 with h3|h3;.have:=key _ _ h3 (by simp;omega);rw[e1,e2]at this;exact this
 have:=key _ _ h3 (by simp;omega);rw[e1,e2]at this;exact this.symm
def lI{I:Int}(hG:GHI n Γ)(mi:MI T I N i n m)(u:MU T I N i n m)(ms:MemS n Γ i m)(hd:ib n Γ i N' (f (m.x,m.D)) y)(hres:aJ n Γ i y)(htr:TR m.x y)(hyc:y.commit<=y.g.last)(hyd:y.down=false):
  ∃Δ,Γ.stp n i Δ/\GHI n Δ/\MemS n Δ i (m.act (Xw (m.x,m.D) f)).1/\∀g∈(m.act (Xw (m.x,m.D) f)).2,MsgI n Δ g:=by
 let⟨P,hfx,hbad⟩:=hd;have hl:=mi.l;have hcm:=u.ub.inn.commit;have hb0:=u.ub.lb.base;let⟨F,hF,hlF⟩:=ms.up (by rw[u.dn];decide);rcases nv u.ub.inn.down u.sd mi.out hfx with⟨e1,e2,e3⟩|⟨e1,e2,e3⟩
 .let⟨Δ,F',s1,s2,s3,s4⟩:=hres;have ex:(m.act (Xw (m.x,m.D) f)).1={m with x:=y.q,D:=(Xw (m.x,m.D) f).2.2}:=by unfold MS.act;rw[e2]
  have em:(m.act (Xw (m.x,m.D) f)).2=y.out:=e1;rw[ex,em];have hup:({m with x:=y.q,D:=(Xw (m.x,m.D) f).2.2}:MS).dn=false:=by
   have:=fE (x:=y.q) hyd e3;unfold MS.dn;simpa using this
  refine⟨Δ,s1,s2,⟨λ_=>⟨F',s3.cong rfl rfl (λh=>⟨h,rfl⟩) (λh=>⟨h,rfl⟩),?_⟩,λh=>by rw[hup]at h;cases h⟩,s4⟩;show m.l=Yh (F'.take m.ap.toNat);have hla:=hF.lo.ag.last;have hla':=s3.lo.ag.last;have:=htr.com;have hap:=u.ap;rw[hlF,Av s2 (ZK s1.le hF.cm) s3.cm (c:=m.x.commit.toNat) (c':=y.commit.toNat) Om Om Om Om]
 let⟨Δ,s1,s2,s3⟩:=hbad;have em:(m.act (Xw (m.x,m.D) f)).2=[]:=e1;rw[em];have hdn:(m.act (Xw (m.x,m.D) f)).1.dn=true:=Ys e3.2.1;refine⟨Δ,s1,s2,⟨λh=>Gr hdn h,λ_ keep=>?_⟩,λg hg=>by cases hg⟩;let⟨rs,p,g,b1,b2,b3,b4,b5⟩:=e3.2.2 keep;exact⟨rs,p,g,b1,b2,b3,b4,s3 g b5⟩
def y'{I:Int}(mi:MI T I N i n m)(ms:MemS n Γ i m)(j:Int)(o:List OC):MemS n Γ i (XI j m o).1:=by
 let⟨ex,eD⟩:=jU j m o;have hdn:(XI j m o).1.dn=m.dn:=by unfold MS.dn;rw[ex,eD]
 by_cases hd:m.dn=true
 .have e:XI j m o=(m,o):=by unfold XI;rw[an hd]
  rw[e];exact ms
 refine⟨λ_=>?_,λh=>Gr (hdn▸h) hd⟩;let⟨F,hF,hlF⟩:=ms.up hd;rw[ex];refine⟨F,hF,?_⟩;have e:XI j m o=m.rest.todo.foldl (Ye j) (m.rest,o):=by unfold XI;rw[ac hd]
 have u:MU T I N i n m:=by
  rcases mi.st with u|d;.exact u
  exact Gr (Ys d.1) hd
 have hcm:=u.ub.inn.commit;have hag:=hF.lo.ag;have hb0:=hag.b0;have hbl:=hag.b;have hla:=hag.last;have hap:=u.ap;have hl:=mi.l;let⟨q1,q2,q3,q4⟩:=bu m;have hr:m.rest.l=Yh (F.take m.rest.ap.toNat)/\m.rest.ap<=m.x.commit:=by
  unfold MS.rest;split;.rename_i h1;exact⟨hF.lo.st Om,hcm.1⟩
  exact⟨hlF,hap⟩
 rw[e,eY];show m.rest.l++Yh m.rest.todo=Yh (F.take (m.rest.ap+m.rest.todo.length).toNat);have htd:m.rest.todo=(F.drop m.rest.ap.toNat).take (m.x.commit-m.rest.ap).toNat:=by
  unfold MS.todo;rw[q1,hag.all,HL,show m.x.g.base.toNat+(m.rest.ap-m.x.g.base).toNat=m.rest.ap.toNat by omega]
 have hlen:m.rest.todo.length=(m.x.commit-m.rest.ap).toNat:=by rw[htd];simp;omega
 rw[hr.1,hlen,htd,<-zV,<-List.take_add];congr 2;omega
def qn{P Q:Nat->MS->Prop}{ms:List MS}(h:∀j m,ms[j]?=some m->P j m)(hpq:∀j m,j≠i->P j m->Q j m)(h':Q i m'):∀j m,(ms.set i m')[j]?=some m->Q j m:=λj m hj=>by
 by_cases e:i=j
 .subst e;have hi:i<ms.length:=by have:=(Gj.1 hj).1;simpa using this
  rw[Hz hi]at hj;have hj:=GU hj;subst hj;exact h'
 rw[HC e]at hj;exact hpq j m (λh=>e h.symm) (h j m hj)
def pr{x:Yf}:Yb (x::l) 0=true:=by unfold Yb;simp
def Bi{x:Yf}:XV (x::l) 0=x:=(cI (st:=x::l) (i:=0) (x:=x) rfl).1
def Be{x:Yf}:YO (x::l) 0=l:=by unfold YO;rw[an pr];rfl
def bE{x:Yf}(hs:G.st=x::l)(hto:x.2.to=(i:Int))(hm:G.ms[i]?=some m):
  (G.delS 0).ms=G.ms.set i (doneS i (m.recvS x.2).1 G.out).1/\(G.delS 0).st=l++XD G.last (m.recvS x.2).2:=by
 unfold GS.delS;rw[hs,pr,Bi,hto,an rfl,an Om,Hc,hm];constructor;.rfl
 show YO G.st 0++_=_;rw[hs,Be];rfl
def yb(w:Msg->Nat)(l:List Yf):Nat:=(l.map λx=>w x.2).sum
def sv(w:Msg->Nat)(a b:List Yf):yb w (a++b)=yb w a+yb w b:=by simp[yb]
def ss(w:Msg->Nat)(k:Int)(m:Msg):yb w (XD k [m])=w m:=by simp[yb,XD]
def su{w:Msg->Nat}(hw:∀m,1<=w m):∀l:List Yf,l.length<=yb w l
 |[]=>He _
 |x::l=>by
  have:=su hw l;have:=hw x.2;unfold yb at*;simp[Hf,Io,GD];omega
def pS{Inv:GS->Prop}{w:Msg->Nat}(hw:∀m,1<=w m)(step:∀G x l,Inv G->G.st=x::l->Inv (G.delS 0)/\yb w (G.delS 0).st<yb w G.st)(h:Inv G)(hk:yb w G.st<=k):Inv (G.delsS k)/\(G.delsS k).st=[]:=by
 have key:∀j,Inv (G.delsS j)/\(yb w (G.delsS j).st+j<=yb w G.st\/(G.delsS j).st=[]):=λj=>by
  induction j with
  |zero=>exact⟨h,.inl (Gl _)⟩
  |succ j ih=>
   let⟨h1,h2⟩:=ih;show Inv (G.delsS j).del1S/\_;cases hs:(G.delsS j).st with
   |nil=>
    have e:(G.delsS j).del1S=G.delsS j:=by unfold GS.del1S;rw[hs,ac Si]
    exact⟨by rw[e];exact h1,.inr (by show(G.delsS j).del1S.st=[];rw[e,hs])⟩
   |cons x l=>
    have e:(G.delsS j).del1S=(G.delsS j).delS 0:=by unfold GS.del1S;rw[hs,an Si]
    let⟨h3,h4⟩:=step _ x l h1 hs;refine⟨by rw[e];exact h3,.inl ?_⟩;show yb w (G.delsS j).del1S.st+(j+1)<=_;rw[e];rcases h2 with h2|h2
    .omega
    rw[h2]at hs;cases hs
 let⟨h1,h2⟩:=key k;refine⟨h1,?_⟩;rcases h2 with h2|h2
 .have:=su hw (G.delsS k).st;exact IE.1 Om
 exact h2
def lY(g:LG):List Bs:=(if g.base>0 then ZC g.state else[])++Yh g.all
def bD(i:Int)(m:MS)(o:List OC):(doneS i m o).1.x=m.x:=by
 unfold doneS;rw[(g9 i _ _).1];exact(bu _).1
def sZ(hb:m.x.g.base<=m.ap)(i:Int)(o:List OC):(doneS i m o).1={m with ap:=m.ap+(((m.x.g.all.drop (m.ap-m.x.g.base).toNat).take (m.x.commit-m.ap).toNat).length:Int),l:=m.l++Yh ((m.x.g.all.drop (m.ap-m.x.g.base).toNat).take (m.x.commit-m.ap).toNat)}:=by
 have h1:m.rest=m:=by unfold MS.rest;rw[ac Om]
 unfold doneS;rw[h1,eY];rfl
structure AP (cs:List Bs) (m:MS):Prop where
 b:m.x.g.base<=m.ap
 c:m.ap<=m.x.commit
 l:m.x.commit<=m.x.g.last
 t:m.l++Yh (m.x.g.all.drop (m.ap-m.x.g.base).toNat)=cs
def AP.done{c:List Bs}(h:AP c m)(i:Int)(o:List OC):AP c (doneS i m o).1/\(doneS i m o).1.ap=m.x.commit/\(doneS i m o).1.x=m.x/\(doneS i m o).1.D=m.D/\(m.x.commit=m.x.g.last->(doneS i m o).1.l=c):=by
 have hb:=h.b;have hc:=h.c;have hl:=h.l;have hl2:m.x.g.last=m.x.g.base+m.x.g.all.length:=rfl;have e:=sZ hb i o;have hlen:((m.x.g.all.drop (m.ap-m.x.g.base).toNat).take (m.x.commit-m.ap).toNat).length=(m.x.commit-m.ap).toNat:=by simp;omega
 rw[hlen]at e;have hap:(doneS i m o).1.ap=m.x.commit:=by rw[e];show m.ap+_=_;omega
 have hx:(doneS i m o).1.x=m.x:=bD i m o;have hll:(doneS i m o).1.l=m.l++Yh ((m.x.g.all.drop (m.ap-m.x.g.base).toNat).take (m.x.commit-m.ap).toNat):=by rw[e]
 have hA:AP c (doneS i m o).1:=by
  refine⟨by rw[hx,hap];omega,by rw[hx,hap];exact Gk _,by rw[hx];exact hl,?_⟩;rw[hx,hap,hll,GA,<-zV];have e2:m.x.g.all.drop (m.x.commit-m.x.g.base).toNat=(m.x.g.all.drop (m.ap-m.x.g.base).toNat).drop (m.x.commit-m.ap).toNat:=by rw[HL];congr 1;omega
  rw[e2,HG];exact h.t
 refine⟨hA,hap,hx,s7 i m o,λhcl=>?_⟩;have:=hA.t;rw[hx,hap,hcl,Ix Om]at this;simpa[Yh]using this
structure BM (n:Nat) (T k t:Int) (w:List Bs) (i:Nat) (m:MS):Prop where
 id:m.x.id=i
 n:m.x.n=n
 out:m.x.out=[]
 term:m.x.g.term=T
 base:0<=m.x.g.base
 last:m.x.g.last=k
 tl:m.x.g.termAt k=some t
 ct:lY m.x.g=w
 ap:m.ap=m.x.commit
 A:AP w m
structure BL (n L:Nat) (k p:Int) (m:MS):Prop where
 role:m.x.role=2
 leader:m.x.leader=L
 pat:m.x.patience=p
 com:m.x.commit=k
 l:m.x.peers.length=n
 peers:∀j,j<n->j≠L->m.x.peers[j]?=some (k+1,k)
structure BF (L:Nat) (b:Int) (m:MS):Prop where
 role:m.x.role=0
 pat:0<=m.x.patience/\m.x.patience<=b
def E6(L:Nat)(k:Int)(m:MS):Prop:=m.x.leader=L/\m.x.commit=k
def bM(L:Nat)(T k t:Int)(i:Nat):Msg:={Msg.zero with kind:=2,frm:=L,to:=i,term:=T,index:=k,logTerm:=t,commit:=k}
def aM(L:Nat)(T k:Int)(i:Nat):Msg:={Msg.zero with kind:=3,frm:=i,to:=L,term:=T,ok:=true,index:=k}
def w2(m:Msg):Nat:=if m.kind=3 then 1 else 2
def uZ(m:Msg):1<=w2 m:=by unfold w2;split<;>omega
def gi(hid:x.id<x.n){k:Int}(h1:x.g.last<=k)(h2:∀j,j<x.n->j≠x.id->x.mat j<=k):x.mid<=k:=by
 have hm:=dQ hid;unfold ND.reach at hm;rcases Gn.1 hm with hm|hm
 .omega
 let⟨j,hj,e⟩:=Gu.1 hm;rw[<-e];unfold ND.others at hj;rw[IG]at hj;exact h2 j (by simpa using hj.1) (by simpa using hj.2)
def qI{p:Int×Int}(h:x.peers[j]?=some p):x.mat j=p.2/\x.nxt j=p.1:=by
 unfold ND.mat ND.nxt;rw[Gt,h];exact⟨rfl,rfl⟩
def Ar(h:x.mid<=x.commit):x.count=x:=by unfold ND.count;rw[ac Om]
def vQ{k:Int}(hid:x.id=i)(hn:x.n=n)(hL:L<n/\L≠i)(ht:x.g.term=T)(hr:x.role=0)(hb:x.g.base<=k)(htl:x.g.termAt k=some t)(hc:x.commit<=k):
  x.receiveP (bM L T k t i)=ND.answer {x with role:=0,leader:=L,patience:=0,commit:=k} (bM L T k t i) true k:=by
 unfold ND.receiveP;rw[ac (by rw[hid,hn];show¬(¬(i:Int)=i\/(L:Int)=i\/(L:Int)<0\/(L:Int)>=n);omega),ac (by show¬T>x.g.term;omega)];unfold ND.kindP;rw[ac (by show¬(2:Int)=0;decide),ac (by show¬(2:Int)=1;decide),an (.inl (show(bM L T k t i).kind=2 from rfl))];unfold ND.fedP;rw[ac (by show¬T<x.g.term;omega),ac Om,an (show(bM L T k t i).kind=2 from rfl)];unfold ND.addP;rw[ac (by show¬(k<x.g.base/\_);omega),ac (by show¬(_/\¬x.g.termAt k=some t);rw[htl];simp)];have hcut:(x.follows (bM L T k t i)).cutM (bM L T k t i)=(k,[]):=by
  unfold ND.cutM;rw[ac (by show¬k<x.g.base;omega)];rfl
 rw[hcut];unfold ND.restP;rw[Ag];dsimp only;have hcm:max x.commit (min k (k+(([]:List Qy).length:Int)))=k:=by simp;omega
 unfold ND.commits ND.follows;show ND.answer {x with role:=0,leader:=L,patience:=0,commit:=max x.commit (min k (k+(([]:List Qy).length:Int)))} _ true (k+(([]:List Qy).length:Int))=_;rw[hcm];simp
def xO{k:Int}(hid:x.id=L)(hn:x.n=n)(hi:i<n/\i≠L)(hL:L<n)(ht:x.g.term=T)(hr:x.role=2)(hl:x.g.last=k)(hc:x.commit=k)(hpl:x.peers.length=n)(hp:∀j,j<n->j≠L->x.peers[j]?=some (k+1,k)):
  x.receiveP (aM L T k i)=x:=by
 have hpi:=hp i hi.1 hi.2;unfold ND.receiveP;rw[ac (by rw[hid,hn];show¬(¬(L:Int)=L\/(i:Int)=L\/(i:Int)<0\/(i:Int)>=n);omega),ac (by show¬T>x.g.term;omega)];unfold ND.kindP;rw[ac (by show¬(3:Int)=0;decide),ac (by show¬(3:Int)=1;decide),ac (by show¬((3:Int)=2\/(3:Int)=4);decide),an (show(aM L T k i).kind=3 from rfl)];unfold ND.heardP Ya;dsimp only;rw[ac (by show¬(¬x.role=2\/¬T=x.g.term);omega),ac (by show¬true=false;decide)];have e1:(aM L T k i).frm.toNat=i:=by show(i:Int).toNat=i;simp
 have e2:max (x.mat i) (min (aM L T k i).index x.g.last)=k:=by
  rw[(qI hpi).1,hl];show max k (min k k)=k;omega
 rw[e1,e2];have e3:x.setPeer i (k+1,k)=x:=by
  unfold ND.setPeer;have:x.peers.set i (k+1,k)=x.peers:=by
   apply Ir;intro j;by_cases hj:i=j;.subst hj;rw[Hz Om,hpi]
   rw[HC hj]
  rw[this]
 rw[e3,Ar (by rw[hc];exact gi Om Om (λj hj hjn=>by rw[(qI (hp j Om Om)).1];exact Gk _))];rw[ac (by show¬k+1<=x.g.last;omega)]
structure Beat (n L:Nat) (T k t:Int) (w:List Bs) (p b:Int) (G:GS):Prop where
 len:G.ms.length=n
 lt:L<n
 ms:∀i m,G.ms[i]?=some m->BM n T k t w i m/\(i=L->BL n L k p m)/\(i≠L->BF L b m/\((E6 L k m/\m.x.patience=0)\/∃x∈G.st,x.2=bM L T k t i))
 st:∀x∈G.st,∃i,i<n/\i≠L/\(x.2=bM L T k t i\/x.2=aM L T k i)
def BM.at{k:Int}(h:BM n T k t w i m):m.x.g.base<=k/\m.x.commit<=k/\m.x.g.base<=m.x.commit:=by
 have h1:=h.A;have h2:=h.ap;have h3:=h.last;have:=h1.b;have:=h1.l;omega
def Beat.del{k:Int}{p:Int}{x:Yf}(h:Beat n L T k t w p b G)(hb:0<=b)(hs:G.st=x::l):Beat n L T k t w p b (G.delS 0)/\yb w2 (G.delS 0).st<yb w2 G.st:=by
 let⟨i,hi,hiL,hx⟩:=h.st x (by rw[hs];simp);have hLn:=h.lt;have hst:∀y∈l,y∈G.st:=λy hy=>by rw[hs];exact H9 _ hy
 rcases hx with hx|hx
 .obtain⟨m,hm⟩:∃m,G.ms[i]?=some m:=⟨_,b7 (by rw[h.len];exact hi)⟩;let⟨c1,_,c3⟩:=h.ms i m hm;let⟨c4,_⟩:=c3 hiL;let⟨a1,a2,a3⟩:=c1.at;let⟨e1,e2⟩:=bE hs (by rw[hx];rfl) hm;have hr:=vQ (x:=m.x) c1.id c1.n ⟨hLn,λe=>hiL e.symm⟩ c1.term c4.role a1 c1.tl a2;have er:m.recvS x.2=({m with x:={m.x with role:=0,leader:=L,patience:=0,commit:=k}},[aM L T k i]):=by
   unfold MS.recvS;rw[hx,hr];unfold ND.answer ND.send ND.q;dsimp only;rw[c1.out];refine JL ?_ ?_;.show MS.mk _ _ _ _=MS.mk _ _ _ _;congr 1;try(show ND.mk _ _ _ _ _ _ _ _ _ _ _=ND.mk _ _ _ _ _ _ _ _ _ _ _;rw[c1.out])
   show[_]=[_];unfold aM bM;dsimp only;rw[c1.id,c1.term];try rfl
  rw[er]at e1 e2;have hA:AP w {m with x:={m.x with role:=0,leader:=L,patience:=0,commit:=k}}:=⟨c1.A.b,by show m.ap<=k;rw[c1.ap];exact a2,by show k<=m.x.g.last;rw[c1.last];exact Gk _,c1.A.t⟩;let⟨d1,d2,d3,d4,d5⟩:=hA.done (i:Int) G.out;constructor
  .refine⟨by rw[e1,Hy];exact h.len,hLn,?_,?_⟩
   .rw[e1];refine qn h.ms (λj mj hj hP=>⟨hP.1,hP.2.1,λhjL=>⟨(hP.2.2 hjL).1,?_⟩⟩) ?_
    .rcases(hP.2.2 hjL).2 with hz|⟨y,hy,hz⟩
     .exact .inl hz
     right;refine⟨y,?_,hz⟩;rw[hs]at hy;rcases Gn.1 hy with hy|hy
     .exfalso;rw[hy,hx]at hz;have:((i:Int))=j:=GM Msg.to hz;omega
     rw[e2];exact GT _ hy
    refine⟨⟨by rw[d3];exact c1.id,by rw[d3];exact c1.n,by rw[d3];exact c1.out,by rw[d3];exact c1.term,by rw[d3];exact c1.base,by rw[d3];exact c1.last,by rw[d3];exact c1.tl,by rw[d3];exact c1.ct,by rw[d2,d3],d1⟩,λe=>Gr e hiL,λ_=>⟨⟨by rw[d3],by rw[d3];exact⟨Gk _,hb⟩⟩,.inl ⟨⟨by rw[d3],by rw[d3]⟩,by rw[d3]⟩⟩⟩
   intro y hy;rw[e2]at hy;rcases GE.1 hy with hy|hy
   .exact h.st y (hst y hy)
   have:=qZ hy;simp at this;exact⟨i,hi,hiL,.inr this⟩
  rw[e2,hs,sv,ss];have h1:w2 (aM L T k i)=1:=rfl;have h2:w2 x.2=2:=by rw[hx];rfl
  unfold yb;simp[Hf,Io];omega
 obtain⟨m,hm⟩:∃m,G.ms[L]?=some m:=⟨_,b7 (by rw[h.len];exact hLn)⟩;let⟨c1,c2,c3⟩:=h.ms L m hm;have c2:=c2 rfl;let⟨e1,e2⟩:=bE hs (by rw[hx];rfl) hm;have hr:=xO (x:=m.x) c1.id c1.n ⟨hi,hiL⟩ hLn c1.term c2.role c1.last c2.com c2.l c2.peers;have er:m.recvS x.2=(m,[]):=by
  unfold MS.recvS;rw[hx,hr,c1.out,Zd c1.out]
 rw[er]at e1 e2;let⟨d1,d2,d3,d4,d5⟩:=c1.A.done (L:Int) G.out;have e2:(G.delS 0).st=l:=by rw[e2];simp[XD]
 constructor
 .refine⟨by rw[e1,Hy];exact h.len,hLn,?_,?_⟩
  .rw[e1];refine qn h.ms (λj mj hj hP=>⟨hP.1,hP.2.1,λhjL=>⟨(hP.2.2 hjL).1,?_⟩⟩) ?_
   .rcases(hP.2.2 hjL).2 with hz|⟨y,hy,hz⟩
    .exact .inl hz
    right;refine⟨y,?_,hz⟩;rw[hs]at hy;rcases Gn.1 hy with hy|hy
    .exfalso;rw[hy,hx]at hz;have:(3:Int)=2:=GM Msg.kind hz;omega
    rw[e2];exact hy
   refine⟨⟨by rw[d3];exact c1.id,by rw[d3];exact c1.n,by rw[d3];exact c1.out,by rw[d3];exact c1.term,by rw[d3];exact c1.base,by rw[d3];exact c1.last,by rw[d3];exact c1.tl,by rw[d3];exact c1.ct,by rw[d2,d3],d1⟩,λ_=>⟨by rw[d3];exact c2.role,by rw[d3];exact c2.leader,by rw[d3];exact c2.pat,by rw[d3];exact c2.com,by rw[d3];exact c2.l,by rw[d3];exact c2.peers⟩,λe=>Gr rfl e⟩
  intro y hy;rw[e2]at hy;exact h.st y (hst y hy)
 rw[e2,hs];have h2:w2 x.2=1:=by rw[hx];rfl
 unfold yb;simp[Hf,Io];omega
structure PS (n L:Nat) (T k t:Int) (w:List Bs) (p b:Int) (y:Prop) (G:GS):Prop where
 len:G.ms.length=n
 lt:L<n
 ms:∀i m,G.ms[i]?=some m->BM n T k t w i m/\(i=L->BL n L k p m)/\(i≠L->BF L b m/\(y->E6 L k m))
 st:G.st=[]
def wO{n:Nat}{k:Int}(hid:x.id=L)(ht:x.g.term=T)(hb:x.g.base<=k)(hl:x.g.last=k)(htl:x.g.termAt k=some t)(hc:x.commit=k)(hp:x.peers[i]?=some (k+1,k)):x.stamp (x.feedMsg i)=bM L T k t i:=by
 have hl2:x.g.last=x.g.base+x.g.all.length:=rfl;rw[qE (by rw[(qI hp).2];omega),(qI hp).2];have e1:(x.g.all.drop (k+1-x.g.base-1).toNat).take 8=[]:=by rw[Ix Om];rfl
 have e2:k+1-1=k:=Om;have e3:x.tAt k=t:=by unfold ND.tAt;rw[htl];rfl
 rw[e1,e2,e3,hc];unfold ND.stamp bM;rw[hid,ht];try rfl
def others_mem:j∈x.others↔j<x.n/\j≠x.id:=by unfold ND.others;rw[IG];simp
structure PT (n L:Nat) (T k t:Int) (w:List Bs) (p b:Int) (y:Prop) (q:Nat) (G:GS):Prop where
 len:G.ms.length=n
 lt:L<n
 ms:∀i m,G.ms[i]?=some m->BM n T k t w i m/\(i=L->BL n L k (if q<=L then p else if p+1>=3 then 0 else p+1) m)/\(i≠L->BF L (if q<=i then b else b+1) m/\(y->E6 L k m))
 st:if q<=L\/¬p+1>=3 then G.st=[]else(∀x∈G.st,∃i,i<n/\i≠L/\x.2=bM L T k t i)/\(∀i,i<n->i≠L->∃x∈G.st,x.2=bM L T k t i)/\G.st.length<=n
def ew(hm:G.ms[i]?=some m):(G.tickS i).ms=G.ms.set i (doneS i m.tickS.1 G.out).1/\(G.tickS i).st=G.st++XD G.last m.tickS.2:=by
 unfold GS.tickS;rw[hm];exact⟨rfl,rfl⟩
def BM.same{k:Int}(c1:BM n T k t w i m)(pt:Int)(o:List OC):BM n T k t w i (doneS i {m with x:=ND.q {m.x with patience:=pt}} o).1/\(doneS i {m with x:=ND.q {m.x with patience:=pt}} o).1.x={m.x with patience:=pt}:=by
 have hq:ND.q {m.x with patience:=pt}={m.x with patience:=pt}:=Zd c1.out;rw[hq];have hA:AP w {m with x:={m.x with patience:=pt}}:=⟨c1.A.b,c1.A.c,c1.A.l,c1.A.t⟩;let⟨d1,d2,d3,d4,d5⟩:=hA.done (i:Int) o;exact⟨⟨by rw[d3];exact c1.id,by rw[d3];exact c1.n,by rw[d3];exact c1.out,by rw[d3];exact c1.term,by rw[d3];exact c1.base,by rw[d3];exact c1.last,by rw[d3];exact c1.tl,by rw[d3];exact c1.ct,by rw[d2,d3],d1⟩,d3⟩
def c9:∀{l:List Msg} {k:Int} {m:Msg},m∈l->∃x∈XD k l,x.2=m
 |[],_,_,h=>by cases h
 |a::l,k,m,h=>by
  rw[XD];rcases Gn.1 h with h|h
  .exact⟨(k+1,a),Si,h.symm⟩
  let⟨x,hx,e⟩:=c9 (k:=k+1) h;exact⟨x,H9 _ hx,e⟩
def PT.tick{k:Int}{p:Int}{y:Prop}{q:Nat}(h:PT n L T k t w p b y q G)(hq:q<n)(hp:0<=p/\p<=2)(hb:0<=b/\b<=8):PT n L T k t w p b y (q+1) (G.tickS q):=by
 obtain⟨m,hm⟩:∃m,G.ms[q]?=some m:=⟨_,b7 (by rw[h.len];exact hq)⟩;let⟨c1,c2,c3⟩:=h.ms q m hm;let⟨e1,e2⟩:=ew hm;have hst:=h.st;by_cases hL:q=L
 .subst hL;have c2:=c2 rfl;rw[an (Gl _)]at c2;rw[an (.inl (Gl _))]at hst;by_cases hbeat:p+1>=3
  .have et:m.x.tickP=ND.feedAll {m.x with patience:=0}:=by
    unfold ND.tickP;rw[an c2.role,an (by rw[c2.pat];exact hbeat)]
   have e3:m.tickS.1={m with x:=ND.q {m.x with patience:=0}}:=by
    unfold MS.tickS;rw[et,Xe];rfl
   have e4:m.tickS.2=(m.x.others.map λi=>bM q T k t i):=by
    unfold MS.tickS;rw[et,ZS (x:={m.x with patience:=0}) c1.out];rw[JX];apply List.map_congr_left;intro j hj;let⟨hj1,hj2⟩:=others_mem.1 (show j∈m.x.others from hj);rw[c1.n]at hj1;rw[c1.id]at hj2;exact wO (x:={m.x with patience:=0}) (n:=n) c1.id c1.term c1.at.1 c1.last c1.tl c2.com (c2.peers j hj1 hj2)
   let⟨b1,b2⟩:=c1.same 0 G.out;rw[e3]at e1;rw[hst,e4]at e2;refine⟨by rw[e1,Hy];exact h.len,h.lt,?_,?_⟩
   .rw[e1];refine qn h.ms (λj mj hj hP=>⟨hP.1,λhjL=>Gr hjL hj,λhjL=>?_⟩) ⟨b1,λ_=>?_,λhjL=>Gr rfl hjL⟩
    .have h5:=hP.2.2 hjL;refine⟨?_,h5.2⟩;rcases HK j q with hjq|hjq
     .rw[ac Om];rw[ac Om]at h5;exact h5.1
     rw[an Om];rw[an Om]at h5;exact h5.1
    rw[ac Om,an hbeat];exact⟨by rw[b2];exact c2.role,by rw[b2];exact c2.leader,by rw[b2],by rw[b2];exact c2.com,by rw[b2];exact c2.l,by rw[b2];exact c2.peers⟩
   rw[ac Om,e2];refine⟨λx hx=>?_,λi hi hiL=>?_,?_⟩;.have:=qZ (show x∈XD G.last _ from by simpa using hx);let⟨j,hj,e⟩:=Gu.1 this;let⟨hj1,hj2⟩:=others_mem.1 hj;exact⟨j,by rw[<-c1.n];exact hj1,by rw[<-c1.id];exact hj2,e.symm⟩
   .let⟨x,hx,e⟩:=c9 (k:=G.last) (Gu.2 ⟨i,others_mem.2 ⟨by rw[c1.n];exact hi,by rw[c1.id];exact hiL⟩,rfl⟩:bM q T k t i∈m.x.others.map λi=>bM q T k t i);exact⟨x,by simpa using hx,e⟩
   have:=jx m.x;rw[c1.n]at this;simpa[yu]using this
  have et:m.x.tickP={m.x with patience:=m.x.patience+1}:=by
   unfold ND.tickP;rw[an c2.role,ac (by rw[c2.pat];exact hbeat)]
  let⟨b1,b2⟩:=c1.same (m.x.patience+1) G.out;have e3:m.tickS=({m with x:=ND.q {m.x with patience:=m.x.patience+1}},[]):=by
   unfold MS.tickS;rw[et];exact JL rfl c1.out
  rw[e3]at e1 e2;refine⟨by rw[e1,Hy];exact h.len,h.lt,?_,?_⟩
  .rw[e1];refine qn h.ms (λj mj hj hP=>⟨hP.1,λhjL=>Gr hjL hj,λhjL=>?_⟩) ⟨b1,λ_=>?_,λhjL=>Gr rfl hjL⟩
   .have h5:=hP.2.2 hjL;refine⟨?_,h5.2⟩;rcases HK j q with hjq|hjq
    .rw[ac Om];rw[ac Om]at h5;exact h5.1
    rw[an Om];rw[an Om]at h5;exact h5.1
   rw[ac Om,ac hbeat];exact⟨by rw[b2];exact c2.role,by rw[b2];exact c2.leader,by rw[b2];show m.x.patience+1=p+1;rw[c2.pat],by rw[b2];exact c2.com,by rw[b2];exact c2.l,by rw[b2];exact c2.peers⟩
  rw[an (.inr hbeat),e2,hst];rfl
 let⟨c4,c5⟩:=c3 hL;rw[an (Gl _)]at c4;have hlm:=yL m.x.id m.x.g.term;have hpt:=c4.pat;have et:m.x.tickP={m.x with patience:=m.x.patience+1}:=by
  unfold ND.tickP;rw[ac (by rw[c4.role];decide),ac Om]
 let⟨b1,b2⟩:=c1.same (m.x.patience+1) G.out;have e3:m.tickS=({m with x:=ND.q {m.x with patience:=m.x.patience+1}},[]):=by
  unfold MS.tickS;rw[et];exact JL rfl c1.out
 rw[e3]at e1 e2;have e2:(G.tickS q).st=G.st:=by rw[e2];simp[XD]
 refine⟨by rw[e1,Hy];exact h.len,h.lt,?_,?_⟩
 .rw[e1];refine qn h.ms (λj mj hj hP=>⟨hP.1,λhjL=>?_,λhjL=>?_⟩) ⟨b1,λe=>Gr e hL,λ_=>⟨?_,λhy=>?_⟩⟩
  .have h5:=hP.2.1 hjL;rcases HK L q with hjq|hjq
   .rw[ac Om];rw[ac Om]at h5;exact h5
   rw[an Om];rw[an Om]at h5;exact h5
  .have h5:=hP.2.2 hjL;refine⟨?_,h5.2⟩;rcases HK j q with hjq|hjq
   .rw[ac Om];rw[ac Om]at h5;exact h5.1
   rw[an Om];rw[an Om]at h5;exact h5.1
  .rw[ac Om];exact⟨by rw[b2];exact c4.role,by rw[b2];show 0<=m.x.patience+1/\m.x.patience+1<=b+1;omega⟩
  have:=c5 hy;exact⟨by rw[b2];exact this.1,by rw[b2];exact this.2⟩
 rw[e2];rcases HK L q with hjq|hjq
 .by_cases hbeat:p+1>=3;.rw[ac Om]at hst|-;exact hst
  rw[an (.inr hbeat)]at hst|-;exact hst
 rw[an (.inl Om)]at hst|-;exact hst
def PS.ticks{n L:Nat}{T k t:Int}{w:List Bs}{p b:Int}{y:Prop}{G:GS}(h:PS n L T k t w p b y G)(hp:0<=p/\p<=2)(hb:0<=b/\b<=8):∀q,q<=n->PT n L T k t w p b y q (G.ticksS q)
 |0,_=>⟨h.len,h.lt,λi m hi=>⟨(h.ms i m hi).1,λe=>by rw[an (He _)];exact(h.ms i m hi).2.1 e,λe=>by rw[an (He _)];exact(h.ms i m hi).2.2 e⟩,by rw[an (.inl (He _))];exact h.st⟩
 |q+1,hq=>by
  rw[zC];exact(h.ticks hp hb q Om).tick Om hp hb
def PS.round{k:Int}{p:Int}{y:Prop}(h:PS n L T k t w p b y G)(hn:n<=9)(hp:0<=p/\p<=2)(hb:0<=b/\b<=8):if p+1>=3 then PS n L T k t w 0 0 True (G.roundS n)else PS n L T k t w (p+1) (b+1) y (G.roundS n):=by
 have h1:=h.ticks hp hb n (Gl n);have hLn:=h.lt;have hst:=h1.st;by_cases hbeat:p+1>=3
 .rw[an hbeat];rw[ac Om]at hst;have h2:Beat n L T k t w 0 (b+1) (G.ticksS n):=by
   refine⟨h1.len,hLn,λi m hi=>?_,λx hx=>?_⟩
   .let⟨c1,c2,c3⟩:=h1.ms i m hi;have hin:i<n:=by have:=(Gj.1 hi).1;rw[h1.len]at this;exact this
    refine⟨c1,λe=>?_,λe=>⟨?_,.inr (hst.2.1 i hin e)⟩⟩;.have:=c2 e;rw[ac Om,an hbeat]at this;exact this
    have:=(c3 e).1;rw[ac Om]at this;exact this
   let⟨i,a1,a2,a3⟩:=hst.1 x hx;exact⟨i,a1,a2,.inl a3⟩
  have hmu:yb w2 (G.ticksS n).st<=200:=by
   have:∀l:List Yf,yb w2 l<=2*l.length:=λl=>by
    induction l with
    |nil=>exact Gl _
    |cons x l ih=>
     have h5:w2 x.2<=2:=by unfold w2;split<;>omega
     unfold yb at ih|-;simp[Hf,Io,GD];omega
   have:=this (G.ticksS n).st;have:=hst.2.2;omega
  let⟨h3,h4⟩:=pS (Inv:=Beat n L T k t w 0 (b+1)) uZ (λG x l hG hs=>hG.del Om hs) h2 hmu;refine⟨h3.len,hLn,λi m hi=>?_,h4⟩;let⟨c1,c2,c3⟩:=h3.ms i m hi;refine⟨c1,c2,λe=>?_⟩;rcases(c3 e).2 with h5|⟨x,hx,_⟩
  .exact⟨⟨(c3 e).1.role,by rw[h5.2];exact⟨Gk _,Gk _⟩⟩,λ_=>h5.1⟩
  have h4':(G.roundS n).st=[]:=h4;rw[show((G.ticksS n).delsS 200).st=(G.roundS n).st from rfl,h4']at hx;cases hx
 rw[ac hbeat];rw[an (.inr hbeat)]at hst;have e:G.roundS n=G.ticksS n:=by
  show(G.ticksS n).delsS 200=_;have:∀j,(G.ticksS n).delsS j=G.ticksS n:=λj=>by
   induction j with
   |zero=>rfl
   |succ j ih=>
    show((G.ticksS n).delsS j).del1S=_;rw[ih];unfold GS.del1S;rw[hst,ac Si]
  exact this 200
 rw[e];refine⟨h1.len,hLn,λi m hi=>?_,hst⟩;let⟨c1,c2,c3⟩:=h1.ms i m hi;have hin:i<n:=by have:=(Gj.1 hi).1;rw[h1.len]at this;exact this
 refine⟨c1,λe=>?_,λe=>?_⟩;.have:=c2 e;rw[ac Om,ac hbeat]at this;exact this
 have:=c3 e;rw[ac Om]at this;exact this
structure SafeI (n:Nat) (Γ:GH) (G:GS):Prop where
 hi:GHI n Γ
 ms:∀i m,G.ms[i]?=some m->MemS n Γ i m
 msg:∀x∈G.st,MsgI n Γ x.2
def Later(n:Nat)(Γ:GH)(G:GS):Prop:=∃Δ,Γ.le n Δ/\SafeI n Δ G
def SafeI.later(h:SafeI n Γ G):Later n Γ G:=⟨Γ,pk n Γ,h⟩
def SafeI.done{a t:Nat}{I:Int}(h:SafeI n Γ G)(hm:G.ms[i]?=some m){r:MS×List Msg}{J:Int}(hs:Γ.stp n i Δ)(hd:GHI n Δ)(hr:MemS n Δ i r.1)(hi:MI T J N i n r.1)(hg:∀g∈r.2,MsgI n Δ g):Later n Γ (G.done i r.1 r.2):=by
 refine⟨Δ,hs.le,hd,qn h.ms (λj mj hj hP=>sx h.hi hs hj hP) (y' hi hr i G.out),λx hx=>?_⟩;rcases GE.1 (show x∈G.st++XD G.last r.2 from hx)with hx|hx
 .exact oV hs.le (h.msg x hx)
 exact hg _ (qZ hx)
def SafeI.put(h:SafeI n Γ G)(hm:G.ms[i]?=some m)(hs:Γ.stp n i Δ)(hd:GHI n Δ)(hr:MemS n Δ i m'):Later n Γ {G with ms:=G.ms.set i m'}:=
 ⟨Δ,hs.le,hd,qn h.ms (λj mj hj hP=>sx h.hi hs hj hP) hr,λx hx=>oV hs.le (h.msg x hx)⟩
def SafeI.take(h:SafeI n Γ G)(k:Int):SafeI n Γ (G.take k):=
 ⟨h.hi,h.ms,λx hx=>h.msg x (by
  have hx:x∈YO G.st k:=hx;unfold YO at hx;split at hx;.exact LO hx
  exact hx)⟩
def SafeI.tick{n a t:Nat}{I:Int}{Γ:GH}{G:GS}(g:GI n a t I G)(h:SafeI n Γ G){i:Nat}(ha:a<=90000)(ht:t+1<=94000):Later n Γ (G.tick i):=by
 have hI:=g.I;cases hm:G.ms[i]? with
 |none=>unfold GS.tick;rw[hm];exact h.later
 |some m=>
  rw[a8 hm];have mi:=g.ms i m hm;let⟨J,b1,b2,b3,b4,b5⟩:=mi.tick Om Om;have ms:=h.ms i m hm;by_cases hd:m.dn=true
  .have e:m.tick=(m,[]):=by unfold MS.tick;rw[qB (show Xy (m.x,m.D)=true from hd)];exact mi.act0
   rw[e];exact h.done (a:=a) (t:=t) (I:=I) (r:=(m,[])) hm (Yx n i Γ) h.hi ms mi (λg hg=>by cases hg)
  have u:MU a I (17000000+6000*a) i n m:=by
   rcases mi.st with u|d;.exact u
   exact Gr (Ys d.1) hd
  let⟨F,hF,_⟩:=ms.up hd;have ht2:=vf (D:=m.D) h.hi hF u.ub u.id u.n mi.out u.sd Om Om;have hlt:=u.ub.inn.tickP;let⟨Δ,s1,s2,s3,s4⟩:=lI (f:=tickN) h.hi mi u ms ht2.1 ht2.2 hlt.tr hlt.inn.commit.2 hlt.inn.down;exact h.done (a:=a) (t:=t) (I:=I) (r:=m.tick) hm s1 s2 s3 b3 s4
def SafeI.deliver{n a t:Nat}{I:Int}{Γ:GH}{G:GS}(g:GI n a t I G)(h:SafeI n Γ G)(k:Int)(ha:a<=90000)(ht:t<=94000):Later n Γ (G.deliver k):=by
 have hI:=g.I;unfold GS.deliver;split
 .rename_i hb;have hmb:=g.msg _ (jk hb);have hmi:=h.msg _ (jk hb);split
  .split;.exact(h.take k).later
   rename_i m hm;have mi:=g.ms _ m hm;let⟨J,b1,b2,b3,b4,b5⟩:=mi.recv hmb Om Om Om;have ms:=h.ms _ m hm;by_cases hd:m.dn=true
   .have e:m.recv (XV G.st k).2=(m,[]):=by unfold MS.recv;rw[qB (show Xy (m.x,m.D)=true from hd)];exact mi.act0
    rw[e];exact(h.take k).done (a:=a) (t:=t) (I:=I) (G:=G.take k) (r:=(m,[])) hm (Yx n _ Γ) h.hi ms mi (λg hg=>by cases hg)
   have u:MU a I (17000000+6000*a) (XV G.st k).2.to.toNat n m:=by
    rcases mi.st with u|d;.exact u
    exact Gr (Ys d.1) hd
   let⟨F,hF,_⟩:=ms.up hd;have ht2:=vR (D:=m.D) h.hi hF u.ub u.id u.n mi.out u.sd hmi hmb Om Om Om;have hlt:=u.ub.inn.receiveP hmb.ln;let⟨Δ,s1,s2,s3,s4⟩:=lI (f:=λs=>Xz s (XV G.st k).2) h.hi mi u ms ht2.1 ht2.2 hlt.tr hlt.inn.commit.2 hlt.inn.down;exact(h.take k).done (a:=a) (t:=t) (I:=I) (G:=G.take k) (r:=m.recv (XV G.st k).2) hm s1 s2 s3 b3 s4
  exact(h.take k).later
 exact h.later
def SafeI.prop{n a t:Nat}{I:Int}{Γ:GH}{G:GS}(g:GI n a t I G)(h:SafeI n Γ G){i:Nat}{cmd:Bs}(hc:cmd.length<=100)(ha:a<=90000)(ht:t+10<=94000):Later n Γ (G.propose i cmd).2:=by
 have hI:=g.I;cases hm:G.ms[i]? with
 |none=>unfold GS.propose;rw[hm];exact h.later
 |some m=>
  rw[bj hm];have mi:=g.ms i m hm;let⟨J,b1,b2,b3,b4,b5⟩:=mi.prop hc Om Om;have ms:=h.ms i m hm;have hsame:(m.prop cmd).2=(m,[])->Later n Γ (G.done i (m.prop cmd).2.1 (m.prop cmd).2.2):=λe=>by
   rw[e];exact h.done (a:=a) (t:=t) (I:=I) (r:=(m,[])) hm (Yx n i Γ) h.hi ms mi (λg hg=>by cases hg)
  by_cases hd:m.dn=true;.exact hsame (by rw[lB hd,mi.act0])
  have u:MU a I (17000000+6000*a) i n m:=by
   rcases mi.st with u|d;.exact u
   exact Gr (Ys d.1) hd
  by_cases hr:m.x.role=2;.let⟨F,hF,_⟩:=ms.up hd;have ht2:=sU (D:=m.D) (cmd:=cmd) h.hi hF u.ub u.id u.n mi.out u.sd hr hc Om Om;have hlt:=u.ub.inn.entryP hr hc;let⟨P,hfx,hbad⟩:=ht2.1;have e:=gb mi u hr hfx;let⟨Δ,s1,s2,s3,s4⟩:=lI (f:=λs=>Xb s cmd) h.hi mi u ms ⟨P,hfx,hbad⟩ ht2.2 hlt.tr hlt.inn.commit.2 hlt.inn.down;show Later n Γ (G.done i (m.prop cmd).2.1 (m.prop cmd).2.2);rw[<-e]at s3 s4;exact h.done (a:=a) (t:=t) (I:=I) (r:=(m.prop cmd).2) hm s1 s2 s3 b3 s4
  exact hsame (by rw[dO hr,mi.act0])
def SafeI.comp{n a t:Nat}{I:Int}{Γ:GH}{G:GS}(g:GI n a t I G)(h:SafeI n Γ G){i:Nat}(ha:a<=90000)(ht:t<=94000):Later n Γ (G.compact i).2:=by
 have hI:=g.I;cases hm:G.ms[i]? with
 |none=>unfold GS.compact;rw[hm];exact h.later
 |some m=>
  rw[d7 hm];have mi:=g.ms i m hm;have ms:=h.ms i m hm;by_cases hd:m.dn=true;.rw[l5 mi.out hd];exact h.put hm (Yx n i Γ) h.hi ms
  have u:MU a I (17000000+6000*a) i n m:=by
   rcases mi.st with u|d;.exact u
   exact Gr (Ys d.1) hd
  rw[lZ mi u];by_cases h1:m.ap<m.x.g.base;.rw[an h1];exact h.put hm (Yx n i Γ) h.hi ms
  rw[ac h1];let⟨F,hF,hl⟩:=ms.up hd;have hcmm:=u.ub.inn.commit;have hap:=u.ap;have hll:=mi.l;have hai:=mi.ap;have hag:=hF.lo.ag;have hb0:=hag.b0;have hbl:=hag.b;have hla:=hag.last;have hun:=rV hll.2 Om;have hlo2:LogI n Γ i (m.x.g.comp m.ap (ZI m.l)) F:=by
   refine⟨⟨by show 0<=m.ap;omega,by show m.ap.toNat<=_;omega,?_,?_⟩,hF.lo.pl,hF.lo.tm,hF.lo.nn,hF.lo.vv,hF.lo.tf,?_,λ_=>?_,hF.lo.fl⟩;.show m.x.g.all.drop (m.ap-m.x.g.base).toNat=F.drop m.ap.toNat;rw[hag.all,HL];congr 1;omega
   .show(m.x.g.termAt m.ap).getD 0=ZD F m.ap.toNat;have h2:m.x.g.termAt (m.ap.toNat:Int)=some (ZD F m.ap.toNat):=hag.termAt Om;rw[show((m.ap.toNat:Nat):Int)=m.ap by omega]at h2;rw[h2];rfl
   .show Γ.cmt n (F.take m.ap.toNat) m.x.g.term;exact zr hF.cm (IU Om) (Gk _)
   show ZC (ZI m.l)=Yh (F.take m.ap.toNat);rw[hun];exact hl
  have hsl:=bf hll.2 Om;have hi:=(u.ub.inn.comp (i:=m.ap) (s:=ZI m.l) Om Om).inn;have hla2:(m.x.g.comp m.ap (ZI m.l)).last=m.x.g.last:=by unfold LG.comp LG.last at*;simp;omega
  have hy:UB a I {m.x with g:=m.x.g.comp m.ap (ZI m.l)}:=UB.mk0 hi (by show(m.x.g.comp _ _).last<=I;rw[hla2];exact u.ub.lb.last) u.ub.pp (by show((ZC (ZI m.l)).length:Int)<=m.ap/\∀s∈ZC (ZI m.l),s.length<=100;rw[hun];exact hll);have hnn:=hy.inn.nin0 ⟨by omega,by omega,by omega⟩ mi.out;have hsw:=nX (P:=λg=>g=m.x.g) (to:=m.x.g.comp m.ap (ZI m.l)) u.sd (hnn.g Om) u.sd.2.2.2.1 (eW (k:=0) Om hnn) Om rfl;unfold LG.swapD;rcases hsw with⟨p1,p2⟩|⟨p1,p2⟩
  .rw[an p1];refine h.put hm (Yx n i Γ) h.hi ⟨λ_=>⟨F,⟨hlo2,hF.tf,hF.cm,λhr=>hF.ld hr,λhr=>hF.cd hr⟩,hl⟩,λhdn=>?_⟩;have:=fE (x:={m.x with g:=m.x.g.comp m.ap (ZI m.l)}) hy.inn.down p2;exact Gr hdn this
  rw[ac p1];refine h.put hm (Yx n i Γ) h.hi ⟨λhup=>Gr (Ys p2.2.1) hup,λ_ keep=>?_⟩;let⟨rs,p,g',c1,c2,c3,c4,c5⟩:=p2.2.2 keep;exact⟨rs,p,g',c1,c2,c3,c4,F,by rw[c5];exact hF.lo⟩
def SafeI.fuel{n:Nat}{Γ:GH}{G:GS}(h:SafeI n Γ G){i:Nat}(k:Int):Later n Γ (G.fuel i k):=by
 cases hm:G.ms[i]? with
 |none=>unfold GS.fuel;rw[hm];exact h.later
 |some m=>
  rw[dV hm];have ms:=h.ms i m hm;exact h.put hm (Yx n i Γ) h.hi ⟨λhd=>ms.up hd,λhd keep=>ms.dn hd keep⟩
def SafeI.crash{n a t:Nat}{I:Int}{Γ:GH}{G:GS}(g:GI n a t I G)(h:SafeI n Γ G){i:Nat}(keep:Int):Later n Γ (G.crash i keep):=by
 cases hm:G.ms[i]? with
 |none=>unfold GS.crash;rw[hm];exact h.later
 |some m=>
  rw[jX hm,g.len.1];have mi:=g.ms i m hm;have ms:=h.ms i m hm;have hk:∀keep:Int,∃rs p g,(m.D.crash keep).b=Xr rs++p/\yr p/\Plays LG.new rs g/\g.down=false/\∃F,LogI n Γ i g F:=λkeep=>by
   by_cases hd:m.dn=true;.exact ms.dn hd keep
   let⟨F,hF,_⟩:=ms.up hd;have u:MU a I (17000000+6000*a) i n m:=by
    rcases mi.st with u|d;.exact u
    exact Gr (Ys d.1) hd
   exact u.sd.crash_any (P:=λg=>∃F,LogI n Γ i g F) ⟨F,hF.lo⟩ keep
  let⟨⟨F,hF⟩,hsd⟩:=pV (P:=λg=>∃F,LogI n Γ i g F) mi.ok hk keep;obtain⟨q,hq⟩:∃q,q=fH (m.D.crash keep).b:=⟨_,rfl⟩;unfold MS.crash;rw[<-hq]at hF hsd|-;obtain⟨D',hD'⟩:∃D',D'=((m.D.crash keep).open (fF (m.D.crash keep).b) (fG (m.D.crash keep).b)).2:=⟨_,rfl⟩;rw[<-hD']at hsd|-;have hs:=lj (n:=n) (i:=i) (Γ:=Γ) (t:=q.term) hF.tf;have hd:=vg h.hi hF.tf;have hlo:LogI n (Γ.tfU i q.term) i q F:=gn h.hi hs.le hF (λ_ _ h=>h) (λ_ _ h=>h) (by rw[kf];exact Gk _);have hN:NodeI n (Γ.tfU i q.term) i (ND.start i n q) F:=⟨hlo,kf,hlo.cb,λhr=>Gr (show(0:Int)=2 from hr) Dc,λhr=>Gr (show(0:Int)=1 from hr) Dc⟩;have hup:∀(l:List Bs) (ap:Int),(⟨ND.start i n q,D',l,ap⟩:MS).dn=false:=λl ap=>by
   have:=fE (x:=ND.start i n q) rfl hsd;unfold MS.dn;simpa using this
  refine h.put hm hs hd ?_;unfold Zt;have hb0:=hlo.ag.b0;split;.rename_i hb;exact⟨λ_=>⟨F,hN,hlo.st hb⟩,λhdn=>by rw[hup]at hdn;cases hdn⟩
  exact⟨λ_=>⟨F,hN,by simp[Yh]⟩,λhdn=>by rw[hup]at hdn;cases hdn⟩
def SafeI.twice(h:SafeI n Γ G)(k:Int):SafeI n Γ (G.twice k):=by
 refine⟨h.hi,h.ms,λx hx=>?_⟩;have hx:x∈aG G.st G.last k:=hx;unfold aG at hx;split at hx
 .rename_i hb;rcases GE.1 hx with hx|hx
  .exact h.msg x hx
  have:=qZ hx;simp at this;rw[this];exact h.msg _ (jk hb)
 exact h.msg x hx
def SafeI.drop(h:SafeI n Γ G)(k:Int):SafeI n Γ (G.drop k):=h.take k
def GH.new:GH:=⟨λ_=>[],λ_ _=>[],λ_ _=>False,λ_ _ _=>False,λ_ _ _=>False,λ_=>0⟩
def GHI.new(n:Nat):GHI n GH.new:=
 ⟨λ_ _ _ h=>h.elim,λ_ _ h=>h.elim,λ_ _ _ _ h=>h.elim,λ_ _ _ h=>h.elim,λ_ _ _ h=>h.elim,λ_ _ _ h=>h.elim,λ_ _ h=>h.elim,λ_ _ h=>h.elim,λ_ _ h=>h.elim,λ_ _=>rfl,λ_ _ h=>h.elim,λ_ _ h=>h.elim,λ_ _ _ h=>h.elim,λ_ _ _ h=>h.elim⟩
def SafeI.new(n:Nat):SafeI n GH.new (GS.new n):=by
 refine⟨GHI.new n,λi m hm=>?_,λx hx=>by simp[GS.new]at hx⟩;have hi:=(Gj.1 hm).1;have hi:i<n:=by simpa[GS.new]using hi
 simp[GS.new,hi]at hm;subst hm;have hlo:LogI n GH.new i LG.new []:=⟨⟨Gk _,Gl _,rfl,rfl⟩,⟨λj e h=>(by simp at h),List.Pairwise.nil⟩,λe he=>(by cases he),λc k ho=>(by obtain⟨_,e,he,_⟩:=ho;simp[GH.new]at he),λ_ _ h=>h.elim,Gk _,.inl rfl,λh=>Gr h Dc,λ_ h=>h.elim⟩;refine⟨λ_=>⟨[],⟨hlo,rfl,.inl rfl,λhr=>Gr (show(0:Int)=2 from hr) Dc,λhr=>Gr (show(0:Int)=1 from hr) Dc⟩,rfl⟩,λhd=>?_⟩;rw[show(Zt i n LG.new DK.new).dn=false from rfl]at hd;cases hd
end V
end Go.Proofs.YtenfjpigffjgmaaGreat
