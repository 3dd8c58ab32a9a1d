import Derived.Test.YtmfebppagcejcaaGreatMWYXDAGQ1Pa
set_option linter.all false
namespace Go.Proofs.YtmfebppagcejcaaGreat
open Go Go.E Go.Proofs.Tryz
set_option maxRecDepth 100000
set_option maxHeartbeats 2000000
section
variable{W w:World}{H:af}{F:cj}
def gz(F:FS)(v:kt):eL:=(dE F v.aw).aN.getD v.an.toNat default
structure XC(F:FS)(v:kt)(a:AS):Prop where
 u:v.used=a.used
 h:v.high=a.high
 c:a.cap=F.cc.eY
 b:0<=a.used/\a.used<=a.high/\a.high<=a.cap
 z:v.bH=0\/v.bH=1\/v.bH=4->a.used=0/\a.marks=[]
 m:v.bH=2\/v.bH=3->a.marks=[0]/\a.used=(gz F v).dk
 r1:v.bH=1->v.row=0
 r2:v.bH=2->v.row<(gz F v).rows
 r3:v.bH=3->v.row=(gz F v).rows
structure AI(F:FS):Prop where
 a:∀(k:Nat) v a,F.ws[k]?=some v->F.ar[k]?=some a->XC F v a
 t:∀j∈F.aD,∀t∈j.aN,0<=t.dk/\t.dk<=F.cc.eY/\1<=t.rows/\t.rows<=128/\t.aX.length<=4096
 n:0<=F.cc.eY/\F.cc.eY<=1048576
def mb(F G:FS):Prop:=G.cc=F.cc/\G.aD.map (·.aN)=F.aD.map (·.aN)
def mb.trans{F G H:FS}(h:mb F G)(k:mb G H):mb F H:=⟨k.1.trans h.1,k.2.trans h.2⟩
variable{k:Int}
def wK{F:FS}:(dE F k).aN=(F.aD.map (·.aN)).getD k.toNat []:=by
 unfold dE;rw[acp,acp,acE];cases F.aD[k.toNat]?<;>rfl
def mb.bE{F G:FS}(h:mb F G)(v:kt):gz G v=gz F v:=by unfold gz;rw[wK,wK,h.2]
def XC.same{F G:FS}{v:kt}{a:AS}(h:XC F v a)(b:mb F G):XC G v a:=
 ⟨h.u,h.h,h.c.trans (by rw[b.1]),h.b,h.z,by rw[b.bE];exact h.m,h.r1,by rw[b.bE];exact h.r2,by rw[b.bE];exact h.r3⟩
def Ka{F G:FS}(h:mb F G){P:eL->Prop}(hp:∀j∈F.aD,∀t∈j.aN,P t):∀j∈G.aD,∀t∈j.aN,P t:=by
 intro j b t a;let h1:j.aN∈G.aD.map (·.aN):=acG.2 ⟨j,b,rfl⟩;rw[h.2] at h1
 grind
def AI.same{F G:FS}(h:AI F)(c:mb F G)(hw:G.ws=F.ws)(ha:G.ar=F.ar):AI G:=
 ⟨λk v a b b=>(h.a k v a dV dV).same c,by rw[c.1];exact Ka c h.t,by rw[c.1];exact h.n⟩
def AI.lU{F G:FS}{x:Nat}{v':kt}{a':AS}(h:AI F)(b:F.ar.length=F.ws.length)(g:mb F G)(hw:G.ws=F.ws.set x v')(ha:G.ar=F.ar.set x a')(i:∀v a,F.ws[x]?=some v->F.ar[x]?=some a->XC F v a->XC F v' a'):AI G:=by
 refine⟨?_,by rw[g.1];exact Ka g h.t,by rw[g.1];exact h.n⟩;intro k v a f d;rw[hw] at f;rw[ha] at d;rcases lR f with⟨rfl,rfl⟩|⟨e,f⟩
 ·let c:x<F.ws.length:=by grind
  rcases lR d with⟨_,rfl⟩|⟨b,_⟩
  ·exact(i _ _ (aco c) (aco Y) (h.a x _ _ (aco c) (aco Y))).same g
  ·exact absurd Z b
 ·rcases lR d with⟨b,_⟩|⟨_,d⟩
  ·exact absurd b e
  ·exact(h.a k v a f d).same g
theorem uq{aD:List JS}{k:Nat}{j':JS}(h:∀j,aD[k]?=some j->j'.aN=j.aN):(aD.set k j').map (·.aN)=aD.map (·.aN):=by
 grind[List.map_set,List.set_eq_of_length_le,List.length_map,List.getElem?_eq_none_iff,c7]
variable{j:JS}
def K6{F:FS}(h:F.aD[k.toNat]?=some j):(dE F k).aN=j.aN:=by unfold dE;simp_all
variable{x:Int}
def Oc{F:FS}{r:Ref}:mb F (fV F x r):=⟨rfl,uq λj a=>M8⟩
def CJ{x bO cC:Int}:∀(l:aR) {F:FS},mb F (gi F x bO cC l)/\(gi F x bO cC l).ws=F.ws/\(gi F x bO cC l).ar=F.ar/\(gi F x bO cC l).aD=F.aD
 |[],_=>⟨⟨rfl,rfl⟩,rfl,rfl,rfl⟩
 |t::l,F=>by
  let h:mb F (gb F x ⟨bO,t⟩ cC)/\(gb F x ⟨bO,t⟩ cC).ws=F.ws/\(gb F x ⟨bO,t⟩ cC).ar=F.ar/\(gb F x ⟨bO,t⟩ cC).aD=F.aD:=by unfold gb;split<;>exact⟨⟨rfl,rfl⟩,rfl,rfl,rfl⟩
  let a:=CJ (x:=x) (bO:=bO) (cC:=cC) l (F:=gb F x ⟨bO,t⟩ cC);exact⟨h.1.trans a.1,a.2.1.trans h.2.1,a.2.2.1.trans h.2.2.1,a.2.2.2.trans h.2.2.2⟩
def Dj{F F1:FS}{r:Ref}(h:AI F)(b:F.ar.length=F.ws.length)(f:mb F F1)(hw:F1.ws=F.ws)(ha:F1.ar=F.ar)(e:∀v,F.ws[x.toNat]?=some v->v.bH=0\/v.bH=4):AI (fV F1 x r):=by
 by_cases hx:x.toNat<F.ws.length
 ·let d:F.ar[x.toNat]?=some (F.ar.getD x.toNat default):=by simp_all
  exact h.lU (G:=fV F1 x r) (x:=x.toNat) (v':=⟨1,r.bO,r.bE,(eT (dE F1 r.bO).B r.bE).2.1,0,0,(F1.ar.getD x.toNat default).high⟩) (a':=F.ar.getD x.toNat default) b (f.trans Oc) (by unfold fV;rw[hw]) (by rw[c7 d];exact ha) λv a h1 c b=>(by rw[d] at c;obtain rfl:=ace c;let hz:=b.z (by let:=e v h1;omega);refine⟨hz.1.symm,by rw[ha],b.c,b.b,λ_=>hz,λk=>ft,λ_=>rfl,λk=>ft,λk=>ft⟩)
 ·exact(by let h1:fV F1 x r={fV F1 x r with ws:=F.ws}:=(by unfold fV;rw[hw,List.set_eq_of_length_le Y]);let c:mb F1 (fV F1 x r):=Oc;rw[h1];exact h.same (f.trans ⟨c.1,c.2⟩) Z ha)
def O8:iV 0 16=0:=by decide
variable{K:Int}
def Eg{F:FS}{v:kt}(hF:FW F K)(h:AI F)(hx:0<=x/\x<(F.ws.length:Int))(hv:F.ws[x.toNat]?=some v)(hh:Holds v)(hj:F.aD[v.aw.toNat]?=some j):
 AI (dn F x).1:=by
 have c0:=hF.al;have b0:F.ar[x.toNat]?=some (F.ar.getD x.toNat default):=by simp_all
 have hA:=h.a _ _ _ hv b0;have hr:=hF.w v (ab8 hv);have g0:=hr.t hh;obtain⟨j2,f0,ha,hB,hd,o0,p0,hn,ht⟩:=hF.bO g0;rw[show(⟨v.aw,v.an⟩:Ref).bO=v.aw from rfl,hj] at f0;obtain rfl:=ace f0;have e:dE F v.aw=j:=getD_some hj;have h0:gz F v=j.aN.getD v.an.toNat default:=by unfold gz;rw[e]
 have n0:gz F v∈j.aN:=(by rw[h0];have:v.an.toNat<j.aN.length:=(by have:=g0.2.2.1;simp_all);simp_all);have r0:=h.t j (ab8 hj) _ n0;have q0:=h.n;unfold dn;simp only[getD_some hv,e,<-h0];split
 ·rename_i p1;obtain⟨z1,z2⟩:=hA.z (.inr (.inl p1));have k0:mP (F.ar.getD x.toNat default)={F.ar.getD x.toNat default with marks:=[0]}:=(by grind[default,mP]);refine h.lU (x:=x.toNat) c0 ⟨rfl,rfl⟩ rfl Z λv0 a0 h1 h2 h3=>?_;rw[b0] at h2;obtain rfl:=ace h2;rw[hv] at h1;obtain rfl:=ace h1;have hb:=hA.b;have hc:=hA.c;rw[k0];split
  ·rename_i hs;have j0:oq {F.ar.getD x.toNat default with marks:=[0]} (gz F v).dk 16=0:=(by unfold oq;dsimp only;rw[z1,O8,ab9 Y,aca Y]);have d0:lL {F.ar.getD x.toNat default with marks:=[0]} (gz F v).dk 16={F.ar.getD x.toNat default with marks:=[0],used:=0+(gz F v).dk,high:=max (F.ar.getD x.toNat default).high (0+(gz F v).dk)}:=(by unfold lL;rw[aca j0];dsimp only;rw[z1,O8]);rw[d0];refine⟨rfl,rfl,hc,by dsimp only;omega,λk=>ft,λ_=>⟨rfl,?_⟩,λk=>ft,λ_=>?_,λk=>ft⟩
   ·show 0+(gz F v).dk=(gz F v).dk;omega
   ·show v.row<(gz F v).rows;rw[hA.r1 p1];omega
  ·rename_i hs;refine⟨rfl,rfl,hc,hb,λk=>ft,λ_=>⟨rfl,?_⟩,λk=>ft,λ_=>?_,λk=>ft⟩
   ·show(F.ar.getD x.toNat default).used=(gz F v).dk;omega
   ·show v.row<(gz F v).rows;rw[hA.r1 p1];omega
 ·split
  ·rename_i p2;have hm:=hA.m (.inl p2);have m0:=hA.r2 p2;refine h.lU (x:=x.toNat) (a':=F.ar.getD x.toNat default) c0 ⟨rfl,rfl⟩ rfl dV λv0 a0 h1 h2 h3=>?_;rw[b0] at h2;obtain rfl:=ace h2;refine⟨hA.u,hA.h,hA.c,hA.b,λk=>?_,λ_=>hm,λk=>?_,λk=>?_,λk=>?_⟩
   ·dsimp only at k;split at k<;>omega
   ·dsimp only at k;split at k<;>omega
   ·exact(by grind[gz])
   ·exact(by grind[gz])
  ·have p3:v.bH=3:=by unfold Holds at hh;omega
   have hm:=hA.m (.inr p3);have e0:tv (F.ar.getD x.toNat default)={F.ar.getD x.toNat default with used:=0,marks:=[]}:=(by unfold tv;simp_all);have i0:∀G:FS,mb F G->G.ws=F.ws.set x.toNat ⟨0,0,0,0,0,0,(tv (F.ar.getD x.toNat default)).high⟩->G.ar=F.ar.set x.toNat (tv (F.ar.getD x.toNat default))->AI G:=(by intro G hT hw ha2;refine h.lU (x:=x.toNat) c0 hT hw ha2 λv0 a0 h1 h2 h3=>?_;have hb:=hA.b;rw[e0];exact⟨rfl,rfl,hA.c,by dsimp only;omega,λ_=>⟨rfl,rfl⟩,λk=>ft,λk=>by rfl,λk=>ft,λk=>ft⟩);have hs:=CJ (x:=x) (bO:=v.aw) (cC:=j.cC) (fG j.B v.an v.aC).2 (F:={F with aD:=F.aD.set v.aw.toNat {j with B:=(fG j.B v.an v.aC).1},ar:=F.ar.set x.toNat (tv (F.ar.getD x.toNat default)),ws:=F.ws.set x.toNat ⟨0,0,0,0,0,0,(tv (F.ar.getD x.toNat default)).high⟩,st:={F.st with dw:=F.st.dw+1}});split
   ·exact i0 _ ⟨hs.1.1,uq λj3 h3=>dV⟩ hs.2.1 hs.2.2.1
   ·exact i0 _ ⟨hs.1.1,(by grind[uq,Option.some.inj])⟩ hs.2.1 hs.2.2.1
def MK{F:FS}{b:Int}{s:De}(c:FW F K)(h:AI F)(hx:0<=x/\x<(F.ws.length:Int))(hp:b=0\/b=4):AI (ot F x b s):=by
 exact h.lU (x:=x.toNat) c.al ⟨rfl,rfl⟩ rfl Z λv a h1 b c=>(by let e:p9 F x=a:=getD_some b;rw[e];let b:=c.b;exact⟨rfl,rfl,c.c,by dsimp only[ga];omega,λ_=>⟨rfl,rfl⟩,λk=>by dsimp only at k;omega,λk=>by rfl,λk=>ft,λk=>ft⟩)
def Tp{F:FS}(c:FW F K)(h:AI F)(hx:0<=x/\x<(F.ws.length:Int))(hp:(nP F x).bH=4):AI (Ee F x 0):=by
 let b:=c.al;let d:F.ar[x.toNat]?=some (F.ar.getD x.toNat default):=by simp_all
 exact h.lU (x:=x.toNat) (a':=F.ar.getD x.toNat default) b ⟨rfl,rfl⟩ rfl (by rw[c7 d];rfl) λv a h1 b c=>(by rw[d] at b;obtain rfl:=ace b;let e:nP F x=v:=getD_some h1;rw[e] at hp;let hz:=c.z (.inr (.inr hp));exact⟨hz.1.symm,rfl,c.c,c.b,λ_=>hz,λk=>ft,λk=>by rfl,λk=>ft,λk=>ft⟩)
def YQ{F:FS}{v:kt}:mb F (kj F v)/\(kj F v).ws=F.ws/\(kj F v).ar=F.ar:=by
 unfold kj;split
 ·exact⟨⟨rfl,uq λj a=>M8⟩,rfl,rfl⟩
 ·exact⟨⟨rfl,rfl⟩,rfl,rfl⟩
def N6{F:FS}{v:kt}(c:FW F K)(h:AI F)(hx:0<=x/\x<(F.ws.length:Int)):AI (pH (kj F v) x):=by
 let⟨b,hw,ha⟩:=YQ (F:=F) (v:=v);let e:p9 (kj F v) x=p9 F x:=by unfold p9;rw[ha]
 refine h.lU (x:=x.toNat) (v':=⟨4,0,0,0,0,0,(p9 F x).high⟩) (a':=ga (p9 F x)) c.al (b.trans ⟨rfl,rfl⟩) ?_ ?_ ?_
 ·show(kj F v).ws.set x.toNat ⟨4,0,0,0,0,0,(p9 (kj F v) x).high⟩=_;rw[hw,e]
 ·show(kj F v).ar.set x.toNat (ga (p9 (kj F v) x))=_;rw[ha,e]
 intro v a h1 b c;let e:p9 F x=a:=getD_some b;rw[e];let b:=c.b;exact⟨rfl,rfl,c.c,by dsimp only[ga];omega,λ_=>⟨rfl,rfl⟩,λk=>ft,λk=>by rfl,λk=>ft,λk=>ft⟩
def LC{F:FS}(h:AI F):AI (nV F k):=
 h.same ⟨rfl,uq λj a=>M8⟩ rfl Z
def Yo{F:FS}{f:Int}{l:List Task}(b:FW F K)(g:HI F)(h:AI F)(hx:0<=x)(b:F.aD[x.toNat]?=some j)(ha:j.dm=false)(m:im l=0)(n:∀z∈l,z.dk<=F.cc.eY):AI (vK F x l f):=by
 refine⟨?_,?_,h.n⟩
 ·intro k v a h1 e;have c:XC F v a:=h.a k v a h1 e
  have d:Holds v->gz (vK F x l f) v=gz F v:=by
   intro hh;obtain⟨b,b,b,_⟩:=g.h k v h1 hh
   grind[gz,dE,vK]
  exact⟨c.u,c.h,c.c,c.b,c.z,λk=>by rw[d (by unfold Holds;omega)];exact c.m k,c.r1,λk=>by rw[d (by unfold Holds;omega)];exact c.r2 k,λk=>by rw[d (by unfold Holds;omega)];exact c.r3 k⟩
 ·exact rF h.t λt b=>(by obtain⟨z,hz,rfl⟩:=acG.1 b;obtain⟨i,d⟩:=adx hz;have h1:=qd (jI m).2.2 d;have b:=h1;unfold ku at h1;have e:=acy ((ach _ _).mp h1).1;have c:=vm Y (p8 b);have b:=(jI m).2.1;have b:=(aci.1 d).1;exact⟨e.2,n z hz,e.1.1,e.1.2,by show z.aX.l.length<=4096;omega⟩)
def Xg{c:mi}(b:eH c=0):AI (ma c):=by
 let h:=lX b;refine⟨?_,?_,h.2.2.2.1⟩
 ·exact(by intro k v a h1 b;obtain rfl:=ti h1;obtain rfl:=ti b;exact⟨rfl,rfl,rfl,⟨ac2 0,ac2 0,h.2.2.2.1.1⟩,λ_=>⟨rfl,rfl⟩,λk=>ft,λk=>by rfl,λk=>ft,λk=>by rfl⟩)
 ·intro j d t b;obtain rfl:=acK d;cases b
structure FI(F:FS)(K:Int):Prop where
 fw:FW F K
 st:nw F.st K
 q:QI F
 h:HI F
 a:AI F
def FI.mono{F:FS}{K L:Int}(h:FI F K)(a:K<=L)(b:L<=4096):FI F L:=⟨h.fw.mono a b,h.st.mono a,h.q,h.h,h.a⟩
def FI.new{c:mi}(b:eH c=0):FI (ma c) 0:=by
 let h1:=S2 b;let a:=Tq (c:=c) (by let:=lX b;omega);exact⟨h1.1,h1.2,a.1,a.2,Xg b⟩
def FI.idle{F:FS}{v:kt}(h:FI F K)(b:F.ws[x.toNat]?=some v)(a:¬Holds v):v.bH=0\/v.bH=4:=(h.h.z _ v b a).2.2.2.2
def FI.add{F:FS}{a:Int}{l:List Task}(h:FI F K)(hx:0<=x/\x<64)(e:F.aD[x.toNat]?=some j)(ha:j.dm=false)(c:0<=a/\a<4)(d:im l=0)(f:∀z∈l,z.dk<=F.cc.eY)(b:(l.length:Int)<=F.cc.aN-fT F.aD):FI (vK F x l a) K:=by
 let h1:=Wo (l:=l) h.fw hx (λa a=>ft) c d;let a:=RD h.fw h.q h.h b hx.1 c e ha;exact⟨h1,h.st,a.1,a.2,Yo h.fw h.h h.a hx.1 e ha d f⟩
def FI.acq{F F':FS}{c:Int}{ev:oC}(h:FI F K)(hx:0<=x/\x<(F.ws.length:Int))(hn:¬Holds (nP F x))(he:nu F x c=some (F',ev)):QI F'/\HI F'/\AI F':=by
 have hv:=h.fw.sL hx;have h1:=Th h.fw h.q h.h hx (λv k=>ft) he;refine⟨h1.1,h1.2.1,?_⟩;have a0:∀v,F.ws[x.toNat]?=some v->v.bH=0\/v.bH=4:=λv k=>h.idle k dV;unfold nu at he;split at he
 ·exact(by obtain⟨rfl,_⟩:=adn (ace he);exact Dj (F1:=ou F x _) h.a h.fw.al ⟨rfl,rfl⟩ rfl Z a0)
 ·split at he
  ·exact(by rename_i r bs hq;obtain⟨rfl,_⟩:=adn (ace he);exact Dj (F1:={F with q:={F.q with bs:=bs}}) h.a h.fw.al ⟨rfl,rfl⟩ rfl Z a0)
  ·unfold oA at he;split at he
   ·cases he
   ·split at he
    ·cases he
    ·exact(by rename_i i hi _ r hr;obtain⟨rfl,_⟩:=adn (ace he);exact(Dj (F1:=ou F (oE F c i) (gD F (oE F c i)).l.tail) (r:=r) h.a h.fw.al ⟨rfl,rfl⟩ rfl Z a0).same ⟨rfl,rfl⟩ rfl Z)
def FI.ZW{F:FS}(h:FI F K)(f:K+1<=4096)(hx:0<=x/\x<(F.ws.length:Int))(b:iM F (nP F x)=true):QI (dn F x).1/\HI (dn F x).1/\AI (dn F x).1:=by
 unfold iM at b;let⟨h1,a⟩:=(ach _ _).mp b;let hh:Holds (nP F x):=(acy h1:_\/_\/_);let d:=h.fw.sL hx;let⟨j,e,_,_⟩:=h.h.h _ _ d hh;let c:j.bg=true:=by grind[dE]
 let⟨b,a⟩:=Bx h.fw f h.q h.h hx d hh e c;exact⟨b,a,Eg h.fw h.a hx d hh e⟩
def FI.W6{F:FS}(h:FI F K):QI (kJ F)/\HI (kJ F)/\AI (kJ F):=
 ⟨⟨h.q.c,h.q.q4,h.q.cap,h.q.ld⟩,⟨h.h.h,h.h.d,h.h.z⟩,h.a.same ⟨rfl,rfl⟩ rfl Z⟩
def FI.step{F:FS}{c:Int}(h:FI F K)(hK:K+1<=4096):FI (dv F x c).1 (K+1):=by
 let⟨k1,k2,_⟩:=S3 (x:=x) (c:=c) h.fw h.st hK
 let h3:QI (dv F x c).1/\HI (dv F x c).1/\AI (dv F x c).1:=by
  unfold dv;split
  ·exact tX
  ·rename_i hx;let hx:=adg.1 hx;split
   ·exact tX
   ·split
    ·rename_i hh;split
     ·exact(by rename_i hr;exact h.ZW hK hx (by grind[iM]))
     ·exact(by let g:=O7 (F:=F) (x:=x) (s:={F.st with ap:=F.st.ap+1}) h.q h.h (.inl (rfl:(0:Int)=0));exact⟨g.1,g.2,MK h.fw h.a hx (.inl Z)⟩)
    ·rename_i hh;unfold q8;split
     ·exact(by rename_i q hq;exact h.acq hx hh (ev:=q.2) hq)
     ·split
      ·rename_i i hi;let h2:=(pU hi).2.2;unfold gG at h2;let h4:=((ach _ _).mp h2).2;let hb:=vP (F:=F) (c:=c) (i:=i) h.fw.n.1
       let hF:FI (kJ F) (K+1):=by
        let:=h.W6;refine⟨(h.fw.mono Y hK).ss,?_,this.1,this.2.1,this.2.2⟩;let⟨_,_,_,_,_,_,_⟩:=h.st;exact Qy
       let c0:FI (kJ F) K\/True:=.inr trivial;let hw:FW (kJ F) K:=h.fw.ss;unfold iM at h4;let⟨a1,a2⟩:=(ach _ _).mp h4;let a0:Holds (nP F (oE F c i)):=(acy a1:_\/_\/_);let hv:=h.fw.sL hb;let⟨j,hj,_,_⟩:=h.h.h _ _ hv a0;let b0:j.bg=true:=by grind[dE]
       let⟨g1,g2⟩:=Bx (F:=kJ F) hw hK hF.q hF.h hb hv a0 hj b0;exact⟨g1,g2,Eg (F:=kJ F) hw hF.a hb hv a0 hj⟩
      ·exact tX
 exact IC
def FI.Fx{F:FS}(h:FI F K)(hK:K+1<=4096):FI (eG F x).1 (K+1):=by
 let⟨k1,k2,_⟩:=MR (x:=x) h.fw h.st hK
 let h3:QI (eG F x).1/\HI (eG F x).1/\AI (eG F x).1:=by
  unfold eG;split
  ·exact tX
  ·rename_i hx;let hx:=adg.1 hx;split
   ·exact tX
   ·exact(by let g:=KI h.fw h.q h.h hx (h.fw.sL hx);exact⟨g.1,g.2,N6 h.fw h.a hx⟩)
 exact IC
def FI.Dm{F:FS}(h:FI F K)(hK:K+1<=4096):FI (dH F x).1 (K+1):=by
 let⟨k1,k2,_⟩:=Hu (x:=x) h.fw h.st hK
 let h3:QI (dH F x).1/\HI (dH F x).1/\AI (dH F x).1:=by
  unfold dH;split
  ·exact tX
  ·rename_i hx;let hx:=adg.1 hx;split
   ·exact(by rename_i h4;let g:=Qg (F:=F) (x:=x) h.q h.h;exact⟨g.1,g.2,Tp h.fw h.a hx h4⟩)
   ·exact tX
 exact IC
def FI.cancel{F:FS}(h:FI F K)(hK:K+1<=4096):FI (cL F k).1 (K+1):=by
 let⟨k1,k2,_⟩:=Le (k:=k) h.fw h.st hK
 let h3:QI (cL F k).1/\HI (cL F k).1/\AI (cL F k).1:=by
  unfold cL;split
  ·exact tX
  ·rename_i hk;split
   ·exact tX
   ·let hj:F.aD[k.toNat]?=some (dE F k):=(by unfold dE;let h1:k.toNat<F.aD.length:=(by rw[h.fw.jl];omega);simp_all);let g:=H4 (F:=F) (k:=k) h.q h.h Y hj;exact⟨g.1,g.2,LC h.a⟩
 exact IC
def FI.rel{F:FS}(h:FI F K)(hx:0<=x/\x<(F.ws.length:Int)){v:kt}{a:AS}(b:F.ws[x.toNat]?=some v)(ha:F.ar[x.toNat]?=some a)(hp:v.bH=3):tv a=ga a:=by
 let:=(h.a.a _ _ _ b ha).m (.inr hp)
 grind[tv,ga]
variable{B:BS}
def va{i a:Int}(b:su B K)(h:fS B i a=0):bT B<(B.aX.length:Int):=by
 let hz:=fQ h;let h1:bT B<=(B.aX.length:Int):=(by unfold bT;let:=ade (λx=>decide (x=4)) B.st;rw[b.ls] at this;omega);by_cases e:bT B=(B.aX.length:Int)
 ·exact(by exfalso;unfold bT at e;let c:(B.st.filter λx=>decide (x=4)).length=B.st.length:=(by rw[b.ls];omega);let b:=wB c;let b:=mX hz.2.1 fe;grind[ic,px])
 ·omega
variable{p:Nat}
def IR{a:cf}{n k:Nat}{g:List cA}{c:af}{d:Int}(h:aF lW 267 4 a n k g c)(i:Int)(l:X W w (aW p #[.slice a n k,I d] 304::c::F)):
 Calls prog 221 #[Pt p 0,I i] w λe f=>X W f (aW p #[.slice a n k,I d] 304::c::F)/\((¬(0<=i/\i<n)/\e=.returned (.pointer none))\/((0<=i/\i<n)/\∃(x:cA) (b o:Nat),e=.returned (.pointer (some ⟨b,o+i.toNat*4,none⟩))/\g[i.toNat]?=some x/\a=some ⟨b,o,none⟩)):=by
 let f:=h.ll;exact aq 26 func221 Z<|Q 15<|sD 11 (i<0) (λf=>RO 18 [.pointer none]<|⟨l,.inl ⟨Y,rfl⟩⟩) λf=>GO l 10 [0]<|cD (i>=(n:Int)) (λf=>RC 7 [.pointer none]<|⟨l,.inl ⟨Y,rfl⟩⟩) λf=>GC l 9 [0]<|i9 h i i.toNat λ_ g f j _ h=>RO 4 [.pointer (some ⟨g,f+i.toNat*4,none⟩)]<|⟨l,.inr ⟨Y,_,_,_,rfl,j,h⟩⟩
def PY{a:cf}{n k:Nat}{g:List cA}{c:af}{d:Int}(s:aF lW 267 4 a n k g c)(i m:Int)(h:X W w (aW p #[.slice a n k,I d] 304::c::F)):
 Calls prog 155 #[Pt p 0,I i,I m] w λe f=>X W f (aW p #[.slice a n k,I d] 304::c::F)/\((¬(0<=i/\i<n)/\e=.returned (.tuple #[.pointer none,I 16]))\/((0<=i/\i<n)/\∃x:cA,g[i.toNat]?=some x/\¬(x.bS=3/\x.aC=m)/\e=.returned (.tuple #[.pointer none,I 20]))\/((0<=i/\i<n)/\∃(x:cA) (b o:Nat),e=.returned (.tuple #[.pointer (some ⟨b,o+i.toNat*4,none⟩),I 0])/\g[i.toNat]?=some x/\a=some ⟨b,o,none⟩/\x.bS=3/\x.aC=m)):=by
 let f:=s.ll;refine aq 28 func155 Z<|Q 10<|let f:=(h.az [1,1]);cZ (IR s i f) ?_;rintro _ _⟨h,(⟨l,rfl⟩|⟨l,g,h0,t,rfl,q,r⟩)⟩
 ·exact RO 19 [.pointer none,I 16]<|⟨h,.inl ⟨l,rfl⟩⟩
 let j:=aF.ptr s r q;exact JO 19<|eB h (j.up 1 Z) 0 (I g.bS)<|cG<|SN 19 g.bS 3 (λf=>RO 18 [.pointer none,I 20]<|⟨h,.inr (.inl ⟨l,_,q,Y,rfl⟩)⟩) λf=>gw<|gY<|eB h (j.up 1 Z) 1 (I g.aC)<|JO 5<|CN g.aC m (λf=>RC 8 [.pointer none,I 20]<|⟨h,.inr (.inl ⟨l,_,q,Y,rfl⟩)⟩) λf=>RC 10 [.pointer (some ⟨h0,t+i.toNat*4,none⟩),I 0]<|⟨h,.inr (.inr ⟨l,_,_,_,rfl,q,r,Y⟩)⟩
def SS{M:af}(h:kR p B M)(f:su B K)(i:Int)(g:X W w (M::H::F)):
 Calls prog 182 #[Pt p 0,I i] w λe d=>∃b:af,e=.returned (.tuple #[I (eT B i).2.1,I (eT B i).2.2])/\kR p ((eT B i).1) b/\X W d (b::H::F):=by
 obtain⟨a,n,k,r,c,G,rfl,j,s,o⟩:=h;let g:X W _ (aW p #[.slice a n k,I (bT B)] 304::c::G::H::F):=X.perm g (by simp);let b:=j.ll;let b:=lF o;let u:=f.ls;let t:=f.la;let b:=f.n0;refine aq 24 func182 Z<|Q 10<|let h0:=(g.az [1,1]);cZ (IR j i h0) ?_
 rintro _ _⟨g,(⟨b,rfl⟩|⟨b,d,_,_,rfl,h,m⟩)⟩
 ·exact RO 19 [I 0,I 16]<|(by let f:X W _ (((aW p #[.slice a n k,I (bT B)] 304)++(c++G))::H::F):=X.perm g (by simp);let b:¬Ah B i:=Gp;let he:eT B i=(B,0,16):=(by unfold eT;rw[ab9 b]);exact⟨_,by rw[he];rfl,by rw[he];exact⟨_,_,_,r,c,G,rfl,j,s,o⟩,f⟩)
 let b:=aF.ptr j m h;refine JO 19<|eB g (b.up 1 Z) 0 (I d.bS)<|JO 3<|CN d.bS 2 (λl=>RC 8 [I 0,I 20]<|(by let q:=qX o h;let f:Ah B i:=Gp;let b:X W _ (((aW p #[.slice a n k,I (bT B)] 304)++(c++G))::H::F):=X.perm g (by simp);let he:eT B i=(B,0,20):=(by unfold eT;rw[aca f,ab9 Jx]);exact⟨_,by rw[he];rfl,by rw[he];exact⟨_,_,_,r,c,G,rfl,j,s,o⟩,b⟩)) λl=>Q 7<|fj g j m 1 i.toNat 0 d (⟨3,d.aC,d.cp,d.next⟩:cA) h (I 3) [I 3] sizeOf3 λ_ g j b=>JO 7<|eB b ((aF.ptr j m (gW (y:=(⟨3,d.aC,d.cp,d.next⟩:cA)) h)).up 1 Z) 1 (I d.aC)<|RO 5 [I d.aC,I 0] ?_;let q:=qX o h;let f:Ah B i:=by unfold Ah;omega
 let l:X W _ (((aW p #[.slice a n k,I (bT B)] 304)++(g++G))::H::F):=X.perm b (by simp);let he:eT B i=(⟨B.aX,B.st.set i.toNat 3,B.mZ⟩,B.mZ.getD i.toNat 0,0):=by unfold eT;rw[aca f,aca Jx]
 let b:=yX (x':=(⟨3,d.aC,d.cp,d.next⟩:cA)) (y:=3) u t o h Y Y Z q.2.2.1 Z Z;rw[Fu] at b;refine⟨_,by rw[he];exact acd (λz=>Ending.returned (.tuple #[I z,I 0])) q.2.2.1,by rw[he];exact⟨_,_,_,_,g,G,by rw[b.2],j,zh s h Z,b.1⟩,l⟩
def OP{M:af}(g:kR p B M)(u:su B K)(i:Int)(m:Int)(b:K<=4611686018427387904)(f:X W w (M::H::F)):
 Calls prog 91 #[Pt p 0,I i,I m] w λe d=>∃b:af,e=.returned (I (fS B i m))/\kR p (jR B i m) b/\X W d (b::H::F):=by
 obtain⟨a,n,k,v,c,G,rfl,h,A,o⟩:=g;let f:X W _ (aW p #[.slice a n k,I (bT B)] 304::c::G::H::F):=X.perm f (by simp);let b:=h.ll;let b:=lF o;let D:=u.ls;let C:=u.la;let b:=u.n0;refine aq 29 func91 Z<|Q 10<|let b:=(f.az [1,1]);cZ (PY h i m b) ?_
 rintro _ _⟨f,(⟨b,rfl⟩|⟨b,g,j,d,rfl⟩|⟨b,g,_,_,rfl,j,l,d⟩)⟩
 ·exact RO 23 [I 16]<|(by let b:X W _ (((aW p #[.slice a n k,I (bT B)] 304)++(c++G))::H::F):=X.perm f (by simp);let w0:¬Ah B i:=Gp;let he:fS B i m=16:=(by unfold fS;rw[ab9 w0]);exact T5)
 ·exact RO 23 [I 20]<|(by let x:=qX o j;let t:Ah B i:=Gp;let b:X W _ (((aW p #[.slice a n k,I (bT B)] 304)++(c++G))::H::F):=X.perm f (by simp);let he:fS B i m=20:=(by unfold fS;rw[aca t,ab9 Jx]);exact T5)
 let b:=aF.ptr h l j;refine JO 22<|fj f h l 1 i.toNat 0 g (⟨2,g.aC,g.cp,g.next⟩:cA) j (I 2) [I 2] sizeOf3 λ_ _ f d=>JO 3<|let b:=qX o j;let b:=u.mZ _ (px (q:=i.toNat) (s:=B.mZ) Y);Q 4<|let h0:=gW (y:=(⟨2,g.aC,g.cp,g.next⟩:cA)) j;eB d ((aF.ptr f l h0).up 1 Z) 1 (I g.aC)<|aU g.aC 1<|cG<|fj d f l 1 i.toNat 1 (⟨2,g.aC,g.cp,g.next⟩:cA) (⟨2,(g.aC+1),g.cp,g.next⟩:cA) h0 (I (g.aC+1)) [I (g.aC+1)] sizeOf3 λ_ d f b=>?_;rw[adD] at f;exact RO 8 [I 0]<|let x:=qX o j;let t:Ah B i:=Gp;let h:X W _ (((aW p #[.slice a n k,I (bT B)] 304)++(d++G))::H::F):=X.perm b (by simp);let he:fS B i m=0:=(by unfold fS;rw[aca t,aca Jx]);let r:jR B i m=⟨B.aX,B.st.set i.toNat 2,B.mZ.set i.toNat (m+1)⟩:=(by unfold jR;rw[aca he]);let b:=yX (x':=(⟨2,(g.aC+1),g.cp,g.next⟩:cA)) (y:=2) (z:=m+1) D C o j Y Y Z rD Z Z;⟨_,by rw[he];rfl,by rw[r];exact⟨_,_,_,_,d,G,by rw[b.2],f,zh A j Z,b.1⟩,h⟩
def XM{M:af}(i:kR p B M)(g:su B K)(h:X W w (M::H::F)):
 Calls prog 158 #[Pt p 0] w λe b=>e=.returned (I (bT B))/\X W b (M::H::F):=by
 obtain⟨a,n,k,b,c,G,rfl,d,b,f⟩:=i;let h:X W _ (aW p #[.slice a n k,I (bT B)] 304::c::G::H::F):=X.perm h (by simp);let b:=d.ll;let b:=lF f;let b:=g.ls;let b:=g.la;let b:=g.n0;exact aq 9 func158 Z<|LX h 25 [0] Z<|fc [I (bT B)]<|(by let b:X W _ (((aW p #[.slice a n k,I (bT B)] 304)++(c++G))::H::F):=X.perm h (by simp);exact⟨rfl,b⟩)
def RL{M:af}(i:kR p B M)(g:su B K)(h:X W w (M::H::F)):
 Calls prog 159 #[Pt p 0] w λe b=>e=.returned (I B.aX.length)/\X W b (M::H::F):=by
 obtain⟨a,n,k,b,c,G,rfl,d,b,f⟩:=i;let h:X W _ (aW p #[.slice a n k,I (bT B)] 304::c::G::H::F):=X.perm h (by simp);let b:=d.ll;let b:=lF f;let b:=g.ls;let b:=g.la;let b:=g.n0;exact aq 10 func159 Z<|LX h 26 [0] Z<|fc [I n]<|(by let b:X W _ (((aW p #[.slice a n k,I (bT B)] 304)++(c++G))::H::F):=X.perm h (by simp);exact⟨by rw[show B.aX.length=n by omega];rfl,b⟩)
def Sy{M:af}(o:kR p B M)(l:su B K)(m:X W w (M::H::F)):
 Calls prog 154 #[Pt p 0] w λe j=>∃(f:cf) (b d:Nat) (Zz g:af),e=.returned (.slice f b d)/\bl ca 1 [Zz] f b d (idxOf 2 0 B.st)/\kR p B g/\X W j (Zz::g::H::F):=by
 obtain⟨a,n,k,u,c,G,rfl,r,t,s⟩:=o;let m:X W _ (aW p #[.slice a n k,I (bT B)] 304::c::G::H::F):=X.perm m (by simp);let b:=r.ll;let b:=lF s;let b:=l.ls;let b:=l.la;let b:=l.n0;refine aq 27 func154 Z<|GC m 32 [0]<|bF [11,12] (γ:=Nat×aR×SO) (λ⟨i,o,l,q,j,g⟩ R=>⟨[(13,I i),(3,.slice l q j)],g::R,n-i,i<=n/\(o=idxOf 2 0 (B.st.take i))/\(o.length<=i)/\aF ca 3 1 l q j o g⟩) (0,[],none,0,0,[]) ⟨(X.bU m),Y,rfl,by simp,(aF.nil (enc:=ca) (E:=3) (sz:=1) fR)⟩ ?_
 rintro⟨i,o,l,q,j,g⟩ V _⟨f,b,hz,b,m⟩;let b:=m.ll;exact Q 6<|CD ((i:Int)<n) (λd=>RC 12 [.slice l q j]<|(by let h0:X W _ (g::((aW p #[.slice a n k,I (bT B)] 304)++(c++G))::H::F):=X.perm f (by simp);let b:o=idxOf 2 0 B.st:=(by rw[hz,acj Y]);let w0:=(m.dt (O:=[g]) 0 Z);rw[b] at w0;exact⟨_,_,_,_,_,rfl,w0,⟨_,_,_,u,c,G,rfl,r,t,s⟩,h0⟩)) λd=>Q 7<|i9 r (i:Int) i λd _ _ r b _=>lv f (b.up 2 Z) 0 (lW d)<|aI f zeroValue267 λ_ _ b=>bf<|bP b 0 Z (lW d) λ_ b=>GO b 9 [0]<|CE d.bS 2 (λd=>Q 4<|aU (i:Int) 1<|bX 2 Z<|⟨(i+1,o,l,q,j,g),od,bR,(b.aj 0 Z),Y,(Zc hz Y (by let h:=(qX s r).2.1;omega)),Qm,m⟩) λd=>Q 3<|ec b #[I i] 3 λ_ _ b=>dM (nb:=8) b m 2 (bl.dO (enc:=ca) (sz:=1) (xs:=[(i:Int)]) fR 1 0 Z Z Z Y) underlying22 (i:=Tryz.t3) kr fR λb g f _ j d=>JO 5<|aU (i:Int) 1<|bX 2 Z<|⟨(i+1,(o++[(i:Int)]),b,(q+1),g,f),od,bR,(d.ap [0,0]),Y,(Zw hz Y (by let h:=(qX s r).2.1;omega)),Qm,j⟩
def Md{b:List cA}{i:Nat}{x x':cA}(c:su B K)(h:b.map cA.v=mA B)(hx:b[i]?=some x)(h1:x'.bS=4)(a:x'.aC=x.aC)(a:x'.cp=x.cp)(a:x'.next=x.next):
 (b.set i x').map cA.v=(List.range B.aX.length).map (vS B (B.st.set i 4) ((dS 0 B.aX i).take 0)):=by
 obtain⟨a,a,a,a,a⟩:=qX h hx;have a:=c.ls;refine qH (f:=HA B) h (λq a a=>?_) (λ_=>?_)
 ·simp only[HA,vS,adN,acW,adR,me];rw[ab9 Y]
 grind[cA.v,vS]
def Nb{a:List cA}{i j:Nat}{z:Int}{y:cA}(c:su B K)(hi:i<B.aX.length)(b:B.st.getD i 0=3)
 (h:a.map cA.v=(List.range B.aX.length).map (vS B (B.st.set i 4) ((dS 0 B.aX i).take j))) (hz:(dS 0 B.aX i)[j]?=some z) (hy:a[z.toNat]?=some y):0<=y.cp-1/\y.cp<=4096:=by
 have h1:=(ys (y':=⟨if y.cp-1=0 then 2 else y.bS,y.aC,y.cp-1,y.next⟩) c hi b h hz hy Z Z Z Z).2;obtain⟨q,a,a,a⟩:=wc.1 (ab8 hz);have b:B.aX[z.toNat]?=some (B.aX.getD z.toNat []):=by simp_all
 have a:=vm Y (c.Xj _ _ b);have a:fH (B.st.set i 4) (B.aX.getD z.toNat [])<=((B.aX.getD z.toNat []).length:Nat):=by grind[fH,decide,fA]
 have a:0<=fH (B.st.set i 4) (B.aX.getD z.toNat []):=by unfold fH;omega
 have:=c.n0;omega
end
section
variable{W w:World}{H:af}{F:cj}
theorem yg:∀(k:Nat) (D:List aR) (j:Int),(dS k D j).length<=D.length
 |_,[],_=>by simp[dS]
 |k,d::D,j=>by
  let:=yg (k+1) D j
  grind[dS]
variable{n i:Nat}
def Fp{a:List cA}{l:List Task}{q:Nat}{e:aR}{x:cA}(h:a.map cA.v=(List.range n).map (oH l (i+1) ((l.map (·.aX.l)).take i++[e])))(hx:a[q]?=some x)(hi:i<4096):x.next.l.length<=4096:=by
 let h1:=(zj h hx).2;let a:=acd jS.next h1
 grind[yg,dS,cA.v,oH]
def Zt(a:cf)(t kl:Nat)(l:List Task)(o:bl cw 9 [H] a t kl l)(dl:∀z∈l,Task.Ok [H] z)(b:X W w (H::F)):
 Calls prog 151 #[.slice a t kl] w λe a=>(im l≠0/\e=.returned (.tuple #[.pointer none,I (im l)])/\X W a (H::F))\/(im l=0/\∃(p:Nat) (M:af),e=.returned (.tuple #[Pt p 0,I 0])/\kR p (jw l) M/\X W a (M::H::F)):=by
 have a:=o.ll;refine aq 95 func151 Z<|Q 13<|sE 15 (t:Int) 0 (λa=>RO 15 [.pointer none,I 5]<|Vm) λa=>JO 6<|cD ((t:Int)>4096) (λa=>RC 8 [.pointer none,I 5]<|Vm) λa=>Q 11<|bF [0,20,21] (γ:=Nat) (λi R=>⟨[(22,I i)],R,t-i,i<=t/\(gn 0 (l.take i)=true)/\(0<t/\t<=4096)⟩) 0 ⟨b,Y,by simp[gn],Y⟩ ?_;rintro i V _⟨h,q,m,a⟩;refine Q 6<|cD ((i:Int)<t) (λn=>Q 7<|kQ o i λb _ _ g a=>lv h (a.up 0 Z) 0 (cw b)<|aI h zeroValue143 λ_ _ a=>bf<|bP a 0 Z (cw b) λ_ a=>GO a 6 [900]<|cS (RQ b (i:Int) ⟨(bl.ao ((dl b (ab8 g)).aX.up 1 (by rfl)))⟩ a.ao) λ_ a=>JO 3<|UX (ku (i:Int) b) (λb=>Q 4<|aU (i:Int) 1<|bX 2 Z<|⟨i+1,od,bR,(a.aj 0 Z),Y,(by rw[vj g,m];simpa using b),Y⟩) λb=>RC 12 [.pointer none,I 1]<|(by have f:=(a.aj 0 Z);have a:=Ho Y Y (Ae g (by simpa using b));exact .inl ⟨by rw[a];decide,by rw[a];rfl,f⟩)) λn=>Q 6 ?_;have n:gn 0 l=true:=by rw[<-acj (i:=i) (l:=l) Y];exact m
 refine Q 3<|gC (kl:=.i64) (kc:=.i64) (enc:=lW) (sz:=4) (nb:=48) h ⟨0,0,0,⟨none,0,0,[]⟩⟩ t (t:Int) (rfl:(t:Int)=t) underlying302 (i:=Tryz.t267) kr fR λb f _ h a=>bf<|eD a [.slice (At b 0) t t,I 0] λP _ a=>JO 12 ?_;have g:X W _ (aW P #[.slice (At b 0) t t,I 0] 304::f::(List.replicate t ([]:af)).flatten::H::F):=X.perm a (by simp);refine bF [37,38,6] (γ:=Nat×cf×Nat×(List cA)×af×cj) (λ⟨i,G,J,es,c,O⟩ R=>⟨[(39,I i)],aW P #[.slice G t J,I 0] 304::c::O.flatten::R,t-i,i<=t/\aF lW 267 4 G t J es c/\Nx es O/\es.map cA.v=(List.range t).map (oH l i ((l.map (·.aX.l)).take i))⟩) (0,(At b 0),t,(List.replicate t ⟨0,0,0,⟨none,0,0,[]⟩⟩),f,(List.replicate t [])) ⟨g,Y,h,Nx.rep _ _ Z,(by rw[adN];exact Ly l t _ Z)⟩ ?_;rintro⟨i,G,J,es,c,O⟩ V _⟨f,q,g,hN,hE⟩;have R0:=g.ll;refine Q 6<|CD ((i:Int)<t) (λh=>RC 13 [Pt P 0,I 0]<|(by obtain rfl:t=i:=(by omega);have b:=Ob Y hE;have a:X W _ (((aW P #[.slice G t J,I 0] 304)++(c++O.flatten))::H::F):=X.perm f (by simp);exact .inr ⟨BV Y Y n,_,_,rfl,⟨_,_,_,es,c,O.flatten,by rw[Ff],g,hN.ok,b⟩,a⟩)) λh=>Q 7<|kQ o i λs _ _ S a=>lv f (a.up 3 Z) 0 (cw s)<|aI f zeroValue143 λ_ _ a=>bf<|bP a 0 Z (cw s) λ_ b=>er ?_;have hA:=p8 (qd n S);have a:=(dl s (ab8 S)).aX.len;have a:=(dl s (ab8 S)).aX.le;refine GX b 8 [1]<|i9 g (i:Int) i λq _ _ Qz _ T=>JO 8<|fj b g T 2 i 0 q (⟨2,q.aC,q.cp,q.next⟩:cA) Qz (I 2) [I 2] sizeOf3 λ_ _ f b=>GO b 10 [0] ?_;have g:=gW (y:=(⟨2,q.aC,q.cp,q.next⟩:cA)) Qz;have a:=aF.ptr f T g;refine fj b f T 2 i 2 (⟨2,q.aC,q.cp,q.next⟩:cA) (⟨2,q.aC,(s.aX.n:Int),q.next⟩:cA) g (I s.aX.n) [I s.aX.n] sizeOf3 λ_ b Xz U=>?_;rw[adD] at Xz;refine JO 8 ?_;have t1:=gW (y:=(⟨2,q.aC,(s.aX.n:Int),q.next⟩:cA)) Qz;refine eB U ((aF.ptr Xz T t1).up 2 Z) 2 (I s.aX.n)<|JO 3<|cD ((s.aX.n:Int)>0) (λa=>?_) (λa=>?_);rotate_left
 ·refine GC U 11 [0]<|bF [68,69,7,6,39,37,38] (γ:=Nat×(List cA)×af×cj) (λ⟨j,K,x,E⟩ R=>⟨[(70,I j)],aW P #[.slice G t J,I 0] 304::x::E.flatten::R,s.aX.n-j,j<=s.aX.n/\aF lW 267 4 G t J K x/\Nx K E/\K.map cA.v=(List.range t).map (oH l (i+1) ((l.map (·.aX.l)).take i++[s.aX.l.take j]))⟩) (0,(es.set i (⟨2,q.aC,(s.aX.n:Int),q.next⟩:cA)),b,O) ⟨(U.aj 0 Z),Y,Xz,(Nx.keep hN Qz Z),(Bc hE S Qz V5 Z rD Z)⟩ ?_;rintro⟨j,K,x,E⟩ V _⟨b,hj,B,e,Oz⟩;have G0:=B.le;have F0:=B.len;refine Q 6<|CD ((j:Int)<s.aX.n) (λa=>Q 7<|aU (i:Int) 1<|bX 2 Z<|VM) λa=>Q 6<|oJ (dl s (ab8 S)).aX (j:Int) λn _ _ N a=>?_;rw[acD] at N;refine eB b (a.up 3 Z) 0 (I n)<|JO 3 ?_;have K0:=nR hA n (ab8 N);obtain⟨f,_,_,C,_,_,_⟩:=aF.elem B n;obtain⟨a,L,m⟩:=e.get C;have M0:=m.le;have N0:=m.len;have h:=X.iw (A:=[(aW P #[.slice G t J,I 0] 304),x]) n.toNat L b;change X _ _ (a::aW P #[.slice G t J,I 0] 304::x::(E.eraseIdx n.toNat).flatten::H::F) at h;have O0:f.next.l.length<=4096:=Fp Oz C Y;obtain⟨b,a,a,u,g,r,v⟩:=aF.elem B n;obtain rfl:f=b:=ace (C.symm.trans u);exact bJ h [14,15,18] (fb 3 1 0 1<|fb 8 1 0 1<|fq 12 3 (g.up 2 Z)<|fn) [0,1,2,4,5,6,7,9,13,3,8,10,11,12,14,15,16,17,18] λ_ a=>wV 9<|wL 0<|wL 1<|wI r<|wV 1<|wL 2<|wO Z<|ec a #[I i] 3 λ_ _ a=>er ⟨⟨cI a 2,cI a 2,.inr ((g.up 3 Z).cell a (k:=3) Z),trivial⟩,(wO Z<|dM (nb:=8) a m 1 (bl.dO (enc:=ca) (sz:=1) (xs:=[(i:Int)]) fR 1 0 Z Z Z Y) underlying22 (i:=Tryz.t3) kr fR λh m o _ D a=>nZ a [2,2]<|wI r<|wV 1<|wO Z<|fj a B v 3 n.toNat 3 f (⟨f.bS,f.aC,f.cp,⟨h,(f.next.n+1),m,(f.next.l++[(i:Int)])⟩⟩:cA) u (.slice h (f.next.n+1) m) [.slice h (f.next.n+1) m] sizeOf22 λ_ g r a=>nA<|wN<|(by have b:=(a.aj 0 Z);have a:=X.eV (d:=o) (A:=[(aW P #[.slice G t J,I 0] 304),g]) n.toNat L b;change X _ _ (aW P #[.slice G t J,I 0] 304::g::(E.set n.toNat o).flatten::H::F) at a;exact JX 3<|aU (j:Int) 1<|bX 2 Z<|⟨(j+1,(K.set ((n).toNat) (⟨f.bS,f.aC,f.cp,⟨h,(f.next.n+1),m,(f.next.l++[(i:Int)])⟩⟩:cA)),g,(E.set n.toNat o)),od,bR,a,Y,r,(e.set D),(Fh Oz S N hA C Z Z Z Z)⟩))⟩
 refine Q 4<|fj U Xz T 2 i 0 (⟨2,q.aC,(s.aX.n:Int),q.next⟩:cA) (⟨1,q.aC,(s.aX.n:Int),q.next⟩:cA) t1 (I 1) [I 1] sizeOf3 λ_ f b a=>?_;rw[adD] at b;refine GO a 11 [0]<|bF [68,69,7,6,39,37,38] (γ:=Nat×(List cA)×af×cj) (λ⟨j,K,x,E⟩ R=>⟨[(70,I j)],aW P #[.slice G t J,I 0] 304::x::E.flatten::R,s.aX.n-j,j<=s.aX.n/\aF lW 267 4 G t J K x/\Nx K E/\K.map cA.v=(List.range t).map (oH l (i+1) ((l.map (·.aX.l)).take i++[s.aX.l.take j]))⟩) (0,(es.set i (⟨1,q.aC,(s.aX.n:Int),q.next⟩:cA)),f,O) ⟨(a.aj 0 Z),Y,b,(Nx.keep hN Qz Z),(Bc hE S Qz V5 Z rD Z)⟩ ?_;rintro⟨j,K,x,E⟩ V _⟨b,hj,B,e,Oz⟩;have G0:=B.le;have F0:=B.len;refine Q 6<|CD ((j:Int)<s.aX.n) (λa=>Q 7<|aU (i:Int) 1<|bX 2 Z<|VM) λa=>Q 6<|oJ (dl s (ab8 S)).aX (j:Int) λh0 _ _ h1 a=>?_;rw[acD] at h1;refine eB b (a.up 3 Z) 0 (I h0)<|JO 3 ?_;have K0:=nR hA h0 (ab8 h1);obtain⟨f,_,_,r,_,_,_⟩:=aF.elem B h0;obtain⟨a,u,m⟩:=e.get r;have M0:=m.le;have N0:=m.len;have h:=X.iw (A:=[(aW P #[.slice G t J,I 0] 304),x]) h0.toNat u b;change X _ _ (a::aW P #[.slice G t J,I 0] 304::x::(E.eraseIdx h0.toNat).flatten::H::F) at h;have O0:f.next.l.length<=4096:=Fp Oz r Y;obtain⟨b,a,a,o,g,n,q⟩:=aF.elem B h0;obtain rfl:f=b:=ace (r.symm.trans o);exact bJ h [14,15,18] (fb 3 1 0 1<|fb 8 1 0 1<|fq 12 3 (g.up 2 Z)<|fn) [0,1,2,4,5,6,7,9,13,3,8,10,11,12,14,15,16,17,18] λ_ a=>wV 9<|wL 0<|wL 1<|wI n<|wV 1<|wL 2<|wO Z<|ec a #[I i] 3 λ_ _ a=>er ⟨⟨cI a 2,cI a 2,.inr ((g.up 3 Z).cell a (k:=3) Z),trivial⟩,(wO Z<|dM (nb:=8) a m 1 (bl.dO (enc:=ca) (sz:=1) (xs:=[(i:Int)]) fR 1 0 Z Z Z Y) underlying22 (i:=Tryz.t3) kr fR λh w0 m _ s a=>nZ a [2,2]<|wI n<|wV 1<|wO Z<|fj a B q 3 h0.toNat 3 f (⟨f.bS,f.aC,f.cp,⟨h,(f.next.n+1),w0,(f.next.l++[(i:Int)])⟩⟩:cA) o (.slice h (f.next.n+1) w0) [.slice h (f.next.n+1) w0] sizeOf22 λ_ g n a=>nA<|wN<|(by have b:=(a.aj 0 Z);have a:=X.eV (d:=m) (A:=[(aW P #[.slice G t J,I 0] 304),g]) h0.toNat u b;change X _ _ (aW P #[.slice G t J,I 0] 304::g::(E.set h0.toNat m).flatten::H::F) at a;exact JX 3<|aU (j:Int) 1<|bX 2 Z<|⟨(j+1,(K.set ((h0).toNat) (⟨f.bS,f.aC,f.cp,⟨h,(f.next.n+1),w0,(f.next.l++[(i:Int)])⟩⟩:cA)),g,(E.set h0.toNat m)),od,bR,a,Y,n,(e.set s),(Fh Oz S h1 hA r Z Z Z Z)⟩))⟩
def SF{l:aR}(h:∀(q:Nat) (u v:Int),l[q]?=some u->l[q+1]?=some v->u<=v):l.Pairwise λa b=>decide (a<=b)=true:=by
 induction l with
 |nil=>exact List.Pairwise.nil
 |cons x l c=>
  let d:∀(q:Nat) (u v:Int),l[q]?=some u->l[q+1]?=some v->u<=v:=λq u v a b=>h (q+1) u v dV dV;let c:=c d;refine List.Pairwise.cons (λy hy=>?_) c;let h0:∀y,l[0]?=some y->x<=y:=λy hy=>h 0 x y Z dV;cases l with
  |nil=>cases hy
  |cons z l=>
   let hz:=h0 z Z;rcases acw.1 hy with rfl|hy
   ·exact acg hz
   ·let:=acy (List.rel_of_pairwise_cons c hy);exact acg Y
def GR{p:Nat}{B:BS}{K:Int}{M:af}(g:kR p B M)(J:su B K)(i:Int)(m:Int)(f:X W w (M::H::F)):
 Calls prog 184 #[Pt p 0,I i,I m] w λe d=>∃(Oz:cf) (S N:Nat) (Zz b:af),e=.returned (.tuple #[.slice Oz S N,I (fS B i m)])/\bl ca 1 [Zz] Oz S N ((fG B i m).2)/\kR p (fG B i m).1 b/\X W d (Zz::b::H::F):=by
 obtain⟨a,n,k,t,c,G,rfl,h,r,o⟩:=g;let f:X W _ (aW p #[.slice a n k,I (bT B)] 304::c::G::H::F):=X.perm f (by simp);have b:=h.ll;have b:=lF o;have b:=J.ls;have b:=J.la;have b:=J.n0;refine aq 72 func184 Z<|Q 11<|let w0:=(f.az [1,1]);cZ (PY h i m w0) ?_
 rintro _ _⟨l,(⟨b,rfl⟩|⟨b,f,g,d,rfl⟩|⟨b,f,_,_,rfl,g,h0,d⟩)⟩
 ·exact RO 24 [nS,I 16]<|(by have b:¬Ah B i:=(by unfold Ah;omega);let he:fS B i m=16:=(by unfold fS;rw[ab9 b]);let q:fG B i m=(B,[]):=(by unfold fG;rw[he,ab9 (by decide)]);have b:X W _ (([]:af)::((aW p #[.slice a n k,I (bT B)] 304)++(c++G))::H::F):=X.perm l (by simp);exact⟨_,_,_,[],_,by rw[he];rfl,by rw[q];exact rN,by rw[q];exact⟨_,_,_,t,c,G,rfl,h,r,o⟩,b⟩)
 ·exact RO 24 [nS,I 20]<|(by let M0:=qX o g;let T:Ah B i:=(by unfold Ah;omega);let he:fS B i m=20:=(by unfold fS;rw[aca T,ab9 (by rw[ic _ Y];omega)]);let q:fG B i m=(B,[]):=(by unfold fG;rw[he,ab9 (by decide)]);have b:X W _ (([]:af)::((aW p #[.slice a n k,I (bT B)] 304)++(c++G))::H::F):=X.perm l (by simp);exact⟨_,_,_,[],_,by rw[he];rfl,by rw[q];exact rN,by rw[q];exact⟨_,_,_,t,c,G,rfl,h,r,o⟩,b⟩)
 have b:=aF.ptr h h0 g;refine JO 18 ?_;let M0:=qX o g;let T:Ah B i:=by unfold Ah;omega
 let Qz:B.st.getD i.toNat 0=3:=by omega
 let P:i.toNat<B.aX.length:=by omega
 let D0:=r f (ab8 g);have b:=D0.next.ll;let s:=Cw (i:=(i.toNat:Int)) (D:=B.aX) (k:=0) (a:=-1) Y;have b:=vm Y s;rw[aez] at s b;have b:0<=bT B/\bT B<=4096:=by unfold bT;let:=ade (λx=>decide (x=(4:Int))) B.st;omega
 refine Q 4<|fj l h h0 1 i.toNat 0 f (⟨4,f.aC,f.cp,f.next⟩:cA) g (I 4) [I 4] sizeOf3 λ_ h d b=>GO b 8 [0]<|aU (bT B) 1<|cG<|sT b 0 1 (I ((bT B)+1)) [I ((bT B)+1)] #[.slice a n k,I ((bT B)+1)] sizeOf3 λ_ b=>JO 13<|eB b ((aF.ptr d h0 (gW (y:=(⟨4,f.aC,f.cp,f.next⟩:cA)) g)).up 1 Z) 3 (.slice f.next.a f.next.n f.next.k)<|JO 5<|bF [37,38,0] (γ:=Nat×(List cA)×af×aR×SO) (λ⟨j,E,l,A,Oz,S,N,L⟩ R=>⟨[(39,I j),(10,.slice Oz S N)],L::aW p #[.slice a n k,I (bT B+1)] 304::l::R,f.next.n-j,j<=f.next.n/\aF lW 267 4 a n k E l/\(∀z∈E,cA.Ok [G] z)/\E.map cA.v=(List.range B.aX.length).map (vS B (B.st.set i.toNat 4) ((dS 0 B.aX i.toNat).take j))/\aF ca 3 1 Oz S N A L/\A=((dS 0 B.aX i.toNat).take j).filter (λz=>decide (fH (B.st.set i.toNat 4) (B.aX.getD z.toNat [])=0))⟩) (0,(t.set i.toNat (⟨4,f.aC,f.cp,f.next⟩:cA)),h,[],none,0,0,[]) ⟨(X.bU b),Y,d,(zh r g Z),(Md J o g Z Z Z Z),aF.nil fR,(by simp)⟩<|λ⟨j,E,l,A,Oz,S,N,L⟩ V _⟨r,b,u,U,C,v,hz⟩=>Q 6<|CD ((j:Int)<f.next.n) (λt=>Q 6<|(by let e:=v.len;let Xz:=v.le;have b:A.length<=4096:=(by rw[hz];let h1:=ade (λz=>decide (fH (B.st.set i.toNat 4) (B.aX.getD z.toNat [])=0)) ((dS 0 B.aX i.toNat).take j);simp only[ac5] at h1;omega);refine Q 2 ?_;let o:(A.mergeSort λx y=>decide (x<=y))=A:=List.mergeSort_of_pairwise (SF (by rw[hz];exact Ij (pE (ac2 _) (uG (m:=(dS 0 B.aX i.toNat).drop j) (by rw[ads];exact s)))));refine cZ (Go.E.DJ Tryz.JA v r Y) ?_;rintro _ _⟨d,rfl,h,g⟩;refine RO 10 [.slice Oz S N,I 0] ?_;let he:fS B i m=0:=(by unfold fS;rw[aca T,aca (by rw[ic _ Y];omega)]);let q:fG B i m=(⟨B.aX,lY (B.st.set i.toNat 4) B.aX,B.mZ⟩,Df (B.st.set i.toNat 4) B.aX):=(by unfold fG;rw[aca he]);have b:(dS 0 B.aX i.toNat).take j=(dS 0 B.aX i.toNat):=acj (by rw[<-M0.2.2.2.2];omega);rw[b] at C hz;rw[Sb J P Qz] at hz;let f:=OC J P Qz C;have b:X W _ (d::((aW p #[.slice a n k,I (bT B+1)] 304)++(l++G))::H::F):=X.perm g (by simp);let R0:=h.dt (O:=[d]) 0 Z;rw[o,hz] at R0;exact⟨_,_,_,d,_,by rw[he];rfl,by rw[q];exact R0,by rw[q];exact⟨_,_,_,E,l,G,by rw[EG J P Qz],u,U,f⟩,b⟩)) λt=>?_;refine Q 6<|kQ D0.next j λo _ _ d b=>eB r (b.up 3 Z) 0 (I o)<|JO 4 ?_;let t:=d;rw[M0.2.2.2.2] at t;have b:=nR s o (ab8 t);have b:=acd List.length C;simp only[acf,List.length_range] at b;have b:=u.ll;let Xz:=v.le;let e:=v.len;have b:A.length<=4096:=by rw[hz];let h1:=ade (λz=>decide (fH (B.st.set i.toNat 4) (B.aX.getD z.toNat [])=0)) ((dS 0 B.aX i.toNat).take j);simp only[ac5] at h1;omega
 exact GC r 6 [1]<|i9 u o o.toNat λd _ _ q f s=>JO 4<|(by have b:=Nb J P Qz C t q;have b:=(U d (ab8 q)).next;exact Q 4<|eB r (f.up 2 Z) 2 (I d.cp)<|dP d.cp 1<|cG<|fj r u s 2 o.toNat 2 d (⟨d.bS,d.aC,(d.cp-1),d.next⟩:cA) q (I (d.cp-1)) [I (d.cp-1)] sizeOf3 λ_ h g f=>JO 7<|(by let l:=gW (y:=(⟨d.bS,d.aC,(d.cp-1),d.next⟩:cA)) q;exact eB f ((aF.ptr g s l).up 2 Z) 2 (I (d.cp-1))<|JO 3<|CE (d.cp-1) 0 (λr=>Q 4<|aU (j:Int) 1<|bX 2 Z<|(by have b:=ys (y':=(⟨d.bS,d.aC,(d.cp-1),d.next⟩:cA)) J P Qz C t q Z Z Z (by dsimp only;rw[ab9 Y]);exact⟨(j+1,(E.set ((o).toNat) (⟨d.bS,d.aC,(d.cp-1),d.next⟩:cA)),h,A,Oz,S,N,L),od,bR,f,Y,g,(zh U q Z),b.1,v,(by rw[bY t,aeo,<-hz];simp only[adT,List.filter_nil,b.2];rw[ab9 (by simp;omega)];simp)⟩)) λr=>Q 5<|fj f g s 2 o.toNat 0 (⟨d.bS,d.aC,(d.cp-1),d.next⟩:cA) (⟨2,d.aC,(d.cp-1),d.next⟩:cA) l (I 2) [I 2] sizeOf3 λ_ u s b=>(by rw[adD] at s;exact JO 5<|ec b #[I o] 3 λ_ _ b=>dM (nb:=8) b v 1 (bl.dO (enc:=ca) (sz:=1) (xs:=[o]) fR 1 0 Z Z Z Y) underlying22 (i:=Tryz.t3) kr fR λg l h _ r b=>JO 5<|aU (j:Int) 1<|bX 2 Z<|(by let f:=(b.aj 0 Z);have b:=ys (y':=(⟨2,d.aC,(d.cp-1),d.next⟩:cA)) J P Qz C t q Z Z Z (by dsimp only;rw[aca Y]);exact⟨(j+1,(E.set ((o).toNat) (⟨2,d.aC,(d.cp-1),d.next⟩:cA)),u,(A++[o]),g,(S+1),l,h),od,bR,f,Y,s,(zh U q Z),b.1,r,(by rw[bY t,aeo,<-hz];simp only[adT,List.filter_nil,b.2];rw[aca (by simp;omega)])⟩))))
structure PW where
 bH:Int
 aw:Int
 an:Int
 aC:Int
 row:Int
 a:Nat
 d:Nat
instance:Inhabited PW:=⟨⟨0,0,0,0,0,0,0⟩⟩
def BU(x:PW):fa:=[I x.bH,I x.aw,I x.an,I x.aC,I x.row,.pointer (some ⟨x.a,0,none⟩),.pointer (some ⟨x.d,0,none⟩)]
structure El where
 p:Int
 h:Int
 t:Int
 a:Int
 r:Int
def PW.core(x:PW):El:=⟨x.bH,x.aw,x.an,x.aC,x.row⟩
def kt.core(v:kt):El:=⟨v.bH,v.aw,v.an,v.aC,v.row⟩
def Cl(b:Nat):Value:=Pt b 0
def gT(s:JS):Bool:=!s.bg&&decide (bT s.B<((s.aN.length:Nat):Int))
def pw(b:Nat)(s:JS)(c:af):Prop:=∃(ta:cf) (tn tk:Nat) (tl:List Task) (bb:Nat) (T M:af),
 c=(aW b #[.slice ta tn tk,I s.cC,Pt bb 0,.bool (gT s)] 184)++(T++M)/\bl cw 9 [T] ta tn tk tl/\(∀z∈tl,Task.Ok [T] z)/\tl.map Task.v=s.aN/\kR bb s.B M/\s.dm=true/\(s.bg=true->bT s.B<((s.aN.length:Nat):Int))
def Dg(jm:List (Int×Nat)):List (Int×Value):=jm.map λx=>(x.1,Cl x.2)
structure gl(aD:List JS)(jm:List (Int×Nat))(jcs:cj):Prop where
 o:kE pw (jm.map (·.2)) (jm.map λx=>aD.getD x.1.toNat default) jcs
 nd:(jm.map (·.1)).Nodup
 k:∀i,i∈jm.map (·.1)↔0<=i/\i<64/\(aD.getD i.toNat default).dm=true
 l:aD.length=64
variable{k:Int}{b:Nat}
def Xy{d:List (Int×Nat)}(i:(d.map (·.1)).Nodup)(h:d[n]?=some (k,b)):sI (Dg d) k=some (Cl b):=by
 induction d generalizing n with
 |nil=>cases h
 |cons q d g=>
  rw[acC,adP] at i;cases n with
  |zero=>
   obtain rfl:q=(k,b):=by simp_all
   simp[sI,Dg]
  |succ n=>
   let h1:d[n]?=some (k,b):=by simp_all
   let f:=g i.2 h1;let a:q.1≠k:=λe=>i.1 (by grind);unfold sI Dg at*;rw[acC,List.find?_cons];have c:(q.1==k)=false:=by simp_all
   simp only[c];exact f
def Ti{a:List (Int×Nat)}(h:k∉a.map (·.1)):sI (Dg a) k=none:=by
 unfold sI Dg
 grind
variable{aD:List JS}
def gl.get{d:List (Int×Nat)}{a:cj}{j:JS}(h:gl aD d a)(f:0<=k/\k<64)(g:aD[k.toNat]?=some j)(ha:j.dm=true):
 ∃(n b:Nat) (c:af),d[n]?=some (k,b)/\a[n]?=some c/\pw b j c/\sI (Dg d) k=some (Cl b):=by
 let e:aD.getD k.toNat default=j:=getD_some g;let⟨x,hx,i⟩:=acG.1 ((h.k k).2 ⟨f.1,f.2,by simp_all⟩);let⟨n,g⟩:=adx hx;let f:(d.map (·.2))[n]?=some x.2:=by simp_all
 let⟨s,c,d,hc,a⟩:=h.o.get f;rw[acE,g] at d;obtain rfl:=ace d;let a:x=(k,x.2):=by rw[<-i]
 exact⟨n,x.2,c,by rw[g,<-a],hc,(by grind),Xy h.nd (n:=n) (by rw[g,<-a])⟩
def gl.no{b:List (Int×Nat)}{a:cj}(h:gl aD b a)(c:¬(0<=k/\k<64/\(aD.getD k.toNat default).dm=true)):sI (Dg b) k=none:=Ti λa=>c ((h.k k).1 a)
def pA{α:Type}{l:List α}{k:Nat}{x d:α}(h:i<l.length):(l.set i x).getD k d=if i=k then x else l.getD k d:=by
 grind
def gl.set{jm:List (Int×Nat)}{jcs:cj}{j2:JS}{c2:af}(h:gl aD jm jcs)(hk:0<=k/\k<64)(hn:jm[n]?=some (k,b))(hR:pw b j2 c2)(ha:j2.dm=true):
 gl (aD.set k.toNat j2) jm (jcs.set n c2):=by
 let hl:=h.l;let hb:(jm.map (·.2))[n]?=some b:=by simp_all
 let a0:∀i,i∈jm.map (·.1)->0<=i/\i<64:=λi hi=>⟨((h.k i).1 hi).1,((h.k i).1 hi).2.1⟩
 let e:(jm.map λx=>(aD.set k.toNat j2).getD x.1.toNat default)=(jm.map λx=>aD.getD x.1.toNat default).set n j2:=by
  apply acQ;intro i;rw[acE,acV,acf];by_cases hi:n=i
  ·exact qj
  ·rw[ab9 hi,acE];cases hx:jm[i]? with
   |none=>rfl
   |some x=>
    simp only[ad1];rw[pA Y,ab9];intro q;let c0:=a0 x.1 (acG.2 ⟨x,ab8 hx,rfl⟩);let q2:k=x.1:=by omega
    let h1:(jm.map (·.1))[n]?=some k:=by simp_all
    let h2:(jm.map (·.1))[i]?=some k:=by simp_all
    exact hi ((List.getElem?_inj ((aci.1 h1).1) h.nd).1 (h1.trans h2.symm))
 refine⟨by rw[e];exact h.o.set hb hR,h.nd,?_,by simp_all⟩;intro i;rw[h.k i];constructor
 ·rintro⟨h1,h2,h3⟩;refine⟨h1,h2,?_⟩;rw[pA Y];split
  ·exact ha
  ·exact h3
 ·rintro⟨h1,h2,h3⟩;refine⟨h1,h2,?_⟩;rw[pA Y] at h3;split at h3
  ·exact(by rename_i q;let q2:k=i:=(by omega);let h4:k∈jm.map (·.1):=acG.2 ⟨_,ab8 hn,rfl⟩;rw[<-q2];exact((h.k k).1 h4).2.2)
  ·exact h3
variable{s:JS}
def pw.open{c:af}(h:pw b s c):∃(e:cf) (d tk:Nat) (a:List Task) (f:Nat) (T M:af),
 c=(aW b #[.slice e d tk,I s.cC,Pt f 0,.bool (gT s)] 184)++(T++M)/\bl cw 9 [T] e d tk a/\(∀z∈a,Task.Ok [T] z)/\a.map Task.v=s.aN/\kR f s.B M/\s.dm=true/\(s.bg=true->bT s.B<(s.aN.length:Int)):=h
def pw.mk{e:cf}{d tk:Nat}{a:List Task}{c:Nat}{T M:af}{cn:Bool}(i:bl cw 9 [T] e d tk a)(h:∀z∈a,Task.Ok [T] z)(g:a.map Task.v=s.aN)(f:kR c s.B M)(ha:s.dm=true)(a:s.bg=true->bT s.B<(s.aN.length:Int))(hc:cn=gT s):
 pw b s ((aW b #[.slice e d tk,I s.cC,Pt c 0,.bool cn] 184)++(T++M)):=by subst hc;exact⟨_,_,_,_,_,_,_,rfl,i,h,g,f,ha,a⟩
def ie(c:mi)(wb wo wn wk q m:Nat):fa:=[I c.dL,I c.dh,I c.dg,I c.eY,I c.gQ,I c.aN,I c.cells,I c.aD,.slice (some ⟨wb,wo,none⟩) wn wk,Pt q 0,.map (some m)]
def dJ(p:Nat)(F:FS)(M:af):Prop:=∃(wb wo wn wk q m:Nat) (xs:List PW) (jm:List (Int×Nat)) (Wc Qc Jc:af) (acs dcs jcs:cj),
 M=iO p 158 (ie F.cc wb wo wn wk q m) (([]:List Ref).flatMap cz) (eu F.st)++(Wc++(acs.flatten++(dcs.flatten++(Qc++(Jc++jcs.flatten)))))/\
 aF BU 166 7 (some ⟨wb,wo,none⟩) wn wk xs Wc/\xs.map PW.core=F.ws.map kt.core/\kE Qw (xs.map (·.a)) F.ar acs/\kE GL (xs.map (·.d)) F.dq dcs/\uT q F.q Qc/\xh m (Dg jm) Jc/\gl F.aD jm jcs
variable{xs:List PW}{x:PW}
def jP{a:List kt}{k:Nat}(h:xs.map PW.core=a.map kt.core)(hx:xs[k]?=some x):∃v,a[k]?=some v/\x.bH=v.bH/\x.aw=v.aw/\x.an=v.an/\x.aC=v.aC/\x.row=v.row:=by
 let h1:(a.map kt.core)[k]?=some x.core:=by grind
 rw[acE] at h1;cases hv:a[k]? with
 |none=>rw[hv] at h1;cases h1
 |some v=>
  rw[hv] at h1;let⟨e,d,c,b,a⟩:=El.mk.inj (ace h1);exact⟨v,rfl,e.symm,d.symm,c.symm,b.symm,a.symm⟩
variable{x':PW}
def jC{a:List kt}{k:Nat}{v':kt}(h:xs.map PW.core=a.map kt.core)(e:x'.core=v'.core):(xs.set k x').map PW.core=(a.set k v').map kt.core:=by
 simp_all
def kf{k:Nat}(hx:xs[k]?=some x)(e:x'.a=x.a):(xs.set k x').map (·.a)=xs.map (·.a):=by
 grind[List.map_set,c7]
def lf{k:Nat}(hx:xs[k]?=some x)(e:x'.d=x.d):(xs.set k x').map (·.d)=xs.map (·.d):=by
 grind[List.map_set,c7]
def gh{a:List kt}(h:xs.map PW.core=a.map kt.core):xs.length=a.length:=by simpa using acd List.length h
def ik{α a:Type}{f:α->a}{l:List α}{x:α}(h:l[i]?=some x):(l.map f)[i]?=some (f x):=by simp_all
def Nj(h:gT s=true):s.bg=false:=by
 grind[gT]
theorem OZ(h:¬gT s=true)(a:bT s.B<(s.aN.length:Int)):s.bg=true:=by
 unfold gT at h;simp_all
def uu(h:s.bg=true):gT s=false:=by unfold gT;rw[h];rfl
def Kz(h:bT s.B=(s.aN.length:Int)):gT s=false:=by grind[gT]
def run_eq(h:¬gT s=true)(a:s.bg=true->bT s.B<(s.aN.length:Int))(a:s.B.aX.length=s.aN.length):decide (bT s.B<(s.B.aX.length:Int))=s.bg:=by
 grind[bT,OZ,decide_eq_false,decide_eq_true]
def gM{o a c:Nat}(h:(some ⟨b,o,none⟩:cf)=some ⟨a,c,none⟩):b=a/\o=c:=by simp_all
def uy{b off:Nat}{c:af}{d:cj}(hp:na [c] b off (BU x))(f:X W w (c::d)):
 Calls prog 99 #[Pt b off] w λe a=>e=.returned (.bool (decide (x.bH≠0/\x.bH≠4)))/\X W a (c::d):=by
 exact aq 15 func99 Z<|Q 10<|eB f (hp.up 0 Z) 0 (I x.bH)<|cG<|sN 8 x.bH 0 (λa=>FO 10<|⟨rB ((acb (p:=x.bH≠0/\x.bH≠4) Y).symm),f⟩) λa=>gw<|gY<|eB f (hp.up 0 Z) 0 (I x.bH)<|RO 6 [.bool (x.bH !=4)]<|⟨rB (by rw[acI];simp only[acr,adM,ne_eq];omega),f⟩
def zN{i h l m k:Nat}{j:List AS}{b:af}{a n:cj}(c:aF BU 166 7 (some ⟨i,h,none⟩) l m xs b)(p:kE Qw (xs.map (·.a)) j a)(hx:xs[k]?=some x)(g:Int)(o:X W w (b::a.flatten::n)):
 Calls prog 94 #[.pointer (some ⟨i,h+k*7,none⟩),I g] w λe f=>∃(b:af) (a:cj),e=.returned (.tuple #[])/\aF BU 166 7 (some ⟨i,h,none⟩) l m (xs.set k (⟨g,0,0,0,0,x.a,x.d⟩:PW)) b/\kE Qw (xs.map (·.a)) (j.set k (ga (j.getD k default))) a/\X W f (b::a.flatten::n):=by
 have hp:=aF.ptr c Z hx;refine aq 23 func94 Z<|Q 6<|fj o c Z 0 k 0 x (⟨g,x.aw,x.an,x.aC,x.row,x.a,x.d⟩:PW) hx (I g) [I g] sizeOf3 λ_ _ b c=>JO 8<|have f:=gW (y:=(⟨g,x.aw,x.an,x.aC,x.row,x.a,x.d⟩:PW)) hx;have a:=aF.ptr b Z f;fj c b Z 0 k 1 (⟨g,x.aw,x.an,x.aC,x.row,x.a,x.d⟩:PW) (⟨g,0,0,x.aC,x.row,x.a,x.d⟩:PW) f (.agg #[I 0,I 0]) [I 0,I 0] sizeOf52 λ_ _ b f=>?_;rw[adD] at b;refine JO 7<|have c:=gW (y:=(⟨g,0,0,x.aC,x.row,x.a,x.d⟩:PW)) hx;have a:=aF.ptr b Z c;fj f b Z 0 k 3 (⟨g,0,0,x.aC,x.row,x.a,x.d⟩:PW) (⟨g,0,0,0,x.row,x.a,x.d⟩:PW) c (I 0) [I 0] sizeOf3 λ_ _ b f=>?_;rw[adD] at b;refine JO 7<|have c:=gW (y:=(⟨g,0,0,0,x.row,x.a,x.d⟩:PW)) hx;have a:=aF.ptr b Z c;fj f b Z 0 k 4 (⟨g,0,0,0,x.row,x.a,x.d⟩:PW) (⟨g,0,0,0,0,x.a,x.d⟩:PW) c (I 0) [I 0] sizeOf3 λ_ _ h h0=>?_;rw[adD] at h;refine JO 6<|eB h0 ((aF.ptr h Z (gW (y:=(⟨g,0,0,0,0,x.a,x.d⟩:PW)) hx)).up 0 Z) 5 (.pointer (some ⟨x.a,0,none⟩)) ?_;obtain⟨a,a,i,f,b⟩:=kE.get p (ik hx);have a:=(h0.pick 1 Z);refine cZ (PR b (X.aQ (X.iw (A:=[]) k f a))) ?_;rintro _ _⟨c,rfl,g,a⟩;have b:=a.ak;have w0:=(b.az [1,1]);have a:=X.eV (d:=c) (A:=[]) k f w0;exact er<|DV Z<|⟨_,_,rfl,h,by rw[getD_some i];exact(kE.set p (ik hx) g),(a.pick 1 Z)⟩
def sg{c:af}{K:Int}{g:cj}(d:pw b s c)(h:su s.B K)(o:s.B.aX.length=s.aN.length)(f:X W w (c::g)):
 Calls prog 96 #[Pt b 0] w λe a=>e=.returned (.bool s.bg)/\X W a (c::g):=by
 obtain⟨l,j,k,a,m,T,M,rfl,a,a,a,n,ha,p⟩:=d.open;let i:X W _ (aW b #[.slice l j k,I s.cC,Pt m 0,.bool (gT s)] 184::T::M::g):=X.perm f (by simp);refine aq 21 func96 Z<|Q 6<|bD ((gT s)=true) (λf=>bJ i [10,15] (fb 3 0 3 1<|fn) [0,1,2,3,4,5,6,7,8,11,12,13,9,14,10,15,16,17,18] λ_ a=>wV 3<|wL 0<|wV 2<|jy 8 _ false (acd Bool.not f)<|wV 8<|wO Z<|bf<|nZ a [0]<|wO Z<|bf<|nZ a [0]<|wV 3<|wN<|RX 2 [.bool false]<|(by let d:X W _ (((aW b #[.slice l j k,I s.cC,Pt m 0,.bool (gT s)] 184)++(T++M))::g):=X.perm (show X W _ (aW b #[.slice l j k,I s.cC,Pt m 0,.bool (gT s)] 184::T::M::g) from a) (by simp);exact⟨rB ((Nj f).symm),d⟩)) λf=>bJ i [10,15] (fb 3 0 3 1<|fb 9 0 2 1<|fb 14 0 2 1<|fn) [0,1,2,3,4,5,6,7,8,11,12,13,9,14,10,15,16,17,18] λ_ a=>wV 3<|wL 0<|wV 2<|jy 8 _ true (acd Bool.not (ad2.2 f))<|wV 6<|wL 1<|wL 2<|wO Z<|gY<|let h0:=(a.pick 2 Z);cZ (XM n h h0.aQ) ?_
 rintro _ _⟨rfl,a⟩;let d:=a.ak;refine nZ d [1,1]<|wO Z<|gY<|cZ (RL n h d.aQ) ?_;rintro _ _⟨rfl,a⟩;let d:=a.ak;exact nZ d [1]<|wV 1<|wV 2<|wN<|RX 2 [.bool (decide ((bT s.B)<(s.B.aX.length:Int)))]<|(by let a:=(d.az [2,2]);let d:X W _ (((aW b #[.slice l j k,I s.cC,Pt m 0,.bool (gT s)] 184)++(T++M))::g):=X.perm (show X W _ (aW b #[.slice l j k,I s.cC,Pt m 0,.bool (gT s)] 184::T::M::g) from a) (by simp);exact⟨rB (run_eq f p o),d⟩)
def lO{p:Nat}{F:FS}{M:af}{j:cj}(l:dJ p F M)(x:Int)(v:X W w (M::H::j)):
 Calls prog 89 #[Pt p 0,I x] w λe a=>e=.returned (.bool (decide (0<=x/\x<(F.ws.length:Int))))/\X W a (M::H::j):=by
 obtain⟨t,s,o,u,q,m,xs,a,f,g,h,c,b,d,rfl,i,k,h0,n,a,hM,r⟩:=l;let l:X W _ ((iO p 158 (ie F.cc t s o u q m) (([]:List Ref).flatMap cz) (eu F.st))::f::c.flatten::b.flatten::g::h::d.flatten::H::j):=X.perm v (by simp);let a:=i.ll;let a:=gh k;let b:=h0.1;let a:=n.1;rw[acf] at b a;let a:=r.l;exact aq 20 func89 Z<|Q 14<|SD 11 (x>=0) (λa=>FO 12<|⟨rB ((acb (p:=0<=x/\x<(F.ws.length:Int)) Y).symm),(l.ej)⟩) λa=>je<|gY<|eB l (eC 0 Z cK) 8 (.slice (some ⟨t,s,none⟩) o u)<|RO 7 [.bool (decide (x<(o:Int)))]<|⟨rB (by rw[acI];simp only[acr];omega),(l.ej)⟩
def xu{p q g f b h m:Nat}{c:mi}{mid post:fa}{d:cj}(h0:0<b/\b<=9223372036854775807)(i:X W w ((iO p 158 (ie c g f b h q m) mid post)::d)):
 Calls prog 95 #[Pt p 0] w λe a=>e=.returned (.bool false)/\X W a ((iO p 158 (ie c g f b h q m) mid post)::d):=by
 exact aq 13 func95 Z<|Q 13<|gY<|eB i (eC 0 Z cK) 8 (.slice (some ⟨g,f,none⟩) b h)<|RO 7 [.bool (((b:Int):Int)==0)]<|⟨rB mo,i⟩
end
section
variable{W w:World}{H:af}{F:cj}
def BE{s:aR}{k:Nat}{y:Int}(h:s.getD k 0≠4)(hy:y≠4):((s.set k y).filter λx=>decide (x=4)).length=(s.filter λx=>decide (x=4)).length:=by
 by_cases a:k<s.length
 ·exact(by have h1:=count_set (s:=s) (k:=k) (y:=y) a;simp_all)
 grind[List.set_eq_of_length_le]
def tI{B:BS}{i:Int}:bT (eT B i).1=bT B:=by
 unfold eT;split
 ·rename_i hi;split
  ·exact(by rename_i h2;unfold bT;dsimp only;rw[BE (by rw[ic _ hi.1] at h2;omega) fe])
  ·rfl
 ·rfl
def zy{B:BS}{i a:Int}:bT (jR B i a)=bT B:=by
 unfold jR;split
 ·exact(by rename_i h;let hz:=fQ h;unfold bT;dsimp only;rw[BE (by let:=hz.2.1;rw[ic _ hz.1.1] at this;omega) fe])
 ·rfl
def sy(n:Nat)(c:Int):aR:=(List.range n).map λi=>mY ((n:Nat):Int) c ((i:Nat):Int)
variable{n:Nat}
theorem rX{c:Int}:(sy n c).length=n:=by unfold sy;simp
variable{x:Int}
def Nt{i:Nat}{c:Int}(h:(sy n c)[i]?=some x):x=mY (n:Int) c (i:Int):=by
 grind[sy,List.range]
def F7{i:Nat}{c v:Int}{zs:aR}(hz:zs=(sy n c).take i++List.replicate (n-i) 0)(hi:i<n)(a:v=mY (n:Int) c (i:Int)):zs.set i v=(sy n c).take (i+1)++List.replicate (n-(i+1)) 0:=by
 let a:((sy n c).take i).length=i:=by grind[List.length_take,rX]
 let hx:(sy n c)[i]?=some v:=(by grind[sy]);rw[hz,adC _ _ Y,a,adQ,bY hx,acx];obtain⟨m,a⟩:∃m,n-i=m+1:=⟨n-i-1,Y⟩
 grind
def RE{F:FS}{v:kt}{j:JS}(b:F.ws[x.toNat]?=some v)(hh:Holds v)(a:F.aD[v.aw.toNat]?=some j):iM F (nP F x)=j.bg:=by
 unfold iM nP dE;rw[getD_some b,getD_some a,acg (show v.bH=1\/v.bH=2\/v.bH=3 from hh),Bool.true_and]
def Np{F:FS}{v:kt}(a:F.ws[x.toNat]?=some v)(hh:¬Holds v):iM F (nP F x)=false:=by
 unfold iM nP;rw[getD_some a,acb (show ¬(v.bH=1\/v.bH=2\/v.bH=3) from hh),Bool.false_and]
variable{p:Nat}{K:Int}
def zK{F:FS}{M:af}{l:cj}(n:dJ p F M){j:JS}(x:Int)(r:Ref)(hx:0<=x/\x<F.ws.length)(a:0<=r.bO/\r.bO<64)(Xz:F.aD[r.bO.toNat]?=some j)(ha:j.dm=true)(t:su j.B K)(a:0<=F.st.ew/\F.st.ew<4611686018427387904)(o:X W w (M::H::l)):
 Calls prog 167 #[Pt p 0,I x,.agg #[I r.bO,I r.bE]] w λe b=>∃a:af,e=.returned (.tuple #[])/\dJ p (fV F x r) a/\X W b (a::H::l):=by
 obtain⟨z,v,C,D,q,m,xs,a,c,g,i,b,a,f,rfl,u,Oz,P,U,hQ,hM,E⟩:=n;have n:X W _ ((iO p 158 (ie F.cc z v C D q m) (([]:List Ref).flatMap cz) (eu F.st))::c::b.flatten::a.flatten::g::i::f.flatten::H::l):=X.perm o (by simp);have R0:=u.ll;have a:=gh Oz;have b:=P.1;have a:=U.1;rw[acf] at b a;have a:=E.l;obtain⟨J,o,a,w0,G,b,f⟩:=gl.get E (k:=r.bO) ⟨Y,Y⟩ Xz ha;obtain⟨Qz,S,R,a,l,T,a,rfl,N,e,L,g,_,f1⟩:=b.open;have a:=(n.pick 6 Z);have h1:=X.iw (A:=[]) J G a;have b:=h1.ko;have a:=N.ll;have a:=acd List.length L;rw[acf] at a;refine aq 54 func167 Z<|Q 2<|eD b [I r.bO,I r.bE] λa _ b=>JO 3<|kI [6,12] [(3,⟨p,10,none⟩,.map (some m)),(5,⟨a,0,none⟩,I r.bO),(11,⟨a,1,none⟩,I r.bE),(9,⟨o,2,none⟩,Pt l 0)] [(true,[0,1,2,4,10]),(true,[3]),(true,[5]),(true,[11]),(false,[6]),(true,[7,8]),(true,[9]),(false,[12]),(true,[13]),(true,[14]),(true,[15]),(true,[16,17])] Z kr ⟨.inr (bW b 5 Z (k:=10) cK Z),cI b 0,cI b 0,cI b 1,trivial⟩<|have c:=b.drew;wU [0,1,2,4,10]<|oI (.map (some m)) 0 isAgg155<|oI (I r.bO) 1 isAgg3<|oI (I r.bE) 2 isAgg3<|wO Z<|bh (Pt o 0) Z Z (jq (k:=r.bO) c 10 hM (by rw[f];rfl) runUnderlying155 runUnderlying3 zeroValue181)<|er ⟨⟨dI,dI,cI c 0,cI c 1,trivial⟩,?_⟩
 refine wU [7,8]<|oI (Pt l 0) 3 isAgg182<|wO Z<|have a:=(c.pick 3 Z);cZ (SS g t r.bE a.aQ) ?_;rintro _ _⟨n,rfl,t,a⟩;have b:=a.ak;refine er ⟨dA,?_⟩;refine wU [13]<|wU [14]<|wU [15]<|wU [16,17]<|wN<|JX 6<|eB b (eC 5 Z cK) 8 (.slice (some ⟨z,v,none⟩) C D)<|bf<|i9 u x x.toNat λf _ _ i _ a=>?_;obtain⟨rfl,rfl⟩:=gM a;obtain⟨a,a,a,a,a,a,a⟩:=jP Oz i;refine JO 8<|fj b u Z 6 x.toNat 0 f (⟨1,f.aw,f.an,f.aC,f.row,f.a,f.d⟩:PW) i (I 1) [I 1] sizeOf3 λ_ _ c b=>GO b 8 [201]<|have g:=gW (y:=(⟨1,f.aw,f.an,f.aC,f.row,f.a,f.d⟩:PW)) i;have a:=aF.ptr c Z g;fj b c Z 6 x.toNat 1 (⟨1,f.aw,f.an,f.aC,f.row,f.a,f.d⟩:PW) (⟨1,r.bO,r.bE,f.aC,f.row,f.a,f.d⟩:PW) g (.agg #[I r.bO,I r.bE]) [I r.bO,I r.bE] sizeOf52 λ_ _ h0 c=>?_;rw[adD] at h0;refine JO 8<|have b:=gW (y:=(⟨1,r.bO,r.bE,f.aC,f.row,f.a,f.d⟩:PW)) i;have a:=aF.ptr h0 Z b;fj c h0 Z 6 x.toNat 3 (⟨1,r.bO,r.bE,f.aC,f.row,f.a,f.d⟩:PW) (⟨1,r.bO,r.bE,(eT j.B r.bE).2.1,f.row,f.a,f.d⟩:PW) b (I ((eT j.B r.bE).2.1)) [I ((eT j.B r.bE).2.1)] sizeOf3 λ_ _ b g=>?_;rw[adD] at b;refine JO 7<|have c:=gW (y:=(⟨1,r.bO,r.bE,(eT j.B r.bE).2.1,f.row,f.a,f.d⟩:PW)) i;have a:=aF.ptr b Z c;fj g b Z 6 x.toNat 4 (⟨1,r.bO,r.bE,(eT j.B r.bE).2.1,f.row,f.a,f.d⟩:PW) (⟨1,r.bO,r.bE,(eT j.B r.bE).2.1,0,f.a,f.d⟩:PW) c (I 0) [I 0] sizeOf3 λ_ _ g a=>?_;rw[adD] at g;exact JO 7<|eB a (eC 5 Z (mc (k:=11) (iA (sz:=2) (m:=11) fR (rfl:([]:List Ref).length=0)))) 0 (I F.st.ew)<|aU F.st.ew 1<|gw<|qS a 5 11 0 Z (I (F.st.ew+1)) [I (F.st.ew+1)] [I (F.st.ew+1),I F.st.dw,I F.st.ap,I F.st.dz,I F.st.fm,I F.st.gX,I F.st.fy,I F.st.gP,I F.st.eI,I F.st.cells] (iA (sz:=2) (m:=11) fR (rfl:([]:List Ref).length=0)) sizeOf3 λ_ b=>er<|DV Z<|have a:=(b.az [4,1,4,4]);have b:=a.hX;have c:=X.eV (d:=((aW o #[.slice Qz S R,I j.cC,Pt l 0,.bool (gT j)] 184)++(T++n))) (A:=[]) J G b;have l:=gl.set E (k:=r.bO) (j2:={j with B:=(eT j.B r.bE).1}) ⟨Y,Y⟩ w0 (pw.mk (s:={j with B:=(eT j.B r.bE).1}) (cn:=(gT j)) N e L t ha (λh=>by rw[show({j with B:=(eT j.B r.bE).1}:JS).B=(eT j.B r.bE).1 from rfl,tI];exact f1 h) (by unfold gT;dsimp only;rw[tI])) ha;have a:=((c.az [7,7,7,7,7,7]).aj 7 Z);have b:=(a.ej);have he:fV F x r=(⟨F.cc,(F.ws.set x.toNat ⟨1,r.bO,r.bE,(eT j.B r.bE).2.1,0,0,(F.ar.getD x.toNat default).high⟩),F.ar,F.dq,F.q,(F.aD.set r.bO.toNat ({j with B:=(eT j.B r.bE).1})),(⟨(F.st.ew+1),F.st.dw,F.st.ap,F.st.dz,F.st.fm,F.st.gX,F.st.fy,F.st.gP,F.st.eI,F.st.cells⟩:De)⟩:FS):=(by unfold fV dE;rw[getD_some Xz]);⟨_,rfl,by rw[he];exact⟨_,_,_,_,_,_,_,_,_,_,_,_,_,_,rfl,g,(jC Oz Z),(by rw[kf (x':=(⟨1,r.bO,r.bE,(eT j.B r.bE).2.1,0,f.a,f.d⟩:PW)) i Z];exact P),(by rw[lf (x':=(⟨1,r.bO,r.bE,(eT j.B r.bE).2.1,0,f.a,f.d⟩:PW)) i Z];exact U),hQ,hM,l⟩,b⟩
def R8{F:FS}{M:af}{h:cj}(i:dJ p F M){r:kt}(x:Int)(hx:0<=x/\x<F.ws.length)(s:F.ws[x.toNat]?=some r)(a:0<=F.st.ap/\F.st.ap<4611686018427387904)(t:X W w (M::H::h)):
 Calls prog 100 #[Pt p 0,I x] w λe b=>∃a:af,e=.returned (.agg (dR ⟨9,x,0,0,r.aw,r.an,0⟩).toArray)/\dJ p (yB F x) a/\X W b (a::H::h):=by
 obtain⟨l,j,n,o,q,m,xs,a,c,f,g,b,a,d,rfl,u,y,v,A,B,hM,z⟩:=i;let i:X W _ ((iO p 158 (ie F.cc l j n o q m) (([]:List Ref).flatMap cz) (eu F.st))::c::b.flatten::a.flatten::f::g::d.flatten::H::h):=X.perm t (by simp);let a:=u.ll;let a:=gh y;let b:=v.1;let a:=A.1;rw[acf] at b a;let a:=z.l;refine aq 31 func100 Z<|Q 2<|aI i zeroValue54 λ_ _ h=>JO 7<|eB h (eC 1 Z cK) 8 (.slice (some ⟨l,j,none⟩) n o)<|bf<|i9 u x x.toNat λi _ _ l j a=>?_
 obtain⟨rfl,rfl⟩:=gM a;let⟨b,c,g,o,n,f,d⟩:=jP y l;let a:b=r:=ace (c.symm.trans s);rw[a] at g o n f d;refine JO 9<|lv h (j.up 2 Z) 1 [I i.aw,I i.an]<|bf<|aI h zeroValue54 λ_ _ a=>bP a 0 Z [I 9,I x,I 0,I 0,I i.aw,I i.an,I 0] λ_ a=>JO 8<|eB a (eC 2 Z (mc (k:=11) (iA (sz:=2) (m:=11) fR (rfl:([]:List Ref).length=0)))) 2 (I F.st.ap)<|aU F.st.ap 1<|gw<|qS a 2 11 2 Z (I (F.st.ap+1)) [I (F.st.ap+1)] [I F.st.ew,I F.st.dw,I (F.st.ap+1),I F.st.dz,I F.st.fm,I F.st.gX,I F.st.fy,I F.st.gP,I F.st.eI,I F.st.cells] (iA (sz:=2) (m:=11) fR (rfl:([]:List Ref).length=0)) sizeOf3 λ_ a=>JO 5<|let b:=(a.az [4,4]);cZ (zN u v l 0 b) ?_
 rintro _ _⟨_,_,rfl,b,c,a⟩;exact GO a 5 [702]<|bP a 3 Z [I 9,I x,I 0,I 0,I i.aw,I i.an,I 0] λ_ h0=>my 3 Z<|hD (vs:=[.agg #[I 9,I x,I 0,I 0,I i.aw,I i.an,I 0]]) Z (.cons (.cell _ _ _ _ kr (nW h0 3 0 [I 9,I x,I 0,I 0,I i.aw,I i.an,I 0] (isAgg54 _) (sizeOf54 _) Z Z Z)) .nil)<|let w0:=((h0.pick 4 Z).ap [3,3]);let a:=(w0.ej);let he:yB F x=(⟨F.cc,(F.ws.set x.toNat ⟨0,0,0,0,0,0,(F.ar.getD x.toNat default).high⟩),(F.ar.set x.toNat (ga (F.ar.getD x.toNat default))),F.dq,F.q,F.aD,(⟨F.st.ew,F.st.dw,(F.st.ap+1),F.st.dz,F.st.fm,F.st.gX,F.st.fy,F.st.gP,F.st.eI,F.st.cells⟩:De)⟩:FS):=(by unfold yB ot p9;rfl);⟨_,by rw[o,n];rfl,by rw[he];exact⟨_,_,_,_,_,_,_,_,_,_,_,_,_,_,rfl,b,(jC y Z),(by rw[kf (x':=(⟨0,0,0,0,0,i.a,i.d⟩:PW)) l Z];exact c),(by rw[lf (x':=(⟨0,0,0,0,0,i.a,i.d⟩:PW)) l Z];exact A),B,hM,z⟩,a⟩
def QK{F:FS}{M:af}{r:cj}(x:dJ p F M)(c:Int)(a:1<=F.ws.length/\F.ws.length<=64)(y:X W w (M::H::r)):
 Calls prog 103 #[Pt p 0,I c] w λe f=>∃(d:cf) (a b:Nat) (Zz:af),e=.returned (.slice d a b)/\aF ca 3 1 d a b (sy F.ws.length c) Zz/\X W f (Zz::M::H::r):=by
 obtain⟨u,t,f,v,q,m,xs,a,g,j,k,d,b,h,rfl,l,R0,n,o,a,hM,s⟩:=x;let x:X W _ ((iO p 158 (ie F.cc u t f v q m) (([]:List Ref).flatMap cz) (eu F.st))::g::d.flatten::b.flatten::j::k::h.flatten::H::r):=X.perm y (by simp);let a:=l.ll;let a:=gh R0;let b:=n.1;let a:=o.1;rw[acf] at b a;let a:=s.l;let a:-(f:Int)<c.tmod f:=adK _ Y;let a:c.tmod f<(f:Int):=adv _ Y;refine aq 39 func103 Z<|Q 10<|eB x (eC 0 Z cK) 8 (.slice (some ⟨u,t,none⟩) f v)<|JO 8<|Dw c (f:Int)<|JO 10<|CD ((c.tmod (f:Int))<0) (λu=>Q 5<|gC (kl:=.i64) (kc:=.i64) (enc:=ca) (sz:=1) (nb:=8) x 0 f (f:Int) (rfl:(f:Int)=f) underlying22 (i:=Tryz.t3) kr fR λa b _ d h0=>JO 12<|bF [5,6,25] (γ:=Nat×aR×SO) (λ⟨i,j,k,l,n,o⟩ R=>⟨[(26,I i),(7,.slice k l n)],o::R,f-i,i<=f/\(j=(sy f c).take i++List.replicate (f-i) 0)/\(j.length=f)/\aF ca 3 1 k l n j o⟩) (0,(List.replicate f 0),(At a 0),f,f,b) ⟨h0,Y,(by simp),(by simp),d⟩<|(by rintro⟨i,j,k,l,n,o⟩ V _⟨g,v,hz,t,h⟩;let y:=h.len;let z:=h.le;exact Q 6<|CD ((i:Int)<f) (λb=>RC 12 [.slice k l n]<|(by let s:j=sy F.ws.length c:=(by rw[hz,acj (by rw[rX];omega),show f-i=0 by omega,show F.ws.length=f by omega];simp);let r:=h;rw[s] at r;let a:=(g.az [7,7,7,7,7,7,7]);exact⟨_,_,_,_,rfl,r,((a.ej).pick 1 Z)⟩)) λb=>Q 15<|aU (c.tmod (f:Int)) (i:Int)<|bf<|Dw ((c.tmod (f:Int))+(i:Int)) (f:Int)<|i9 h (i:Int) i λb _ _ d _ a=>fj g h a 0 i 0 b (((c.tmod (f:Int))+(i:Int)).tmod (f:Int)) d (I (((c.tmod (f:Int))+(i:Int)).tmod (f:Int))) [I (((c.tmod (f:Int))+(i:Int)).tmod (f:Int))] sizeOf3 λ_ a d b=>JO 4<|aU (i:Int) 1<|bX 2 Z<|⟨(i+1,(j.set i (((c.tmod (f:Int))+(i:Int)).tmod (f:Int))),k,l,n,a),od,bR,b,Y,(F7 hz Y (by unfold mY;first|rw[aca Y]|rw[ab9 Y])),(by rw[acz];exact t),d⟩)) λu=>?_
 exact Q 3<|aU (c.tmod (f:Int)) (f:Int)<|JO 6<|gC (kl:=.i64) (kc:=.i64) (enc:=ca) (sz:=1) (nb:=8) x 0 f (f:Int) (rfl:(f:Int)=f) underlying22 (i:=Tryz.t3) kr fR λb d _ g a=>JO 12<|bF [5,6,25] (γ:=Nat×aR×SO) (λ⟨i,j,k,l,n,o⟩ R=>⟨[(26,I i),(7,.slice k l n)],o::R,f-i,i<=f/\(j=(sy f c).take i++List.replicate (f-i) 0)/\(j.length=f)/\aF ca 3 1 k l n j o⟩) (0,(List.replicate f 0),(At b 0),f,f,d) ⟨a,Y,(by simp),(by simp),g⟩<|λ⟨i,j,k,l,n,o⟩ V _⟨g,v,hz,t,h⟩=>let y:=h.len;let z:=h.le;Q 6<|CD ((i:Int)<f) (λa=>RC 12 [.slice k l n]<|(by let s:j=sy F.ws.length c:=(by rw[hz,acj (by rw[rX];omega),show f-i=0 by omega,show F.ws.length=f by omega];simp);let r:=h;rw[s] at r;let w0:=(g.az [7,7,7,7,7,7,7]);exact⟨_,_,_,_,rfl,r,((w0.ej).pick 1 Z)⟩)) λa=>Q 15<|aU ((c.tmod (f:Int))+(f:Int)) (i:Int)<|bf<|Dw (((c.tmod (f:Int))+(f:Int))+(i:Int)) (f:Int)<|i9 h (i:Int) i λb _ _ d _ a=>fj g h a 0 i 0 b ((((c.tmod (f:Int))+(f:Int))+(i:Int)).tmod (f:Int)) d (I ((((c.tmod (f:Int))+(f:Int))+(i:Int)).tmod (f:Int))) [I ((((c.tmod (f:Int))+(f:Int))+(i:Int)).tmod (f:Int))] sizeOf3 λ_ a d b=>JO 4<|aU (i:Int) 1<|bX 2 Z<|⟨(i+1,(j.set i ((((c.tmod (f:Int))+(f:Int))+(i:Int)).tmod (f:Int))),k,l,n,a),od,bR,b,Y,(F7 hz Y (by unfold mY;first|rw[aca Y]|rw[ab9 Y])),(by rw[acz];exact t),d⟩
def Lc{F:FS}{M:af}{o:cj}(v:dJ p F M)(u:FI F K){r:kt}(x:Int)(hx:0<=x/\x<F.ws.length)(z:F.ws[x.toNat]?=some r)(hh:Holds r)(y:X W w (M::H::o)):
 Calls prog 90 #[Pt p 0,I x] w λe a=>e=.returned (.bool (iM F (nP F x)))/\X W a (M::H::o):=by
 obtain⟨J,G,C,D,q,m,xs,a,f,h,i,c,b,g,rfl,B,E,l,n,a,hM,t⟩:=v;have v:X W _ ((iO p 158 (ie F.cc J G C D q m) (([]:List Ref).flatMap cz) (eu F.st))::f::c.flatten::b.flatten::h::i::g.flatten::H::o):=X.perm y (by simp);have a:=B.ll;have a:=gh E;have b:=l.1;have a:=n.1;rw[acf] at b a;have a:=t.l;obtain⟨j,N,ha,hz⟩:=u.h.h _ _ z hh;have b:=u.fw.j j (ab8 N);obtain⟨Oz,R0,a,a⟩:=b.b ha;have a:=b.n;have b:=u.fw.w r (ab8 z);have a:=b.h;have a:=b.r;have a:=va Oz hz;have a:r.bH=1\/r.bH=2\/r.bH=3:=hh;obtain⟨P,h0,a,a,u,b,Qz⟩:=gl.get t (k:=r.aw) ⟨Y,Y⟩ N ha;obtain⟨Xz,U,T,a,e,t0,u0,rfl,L,w0,y,S,_,R⟩:=b.open;have b:=(v.pick 6 Z);have a:=X.iw (A:=[]) P u b;have n:=a.ko;have a:=L.ll;have a:=acd List.length y;rw[acf] at a;refine aq 27 func90 Z<|Q 10<|eB n (eC 4 Z cK) 8 (.slice (some ⟨J,G,none⟩) C D)<|bf<|i9 B x x.toNat λl _ _ i o a=>?_
 obtain⟨rfl,rfl⟩:=gM a;obtain⟨b,c,h,t,g,h1,f⟩:=jP E i;have a:b=r:=ace (c.symm.trans z);rw[a] at h t g h1 f;refine JO 4<|bC (l.bH≠0/\l.bH≠4) (λc=>bJ n [1,12,13] fn [0,1,2,3,4,5,7,8,9,10,6,11,12,13,14,15] λ_ a=>wV 1<|wO Z<|(by have b:=(a.pick 5 Z);refine cZ (uy (x:=l) o b) ?_;rintro _ _⟨rfl,_⟩;exact nA<|wV 1<|jy 14 _ false (acb c)<|wV 9<|wO Z<|bf<|nA<|wO Z<|bf<|nA<|wV 2<|wN<|RX 2 [.bool false]<|lx)) λc=>?_
 refine kI [1,12,13] [(6,⟨p,10,none⟩,.map (some m)),(11,⟨J,G+x.toNat*7+1+0,none⟩,I l.aw)] [(true,[0]),(false,[1]),(true,[2]),(true,[3,4,5,7,8,9,10]),(true,[6]),(true,[11]),(false,[12]),(false,[13]),(true,[14,15])] Z kr ⟨.inr (bW n 4 Z (k:=10) cK Z),.inr ((o.up 5 Z).cell n (k:=1) Z),trivial⟩<|have a:=n.drew;wU [0]<|wO Z<|have b:=(a.pick 5 Z);cZ (uy (x:=l) o b) ?_;rintro _ _⟨rfl,b⟩;refine er ⟨⟨.inr (bW b 5 Z (k:=10) cK Z),.inr ((o.up 0 Z).cell b (k:=1) Z),trivial⟩,?_⟩;refine wU [2]<|jy 14 _ true (acg c)<|wU [3,4,5,7,8,9,10]<|oI (.map (some m)) 0 isAgg155<|oI (I l.aw) 1 isAgg3<|wO Z<|gY<|bh (Pt h0 0) Z Z (jq (k:=l.aw) b 9 hM (by rw[t,Qz];rfl) runUnderlying155 runUnderlying3 zeroValue181)<|er ⟨dA,?_⟩;refine wO Z<|gY<|have a:=(b.az [3,3,3]);cZ (sg (s:=j) (pw.mk (s:=j) L w0 y S ha R Z) Oz R0 a.hX) ?_;rintro _ _⟨rfl,a⟩;have b:=a.ko;exact er ⟨dA,(wU [14,15]<|wN<|RX 2 [.bool j.bg]<|(by have a:=(b.az [4,3,3,3]);have c:=a.hX;have b:=X.eV (d:=((aW h0 #[.slice Xz U T,I j.cC,Pt e 0,.bool (gT j)] 184)++(t0++u0))) (A:=[]) P u c;rw[c7 u] at b;have a:=(b.az [6,6,6,6,5,6]);exact⟨rB ((RE z hh N).symm),(a.ej)⟩))⟩
def KO{F:FS}{M:af}{k:cj}(v:dJ p F M)(A:FI F K){z:kt}(x:Int)(hx:0<=x/\x<F.ws.length)(o:F.ws[x.toNat]?=some z)(hh:¬Holds z)(y:X W w (M::H::k)):
 Calls prog 90 #[Pt p 0,I x] w λe a=>e=.returned (.bool (iM F (nP F x)))/\X W a (M::H::k):=by
 obtain⟨s,r,t,u,q,m,xs,a,d,g,h,c,b,f,rfl,n,w0,i,j,a,hM,l⟩:=v;let v:X W _ ((iO p 158 (ie F.cc s r t u q m) (([]:List Ref).flatMap cz) (eu F.st))::d::c.flatten::b.flatten::g::h::f.flatten::H::k):=X.perm y (by simp);let a:=n.ll;let a:=gh w0;let b:=i.1;let a:=j.1;rw[acf] at b a;let a:=l.l;let a:=A.idle o hh;refine aq 27 func90 Z<|Q 10<|eB v (eC 0 Z cK) 8 (.slice (some ⟨s,r,none⟩) t u)<|bf<|i9 n x x.toNat λj _ _ i k a=>?_
 obtain⟨rfl,rfl⟩:=gM a;let⟨b,c,h0,h,g,f,d⟩:=jP w0 i;let a:b=z:=ace (c.symm.trans o);rw[a] at h0 h g f d;refine JO 4<|let c:¬(j.bH≠0/\j.bH≠4):=Y;bJ v [1,12,13] fn [0,1,2,3,4,5,7,8,9,10,6,11,12,13,14,15] λ_ a=>wV 1<|wO Z<|let b:=(a.pick 1 Z);cZ (uy (x:=j) k b) ?_
 rintro _ _⟨rfl,b⟩;exact nA<|wV 1<|jy 14 _ false (acb c)<|wV 9<|wO Z<|bf<|nA<|wO Z<|bf<|nA<|wV 2<|wN<|RX 2 [.bool false]<|(by let a:=(b.pick 1 Z);exact⟨rB ((Np o hh).symm),(a.ej)⟩)
def IM{W w:World}{F:FS}{M H:af}{c:cj}(f:dJ p F M)(b:FI F K)(x:Int)(hx:0<=x/\x<F.ws.length)(d:X W w (M::H::c)):
 Calls prog 90 #[Pt p 0,I x] w λe a=>e=.returned (.bool (iM F (nP F x)))/\X W a (M::H::c):=by
 by_cases hh:Holds (nP F x)
 ·exact Lc f b x hx (b.fw.sL hx) hh d
 ·exact KO f b x hx (b.fw.sL hx) hh d
end
end Go.Proofs.YtmfebppagcejcaaGreat
