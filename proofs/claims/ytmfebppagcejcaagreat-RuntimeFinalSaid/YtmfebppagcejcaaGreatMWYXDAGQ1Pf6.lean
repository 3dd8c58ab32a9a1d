import Derived.Test.YtmfebppagcejcaaGreatMWYXDAGQ1Fj
set_option linter.all false
namespace Go.Proofs.YtmfebppagcejcaaGreat
open Go Go.E Go.Proofs.Tryz
set_option maxRecDepth 100000
set_option maxHeartbeats 2000000
section
variable{W w:World}{H:af}{F:cj}
variable{n:Nat}
def Nq{α:Type}{enc:α->fa}{sz:Nat}{O:cj}{k:Nat}{xs:List α}(h:bl enc sz O none n k xs):xs=[]:=by
 rcases h.2.2.2.2.2 with h0|⟨b,a,h1,_⟩
 ·exact aeQ.1 (h.1.trans h0)
 ·cases h1
def Mt{α:Type}{zs l:List α}{i:Nat}{x t:α}(h:zs.drop i=l.drop i)(hx:zs[i]?=some x)(a:l[i]?=some t):x=t:=by
 have a:(zs.drop i)[0]?=zs[i]?:=by simp
 simp_all
def OT{zs l:List Task}{i:Nat}{x y:Task}{G Zz:af}(a:zs.drop i=l.drop i)(a:zs.map Task.v=l.map Task.v)(c:∀z∈zs.take i,Task.Ok [G] z)(hx:zs[i]?=some x)(hy:y.v=x.v)(b:Task.Ok [Zz] y):
 (zs.set i y).drop (i+1)=l.drop (i+1)/\(zs.set i y).map Task.v=l.map Task.v/\∀z∈(zs.set i y).take (i+1),Task.Ok [Zz++G] z:=by
 let a:=(aci.1 hx).1;refine⟨?_,?_,?_⟩
 ·exact(by rw[List.drop_set_of_lt Y];let a:zs.drop (i+1)=(zs.drop i).drop 1:=(by simp);simp_all)
 ·exact(by grind[List.map_set,c7])
 ·intro z hz;rw[bY (show(zs.set i y)[i]?=some y by simp_all),List.take_set_of_le (acS i)] at hz;rcases acn.1 hz with h|h
  ·exact(c z h).ag mS
  ·rw[ack.1 h];exact b.ag mS
def Gz(aD:List JS)(k:Int):Bool:=(aD.getD k.toNat default).bg
def C7(aD:List JS)(k:Int):Int:=if Gz aD k then(((aD.getD k.toNat default).aN.length:Nat):Int) else 0
def PT{l m:aR}(h:l.Perm m):l.sum=m.sum:=by
 induction h with
 |nil=>rfl
 |cons x _ a=>simp only[ady,a]
 |swap x y l=>simp only[ady];omega
 |trans _ _ b a=>exact b.trans a
def H8(n:Nat):aR:=(List.range n).map λi=>((i:Nat):Int)
def SW(n:Nat):(H8 n).Nodup:=by
 grind[H8,List.Pairwise.imp,Int.ofNat_inj,List.nodup_range]
variable{k:Int}
def PC:k∈H8 n↔0<=k/\k<(n:Int):=by
 unfold H8;constructor
 ·exact qj
 ·exact(by intro h;exact acG.2 ⟨k.toNat,adW.2 (by omega),by omega⟩)
variable{aD:List JS}
def keys_perm{b:List (Int×Nat)}{a:cj}(h:gl aD b a):(b.map (·.1)).Perm ((H8 64).filter λk=>(aD.getD k.toNat default).dm):=by
 rw[List.perm_ext_iff_of_nodup h.nd ((SW 64).filter _)];intro k;rw[h.k k,aen,PC]
 grind
def zz(aD:List JS):∀n,n<=aD.length->((H8 n).map (C7 aD)).sum=fT (aD.take n)
 |0,_=>rfl
 |n+1,h=>by
  let b:=zz aD n (by omega);let a:aD[n]?=some aD[n]:=aco (by omega);rw[HF a,<-b];unfold H8;rw[List.range_succ,acB,acB,ae8];simp only[acC,adA,ady,ae4,Int.add_zero]
  grind[C7,Gz]
def yh{f:Int->Int}{p:Int->Bool}:∀{l:aR},(∀k∈l,p k=false->f k=0)->((l.filter p).map f).sum=(l.map f).sum
 |[],_=>rfl
 |x::l,h=>by
  let a:=yh (f:=f) (p:=p) (l:=l) λk a=>h k (ac7 _ a)
  grind
variable{K:Int}
theorem Mn{F:FS}(a:FW F K)(h:(F.aD.getD k.toNat default).dm=false):Gz F.aD k=false:=by
 unfold Gz;rcases getD_or F.aD k.toNat with h1|h1
 ·cases hr:(F.aD.getD k.toNat default).bg with
  |false=>rfl
  |true=>let:=(a.j _ h1).r hr;rw[h] at this;cases this
 ·rw[h1];rfl
def Ol{F:FS}{c:List (Int×Nat)}{b:cj}(a:FW F K)(h:gl F.aD c b):((c.map (·.1)).map (C7 F.aD)).sum=fT F.aD:=by
 rw[PT ((keys_perm h).map _),yh,zz F.aD 64 (by rw[h.l];omega),acj (by rw[h.l];omega)]
 grind[C7,Mn]
variable{d:List (Int×Nat)}{b:Nat}
def gl.mem{a:cj}(h:gl aD d a)(g:(k,b)∈d):
 ∃(n:Nat) (c:af) (j:JS),d[n]?=some (k,b)/\a[n]?=some c/\pw b j c/\aD[k.toNat]?=some j/\j.dm=true/\0<=k/\k<64:=by
 let⟨n,f⟩:=adx g;let e:(d.map (·.2))[n]?=some b:=by simp_all
 let⟨s,c,d,hc,a⟩:=h.o.get e;rw[acE,f] at d;let a:=(h.k k).1 (acG.2 ⟨_,g,rfl⟩);let a:=h.l
 grind
def yM(jm:List (Int×Nat))(rs:List (Int×Value)):Prop:=∃l:List (Int×Nat),rs=Dg l/\∀x∈l,x∈jm
def yM.all(a:List (Int×Nat)):yM a (Dg a):=⟨a,rfl,λ_ h=>h⟩
def yM.take{rs g i:List (Int×Value)}{q:Int×Value}(h:yM d rs)(e:rs=g++q::i):∃(k:Int) (b:Nat),q=(k,Cl b)/\(k,b)∈d/\yM d (g++i):=by
 obtain⟨l,rfl,j⟩:=h;let f:l.map (λx=>(x.1,Cl x.2))=g++q::i:=e;obtain⟨a,d,rfl,ha,d⟩:=List.map_eq_append_iff.1 f;obtain⟨x,c,rfl,hx,hc⟩:=List.map_eq_cons_iff.1 d;exact⟨x.1,x.2,hx.symm,j x (by simp),a++c,(by grind[Dg]),λy hy=>j y (by grind)⟩
def CF(aD:List JS)(rs:List (Int×Value)):Int:=((rs.map (·.1)).map (C7 aD)).sum
def Nh{F:FS}{b:List (Int×Nat)}{a:cj}(c:FW F K)(h:gl F.aD b a):CF F.aD (Dg b)=fT F.aD:=by
 rw[<-Ol c h];unfold CF Dg;simp only[List.map_map];rfl
def BN{rs b a:List (Int×Value)}{q:Int×Value}(e:rs=b++q::a):CF aD rs=CF aD (b++a)+C7 aD q.1:=by
 grind[CF]
def QO:CF aD []=0:=rfl
def J8{j:JS}(a:aD[k.toNat]?=some j):C7 aD k=if j.bg=true then(j.aN.length:Int) else 0:=by grind[C7,Gz]
def IU{aD:List JS}:∀{rs:List (Int×Value)},0<=CF aD rs
 |[]=>ac2 _
 |q::rs=>by
  let a:=IU (aD:=aD) (rs:=rs)
  grind[C7,CF]
def Oj{F:FS}(b:FW F K):fT F.aD<=300000:=by
 let h:∀l:List JS,(∀j∈l,j.aN.length<=4096)->fT l<=4096*(l.length:Int):=by
  intro l
  induction l with
  |nil=>intro _;decide
  |cons j l a=>
   intro h;let h1:=a λy hy=>QD;let a:=h j acT;rw[iu,acu];split<;>omega
 let h1:=h F.aD λj a=>(b.j j a).n;rw[b.jl] at h1;omega
def Pg(n k:Nat)(xs:aR)(h:bl ca 1 [H] none n k xs)(a:n<=4096)(f:X W w (H::F)):
 Calls prog 64 #[.slice none n k] w λe d=>∃(c:cf) (a b:Nat) (Zz:af),e=.returned (.slice c a b)/\aF ca 3 1 c a b xs Zz/\X W d (Zz::H::F):=by
 let a:=h.ll;exact aq 8 func64 Z<|RC 20 [nS]<|VJ
def NG(a:Addr)(n k:Nat)(xs:aR)(h:bl ca 1 [H] (some a) n k xs)(d:n<=4096)(l:X W w (H::F)):
 Calls prog 64 #[.slice (some a) n k] w λe j=>∃(g:cf) (d f:Nat) (Zz:af),e=.returned (.slice g d f)/\aF ca 3 1 g d f xs Zz/\X W j (Zz::H::F):=by
 let d:=h.ll;exact aq 8 func64 Z<|Q 17<|ec l #[] 3 λf _ d=>bf<|dM (nb:=8) d (aF.dO (enc:=ca) (sz:=1) (b:=f) (c:=#[]) (E:=3) (xs:=[]) fR 0 Z Z Z Y) 0 (h.up 1 Z) underlying22 (i:=Tryz.t3) kr fR λd f _ _ g j=>RO 4 [.slice d (0+n) f]<|Wi
def Yi{W w:World}{H:af}{F:cj}(a:cf)(n k:Nat)(xs:aR)(h:bl ca 1 [H] a n k xs)(i:n<=4096)(g:X W w (H::F)):
 Calls prog 64 #[.slice a n k] w λe f=>∃(d:cf) (b c:Nat) (Zz:af),e=.returned (.slice d b c)/\aF ca 3 1 d b c xs Zz/\X W f (Zz::H::F):=by
 cases a with
 |none=>exact Pg n k xs h i g
 |some a=>exact NG a n k xs h i g
def LZ(n k:Nat)(xs:List Task)(h:bl cw 9 [H] none n k xs)(a:n<=4096)(f:X W w (H::F)):
 Calls prog 220 #[.slice none n k] w λe d=>∃(c:cf) (a b:Nat) (Zz:af),e=.returned (.slice c a b)/\aF cw 143 9 c a b xs Zz/\X W d (Zz::H::F):=by
 let a:=h.ll;exact aq 8 func220 Z<|RC 20 [nS]<|VJ
def Ks(a:Addr)(n k:Nat)(xs:List Task)(h:bl cw 9 [H] (some a) n k xs)(d:n<=4096)(l:X W w (H::F)):
 Calls prog 220 #[.slice (some a) n k] w λe j=>∃(g:cf) (d f:Nat) (Zz:af),e=.returned (.slice g d f)/\aF cw 143 9 g d f xs Zz/\X W j (Zz::H::F):=by
 let d:=h.ll;exact aq 8 func220 Z<|Q 17<|ec l #[] 143 λf _ d=>bf<|dM (nb:=88) d (aF.dO (enc:=cw) (sz:=9) (b:=f) (c:=#[]) (E:=143) (xs:=[]) fR 0 Z Z Z Y) 0 (h.up 1 Z) underlying43 (i:=Tryz.t143) kr fR λd f _ _ g j=>RO 4 [.slice d (0+n) f]<|Wi
def Sx{W w:World}{H:af}{F:cj}(a:cf)(n k:Nat)(xs:List Task)(h:bl cw 9 [H] a n k xs)(i:n<=4096)(g:X W w (H::F)):
 Calls prog 220 #[.slice a n k] w λe f=>∃(d:cf) (b c:Nat) (Zz:af),e=.returned (.slice d b c)/\aF cw 143 9 d b c xs Zz/\X W f (Zz::H::F):=by
 cases a with
 |none=>exact LZ n k xs h i g
 |some a=>exact Ks a n k xs h i g
def QN(g:cf)(f kl:Nat)(l:List Task)(k:bl cw 9 [H] g f kl l)(n:∀z∈l,Task.Ok [H] z)(a:f<=4096)(j:∀z∈l,z.aX.l.length<=4096)(h:X W w (H::F)):
 Calls prog 153 #[.slice g f kl] w λe d=>∃(c:cf) (a b:Nat) (zs:List Task) (C G:af),e=.returned (.slice c a b)/\aF cw 143 9 c a b zs C/\(∀z∈zs,Task.Ok [G] z)/\zs.map Task.v=l.map Task.v/\X W d (C::G::H::F):=by
 let a:=k.ll;refine aq 24 func153 Z<|Q 8<|cZ (Sx g f kl l (k.fl 0) Y h.ao) ?_;rintro _ _⟨h,h0,g,d,rfl,b,a⟩;let c:=a.ak;let a:=b.ll;refine JO 12<|bF [0,3,8] (γ:=Nat×(List Task)×af×af) (λ⟨i,zs,C,G⟩ R=>⟨[(9,I i)],G::C::R,f-i,i<=f/\(aF cw 143 9 h h0 g zs C)/\(zs.drop i=l.drop i)/\(zs.map Task.v=l.map Task.v)/\(∀z∈zs.take i,Task.Ok [G] z)⟩) (0,l,d,[]) ⟨(X.bU c),Y,b,rfl,rfl,(by intro z hz;simp at hz)⟩ ?_;rintro⟨i,zs,C,G⟩ V _⟨d,a,m,t,r,s⟩;let a:=m.ll;let a:=acd List.length r;rw[acf,acf] at a;refine Q 6<|CD ((i:Int)<h0) (λa=>RC 12 [.slice h h0 g]<|(by rw[acj Y] at s;exact⟨_,_,_,_,_,_,rfl,m,s,r,(d.pick 1 Z)⟩)) λa=>Q 15<|kQ k i λb _ _ k c=>let a:=j b (ab8 k);let a:=(n b (ab8 k)).aX.len;let a:=(n b (ab8 k)).aX.le;bf<|eB d (c.up 2 Z) 6 (.slice b.aX.a b.aX.n b.aX.k)<|cZ (Yi b.aX.a b.aX.n b.aX.k b.aX.l (bl.ao ((n b (ab8 k)).aX.up 2 (by rfl))) Y d.ao) ?_;rintro _ _⟨j,h,g,n,rfl,o,w0⟩;let c:=w0.ak;let a:=o.ll;exact i9 m (i:Int) i λf _ _ d _ a=>bf<|fj c m a 2 i 6 f ({f with aX:=⟨j,h,g,b.aX.l⟩}:Task) d (.slice j h g) [.slice j h g] sizeOf22 λ_ m q p=>JO 4<|aU (i:Int) 1<|bX 2 Z<|(by let a:=Mt t d k;let c:=OT (y:=({f with aX:=⟨j,h,g,b.aX.l⟩}:Task)) (Zz:=n) t r s d (by rw[a];rfl) ⟨o.dt (O:=[n]) 0 Z⟩;exact⟨(i+1,(zs.set i ({f with aX:=⟨j,h,g,b.aX.l⟩}:Task)),m,(n++G)),od,bR,(X.perm (cs':=((n++G)::m::H::F)) p (by simp)),Y,q,c.1,c.2.1,c.2.2⟩)
def Rw{p:Nat}{F:FS}{M:af}{o:cj}(v:dJ p F M)(G:FI F K)(y:X W w (M::H::o)):
 Calls prog 152 #[Pt p 0] w λe a=>e=.returned (I (fT F.aD))/\X W a (M::H::o):=by
 obtain⟨g,b,c,f,q,m,xs,x,k,l,B,i,h,j,rfl,n,r,t,u,a,hM,D⟩:=v;have v:X W _ ((iO p 158 (ie F.cc g b c f q m) (([]:List Ref).flatMap cz) (eu F.st))::k::i.flatten::h.flatten::l::B::j.flatten::H::o):=X.perm y (by simp);have a:=n.ll;have a:=gh r;have b:=t.1;have a:=u.1;rw[acf] at b a;have a:=D.l;have a:=Nh G.fw D;have a:=G.q.ld;have a:fT F.aD<=300000:=Oj G.fw;refine aq 25 func152 Z<|Q 16<|eB v (eC 0 Z cK) 10 (.map (some m))<|Ss v 5 hM runUnderlying155 λb g _ f c=>JO 3<|bF [10] (γ:=(List (Int×Value))×(Option (Int×Value))×af×Int) (λ⟨t,lt,a,u⟩ R=>⟨[(3,I u)],a::R,t.length,GU b m (Dg x) t lt B a/\yM x t/\(u+CF F.aD t=fT F.aD)/\(0<=u)⟩) ((Dg x),none,g,0) ⟨c,f,(yM.all x),Y,Y⟩ ?_
 rintro⟨t,lt,a,u⟩ V _⟨c,b,R0,a,a⟩;have a:=IU (aD:=F.aD) (rs:=t);refine Q 2<|WK c 6 0 b (λf=>?_) (λJ a E S a y h0 h=>?_)
 ·exact RO 17 [I u]<|(by have h1:=(c.aj 0 Z);have b:=(h1.ej);have a:=QO (aD:=F.aD);rw[<-f] at a;exact⟨acd (λz=>Ending.returned (I z)) Y,b⟩)
 obtain⟨P,v,rfl,c,Qz⟩:=R0.take y;refine JO 10<|Si (q:=(P,Cl v)) h 6 0 h0 ?_
 obtain⟨B,a,j,a,r,b,C,k,a,a⟩:=gl.mem D c;obtain⟨L,x,D,a,N,w0,Oz,rfl,g,o,f,n,_,l⟩:=b.open;have b:=(h.pick 7 Z);have a:=X.iw (A:=[]) B r b;have c:=a.ko;have b:=G.fw.j j (ab8 C);obtain⟨i,h,_,_⟩:=b.b k;have a:=b.n;have a:=g.len;have a:=acd List.length f;rw[acf] at a;refine JO 7<|have a:=(c.az [2,2,2]);cZ (sg (s:=j) (pw.mk (s:=j) g o f n k l Z) i h a.hX) ?_
 rintro _ _⟨rfl,a⟩;have g:=a.ko;refine JO 2<|CB j.bg (λh=>lq 2 Z<|(by have a:=(g.az [3,3,3,3]);have b:=a.hX;have a:=X.eV (d:=((aW v #[.slice L x D,I j.cC,Pt N 0,.bool (gT j)] 184)++(w0++Oz))) (A:=[]) B r b;rw[c7 r] at a;have f:=BN (aD:=F.aD) y;rw[J8 C,ab9 h] at f;have b:=(a.az [7,7,7,7,7,7,7]);have c:(J++E).length<t.length:=(by rw[y];simp only[acm,acu];omega);exact⟨((J++E),(some (P,Cl v)),S,u),by first|exact c|(dsimp only;exact c),bR,b,h0,Qz,Y,Y⟩)) λh=>GC g 7 [0]<|aU u (x:Int)<|bX 3 Z ?_;have a:=(g.az [3,3,3,3]);have b:=a.hX;have a:=X.eV (d:=((aW v #[.slice L x D,I j.cC,Pt N 0,.bool (gT j)] 184)++(w0++Oz))) (A:=[]) B r b;rw[c7 r] at a;have f:=BN (aD:=F.aD) y;rw[J8 C,aca h] at f;have b:=(a.az [7,7,7,7,7,7,7]);have c:(J++E).length<t.length:=by rw[y];simp only[acm,acu];omega
 exact⟨((J++E),(some (P,Cl v)),S,(u+(x:Int))),by first|exact c|(dsimp only;exact c),bR,b,h0,Qz,Y,Y⟩
def mf(n:Int)(a:Int)(b:Int)(d:X W w (H::F)):
 Ro prog 70 #[I n,I a,I b] (.bool (decide (a<=n/\n<=b))) W w (H::F):=by
 exact aq 15 func70 Z<|Q 11<|SD 10 (n>=a) (λc=>FO 8<|⟨rB ((acb (by omega)).symm),d⟩) λc=>RO 8 [.bool (decide ((n:Int)<=b))]<|⟨rB (by rw[acI];simp only[acr,aeM];omega),d⟩
def Ry(c:mi)(a:X W w (H::F)):
 Ro prog 39 #[.agg (fZ c).toArray] (I (eH c)) W w (H::F):=by
 exact aq 44 func39 Z<|Q 2<|eD a (fZ c) λ_ _ h0=>GO h0 7 [0]<|cS (mf c.dL 1 64 h0.ao) λ_ a=>bf<|SD 7 (1<=c.dL/\c.dL<=64) (λb=>RO 52 [I 2]<|⟨acd (λz=>Ending.returned (I z)) (by unfold eH;rw[ab9 Y]),(a.aj 0 Z)⟩) λb=>GO a 2 [0]<|gY<|cS (mf c.dh 1 64 a.ao) λ_ a=>cG<|SD 12 (1<=c.dh/\c.dh<=64) (λb=>RO 47 [I 2]<|⟨acd (λz=>Ending.returned (I z)) (by unfold eH;rw[ab9 Y]),(a.aj 0 Z)⟩) λb=>GO a 2 [0]<|gY<|cS (mf c.dg 1 64 a.ao) λ_ a=>cG<|SD 17 (1<=c.dg/\c.dg<=64) (λb=>RO 42 [I 2]<|⟨acd (λz=>Ending.returned (I z)) (by unfold eH;rw[ab9 Y]),(a.aj 0 Z)⟩) λb=>GO a 2 [0]<|gY<|cS (mf c.eY 0 1048576 a.ao) λ_ a=>cG<|SD 22 (0<=c.eY/\c.eY<=1048576) (λb=>RO 37 [I 2]<|⟨acd (λz=>Ending.returned (I z)) (by unfold eH;rw[ab9 Y]),(a.aj 0 Z)⟩) λb=>GO a 2 [0]<|gY<|cS (mf c.gQ 1 256 a.ao) λ_ a=>cG<|SD 27 (1<=c.gQ/\c.gQ<=256) (λb=>RO 32 [I 2]<|⟨acd (λz=>Ending.returned (I z)) (by unfold eH;rw[ab9 Y]),(a.aj 0 Z)⟩) λb=>GO a 2 [0]<|gY<|cS (mf c.aN 1 4096 a.ao) λ_ a=>cG<|SD 32 (1<=c.aN/\c.aN<=4096) (λb=>RO 27 [I 2]<|⟨acd (λz=>Ending.returned (I z)) (by unfold eH;rw[ab9 Y]),(a.aj 0 Z)⟩) λb=>GO a 2 [0]<|gY<|cS (mf c.cells 1 1048576 a.ao) λ_ a=>cG<|SD 37 (1<=c.cells/\c.cells<=1048576) (λb=>RO 22 [I 2]<|⟨acd (λz=>Ending.returned (I z)) (by unfold eH;rw[ab9 Y]),(a.aj 0 Z)⟩) λb=>GO a 2 [0]<|gY<|cS (mf c.aD 1 64 a.ao) λ_ b=>JO 11<|pk (1<=c.aD/\c.aD<=64) (λa=>RC 7 [I 2]<|⟨acd (λz=>Ending.returned (I z)) (by unfold eH;rw[ab9 Y]),(b.aj 0 Z)⟩) λa=>RC 8 [I 0]<|⟨acd (λz=>Ending.returned (I z)) (by unfold eH;rw[aca Y]),(b.aj 0 Z)⟩
def Hd{l:List Task}(b:im l=0):∀z∈l,z.aX.l.length<=4096:=by
 intro z hz;let⟨i,a⟩:=adx hz;let h1:=qd (jI b).2.2 a;let a:=vm (by omega) (p8 h1)
 grind[jI,List.getElem?_eq_some_iff]
def Tn{a:List (Int×Nat)}:Dg a++[(k,Cl b)]=Dg (a++[(k,b)]):=by grind[Dg]
def gl.add{c:cj}{j2:JS}{c2:af}(h:gl aD d c)(a:0<=k/\k<64)(a:(aD.getD k.toNat default).dm=false)(a:pw b j2 c2)(ha:j2.dm=true):
 gl (aD.set k.toNat j2) (d++[(k,b)]) (c++[c2]):=by
 have a:=h.l;have a:k∉d.map (·.1):=λa=>by have:=((h.k k).1 a).2.2;simp_all
 have e:(d.map λx=>(aD.set k.toNat j2).getD x.1.toNat default)=(d.map λx=>aD.getD x.1.toNat default):=(by apply afe;intro x hx;rw[pA Y,ab9];intro q;have a:=(h.k x.1).1 (acG.2 ⟨x,hx,rfl⟩);grind);refine⟨?_,?_,?_,by simp_all⟩
 ·exact(by rw[acB,acB,e];exact kE.snoc h.o<|dV)
 ·exact(by rw[acB,aex];refine⟨h.nd,by simp,?_⟩;grind)
 ·intro i;rw[acB,acn,h.k i,pA Y];constructor
  ·rintro(⟨h1,c,a⟩|h1)
   ·refine⟨h1,c,?_⟩;split
    ·exact ha
    ·exact a
   ·exact dV
  ·rintro⟨h1,c,a⟩;by_cases q:k=i
   ·right;subst q;simp
   ·exact qj
def OI{α:Type}{enc:α->fa}{E sz:Nat}{a:cf}{k:Nat}{xs:List α}{c:af}(h:aF enc E sz a n k xs c)(d:0<n):∃b o:Nat,a=some ⟨b,o,none⟩:=by
 rcases h.2.2.2 with⟨_,h0,_⟩|⟨b,d,_,h1,_⟩
 ·omega
 simp_all
def KY:gl (List.replicate 64 JS.zero) [] []:=by
 refine⟨kE.nil _,by simp,?_,by simp⟩
 grind[List.replicate,JS.zero,default]
def Yn{p:Nat}{F:FS}{M:af}{F0:cj}(f:dJ p F M)(n:FI F K){j:JS}(x:Int)(u:cf)(o kl:Nat)(l:List Task)(E:Int)(t:bl cw 9 [H] u o kl l)(C:∀z∈l,Task.Ok [H] z)(hx:0<=x/\x<64)(hj:F.aD[x.toNat]?=some j)(ha:j.dm=false)(a:0<=E/\E<4)(A:im l=0)(r:∀z∈l,z.dk<=F.cc.eY)(a:0<=F.cc.aN/\F.cc.aN<=4096)(a:(l.length:Int)<=F.cc.aN-fT F.aD)(d:X W w (M::H::F0)):
 Calls prog 88 #[Pt p 0,I x,.slice u o kl,I E] w λe c=>∃a:af,e=.returned (I 0)/\dJ p (vK F x l E) a/\X W c (a::H::F0):=by
 let a:=t.ll;obtain⟨wb,Xz,e,wk,q,m,xs,jm,Wc,Oz,B,D0,E0,N0,rfl,M0,R0,O0,P0,hQ,hM,L0⟩:=f;let f:X W _ ((iO p 158 (ie F.cc wb Xz e wk q m) (([]:List Ref).flatMap cz) (eu F.st))::Wc::D0.flatten::E0.flatten::Oz::B::N0.flatten::H::F0):=X.perm d (by simp);let a:=M0.ll;let a:=gh R0;let c:=O0.1;let a:=P0.1;rw[acf] at c a;let a:=L0.l;let hg:=gl.no L0 (k:=x) (λh=>by rw[getD_some hj,ha] at h;exact absurd h.2.2 (by decide));let a:=n.st.a;let a:=n.st.b;let a:=n.st.c;let a:=n.st.d;let a:=n.st.e;let a:=n.st.f;let a:=n.st.g;let a:=n.fw.n;let c:=jI A;let a:=c.2.1;let a:0<=fT F.aD:=afk _;let a:=Hj (y:=2) (s:=(jw l).st) (k:=0);let a:(jw l).st.length=l.length:=by simp[jw]
 refine aq 98 func88 Z<|Q 9<|cZ (xu ⟨Y,Y⟩ f) ?_;rintro _ _⟨rfl,c⟩;refine JO 11<|sD 19 (x<0) (λa=>RO 13 [I 16]<|lx) λa=>JO 5<|cD (x>=64) (λa=>RC 7 [I 16]<|lx) λa=>Q 8<|eB c (eC 0 Z cK) 10 (.map (some m))<|bf<|bh (.pointer none) Z Z (jq (k:=x) c 5 hM (by rw[hg];rfl) runUnderlying155 runUnderlying3 zeroValue181)<|JO 12<|sD 32 (E<0) (λa=>RO 13 [I 2]<|lx) λa=>JO 5<|cD (E>=4) (λa=>RC 7 [I 2]<|lx) λa=>Q 5<|cZ (Zt u o kl l (t.fl 7) (λz hz=>(C z hz).ag (mF 7)) c.ao) ?_;rintro _ _ (⟨c,rfl,d⟩|⟨c,Qz,_,rfl,D,d⟩)
 ·exact(by let a:=d.zk;exact JO 14<|(by let h1:¬(((im l):Int)=0):=c;exact cT _ (adM.2 h1)<|RC 8 [I (im l)]<|absurd A c))
 refine JO 26<|bF [0,1,2,3,9,44,45] (γ:=Nat) (λi R=>⟨[(46,I i)],R,o-i,i<=o⟩) 0 ⟨d.ak,Y⟩ ?_;rintro i V _⟨f,P⟩;refine Q 6<|cD ((i:Int)<o) (λg=>Q 6<|kQ t i λd _ _ w0 c=>(by let a:=r d (ab8 w0);exact lv f (c.up 8 Z) 0 (cw d)<|aI f zeroValue143 λc _ a=>bP a 0 Z (cw d) λ_ a=>JO 3<|kI [] [(1,⟨c,8,none⟩,I d.dk),(6,⟨p,3,none⟩,I F.cc.eY)] [(true,[0,2,3,4,5]),(true,[1]),(true,[6]),(true,[7])] Z kr ⟨cI a 0,.inr (bW a 2 Z (k:=3) cK Z),trivial⟩<|(by let c:=a.drew;exact wU [0,2,3,4,5]<|oI (I d.dk) 0 isAgg3<|oI (I F.cc.eY) 1 isAgg3<|wU [7]<|wN<|JX 1<|cD (d.dk>F.cc.eY) (λa=>RC 11 [I 12]<|lx) λa=>Q 4<|aU (i:Int) 1<|bX 2 Z<|⟨i+1,od,bR,(c.aj 0 Z),Y⟩))) λg=>Q 7<|kI [3] [(9,⟨p,5,none⟩,I F.cc.aN)] [(true,[0,1,2,5,6,7,8]),(true,[9]),(false,[3]),(true,[4]),(true,[10])] Z kr ⟨.inr (bW f 1 Z (k:=5) cK Z),trivial⟩ ?_;let c:=f.drew;refine wU [0,1,2,5,6,7,8]<|oI (I F.cc.aN) 0 isAgg3<|wO Z<|let a:=(c.az [7,7,7,7,7,7,7]);let c:=(a.ej);let a:dJ p F ((iO p 158 (ie F.cc wb Xz e wk q m) (([]:List Ref).flatMap cz) (eu F.st))++(Wc++(D0.flatten++(E0.flatten++(Oz++(B++N0.flatten)))))):=⟨_,_,_,_,_,_,_,_,_,_,_,_,_,_,rfl,M0,R0,O0,P0,hQ,hM,L0⟩;cZ (Rw a n c.aQ) ?_;rintro _ _⟨rfl,a⟩;let c:=a.ak;let d:=c.ra;refine er ⟨⟨.inr (bW d 0 Z (k:=5) cK Z),trivial⟩,?_⟩;refine mD (o:Int) (fT F.aD)<|wU [10]<|wN<|JX 1<|let a:¬((((o:Int)+(fT F.aD)):Int)>F.cc.aN):=Y;cF _ (acb a)<|Q 3<|kI [6,10,11] [(3,⟨p,10,none⟩,.map (some m))] [(true,[0,1,2,4,5,7,8]),(true,[3]),(false,[6]),(true,[9]),(false,[10]),(false,[11])] Z kr ⟨.inr (bW d 0 Z (k:=10) cK Z),trivial⟩<|let a:=d.drew;wU [0,1,2,4,5,7,8]<|oI (.map (some m)) 0 isAgg155<|wO Z<|cZ (QN u o kl l (t.fl 8) (λz hz=>(C z hz).ag (mF 8)) Y (Hd A) a.ao) ?_;rintro _ _⟨L,J,G,_,C,h0,rfl,S,z1,U,a⟩;let c:=a.cq;let a:=S.ll;let a:=acd List.length U;rw[acf,acf] at a;refine er ⟨⟨.inr (bW c 2 Z (k:=10) cK Z),trivial⟩,?_⟩;refine wU [9]<|wO Z<|eD c [.slice L J G,I E,Pt Qz 0,.bool false] λu _ a=>er ⟨⟨.inr (bW a 3 Z (k:=10) cK Z),trivial⟩,?_⟩;refine wO Z<|VI (k:=x) (v:=Pt u 0) a 8 hM hg runUnderlying155 runUnderlying3 λN _ a c=>let B0:xh m (Dg (jm++[(x,u)])) N:=(by rw[<-Tn];exact a);er ⟨dA,?_⟩;refine wN<|JX 5<|let a:=(c.pick 10 Z);cZ (Sy D (NR A) a.aQ) ?_;rintro _ _⟨_,c,_,D,A,rfl,d,f2,a⟩;let f:=a.cq;let a:=d.ll;refine JO 5<|bF [0,1,3,82,83] (γ:=Nat×QS×af) (λ⟨i,B,t⟩ R=>⟨[(84,I i)],D::A::aW u #[.slice L J G,I E,Pt Qz 0,.bool false] 184::C::h0::(iO p 158 (ie F.cc wb Xz e wk q m) (([]:List Ref).flatMap cz) (eu F.st))::Wc::D0.flatten::E0.flatten::t::R,c-i,i<=c/\(uT q B t)/\(B=lG x E F.q ((idxOf 2 0 (jw l).st).take i))⟩) (0,F.q,Oz) ⟨f,Y,hQ,rfl⟩ ?_;rintro⟨i,B,t⟩ V _⟨n,P,P,Oz⟩;refine Q 6<|cD ((i:Int)<c) (λr=>Q 6<|kQ d i λg _ _ o a=>eB n (a.up 0 Z) 0 (I g)<|JO 7<|eB n (eC 5 Z cK) 9 (Pt q 0)<|je<|(by let a:=(n.pick 9 Z);refine cZ (uO P (⟨x,g⟩:Ref) E Y a.aQ) ?_;rintro _ _⟨d,rfl,f,a⟩;let c:=a.ak;exact JO 4<|aU (i:Int) 1<|bX 2 Z<|⟨(i+1,(gk B (⟨x,g⟩:Ref) E),d),od,bR,(c.az [9,9,9,9,9,9,9,9,9]),Y,f,(by rw[Il o,<-Oz])⟩)) λr=>?_;exact RC 11 [I 0]<|let a:=(n.az [1,3,4,4,11]);let c:X W _ ((N0++[([(u,Obj.cells #[.slice L J G,I E,Pt Qz 0,.bool false] 184 (0,0))]++((h0++C)++A))]).flatten::D::(iO p 158 (ie F.cc wb Xz e wk q m) (([]:List Ref).flatMap cz) (eu F.st))::Wc::D0.flatten::E0.flatten::t::N::H::F0):=X.perm (show X W _ (N0.flatten::aW u #[.slice L J G,I E,Pt Qz 0,.bool false] 184::h0::C::A::D::(iO p 158 (ie F.cc wb Xz e wk q m) (([]:List Ref).flatMap cz) (eu F.st))::Wc::D0.flatten::E0.flatten::t::N::H::F0) from a) (by simp);let d:=gl.add (b:=u) (c2:=([(u,Obj.cells #[.slice L J G,I E,Pt Qz 0,.bool false] 184 (0,0))]++((h0++C)++A))) L0 (k:=x) hx (by rw[getD_some hj];exact ha) (pw.mk (s:=uQ l E) (cn:=false) (T:=(h0++C)) ((S.dt (O:=[h0,C]) 1 Z).ag (λp hp=>by simp at hp⊢;exact hp)) (λz hz=>(z1 z hz).ag mS) U f2 Z (λ_=>by show bT (jw l)<(((l.map Task.v).length:Nat):Int);rw[Ff,acf];omega) (uu Z).symm) Z;let a:=((c.az [7,7,7,7,7,7]).aj 7 Z);let c:=(a.ej);let he:vK F x l E=(⟨F.cc,F.ws,F.ar,F.dq,B,(F.aD.set x.toNat (uQ l E)),F.st⟩:FS):=(by unfold vK;rw[Oz,acj Y]);⟨_,rfl,by rw[he];exact⟨_,_,_,_,_,_,_,_,_,_,_,_,_,_,rfl,M0,R0,O0,P0,P,B0,d⟩,c⟩
def Ws{O:cj}(c:mi)(d:eH c=0)(b:X W w O):
 Calls prog 40 #[.agg (fZ c).toArray] w λe a=>∃(p:Nat) (M:af),e=.returned (.tuple #[Pt p 0,I 0])/\dJ p (ma c) M/\X W a (M::O):=by
 have a:=lX d;refine aq 66 func40 Z<|Q 2<|eD b (fZ c) λB _ a=>GO a 8 [800]<|cS (Ry c a.ao) λ_ b=>JO 9<|have a:((eH c):Int)=0:=d;cF _ (adr.2 a)<|GC b 6 [0]<|cZ (XF c.aN Y b) ?_;rintro _ _⟨s,u,rfl,x,a⟩;refine GO a 21 [801]<|AV a λr t _ w0 a=>bf<|eD a [I c.dL,I c.dh,I c.dg,I c.eY,I c.gQ,I c.aN,I c.cells,I c.aD,nS,Pt s 0,.map (some r),I 0,I 0,I 0,I 0,I 0,I 0,I 0,I 0,I 0,I 0] λo _ a=>GO a 12 [3]<|have b:=(a.az [2,3,2]);have d:X W _ (aW o #[I c.dL,I c.dh,I c.dg,I c.eY,I c.gQ,I c.aN,I c.cells,I c.aD,nS,Pt s 0,.map (some r),I 0,I 0,I 0,I 0,I 0,I 0,I 0,I 0,I 0,I 0] 158::([]:af)::([]:cj).flatten::([]:cj).flatten::aW B (fZ c).toArray 26::u::t::O):=X.perm (show X W _ (aW o #[I c.dL,I c.dh,I c.dg,I c.eY,I c.gQ,I c.aN,I c.cells,I c.aD,nS,Pt s 0,.map (some r),I 0,I 0,I 0,I 0,I 0,I 0,I 0,I 0,I 0,I 0] 158::aW B (fZ c).toArray 26::u::t::O) from b) (by simp);bF [1,7,31] (γ:=Nat×cf×Nat×Nat×af×(List PW)×cj×cj) (λ⟨i,a,k,f,g,xs,m,n⟩ R=>⟨[(32,I i)],aW o #[I c.dL,I c.dh,I c.dg,I c.eY,I c.gQ,I c.aN,I c.cells,I c.aD,.slice a k f,Pt s 0,.map (some r),I 0,I 0,I 0,I 0,I 0,I 0,I 0,I 0,I 0,I 0] 158::g::m.flatten::n.flatten::R,c.dL.toNat-i,(i:Int)<=c.dL/\aF BU 166 7 a k f xs g/\xs.map PW.core=List.replicate i (⟨0,0,0,0,0⟩:El)/\kE Qw (xs.map (·.a)) (List.replicate i (⟨c.eY,0,0,[]⟩:AS)) m/\kE GL (xs.map (·.d)) (List.replicate i (⟨c.gQ,[]⟩:DS)) n⟩) (0,none,0,0,[],[],[],[]) ⟨d,Y,aF.nil fR,rfl,kE.nil _,kE.nil _⟩ ?_;rintro⟨i,a,k,f,g,xs,m,n⟩ V _⟨h,a,j,v,z,A⟩;have a:=j.ll;have a:=acd List.length v;rw[acf,adI] at a;refine Q 6<|CD ((i:Int)<c.dL) (λq=>RC 13 [Pt o 0,I 0]<|(by obtain rfl:i=c.dL.toNat:=(by omega);obtain⟨b,a,rfl⟩:=OI j Y;have d:=(h.aj 4 Z);have l:X W _ (((iO o 158 (ie c b a k f s r) (([]:List Ref).flatMap cz) (eu (ma c).st))++(g++(m.flatten++(n.flatten++(u++(t++([]:cj).flatten))))))::O):=X.perm (show X W _ ((iO o 158 (ie c b a k f s r) (([]:List Ref).flatMap cz) (eu (ma c).st))::g::m.flatten::n.flatten::u::t::O) from d) (by simp);exact⟨_,_,rfl,⟨_,_,_,_,_,_,_,_,_,_,_,_,_,_,rfl,j,by rw[v];unfold ma;rw[aep];rfl,z,A,x,w0,KY⟩,l⟩)) λq=>GC h 8 [4]<|cZ (XW c.eY Y h) ?_;rintro _ _⟨h,l,rfl,y,a⟩;refine GO a 21 [5]<|cZ (Ye c.gQ Y a) ?_;rintro _ _⟨f,g,rfl,x,a⟩;exact GO a 26 [2]<|ec a #[I 0,I 0,I 0,I 0,I 0,Pt h 0,Pt f 0] 166 λ_ _ a=>dM (nb:=56) a j 4 (bl.dO (enc:=BU) (sz:=7) (xs:=[(⟨0,0,0,0,0,h,f⟩:PW)]) fR 1 0 Z Z Z Y) underlying156 (i:=Tryz.t166) kr fR λb h0 d _ q h1=>cG<|eX h1 3 Z 8 (.slice b (k+1) h0) λ_ a=>JO 4<|aU (i:Int) 1<|bX 2 Z<|(by have j:=((a.az [6,3,6,6,6]).aj 5 Z);have a:X W _ (aW o #[I c.dL,I c.dh,I c.dg,I c.eY,I c.gQ,I c.aN,I c.cells,I c.aD,.slice b (k+1) h0,Pt s 0,.map (some r),I 0,I 0,I 0,I 0,I 0,I 0,I 0,I 0,I 0,I 0] 158::d::(m++[l]).flatten::(n++[g]).flatten::aW B (fZ c).toArray 26::u::t::O):=X.perm (show X W _ (aW o #[I c.dL,I c.dh,I c.dg,I c.eY,I c.gQ,I c.aN,I c.cells,I c.aD,.slice b (k+1) h0,Pt s 0,.map (some r),I 0,I 0,I 0,I 0,I 0,I 0,I 0,I 0,I 0,I 0] 158::d::m.flatten::l::n.flatten::g::aW B (fZ c).toArray 26::u::t::O) from j) (by simp);exact⟨(i+1,b,(k+1),h0,d,(xs++[(⟨0,0,0,0,0,h,f⟩:PW)]),(m++[l]),(n++[g])),od,bR,a,Y,q,(by rw[acB,v,afa];rfl),(by rw[afa,acB];exact kE.snoc z y),(by rw[afa,acB];exact kE.snoc A x)⟩)
end
section
variable{W w:World}{H:af}{F:cj}
section
variable{P:Program}{n:Nat}{V:Env}{w:World}{ops:Array Oper}{rest:List Oper}{N:Env->World->Prop}{o:Oper}
def YH(a b:Int){t u:TypeId}{x y:Operand}(h:aZ P n ops rest N (put V o.dst (I (a.tdiv b))) w)(f:¬b=0:=by omega)(e:-9223372036854775808<=a.tdiv b/\a.tdiv b<=9223372036854775807:=by omega)
 (d:o.op=.binOp .quo t x y u:=by rfl) (hg:o.guard=none:=by rfl) (c:cV n o.dst=true:=by rfl) (hx:ev V x=I a:=by kernel_rfl) (hy:ev V y=I b:=by kernel_rfl):
 aZ P n ops (o::rest) N V w:=bh _ hg c (rJ d hx hy (by simp[binOp,Op.intDiv,f,wrap_i64 e])) h
end
variable{a b:Int}
def Cr{z:Int}{o:fJ}{l:List fJ}{st:aR}(hc:0<=o.code/\o.code<=2)(hz:il o 0 0 a b=z)(d:kn z):ve a b (o::l) st=ve a b l (st++[z]):=by
 let e:bA o.code=0:=by unfold bA;rw[aca (by omega)]
 let h1:Yq o st=0:=by unfold Yq;rw[ab9 (by omega)]
 let c:Q4 o st=0:=by unfold Q4;rw[ab9 (by omega)]
 rw[ve,h1,c,aca ⟨λh=>by omega,by rw[hz];exact d⟩,hz,e];congr 1;exact Vb
variable{x y:Int}
def P9{o:fJ}{c d:Int}(h:3<=o.code):il o x y a b=il o x y c d:=by
 have h0:¬o.code=0:=(by omega);have h1:¬o.code=1:=(by omega);have e:¬o.code=2:=(by omega);simp only[il,h0,h1,e,adR]
def YY{o:fJ}{z:Int}(h:10<=o.code):il o x y a b=il o x z a b:=by
 have h0:¬o.code=0:=(by omega);have h1:¬o.code=1:=(by omega);have k:¬o.code=2:=(by omega);have j:¬o.code=3:=(by omega);have i:¬o.code=4:=(by omega);have g:¬o.code=5:=(by omega);have f:¬o.code=6:=(by omega);have e:¬o.code=7:=(by omega);have d:¬o.code=8:=(by omega);have c:¬o.code=9:=(by omega);simp only[il,h0,h1,k,j,i,g,f,e,d,c,adR]
def Vr{o:fJ}{st:aR}(hc:3<=o.code/\o.code<=11)(hx:st[st.length-(bA o.code).toNat]?=some x)(hy:st[st.length-1]?=some y):
 Yq o st=x/\il o x (Q4 o st) a b=il o x y 0 0/\(ju o x (Q4 o st) a b↔ju o x y 0 0):=by
 let h1:Yq o st=x:=by unfold Yq;rw[aca (by unfold bA;split;omega;split<;>omega),acp,hx];rfl
 by_cases h:10<=o.code
 ·exact(by let d:il o x (Q4 o st) a b=il o x y 0 0:=(P9 Y).trans (YY h);exact⟨h1,d,by unfold ju;rw[d];exact and_congr_left (λ_=>⟨λ_ c=>by omega,λ_ c=>by omega⟩)⟩)
 ·exact(by let e:Q4 o st=y:=(by unfold Q4;rw[aca (by unfold bA;exact Gc),acp,hy];rfl);let d:il o x (Q4 o st) a b=il o x y 0 0:=(by rw[e];exact P9 Y);exact⟨h1,d,by unfold ju;rw[d,e]⟩)
def Y9{o:fJ}{l:List fJ}{st m:aR}(hc:3<=o.code/\o.code<=11)(hx:st[st.length-(bA o.code).toNat]?=some x)(hy:st[st.length-1]?=some y)(e:ju o x y 0 0)(f:m=st.take (st.length-(bA o.code).toNat)):
 ve a b (o::l) st=ve a b l (m++[il o x y 0 0]):=by
 let⟨h1,c,d⟩:=Vr (a:=a) (b:=b) hc hx hy;subst f;rw[ve,h1,c,aca (d.2 e)]
def ZJ{o:fJ}{l:List fJ}{st:aR}(hc:3<=o.code/\o.code<=11)(hx:st[st.length-(bA o.code).toNat]?=some x)(hy:st[st.length-1]?=some y)(d:¬ju o x y 0 0):ve a b (o::l) st=none:=by
 obtain⟨h1,c,c⟩:=Vr (a:=a) (b:=b) hc hx hy;rw[ve,h1,ab9 (λk=>d (c.1 k))]
def S4{o:fJ}(h:ju o x y 0 0):kn (il o x y 0 0):=h.2
def H5(hy:¬y=0):x.fdiv y=if ¬x.tmod y=0/\¬(x<0↔y<0) then x.tdiv y-1 else x.tdiv y:=by
 let h1:=aeb x y;let h2:=Int.mul_fdiv_add_fmod x y;let hr:(x.tmod y).natAbs<y.natAbs:=by rw[Int.natAbs_tmod];exact aeC _ Y
 let hs:(0<=x->0<=x.tmod y)/\(x<=0->x.tmod y<=0):=⟨λh=>ae6 y h,λh=>by let:=ae6 y (show 0<=-x by omega);rw[Int.neg_tmod] at this;omega⟩
 let a0:∀q r q2 r2:Int,y*q+r=y*q2+r2->(r-r2).natAbs<y.natAbs->q=q2:=by
  intro q r q2 r2 h h3;by_cases he:q=q2
  ·exact he
  ·exact(by exfalso;let h4:y*(q2-q)=r-r2:=(by rw[Int.mul_sub];omega);let h5:y.natAbs*(q2-q).natAbs=(r-r2).natAbs:=(by rw[<-h4,aeP]);let h6:=Nat.mul_le_mul_left y.natAbs (show 1<=(q2-q).natAbs by omega);omega)
 rcases Int.lt_or_lt_of_ne hy with h0|h0
 ·let f1:y<x.fmod y/\x.fmod y<=0:=(by let h4:=Int.fmod_nonneg_of_pos (-x) (show 0< -y by omega);let h5:=Int.fmod_lt_of_pos (-x) (show 0< -y by omega);rw[Int.neg_fmod_neg] at h4 h5;omega);split
  ·exact Vl
  ·exact TV
 ·let f1:0<=x.fmod y/\x.fmod y<y:=⟨Int.fmod_nonneg_of_pos _ h0,Int.fmod_lt_of_pos _ h0⟩;split
  ·exact Vl
  ·exact TV
def Gv(p q:aM)(two:Bool)(l:List fJ)(out:Int)(r:dY):Int:=if aO p=true/\(two=true->aO q=true) then(if de l two p.aG q.aG out=0 then(if(two=true->p.w=q.w/\p.h=q.h)/\jd r p.w p.h then 0 else 8) else de l two p.aG q.aG out) else 1
def Hf{p q:aM}{two:Bool}{l:List fJ}{out:Int}{r:dY}:Rh p q two l out r=LP (Gv p q two l out r) (pV r out (Yu p q two l out)):=rfl
section
variable{p q:aM}{two:Bool}{l:List fJ}{out:Int}{r:dY}
def UI(h:¬(aO p=true/\(two=true->aO q=true))):Gv p q two l out r=1:=ab9 h
def PK{c:Int}(h:aO p=true/\(two=true->aO q=true))(hc:de l two p.aG q.aG out=c)(a:¬c=0):Gv p q two l out r=c:=by unfold Gv;rw[aca h,ab9 (by omega),hc]
def Qt(h:aO p=true/\(two=true->aO q=true))(hc:de l two p.aG q.aG out=0)(a:¬((two=true->p.w=q.w/\p.h=q.h)/\jd r p.w p.h)):Gv p q two l out r=8:=by unfold Gv;rw[aca h,aca hc,ab9 a]
def YU(h:aO p=true/\(two=true->aO q=true))(hc:de l two p.aG q.aG out=0)(a:(two=true->p.w=q.w/\p.h=q.h)/\jd r p.w p.h):Gv p q two l out r=0:=by unfold Gv;rw[aca h,aca hc,aca a]
end
def Cn(x:Int)(y:Int)(hx:-17592186044416<=x/\x<=17592186044416)(hy:-17592186044416<=y/\y<=17592186044416)(c:X W w (H::F)):
 Ro prog 344 #[I x,I y] (I (lE x y)) W w (H::F):=by
 refine aq 25 func344 Z<|Q 12<|cE y 0 (λa=>RC 7 [I 0]<|⟨acd (λz=>Ending.returned (I z)) (by unfold lE;rw[aca Y]),c⟩) λa=>Q 3<|let a:-17592186044416<=x.tdiv y/\x.tdiv y<=17592186044416:=(by let h:=Int.natAbs_tdiv_le_natAbs x y;omega);Q 3<|YH x y<|JO 8<|Dw x y<|cG<|sN 15 (x.tmod y) 0 (λa=>RO 18 [I (x.tdiv y)]<|⟨acd (λz=>Ending.returned (I z)) (by unfold lE;rw[ab9 Y,H5 Y,ab9 Y]),c⟩) λa=>JO 8 ?_;rcases Ds (decide (x<0)) (decide (y<0)) with a|a
 ·exact cF _ (acd Bool.not (show((decide (x<0))==(decide (y<0)))=true from by simpa using a))<|RC 9 [I (x.tdiv y)]<|(by let b:=a;rw[ad6] at b;exact⟨acd (λz=>Ending.returned (I z)) (by unfold lE;rw[ab9 Y,H5 Y,ab9 Y]),c⟩)
 exact cT _ (acd Bool.not (show((decide (x<0))==(decide (y<0)))=false from by simpa using a))<|Q 2<|dP (x.tdiv y) 1<|RO 10 [I ((x.tdiv y)-1)]<|(by let b:=a;rw[ad6] at b;exact⟨acd (λz=>Ending.returned (I z)) (by unfold lE;rw[ab9 Y,H5 Y,aca ⟨Y,Y⟩]),c⟩)
def LD(o:fJ)(x:Int)(y:Int)(hx:-17592186044416<=x/\x<=17592186044416)(hy:-17592186044416<=y/\y<=17592186044416)(hc:3<=o.code/\o.code<=11)(a:nM o)(a:X W w (H::F)):
 Ro prog 313 #[.agg #[I o.code,I o.arg],I x,I y] (.tuple #[I (il o x y 0 0),.bool (decide (ju o x y 0 0))]) W w (H::F):=by
 refine aq 67 func313 Z<|Q 2<|eD a [I o.code,I o.arg] λ_ _ f=>GO f 24 [0]<|cE o.code 3 (λc=>Q 3<|aU x y<|JO 10<|gY<|cS (gU (x+y) f.ao) λ_ a=>RO 6 [I (x+y),.bool (decide ((-17592186044416:Int)<=(x+y)/\(x+y)<=17592186044416))]<|(by let b:=(a.aj 0 Z);let d:il o x y 0 0=(x+y):=(by unfold il;rw[ab9 Y,ab9 Y,ab9 Y,aca Y]);let e:decide (ju o x y 0 0)=decide ((-17592186044416:Int)<=(x+y)/\(x+y)<=17592186044416):=VK;exact zG)) λc=>Q 6<|cE o.code 4 (λb=>Q 3<|dP x y<|JO 10<|gY<|cS (gU (x-y) f.ao) λ_ a=>RO 6 [I (x-y),.bool (decide ((-17592186044416:Int)<=(x-y)/\(x-y)<=17592186044416))]<|(by let h0:=(a.aj 0 Z);let d:il o x y 0 0=(x-y):=(by unfold il;rw[ab9 Y,ab9 Y,ab9 Y,ab9 Y,aca Y]);let e:decide (ju o x y 0 0)=decide ((-17592186044416:Int)<=(x-y)/\(x-y)<=17592186044416):=VK;exact⟨by rw[e,d];rfl,h0⟩)) λb=>?_;refine Q 6<|cE o.code 5 (λg=>Q 3<|cS (mq x y od od f.ao) λ_ a=>JO 13<|SB 63 (gd x y) (λc=>RO 8 [I (aE x y),.bool false]<|(by let b:=(a.aj 0 Z);let d:il o x y 0 0=(aE x y):=TZ;let e:decide (ju o x y 0 0)=false:=acb (λh=>by let h1:=h.1 Y;simp_all);exact zG)) λc=>bf<|gY<|cS (gU (aE x y) a.ao) λ_ a=>RO 6 [I (aE x y),.bool (decide ((-17592186044416:Int)<=(aE x y)/\(aE x y)<=17592186044416))]<|(by let b:=(a.aj 0 Z);let d:il o x y 0 0=(aE x y):=TZ;let e:decide (ju o x y 0 0)=decide ((-17592186044416:Int)<=(aE x y)/\(aE x y)<=17592186044416):=(by rw[acI,acr];unfold ju kn;rw[d];simp only[acr];exact⟨λh=>h.2,λh=>⟨λ_=>by simp_all,h⟩⟩);exact zG)) λg=>?_;refine Q 6<|cE o.code 6 (λc=>Q 3<|bh (I (min x y)) Z Z (iY x y Z Z kr kr)<|JO 10<|gY<|cS (gU (min x y) f.ao) λ_ a=>RO 6 [I (min x y),.bool (decide ((-17592186044416:Int)<=(min x y)/\(min x y)<=17592186044416))]<|(by let b:=(a.aj 0 Z);let d:il o x y 0 0=(min x y):=(by unfold il;rw[ab9 Y,ab9 Y,ab9 Y,ab9 Y,ab9 Y,ab9 Y,aca Y]);let e:decide (ju o x y 0 0)=decide ((-17592186044416:Int)<=(min x y)/\(min x y)<=17592186044416):=VK;exact zG)) λc=>Q 6<|cE o.code 7 (λc=>Q 3<|bh (I (max x y)) Z Z (gV x y Z Z kr kr)<|JO 10<|gY<|cS (gU (max x y) f.ao) λ_ a=>RO 6 [I (max x y),.bool (decide ((-17592186044416:Int)<=(max x y)/\(max x y)<=17592186044416))]<|(by let b:=(a.aj 0 Z);let d:il o x y 0 0=(max x y):=(by unfold il;rw[ab9 Y,ab9 Y,ab9 Y,ab9 Y,ab9 Y,ab9 Y,ab9 Y,aca Y]);let e:decide (ju o x y 0 0)=decide ((-17592186044416:Int)<=(max x y)/\(max x y)<=17592186044416):=VK;exact zG)) λc=>?_;refine Q 6<|cE o.code 8 (λb=>Q 3<|dP x y<|cS (rH (x-y) od f.ao) λ_ a=>JO 10<|gY<|cS (gU (((x-y).natAbs:Nat):Int) a.ao) λ_ a=>RO 6 [I (((x-y).natAbs:Nat):Int),.bool (decide ((-17592186044416:Int)<=(((x-y).natAbs:Nat):Int)/\(((x-y).natAbs:Nat):Int)<=17592186044416))]<|(by let w0:=(a.aj 0 Z);let d:il o x y 0 0=(((x-y).natAbs:Nat):Int):=(by unfold il;rw[ab9 Y,ab9 Y,ab9 Y,ab9 Y,ab9 Y,ab9 Y,ab9 Y,ab9 Y,aca Y]);let e:decide (ju o x y 0 0)=decide ((-17592186044416:Int)<=(((x-y).natAbs:Nat):Int)/\(((x-y).natAbs:Nat):Int)<=17592186044416):=VK;exact⟨by rw[e,d];rfl,w0⟩)) λb=>?_;exact Q 6<|cE o.code 9 (λc=>Q 3<|cS (Cn x y od od f.ao) λ_ a=>JO 10<|gY<|cS (gU (lE x y) a.ao) λ_ a=>RO 6 [I (lE x y),.bool (decide ((-17592186044416:Int)<=(lE x y)/\(lE x y)<=17592186044416))]<|(by let b:=(a.aj 0 Z);let d:il o x y 0 0=(lE x y):=(by unfold il;rw[ab9 Y,ab9 Y,ab9 Y,ab9 Y,ab9 Y,ab9 Y,ab9 Y,ab9 Y,ab9 Y,aca Y]);let e:decide (ju o x y 0 0)=decide ((-17592186044416:Int)<=(lE x y)/\(lE x y)<=17592186044416):=VK;exact zG)) λc=>Q 6<|cE o.code 10 (λc=>GC f 4 [0]<|cS (l9 x o.arg f.ao) λ_ a=>JO 10<|gY<|cS (gU (bk x o.arg) a.ao) λ_ a=>RO 6 [I (bk x o.arg),.bool (decide ((-17592186044416:Int)<=(bk x o.arg)/\(bk x o.arg)<=17592186044416))]<|(by let b:=(a.aj 0 Z);let d:il o x y 0 0=(bk x o.arg):=(by unfold il;rw[ab9 Y,ab9 Y,ab9 Y,ab9 Y,ab9 Y,ab9 Y,ab9 Y,ab9 Y,ab9 Y,ab9 Y,aca Y]);let e:decide (ju o x y 0 0)=decide ((-17592186044416:Int)<=(bk x o.arg)/\(bk x o.arg)<=17592186044416):=VK;exact zG)) λc=>Q 6<|let a:o.code=11:=Y;cT _ (acJ.2 a)<|Q 2<|cS (rH x od f.ao) λ_ a=>JO 10<|gY<|cS (gU (x.natAbs:Int) a.ao) λ_ a=>RO 6 [I x.natAbs,.bool (decide ((-17592186044416:Int)<=(x.natAbs:Int)/\(x.natAbs:Int)<=17592186044416))]<|let b:=(a.aj 0 Z);let d:il o x y 0 0=(x.natAbs:Int):=(by unfold il;rw[ab9 Y,ab9 Y,ab9 Y,ab9 Y,ab9 Y,ab9 Y,ab9 Y,ab9 Y,ab9 Y,ab9 Y,ab9 Y]);let e:decide (ju o x y 0 0)=decide ((-17592186044416:Int)<=(x.natAbs:Int)/\(x.natAbs:Int)<=17592186044416):=VK;⟨by rw[e,d];rfl,b⟩
def Rx(d:cf)(k kl:Nat)(l:List fJ)(a:Int)(b:Int)(q:bl gA 2 [H] d k kl l)(two:Bool)(f:cH l two=0)(ha:0<=a/\a<=4294967296)(c:0<=b/\b<=4294967296)(g:X W w (H::F)):
 Ro prog 277 #[.slice d k kl,I a,I b] (.tuple #[I ((yI l a b).1),I ((yI l a b).2)]) W w (H::F):=by
 have c:=q.ll;obtain⟨c,c,c⟩:=lJ f;refine aq 81 func277 Z<|Q 8<|vJ (kl:=.i64) (kc:=.i64) (enc:=ca) (sz:=1) (nb:=8) g 32 32 (rfl:(32:Int)=((32:Nat):Int)) underlying22 (i:=Tryz.t3) kr fR λj g _ n d=>JO 12<|bF [1,2,17,18] (γ:=Nat×aR×SO) (λ⟨i,o,C,r,D,c⟩ R=>⟨[(19,I i),(8,.slice C r D)],c::R,k-i,i<=k/\(ve a b l []=ve a b (l.drop i) o)/\(fL two (l.drop i) (o.length:Int)=0)/\(∀z∈o,-17592186044416<=z/\z<=17592186044416)/\(o.length<=i)/\aF ca 3 1 C r D o c⟩) (0,[],(At j 0),0,32,g) ⟨d,Y,by rfl,(lJ f).1,pG,by simp,n⟩ ?_;rintro⟨i,o,C,r,D,c⟩ V _⟨n,c,y,p,A,c,v⟩;have c:=v.ll;refine Q 6<|CD ((i:Int)<k) (λk=>Q 6<|(by have hh:fL two (l.drop i) o.length=0:=p;rw[acO Y] at hh;have c:o.length=1:=NX;refine Q 2<|i9 v 0 0 λd _ _ g c _=>eB n (c.up 0 Z) 0 (I d)<|RO 5 [I d,I 0] ?_;have j:=(n.aj 0 Z);have f:ve a b l []=some o:=(by rw[y,acO Y];rfl);have c:o[0]?=some d:=g;exact⟨by rw[show yI l a b=(d,0) from by unfold yI;rw[f];dsimp only;rw[acp,c];rfl];rfl,j⟩)) λk=>?_;refine Q 6<|kQ q i λj _ _ x f=>?_;obtain⟨d,u,B⟩:=tu (by rw[<-dZ x];exact p);have c:=pd j.code;have c:=kC j.code;have c:(0<=j.code/\j.code<=11)/\bA j.code<=o.length:=(by unfold ur at d;omega);have p:3<=j.code->1<=bA j.code:=TY;refine lv n (f.up 1 Z) 0 [I j.code,I j.arg]<|aI n zeroValue119 λ_ _ c=>bP c 0 Z [I j.code,I j.arg] λ_ n=>GO n 16 [0]<|cE j.code 0 (λc=>?_) (λc=>?_)
 ·refine Q 4<|ec n #[I a] 3 λ_ _ w0=>dM (nb:=8) w0 v 2 (bl.dO (enc:=ca) (sz:=1) (xs:=[a]) fR 1 0 Z Z Z Y) underlying22 (i:=Tryz.t3) kr fR λc f d _ k g=>JO 9<|aU (i:Int) 1<|bX 2 Z ?_
  exact⟨(i+1,(o++[a]),c,(r+1),f,d),od,bR,(g.ap [0,0]),Y,by rw[y,dZ x];exact Cr Y (by unfold il;exact qk) NK,by rw[acm];simp only[acu,acX];rw[show((o.length+(0+1):Nat):Int)=(o.length:Int)+(1-bA j.code) from by rw[show bA j.code=0 from by unfold bA;rw[aca Y]];omega];exact B,(by
   intro z hz;rcases acn.1 hz with h|h
   ·exact A z h
   ·simp only[ack] at h;subst h;unfold nM at u;omega),by simp;omega,k⟩
 refine Q 6<|cE j.code 1 (λc=>?_) (λc=>?_)
 ·refine Q 4<|ec n #[I b] 3 λ_ _ c=>dM (nb:=8) c v 2 (bl.dO (enc:=ca) (sz:=1) (xs:=[b]) fR 1 0 Z Z Z Y) underlying22 (i:=Tryz.t3) kr fR λc f h1 _ g d=>JO 9<|aU (i:Int) 1<|bX 2 Z ?_
  exact⟨(i+1,(o++[b]),c,(r+1),f,h1),od,bR,(d.ap [0,0]),Y,by rw[y,dZ x];exact Cr Y (by unfold il;rw[ab9 Y,aca Y]) NK,by rw[acm];simp only[acu,acX];rw[show((o.length+(0+1):Nat):Int)=(o.length:Int)+(1-bA j.code) from by rw[show bA j.code=0 from by unfold bA;rw[aca Y]];omega];exact B,(by
   intro z hz;rcases acn.1 hz with h|h
   ·exact A z h
   ·simp only[ack] at h;subst h;unfold nM at u;omega),by simp;omega,g⟩
 refine Q 6<|cE j.code 2 (λc=>?_) (λc=>?_)
 ·refine GC n 5 [0]<|ec n #[I j.arg] 3 λ_ _ c=>dM (nb:=8) c v 2 (bl.dO (enc:=ca) (sz:=1) (xs:=[j.arg]) fR 1 0 Z Z Z Y) underlying22 (i:=Tryz.t3) kr fR λc g f _ k d=>JO 9<|aU (i:Int) 1<|bX 2 Z ?_
  exact⟨(i+1,(o++[j.arg]),c,(r+1),g,f),od,bR,(d.ap [0,0]),Y,by rw[y,dZ x];exact Cr Y (by unfold il;rw[ab9 Y,ab9 Y,aca Y]) NK,by rw[acm];simp only[acu,acX];rw[show((o.length+(0+1):Nat):Int)=(o.length:Int)+(1-bA j.code) from by rw[show bA j.code=0 from by unfold bA;rw[aca Y]];omega];exact B,(by
   intro z hz;rcases acn.1 hz with h|h
   ·exact A z h
   ·simp only[ack] at h;subst h;unfold nM at u;omega),by simp;omega,k⟩
 refine Q 4<|have c:3<=j.code:=Y;have R0:=p c;GC n 3 [0]<|cS (vw j.code n.ao) λ_ n=>have c:(0<=(cR j.code)/\(cR j.code)<=2)/\(¬(0<=j.code/\j.code<=11)\/(cR j.code)=bA j.code):=pd _;JO 12<|dP (r:Int) (cR j.code)<|JO 4 ?_;obtain⟨q,c,c,s,f,k,c⟩:=aF.elem v ((r:Int)-(cR j.code));obtain⟨p,c,c,t,d,g,c⟩:=aF.elem v ((r:Int)-1);refine bJ n [11] (fb 0 0 0 2<|fq 4 0 (f.up 1 Z)<|fq 10 0 (d.up 1 Z)<|fn) [1,2,3,5,6,7,8,9,0,4,10,11,12,13,14,15,16] λ_ c=>wV 2<|wI k<|wV 3<|vY (r:Int) 1<|wI g<|wG 0 2<|wL 2<|wL 3<|wO Z<|cS (LD j q p (A _ (ab8 s)) (A _ (ab8 t)) Y u c.ao) λ_ f=>nA<|wV 1<|wV 1<|wV 1<|wV 2<|wN<|JX 8<|pk (ju j q p 0 0) (λh0=>RC 13 [I 0,I 11]<|(by have d:=(f.ap [0,0]);have c:ve a b l []=none:=(by rw[y,dZ x];exact ZJ Y UN Uv h0);exact⟨by rw[show yI l a b=(0,11) from by unfold yI;rw[c]];rfl,d⟩)) λh0=>Q 5<|Pk none (some ((r:Int)-(cR j.code))) 0 (((r:Int)-(cR j.code)).toNat) runUnderlying22 sizeOf3 Z ⟨Y,Y⟩ Y Y ?_ (a:=C) (len:=r) (cap:=D);refine bf<|ec f #[I (il j q p 0 0)] 3 λ_ _ c=>dM (nb:=8) c (v.part (lo:=0) (hi:=((r:Int)-(cR j.code)).toNat) Y Y) 2 (bl.dO (enc:=ca) (sz:=1) (xs:=[(il j q p 0 0)]) fR 1 0 Z Z Z Y) underlying22 (i:=Tryz.t3) kr fR λc g f _ k d=>JO 5<|aU (i:Int) 1<|bX 2 Z ?_
 exact⟨(i+1,(((o.drop 0).take (((r:Int)-(cR j.code)).toNat-0))++[(il j q p 0 0)]),c,((((r:Int)-(cR j.code)).toNat-0)+1),g,f),od,bR,(d.ap [0,0]),Y,by rw[y,dZ x,Y9 (m:=((o.drop 0).take (((r:Int)-(cR j.code)).toNat-0))) Y UN Uv h0 Ep],by simp only[acm,ac5,adS,acu,acX];rw[show((min _ _+(0+1):Nat):Int)=(o.length:Int)+(1-bA j.code) from by omega];exact B,(by
  intro z hz;rcases acn.1 hz with h|h
  ·exact A z (acM (acL h))
  ·simp only[ack] at h;subst h;exact S4 h0),by simp;omega,k⟩
def Ow(p:ah)(v:ah)(two:Bool)(al:cf)(Xz kl:Nat)(l:List fJ)(out:Int)(r:dY)(hp:ah.Ok [H] p)(T:ah.Ok [H] v)(hl:bl gA 2 [H] al Xz kl l)(b:X W w (H::F)):
 Calls prog 233 #[.agg (au p).toArray,.agg (au v).toArray,.bool two,.slice al Xz kl,I out,.agg (ep r).toArray] w λe a=>∃(q:ah) (c:Int) (G:af),e=.returned (.tuple #[.agg (au q).toArray,I c])/\q.Ok [G]/\(q.v,c)=Rh p.v v.v two l out r/\X W a (G::H::F):=by
 let a:=hp.bM.le;let A:=hp.bM.len;let a:=T.bM.le;let A0:=T.bM.len;let a:=hl.ll;refine aq 167 func233 Z<|Q 2<|eD b (au p) λ_ _ a=>eD a (au v) λ_ _ a=>eD a (ep r) λ_ _ a=>aI a zeroValue103 λ_ _ a=>JO 3<|eQ a 0 [2,3,4,6,7,11,12] (γ:=Unit) (λ_ R=>⟨[],R,0,(aO p.v=true/\(two=true->aO v.v=true))⟩) ?_ ?_
 ·exact GC a 3 [403]<|cS (ig p ⟨(hp.bM.fl 4)⟩ a.ao) λ_ b=>cG<|Dk 28 (aO p.v) (λg=>JO 13<|bP b 0 Z [I 0,I 0,I 0,nS] λ_ w0=>DO 5 w0 0 [I 0,I 0,I 0,nS] (I 1)<|(by let C:Gv p.v v.v two l out r=1:=UI (λh=>g h.1);let a:=(w0.ap [0,0,0,0]);exact⟨zP,1,_,rfl,⟨rN⟩,QC,(X.bU a)⟩)) λg=>cG<|SB 30 two (λm=>bX 9 Z<|⟨(),bR,b,⟨g,λh=>absurd h m⟩⟩) λm=>GO b 1 [402]<|gY<|cS (ig v ⟨(T.bM.fl 4)⟩ b.ao) λ_ a=>JO 5<|UX (aO v.v) (λd=>lq 1 Z<|⟨(),bR,a,⟨g,λ_=>d⟩⟩) λd=>Q 3<|bP a 0 Z [I 0,I 0,I 0,nS] λ_ b=>DO 5 b 0 [I 0,I 0,I 0,nS] (I 1)<|(by let C:Gv p.v v.v two l out r=1:=UI (λh=>d (h.2 m));let a:=(b.ap [0,0,0,0]);exact⟨zP,1,_,rfl,⟨rN⟩,QC,(X.bU a)⟩)
 rintro _ V _⟨a,s⟩;refine Q 5<|cS (vt al Xz kl l two (hl.fl 4) a.ao) λ_ d=>JO 9<|CN (cH l two) 0 (λg=>Q 4<|bP d 0 Z [I 0,I 0,I 0,nS] λ_ b=>DO 5 b 0 [I 0,I 0,I 0,nS] (I (cH l two))<|(by let m:de l two p.v.aG v.v.aG out=(cH l two):=(by unfold de;rw[ab9 Y]);let C:Gv p.v v.v two l out r=(cH l two):=PK s m Y;let a:=(b.ap [0,0,0,0]);exact⟨zP,(cH l two),_,rfl,⟨rN⟩,QC,(X.bU a)⟩)) λg=>Q 8<|sD 46 (out<1) (λg=>JO 9<|VP) λg=>JO 5<|cD (out>4294967296) (λg=>Q 3<|VP) λg=>?_;refine Q 7<|eQ d 0 [2,3,4,6,7,11,12] (γ:=Int) (λsv R=>⟨[(15,I sv)],R,0,sv=(if two=true then v.aG else 1)⟩) ?_ ?_
 ·exact Q 5<|CB two (λa=>lq 1 Z<|⟨1,bR,d,(by rw[ab9 a])⟩) λa=>gCI d 5 [2] Z<|⟨v.aG,bR,d,(by rw[aca a])⟩
 rintro sv V _⟨a,u⟩;refine GC a 7 [3]<|cS (qf al Xz kl l p.aG sv (hl.fl 4) a.ao) λ_ d=>JO 15<|CN ((fI l p.aG sv).2.2) 0 (λg=>Q 4<|bP d 0 Z [I 0,I 0,I 0,nS] λ_ b=>DO 5 b 0 [I 0,I 0,I 0,nS] (I ((fI l p.aG sv).2.2))<|(by let m:de l two p.v.aG v.v.aG out=(fI l p.aG sv).2.2:=MQ;let C:Gv p.v v.v two l out r=(fI l p.aG sv).2.2:=PK s m Y;let a:=(b.ap [0,0,0,0]);exact⟨zP,((fI l p.aG sv).2.2),_,rfl,⟨rN⟩,QC,(X.bU a)⟩)) λg=>Q 3<|eQ d 0 [2,3,4,6,7,11,12] (γ:=Unit) (λ_ R=>⟨[(81,.bool (decide (¬(two=true->p.w=v.w/\p.h=v.h))))],R,0,True⟩) ?_ ?_
 ·exact Q 3<|SB 68 two (λh0=>bX 14 Z<|⟨(),⟨⟨(mF0 (by first|(exact λh=>h (λe=>absurd e h0))|(simp_all;done)|(simp_all;omega)|omega)),trivial⟩,sA⟩,d,trivial⟩) λh0=>GO d 6 [3,2]<|SN 74 p.w v.w (λa=>bX 8 Z<|⟨(),⟨⟨(mT (by exact λh=>by let h1:=h h0;omega)),trivial⟩,sA⟩,d,trivial⟩) λa=>Mz d 8 [3,2] Z<|⟨(),⟨⟨(mB ((p.h:Int)!=v.h) (by rw[acI];simp only[acr,acJ,adM,ne_eq,adt,adE,ae3,aeM,ach,aed,adX,aem,adY,adq]<;>first|(exact λh=>h (λe=>absurd e h0))|(simp_all;done)|(simp_all;omega)|omega)),trivial⟩,sA⟩,d,trivial⟩
 rintro _ V _⟨d,_⟩;refine cD (¬(two=true->p.w=v.w/\p.h=v.h)) (λt=>Q 3<|bP d 0 Z [I 0,I 0,I 0,nS] λ_ b=>DO 5 b 0 [I 0,I 0,I 0,nS] (I 8)<|(by let m:de l two p.v.aG v.v.aG out=(fI l p.aG sv).2.2:=MQ;let L:de l two p.v.aG v.v.aG out=0:=(by rw[m];omega);let C:Gv p.v v.v two l out r=8:=Qt s L (λh=>t h.1);let a:=(b.ap [0,0,0,0]);exact Qr)) λt=>GC d 6 [401]<|cS (j9 r d.ao) λ_ g=>bf<|sD 85 (r.x0=0/\r.y0=0/\r.x1=0/\r.y1=0) (λo=>JO 15<|bP g 0 Z [I 0,I 0,I 0,nS] λ_ d=>DO 5 d 0 [I 0,I 0,I 0,nS] (I 8)<|(by let m:de l two p.v.aG v.v.aG out=(fI l p.aG sv).2.2:=MQ;let L:de l two p.v.aG v.v.aG out=0:=(by rw[m];omega);let b:=(bK s.1).1;unfold cU at b;simp only[ah.v] at b;let C:Gv p.v v.v two l out r=8:=Qt s L (λh=>by let P:=(eo vo vo).2 h.2;exact P.1 o);let a:=(d.ap [0,0,0,0]);exact Qr)) λo=>?_;refine GO g 6 [401,3,3]<|gY<|cS (ib r (⟨0,0,p.w,p.h⟩:dY) g.ao) λ_ n=>JO 4<|pk (qu r (⟨0,0,p.w,p.h⟩:dY)) (λg=>Q 3<|bP n 0 Z [I 0,I 0,I 0,nS] λ_ d=>DO 5 d 0 [I 0,I 0,I 0,nS] (I 8)<|(by let m:de l two p.v.aG v.v.aG out=(fI l p.aG sv).2.2:=MQ;let L:de l two p.v.aG v.v.aG out=0:=(by rw[m];omega);let b:=(bK s.1).1;unfold cU at b;simp only[ah.v] at b;let C:Gv p.v v.v two l out r=8:=Qt s L (λh=>by let P:=(eo vo vo).2 h.2;exact g P.2);let a:=(d.ap [0,0,0,0]);exact Qr)) λg=>Q 3 ?_;let⟨Oz,N⟩:=s;let b:=(bK Oz).1;unfold cU at b;simp only[ah.v] at b;let a:=adg.1 t;let U:two=true->aO v.v=true/\p.w=v.w/\p.h=v.h:=λh=>⟨N h,a h⟩;let E:jd r p.w p.h:=(eo Y Y).1 ⟨o,g⟩;let M1:cH l two=0:=by omega
 let L:de l two p.v.aG v.v.aG out=0:=(by let e:de l two p.v.aG v.v.aG out=(fI l p.aG sv).2.2:=MQ;rw[e];omega);let a:=E;unfold jd at a;obtain⟨m,K⟩:∃k:Nat,r.x1-r.x0=(k:Int):=⟨_,(acF Y).symm⟩;obtain⟨z,J⟩:∃k:Nat,r.y1-r.y0=(k:Int):=⟨_,(acF Y).symm⟩;let a:1<=m/\m<=128/\1<=z/\z<=128:=Y;let a:z*m<=4096:=by let h1:=mh E I3;rw[K,J] at h1;let P:((z*m:Nat):Int)=(m:Int)*z:=Ev;omega
 let a:(r.x1-r.x0)*(r.y1-r.y0)=((z*m:Nat):Int):=by rw[K,J];push_cast;rw[ac6]
 let Qz:p.v.bM.length=p.bM.n:=A;refine GC n 5 [1,1]<|dP r.x1 r.x0<|GO n 4 [1,1]<|dP r.y1 r.y0<|cG<|aI n zeroValue103 λM _ a=>bP a 0 Z [I (r.x1-r.x0),I (r.y1-r.y0),I out,nS] λ_ a=>GO a 8 [0,0]<|ei (r.x1-r.x0) (r.y1-r.y0)<|vJ (kl:=.i64) (kc:=.i64) (enc:=ca) (sz:=1) (nb:=8) a ((r.x1-r.x0)*(r.y1-r.y0)).toNat ((r.x1-r.x0)*(r.y1-r.y0)) (Y:((r.x1-r.x0)*(r.y1-r.y0))=((((r.x1-r.x0)*(r.y1-r.y0)).toNat:Nat):Int)) underlying22 (i:=Tryz.t3) kr fR λd g _ n a=>bf<|eX a 1 Z 3 (.slice (At d 0) 0 (((r.x1-r.x0)*(r.y1-r.y0)).toNat)) λ_ a=>JO 4<|let⟨f,hf⟩:∃f:Int->Int->Int,f=λi j=>Yu p.v v.v two l out (r.x0+i) (r.y0+j):=⟨_,rfl⟩;GC a 7 [3]<|bF [2,3,4,6,7,11,12,19] (γ:=Nat×Int×aR×SO) (λ⟨i,b,u,t,o,s,A⟩ R=>⟨[(20,I b)],A::aW M #[I (r.x1-r.x0),I (r.y1-r.y0),I out,.slice t o s] 103::R,z-i,i<=z/\(b=r.y0+(i:Int))/\(u=gS m f (i*m))/\aF ca 3 1 t o s u A⟩) (0,r.y0,[],(At d 0),0,((r.x1-r.x0)*(r.y1-r.y0)).toNat,g) ⟨a,Y,Y,EL,n⟩<|λ⟨i,b,u,t,o,s,A⟩ V _⟨n,a,S,D,B⟩=>let a:=B.ll;GC n 9 [3]<|CD (b<r.y1) (λg=>GC n 8 [401]<|bP n 2 Z [I (r.x1-r.x0),I (r.y1-r.y0),I out,.slice t o s] λ_ a=>DO 4 a 2 [I (r.x1-r.x0),I (r.y1-r.y0),I out,.slice t o s] (I 0)<|(by let d:u=gS m f (z*m):=(by rw[D,show i=z by omega]);let C:Gv p.v v.v two l out r=0:=YU ⟨Oz,N⟩ L ⟨λh=>(U h).2,E⟩;exact⟨(⟨(r.x1-r.x0),(r.y1-r.y0),out,⟨t,o,s,u⟩⟩:ah),0,_,rfl,⟨(B.dt (O:=[A]) 0 Z)⟩,(by rw[Hf,qZ C,IG E K J (hf▸d)];rfl),(a.ap [1,1,1,1,1])⟩)) λg=>Q 5 ?_;let jg:=mN Oz (x:=r.x1-1) (y:=b) vo vo;rw[Qz] at jg;simp only[ah.v] at jg;refine GC n 4 [5]<|ei b p.w<|GO n 2 [3]<|aU (b*p.w) r.x0<|JO 4<|bF [2,3,4,6,7,11,12,19,20] (γ:=Nat×Int×aR×SO) (λ⟨j,C,E,g,J,d,R0⟩ R=>⟨[(21,I C)],R0::aW M #[I (r.x1-r.x0),I (r.y1-r.y0),I out,.slice g J d] 103::R,m-j,j<=m/\(C=b*p.w+r.x0+(j:Int))/\(E=gS m f (i*m+j))/\aF ca 3 1 g J d E R0⟩) (0,((b*p.w)+r.x0),u,t,o,s,A) ⟨n,Y,Y,(by rw[adB];exact D),B⟩<|λ⟨j,C,E,g,J,d,R0⟩ V _⟨n,a,u,A,t⟩=>let a:=t.ll;let a:E.length=i*m+j:=(by rw[A,jZ]);let a:i*m+j<=z*m:=(by let h1:=acA m (show i+1<=z by omega);exact Nv);GC n 7 [5]<|ei b p.w<|GO n 2 [3]<|aU (b*p.w) r.x1<|JO 3<|CD (C<((b*p.w)+r.x1)) (λa=>Q 8<|aU b 1<|bX 2 Z<|⟨(i+1,(b+1),E,g,J,d,R0),od,bR,n,Y,Y,(by rw[ac1,adi,A,show j=m by omega]),t⟩) λa=>Q 9<|eQ n 0 [2,3,4,6,7,11,12,19,20,21] (γ:=Int) (λs R=>⟨[(22,I s)],R,0,s=(if two=true then fW v.v (r.x0+(j:Int)) (r.y0+(i:Int)) else 0)/\(0<=s/\s<=4294967296)⟩) ?_ ?_
 ·exact Q 5<|CB two (λo=>lq 1 Z<|⟨0,bR,n,(by rw[ab9 o]),Y⟩) λo=>(by let⟨g,a⟩:=U o;let a:=(bK g).1;unfold cU at a;simp only[ah.v] at a;let a:v.v.bM.length=v.bM.n:=A0;let d:=bK g;let b:=bK Oz;simp only[ah.v] at d b;let a:v.bM.n=p.bM.n:=(by let h1:=d.2.1;let P:=b.2.1;rw[show v.w=p.w by omega,show v.h=p.h by omega] at h1;omega);refine GC n 4 [4]<|oJ T.bM C λb _ _ a m=>?_;let d:fW v.v (r.x0+(j:Int)) (r.y0+(i:Int))=b:=(by refine pq ?_;rw[<-a];simp only[ah.v];congr 1;rw[u,S,show v.w=p.w by omega,aeK r.x0,<-Int.add_assoc];omega);let a:=oX g (r.x0+(j:Int)) (r.y0+(i:Int));rw[d] at a;simp only[ah.v] at a;exact eB n (m.up 6 Z) 0 (I b)<|bX 2 Z<|⟨b,bR,n,(by rw[aca o,d]),Y⟩)
 rintro s V _⟨b,v,a⟩;refine GC b 6 [5]<|oJ hp.bM C λm _ _ a d=>?_;let o:fW p.v (r.x0+(j:Int)) (r.y0+(i:Int))=m:=(by refine pq ?_;rw[<-a];simp only[ah.v];congr 1;rw[u,S,aeK r.x0,<-Int.add_assoc];omega);let a:=oX Oz (r.x0+(j:Int)) (r.y0+(i:Int));rw[o] at a;simp only[ah.v] at a;exact eB b (d.up 6 Z) 0 (I m)<|bf<|cS (Rx al Xz kl l m s (hl.fl 6) _ M1 Y Y b.ao) λ_ a=>JO 7<|bJ a [4,5,6,8] (fb 1 1 3 1<|fn) [0,2,3,1,4,5,6,7,8] λ_ a=>wV 3<|wL 0<|wO Z<|cS (uR ((yI l m s).1) out a.ao) λ_ a=>nZ a [1]<|wO Z<|ec a #[I (gH ((yI l m s).1) out)] 3 λ_ _ a=>nZ a [2]<|wO Z<|dM (nb:=8) a t 1 (bl.dO (enc:=ca) (sz:=1) (xs:=[(gH ((yI l m s).1) out)]) fR 1 0 Z Z Z Y) underlying22 (i:=Tryz.t3) kr fR λb d g _ n a=>nA<|wV 1<|wO Z<|eX a 2 Z 3 (.slice b (J+1) d) λ_ a=>nA<|wN<|JX 4<|aU C 1<|bX 2 Z<|⟨(j+1,(C+1),(E++[(gH ((yI l m s).1) out)]),b,(J+1),d,g),od,bR,(a.aj 0 Z),Y,Y,(by rw[<-adL,nm Y,<-A,hf];dsimp only;unfold Yu;rw[o,<-v]),n⟩
end
section
variable{W w:World}{H:af}{F:cj}
variable{n:Nat}
def IH{a b:aR}(ha:a.length=n)(c:b.length=n):(sG a b).length=n:=by grind[sG]
def RP{a b:aR}{k:Nat}{x y:Int}(ha:a[k]?=some x)(c:b[k]?=some y):(sG a b)[k]?=some (x+y):=by grind[sG]
def vZ(a b:aR)(i:Nat):aR:=sG a (b.take i++List.replicate (b.length-i) 0)
variable{i:Nat}
def FT{a b:aR}(ha:a.length=n)(c:b.length=n)(hi:i<=n):(vZ a b i).length=n:=IH ha dV
def XD{a b:aR}(h:a.length=b.length):vZ a b 0=a:=by
 unfold vZ sG;rw[adN,acN,Nat.sub_zero,<-h];apply acQ
 grind
def ME{a b:aR}(h:i=b.length):vZ a b i=sG a b:=by simp_all[vZ]
def Dt{a b:aR}{x:Int}(h:a.length=b.length)(hx:(vZ a b i)[i]?=some x):a[i]?=some x:=by
 grind[vZ,sG,List.take,List.replicate]
def PU{a b:aR}{x v:Int}(h:a.length=b.length)(hx:(vZ a b i)[i]?=some x)(g:b[i]?=some v):(vZ a b i).set i (x+v)=vZ a b (i+1):=by
 let ha:=Dt h hx;let c:i<b.length:=(aci.1 g).1;let c:=FT (i:=i) h Z Y;let c:=FT (i:=i+1) h Z Y;apply acQ;intro k;rw[acV];by_cases c:k<b.length
 ·let e:a[k]?=some (a[k]'Y):=aco Y;let f:b[k]?=some b[k]:=aco c
  let d:∀j,j<=b.length->(vZ a b j)[k]?=some (a[k]'Y+if k<j then b[k] else 0):=by
   intro j c;refine RP e ?_
   grind
  by_cases he:i=k
  ·subst he;rw[aca Z,aca Y,d (i+1) Y,aca Y];rw[e] at ha;rw[f] at g;cases ha;cases g;rfl
  ·rw[ab9 he,d i Y,d (i+1) Y];by_cases c:k<i
   ·rw[aca c,aca Y]
   ·rw[ab9 c,ab9 Y]
 grind
def Dn{α:Type}{l:List α}{a b j:Nat}{x:α}(h:((l.drop a).take b)[j]?=some x):l[a+j]?=some x:=by
 grind
def oG(l:List aR):aR×Int:=if tj l=0 then(Dz l,0) else([],tj l)
def yA{l:List aR}{c:Int}(h:tj l=c)(hc:¬c=0):oG l=([],c):=by grind[oG]
def Zo{l:List aR}(h:l.length=0\/4096<l.length):oG l=([],5):=yA (by unfold tj;omega) fe
section
variable{l:List aR}(h0:¬(l.length=0\/4096<l.length))
include h0
def Yc(h:¬(1<=mg l/\mg l<=128)):oG l=([],8):=yA (by grind[tj]) fe
def W7{i:Nat}{z:aR}(hz:l[i]?=some z)(h:¬(z.length:Int)=mg l):oG l=([],8):=
 yA (by grind[tj]) fe
variable(h1:1<=mg l/\mg l<=128)(hA:l.all (λz=>decide ((z.length:Int)=mg l))=true)
include h1 hA
def Zn{i k:Nat}{z:aR}{v:Int}(hz:l[i]?=some z)(b:z[k]?=some v)(a:¬(0<=v/\v<=4096)):oG l=([],2):=
 yA (by unfold tj;rw[ab9 h0,aca ⟨h1,hA⟩,ab9 (λe=>II b a (acH.1 e z (ab8 hz)))]) fe
variable(hM:l.all (λz=>wm 4096 z)=true)
include hM
def Z5{k:Nat}{v:Int}(b:(Dz l)[k]?=some v)(a:4096<v):oG l=([],3):=
 yA (by unfold tj;rw[ab9 h0,aca ⟨h1,hA⟩,aca hM,ab9 (λe=>by let a:=acy (acH.1 e v (ab8 b));omega)]) fe
def YD(a:(Dz l).all (λv=>decide (v<=4096))=true):oG l=(Dz l,0):=by
 grind[oG,tj]
end
def Se{a b:aR}{A B:Int}(ha:∀z∈a,0<=z/\z<=A)(c:∀z∈b,0<=z/\z<=B):∀z∈sG a b,0<=z/\z<=A+B:=by
 intro z hz;obtain⟨k,c,rfl⟩:=List.mem_iff_getElem.1 hz
 grind[sG,List.length_zipWith,List.getElem_mem]
def uo{α a:Type}{f:α->a}{p:a->Bool}{l:List α}(h:((l.take i).map f).all p=true)(hi:l.length<=i):(l.map f).all p=true:=by grind[List.take_of_length_le]
variable{a:List IL}{x:IL}
def Sr(hx:a[0]?=some x):mg (a.map (λz=>z.l.l))=(x.l.l.length:Int):=by grind[mg]
def E5(l:List aR)(n:Int):aR:=l.foldl sG (List.replicate n.toNat 0)
def L5{n:Int}(hx:a[i]?=some x):E5 ((a.take (i+1)).map (λz=>z.l.l)) n=sG (E5 ((a.take i).map (λz=>z.l.l)) n) x.l.l:=by
 grind[E5,List.take_add_one,Option.toList_some]
def AL{p:aR->Bool}(h:((a.take i).map (λz=>z.l.l)).all p=true)(hx:a[i]?=some x)(hp:p x.l.l=true):((a.take (i+1)).map (λz=>z.l.l)).all p=true:=by
 exact Bf
def jh(p:aM):Int×Int:=if aO p=true then(if gj p.w p.h p.aG=true then(fz p.w p.h p.aG,0) else(0,11)) else(0,1)
def Tg{w h m:Int}(e:gj w h m=true):1<=fz w h m/\fz w h m<=4294967296/\fz w h m=w*h*m:=by
 let h0:=acy e;let a:fz w h m=w*h*m:=by unfold fz;simp_all
 let h1:=adu (show(1:Int)<=w by omega) (show(1:Int)<=h by omega) (by omega) (by omega);let a:=adu (show(1:Int)<=w*h by omega) (show(1:Int)<=m by omega) (by omega) (by omega);omega
def Re{zs b a:aR}{u:Nat}(e:a=vZ zs b u)(c:u=b.length)(d:∀z∈zs,0<=z/\z<=4096*(i:Int))(h:(b.take u).all (λv=>decide (0<=v/\v<=4096))=true):∀z∈a,0<=z/\z<=4096*((i+1:Nat):Int):=by
 rw[e,ME c];rw[acj (by omega)] at h;let a:=Se d (B:=4096) (λz hz=>acy (acH.1 h z hz))
 grind
def Ra{m c:Int}{l t:aR}:wm m (c::l++t)=true↔wm m [c]=true/\wm m l=true/\wm m t=true:=by unfold wm;simp_all
def Ot{p:aM}(h:aO p=true)(x y:Int)(a:n<=128):0<=qp p x y n/\qp p x y n<=549755813888:=by
 let h1:=GW h x y 1 n;let e:vH p x y 1 n=qp p x y n:=by rw[vF];grind[vH,KJ]
 rw[e] at h1;let a:=Hy h;let a:=adu (show p.aG<=4294967296 by omega) (show(n:Int)<=128 by omega) (by omega) (by omega);omega
def SR{p:aM}(h:aO p=true)(x y:Int){j:Nat}(hi:i<=128)(a:j<=128):0<=vH p x y i j/\vH p x y i j<=70368744177664:=by
 let h1:=GW h x y i j;let a:=Hy h;let b:=adu (show p.aG<=4294967296 by omega) (show(j:Int)<=128 by omega) (by omega) (by omega);let a:=adu (show p.aG*(j:Int)<=4294967296*128 from b) (show(i:Int)<=128 by omega) (by omega) (by omega);omega
def SC(v:Int)(m:Int)(n:Int)(d:X W w (H::F)):
 Ro prog 227 #[I v,I m,I n] (I (nF v m n)) W w (H::F):=by
 exact aq 36 func227 Z<|Q 11<|sD 9 (m<1) (λc=>RO 30 [I 0]<|⟨by unfold nF;rw[ab9 Y];rfl,d⟩) λc=>je<|sD 13 (m>4294967296) (λc=>RO 26 [I 0]<|⟨by unfold nF;rw[ab9 Y];rfl,d⟩) λc=>je<|sD 17 (v<0) (λc=>RO 22 [I 0]<|⟨by unfold nF;rw[ab9 Y];rfl,d⟩) λc=>xN<|sD 22 (v>m) (λc=>RO 17 [I 0]<|⟨by unfold nF;rw[ab9 Y];rfl,d⟩) λc=>je<|sD 26 (n<1) (λc=>RO 13 [I 0]<|⟨by unfold nF;rw[ab9 Y];rfl,d⟩) λc=>JO 5<|cD (n>128) (λc=>RC 7 [I 0]<|⟨by unfold nF;rw[ab9 Y];rfl,d⟩) λc=>Q 3<|(by let c:=el (a:=v) (b:=n) (A:=4294967296) (B:=128) Y Y;let e:(v*n).tdiv (m+1)=v*n/(m+1):=acv (ac9 Y Y);let c:=tZ (a:=v*n) (b:=m+1) (A:=549755813888) Y Y;exact Q 3<|ei v n<|bf<|aU m 1<|mE (v*n) (m+1)<|RO 4 [I ((v*n).tdiv (m+1))]<|⟨acd (λz=>Ending.returned (I z)) (by unfold nF;rw[aca Y];exact e),d⟩)
def EO(p:ah)(cb:Int)(r:dY)(hp:ah.Ok [H] p)(l:X W w (H::F)):
 Calls prog 172 #[.agg (au p).toArray,I cb,.agg (ep r).toArray] w λe g=>∃(f:cf) (b d:Nat) (zs:aR) (c:Int) (G:af),e=.returned (.tuple #[.slice f b d,I c])/\bl ca 1 [G] f b d zs/\(zs,c)=(BJ p.v cb r,mr p.v cb r)/\X W g (G::H::F):=by
 let b:=hp.bM.le;let o:=hp.bM.len;refine aq 77 func172 Z<|Q 2<|eD l (au p) λ_ _ b=>eD b (ep r) λ_ _ b=>GO b 8 [401]<|cS (ig p ⟨(hp.bM.fl 2)⟩ b.ao) λ_ f=>JO 3<|uP (aO p.v) (λg=>RC 8 [nS,I 1]<|(by let t:mr p.v cb r=1:=(by unfold mr;rw[ab9 g]);let b:=(f.ap [0,0]);exact⟨none,0,0,[],1,_,rfl,rN,OO,(X.bU b)⟩)) λg=>Q 8<|sD 17 (cb<1) (λd=>RO 14 [nS,I 9]<|Y6) λd=>JO 5<|cD (cb>128) (λw0=>RC 8 [nS,I 9]<|Y6) λw0=>GC f 6 [400]<|cS (j9 r f.ao) λ_ h0=>bf<|sD 23 (r.x0=0/\r.y0=0/\r.x1=0/\r.y1=0) (λm=>RO 20 [nS,I 8]<|(by let d:=(bK g).1;unfold cU at d;simp only[ah.v] at d;let t:mr p.v cb r=8:=(by unfold mr;rw[aca g,aca Y,ab9 (λh=>by let l:=(eo vo vo).2 h;exact l.1 m)]);let b:=(h0.ap [0,0]);exact⟨none,0,0,[],8,_,rfl,rN,OO,(X.bU b)⟩)) λm=>?_;refine GO h0 6 [400,1,1]<|gY<|cS (ib r (⟨0,0,p.w,p.h⟩:dY) h0.ao) λ_ n=>JO 4<|pk (qu r (⟨0,0,p.w,p.h⟩:dY)) (λf=>RC 8 [nS,I 8]<|(by let d:=(bK g).1;unfold cU at d;simp only[ah.v] at d;let t:mr p.v cb r=8:=(by unfold mr;rw[aca g,aca Y,ab9 (λh=>by let l:=(eo vo vo).2 h;exact f l.2)]);let b:=(n.ap [0,0]);exact⟨none,0,0,[],8,_,rfl,rN,OO,(X.bU b)⟩)) λf=>Q 3 ?_;let A:aO p.v=true:=g;let d:=(bK A).1;unfold cU at d;simp only[ah.v] at d;let z:jd r p.w p.h:=(eo Y Y).1 ⟨m,f⟩;let b:=z;unfold jd at b;obtain⟨q,E⟩:∃k:Nat,r.x1-r.x0=(k:Int):=⟨_,(acF Y).symm⟩;obtain⟨m,d⟩:∃k:Nat,r.y1-r.y0=(k:Int):=⟨_,(acF Y).symm⟩;let b:1<=q/\q<=128/\1<=m/\m<=128:=Y;let b:m*q<=4096:=by let h1:=mh z I3;rw[E,d] at h1;let l:((m*q:Nat):Int)=(q:Int)*m:=Ev;omega
 let R0:(r.x1-r.x0)*(r.y1-r.y0)=((m*q:Nat):Int):=by rw[E,d];push_cast;rw[ac6]
 let B:p.v.bM.length=p.bM.n:=o;let b:(cb.toNat:Int)=cb:=acF Y;refine Q 2<|gC (kl:=.i64) (kc:=.i64) (enc:=ca) (sz:=1) (nb:=8) n 0 cb.toNat cb (Y:cb=(((cb).toNat:Nat):Int)) underlying22 (i:=Tryz.t3) kr fR λf g _ l b=>GO b 12 [1]<|bF [1,3,5] (γ:=Nat×Int×aR×SO) (λ⟨i,d,zs,s,n,o,u⟩ R=>⟨[(9,I d),(8,.slice s n o)],u::R,m-i,i<=m/\(d=r.y0+(i:Int))/\(zs=zf p.v cb r (i*q))/\aF ca 3 1 s n o zs u⟩) (0,r.y0,(List.replicate cb.toNat 0),(At f 0),cb.toNat,cb.toNat,g) ⟨b,Y,Y,EL,l⟩<|λ⟨i,d,zs,s,n,o,u⟩ V _⟨g,b,J,l,C⟩=>let b:=C.ll;let b:zs.length=cb.toNat:=(by rw[l];exact Cf _ _ _ _);GC g 9 [1]<|CD (d<r.y1) (λb=>RC 13 [.slice s n o,I 0]<|(by let t:mr p.v cb r=0:=(by unfold mr;rw[aca A,aca Y,aca (show jd r p.v.w p.v.h from z)]);exact⟨s,n,o,zs,0,_,rfl,(C.dt (O:=[u]) 0 Z),(by unfold BJ;rw[t,aca Z,l,show oL r=i*q from by unfold oL;rw[R0,acD,show i=m by omega]]),(g.ap [1,1])⟩)) λb=>Q 5 ?_;let jg:=mN A (x:=r.x1-1) (y:=d) vo vo;rw[B] at jg;simp only[ah.v] at jg;let b:(d*p.w+r.x1).toNat-(d*p.w+r.x0).toNat=q:=by omega
 refine GC g 6 [2,2]<|ei d p.w<|GO g 2 [1]<|aU (d*p.w) r.x0<|GO g 3 [2]<|ei d p.w<|GO g 2 [1]<|aU (d*p.w) r.x1<|Pk (some ((d*p.w)+r.x0)) (some ((d*p.w)+r.x1)) (((d*p.w)+r.x0).toNat) (((d*p.w)+r.x1).toNat) runUnderlying22 sizeOf3 ⟨Y,Y⟩ ⟨Y,Y⟩ Y Y ?_ (a:=p.bM.a) (len:=p.bM.n) (cap:=p.bM.k);let D:=hp.bM.part (lo:=((d*p.w)+r.x0).toNat) (hi:=((d*p.w)+r.x1).toNat) Y Y;refine JO 5<|bF [1,3,5,9,59,60] (γ:=Nat×aR×SO) (λ⟨j,t,B,z,A,f⟩ R=>⟨[(61,I j),(8,.slice B z A)],f::R,q-j,j<=q/\(t=zf p.v cb r (i*q+j))/\aF ca 3 1 B z A t f⟩) (0,zs,s,n,o,u) ⟨g,Y,(by rw[adB];exact l),C⟩<|λ⟨j,t,B,z,A,f⟩ V _⟨l,b,u,s⟩=>let b:=s.ll;let b:t.length=cb.toNat:=(by rw[u];exact Cf _ _ _ _);let b:i*q+j<=m*q:=(by let h1:=acA q (show i+1<=m by omega);exact Nv);Q 6<|CD ((j:Int)<(((((d*p.w)+r.x1).toNat-(((d*p.w)+r.x0).toNat)):Nat):Int)) (λb=>Q 8<|aU d 1<|bX 2 Z<|⟨(i+1,(d+1),t,B,z,A,f),od,bR,l,Y,Y,(by rw[ac1,adi,u,show j=q by omega]),s⟩) λb=>Q 6<|kQ D j λg _ _ b d=>?_;let C:fW p.v (r.x0+(j:Int)) (r.y0+(i:Int))=g:=(by let h:=Dn b;refine pq ?_;rw[<-J,<-h];exact Uc);refine eB l (d.up 3 Z) 0 (I g)<|GO l 9 [2]<|cS (SC g p.aG cb l.ao) λ_ o=>let b:=Xx (v:=g) (mx:=p.aG) (cb:=cb) Y;i9 s (nF g p.aG cb) (nF g p.aG cb).toNat λd _ _ m b _=>let n:=He (p:=p.v) (cb:=cb) (r:=r) (i*q+j) d (by rw[<-u];exact ab8 m);eB o (b.up 0 Z) 0 (I d)<|aU d 1<|i9 s (nF g p.aG cb) (nF g p.aG cb).toNat λb _ _ l _ f=>?_;obtain rfl:d=b:=ace (m.symm.trans l);let n:=He (p:=p.v) (cb:=cb) (r:=r) (i*q+j) d (by rw[<-u];exact ab8 l);exact fj o s f 0 (nF g p.aG cb).toNat 0 d (d+1) l (I (d+1)) [I (d+1)] sizeOf3 λ_ b m f=>JO 4<|aU (j:Int) 1<|bX 2 Z<|⟨(j+1,(t.set ((nF g p.aG cb).toNat) (d+1)),B,z,A,b),od,bR,f,Y,(by rw[<-adL,OF E Y,C,<-u];exact SZ l),m⟩
def LL(a:cf)(q kl:Nat)(l:List IL)(A:bl uF 1 [H] a q kl l)(J:∀z∈l,IL.Ok [H] z)(m:X W w (H::F)):
 Calls prog 228 #[.slice a q kl] w λe j=>∃(g:cf) (a d:Nat) (zs:aR) (c:Int) (G:af),e=.returned (.tuple #[.slice g a d,I c])/\bl ca 1 [G] g a d zs/\(zs,c)=oG (l.map (λz=>z.l.l))/\X W j (G::H::F):=by
 let a:=A.ll;refine aq 83 func228 Z<|Q 13<|sE 17 (q:Int) 0 (λa=>RO 15 [nS,I 5]<|Ty) λa=>JO 6<|cD ((q:Int)>4096) (λa=>RC 8 [nS,I 5]<|Ty) λa=>Q 5<|oJ A 0 λn _ _ d j=>let g:=(J n (ab8 d)).l.len;let a:=(J n (ab8 d)).l.le;let R0:(l.map (λz=>z.l.l))[0]?=some n.l.l:=cg (f:=λz:IL=>z.l.l) d;let x:mg (l.map (λz=>z.l.l))=(n.l.n:Int):=(by rw[Sr d,g]);let E:¬((l.map (λz=>z.l.l)).length=0\/4096<(l.map (λz=>z.l.l)).length):=Br;eB m (j.up 0 Z) 0 (.slice n.l.a n.l.n n.l.k)<|JO 10<|sD 28 ((n.l.n:Int)<1) (λw0=>RO 14 [nS,I 8]<|VV) λw0=>JO 5<|cD ((n.l.n:Int)>128) (λa=>RC 8 [nS,I 8]<|VV) λa=>Q 4 ?_;let N:1<=mg (l.map (λz=>z.l.l))/\mg (l.map (λz=>z.l.l))<=128:=by omega
 refine Q 7<|bF [0,4,32,33] (γ:=Nat) (λi R=>⟨[(34,I i)],R,q-i,i<=q/\(((l.take i).map (λz=>z.l.l)).all (λz=>decide (z.length=mg (l.map (λz=>z.l.l))))=true)⟩) 0 ⟨m,Y,by rfl⟩ ?_;rintro i V _⟨j,t,o⟩;refine Q 6<|cD ((i:Int)<q) (λp=>Q 6<|kQ A i λd _ _ h0 g=>(by let a:=(J d (ab8 h0)).l.len;let a:=(J d (ab8 h0)).l.le;let m:(l.map (λz=>z.l.l))[i]?=some d.l.l:=cg (f:=λz:IL=>z.l.l) h0;exact eB j (g.up 0 Z) 0 (.slice d.l.a d.l.n d.l.k)<|JO 11<|cN (d.l.n:Int) (n.l.n:Int) (λa=>Q 4<|aU (i:Int) 1<|bX 2 Z<|⟨i+1,od,bR,j,Y,AL o h0 (acg Y)⟩) λa=>RC 12 [nS,I 8]<|⟨none,0,0,[],8,_,rfl,rN,(W7 E m Y).symm,(X.bU j)⟩)) λp=>Q 6 ?_;let hA:(l.map (λz=>z.l.l)).all (λz=>decide (z.length=mg (l.map (λz=>z.l.l))))=true:=uo o Y;refine Q 2<|gC (kl:=.i64) (kc:=.i64) (enc:=ca) (sz:=1) (nb:=8) j 0 n.l.n (n.l.n:Int) (rfl:(n.l.n:Int)=n.l.n) underlying22 (i:=Tryz.t3) kr fR λa d _ g h1=>JO 12<|bF [45,46] (γ:=Nat×aR×SO) (λ⟨i,zs,s,p,r,y⟩ R=>⟨[(47,I i),(7,.slice s p r)],y::R,q-i,i<=q/\(zs=E5 ((l.take i).map (λz=>z.l.l)) (mg (l.map (λz=>z.l.l))))/\(∀z∈zs,0<=z/\z<=4096*(i:Int))/\(((l.take i).map (λz=>z.l.l)).all (λz=>wm 4096 z)=true)/\((zs.length:Int)=mg (l.map (λz=>z.l.l)))/\aF ca 3 1 s p r zs y⟩) (0,(List.replicate n.l.n 0),(At a 0),n.l.n,n.l.n,d) ⟨h1,Y,(by unfold E5;rw[adN,adA,List.foldl_nil,x];rfl),YZ,by rfl,MV,g⟩ ?_;rintro⟨i,zs,s,p,r,y⟩ V _⟨D,t,K,M,L,a,t⟩;let a:=t.ll;refine Q 6<|CD ((i:Int)<q) (λx=>Q 7<|(by let q:(l.map (λz=>z.l.l)).all (λz=>wm 4096 z)=true:=uo L Y;let o:zs=Dz (l.map (λz=>z.l.l)):=(by rw[K,acj Y];rfl);refine Q 7<|bF [7,73,74] (γ:=Nat) (λk R=>⟨[(75,I k)],R,p-k,k<=p/\((zs.take k).all (λv=>decide (v<=4096))=true)⟩) 0 ⟨D,Y,by rfl⟩ ?_;rintro k V _⟨m,a,g⟩;exact Q 6<|CD ((k:Int)<p) (λa=>RC 13 [.slice s p r,I 0]<|⟨s,p,r,zs,0,_,rfl,(t.dt (O:=[y]) 0 Z),(by rw[YD E N hA q (by rw[<-o];exact di g Y),<-o]),m⟩) λa=>Q 6<|i9 t (k:Int) k λd _ _ j a _=>eB m (a.up 0 Z) 0 (I d)<|JO 9<|CD (d>4096) (λa=>Q 4<|aU (k:Int) 1<|bX 2 Z<|⟨k+1,od,bR,m,Y,all_succ g j (acg Y)⟩) λa=>RC 12 [nS,I 3]<|(by let a:=(m.aj 0 Z);exact⟨none,0,0,[],3,_,rfl,rN,(Z5 E N hA q (by rw[<-o];exact j) Y).symm,(X.bU a)⟩))) λx=>?_;refine Q 6<|kQ A i λo _ _ g d=>let a:=(J o (ab8 g)).l.len;let a:=(J o (ab8 g)).l.le;let j:(l.map (λz=>z.l.l))[i]?=some o.l.l:=cg (f:=λz:IL=>z.l.l) g;let a:(o.l.n:Int)=n.l.n:=(by let h:=acy (acH.1 hA _ (ab8 j));omega);eB D (d.up 1 Z) 0 (.slice o.l.a o.l.n o.l.k)<|JO 11<|bF [45,46,47,51,52] (γ:=Nat×aR×SO) (λ⟨u,x,C,A,B,d⟩ R=>⟨[(53,I u),(7,.slice C A B)],d::R,o.l.n-u,u<=o.l.n/\(x=vZ zs o.l.l u)/\((o.l.l.take u).all (λv=>decide (0<=v/\v<=4096))=true)/\(x.length=zs.length)/\aF ca 3 1 C A B x d⟩) (0,zs,s,p,r,y) ⟨D,Y,(XD Y).symm,by rfl,by rfl,t⟩ ?_;rintro⟨u,x,C,A,B,d⟩ V _⟨q,y,t,y,D,s⟩;let a:=s.ll;refine Q 6<|CD ((u:Int)<o.l.n) (λa=>Q 7<|aU (i:Int) 1<|bX 2 Z<|⟨(i+1,x,C,A,B,d),od,bR,q,Y,(by rw[L5 g,<-K,t];exact ME Y),(Re t Y M y),AL L g (by unfold wm;rw[acj Y] at y;exact y),Y,s⟩) λa=>Q 7<|oJ (J o (ab8 g)).l (u:Int) λn _ _ r a=>?_;rw[acD] at r;refine eB q (a.up 1 Z) 0 (I n)<|JO 10<|sD 60 (n<0) (λd=>RO 23 [nS,I 2]<|TP) λd=>JO 5<|cD (n>4096) (λd=>RC 17 [nS,I 2]<|TP) λd=>Q 5<|i9 s (u:Int) u λd _ _ m a _=>let p:=M d (ab8 (Dt (b:=o.l.l) Y (by rw[<-t];exact m)));eB q (a.up 0 Z) 0 (I d)<|bf<|aU d n<|i9 s (u:Int) u λa _ _ j _ g=>?_;obtain rfl:d=a:=ace (m.symm.trans j);let p:=M d (ab8 (Dt (b:=o.l.l) Y (by rw[<-t];exact j)));exact fj q s g 0 u 0 d (d+n) j (I (d+n)) [I (d+n)] sizeOf3 λ_ a m g=>JO 4<|aU (u:Int) 1<|bX 2 Z<|⟨(u+1,(x.set u (d+n)),C,A,B,a),od,bR,g,Y,(by let h:=j;rw[t] at h⊢;exact PU Y h r),all_succ y r (acg Y),(by rw[acz];exact D),m⟩
def FY(p:ah)(hp:ah.Ok [H] p)(b:X W w (H::F)):
 Ro prog 308 #[.agg (au p).toArray] (.tuple #[I ((jh p.v).1),I ((jh p.v).2)]) W w (H::F):=by
 let a:=hp.bM.ll;exact aq 23 func308 Z<|Q 2<|eD b (au p) λ_ _ a=>GO a 8 [400]<|cS (ig p ⟨(hp.bM.fl 1)⟩ a.ao) λ_ a=>JO 3<|uP (aO p.v) (λb=>RC 8 [I 0,I 1]<|⟨by rw[show jh p.v=(0,1) from by unfold jh;rw[ab9 b]];rfl,(a.aj 0 Z)⟩) λb=>GC a 11 [0,0,0]<|cS (D7 (⟨p.w,p.h,p.aG⟩:aY) a.ao) λ_ c=>JO 14<|uP (gj (⟨p.w,p.h,p.aG⟩:aY).w (⟨p.w,p.h,p.aG⟩:aY).h (⟨p.w,p.h,p.aG⟩:aY).aG) (λa=>RC 8 [I 0,I 11]<|⟨by rw[show jh p.v=(0,11) from by unfold jh;rw[aca b,ab9 (show ¬gj p.v.w p.v.h p.v.aG=true from a)]];rfl,(c.aj 0 Z)⟩) λa=>RC 10 [I (fz (⟨p.w,p.h,p.aG⟩:aY).w (⟨p.w,p.h,p.aG⟩:aY).h (⟨p.w,p.h,p.aG⟩:aY).aG),I 0]<|⟨by rw[show jh p.v=((fz (⟨p.w,p.h,p.aG⟩:aY).w (⟨p.w,p.h,p.aG⟩:aY).h (⟨p.w,p.h,p.aG⟩:aY).aG),0) from by unfold jh;rw[aca b,aca (show gj p.v.w p.v.h p.v.aG=true from a)];rfl];rfl,(c.aj 0 Z)⟩
def nU(m:Int)(a:cf)(b kl:Nat)(l:aR)(f:bl ca 1 [H] a b kl l)(c:X W w (H::F)):
 Ro prog 309 #[I m,.slice a b kl] (.bool (!(wm m l))) W w (H::F):=by
 let h0:=f.ll;exact aq 21 func309 Z<|Q 14<|bF [0,7,8] (γ:=Nat) (λi R=>⟨[(9,I i)],R,b-i,i<=b/\((l.take i).all (λv=>decide (0<=v/\v<=m))=true)⟩) 0 ⟨c,Y,by rfl⟩<|λi V _⟨d,a,e⟩=>Q 6<|CD ((i:Int)<b) (λa=>FC 11<|⟨rB (by rw[show wm m l=true from di e Y];rfl),d⟩) λa=>Q 6<|kQ f i λb _ _ c a=>eB d (a.up 0 Z) 0 (I b)<|JO 8<|sD 15 (b<0) (λa=>VO 18<|⟨rB V6,d⟩) λa=>JO 6<|CD (b>m) (λa=>Q 4<|aU (i:Int) 1<|bX 2 Z<|⟨i+1,od,bR,d,Y,all_succ e c (acg Y)⟩) λa=>VC 11<|⟨rB V6,d⟩
def ug(p:ah)(r:dY)(aleft:cf)(nleft kleft:Nat)(left:aR)(atop:cf)(ntop ktop:Nat)(top:aR)(corner:Int)(hp:ah.Ok [H] p)(hleft:bl ca 1 [H] aleft nleft kleft left)(htop:bl ca 1 [H] atop ntop ktop top)(hS:X W w (H::F)):
 Calls prog 274 #[.agg (au p).toArray,.agg (ep r).toArray,.slice aleft nleft kleft,.slice atop ntop ktop,I corner] w λe w'=>∃(q:ah) (c:Int) (G:af),e=.returned (.tuple #[.agg (au q).toArray,I c])/\q.Ok [G]/\(q.v,c)=Rz p.v r left top corner/\X W w' (G::H::F):=by
 let R0:=hp.bM.le;let B0:=hp.bM.len;let C1:=hleft.ll;let I1:=htop.ll;refine aq 155 func274 Z<|Q 2<|eD hS (au p) λ_ _ e2=>eD e2 (ep r) λ_ _ f2=>aI f2 zeroValue103 λ_ _ d1=>GO d1 6 [402]<|cS (FY p ⟨(hp.bM.fl 3)⟩ d1.ao) λ_ k0=>JO 14<|cN ((jh p.v).2) 0 (λg2=>?_) (λg2=>?_);rotate_left
 ·refine Q 4<|bP k0 0 Z [I 0,I 0,I 0,nS] λ_ e1=>DO 5 e1 0 [I 0,I 0,I 0,nS] (I ((jh p.v).2)) ?_
  let hC:oP p.v r left top corner=((jh p.v).2):=by
   let h:¬(jh p.v).2=0:=by omega
   unfold jh at h⊢;unfold oP;split
   ·rename_i h1;rw[aca h1] at h;split
    ·rename_i h2;rw[aca h2] at h;exact absurd Z h
    ·rfl
   ·rfl
  let i2:=(e1.ap [0,0,0]);exact⟨zP,((jh p.v).2),_,rfl,⟨rN⟩,Dy,(X.bU i2)⟩
 refine Q 4 ?_
 let Z1:aO p.v=true/\gj p.v.w p.v.h p.v.aG=true/\(jh p.v).1=fz p.v.w p.v.h p.v.aG:=by
  let h:(jh p.v).2=0:=by omega
  unfold jh at h⊢;split at h
  ·rename_i h1;rw[aca h1];split at h
   ·rename_i h2;rw[aca h2];exact⟨h1,h2,rfl⟩
   ·simp at h
  ·simp at h
 let⟨A0,C0,L0⟩:=Z1;let K1:(jh p.v).1=fz p.w p.h p.aG:=L0;let J1:gj p.w p.h p.aG=true:=C0;let F2:=Tg J1;let X1:=(bK A0).1;unfold cU at X1;simp only[ah.v] at X1;refine GC k0 2 [401]<|cS (j9 r k0.ao) λ_ l0=>bf<|sD 30 (r.x0=0/\r.y0=0/\r.x1=0/\r.y1=0) (λm0=>JO 15<|bP l0 0 Z [I 0,I 0,I 0,nS] λ_ f1=>DO 5 f1 0 [I 0,I 0,I 0,nS] (I 8)<|(by let hC:oP p.v r left top corner=8:=(by unfold oP;rw[aca A0,aca C0,ab9 (λh=>by let h2:=(eo vo vo).2 h.1;exact h2.1 m0)]);let k2:=(f1.ap [0,0,0]);exact⟨zP,8,_,rfl,⟨rN⟩,Dy,(X.bU k2)⟩)) λm0=>GO l0 6 [401,2,2]<|gY<|cS (ib r (⟨0,0,p.w,p.h⟩:dY) l0.ao) λ_ g0=>JO 4<|pk (qu r (⟨0,0,p.w,p.h⟩:dY)) (λn0=>Q 3<|bP g0 0 Z [I 0,I 0,I 0,nS] λ_ g1=>DO 5 g1 0 [I 0,I 0,I 0,nS] (I 8)<|(by let hC:oP p.v r left top corner=8:=(by unfold oP;rw[aca A0,aca C0,ab9 (λh=>by let h2:=(eo vo vo).2 h.1;exact n0 h2.2)]);let m2:=(g1.ap [0,0,0]);exact⟨zP,8,_,rfl,⟨rN⟩,Dy,(X.bU m2)⟩)) λn0=>Q 3 ?_
 let M0:jd r p.w p.h:=(eo Y Y).1 ⟨m0,n0⟩;let L1:=M0;unfold jd at L1;obtain⟨Wn,hW⟩:∃k:Nat,r.x1-r.x0=(k:Int):=⟨_,(acF Y).symm⟩;obtain⟨Hn,hH⟩:∃k:Nat,r.y1-r.y0=(k:Int):=⟨_,(acF Y).symm⟩;let B2:1<=Wn/\Wn<=128/\1<=Hn/\Hn<=128:=Y;let A2:Hn*Wn<=4096:=by have h1:=mh M0 I3;rw[hW,hH] at h1;let h2:((Hn*Wn:Nat):Int)=(Wn:Int)*Hn:=Ev;omega
 let N1:(r.x1-r.x0)*(r.y1-r.y0)=((Hn*Wn:Nat):Int):=by rw[hW,hH];push_cast;rw[ac6]
 let s2:p.v.bM.length=p.bM.n:=B0;refine GC g0 5 [1,1]<|dP r.x1 r.x0<|GO g0 4 [1,1]<|dP r.y1 r.y0<|cG<|aI g0 zeroValue103 λi1 _ o2=>bP o2 0 Z [I (r.x1-r.x0),I (r.y1-r.y0),I ((jh p.v).1),nS] λ_ f0=>GO f0 11 [0]<|SN 58 (nleft:Int) (r.y1-r.y0) (λq2=>JO 12<|bP f0 1 Z [I 0,I 0,I 0,nS] λ_ j1=>DO 5 j1 1 [I 0,I 0,I 0,nS] (I 8)<|(by let hC:oP p.v r left top corner=8:=Vf;let r2:=(j1.ap [0,0,0,0]);exact⟨zP,8,_,rfl,⟨rN⟩,Dy,(X.bU r2)⟩)) λq2=>GO f0 8 [0]<|CN (ntop:Int) (r.x1-r.x0) (λt2=>Q 3<|bP f0 1 Z [I 0,I 0,I 0,nS] λ_ k1=>DO 5 k1 1 [I 0,I 0,I 0,nS] (I 8)<|(by let hC:oP p.v r left top corner=8:=Vf;let u2:=(k1.ap [0,0,0,0]);exact⟨zP,8,_,rfl,⟨rN⟩,Dy,(X.bU u2)⟩)) λt2=>?_;refine Q 7<|ec f0 #[I corner] 3 λo0 _ w2=>cS (nU ((jh p.v).1) (At o0 0) 1 1 ([corner]) (bl.ao (bl.dO (enc:=ca) (sz:=1) (xs:=[corner]) (λ_=>(by rfl)) 1 0 Z Z Z Y)) w2.ao) λ_ l1=>bf<|sB 70 (!(wm ((jh p.v).1) ([corner]))) (λp0=>JO 15<|bP l1 2 Z [I 0,I 0,I 0,nS] λ_ m1=>DO 5 m1 2 [I 0,I 0,I 0,nS] (I 2)<|(by let hC:oP p.v r left top corner=2:=(by unfold oP;rw[aca A0,aca C0,aca ⟨show jd r p.v.w p.v.h from M0,Y⟩,ab9 (λh=>by have h1:=Ra.1 h.1;rw[show fz p.v.w p.v.h p.v.aG=(jh p.v).1 from L0.symm] at h1;let h2:=p0;simp[h1.1,h1.2.1,h1.2.2] at h2)]);let x2:=(m1.ap [0,0,0,0,0]);exact⟨zP,2,_,rfl,⟨rN⟩,Dy,(X.bU x2)⟩)) λp0=>cG<|gY<|cS (nU ((jh p.v).1) aleft nleft kleft left (hleft.fl 5) l1.ao) λ_ n1=>cG<|sB 75 (!(wm ((jh p.v).1) left)) (λq0=>JO 10<|bP n1 2 Z [I 0,I 0,I 0,nS] λ_ o1=>DO 5 o1 2 [I 0,I 0,I 0,nS] (I 2)<|(by let hC:oP p.v r left top corner=2:=(by unfold oP;rw[aca A0,aca C0,aca ⟨show jd r p.v.w p.v.h from M0,Y⟩,ab9 (λh=>by have h1:=Ra.1 h.1;rw[show fz p.v.w p.v.h p.v.aG=(jh p.v).1 from L0.symm] at h1;let h2:=q0;simp[h1.1,h1.2.1,h1.2.2] at h2)]);let z2:=(o1.ap [0,0,0,0,0]);exact⟨zP,2,_,rfl,⟨rN⟩,Dy,(X.bU z2)⟩)) λq0=>?_;refine cG<|gY<|cS (nU ((jh p.v).1) atop ntop ktop top (htop.fl 5) n1.ao) λ_ r0=>JO 3<|cB (!(wm ((jh p.v).1) top)) (λs0=>Q 3<|bP r0 2 Z [I 0,I 0,I 0,nS] λ_ q1=>DO 5 q1 2 [I 0,I 0,I 0,nS] (I 2)<|(by let hC:oP p.v r left top corner=2:=(by unfold oP;rw[aca A0,aca C0,aca ⟨show jd r p.v.w p.v.h from M0,Y⟩,ab9 (λh=>by have h1:=Ra.1 h.1;rw[show fz p.v.w p.v.h p.v.aG=(jh p.v).1 from L0.symm] at h1;let h2:=s0;simp[h1.1,h1.2.1,h1.2.2] at h2)]);let b3:=(q1.ap [0,0,0,0,0]);exact⟨zP,2,_,rfl,⟨rN⟩,Dy,(X.bU b3)⟩)) λs0=>Q 3 ?_;let S0:(left.length:Int)=r.y1-r.y0/\(top.length:Int)=r.x1-r.x0:=by omega
 let Q1:wm (fz p.w p.h p.aG) (corner::left++top)=true:=(by rw[<-K1];have h1:=p0;let h2:=q0;let h3:=s0;exact Ra.2 ⟨by simpa using h1,by simpa using h2,by simpa using h3⟩);let K0:=acH.1 Q1;let C2:0<=corner/\corner<=fz p.w p.h p.aG:=acy (K0 corner (by simp));obtain⟨f,hf⟩:∃f:Int->Int->Int,f=Xa p.v left top corner r:=⟨_,rfl⟩;refine GC r0 5 [1,1]<|ei (r.x1-r.x0) (r.y1-r.y0)<|vJ (kl:=.i64) (kc:=.i64) (enc:=ca) (sz:=1) (nb:=8) r0 ((r.x1-r.x0)*(r.y1-r.y0)).toNat ((r.x1-r.x0)*(r.y1-r.y0)) (Y:((r.x1-r.x0)*(r.y1-r.y0))=((((r.x1-r.x0)*(r.y1-r.y0)).toNat:Nat):Int)) underlying22 (i:=Tryz.t3) kr fR λr1 d3 _ e3 f3=>bf<|eX f3 2 Z 3 (.slice (At r1 0) 0 (((r.x1-r.x0)*(r.y1-r.y0)).toNat)) λ_ s1=>GO s1 6 [2]<|gC (kl:=.i64) (kc:=.i64) (enc:=ca) (sz:=1) (nb:=8) s1 0 (r.x1-r.x0).toNat (r.x1-r.x0) (Y:(r.x1-r.x0)=(((r.x1-r.x0).toNat:Nat):Int)) underlying22 (i:=Tryz.t3) kr fR λg3 i3 _ j3 t1=>GO t1 12 [3]<|bF [2,3,4,5,6,10,12,14,92] (γ:=Nat×aR×cf×Nat×Nat×af×aR×SO) (λ⟨i,zs,G0,I0,H0,P0,O,V0,F1,D1,X0⟩ R=>⟨[(93,I i),(15,.slice V0 F1 D1)],P0::X0::aW o0 #[I corner] 3::aW i1 #[I (r.x1-r.x0),I (r.y1-r.y0),I ((jh p.v).1),.slice G0 I0 H0] 103::R,Hn-i,i<=Hn/\(zs=gS Wn f (i*Wn))/\(O=mU (λk=>qp p.v (r.x0+(k:Int)) r.y0 i) Wn)/\aF ca 3 1 G0 I0 H0 zs P0/\aF ca 3 1 V0 F1 D1 O X0⟩) (0,[],(At r1 0),0,((r.x1-r.x0)*(r.y1-r.y0)).toNat,d3,(List.replicate (r.x1-r.x0).toNat 0),(At g3 0),(r.x1-r.x0).toNat,(r.x1-r.x0).toNat,i3) ⟨(t1.pick 1 Z),Y,EL,ZT,e3,j3⟩ ?_;rintro⟨i,zs,G0,I0,H0,P0,O,V0,F1,D1,X0⟩ V _⟨h0,hi,hE,j2,E0,Q0⟩;let T1:=E0.ll;let R1:=Q0.ll;refine Q 6<|CD ((i:Int)<(r.y1-r.y0)) (λl3=>GC h0 11 [3]<|cS (nU ((jh p.v).1) G0 I0 H0 zs (bl.ao (E0.dt 0 (by rfl))) h0.ao) λ_ t0=>JO 2<|cB (!(wm ((jh p.v).1) zs)) (λm3=>Q 3<|bP t0 4 Z [I 0,I 0,I 0,nS] λ_ u1=>DO 5 u1 4 [I 0,I 0,I 0,nS] (I 2)<|(by let A1:Nf p.v left top corner r=zs:=Vq;let hC:oP p.v r left top corner=2:=(by unfold oP;rw[aca A0,aca C0,aca ⟨show jd r p.v.w p.v.h from M0,S0⟩,ab9 (λh=>by have h1:=h.2;rw[A1,show fz p.v.w p.v.h p.v.aG=(jh p.v).1 from L0.symm] at h1;simp_all)]);let n3:=(u1.ap [0,0,0,0,0,0,0]);exact⟨zP,2,_,rfl,⟨rN⟩,Dy,(X.bU n3)⟩)) λm3=>GC t0 5 [403]<|bP t0 4 Z [I (r.x1-r.x0),I (r.y1-r.y0),I ((jh p.v).1),.slice G0 I0 H0] λ_ v1=>DO 4 v1 4 [I (r.x1-r.x0),I (r.y1-r.y0),I ((jh p.v).1),.slice G0 I0 H0] (I 0)<|(by let A1:Nf p.v left top corner r=zs:=Vq;let hC:oP p.v r left top corner=0:=(by unfold oP;rw[aca A0,aca C0,aca ⟨show jd r p.v.w p.v.h from M0,S0⟩,aca ⟨Q1,by rw[A1,show fz p.v.w p.v.h p.v.aG=(jh p.v).1 from L0.symm];simp_all⟩]);exact⟨(⟨(r.x1-r.x0),(r.y1-r.y0),(jh p.v).1,⟨G0,I0,H0,zs⟩⟩:ah),0,_,rfl,⟨(E0.dt (O:=[P0]) 0 Z)⟩,(by unfold Rz;rw[qZ hC,A1,L0];rfl),(v1.ap [1,1,1,1,1,1])⟩)) λl3=>?_;refine GC h0 23 [3]<|bF [2,3,4,5,6,10,12,14,92,93,16,97] (γ:=Nat×Int×aR×cf×Nat×Nat×af×aR×SO) (λ⟨j,sm,zt,W0,N0,E1,Z0,ct,O0,U0,T0,Y0⟩ R=>⟨[(98,I j),(17,I sm),(15,.slice O0 U0 T0)],Z0::Y0::aW o0 #[I corner] 3::aW i1 #[I (r.x1-r.x0),I (r.y1-r.y0),I ((jh p.v).1),.slice W0 N0 E1] 103::R,Wn-j,j<=Wn/\(zt=gS Wn f (i*Wn+j))/\(ct=tt (λk=>qp p.v (r.x0+(k:Int)) r.y0 (i+1)) (λk=>qp p.v (r.x0+(k:Int)) r.y0 i) j Wn)/\(sm=vH p.v r.x0 r.y0 j (i+1))/\aF ca 3 1 W0 N0 E1 zt Z0/\aF ca 3 1 O0 U0 T0 ct Y0⟩) (0,0,zs,G0,I0,H0,P0,O,V0,F1,D1,X0) ⟨h0,Y,Wb,(by rw[I4];exact j2),by rfl,E0,Q0⟩ ?_;rintro⟨j,sm,zt,W0,N0,E1,Z0,ct,O0,U0,T0,Y0⟩ V _⟨w1,hj,G1,B1,M1,J0,D0⟩;let U1:=J0.ll;let S1:=D0.ll;let H2:zt.length=i*Wn+j:=by rw[G1,jZ]
 let D2:i*Wn+j<=Hn*Wn:=by have h1:=acA Wn (show i+1<=Hn by omega);rw[ac1,adi] at h1;omega
 let v2:=SR A0 r.x0 r.y0 (i:=j) (j:=i+1) Y Y;rw[<-M1] at v2;let l2:ct.length=Wn:=by rw[B1];exact pT _ _ _ _
 refine Q 6<|CD ((j:Int)<(r.x1-r.x0)) (λr3=>Q 7<|aU (i:Int) 1<|bX 2 Z<|⟨(i+1,zt,W0,N0,E1,Z0,ct,O0,U0,T0,Y0),od,bR,w1,Y,(by rw[ac1,adi,G1,show j=Wn by omega]),(by rw[B1,show j=Wn by omega];exact Ji _ _ _),J0,D0⟩) λr3=>Q 11 ?_;let jg:=mN A0 (x:=r.x0+(j:Int)) (y:=r.y0+(i:Int)) vo vo;rw[s2] at jg;simp only[ah.v] at jg;let⟨a0,n5,o5,i0,z1,u0,a2⟩:=aF.eN D0 j;let P1:a0=qp p.v (r.x0+(j:Int)) r.y0 i:=by let h:=i0;rw[B1,zI Y] at h;exact s9
 let Y1:=Ot A0 (r.x0+(j:Int)) r.y0 (n:=i) Y;rw[<-P1] at Y1;let⟨d0,p5,q5,s3,u3,v3⟩:=bl.elem hp.bM ((((r.y0+(i:Int))*p.w)+r.x0)+(j:Int));let V1:fW p.v (r.x0+(j:Int)) (r.y0+(i:Int))=d0:=(by refine pq ?_;rw[<-s3];exact Uc);let W1:=oX A0 (r.x0+(j:Int)) (r.y0+(i:Int));rw[V1] at W1;simp only[ah.v] at W1;refine bJ w1 [22] (fq 3 0 (z1.up 1 Z)<|fb 5 6 3 1<|fb 7 5 1 1<|fb 11 6 0 1<|fb 14 5 0 1<|fq 19 0 (u3.up 7 Z)<|fn) [0,1,2,4,6,8,10,13,16,3,5,7,9,11,12,14,15,17,18,19,20,21,22] λ_ w3=>wV 2<|wI u0<|wV 6<|wL 0<|wL 1<|wL 2<|mD r.y0 (i:Int)<|wL 3<|vz (r.y0+(i:Int)) p.w<|wL 4<|mD ((r.y0+(i:Int))*p.w) r.x0<|mD (((r.y0+(i:Int))*p.w)+r.x0) (j:Int)<|wI v3<|wL 5<|mD a0 d0<|wI u0<|wO Z<|fj w3 D0 a2 1 j 0 a0 (a0+d0) i0 (I (a0+d0)) [I (a0+d0)] sizeOf3 λ_ x3 v0 b2=>nA<|wN<|JX 2 ?_;let F0:a0+d0=qp p.v (r.x0+(j:Int)) r.y0 (i+1):=by rw[KE,<-P1,V1]
 let H1:=Ot A0 (r.x0+(j:Int)) r.y0 (n:=i+1) Y;rw[<-F0] at H1;refine Q 4<|i9 v0 (j:Int) j λe0 _ _ y3 z3 _=>?_;let O1:e0=a0+d0:=by let h:=y3;rw[List.getElem?_set_self Y] at h;exact s9
 refine eB b2 (z3.up 1 Z) 0 (I e0)<|aU sm e0<|JO 3 ?_;let a4:=gW (y:=(a0+d0)) i0;let v5:=aF.ptr v0 a2 a4;let⟨b0,w5,x5,w0,z0,b4⟩:=bl.eN hleft i;let n2:left.getD i 0=b0:=by rw[acp,w0];rfl
 let E2:0<=b0/\b0<=fz p.w p.h p.aG:=acy (K0 b0 (by have:=ab8 w0;simp[this]));let⟨c0,y5,z5,a1,b1,c4⟩:=bl.eN htop j;let y2:top.getD j 0=c0:=by rw[acp,a1];rfl
 let G2:0<=c0/\c0<=fz p.w p.h p.aG:=acy (K0 c0 (by have:=ab8 a1;simp[this]));exact bJ b2 [15,16,18] (fb 1 3 3 1<|fq 5 0 (z0.up 7 Z)<|fq 9 0 (b1.up 7 Z)<|fn) [0,2,3,4,6,7,8,11,13,1,5,9,10,12,14,15,16,17,18] λ_ d4=>wV 3<|wI b4<|wV 2<|wI c4<|wV 2<|wL 0<|wL 1<|wL 2<|mD b0 c0<|vY (b0+c0) corner<|mD ((b0+c0)-corner) (sm+e0)<|wO Z<|ec d4 #[I (((b0+c0)-corner)+(sm+e0))] 3 λ_ _ j0=>er ⟨⟨cI j0 4,.inr ((z0.up 8 Z).cell j0 (k:=0) Z),.inr ((b1.up 8 Z).cell j0 (k:=0) Z),trivial⟩,(wO Z<|dM (nb:=8) j0 J0 1 (bl.dO (enc:=ca) (sz:=1) (xs:=[(((b0+c0)-corner)+(sm+e0))]) fR 1 0 Z Z Z Y) underlying22 (i:=Tryz.t3) kr fR λc2 d2 e4 _ f4 c1=>er ⟨⟨dI,.inr ((z0.up 8 Z).cell c1 (k:=0) Z),.inr ((b1.up 8 Z).cell c1 (k:=0) Z),trivial⟩,(wV 1<|wO Z<|eX c1 4 Z 3 (.slice c2 (N0+1) d2) λ_ g4=>nA<|wN<|JX 3<|aU (j:Int) 1<|bX 2 Z<|⟨(j+1,(sm+e0),(zt++[(((b0+c0)-corner)+(sm+e0))]),c2,(N0+1),d2,e4,(ct.set j (a0+d0)),O0,U0,T0,x3),od,bR,(g4.aj 0 Z),Y,(by rw[<-adL,nm Y,<-G1,hf];unfold Xa;simp only[acD];rw[n2,y2,vF,<-M1,<-F0,O1]),(by rw[B1];exact xL F0),(by rw[vF,<-M1,<-F0,O1]),f4,v0⟩)⟩)⟩
end
end Go.Proofs.YtmfebppagcejcaaGreat
