import Derived.Test.YtmfebppagcejcaaGreatMWYXDAGQ1Tp
set_option linter.all false
namespace Go.Proofs.YtmfebppagcejcaaGreat
open Go Go.E Go.Proofs.Tryz
set_option maxRecDepth 100000
set_option maxHeartbeats 2000000
section
variable{W w:World}{H:af}{F:cj}
def Hp(F:cj)(k:eK)(q:eK.Ok [H] k)(a:k.aa.n<=1000/\k.ae.n<=1000/\k.aK.n<=1000)(s:X W w (H::F)):
 Calls prog 120 #[.agg (bG k).toArray] w λe r=>∃(f l p:cf) (a d g j m n:Nat) (c1 c2 o:af),e=.returned (.agg #[.slice f a d,.slice l g j,.slice p m n,I k.ba])/\aF au 103 4 f a d k.aa.l c1/\aF aL 115 18 l g j k.ae.l c2/\aF ca 3 1 p m n k.aK.l o/\X W r (c1::c2::o::H::F):=by
 let a:=q.aa.ll;let a:=q.ae.ll;let a:=q.aK.ll;exact aq 19 func120 Z<|Q 2<|eD s (bG k) λ_ _ a=>aI a zeroValue41 λ_ _ a=>JO 4<|ec a #[] 103 λd _ a=>GO a 2 [2]<|dM (nb:=48) a (aF.dO (enc:=au) (sz:=4) (b:=d) (c:=#[]) (E:=103) (xs:=[]) fR 0 Z Z Z Y) 0 (q.aa.up 3 Z) underlying38 (i:=Tryz.t103) kr fR λl m _ _ p a=>bf<|eX a 2 Z 0 (.slice l (0+k.aa.n) m) λ_ a=>JO 4<|ec a #[] 115 λa _ h0=>GO h0 2 [3]<|dM (nb:=240) h0 (aF.dO (enc:=aL) (sz:=18) (b:=a) (c:=#[]) (E:=115) (xs:=[]) fR 0 Z Z Z Y) 0 (q.ae.up 4 Z) underlying39 (i:=Tryz.t115) kr fR λg j _ _ o w0=>bf<|eX w0 3 Z 1 (.slice g (0+k.ae.n) j) λ_ a=>JO 4<|ec a #[] 3 λd _ a=>GO a 2 [4]<|dM (nb:=8) a (aF.dO (enc:=ca) (sz:=1) (b:=d) (c:=#[]) (E:=3) (xs:=[]) fR 0 Z Z Z Y) 0 (q.aK.up 5 Z) underlying22 (i:=Tryz.t3) kr fR λd f _ _ n a=>bf<|eX a 4 Z 2 (.slice d (0+k.aK.n) f) λ_ a=>GO a 5 [404]<|bP a 3 Z [.slice l (0+k.aa.n) m,.slice g (0+k.ae.n) j,.slice d (0+k.aK.n) f,I k.ba] λ_ a=>my 3 Z<|hD (vs:=[.agg #[.slice l (0+k.aa.n) m,.slice g (0+k.ae.n) j,.slice d (0+k.aK.n) f,I k.ba]]) Z (.cons (.cell _ _ _ _ kr (nW a 3 0 [.slice l (0+k.aa.n) m,.slice g (0+k.ae.n) j,.slice d (0+k.aK.n) f,I k.ba] (isAgg41 _) (sizeOf41 _) Z Z Z)) .nil)<|⟨_,_,_,_,_,_,_,_,_,_,_,_,rfl,(by let h:=p;rw[acN] at h;exact h),(by let h:=o;rw[acN] at h;exact h),(by let h:=n;rw[acN] at h;exact h),((a.az [1,2]).ap [3,3])⟩
def MJ(k:Nat)(q:eK):Prop:=(q.aa.l.length<=2/\∀z∈q.aa.l,vB k z)/\(q.ae.l.length<=4/\∀z∈q.ae.l,lQ k z)/\(q.aK.l.length<=2+k/\∀z∈q.aK.l,dT z)/\dT q.ba
def iT{k m:Nat}{q:ah}(h:vB k q)(a:k<=m):vB m q:=⟨⟨oN h.1.1 a,oN h.1.2.1 a,oN h.1.2.2 a⟩,by let:=h.2.1;omega,λz hz=>oN (h.2.2 z hz) a⟩
def iQ{k m:Nat}{q:aA}(h:lQ k q)(a:k<=m):lQ m q:=by
 unfold lQ at*;refine⟨h.1,h.2.1,h.2.2.1,h.2.2.2.1,⟨by let:=h.2.2.2.2.1.1;omega,h.2.2.2.2.1.2⟩,⟨by let:=h.2.2.2.2.2.1.1;omega,h.2.2.2.2.2.1.2⟩,by let:=h.2.2.2.2.2.2.1;omega,h.2.2.2.2.2.2.2⟩
def OW{q:eK}(h:Xu 0 q):MJ 0 q:=by
 refine⟨⟨h.1.1,λz hz=>?_⟩,h.2⟩;let h1:=h.1.2 z hz;let e:∀x,dT x->jH 0 x:=λx hx=>by unfold dT at hx;unfold jH;omega
 exact⟨⟨e _ h1.2.1,e _ h1.2.2.1,e _ h1.2.2.2⟩,by let:=h1.1.1;omega,λy hy=>e _ (h1.1.2 y hy)⟩
variable{n k:Nat}
def E9{J:af}{p:Nat}{a:cf}{i:Int}{xs:aR}(hR:bl ca 1 [H] a n k xs)(hi:0<=i/\i<=n)(hS:X W w (aW p #[.slice a n k,I i] 91::J::H::F))(j0:eK)(a6:eK.Ok [J] j0)(kk:Nat)(b:kk<=100)(a5:MJ kk j0):
 Calls prog 59 #[Pt p 0,.agg (bG j0).toArray] w λe w'=>∃(q:eK) (G:af),e=.returned (.agg (bG q).toArray)/\(eK.Ok [G++J] q)/\(MJ (kk+1) q)/\∃i':Int,(0<=i'/\i'<=n)/\X W w' (aW p #[.slice a n k,I i'] 91::G::J::H::F):=by
 have U:=a6.aa.ll;have T:=a6.ae.ll;have Xz:=a6.aK.ll;have L:=hR.le;have Oz:=a5.1.1;have N:=a5.2.1.1;have M:=a5.2.2.1.1;refine aq 85 func59 Z<|Q 2<|eD hS (bG j0) λa0 _ c=>aI c zeroValue41 λb0 _ i1=>GO i1 5 [401]<|cZ (Hp [] j0 (a6.ag (mF 3)) Y i1.ao) ?_;rintro _ _⟨L0,C0,J0,I0,A0,G0,B0,H0,K0,D0,E0,F0,rfl,c0,d0,f0,j1⟩;have y1:=X.IB j1;clear j1;have R0:=c0.ll;have S:=d0.ll;have Qz:=f0.ll;refine bP y1 4 Z [.slice L0 I0 A0,.slice C0 G0 B0,.slice J0 H0 K0,I j0.ba] λ_ k1=>JO 2<|eQ k1 6 [3,4] (γ:=eK×af×Int) (λ⟨q,G1,S0⟩ R=>⟨[],aW p #[.slice a n k,I S0] 91::aW a0 (bG q).toArray 41::aW b0 #[nS,nS,nS,I 0] 41::G1::R,0,(0<=S0/\S0<=n)/\eK.Ok [G1++J] q/\MJ (kk+1) q⟩) ?_ ?_;rotate_left
 ·rintro⟨q,G1,S0⟩ V _⟨l1,P,T0,V0⟩;exact GC l1 3 [401]<|bP l1 2 Z (bG q) λ_ m1=>my 3 Z<|hD (vs:=[.agg (bG q).toArray]) Z (.cons (.cell _ _ _ _ kr (nW m1 2 0 (bG q) (isAgg41 _) (sizeOf41 _) Z Z Z)) .nil)<|⟨q,G1,rfl,T0,V0,_,Y,(m1.ap [1,1])⟩
 refine Q 3<|have a2:=(k1.pick 5 Z);cZ (bB (hR.fl 6) Y a2.aQ 7 Y) ?_;rintro _ _⟨o0,rfl,_,n0,_,K⟩;have e0:=K.ak;refine JO 9<|cE o0 0 (λE=>?_) (λE=>?_)
 ·refine Q 2<|ec e0 #[I (-1),I 4,I 3] 3 λ_ _ B=>have e2:=(B.pick 1 Z);cZ (bQ (hR.fl 7) Y e2.aQ (bl.ao (bl.dO (enc:=ca) (sz:=1) (xs:=[-1,4,3]) (λ_=>(by rfl)) 3 0 Z Z Z Y)) Y Y) ?_;rintro _ _⟨l0,rfl,f2,x0,_,t⟩;have h2:=t.ak;have C:(l0:Int)=(-1)\/(l0:Int)=4\/(l0:Int)=3:=by simpa using f2
  exact bf<|eX h2 6 Z 3 (I l0) λ_ i2=>bX 2 Z<|(by have j2:=((i2.az [5,6,2]).aj 3 Z);have k2:X W _ (aW p #[.slice a n k,I x0] 91::aW a0 #[.slice L0 I0 A0,.slice C0 G0 B0,.slice J0 H0 K0,I l0] 41::aW b0 #[nS,nS,nS,I 0] 41::(D0++E0++F0)::J::H::F):=X.perm (show X W _ (aW p #[.slice a n k,I x0] 91::aW a0 #[.slice L0 I0 A0,.slice C0 G0 B0,.slice J0 H0 K0,I l0] 41::aW b0 #[nS,nS,nS,I 0] 41::D0::E0::F0::J::H::F) from j2) (by simp[Value.cells]);exact⟨((⟨⟨L0,I0,A0,j0.aa.l⟩,⟨C0,G0,B0,j0.ae.l⟩,⟨J0,H0,K0,j0.aK.l⟩,l0⟩:eK),(D0++E0++F0),x0),bR,k2,Y,⟨(c0.dt (O:=[D0]) 0 Z).ag mS,(λz hz=>(a6.gf z hz).ag mS),(d0.dt (O:=[E0]) 0 Z).ag mS,(λz hz=>(a6.dC z hz).ag mS),(f0.dt (O:=[F0]) 0 Z).ag mS⟩,⟨⟨by have h:=a5.1.1;first|(dsimp only;omega)|(simp;omega),(λz hz=>iT (a5.1.2 z hz) Y)⟩,⟨by have h:=a5.2.1.1;first|(dsimp only;omega)|(simp;omega),(λz hz=>iQ (a5.2.1.2 z hz) Y)⟩,⟨by have h:=a5.2.2.1.1;first|(dsimp only;omega)|(simp;omega),a5.2.2.1.2⟩,by have h:=a5.2.2.2;unfold dT at*;dsimp only;omega⟩⟩)
 refine Q 6<|cE o0 1 (λo=>?_) (λo=>?_)
 ·refine GC e0 8 [5]<|CD ((I0:Int)>0) (λm2=>lq 2 Z<|(by have n2:=(e0.az [4,5,2]);have o2:X W _ (aW p #[.slice a n k,I n0] 91::aW a0 #[.slice L0 I0 A0,.slice C0 G0 B0,.slice J0 H0 K0,I j0.ba] 41::aW b0 #[nS,nS,nS,I 0] 41::(D0++E0++F0)::J::H::F):=X.perm (show X W _ (aW p #[.slice a n k,I n0] 91::aW a0 #[.slice L0 I0 A0,.slice C0 G0 B0,.slice J0 H0 K0,I j0.ba] 41::aW b0 #[nS,nS,nS,I 0] 41::D0::E0::F0::J::H::F) from n2) (by simp[Value.cells]);exact⟨((⟨⟨L0,I0,A0,j0.aa.l⟩,⟨C0,G0,B0,j0.ae.l⟩,⟨J0,H0,K0,j0.aK.l⟩,j0.ba⟩:eK),(D0++E0++F0),n0),bR,o2,Y,⟨(c0.dt (O:=[D0]) 0 Z).ag mS,(λz hz=>(a6.gf z hz).ag mS),(d0.dt (O:=[E0]) 0 Z).ag mS,(λz hz=>(a6.dC z hz).ag mS),(f0.dt (O:=[F0]) 0 Z).ag mS⟩,⟨⟨by have h:=a5.1.1;first|(dsimp only;omega)|(simp;omega),(λz hz=>iT (a5.1.2 z hz) Y)⟩,⟨by have h:=a5.2.1.1;first|(dsimp only;omega)|(simp;omega),(λz hz=>iQ (a5.2.1.2 z hz) Y)⟩,⟨by have h:=a5.2.2.1.1;first|(dsimp only;omega)|(simp;omega),a5.2.2.1.2⟩,by have h:=a5.2.2.2;unfold dT at*;dsimp only;omega⟩⟩)) λm2=>?_;obtain⟨y0,y,v,p0,n1,z0,q2⟩:=aF.elem c0 0;change _[0]?=_ at p0;change na _ _ (_+0*_) _ at n1;change nJ _ _ _ _ _ (_+0*_) at z0;refine bJ e0 [7,9] (fb 1 5 0 1<|fb 4 5 0 1<|fp 6 (n1.up 1 Z)<|fn) [0,2,3,1,4,5,6,7,8,9] λ_ r2=>wV 3<|wL 0<|wL 1<|wI z0<|wG 2 4<|wO Z<|cZ (An (hR.fl 6) Y r2.aQ y0 ⟨(bl.ao ((a6.gf y0 (ab8 p0)).bM.up 5 (by rfl)))⟩ kk Y (a5.1.2 _ (ab8 p0))) ?_;rintro _ _⟨q0,a1,rfl,s2,t2,b1,_,g⟩;have o1:=g.cq;exact nZ o1 [6,6]<|wI z0<|wO Z<|fj o1 c0 q2 2 0 0 y0 q0 p0 (.agg (au q0).toArray) (au q0) sizeOf103 λ_ r0 v2 w2=>nA<|wN<|mI 1 Z<|(by have x2:=(w2.az [2,5,6,3]);have y2:X W _ (aW p #[.slice a n k,I b1] 91::aW a0 #[.slice L0 I0 A0,.slice C0 G0 B0,.slice J0 H0 K0,I j0.ba] 41::aW b0 #[nS,nS,nS,I 0] 41::(r0++a1++E0++F0)::J::H::F):=X.perm (show X W _ (aW p #[.slice a n k,I b1] 91::aW a0 #[.slice L0 I0 A0,.slice C0 G0 B0,.slice J0 H0 K0,I j0.ba] 41::aW b0 #[nS,nS,nS,I 0] 41::r0::a1::E0::F0::J::H::F) from x2) (by simp[Value.cells]);exact⟨((⟨⟨L0,I0,A0,(j0.aa.l.set 0 q0)⟩,⟨C0,G0,B0,j0.ae.l⟩,⟨J0,H0,K0,j0.aK.l⟩,j0.ba⟩:eK),(r0++a1++E0++F0),b1),bR,y2,Y,⟨(v2.dt (O:=[r0]) 0 Z).ag mS,(mem_set (λz hz=>(a6.gf z hz).ag mS) (s2.ag mS)),(d0.dt (O:=[E0]) 0 Z).ag mS,(λz hz=>(a6.dC z hz).ag mS),(f0.dt (O:=[F0]) 0 Z).ag mS⟩,⟨⟨by have h:=a5.1.1;first|(dsimp only;omega)|(simp;omega),mem_set (λz hz=>iT (a5.1.2 z hz) Y) t2⟩,⟨by have h:=a5.2.1.1;first|(dsimp only;omega)|(simp;omega),(λz hz=>iQ (a5.2.1.2 z hz) Y)⟩,⟨by have h:=a5.2.2.1.1;first|(dsimp only;omega)|(simp;omega),a5.2.2.1.2⟩,by have h:=a5.2.2.2;unfold dT at*;dsimp only;omega⟩⟩)
 refine Q 6<|cE o0 2 (λd=>?_) (λd=>?_)
 ·refine bJ e0 [3,4,5,6,8] (fb 1 5 2 1<|fn) [0,2,1,3,4,5,6,7,8] λ_ a3=>wV 2<|wL 0<|wO Z<|ec a3 #[I (-1),I 0,I 16,I 99] 3 λ_ _ q1=>nZ q1 [6]<|wO Z<|have b3:=(q1.pick 1 Z);cZ (bQ (hR.fl 7) Y b3.aQ (bl.ao (bl.dO (enc:=ca) (sz:=1) (xs:=[-1,0,16,99]) (λ_=>(by rfl)) 4 0 Z Z Z Y)) Y Y) ?_;rintro _ _⟨m0,rfl,c3,c1,_,A⟩;have r1:=A.ak;have l:(m0:Int)=(-1)\/(m0:Int)=0\/(m0:Int)=16\/(m0:Int)=99:=by simpa using c3
  exact nZ r1 [6]<|wO Z<|ec r1 #[I m0] 3 λ_ _ s1=>nZ s1 [7]<|wO Z<|dM (nb:=8) s1 f0 5 (bl.dO (enc:=ca) (sz:=1) (xs:=[m0]) fR 1 0 Z Z Z Y) underlying22 (i:=Tryz.t3) kr fR λs0 t0 u0 _ e3 f3=>nA<|wV 1<|wO Z<|eX f3 7 Z 2 (.slice s0 (H0+1) t0) λ_ g3=>nA<|wN<|mI 1 Z<|(by have h3:=((g3.az [6,7,3]).ap [3,3]);have i3:X W _ (aW p #[.slice a n k,I c1] 91::aW a0 #[.slice L0 I0 A0,.slice C0 G0 B0,.slice s0 (H0+1) t0,I j0.ba] 41::aW b0 #[nS,nS,nS,I 0] 41::(D0++E0++u0)::J::H::F):=X.perm (show X W _ (aW p #[.slice a n k,I c1] 91::aW a0 #[.slice L0 I0 A0,.slice C0 G0 B0,.slice s0 (H0+1) t0,I j0.ba] 41::aW b0 #[nS,nS,nS,I 0] 41::D0::E0::u0::J::H::F) from h3) (by simp[Value.cells]);exact⟨((⟨⟨L0,I0,A0,j0.aa.l⟩,⟨C0,G0,B0,j0.ae.l⟩,⟨s0,(H0+1),t0,(j0.aK.l++[m0])⟩,j0.ba⟩:eK),(D0++E0++u0),c1),bR,i3,Y,⟨(c0.dt (O:=[D0]) 0 Z).ag mS,(λz hz=>(a6.gf z hz).ag mS),(d0.dt (O:=[E0]) 0 Z).ag mS,(λz hz=>(a6.dC z hz).ag mS),(e3.dt (O:=[u0]) 0 Z).ag mS⟩,⟨⟨by have h:=a5.1.1;first|(dsimp only;omega)|(simp;omega),(λz hz=>iT (a5.1.2 z hz) Y)⟩,⟨by have h:=a5.2.1.1;first|(dsimp only;omega)|(simp;omega),(λz hz=>iQ (a5.2.1.2 z hz) Y)⟩,⟨by have h:=a5.2.2.1.1;first|(dsimp only;omega)|(simp;omega),jY a5.2.2.1.2 (by unfold dT;omega)⟩,by have h:=a5.2.2.2;unfold dT at*;dsimp only;omega⟩⟩)
 refine Q 6<|cE o0 3 (λs=>?_) (λs=>?_)
 ·refine bJ e0 [6,9] (fb 1 5 0 1<|fb 4 5 0 1<|fn) [0,2,3,1,4,5,6,7,8,9] λ_ k3=>wV 3<|wL 0<|wL 1<|wV 1<|wO Z<|cZ (bB (hR.fl 6) Y k3.aQ (I0:Int) Y) ?_;rintro _ _⟨i0,rfl,_,d1,_,m⟩;have t1:=m.ak;exact nZ t1 [5,5]<|(by have m3:=c0.part (lo:=0) (hi:=(i0).toNat) Y Y;exact wY (.slice (bZ L0 A0 0 4) ((i0).toNat-0) (A0-0)) Z (λw _=>yR (a:=L0) (len:=I0) (cap:=A0) none (some i0) 0 ((i0).toNat) runUnderlying38 sizeOf103 Z ⟨Y,Y⟩ Y Y)<|wV 1<|wO Z<|eX t1 5 Z 0 (.slice (bZ L0 A0 0 4) ((i0).toNat-0) (A0-0)) λ_ n3=>nA<|wN<|mI 1 Z<|(by have o3:=(n3.az [4,5,2]);have q3:X W _ (aW p #[.slice a n k,I d1] 91::aW a0 #[.slice (bZ L0 A0 0 4) ((i0).toNat-0) (A0-0),.slice C0 G0 B0,.slice J0 H0 K0,I j0.ba] 41::aW b0 #[nS,nS,nS,I 0] 41::(D0++E0++F0)::J::H::F):=X.perm (show X W _ (aW p #[.slice a n k,I d1] 91::aW a0 #[.slice (bZ L0 A0 0 4) ((i0).toNat-0) (A0-0),.slice C0 G0 B0,.slice J0 H0 K0,I j0.ba] 41::aW b0 #[nS,nS,nS,I 0] 41::D0::E0::F0::J::H::F) from o3) (by simp[Value.cells]);exact⟨((⟨⟨(bZ L0 A0 0 4),((i0).toNat-0),(A0-0),((j0.aa.l.drop 0).take ((i0).toNat-0))⟩,⟨C0,G0,B0,j0.ae.l⟩,⟨J0,H0,K0,j0.aK.l⟩,j0.ba⟩:eK),(D0++E0++F0),d1),bR,q3,Y,⟨(m3.dt (O:=[D0]) 0 Z).ag mS,(λz hz=>(a6.gf z (acM (acL hz))).ag mS),(d0.dt (O:=[E0]) 0 Z).ag mS,(λz hz=>(a6.dC z hz).ag mS),(f0.dt (O:=[F0]) 0 Z).ag mS⟩,⟨⟨by have h:=a5.1.1;first|(dsimp only;omega)|(simp;omega),(λz hz=>(λz hz=>iT (a5.1.2 z hz) Y) z (acM (acL hz)))⟩,⟨by have h:=a5.2.1.1;first|(dsimp only;omega)|(simp;omega),(λz hz=>iQ (a5.2.1.2 z hz) Y)⟩,⟨by have h:=a5.2.2.1.1;first|(dsimp only;omega)|(simp;omega),a5.2.2.1.2⟩,by have h:=a5.2.2.2;unfold dT at*;dsimp only;omega⟩⟩))
 refine Q 6<|cE o0 4 (λj=>?_) (λj=>?_)
 ·refine bJ e0 [7,10] (fb 1 5 1 1<|fb 4 5 1 1<|fn) [0,2,3,1,4,5,6,7,8,9,10] λ_ s3=>wV 3<|wL 0<|wL 1<|wV 1<|mD (G0:Int) 1<|wO Z<|cZ (bB (hR.fl 6) Y s3.aQ ((G0:Int)+1) Y) ?_;rintro _ _⟨k0,rfl,_,e1,_,f⟩;have u1:=f.ak;exact nZ u1 [5,5]<|(by have v3:=d0.part (lo:=0) (hi:=(k0).toNat) Y Y;exact wY (.slice (bZ C0 B0 0 18) ((k0).toNat-0) (B0-0)) Z (λw _=>yR (a:=C0) (len:=G0) (cap:=B0) none (some k0) 0 ((k0).toNat) runUnderlying39 sizeOf115 Z ⟨Y,Y⟩ Y Y)<|wV 1<|wO Z<|eX u1 5 Z 1 (.slice (bZ C0 B0 0 18) ((k0).toNat-0) (B0-0)) λ_ w3=>nA<|wN<|mI 1 Z<|(by have x3:=(w3.az [4,5,2]);have y3:X W _ (aW p #[.slice a n k,I e1] 91::aW a0 #[.slice L0 I0 A0,.slice (bZ C0 B0 0 18) ((k0).toNat-0) (B0-0),.slice J0 H0 K0,I j0.ba] 41::aW b0 #[nS,nS,nS,I 0] 41::(D0++E0++F0)::J::H::F):=X.perm (show X W _ (aW p #[.slice a n k,I e1] 91::aW a0 #[.slice L0 I0 A0,.slice (bZ C0 B0 0 18) ((k0).toNat-0) (B0-0),.slice J0 H0 K0,I j0.ba] 41::aW b0 #[nS,nS,nS,I 0] 41::D0::E0::F0::J::H::F) from x3) (by simp[Value.cells]);exact⟨((⟨⟨L0,I0,A0,j0.aa.l⟩,⟨(bZ C0 B0 0 18),((k0).toNat-0),(B0-0),((j0.ae.l.drop 0).take ((k0).toNat-0))⟩,⟨J0,H0,K0,j0.aK.l⟩,j0.ba⟩:eK),(D0++E0++F0),e1),bR,y3,Y,⟨(c0.dt (O:=[D0]) 0 Z).ag mS,(λz hz=>(a6.gf z hz).ag mS),(v3.dt (O:=[E0]) 0 Z).ag mS,(λz hz=>(a6.dC z (acM (acL hz))).ag mS),(f0.dt (O:=[F0]) 0 Z).ag mS⟩,⟨⟨by have h:=a5.1.1;first|(dsimp only;omega)|(simp;omega),(λz hz=>iT (a5.1.2 z hz) Y)⟩,⟨by have h:=a5.2.1.1;first|(dsimp only;omega)|(simp;omega),(λz hz=>(λz hz=>iQ (a5.2.1.2 z hz) Y) z (acM (acL hz)))⟩,⟨by have h:=a5.2.2.1.1;first|(dsimp only;omega)|(simp;omega),a5.2.2.1.2⟩,by have h:=a5.2.2.2;unfold dT at*;dsimp only;omega⟩⟩))
 refine GC e0 8 [5]<|CD ((G0:Int)>0) (λz3=>lq 2 Z<|(by have a4:=(e0.az [4,5,2]);have b4:X W _ (aW p #[.slice a n k,I n0] 91::aW a0 #[.slice L0 I0 A0,.slice C0 G0 B0,.slice J0 H0 K0,I j0.ba] 41::aW b0 #[nS,nS,nS,I 0] 41::(D0++E0++F0)::J::H::F):=X.perm (show X W _ (aW p #[.slice a n k,I n0] 91::aW a0 #[.slice L0 I0 A0,.slice C0 G0 B0,.slice J0 H0 K0,I j0.ba] 41::aW b0 #[nS,nS,nS,I 0] 41::D0::E0::F0::J::H::F) from a4) (by simp[Value.cells]);exact⟨((⟨⟨L0,I0,A0,j0.aa.l⟩,⟨C0,G0,B0,j0.ae.l⟩,⟨J0,H0,K0,j0.aK.l⟩,j0.ba⟩:eK),(D0++E0++F0),n0),bR,b4,Y,⟨(c0.dt (O:=[D0]) 0 Z).ag mS,(λz hz=>(a6.gf z hz).ag mS),(d0.dt (O:=[E0]) 0 Z).ag mS,(λz hz=>(a6.dC z hz).ag mS),(f0.dt (O:=[F0]) 0 Z).ag mS⟩,⟨⟨by have h:=a5.1.1;first|(dsimp only;omega)|(simp;omega),(λz hz=>iT (a5.1.2 z hz) Y)⟩,⟨by have h:=a5.2.1.1;first|(dsimp only;omega)|(simp;omega),(λz hz=>iQ (a5.2.1.2 z hz) Y)⟩,⟨by have h:=a5.2.2.1.1;first|(dsimp only;omega)|(simp;omega),a5.2.2.1.2⟩,by have h:=a5.2.2.2;unfold dT at*;dsimp only;omega⟩⟩)) λz3=>GC e0 6 [5]<|cZ (bB (hR.fl 6) Y e0.aQ (G0:Int) Y) ?_;rintro _ _⟨f1,rfl,_,_,_,D⟩;have d4:=D.ak;refine JO 3 ?_;obtain⟨g0,x,u,h0,e4,v1,f4⟩:=aF.elem d0 f1;refine bJ d4 [9,11] (fb 1 5 1 1<|fb 5 5 1 1<|fp 8 (e4.up 2 Z)<|fn) [0,2,3,4,6,1,5,7,8,9,10,11] λ_ g4=>wV 5<|wL 0<|wL 1<|wI v1<|wG 2 18<|wO Z<|have h4:=(g4.az [6,1]);cZ (Aw (hR.fl 5) Y h4.JG g0 ⟨(a6.dC g0 (ab8 h0)).ad,(a6.dC g0 (ab8 h0)).row,(a6.dC g0 (ab8 h0)).dG,(a6.dC g0 (ab8 h0)).x,(a6.dC g0 (ab8 h0)).xD,(a6.dC g0 (ab8 h0)).y,(a6.dC g0 (ab8 h0)).yD,(a6.dC g0 (ab8 h0)).ops⟩ kk Y (a5.2.1.2 _ (ab8 h0))) ?_;rintro _ _⟨v0,g1,rfl,i4,j4,h1,_,r⟩;have w1:=r.rG;exact nZ w1 [7,7]<|wI v1<|wO Z<|fj w1 d0 f4 4 f1.toNat 0 g0 v0 h0 (.agg (aL v0).toArray) (aL v0) sizeOf115 λ_ w0 l4 m4=>nA<|wN<|mI 1 Z<|(by have n4:=(m4.az [5,2,5,5,6,7,6]);have o4:X W _ (aW p #[.slice a n k,I h1] 91::aW a0 #[.slice L0 I0 A0,.slice C0 G0 B0,.slice J0 H0 K0,I j0.ba] 41::aW b0 #[nS,nS,nS,I 0] 41::(D0++w0++g1++F0)::J::H::F):=X.perm (show X W _ (aW p #[.slice a n k,I h1] 91::aW a0 #[.slice L0 I0 A0,.slice C0 G0 B0,.slice J0 H0 K0,I j0.ba] 41::aW b0 #[nS,nS,nS,I 0] 41::D0::w0::g1::F0::J::H::F) from n4) (by simp[Value.cells]);exact⟨((⟨⟨L0,I0,A0,j0.aa.l⟩,⟨C0,G0,B0,(j0.ae.l.set ((f1).toNat) v0)⟩,⟨J0,H0,K0,j0.aK.l⟩,j0.ba⟩:eK),(D0++w0++g1++F0),h1),bR,o4,Y,⟨(c0.dt (O:=[D0]) 0 Z).ag mS,(λz hz=>(a6.gf z hz).ag mS),(l4.dt (O:=[w0]) 0 Z).ag mS,(mem_set (λz hz=>(a6.dC z hz).ag mS) (i4.ag (λp hp=>by simp at hp⊢;rcases hp with h|h<;>simp[h]))),(f0.dt (O:=[F0]) 0 Z).ag mS⟩,⟨⟨by have h:=a5.1.1;first|(dsimp only;omega)|(simp;omega),(λz hz=>iT (a5.1.2 z hz) Y)⟩,⟨by have h:=a5.2.1.1;first|(dsimp only;omega)|(simp;omega),mem_set (λz hz=>iQ (a5.2.1.2 z hz) Y) j4⟩,⟨by have h:=a5.2.2.1.1;first|(dsimp only;omega)|(simp;omega),a5.2.2.1.2⟩,by have h:=a5.2.2.2;unfold dT at*;dsimp only;omega⟩⟩)
def da(i:Int):Int->aR->Bool
 |_,[]=>true
 |a,x::l=>(decide (a<x)&&decide (x<i))&&da i x l
def oQ:Int->aR->Int
 |a,[]=>a
 |_,x::l=>oQ x l
def HN(a:Int)(l:aR)(x:Int):oQ a (l++[x])=x:=by
 induction l generalizing a with
 |nil=>rfl
 |cons y l b=>exact b y
def QV(i a:Int)(l:aR)(x:Int):da i a (l++[x])=(da i a l&&(decide (oQ a l<x)&&decide (x<i))):=by
 induction l generalizing a with
 |nil=>simp[da,oQ];try rfl
 |cons y l b=>simp only[acP,da,b,oQ,afg];try rfl
variable{a:Int}
def uH{i x:Int}{l:aR}(hx:l[k]?=some x):da i a (l.take (k+1))=(da i a (l.take k)&&(decide (oQ a (l.take k)<x)&&decide (x<i))):=by rw[bY hx,QV]
theorem uG{i a:Int}:∀{l m:aR},da i a (l++m)=true->da i a l=true
 |[],_,_=>rfl
 |x::l,m,h=>by
  simp only[acP,da,ach] at h⊢;exact⟨h.1,uG h.2⟩
def Xp{i x:Int}{l:aR}(hx:l[k]?=some x)(h:¬(oQ a (l.take k)<x/\x<i)):da i a l=false:=by
 cases h2:da i a l with
 |false=>rfl
 |true=>
  rw[<-ads (k+1) l] at h2;let b:=uG h2;rw[uH hx] at b;simp only[ach,acr] at b;exact absurd b.2 h
def NI:∀{l:aR} {k:Nat} {y:Int},l[k]?=some y->oQ a (l.take (k+1))=y:=by
 intro l k y h;rw[bY h,HN]
def nR{i a:Int}:∀{l:aR},da i a l=true->∀x∈l,a<x/\x<i
 |[],_,x,h=>by cases h
 |y::l,h,x,hx=>by
  simp only[da,ach,acr] at h;rcases acw.1 hx with rfl|hx
  ·exact h.1
  ·let:=nR h.2 x hx;omega
def Af{i a:Int}:∀{l:aR},da i a l=true->a<=oQ a l
 |[],_=>ac2 _
 |y::l,h=>by
  simp only[da,ach,acr] at h;let:=Af h.2;simp only[oQ];omega
def ku(i:Int)(t:Task):Bool:=decide ((1<=t.rows/\t.rows<=128)/\0<=t.dk)&&da i (-1) t.aX.l
def gn:Int->List Task->Bool
 |_,[]=>true
 |i,t::l=>ku i t&&gn (i+1) l
def im(l:List Task):Int:=if l.length=0\/4096<l.length then 5 else if gn 0 l then 0 else 1
def wR(i:Int)(l m:List Task):gn i (l++m)=(gn i l&&gn (i+l.length) m):=by
 induction l generalizing i with
 |nil=>simp[gn]
 |cons t l a=>simp only[acP,gn,a,acu,afg];congr 3;omega
variable{l:List Task}{i:Nat}{t:Task}
def vj(hx:l[i]?=some t):gn 0 (l.take (i+1))=(gn 0 (l.take i)&&ku i t):=by
 let a:i<l.length:=(aci.1 hx).1;rw[bY hx,wR,ac5,adH (by omega)];simp[gn]
def Ae(hx:l[i]?=some t)(h:ku i t=false):gn 0 l=false:=by
 cases h2:gn 0 l with
 |false=>rfl
 |true=>
  rw[<-ads (i+1) l,wR,ach,vj hx] at h2;simp[h] at h2
def Ho(h1:0<l.length)(a:l.length<=4096)(h:gn 0 l=false):im l=1:=by unfold im;rw[ab9 (by omega),h];rfl
def BV(h1:0<l.length)(a:l.length<=4096)(h:gn 0 l=true):im l=0:=by unfold im;rw[ab9 (by omega),aca h]
def yx(h:l.length=0\/4096<l.length):im l=5:=by unfold im;rw[aca h]
theorem jI(h:im l=0):0<l.length/\l.length<=4096/\gn 0 l=true:=by
 unfold im at h;split at h
 ·omega
 ·split at h
  ·rename_i h1 h2;exact⟨by omega,by omega,h2⟩
  ·omega
def RQ(t:Task)(f:Int)(d:Task.Ok [H] t)(b:X W w (H::F)):
 Ro prog 219 #[.agg (cw t).toArray,I f] (.bool (ku f t)) W w (H::F):=by
 let a:=d.aX.ll;refine aq 38 func219 Z<|GJ 2 Z<|eD b (cw t) λ_ _ a=>gOC a 18 [0] Z<|bF [1,2,9,10] (γ:=Nat×Int) (λ⟨i,e⟩ R=>⟨[(11,I i),(5,I e)],R,t.aX.n-i,i<=t.aX.n/\(da f (-1) (t.aX.l.take i)=true)/\(e=oQ (-1) (t.aX.l.take i))⟩) (0,(-1)) ⟨a,Y,by simp[da],rfl⟩ ?_;rintro⟨i,e⟩ V _⟨c,a,hA,a⟩;exact Al 6 Z<|CD ((i:Int)<t.aX.n) (λb=>Yt c 11 [0] Z<|SD 28 (t.rows>=1) (λa=>my 13 Z<|UE) λa=>WH c 5 [0] Z<|SD 33 (t.rows<=128) (λh0=>my 8 Z<|UE) λh0=>GK c 8 [0] Z<|fc [.bool (decide (t.dk>=0))]<|⟨by unfold ku;rw[<-acj (i:=i) (l:=t.aX.l) Y,hA,Bool.and_true];exact rB (ad6.2 Y),(c.aj 0 Z)⟩) λb=>GJ 6 Z<|kQ d.aX i λb _ _ d a=>eB c (a.up 1 Z) 0 (I b)<|jOO 10 Z<|sD 18 (b<=e) (λa=>my 19 Z<|Vd) λa=>VD 6 Z<|cD (b>=f) (λa=>Am 12 Z<|Vd) λa=>GJ 9 Z<|aU (i:Int) 1<|bX 2 Z<|⟨(i+1,b),od,bR,c,Y,(by rw[uH d,hA];exact mo),(NI d).symm⟩
structure cA where
 bS:Int
 aC:Int
 cp:Int
 next:Sl Int
def lW(x:cA):fa:=[I x.bS,I x.aC,I x.cp,.slice x.next.a x.next.n x.next.k]
structure jS where
 bS:Int
 aC:Int
 cp:Int
 next:aR
 deriving DecidableEq
def cA.v(x:cA):jS:=⟨x.bS,x.aC,x.cp,x.next.l⟩
structure cA.Ok(O:cj)(q:cA):Prop where
 next:bl ca 1 O q.next.a q.next.n q.next.k q.next.l
def cA.Ok.ag{O cs':cj}{x:cA}(h:cA.Ok O x)(a:∀p∈O.flatten,p∈cs'.flatten):cA.Ok cs' x:=⟨h.next.ag a⟩
structure BS where
 aX:List aR
 st:aR
 mZ:aR
def fA(l:aR)(i:Int):Int:=if 0<=i then l.getD i.toNat 0 else 0
def qm(st d:aR):Bool:=d.any λx=>decide (fA st x≠4)
def dS:Nat->List aR->Int->aR
 |_,[],_=>[]
 |k,d::D,j=>(if j∈d then[((k:Nat):Int)] else[])++dS (k+1) D j
def fH(st d:aR):Int:=((d.filter λx=>decide (fA st x≠4)).length:Nat)
def HA(B:BS)(q:Nat):jS:=⟨B.st.getD q 0,B.mZ.getD q 0,fH B.st (B.aX.getD q []),dS 0 B.aX q⟩
def mA(B:BS):List jS:=(List.range B.aX.length).map (HA B)
def bT(B:BS):Int:=((B.st.filter λx=>decide (x=4)).length:Nat)
def DF(d:aR):Int:=if d.length=0 then 2 else 1
def jw(l:List Task):BS:=⟨l.map (·.aX.l),l.map (λt=>DF t.aX.l),l.map (λ_=>0)⟩
def pO(k:Nat)(D:List aR)(d:aR)(j:Int):dS k (D++[d]) j=dS k D j++(if j∈d then[((k+D.length:Nat):Int)] else[]):=by
 induction D generalizing k with
 |nil=>simp[dS]
 |cons e D a=>simp only[acP,dS,a,acx,acu];congr 4;exact mo
def oH(l:List Task)(m:Nat)(D:List aR)(q:Nat):jS:=
 if q<m then⟨DF ((l.map (·.aX.l)).getD q []),0,(((l.map (·.aX.l)).getD q []).length:Nat),dS 0 D q⟩ else⟨0,0,0,dS 0 D q⟩
def LU{α:Type}(n i:Nat)(f:Nat->α)(y:α):((List.range n).map f).set i y=(List.range n).map λq=>if q=i then y else f q:=by
 apply acQ;intro q;rw[acV,acE,acE];by_cases h:i=q
 ·subst h;by_cases a:i<n
  ·simp[a]
  ·simp[a]
 ·rw[ab9 h];by_cases a:q<n
  ·simp[a,Ne.symm h]
  ·simp[a]
def we{α:Type}{f g:Nat->α}(h:∀q,q<n->f q=g q):(List.range n).map f=(List.range n).map g:=by
 apply afe;intro q a;exact h q (adW.1 a)
def CL{α:Type}{f:Nat->α}(h:i<n):((List.range n).map f)[i]?=some (f i):=by simp[h]
def zj{a:List cA}{f:Nat->jS}{x:cA}(h:a.map cA.v=(List.range n).map f)(hx:a[i]?=some x):i<n/\x.v=f i:=by
 let h1:=cg (f:=cA.v) hx;rw[h] at h1;let a:i<n:=(by let:=(aci.1 h1).1;simpa using this);rw[CL a] at h1;exact⟨a,(ace h1).symm⟩
def qH{a:List cA}{f g:Nat->jS}{x':cA}(h:a.map cA.v=(List.range n).map f)(h1:∀q,q<n->q≠i->f q=g q)(b:i<n->x'.v=g i):(a.set i x').map cA.v=(List.range n).map g:=by
 rw[aei,h,LU];apply we;intro q a;by_cases e:q=i
 ·subst e;rw[aca Z,b a]
 ·rw[ab9 e,h1 q a e]
def Nx(es:List cA)(O:cj):Prop:=es.length=O.length/\∀(i:Nat) e c,es[i]?=some e->O[i]?=some c->aF ca 3 1 e.next.a e.next.n e.next.k e.next.l c
def Nx.get{a:List cA}{O:cj}(h:Nx a O){e:cA}(he:a[i]?=some e):∃c,O[i]?=some c/\aF ca 3 1 e.next.a e.next.n e.next.k e.next.l c:=by
 have a:i<O.length:=by rw[<-h.1];exact(aci.1 he).1
 exact⟨O[i],by simp[a],h.2 i e _ he (by simp[a])⟩
def Nx.set{a:List cA}{O:cj}(h:Nx a O){e:cA}{c:af}(g:aF ca 3 1 e.next.a e.next.n e.next.k e.next.l c):Nx (a.set i e) (O.set i c):=by
 refine⟨by simp[h.1],λq d f h1 a=>?_⟩;rw[acV] at h1 a;by_cases b:i=q
 ·rw[aca b] at h1 a;split at h1
  ·split at a
   ·cases h1;cases a;exact g
   ·cases a
  ·cases h1
 ·rw[ab9 b] at h1 a;exact h.2 q d f h1 a
def Nx.keep{a:List cA}{O:cj}(h:Nx a O){e b:cA}(he:a[i]?=some e)(d:b.next=e.next):Nx (a.set i b) O:=by
 let⟨c,hc,a⟩:=h.get he;let f:=h.set (i:=i) (e:=b) (c:=c) (by rw[d];exact a)
 let b:O.set i c=O:=by
  apply acQ;intro q;rw[acV];by_cases a:i=q
  ·subst a;rw[aca Z,hc];simp[(aci.1 hc).1]
  ·rw[ab9 a]
 rw[b] at f;exact f
def Nx.rep(n:Nat)(z:cA)(hz:z.next=⟨none,0,0,[]⟩):Nx (List.replicate n z) (List.replicate n []):=by
 exact⟨by simp,λi e c h1 a=>(by have he:=acK (ab8 h1);have hc:=acK (ab8 a);subst he;subst hc;rw[hz];exact aF.nil (λ_=>rfl))⟩
def Nx.ok{a:List cA}{O:cj}(h:Nx a O):∀z∈a,cA.Ok [O.flatten] z:=by
 intro z hz;let⟨i,b⟩:=List.mem_iff_getElem?.1 hz;let⟨c,hc,a⟩:=h.get b;exact⟨a.rd (λp hp=>by simp only[acU,List.flatten_nil,acR];exact CY i hc hp)⟩
def X.iw{W w:World}{O:cj}{c:af}{A F:cj}(i:Nat)(hi:O[i]?=some c)(h:X W w (A++O.flatten::F)):X W w (c::A++(O.eraseIdx i).flatten::F):=by
 exact h.perm<|(by let h1:=mV O i c hi;simp only[List.flatten_append,acU,acP];exact(ae1 _ (aeq _ h1)).trans<|TB)
def X.eV{W w:World}{O:cj}{c d:af}{A F:cj}(i:Nat)(hi:O[i]?=some c)(h:X W w (d::A++(O.eraseIdx i).flatten::F)):X W w (A++(O.set i d).flatten::F):=by
 exact h.perm<|(by let h1:=(qW O i c d hi).symm;simp only[List.flatten_append,acU,acP];exact List.Perm.trans TB (ae1 _ (aeq _ h1)))
def Ly(l:List Task)(n:Nat)(z:cA)(hz:z.v=⟨0,0,0,[]⟩):(List.replicate n z).map cA.v=(List.range n).map (oH l 0 []):=by
 rw[aep,hz];apply acQ;intro q;by_cases h:q<n
 ·simp[h,oH,dS]
 ·simp[h]
def WC(h:l[i]?=some t):(l.map (·.aX.l)).getD i []=t.aX.l:=by simp[acp,h]
def Bc{a:List cA}{x x':cA}(h:a.map cA.v=(List.range n).map (oH l i ((l.map (·.aX.l)).take i)))(f:l[i]?=some t)(hx:a[i]?=some x)
 (h1:x'.bS=DF t.aX.l) (e:x'.aC=x.aC) (d:x'.cp=(t.aX.l.length:Nat)) (b:x'.next=x.next):(a.set i x').map cA.v=(List.range n).map (oH l (i+1) ((l.map (·.aX.l)).take i++[t.aX.l.take 0])):=by
 let h0:=zj h hx;let c:=h0.2;simp only[oH,Nat.lt_irrefl,adR] at c;refine qH h (λq a a=>?_) (λa=>?_)
 ·simp only[oH,adN,pO,acW,adR,acR];by_cases a:q<i
  ·rw[aca a,aca Y]
  ·rw[ab9 a,ab9 Y]
 ·exact(by simp only[oH,adN,pO,acW,adR,acR,Nat.lt_succ_self,aeG,WC f,cA.v,h1,e,d,b];have b:=acd jS.aC c;let a:=acd jS.next c;simp only[cA.v] at b a;rw[b,a])
def Fh{b:List cA}{j:Nat}{d:Int}{x x':cA}(h:b.map cA.v=(List.range n).map (oH l (i+1) ((l.map (·.aX.l)).take i++[t.aX.l.take j])))(c:l[i]?=some t)
 (k:t.aX.l[j]?=some d) (hA:da i (-1) t.aX.l=true) (hx:b[d.toNat]?=some x)
 (h1:x'.bS=x.bS) (u:x'.aC=x.aC) (s:x'.cp=x.cp) (r:x'.next.l=x.next.l++[(i:Int)]):(b.set d.toNat x').map cA.v=(List.range n).map (oH l (i+1) ((l.map (·.aX.l)).take i++[t.aX.l.take (j+1)])):=by
 have b:=nR hA d (ab8 k);let h0:=zj h hx;have b:i<l.length:=(aci.1 c).1;let o:((l.map (·.aX.l)).take i).length=i:=by simp;omega
 let p:d∉t.aX.l.take j:=by
  intro g;have c:da i (-1) (t.aX.l.take (j+1))=true:=by rw[<-ads (j+1) t.aX.l] at hA;exact uG hA
  rw[uH k,ach] at c
  have f:∀(l:aR) (a:Int),da i a l=true->∀y∈l,y<=oQ a l:=by
   intro l
   induction l with
   |nil=>intro _ _ y hy;cases hy
   |cons z l b=>
    intro a ha y hy;simp only[da,ach,acr] at ha;rcases acw.1 hy with rfl|hy
    ·exact Af ha.2
    ·exact b z ha.2 y hy
  have b:=f _ _ c.1 d g;have b:=c.2;simp at b;omega
 have m:∀q:Nat,q<n->dS 0 ((l.map (·.aX.l)).take i++[t.aX.l.take (j+1)]) q=dS 0 ((l.map (·.aX.l)).take i++[t.aX.l.take j]) q++(if q=d.toNat then[(i:Int)] else[]):=by
  intro q g;rw[pO,pO,o,bY k,acx];congr 1;by_cases e:q=d.toNat
  ·exact(by have c:(q:Int)=d:=(by omega);rw[c,aca (by simp),ab9 p,aca e];simp)
  ·have c:(q:Int)≠d:=by omega
   rw[ab9 e,acR];by_cases b:(q:Int)∈t.aX.l.take j
   ·rw[aca (by simp[b]),aca b]
   ·rw[ab9 (by simp[b,c]),ab9 b]
 let k:=h0.2;refine qH h (λq g b=>?_) (λc=>?_)
 ·exact(by have f:=m q g;rw[ab9 b,acR] at f;simp only[oH,f])
 ·have f:=m _ c;rw[aca Z] at f;have m:=acd jS.bS k;have g:=acd jS.aC k;have c:=acd jS.cp k;have b:=acd jS.next k;simp only[cA.v,oH] at m g c b;simp only[oH,cA.v,h1,u,s,r,m,g,c,b,f];split<;>rfl
def LR{a:List cA}(h:a.map cA.v=(List.range n).map (oH l (i+1) ((l.map (·.aX.l)).take i++[t.aX.l.take t.aX.l.length])))(b:l[i]?=some t):
 a.map cA.v=(List.range n).map (oH l (i+1) ((l.map (·.aX.l)).take (i+1))):=by
 rw[h,List.take_length,bY (x:=t.aX.l) (by simp[b])]
def Ob{a:List cA}(b:l.length=n)(h:a.map cA.v=(List.range n).map (oH l n ((l.map (·.aX.l)).take n))):a.map cA.v=mA (jw l):=by
 rw[h];unfold mA;have a:(jw l).aX.length=n:=by simp[jw,b]
 rw[a,acj (by simp[b])];apply we;intro q a;have b:q<l.length:=by omega
 simp only[oH,aca a,HA,jw];let e:(l.map λt=>DF t.aX.l).getD q 0=DF ((l.map (·.aX.l)).getD q []):=by simp[acp,b]
 let c:(l.map λ_=>(0:Int)).getD q 0=0:=by simp[acp,b]
 have b:∀x,fA (l.map λt=>DF t.aX.l) x≠4:=by
  intro x;unfold fA;split
  ·rw[acp,acE];cases l[x.toNat]? with
   |none=>simp
   |some t=>simp[DF];split<;>omega
  ·omega
 have a:∀d,fH (l.map λt=>DF t.aX.l) d=(d.length:Nat):=(by intro d;unfold fH;rw[aek.2 (λx _=>by simp[b x])]);rw[e,c,a]
def Ff(l:List Task):bT (jw l)=0:=by
 unfold bT jw;rw[List.filter_eq_nil_iff.2]
 ·rfl
 ·exact(by intro x hx;obtain⟨t,_,rfl⟩:=acG.1 hx;simp[DF];split<;>omega)
def vm{i:Int}:∀{l:aR} {a:Int},a<i->da i a l=true->(l.length:Int)<=i-1-a
 |[],_,h0,_=>by simp;omega
 |y::l,_,_,h=>by
  simp only[da,ach,acr] at h;let:=vm (l:=l) h.1.2 h.2;exact JH
def kR(p:Nat)(B:BS)(M:af):Prop:=∃(a:cf) (n k:Nat) (es:List cA) (c G:af),
 M=(aW p #[.slice a n k,I (bT B)] 304)++(c++G)/\aF lW 267 4 a n k es c/\(∀z∈es,cA.Ok [G] z)/\es.map cA.v=mA B
theorem qd(h:gn 0 l=true)(hx:l[i]?=some t):ku i t=true:=by
 cases h2:ku i t with
 |true=>rfl
 |false=>rw[Ae hx h2] at h;cases h
theorem p8{i:Int}(h:ku i t=true):da i (-1) t.aX.l=true:=by unfold ku at h;simp only[ach] at h;exact h.2
end
section
variable{W w:World}{H:af}{F:cj}
def Ah(B:BS)(i:Int):Prop:=0<=i/\i<((B.aX.length:Nat):Int)
instance (B:BS)(i:Int):Decidable (Ah B i):=inferInstanceAs (Decidable (_/\_))
def eT(B:BS)(i:Int):BS×Int×Int:=if Ah B i then(if fA B.st i=2 then(⟨B.aX,B.st.set i.toNat 3,B.mZ⟩,B.mZ.getD i.toNat 0,0) else(B,0,20)) else(B,0,16)
def fS(B:BS)(i a:Int):Int:=if Ah B i then(if fA B.st i=3/\B.mZ.getD i.toNat 0=a then 0 else 20) else 16
def jR(B:BS)(i a:Int):BS:=if fS B i a=0 then⟨B.aX,B.st.set i.toNat 2,B.mZ.set i.toNat (a+1)⟩ else B
def mn(s:aR)(D:List aR)(q:Nat):Bool:=decide (s.getD q 0=1)&&!qm s (D.getD q [])
def Df(s:aR)(D:List aR):aR:=((List.range D.length).filter (mn s D)).map λ(q:Nat)=>(q:Int)
def lY(s:aR)(D:List aR):aR:=(List.range D.length).map λq=>if mn s D q then 2 else s.getD q 0
def fG(B:BS)(i a:Int):BS×aR:=if fS B i a=0 then(⟨B.aX,lY (B.st.set i.toNat 4) B.aX,B.mZ⟩,Df (B.st.set i.toNat 4) B.aX) else(B,[])
def idxOf(y:Int):Nat->aR->aR
 |_,[]=>[]
 |k,x::l=>(if x=y then[((k:Nat):Int)] else[])++idxOf y (k+1) l
structure su(B:BS)(K:Int):Prop where
 ls:B.st.length=B.aX.length
 la:B.mZ.length=B.aX.length
 n0:B.aX.length<=4096
 Xj:∀(k:Nat) d,B.aX[k]?=some d->da k (-1) d=true
 st:∀x∈B.st,1<=x/\x<=4
 wait:∀(k:Nat) d,B.aX[k]?=some d->(B.st.getD k 0=1↔qm B.st d=true)
 mZ:∀x∈B.mZ,0<=x/\x<=K
variable{q:Nat}
theorem px{s:aR}(h:q<s.length):s.getD q 0∈s:=by simp_all
theorem ic(s:aR){i:Int}(h:0<=i):fA s i=s.getD i.toNat 0:=by unfold fA;omega
variable{k:Nat}{y:Int}
def me{s:aR}:(s.set k y).getD q 0=if k=q/\k<s.length then y else s.getD q 0:=by
 grind
def oV{s:aR}{x:Int}:fA (s.set k y) x=if x=(k:Nat)/\k<s.length then y else fA s x:=by
 grind[fA]
def AJ{s:aR}(h:s.getD k 0≠4)(hy:y≠4)(x:Int):fA (s.set k y) x≠4↔fA s x≠4:=by
 grind[fA]
def vy{s t:aR}{d:aR}(h:∀x∈d,(fA s x≠4↔fA t x≠4)):fH s d=fH t d:=by
 unfold fH;congr 2;apply List.filter_congr
 simp_all
theorem vu{s t:aR}{d:aR}(h:∀x∈d,(fA s x≠4↔fA t x≠4)):qm s d=qm t d:=by
 grind[qm]
def KA{s d:aR}:fH s d=0↔qm s d=false:=by
 simp_all[fH,qm,decide,fA]
def count_set{s:aR}:∀(h:k<s.length),((s.set k y).filter λx=>decide (x=4)).length+(if s.getD k 0=4 then 1 else 0)=(s.filter λx=>decide (x=4)).length+(if y=4 then 1 else 0):=by
 induction s generalizing k with
 |nil=>intro h;simp at h
 |cons x s a=>
  intro h;cases k with
  |zero=>
   simp only[adZ,adT,List.getD_cons_zero,acr];split<;>split<;>simp_all<;>omega
  |succ k=>
   let b:=a (k:=k) dV;simp only[List.set_cons_succ,adT,List.getD_cons_succ,acr];by_cases hx:x=4
   ·rw[aca hx,aca hx];exact JH
   ·rw[ab9 hx,ab9 hx];exact b
variable{B:BS}
def lF{a:List cA}(h:a.map cA.v=mA B):a.length=B.aX.length:=by
 let:=acd List.length h;simpa [mA] using this
variable{i:Nat}
def qX{a:List cA}{x:cA}(h:a.map cA.v=mA B)(hx:a[i]?=some x):i<B.aX.length/\x.bS=B.st.getD i 0/\x.aC=B.mZ.getD i 0/\x.cp=fH B.st (B.aX.getD i [])/\x.next.l=dS 0 B.aX i:=by
 let⟨h1,a⟩:=zj h hx;let e:=acd jS.bS a;let d:=acd jS.aC a;let c:=acd jS.cp a;let b:=acd jS.next a;exact⟨h1,e,d,c,b⟩
variable{z:Int}
def yX{b:List cA}{x x':cA}(a:B.st.length=B.aX.length)(a:B.mZ.length=B.aX.length)(h:b.map cA.v=mA B)(hx:b[i]?=some x)(h0:x.bS≠4)(hy:y≠4)
 (h1:x'.bS=y) (g:x'.aC=z) (f:x'.cp=x.cp) (e:x'.next=x.next):(b.set i x').map cA.v=mA ⟨B.aX,B.st.set i y,B.mZ.set i z⟩/\bT ⟨B.aX,B.st.set i y,B.mZ.set i z⟩=bT B:=by
 obtain⟨a,a,a,d,c⟩:=qX h hx;have b:∀x,fA (B.st.set i y) x≠4↔fA B.st x≠4:=AJ (by omega) hy;constructor
 ·unfold mA;refine qH h (λq a a=>?_) (λ_=>?_)
  ·exact(by simp only[HA,me,vy (λx _=>b x)];grind)
  ·exact(by simp only[cA.v,HA,me,vy (λx _=>b x),h1,g,f,e,d,c];simp_all)
 ·exact(by unfold bT;have:=count_set (s:=B.st) (k:=i) (y:=y) Y;simp_all)
def Fu{s:aR}:s.set i (s.getD i 0)=s:=by
 apply acQ
 grind
def zh{a:List cA}{G:af}{x x':cA}(h:∀z∈a,cA.Ok [G] z)(hx:a[i]?=some x)(b:x'.next=x.next):∀z∈a.set i x',cA.Ok [G] z:=by
 intro z hz;rcases ac3 hz with h1|rfl
 ·exact h z h1
 ·exact⟨by rw[b];exact(h x (ab8 hx)).next⟩
def su.mono{K L:Int}(h:su B K)(a:K<=L):su B L:=⟨h.ls,h.la,h.n0,h.Xj,h.st,h.wait,λx hx=>by let:=h.mZ x hx;omega⟩
theorem DK{K L:Int}(h:su B K)(hi:i<B.aX.length)(h0:B.st.getD i 0≠4)(h1:B.st.getD i 0≠1)(hy:2<=y/\y<=3)(hz:0<=z/\z<=L)(hk:K<=L):su ⟨B.aX,B.st.set i y,B.mZ.set i z⟩ L:=by
 refine⟨by simp[h.ls],by simp[h.la],h.n0,h.Xj,λx hx=>?_,λk d hd=>?_,λx hx=>?_⟩
 ·rcases ac3 hx with h2|rfl
  ·exact h.st x h2
  ·omega
 ·let hw:=h.wait k d hd;simp only at hd⊢;rw[vu (λx _=>AJ h0 (by omega:y≠4) x),<-hw,me];split
  ·rename_i h2;obtain⟨rfl,_⟩:=h2;omega
  ·exact Iff.rfl
 ·rcases ac3 hx with h2|rfl
  ·let:=h.mZ x h2;omega
  ·omega
variable{K:Int}
def Of{i:Int}(h:su B K):su (eT B i).1 K:=by
 unfold eT;split
 ·rename_i hi;split
  ·exact(by rename_i h2;rw[ic _ hi.1] at h2;let a0:i.toNat<B.aX.length:=(by let h8:=hi.1;let h9:=hi.2;omega);let h3:=DK (i:=i.toNat) (y:=3) (z:=B.mZ.getD i.toNat 0) h a0 (by omega) (by omega) (by omega) (L:=K) (h.mZ _ (px (by rw[h.la];exact a0))) (ac2 _);rw[Fu] at h3;exact h3)
  ·exact h
 ·exact h
variable{a:Int}
theorem fQ{i:Int}(h:fS B i a=0):Ah B i/\fA B.st i=3/\B.mZ.getD i.toNat 0=a:=by
 grind[fS]
def W9{i:Int}(h:su B K):su (jR B i a) (K+1):=by
 unfold jR;split
 ·exact(by rename_i h0;let⟨hi,h1,h2⟩:=fQ h0;rw[ic _ hi.1] at h1;let a0:i.toNat<B.aX.length:=(by let h8:=hi.1;let h9:=hi.2;omega);let h3:=h.mZ (B.mZ.getD i.toNat 0) (px (by rw[h.la];exact a0));grind[DK])
 ·exact h.mono (by omega)
def yT{n:Nat}{f:Nat->Int}(h:q<n):((List.range n).map f).getD q 0=f q:=by simp_all
def BO{s:aR}{D:List aR}(a:s.length=D.length)(x:Int):fA (lY s D) x≠4↔fA s x≠4:=by
 grind[fA,lY,mn]
def yW{i:Int}(h:su B K):su (fG B i a).1 K:=by
 unfold fG;split
 ·rename_i h0;obtain⟨hi,h1,h2⟩:=fQ h0;rw[ic _ hi.1] at h1;have e0:i.toNat<B.aX.length:=by have h8:=hi.1;have h9:=hi.2;omega
  have d0:(B.st.set i.toNat 4).length=B.aX.length:=by rw[acz];exact h.ls
  refine⟨by simp[lY],h.la,h.n0,h.Xj,λx hx=>?_,λk d hd=>?_,h.mZ⟩
  ·simp only[lY,acG,adW] at hx;obtain⟨q,hq,rfl⟩:=hx;split
   ·omega
   ·rw[me];split
    ·omega
    ·exact h.st _ (px dV)
  ·have hk:k<B.aX.length:=(aci.1 hd).1;simp only;rw[vu (λx _=>BO d0 x)];unfold lY;rw[yT hk];have b0:B.aX.getD k []=d:=by simp_all
   have hw:=h.wait k d hd
   have a0:qm (B.st.set i.toNat 4) d=true->qm B.st d=true:=by
    unfold qm;rw[adf,adf];rintro⟨x,hx,h3⟩;refine⟨x,hx,?_⟩;rw[acr,oV] at h3
    simp_all
   by_cases hc:mn (B.st.set i.toNat 4) B.aX k=true
   ·exact(by grind[mn])
   ·rw[ab9 hc];constructor
    ·exact(by grind[decide,mn])
    ·intro h3;have h4:=hw.2 (a0 h3);rw[me,ab9 ?_]
     ·exact h4
     ·rintro⟨rfl,_⟩;omega
 ·exact h
def NR{l:List Task}(h:im l=0):su (jw l) 0:=by
 obtain⟨h1,a,a⟩:=jI h;refine⟨by simp[jw],by simp[jw],by simp[jw];omega,λk d a=>?_,λx hx=>?_,λk d a=>?_,λx hx=>?_⟩
 ·exact(by simp only[jw,acE,aeT] at a;obtain⟨t,b,rfl⟩:=a;grind[p8,qd])
 ·exact(by simp only[jw,acG] at hx;obtain⟨t,_,rfl⟩:=hx;simp only[DF];omega)
 ·simp only[jw,acE,aeT] at a;obtain⟨t,b,rfl⟩:=a;have a:k<l.length:=(aci.1 b).1;have a:(jw l).st.getD k 0=DF t.aX.l:=by grind[jw]
  have b:∀x,fA (jw l).st x≠4:=by
   grind[fA,jw,DF]
  rw[a];unfold qm DF;cases hdl:t.aX.l with
  |nil=>simp
  |cons y a=>simp[b y]
 ·exact(by simp only[jw,acG] at hx;omega)
def JD(y:Int)(k:Nat)(l:aR)(x:Int):idxOf y k (l++[x])=idxOf y k l++(if x=y then[((k+l.length:Nat):Int)] else[]):=by
 induction l generalizing k with
 |nil=>simp[idxOf]
 |cons z l a=>simp only[acP,idxOf,a,acx,acu];congr 4;exact mo
def BP{s:aR}(h:i<s.length):s.take (i+1)=s.take i++[s.getD i 0]:=by
 simp_all
def Zw{s zs:aR}(hz:zs=idxOf y 0 (s.take i))(hi:i<s.length)(h:s.getD i 0=y):zs++[(i:Int)]=idxOf y 0 (s.take (i+1)):=by
 rw[BP hi,JD,aca h,<-hz,ac5,adH (by omega),aez]
def Zc{s zs:aR}(hz:zs=idxOf y 0 (s.take i))(hi:i<s.length)(h:s.getD i 0≠y):zs=idxOf y 0 (s.take (i+1)):=by
 rw[BP hi,JD,ab9 h,<-hz,acR]
def vS(B:BS)(s nx:aR)(q:Nat):jS:=
 if(q:Int)∈nx then⟨if fH s (B.aX.getD q [])=0 then 2 else s.getD q 0,B.mZ.getD q 0,fH s (B.aX.getD q []),dS 0 B.aX q⟩ else⟨s.getD q 0,B.mZ.getD q 0,fH B.st (B.aX.getD q []),dS 0 B.aX q⟩
def wc{k:Nat}{i z:Int}:∀{D:List aR},z∈dS k D i↔∃q:Nat,z=(k+q:Nat)/\q<D.length/\i∈D.getD q []
 |[]=>by simp[dS]
 |d::D=>by
  simp only[dS,acn,wc (k:=k+1) (D:=D)];constructor
  ·rintro(h|⟨q,rfl,h1,h2⟩)
   ·split at h
    ·rename_i h2;simp at h;exact⟨0,by simp[h],by simp,by simp_all⟩
    ·cases h
   ·exact⟨q+1,by omega,by simp;omega,by simp_all⟩
  grind
def Cw{i:Int}:∀{D:List aR} {k:Nat} {a:Int},a<k->da ((k+D.length:Nat):Int) a (dS k D i)=true
 |[],_,_,_=>rfl
 |d::D,k,a,h=>by
  simp only[dS];split
  ·exact(by simp only[acP,acN,da,ach,acr,acu];exact⟨⟨h,by omega⟩,(by let:=Cw (i:=i) (D:=D) (k:=k+1) (a:=k) (by omega);grind)⟩)
  ·rw[acN,acu,show k+(D.length+1)=k+1+D.length by omega];exact Cw (by omega)
def KX{i x:Int}{l:aR}{j:Nat}(h:da i a l=true)(hx:l[j]?=some x):x∉l.take j:=by
 intro b;let b:da i a (l.take (j+1))=true:=by grind[List.take_append_drop,uG]
 rw[uH hx,ach] at b
 let b:∀(l:aR) (a:Int),da i a l=true->∀y∈l,y<=oQ a l:=by
  intro l
  induction l with
  |nil=>intro _ _ y hy;cases hy
  |cons z l b=>
   intro a ha y hy;simp only[da,ach,acr] at ha;rcases acw.1 hy with rfl|hy
   ·exact Af ha.2
   ·exact b z ha.2 y hy
 grind
def rY(s:aR)(x:Int)(l:aR):fH s (x::l)=(if fA s x≠4 then 1 else 0)+fH s l:=by
 grind[fH,fA]
def zd{s:aR}{i:Nat}{b:Int}(f:s.getD i 0≠4)(hi:i<s.length):∀{d:aR} {a:Int},da b a d=true->fH (s.set i 4) d+(if(i:Int)∈d then 1 else 0)=fH s d
 |[],_,_=>by rfl
 |x::d,a,h=>by
  simp only[da,ach,acr] at h;let k:=zd f hi h.2;let j:=nR h.2;by_cases e:x=(i:Nat)
  ·exact(by let g:(i:Int)∉d:=λf=>(by let:=j _ f;omega);rw[ab9 g] at k;let g:fA s x≠4:=(by rw[e,ic _ Y];simp_all);let f:fA (s.set i 4) x=4:=(by rw[oV,aca ⟨e,hi⟩]);rw[rY,rY,f,aca g,ab9 fe,aca dV];omega)
  ·let f:fA (s.set i 4) x=fA s x:=by rw[oV,ab9 (λh=>e h.1)]
   rw[rY,rY,f]
   generalize (if fA s x≠4 then(1:Int) else 0)=c
   by_cases f:(i:Int)∈d
   ·rw[aca (ac7 _ f)];rw[aca f] at k;omega
   ·rw[ab9 (by grind)];rw[ab9 f] at k;omega
def ys{c:List cA}{j:Nat}{y y':cA}(l:su B K)(hi:i<B.aX.length)(b:B.st.getD i 0=3)
 (h:c.map cA.v=(List.range B.aX.length).map (vS B (B.st.set i 4) ((dS 0 B.aX i).take j))) (hz:(dS 0 B.aX i)[j]?=some z) (hy:c[z.toNat]?=some y)
 (h1:y'.cp=y.cp-1) (o:y'.aC=y.aC) (n:y'.next=y.next) (m:y'.bS=if y.cp-1=0 then 2 else y.bS):
 (c.set z.toNat y').map cA.v=(List.range B.aX.length).map (vS B (B.st.set i 4) ((dS 0 B.aX i).take (j+1)))/\(fH (B.st.set i 4) (B.aX.getD z.toNat [])=y.cp-1):=by
 obtain⟨q,b,b,k⟩:=wc.1 (ab8 hz);have c:z.toNat=q:=by omega
 have g:(q:Int)=z:=by omega
 have b:z∉(dS 0 B.aX i).take j:=KX (Cw (a:=-1) Y) hz;have h0:=(zj h hy).2;rw[c] at h0⊢;simp only[vS,g,ab9 b] at h0;have f:=acd jS.bS h0;have e:=acd jS.aC h0;have b:=acd jS.cp h0;have d:=acd jS.next h0;simp only[cA.v] at f e b d;have b:B.aX[q]?=some (B.aX.getD q []):=by grind
 have hp:=zd (s:=B.st) (i:=i) Y (by rw[l.ls];exact hi) (l.Xj q _ b);rw[aca k] at hp;have c:fH (B.st.set i 4) (B.aX.getD q [])=y.cp-1:=by omega
 refine⟨qH h (λr b b=>?_) (λ_=>?_),c⟩
 ·exact(by simp only[vS,bY hz,acn,ack];grind)
 ·simp only[vS,bY hz,acn,ack,g,or_true,aeG,cA.v,h1,o,n,m,c,f,e,d]
def F4(c:su B K)(hi:i<B.aX.length)(a:B.st.getD i 0=3)(a:q<B.aX.length):
 mn (B.st.set i 4) B.aX q=true↔((q:Int)∈dS 0 B.aX i/\fH (B.st.set i 4) (B.aX.getD q [])=0):=by
 let d:B.aX[q]?=some (B.aX.getD q []):=by simp_all
 have a:=c.ls
 have a:(q:Int)∈dS 0 B.aX i↔(i:Int)∈B.aX.getD q []:=by
  rw[wc]
  grind
 let hw:=c.wait q _ d;simp only[mn,ach,acr,adt,a];rw[KA];constructor
 ·rintro⟨h1,b⟩;refine⟨?_,b⟩;by_cases a:(i:Int)∈B.aX.getD q []
  ·exact a
  ·exact(by exfalso;have a:i≠q:=(by grind);rw[me,ab9 (λh=>a h.1)] at h1;have a:=hw.1 h1;let he:∀x∈B.aX.getD q [],(fA B.st x≠4↔fA (B.st.set i 4) x≠4):=(by intro x hx;rw[oV,ab9];grind);grind[vu])
 ·exact(by rintro⟨h1,b⟩;exact⟨(by have a:=nR (c.Xj q _ d) _ h1;rw[me,ab9 (λh=>by omega)];exact hw.2<|(by unfold qm;rw[adf];exact⟨_,h1,by rw[acr,ic _ Y];simp_all⟩)),b⟩)
def OC{a:List cA}(d:su B K)(hi:i<B.aX.length)(b:B.st.getD i 0=3)
 (h:a.map cA.v=(List.range B.aX.length).map (vS B (B.st.set i 4) (dS 0 B.aX i))):a.map cA.v=mA ⟨B.aX,lY (B.st.set i 4) B.aX,B.mZ⟩:=by
 rw[h];unfold mA;apply we;intro q c;have hc:=F4 d hi b c;have a:(B.st.set i 4).length=B.aX.length:=by rw[acz];exact d.ls
 have e:B.aX[q]?=some (B.aX.getD q []):=by simp_all
 have b:fH (lY (B.st.set i 4) B.aX) (B.aX.getD q [])=fH (B.st.set i 4) (B.aX.getD q []):=vy (λx _=>BO a x);have a:(lY (B.st.set i 4) B.aX).getD q 0=if mn (B.st.set i 4) B.aX q then 2 else(B.st.set i 4).getD q 0:=yT c
 simp only[HA,b,a];by_cases b:(q:Int)∈dS 0 B.aX i
 ·rw[vS,aca b];by_cases hp:fH (B.st.set i 4) (B.aX.getD q [])=0
  ·rw[aca hp,aca (hc.2 ⟨b,hp⟩)]
  ·rw[ab9 hp,ab9 (λh=>hp (hc.1 h).2)]
 ·exact(by rw[vS,ab9 b,ab9 (λh=>b (hc.1 h).1)];have a:(i:Int)∉B.aX.getD q []:=λh=>b (wc.2 ⟨q,Y,c,h⟩);have hp:=zd (s:=B.st) (i:=i) Y dV (d.Xj q _ e);simp_all)
def uI(i:Int):∀(k:Nat) (D:List aR),dS k D i=((List.range D.length).filter λq=>decide (i∈D.getD q [])).map λ(q:Nat)=>((k+q:Nat):Int)
 |_,[]=>rfl
 |k,d::D=>by
  let e:((List.range D.length).filter ((λq=>decide (i∈(d::D).getD q []))∘Nat.succ))=(List.range D.length).filter λq=>decide (i∈D.getD q []):=rfl;rw[dS,uI i (k+1) D,acu,List.range_succ_eq_map,adT,ae9,e];let a:∀l:gB,(l.map Nat.succ).map (λq:Nat=>((k+q:Nat):Int))=l.map λ(q:Nat)=>((k+1+q:Nat):Int):=wS
  grind
def Sb(c:su B K)(hi:i<B.aX.length)(b:B.st.getD i 0=3):
 (dS 0 B.aX i).filter (λz=>decide (fH (B.st.set i 4) (B.aX.getD z.toNat [])=0))=Df (B.st.set i 4) B.aX:=by
 rw[uI,ae9];unfold Df;simp only[aez];rw[List.filter_filter];congr 1;apply List.filter_congr;intro q a;let hc:=F4 c hi b (adW.1 a);rw[acI,hc];simp only[Function.comp,ach,acr,acD]
 let a:(q:Int)∈dS 0 B.aX i↔(i:Int)∈B.aX.getD q []:=by
  rw[wc]
  grind
 grind
def EG(g:su B K)(hi:i<B.aX.length)(b:B.st.getD i 0=3):bT ⟨B.aX,lY (B.st.set i 4) B.aX,B.mZ⟩=bT B+1:=by
 unfold bT;have d:(B.st.set i 4).length=B.aX.length:=by rw[acz];exact g.ls
 have h1:((lY (B.st.set i 4) B.aX).filter λx=>decide (x=4)).length=((B.st.set i 4).filter λx=>decide (x=4)).length:=by
  have e:B.st.set i 4=(List.range B.aX.length).map λq=>(B.st.set i 4).getD q 0:=by
   apply acQ
   grind
  have f:lY (B.st.set i 4) B.aX=(List.range B.aX.length).map λq=>if mn (B.st.set i 4) B.aX q then 2 else(B.st.set i 4).getD q 0:=rfl
  generalize a:B.st.set i 4=s at*
  rw[f]
  conv=>rhs;rw[e]
  rw[ae9,ae9,acf,acf];congr 1;apply List.filter_congr;intro q _;simp only[Function.comp]
  grind[mn]
 rw[h1];have c:=count_set (s:=B.st) (k:=i) (y:=4) dV
 simp_all
def Ij{i:Int}{l:aR}(h:da i a l=true):∀(q:Nat) (u v:Int),l[q]?=some u->l[q+1]?=some v->u<=v:=by
 induction l generalizing a with
 |nil=>intro q u v h1;simp at h1
 |cons x l c=>
  simp only[da,ach,acr] at h;intro q u v h1 b;cases q with
  |zero=>
   simp at h1;subst h1;let:=nR h.2 v (ab8 (by simpa using b));omega
  |succ q=>exact c h.2 q u v dV dV
def pE{i:Int}{p:Int->Bool}:∀{l:aR} {a b:Int},b<=a->da i a l=true->da i b (l.filter p)=true
 |[],_,_,_,_=>rfl
 |x::l,a,b,c,h=>by
  simp only[da,ach,acr] at h;rw[adT];split
  ·exact(by simp only[da,ach,acr];exact⟨⟨by omega,h.1.2⟩,pE (ac2 _) h.2⟩)
  ·exact pE (by omega) h.2
end
section
variable{W w:World}{H:af}{F:cj}
structure kt where
 bH:Int
 aw:Int
 an:Int
 aC:Int
 row:Int
 used:Int
 high:Int
 deriving DecidableEq
structure De where
 ew:Int
 dw:Int
 ap:Int
 dz:Int
 fm:Int
 gX:Int
 fy:Int
 gP:Int
 eI:Int
 cells:Int
 deriving DecidableEq
def eu(x:De):fa:=[I x.ew,I x.dw,I x.ap,I x.dz,I x.fm,I x.gX,I x.fy,I x.gP,I x.eI,I x.cells]
structure oC where
 aB:Int
 yF:Int
 from_:Int
 bO:Int
 iI:Int
 gI:Int
 err:Int
 deriving DecidableEq
def dR(x:oC):fa:=[I x.aB,I x.yF,I x.from_,I x.bO,I x.iI,I x.gI,I x.err]
structure AS where
 cap:Int
 used:Int
 high:Int
 marks:aR
def uE(a b:Int):Int:=if a.tmod b>0 then a.tdiv b+1 else a.tdiv b
def iV(u a:Int):Int:=uE u a*a
structure AS.Wf(S:AS):Prop where
 c:0<=S.cap/\S.cap<=1048576
 u:0<=S.used/\S.used<=S.cap
 h:S.used<=S.high/\S.high<=S.cap
 m:∀x∈S.marks,0<=x/\x<=S.high
def mP(S:AS):AS:=if 1024<=S.marks.length then S else{S with marks:=S.marks++[S.used]}
def oq(S:AS)(n a:Int):Int:=if ¬((1<=n/\n<=1048576)/\(1<=a/\a<=4096)) then 2 else if iV S.used a<=S.cap/\n<=S.cap-iV S.used a then 0 else 19
def lL(S:AS)(n a:Int):AS:=if oq S n a=0 then{S with used:=iV S.used a+n,high:=max S.high (iV S.used a+n)} else S
def tv(S:AS):AS:=match S.marks.getLast? with|none=>S|some x=>{S with used:=x,marks:=S.marks.dropLast}
def ga(S:AS):AS:={S with used:=0,marks:=[]}
variable{a:Int}
def zF{u:Int}(h:0<=u/\u<=1048576)(ha:1<=a/\a<=4096):0<=u.tdiv a/\u.tdiv a<=1048576/\0<=u.tmod a/\0<=uE u a/\uE u a<=1048577:=by
 let h1:u.tdiv a=u/a:=acv h.1;let b:u.tmod a=u%a:=aef h.1;let b:0<=u/a:=aee h.1 (by omega);let b:u/a<=u:=ae0 _ h.1;let b:0<=u%a:=adp _ (by omega)
 grind[uE]
def Oq{u:Int}(h:0<=u/\u<=1048576)(ha:1<=a/\a<=4096):0<=iV u a:=ac9 (zF h ha).2.2.2.1 (by omega)
variable{c:Int}
def RT{l:Int}(hc:0<=c)(ha:1<=a)(b:0<=l):c<=l.tdiv a↔c*a<=l:=by
 grind[Int.tdiv_eq_ediv_of_nonneg,Int.le_ediv_iff_mul_le]
structure DS where
 cap:Int
 l:List Ref
def ue(S:DS):Int:=if S.cap<=((S.l.length:Nat):Int) then 19 else 0
def nG(S:DS)(r:Ref):DS:=if ue S=0 then{S with l:=S.l++[r]} else S
def bw(j:Int)(l:List Ref):List Ref:=l.filter (λr=>decide (r.bO≠j))
structure DS.Wf(S:DS):Prop where
 c:1<=S.cap/\S.cap<=256
 n:((S.l.length:Nat):Int)<=S.cap
theorem iP(j:Int)(l:List Ref):(bw j l).length<=l.length:=ade _ l
variable{l:List Ref}{i:Nat}
def Lf{j:Int}{x:Ref}{zs:List Ref}(hz:zs=bw j (l.take i))(hx:l[i]?=some x)(h:x.bO≠j):zs++[x]=bw j (l.take (i+1)):=by
 grind[bY,bw]
def KU{j:Int}{x:Ref}{zs:List Ref}(hz:zs=bw j (l.take i))(hx:l[i]?=some x)(h:x.bO=j):zs=bw j (l.take (i+1)):=by
 rw[bY hx];grind[bw]
structure QS where
 cap:Int
 bs:List (List Ref)
def gL(bs:List (List Ref)):Int:=(((bs.map List.length).sum:Nat):Int)
def rz(S:QS):Int:=if S.cap<=gL S.bs then 19 else 0
def ru:List (List Ref)->Nat->Ref->List (List Ref)
 |[],_,_=>[]
 |l::t,0,r=>(l++[r])::t
 |l::t,i+1,r=>l::ru t i r
def gk(S:QS)(r:Ref)(b:Int):QS:=if rz S=0 then{S with bs:=ru S.bs b.toNat r} else S
def mC:List (List Ref)->Option (Ref×List (List Ref))
 |[]=>none
 |[]::t=>(mC t).map λq=>(q.1,[]::q.2)
 |(x::l)::t=>some (x,l::t)
def ke(h:l.length=0)(t:List (List Ref)):mC (l::t)=(mC t).map λq=>(q.1,l::q.2):=by
 obtain rfl:=aeQ.1 h;rfl
def xF{x:Ref}(h:l[0]?=some x)(t:List (List Ref)):mC (l::t)=some (x,l.tail::t):=by
 cases l with
 |nil=>cases h
 |cons y l=>cases h;rfl
structure JS where
 dm:Bool
 bg:Bool
 cC:Int
 aN:List eL
 B:BS
def JS.zero:JS:=⟨false,false,0,[],⟨[],[],[]⟩⟩
instance:Inhabited JS:=⟨JS.zero⟩
instance:Inhabited AS:=⟨⟨0,0,0,[]⟩⟩
instance:Inhabited DS:=⟨⟨0,[]⟩⟩
instance:Inhabited kt:=⟨⟨0,0,0,0,0,0,0⟩⟩
structure FS where
 cc:mi
 ws:List kt
 ar:List AS
 dq:List DS
 q:QS
 aD:List JS
 st:De
def dE(F:FS)(i:Int):JS:=F.aD.getD i.toNat default
def Ee(F:FS)(x ph:Int):FS:={F with ws:=F.ws.set x.toNat ⟨ph,0,0,0,0,0,(F.ar.getD x.toNat default).high⟩}
def fV(F:FS)(x:Int)(r:Ref):FS:=
 {F with ws:=F.ws.set x.toNat ⟨1,r.bO,r.bE,(eT (dE F r.bO).B r.bE).2.1,0,0,(F.ar.getD x.toNat default).high⟩,aD:=F.aD.set r.bO.toNat {dE F r.bO with B:=(eT (dE F r.bO).B r.bE).1},st:={F.st with ew:=F.st.ew+1}}
def fT(l:List JS):Int:=(((l.filter (·.bg)).map (·.aN.length)).sum:Nat)
def HF{l:List JS}{s:JS}(h:l[i]?=some s):fT (l.take (i+1))=fT (l.take i)+if s.bg then(s.aN.length:Int) else 0:=by
 unfold fT;rw[bY h,aeo,acB,ae8]
 grind
def mY(n c i:Int):Int:=((if c.tmod n<0 then c.tmod n+n else c.tmod n)+i).tmod n
def K7{n i:Int}(b:0<n)(hi:0<=i):0<=mY n c i/\mY n c i<n:=by
 unfold mY;let h1:-n<c.tmod n:=adK _ b;let a:c.tmod n<n:=adv _ b;split
 ·exact T7
 ·exact T7
instance:Inhabited eL:=⟨⟨0,0,0,0,0,0,[],0,0⟩⟩
def ZI(k x:Int):oC:=⟨k,x,0,0,0,0,0⟩
def gb(F:FS)(x:Int)(r:Ref)(cC:Int):FS:=
 if ue (F.dq.getD x.toNat default)=0 then{F with dq:=F.dq.set x.toNat (nG (F.dq.getD x.toNat default) r)}
 else{F with q:=gk F.q r cC,st:={F.st with fy:=F.st.fy+1}}
def gi(F:FS)(x bO cC:Int)(l:aR):FS:=l.foldl (λF t=>gb F x ⟨bO,t⟩ cC) F
variable{t:Int}
def zb{F:FS}{x bO cC:Int}{l:aR}(h:l[i]?=some t):gi F x bO cC (l.take (i+1))=gb (gi F x bO cC (l.take i)) x ⟨bO,t⟩ cC:=by
 unfold gi;exact J5
def dn(F:FS)(x:Int):FS×oC:=
 let wk:=F.ws.getD x.toNat default
 let j:=dE F wk.aw
 let t:=j.aN.getD wk.an.toNat default
 let a:=F.ar.getD x.toNat default
 if wk.bH=1 then
  let a2:=if t.dk>0 then lL (mP a) t.dk 16 else mP a
  ({F with ar:=F.ar.set x.toNat a2,ws:=F.ws.set x.toNat {wk with bH:=2,used:=a2.used,high:=a2.high}},ZI 6 x)
 else if wk.bH=2 then
  ({F with ws:=F.ws.set x.toNat {wk with bH:=if wk.row+1=t.rows then 3 else 2,row:=wk.row+1}},ZI 7 x)
 else
  let B:=fG j.B wk.an wk.aC
  let F1:FS:={F with aD:=F.aD.set wk.aw.toNat {j with B:=B.1},ar:=F.ar.set x.toNat (tv a),ws:=F.ws.set x.toNat ⟨0,0,0,0,0,0,(tv a).high⟩,st:={F.st with dw:=F.st.dw+1}}
  let F2:=gi F1 x wk.aw j.cC B.2
  (if bT B.1=j.aN.length then{F2 with aD:=F.aD.set wk.aw.toNat {j with B:=B.1,bg:=false}} else F2,⟨8,x,0,0,wk.aw,wk.an,0⟩)
variable{B:BS}
def Cz{i:Int}:(fG B i a).2.length<=B.aX.length:=by
 grind[fG,Df]
def fF(p:Nat->Bool):Nat->Nat->Option Nat
 |0,_=>none
 |n+1,i=>if p i then some i else fF p n (i+1)
variable{n:Nat}
theorem Bn{p:Nat->Bool}(h:i<n)(hp:p i=true):fF p (n-i) i=some i:=by
 obtain⟨m,a⟩:∃m,n-i=m+1:=⟨n-i-1,by omega⟩
 grind[fF]
theorem zA{p:Nat->Bool}(h:i<n)(hp:p i=false):fF p (n-i) i=fF p (n-(i+1)) (i+1):=by
 obtain⟨m,a⟩:∃m,n-i=m+1:=⟨n-i-1,by omega⟩
 grind[fF]
theorem BQ{p:Nat->Bool}(h:n<=i):fF p (n-i) i=none:=by
 let a:n-i=0:=by omega
 rw[a];rfl
def gD(F:FS)(x:Int):DS:=F.dq.getD x.toNat default
def oE(F:FS)(c:Int)(i:Nat):Int:=mY ((F.ws.length:Nat):Int) c ((i:Nat):Int)
def iC(F:FS)(c:Int)(i:Nat):Bool:=!(gD F (oE F c i)).l.isEmpty
def ou(F:FS)(x:Int)(l:List Ref):FS:={F with dq:=F.dq.set x.toNat {gD F x with l:=l}}
def Ia(F:FS)(x v:Int)(r:Ref):FS×oC:=
 let F1:=fV (ou F v (gD F v).l.tail) x r
 ({F1 with st:={F1.st with fm:=F1.st.fm+1}},⟨5,x,v,0,r.bO,r.bE,0⟩)
def oA(F:FS)(x c:Int):Option (FS×oC):=
 match fF (iC F c) F.ws.length 0 with
 |none=>none
 |some i=>match (gD F (oE F c i)).l.head? with
  |none=>none
  |some r=>some (Ia F x (oE F c i) r)
def nu(F:FS)(x c:Int):Option (FS×oC):=
 match (gD F x).l.getLast? with
 |some r=>some (fV (ou F x (gD F x).l.dropLast) x r,⟨3,x,0,0,r.bO,r.bE,0⟩)
 |none=>match mC F.q.bs with
  |some (r,bs)=>some (fV {F with q:={F.q with bs:=bs}} x r,⟨4,x,0,0,r.bO,r.bE,0⟩)
  |none=>oA F x c
variable{x:Int}{d:DS}{r:Ref}
def R5{F:FS}(a:F.dq[x.toNat]?=some d)(a:d.l.getLast?=some r):
 nu F x c=some (fV {F with dq:=F.dq.set x.toNat {d with l:=d.l.dropLast}} x r,⟨3,x,0,0,r.bO,r.bE,0⟩):=by
 grind[nu,ou,gD]
def Q9{F:FS}{bs:List (List Ref)}(a:F.dq[x.toNat]?=some d)(h0:d.l=[])(a:mC F.q.bs=some (r,bs)):
 nu F x c=some (fV {F with q:={F.q with bs:=bs}} x r,⟨4,x,0,0,r.bO,r.bE,0⟩):=by
 grind[nu,gD]
def Gb{F:FS}(a:F.dq[x.toNat]?=some d)(h0:d.l=[])(a:mC F.q.bs=none):nu F x c=oA F x c:=by
 grind[nu,gD]
def NH{F:FS}(hi:i<F.ws.length)(hf:fF (iC F c) F.ws.length 0=fF (iC F c) (F.ws.length-i) i)(a:F.dq[(oE F c i).toNat]?=some d)(a:d.l.head?=some r):
 oA F x c=some ({fV {F with dq:=F.dq.set (oE F c i).toNat {d with l:=d.l.tail}} x r with st:={(fV {F with dq:=F.dq.set (oE F c i).toNat {d with l:=d.l.tail}} x r).st with fm:=(fV {F with dq:=F.dq.set (oE F c i).toNat {d with l:=d.l.tail}} x r).st.fm+1}},⟨5,x,oE F c i,0,r.bO,r.bE,0⟩):=by
 grind[iC,gD,getD_some,oE,oA,Bn,Ia,ou]
def If{F:FS}(hi:i<F.ws.length)(hf:fF (iC F c) F.ws.length 0=fF (iC F c) (F.ws.length-i) i)(a:F.dq[(oE F c i).toNat]?=some d)(h0:d.l=[]):
 fF (iC F c) F.ws.length 0=fF (iC F c) (F.ws.length-(i+1)) (i+1):=by
 grind[zA,iC,gD,getD_some]
def KB{F:FS}(hi:F.ws.length<=i)(hf:fF (iC F c) F.ws.length 0=fF (iC F c) (F.ws.length-i) i):oA F x c=none:=by
 grind[oA,BQ]
def cY(l:List JS):List (Bool×Nat):=l.map λj=>(j.dm,j.aN.length)
def ix(S:List (Bool×Nat))(r:Ref):Prop:=0<=r.bO/\r.bO<64/\0<=r.bE/\∃n,S[r.bO.toNat]?=some (true,n)/\r.bE<((n:Nat):Int)
structure x9(K:Int)(j:JS):Prop where
 n:j.aN.length<=4096
 b:j.dm=true->su j.B K/\j.B.aX.length=j.aN.length/\0<=j.cC/\j.cC<4
 r:j.bg=true->j.dm=true
structure WOk(S:List (Bool×Nat))(K:Int)(v:kt):Prop where
 h:0<=v.aw/\v.aw<64
 r:0<=v.row/\v.row<=K
 t:v.bH=1\/v.bH=2\/v.bH=3->ix S ⟨v.aw,v.an⟩
structure FW(F:FS)(K:Int):Prop where
 n:1<=F.ws.length/\F.ws.length<=64
 al:F.ar.length=F.ws.length
 dl:F.dq.length=F.ws.length
 jl:F.aD.length=64
 k:0<=K/\K<=4096
 j:∀j∈F.aD,x9 K j
 w:∀v∈F.ws,WOk (cY F.aD) K v
 d:∀d∈F.dq,∀r∈d.l,ix (cY F.aD) r
 q:∀l∈F.q.bs,∀r∈l,ix (cY F.aD) r
structure nw(s:De)(K:Int):Prop where
 a:0<=s.ew/\s.ew<=K
 b:0<=s.dw/\s.dw<=K
 c:0<=s.ap/\s.ap<=K
 d:0<=s.dz/\s.dz<=K
 e:0<=s.fm/\s.fm<=K
 f:0<=s.gX/\s.gX<=K
 g:0<=s.fy/\s.fy<=4096*K
variable{s:De}
def nw.mono{K L:Int}(h:nw s K)(i:K<=L):nw s L:=by
 let⟨a,b,c,d,e,f,g⟩:=h;constructor<;>omega
variable{K:Int}
def FW.bO{F:FS}(h:FW F K)(c:ix (cY F.aD) r):∃j,F.aD[r.bO.toNat]?=some j/\j.dm=true/\su j.B K/\j.B.aX.length=j.aN.length/\0<=j.cC/\j.cC<4/\j.aN.length<=4096/\r.bE<(j.aN.length:Int):=by
 let⟨_,_,_,n,b,a⟩:=c;unfold cY at b;rw[acE] at b;cases hj:F.aD[r.bO.toNat]? with
 |none=>rw[hj] at b;cases b
 |some j=>
  rw[hj] at b;let⟨ha,a⟩:=adn (ace b);let⟨h1,c,b,a⟩:=(h.j j (ab8 hj)).b ha;exact⟨j,rfl,ha,h1,c,b,a,(h.j j (ab8 hj)).n,by omega⟩
def FW.mono{F:FS}{K L:Int}(h:FW F K)(b:K<=L)(a:L<=4096):FW F L:=
 ⟨h.n,h.al,h.dl,h.jl,⟨by let:=h.k;omega,a⟩,λj a=>⟨(h.j j a).n,λha=>⟨((h.j j a).b ha).1.mono b,((h.j j a).b ha).2⟩,(h.j j a).r⟩,λv a=>⟨(h.w v a).h,by let:=(h.w v a).r;omega,(h.w v a).t⟩,h.d,h.q⟩
variable{k:Nat}
def rF{α:Type}{P:α->Prop}{l:List α}{x:α}(h:∀y∈l,P y)(hx:P x):∀y∈l.set k x,P y:=by
 grind
def FW.sd{F:FS}(h:FW F K)(a:∀r∈d.l,ix (cY F.aD) r):FW {F with dq:=F.dq.set k d} K:=
 ⟨h.n,h.al,by simp only[acz];exact h.dl,h.jl,h.k,h.j,h.w,rF h.d a,h.q⟩
variable{q:QS}
def FW.sq{F:FS}(h:FW F K)(a:∀l∈q.bs,∀r∈l,ix (cY F.aD) r):FW {F with q:=q} K:=
 ⟨h.n,h.al,h.dl,h.jl,h.k,h.j,h.w,h.d,a⟩
def FW.sa{F:FS}(h:FW F K){a:AS}:FW {F with ar:=F.ar.set k a} K:=
 ⟨h.n,by simp only[acz];exact h.al,h.dl,h.jl,h.k,h.j,h.w,h.d,h.q⟩
def FW.sw{F:FS}(h:FW F K){v:kt}(a:WOk (cY F.aD) K v):FW {F with ws:=F.ws.set k v} K:=
 ⟨by simp only[acz];exact h.n,by simp only[acz];exact h.al,by simp only[acz];exact h.dl,h.jl,h.k,h.j,rF h.w a,h.d,h.q⟩
def FW.ss{F:FS}(h:FW F K):FW {F with st:=s} K:=⟨h.n,h.al,h.dl,h.jl,h.k,h.j,h.w,h.d,h.q⟩
variable{j j':JS}
def lI{l:List JS}(a:l[k]?=some j)(ha:j'.dm=j.dm)(a:j'.aN.length=j.aN.length):cY (l.set k j')=cY l:=by
 grind[cY,List.map_set,c7]
def FW.sj{F:FS}(h:FW F K)(c:F.aD[k]?=some j)(ha:j'.dm=j.dm)(a:j'.aN.length=j.aN.length)(b:x9 K j'):FW {F with aD:=F.aD.set k j'} K:=by
 let e:=lI c ha a;refine⟨h.n,h.al,h.dl,?_,h.k,rF h.j b,?_,?_,?_⟩
 ·simp only[acz];exact h.jl
 ·show ∀v∈F.ws,WOk (cY (F.aD.set k j')) K v;rw[e];exact h.w
 ·show ∀d∈F.dq,∀r∈d.l,ix (cY (F.aD.set k j')) r;rw[e];exact h.d
 ·show ∀l∈F.q.bs,∀r∈l,ix (cY (F.aD.set k j')) r;rw[e];exact h.q
def y8:∀{bs bs':List (List Ref)} {r:Ref},mC bs=some (r,bs')->(∃l∈bs,r∈l)/\∀l∈bs',∃m∈bs,∀y∈l,y∈m
 |[],_,_,h=>kv
 |[]::t,bs',r,h=>by
  unfold mC at h;cases hp:mC t with
  |none=>rw[hp] at h;cases h
  |some q=>
   rw[hp] at h;obtain⟨rfl,rfl⟩:=adn (ace h);let⟨⟨l,b,a⟩,d⟩:=y8 (r:=q.1) (bs':=q.2) hp;refine⟨⟨l,ac7 _ b,a⟩,?_⟩;intro l b;rcases acw.1 b with rfl|b
   ·exact⟨[],acT,λy hy=>hy⟩
   ·let⟨m,c,a⟩:=d l b;exact⟨m,ac7 _ c,a⟩
 |(x::l)::t,bs',r,h=>by
  unfold mC at h;obtain⟨rfl,rfl⟩:=adn (ace h);refine⟨⟨_,acT,acT⟩,?_⟩;intro m c;rcases acw.1 c with rfl|c
  ·exact⟨_,acT,λy hy=>ac7 _ hy⟩
  grind
def Bo{P:Ref->Prop}(d:P r):∀{bs:List (List Ref)} {b:Nat},(∀l∈bs,∀y∈l,P y)->∀l∈ru bs b r,∀y∈l,P y
 |[],_,h=>λl c=>by cases c
 |l::t,0,h=>by
  intro m a y hy;rcases acw.1 a with rfl|a
  ·rcases acn.1 hy with hy|hy
   ·exact h l acT y hy
   ·rw[ack.1 hy];exact d
  grind
 |l::t,b+1,h=>by
  intro m a y hy;rcases acw.1 a with rfl|a
  ·exact h m acT y hy
  ·exact Bo d (bs:=t) (b:=b) (λl c=>h l (ac7 _ c)) m a y hy
variable{b:Int}
def oS{P:Ref->Prop}{S:QS}(a:P r)(h:∀l∈S.bs,∀y∈l,P y):∀l∈(gk S r b).bs,∀y∈l,P y:=by
 unfold gk;split
 ·exact Bo a h
 ·exact h
def BB{P:Ref->Prop}{S:DS}(a:P r)(h:∀y∈S.l,P y):∀y∈(nG S r).l,P y:=by
 grind[nG]
def getD_or{α:Type}[Inhabited α](l:List α)(k:Nat):l.getD k default∈l\/l.getD k default=default:=by
 grind
def FW.dr{F:FS}(h:FW F K)(x:Int):∀r∈(gD F x).l,ix (cY F.aD) r:=by
 unfold gD;rcases getD_or F.dq x.toNat with h1|h1
 ·exact h.d _ h1
 ·rw[h1];intro r a;cases a
def FW.pop{F:FS}(h:FW F K)(x:Int)(b:∀r∈l,r∈(gD F x).l):FW (ou F x l) K:=h.sd (d:={gD F x with l:=l}) λr a=>h.dr x r (b r a)
def HY{i:Int}:(eT B i).1.aX=B.aX:=by
 grind[eT]
def Qo{i:Int}:(jR B i a).aX=B.aX:=by unfold jR;split<;>rfl
def rm{i:Int}:(fG B i a).1.aX=B.aX:=by unfold fG;split<;>rfl
def Ha{i:Int}(h:t∈(fG B i a).2):0<=t/\t<(B.aX.length:Int):=by
 unfold fG at h;split at h
 ·exact(by unfold Df at h;grind)
 ·cases h
def FW.take{F:FS}(h:FW F K)(b:ix (cY F.aD) r):FW (fV F x r) K:=by
 obtain⟨j,c,ha,f,g,l,i,d,a⟩:=h.bO b;have e:dE F r.bO=j:=getD_some c;have h1:=h.sw (k:=x.toNat) (v:=⟨1,r.bO,r.bE,(eT j.B r.bE).2.1,0,0,(F.ar.getD x.toNat default).high⟩) ⟨⟨b.1,b.2.1⟩,⟨ac2 0,h.k.1⟩,λ_=>b⟩;have b:=h1.sj (k:=r.bO.toNat) (j:=j) (j':={j with B:=(eT j.B r.bE).1}) c Z Z ⟨d,λ_=>⟨Of f,by rw[HY];exact g,l,i⟩,λ_=>ha⟩;have a:=b.ss (s:={F.st with ew:=F.st.ew+1});unfold fV;simp_all
def tC{F:FS}(b:ix (cY F.aD) r):cY (fV F x r).aD=cY F.aD:=by
 obtain⟨h1,a,_,n,a,_⟩:=b;unfold cY at a;rw[acE] at a;cases hj:F.aD[r.bO.toNat]? with
 |none=>rw[hj] at a;cases a
 |some j=>
  have e:dE F r.bO=j:=getD_some hj;show cY (F.aD.set r.bO.toNat {dE F r.bO with B:=_})=_;exact lI (j:=j) hj (by rw[e]) (by rw[e])
def nw.take{F:FS}(h:nw F.st K):nw (fV F x r).st (K+1):=by
 let⟨a,b,c,d,e,f,g⟩:=h;constructor<;>(simp only[fV];omega)
def X5{F F':FS}{ev:oC}(h:FW F K)(hs:nw F.st K)(he:nu F x c=some (F',ev)):FW F' K/\nw F'.st (K+1)/\cY F'.aD=cY F.aD:=by
 unfold nu at he;split at he
 ·exact(by rename_i r hr;obtain⟨rfl,_⟩:=adn (ace he);let hm:=h.dr x r (List.mem_of_getLast? hr);exact⟨(h.pop x λy hy=>(List.dropLast_sublist _).subset hy).take hm,nw.take (F:=ou F x (gD F x).l.dropLast) hs,tC (F:=ou F x (gD F x).l.dropLast) hm⟩)
 ·split at he
  ·exact(by rename_i r bs hq;obtain⟨rfl,_⟩:=adn (ace he);let⟨⟨l,hl,hr⟩,h2⟩:=y8 hq;let hm:=h.q l hl r hr;refine⟨(h.sq (q:={F.q with bs:=bs}) λl hl y hy=>?_).take hm,nw.take (F:={F with q:={F.q with bs:=bs}}) hs,tC (F:={F with q:={F.q with bs:=bs}}) hm⟩;let⟨m,a0,h3⟩:=h2 l hl;exact h.q m a0 y (h3 y hy))
  ·unfold oA at he;split at he
   ·cases he
   ·rename_i i hi;split at he
    ·cases he
    ·rename_i r hr;obtain⟨rfl,_⟩:=adn (ace he);let hm:=h.dr (oE F c i) r (List.mem_of_head? hr);refine⟨((h.pop (oE F c i) λy hy=>List.mem_of_mem_tail hy).take (x:=x) hm).ss,?_,tC (F:=ou F (oE F c i) (gD F (oE F c i)).l.tail) (x:=x) hm⟩;let⟨a,b,c,d,e,f,g⟩:=hs;constructor<;>(simp only[Ia,fV,ou];omega)
def yz{K x bO cC:Int}:∀(l:aR) {F:FS},FW F K->(∀t∈l,ix (cY F.aD) ⟨bO,t⟩)->
 FW (gi F x bO cC l) K/\(gi F x bO cC l).aD=F.aD/\(gi F x bO cC l).ws=F.ws/\(gi F x bO cC l).ar=F.ar/\∃n:Nat,n<=l.length/\(gi F x bO cC l).st={F.st with fy:=F.st.fy+n}
 |[],F,h,_=>⟨h,rfl,rfl,rfl,0,acS _,by simp[gi]⟩
 |t::l,F,h,a=>by
  have h0:=a t acT
  have h1:FW (gb F x ⟨bO,t⟩ cC) K/\(gb F x ⟨bO,t⟩ cC).aD=F.aD/\(gb F x ⟨bO,t⟩ cC).ws=F.ws/\(gb F x ⟨bO,t⟩ cC).ar=F.ar/\∃n:Nat,n<=1/\(gb F x ⟨bO,t⟩ cC).st={F.st with fy:=F.st.fy+n}:=by
   unfold gb;split
   ·exact⟨h.sd (BB h0 (h.dr x)),rfl,rfl,rfl,0,Y,by simp⟩
   ·exact⟨(h.sq (oS h0 h.q)).ss,rfl,rfl,rfl,1,Y,rfl⟩
  obtain⟨f,g,hw,ha,n,a,a⟩:=h1;obtain⟨c,b,d,e,m,a,a⟩:=yz l f wS;exact⟨c,b.trans g,d.trans hw,e.trans ha,n+m,by grind,(by grind[gi,gb])⟩
theorem EP{F:FS}{v:kt}(h:FW F K)(c:K+1<=4096)(d:F.ws[x.toNat]?=some v)(hh:v.bH=1\/v.bH=2\/v.bH=3):
 FW (dn F x).1 (K+1)/\(∃a b:Nat,a<=1/\b<=4096/\(dn F x).1.st={F.st with dw:=F.st.dw+a,fy:=F.st.fy+b})/\cY (dn F x).1.aD=cY F.aD:=by
 have hw:=h.w v (ab8 d);have g:=h.mono (L:=K+1) Y c;have w:=hw.t hh;obtain⟨j,r,ha,l,o,q,p,f,c⟩:=h.bO w;have r:F.aD[v.aw.toNat]?=some j:=r;have e:dE F v.aw=j:=getD_some r;have c:=hw.r;have u:=hw.h;unfold dn;simp only[getD_some d,e];split
 ·exact⟨(g.sa.sw ⟨u,by dsimp only;omega,λ_=>w⟩),⟨0,0,Y,Y,by simp⟩,rfl⟩
 ·split
  ·exact⟨g.sw ⟨u,by dsimp only;omega,λ_=>w⟩,⟨0,0,Y,Y,by simp⟩,rfl⟩
  ·have c:x9 (K+1) {j with B:=(fG j.B v.an v.aC).1}:=⟨f,λ_=>⟨(yW l).mono Y,by rw[rm];exact o,q,p⟩,λ_=>ha⟩;have y:x9 (K+1) {j with B:=(fG j.B v.an v.aC).1,bg:=false}:=⟨f,λ_=>⟨(yW l).mono Y,by rw[rm];exact o,q,p⟩,λh=>kv⟩;have d:=(((g.sj (k:=v.aw.toNat) (j':={j with B:=(fG j.B v.an v.aC).1}) r Z Z c).sa (k:=x.toNat) (a:=tv (F.ar.getD x.toNat default))).sw (k:=x.toNat) (v:=⟨0,0,0,0,0,0,(tv (F.ar.getD x.toNat default)).high⟩) ⟨⟨ac2 0,show(0:Int)<64 by decide⟩,⟨ac2 0,by dsimp only;omega⟩,λh=>ft⟩).ss (s:={F.st with dw:=F.st.dw+1});have f:=lI (j':={j with B:=(fG j.B v.an v.aC).1}) r Z Z
   obtain⟨l,c,c,c,n,c,g⟩:=yz (x:=x) (bO:=v.aw) (cC:=j.cC) (fG j.B v.an v.aC).2 d (by
    intro t h0;have d:=Ha h0;dsimp only;rw[f];obtain⟨_,_,_,m,c,_⟩:=w;refine⟨u.1,u.2,d.1,m,c,?_⟩
    grind[cY])
   have hc:=Cz (B:=j.B) (i:=v.an) (a:=v.aC);split
   ·exact⟨(by have c:=l.sj (k:=v.aw.toNat) (j:={j with B:=(fG j.B v.an v.aC).1}) (j':={j with B:=(fG j.B v.an v.aC).1,bg:=false}) (by grind) Z Z y;simp_all),⟨1,n,Y,Y,g⟩,lI r Z Z⟩
   ·exact⟨l,⟨1,n,Y,Y,g⟩,by simp_all⟩
theorem Oi{F:FS}{a b:Nat}(j:nw F.st K)(h1:a<=1)(i:b<=4096)(h:s={F.st with dw:=F.st.dw+a,fy:=F.st.fy+b}):nw s (K+1):=by
 rw[h];let⟨a,b,c,d,e,f,g⟩:=j;constructor<;>(dsimp only;omega)
def nP(F:FS)(x:Int):kt:=F.ws.getD x.toNat default
def p9(F:FS)(x:Int):AS:=F.ar.getD x.toNat default
def ot(F:FS)(x ph:Int)(s:De):FS:={F with ar:=F.ar.set x.toNat (ga (p9 F x)),ws:=F.ws.set x.toNat ⟨ph,0,0,0,0,0,(p9 F x).high⟩,st:=s}
def yB(F:FS)(x:Int):FS:=ot F x 0 {F.st with ap:=F.st.ap+1}
def iM(F:FS)(v:kt):Bool:=decide (v.bH=1\/v.bH=2\/v.bH=3)&&(dE F v.aw).bg
def gG(F:FS)(x c:Int)(i:Nat):Bool:=decide (oE F c i≠x)&&iM F (nP F (oE F c i))
def kJ(F:FS):FS:={F with st:={F.st with gX:=F.st.gX+1}}
def q8(F:FS)(x c:Int):FS×List oC×Int:=
 match nu F x c with
 |some q=>(q.1,[q.2],0)
 |none=>match fF (gG F x c) F.ws.length 0 with
  |some i=>((dn (kJ F) (oE F c i)).1,[⟨12,x,oE F c i,0,0,0,0⟩,(dn (kJ F) (oE F c i)).2],0)
  |none=>(F,[ZI 13 x],0)
def dv(F:FS)(x c:Int):FS×List oC×Int:=
 if ¬(0<=x/\x<((F.ws.length:Nat):Int)) then(F,[],16)
 else if(nP F x).bH=4 then(F,[],20)
 else if(nP F x).bH=1\/(nP F x).bH=2\/(nP F x).bH=3 then
  if(dE F (nP F x).aw).bg=true then((dn F x).1,[(dn F x).2],0)
  else(yB F x,[⟨9,x,0,0,(nP F x).aw,(nP F x).an,0⟩],0)
 else q8 F x c
def Rt{F:FS}(ha:nu F x c=none)(hi:i<F.ws.length)(hf:fF (gG F x c) F.ws.length 0=fF (gG F x c) (F.ws.length-i) i)(hp:gG F x c i=true):
 q8 F x c=((dn (kJ F) (oE F c i)).1,[⟨12,x,oE F c i,0,0,0,0⟩,(dn (kJ F) (oE F c i)).2],0):=by
 grind[q8,Bn]
def A9{F:FS}(hi:i<F.ws.length)(hf:fF (gG F x c) F.ws.length 0=fF (gG F x c) (F.ws.length-i) i)(hp:gG F x c i=false):
 fF (gG F x c) F.ws.length 0=fF (gG F x c) (F.ws.length-(i+1)) (i+1):=by grind[zA]
def OJ{F:FS}(ha:nu F x c=none)(hi:F.ws.length<=i)(hf:fF (gG F x c) F.ws.length 0=fF (gG F x c) (F.ws.length-i) i):q8 F x c=(F,[ZI 13 x],0):=by
 grind[q8,BQ]
def FW.clear{F:FS}(h:FW F K)(hp:b=0\/b=4):FW (ot F x b s) K:=
 ((h.sa (k:=x.toNat) (a:=ga (p9 F x))).sw (k:=x.toNat) (v:=⟨b,0,0,0,0,0,(p9 F x).high⟩) ⟨⟨ac2 0,show(0:Int)<64 by decide⟩,⟨ac2 0,h.k.1⟩,λh=>by dsimp only at h;omega⟩).ss
def FW.sL{F:FS}(h:FW F K)(hx:0<=x/\x<(F.ws.length:Int)):F.ws[x.toNat]?=some (nP F x):=by
 grind[nP]
def vP{F:FS}(a:1<=F.ws.length):0<=oE F c i/\oE F c i<(F.ws.length:Int):=K7 (by omega) (by omega)
def pU{p:Nat->Bool}:∀{n i k:Nat},fF p n i=some k->i<=k/\k<i+n/\p k=true
 |0,_,_,h=>kv
 |n+1,i,k,h=>by
  unfold fF at h;split at h
  ·rename_i hp;obtain rfl:=ace h;exact⟨acS _,by omega,hp⟩
  ·let:=pU h;exact⟨by omega,by omega,this.2.2⟩
def S3{F:FS}(h:FW F K)(hs:nw F.st K)(hK:K+1<=4096):FW (dv F x c).1 (K+1)/\nw (dv F x c).1.st (K+1)/\cY (dv F x c).1.aD=cY F.aD:=by
 let hm:=h.mono (L:=K+1) Y hK;let a0:=hs.mono (L:=K+1) Y;unfold dv;split
 ·exact⟨hm,a0,rfl⟩
 ·rename_i hx;let hx:=adg.1 hx;let hv:=h.sL hx;split
  ·exact⟨hm,a0,rfl⟩
  ·split
   ·rename_i hh;split
    ·exact(by grind[EP,Oi])
    ·refine⟨(hm.clear (.inl Z)),?_,rfl⟩;let⟨a,b,c,d,e,f,g⟩:=hs;constructor<;>(simp only[yB,ot];omega)
   ·unfold q8;split
    ·exact(by rename_i q hq;let⟨h1,h2,h3⟩:=X5 h hs hq;exact⟨h1.mono Y hK,h2,h3⟩)
    ·split
     ·rename_i i hi;let h2:=(pU hi).2.2;unfold gG at h2;let⟨h3,h4⟩:=(ach _ _).mp h2;unfold iM at h4;let⟨h5,h6⟩:=(ach _ _).mp h4;let hb:=vP (F:=F) (c:=c) (i:=i) h.n.1;let hF:FW (kJ F) K:=h.ss;let⟨g1,⟨a,b,ha,hb,g2⟩,g3⟩:=EP (x:=oE F c i) hF hK (h.sL hb) (acy h5);refine⟨g1,?_,g3⟩;dsimp only;rw[g2];let⟨_,_,_,_,_,_,_⟩:=hs;exact Qy
     ·exact⟨hm,a0,rfl⟩
def kj(F:FS)(v:kt):FS:=if iM F v=true then{F with aD:=F.aD.set v.aw.toNat {dE F v.aw with B:=jR (dE F v.aw).B v.an v.aC},q:=gk F.q ⟨v.aw,v.an⟩ (dE F v.aw).cC} else F
def wz(aD:List JS)(q:QS)(r:Ref):QS:=gk q r (aD.getD r.bO.toNat default).cC
def iX(aD:List JS)(q:QS)(l:List Ref):QS:=l.foldl (wz aD) q
variable{aD:List JS}
def zq(h:l[i]?=some r):iX aD q (l.take (i+1))=wz aD (iX aD q (l.take i)) r:=by
 unfold iX;exact J5
def pH(F:FS)(x:Int):FS:=
 let F1:=ou F x []
 ot {F1 with q:=iX F1.aD F1.q (gD F x).l} x 4 {F.st with dz:=F.st.dz+1}
def eG(F:FS)(x:Int):FS×List oC×Int:=
 if ¬(0<=x/\x<((F.ws.length:Nat):Int)) then(F,[],16)
 else if(nP F x).bH=4 then(F,[],20)
 else(pH (kj F (nP F x)) x,[⟨10,x,0,0,(nP F x).aw,(nP F x).an,0⟩],0)
def dH(F:FS)(x:Int):FS×List oC×Int:=
 if ¬(0<=x/\x<((F.ws.length:Nat):Int)) then(F,[],16)
 else if(nP F x).bH=4 then(Ee F x 0,[ZI 11 x],0)
 else(F,[],20)
def QZ(k:Int)(d:DS):DS:={d with l:=bw k d.l}
def nV(F:FS)(k:Int):FS:={F with aD:=F.aD.set k.toNat {dE F k with bg:=false},q:={F.q with bs:=F.q.bs.map (bw k)},dq:=F.dq.map (QZ k)}
def cL(F:FS)(k:Int):FS×List oC×Int:=
 if ¬(0<=k/\k<64)\/(dE F k).dm=false then(F,[],16)
 else if(dE F k).bg=false then(F,[],18)
 else(nV F k,[⟨2,0,0,k,0,0,0⟩],0)
def AY{P:Ref->Prop}:∀(l:List Ref) {q:QS},(∀r∈l,P r)->(∀m∈q.bs,∀y∈m,P y)->∀m∈(iX aD q l).bs,∀y∈m,P y
 |[],_,_,h=>h
 |r::l,q,a,h=>AY l (q:=wz aD q r) (λy hy=>a y (ac7 _ hy)) (oS (a r acT) h)
def FW.ret{F:FS}{v:kt}(h:FW F K)(hK:K+1<=4096)(hv:v∈F.ws):FW (kj F v) (K+1)/\cY (kj F v).aD=cY F.aD/\(kj F v).ws=F.ws/\(kj F v).ar=F.ar/\(kj F v).dq=F.dq/\(kj F v).st=F.st:=by
 let hm:=h.mono (L:=K+1) Y hK;unfold kj;split
 ·rename_i hb;unfold iM at hb;let⟨h5,h6⟩:=(ach _ _).mp hb;let hr:=(h.w v hv).t (acy h5);let⟨j,hj,ha,hB,hd,b0,c0,hn,ht⟩:=h.bO hr;let e:dE F v.aw=j:=getD_some hj;rw[e];let hO:x9 (K+1) {j with B:=jR j.B v.an v.aC}:=⟨hn,λ_=>⟨W9 hB,by rw[Qo];exact hd,b0,c0⟩,λ_=>ha⟩;let a0:=lI (j':={j with B:=jR j.B v.an v.aC}) hj Z Z;let h1:=hm.sj (j':={j with B:=jR j.B v.an v.aC}) hj Z Z hO
  let h2:=h1.sq (q:=gk F.q ⟨v.aw,v.an⟩ j.cC) (by
   show ∀l∈_,∀r∈l,ix (cY (F.aD.set v.aw.toNat _)) r;rw[a0];exact oS hr h.q)
  exact⟨h2,a0,rfl,rfl,rfl,rfl⟩
 simp_all
def FW.Fx{F:FS}(h:FW F K):FW (pH F x) K:=
 ((h.pop x (l:=[]) (λr a=>by cases a)).sq (AY _ (h.dr x) h.q)).clear (.inr Z)
def MR{F:FS}(h:FW F K)(hs:nw F.st K)(hK:K+1<=4096):FW (eG F x).1 (K+1)/\nw (eG F x).1.st (K+1)/\cY (eG F x).1.aD=cY F.aD:=by
 let hm:=h.mono (L:=K+1) Y hK;let a0:=hs.mono (L:=K+1) Y;unfold eG;split
 ·exact⟨hm,a0,rfl⟩
 ·rename_i hx;let hv:=h.sL (adg.1 hx);split
  ·exact⟨hm,a0,rfl⟩
  ·let⟨h1,h2,h3,h4,h5,h6⟩:=h.ret hK (ab8 hv);refine⟨h1.Fx,?_,h2⟩;show nw {(kj F (nP F x)).st with dz:=(kj F (nP F x)).st.dz+1} (K+1);rw[h6];let⟨_,_,_,_,_,_,_⟩:=hs;constructor<;>(dsimp only;omega)
def Hu{F:FS}(h:FW F K)(c:nw F.st K)(b:K+1<=4096):FW (dH F x).1 (K+1)/\nw (dH F x).1.st (K+1)/\cY (dH F x).1.aD=cY F.aD:=by
 let a:=h.mono (L:=K+1) (by omega) b;let b:=c.mono (L:=K+1) (by omega);unfold dH;split
 ·exact⟨a,b,rfl⟩
 ·split
  ·exact⟨a.sw ⟨⟨ac2 0,show(0:Int)<64 by decide⟩,⟨ac2 0,a.k.1⟩,λh=>ft⟩,b,rfl⟩
  ·exact⟨a,b,rfl⟩
def Le{F:FS}{k:Int}(h:FW F K)(hs:nw F.st K)(hK:K+1<=4096):FW (cL F k).1 (K+1)/\nw (cL F k).1.st (K+1)/\cY (cL F k).1.aD=cY F.aD:=by
 let hm:=h.mono (L:=K+1) Y hK;let hs':=hs.mono (L:=K+1) Y;unfold cL;split
 ·exact⟨hm,hs',rfl⟩
 ·rename_i hk;split
  ·exact⟨hm,hs',rfl⟩
  ·let hj:F.aD[k.toNat]?=some (dE F k):=by
    unfold dE;let h1:k.toNat<F.aD.length:=by rw[h.jl];omega
    simp_all
   let hO:=hm.j _ (ab8 hj);let h1:=hm.sj (j':={dE F k with bg:=false}) hj Z Z ⟨hO.n,hO.b,λh=>kv⟩;let hsh:=lI (j':={dE F k with bg:=false}) hj Z Z;let hsub:∀(l:List Ref) (y:Ref),y∈bw k l->y∈l:=λl y hy=>(aen.1 hy).1
   let h2:=h1.sq (q:={F.q with bs:=F.q.bs.map (bw k)}) (by
    intro l hl r hr;obtain⟨m,hm2,rfl⟩:=acG.1 hl;show ix (cY (F.aD.set k.toNat _)) r;rw[hsh];exact h.q m hm2 r (hsub m r hr))
   refine⟨⟨h2.n,h2.al,by simp only[acf,nV];exact h2.dl,h2.jl,h2.k,h2.j,h2.w,?_,h2.q⟩,hs',hsh⟩;intro d hd r hr;obtain⟨m,hm2,rfl⟩:=acG.1 hd;show ix (cY (F.aD.set k.toNat _)) r;rw[hsh];exact h.d m hm2 r (hsub m.l r hr)
def Qi{F:FS}(h:¬(0<=x/\x<(F.ws.length:Int))):dv F x c=(F,[],16):=by unfold dv;simp_all
def LM{F:FS}{v:kt}(h:0<=x/\x<(F.ws.length:Int))(a:F.ws[x.toNat]?=some v)(a:v.bH=4):dv F x c=(F,[],20):=by
 grind[dv,nP]
def HL{F:FS}{v:kt}(h:0<=x/\x<(F.ws.length:Int))(a:F.ws[x.toNat]?=some v)(hh:v.bH=1\/v.bH=2\/v.bH=3)(a:F.aD[v.aw.toNat]?=some j)(a:j.bg=true):dv F x c=((dn F x).1,[(dn F x).2],0):=by
 grind[dv,nP,dE]
def step_drop{F:FS}{v:kt}(h:0<=x/\x<(F.ws.length:Int))(a:F.ws[x.toNat]?=some v)(hh:v.bH=1\/v.bH=2\/v.bH=3)(a:F.aD[v.aw.toNat]?=some j)(a:¬j.bg=true):dv F x c=(yB F x,[⟨9,x,0,0,v.aw,v.an,0⟩],0):=by
 grind[dv,nP,dE]
def vR{F:FS}{v:kt}(h:0<=x/\x<(F.ws.length:Int))(a:F.ws[x.toNat]?=some v)(a:¬v.bH=4)(hh:¬(v.bH=1\/v.bH=2\/v.bH=3)):dv F x c=q8 F x c:=by
 grind[dv,nP]
def Py{F a:FS}{ev:oC}(h:nu F x c=some (a,ev)):q8 F x c=(a,[ev],0):=by unfold q8;simp_all
theorem AQ(a:aD[k]?=some j):iX (aD.set k {j with B:=B}) q l=iX aD q l:=by
 let h:wz (aD.set k {j with B:=B})=wz aD:=by
  grind[wz]
 unfold iX;rw[h]
def Mw{F:FS}(h:¬(0<=x/\x<(F.ws.length:Int))):eG F x=(F,[],16):=by unfold eG;simp_all
def Hb{F:FS}{v:kt}(h:0<=x/\x<(F.ws.length:Int))(a:F.ws[x.toNat]?=some v)(a:v.bH=4):eG F x=(F,[],20):=by
 grind[eG,nP]
def FB{F:FS}{v:kt}(h:0<=x/\x<(F.ws.length:Int))(a:F.ws[x.toNat]?=some v)(a:¬v.bH=4):eG F x=(pH (kj F v) x,[⟨10,x,0,0,v.aw,v.an,0⟩],0):=by
 grind[eG,nP]
def Ir{F:FS}{v:kt}{a:AS}(h:0<=x/\x<(F.ws.length:Int))(c:F.ws[x.toNat]?=some v)(hh:v.bH=1\/v.bH=2\/v.bH=3)
 (f:F.aD[v.aw.toNat]?=some j) (b:j.bg=true) (b:F.dq[x.toNat]?=some d) (ha:F.ar[x.toNat]?=some a):eG F x=
 (⟨F.cc,F.ws.set x.toNat ⟨4,0,0,0,0,0,a.high⟩,F.ar.set x.toNat (ga a),F.dq.set x.toNat {d with l:=[]},iX F.aD (gk F.q ⟨v.aw,v.an⟩ j.cC) d.l,F.aD.set v.aw.toNat {j with B:=jR j.B v.an v.aC},{F.st with dz:=F.st.dz+1}⟩,[⟨10,x,0,0,v.aw,v.an,0⟩],0):=by
 rw[FB h c Y];let e:dE F v.aw=j:=getD_some f;let b:iM F v=true:=by grind[iM]
 let b:kj F v={F with aD:=F.aD.set v.aw.toNat {j with B:=jR j.B v.an v.aC},q:=gk F.q ⟨v.aw,v.an⟩ j.cC}:=by unfold kj;simp_all
 grind[default,getD_some,pH,ot,ou,gD,p9,AQ]
def Ie{F:FS}{v:kt}{a:AS}(h:0<=x/\x<(F.ws.length:Int))(e:F.ws[x.toNat]?=some v)(c:¬v.bH=4)(b:iM F v=false)
 (b:F.dq[x.toNat]?=some d) (ha:F.ar[x.toNat]?=some a):eG F x=
 (⟨F.cc,F.ws.set x.toNat ⟨4,0,0,0,0,0,a.high⟩,F.ar.set x.toNat (ga a),F.dq.set x.toNat {d with l:=[]},iX F.aD F.q d.l,F.aD,{F.st with dz:=F.st.dz+1}⟩,[⟨10,x,0,0,v.aw,v.an,0⟩],0):=by
 rw[FB h e c]
 grind[kj,default,pH,ot,ou,gD,p9]
def S7{l b:List DS}{k:Int}{s:DS}(h:b=(l.take i).map (QZ k)++l.drop i)(a:b[i]?=some s):b.set i {s with l:=bw k s.l}=(l.take (i+1)).map (QZ k)++l.drop (i+1):=by
 let a:b.length=l.length:=by rw[h];simp;omega
 let a:i<l.length:=by grind
 let h1:l.drop i=l[i]::l.drop (i+1):=ad0 a
 grind[QZ]
def GS{F:FS}{k:Int}(h:0<=k/\k<64)(a:F.aD[k.toNat]?=some j)(ha:j.dm=true)(a:¬j.bg=true):cL F k=(F,[],18):=by
 grind[cL,dE]
def Kr{F:FS}{k:Int}(h:0<=k/\k<64)(a:F.aD[k.toNat]?=some j)(ha:j.dm=true)(a:j.bg=true):cL F k=(⟨F.cc,F.ws,F.ar,F.dq.map (QZ k),{F.q with bs:=F.q.bs.map (bw k)},F.aD.set k.toNat {j with bg:=false},F.st⟩,[⟨2,0,0,k,0,0,0⟩],0):=by
 grind[cL,nV,dE]
def eH(c:mi):Int:=if(1<=c.dL/\c.dL<=64)/\(1<=c.dh/\c.dh<=64)/\(1<=c.dg/\c.dg<=64)/\(0<=c.eY/\c.eY<=1048576)/\(1<=c.gQ/\c.gQ<=256)/\(1<=c.aN/\c.aN<=4096)/\(1<=c.cells/\c.cells<=1048576)/\(1<=c.aD/\c.aD<=64) then 0 else 2
def lX{c:mi}(h:eH c=0):(1<=c.dL/\c.dL<=64)/\(1<=c.dh/\c.dh<=64)/\(1<=c.dg/\c.dg<=64)/\(0<=c.eY/\c.eY<=1048576)/\(1<=c.gQ/\c.gQ<=256)/\(1<=c.aN/\c.aN<=4096)/\(1<=c.cells/\c.cells<=1048576)/\(1<=c.aD/\c.aD<=64):=by
 simp_all[eH]
def ma(c:mi):FS:=⟨c,List.replicate c.dL.toNat ⟨0,0,0,0,0,0,0⟩,List.replicate c.dL.toNat ⟨c.eY,0,0,[]⟩,List.replicate c.dL.toNat ⟨c.gQ,[]⟩,⟨c.aN,[[],[],[],[]]⟩,List.replicate 64 JS.zero,⟨0,0,0,0,0,0,0,0,0,0⟩⟩
def ti{α:Type}{a x:α}(h:(List.replicate n a)[i]?=some x):x=a:=by
 grind
def S2{c:mi}(h:eH c=0):FW (ma c) 0/\nw (ma c).st 0:=by
 let⟨h1,_⟩:=lX h;refine⟨⟨?_,?_,?_,?_,⟨by decide,by decide⟩,?_,?_,?_,?_⟩,?_⟩
 ·simp only[ma,adI];omega
 ·exact OG
 ·exact OG
 ·exact OG
 ·exact(by intro j a;obtain rfl:=acK a;exact⟨by simp[JS.zero],(λh=>kv),(λh=>kv)⟩)
 ·exact(by intro v a;obtain rfl:=acK a;exact⟨⟨ac2 0,show(0:Int)<64 by decide⟩,⟨ac2 0,ac2 0⟩,λh=>ft⟩)
 ·exact(by intro d a;obtain rfl:=acK a;simp_all)
 ·exact(by grind[ma])
 ·constructor<;>(simp only[ma];decide)
def lG(x bd:Int)(q:QS)(l:aR):QS:=l.foldl (λq t=>gk q ⟨x,t⟩ bd) q
def Il{l:aR}(h:l[i]?=some t):lG x a q (l.take (i+1))=gk (lG x a q (l.take i)) ⟨x,t⟩ a:=by
 unfold lG;exact J5
def uQ(l:List Task)(bd:Int):JS:=⟨true,true,bd,l.map Task.v,jw l⟩
def vK(F:FS)(x:Int)(l:List Task)(bd:Int):FS:={F with aD:=F.aD.set x.toNat (uQ l bd),q:=lG x bd F.q (idxOf 2 0 (jw l).st)}
def AH{P:Ref->Prop}:∀(l:aR) {q:QS},(∀t∈l,P ⟨x,t⟩)->(∀m∈q.bs,∀y∈m,P y)->∀m∈(lG x b q l).bs,∀y∈m,P y
 |[],_,_,h=>h
 |t::l,q,a,h=>AH l (q:=gk q ⟨x,t⟩ b) (λy hy=>a y (ac7 _ hy)) (oS (a t acT) h)
def Jo{y:Int}:∀{s:aR} {k:Nat} {z:Int},z∈idxOf y k s->(k:Int)<=z/\z<((k+s.length:Nat):Int)
 |[],_,_,h=>kv
 |x::s,k,z,h=>by
  unfold idxOf at h;rcases acn.1 h with h|h
  ·split at h
   ·rw[ack.1 h];exact JH
   ·cases h
  ·exact(by let:=Jo h;grind)
def Lu{l:List JS}(a:∀j,l[k]?=some j->j.dm=false)(h:ix (cY l) r):ix (cY (l.set k j')) r:=by
 obtain⟨h1,c,b,n,a,a⟩:=h;refine⟨h1,c,b,n,?_,a⟩
 grind[cY]
def Wo{F:FS}{f:Int}{l:List Task}(h:FW F K)(hx:0<=x/\x<64)(i:∀j,F.aD[x.toNat]?=some j->j.dm=false)(b:0<=f/\f<4)(c:im l=0):FW (vK F x l f) K:=by
 have a:=NR c;have hz:=jI c;have g:x9 K (uQ l f):=⟨by grind[uQ],λ_=>⟨a.mono h.k.1,by simp[uQ,jw],b⟩,λ_=>rfl⟩;have e:∀r,ix (cY F.aD) r->ix (cY (F.aD.set x.toNat (uQ l f))) r:=λr b=>Lu i b;refine⟨h.n,h.al,h.dl,by simp only[vK,acz];exact h.jl,h.k,rF h.j g,?_,?_,?_⟩
 ·intro v c;have:=h.w v c;exact⟨this.h,this.r,λk=>e _ (this.t k)⟩
 ·intro d a r b;exact e _ (h.d d a r b)
 ·refine AH _ ?_ (λm a y hy=>e _ (h.q m a y hy));intro t a;have h1:=Jo a;have a:(jw l).st.length=l.length:=by simp[jw]
  refine⟨hx.1,hx.2,by simp_all,l.length,?_,by simp_all⟩;show((F.aD.set x.toNat (uQ l f)).map (λj=>(j.dm,j.aN.length)))[x.toNat]?=_;have a:x.toNat<F.aD.length:=by rw[h.jl];omega
  rw[acE,acV,aca Z,aca a];simp[uQ]
end
end Go.Proofs.YtmfebppagcejcaaGreat
