import Derived.Test.YtmfebppagcejcaaGreatMWYXDAGQ1CkQ
set_option linter.all false
namespace Go.Proofs.YtmfebppagcejcaaGreat
open Go Go.E Go.Proofs.Tryz
set_option maxRecDepth 100000
set_option maxHeartbeats 2000000
variable{W w:World}{H:af}{F:cj}
def dT(z:Int):Prop:=-4611686018427387904<=z/\z<=4611686018427387904
def nb{z:Int}(h:dT z:=by unfold dT;first|omega|(dsimp only;omega)):dT z:=h
def xb(t:bL):Prop:=dT t.first/\t.ad.l.length<=9/\∀z∈t.ad.l,dT z
def mem_set{α:Type}{P:α->Prop}{l:List α}{i:Nat}{x:α}(h:∀z∈l,P z)(hx:P x):∀z∈l.set i x,P z:=by
 grind
def Gm{α:Type}{l:List α}{i:Nat}{x y:α}(h:(l.set i x)[i]?=some y):y=x:=by
 grind
def tZ{a b A:Int}(ha:0<=a/\a<=A)(c:0<b):0<=a.tdiv b/\a.tdiv b<=A:=by
 rw[acv ha.1];refine⟨aee ha.1 (by omega),aeA (ae0 _ ha.1) ha.2⟩
def jY{α:Type}{P:α->Prop}{l:List α}{x:α}(h:∀z∈l,P z)(hx:P x):∀z∈l++[x],P z:=by
 grind
def KZ(F:cj)(l:Int)(f:cf)(nx d:Nat)(x:aR)(hx:bl ca 1 [H] f nx d x)(c:0<=l/\l<=16384)(hp:∀z∈x,1<=z/\z<=16384)(h0:1<=nx/\nx<=200)(j:X W w (H::F)):
 Calls prog 203 #[I l,.slice f nx d] w λe g=>∃(f:cf) (c d:Nat) (G:af) (zs:aR),e=.returned (.slice f c d)/\bl ca 1 [G] f c d zs/\(zs.length=nx/\∀z∈zs,dT z)/\X W g (G::H::F):=by
 have c:=hx.ll;refine aq 96 func203 Z<|Q 17<|bF [0,1] (γ:=Nat×Int) (λ⟨i,s⟩ R=>⟨[(6,I i),(5,I s)],R,nx-i,i<=nx/\((i:Int)<=s/\s<=16384*(i:Int))⟩) (0,0) ⟨j,Y,Y⟩ ?_;rintro⟨i,s⟩ V _⟨j,v,c⟩;refine Q 9<|cD ((i:Int)<nx) (λm=>Q 8<|kQ hx i λf _ _ d g=>(by have c:=hp f (ab8 d);have c:=el (a:=l) (b:=f) (A:=16384) (B:=16384) Y Y;exact eB j (g.up 0 Z) 0 (I f)<|aU s f<|JO 6<|aU (i:Int) 1<|bX 2 Z<|⟨(i+1,(s+f)),od,bR,j,Y,Y⟩)) λm=>Q 5<|eQ j 0 [0,1,5] (γ:=cf×af×cf×af) (λ⟨p,q,r,t⟩ R=>⟨[(7,.slice p nx nx),(8,.slice r nx nx)],q::t::R,0,aF ca 3 1 p nx nx (List.replicate nx 0) q/\aF ca 3 1 r nx nx (List.replicate nx 0) t⟩) ?_ ?_
 ·refine kA j [2,5] fn (pS [0,1,3,4]<| .fk 2 5 (pS [6]<| .ef 5<|pS [7]<| .fin) (.ef 2<|pS [6,7]<| .fin)) λ_ o=>qV 4<|qF ?_ ?_;rotate_left
  ·exact qO Z<|gC (kl:=.i64) (kc:=.i64) (enc:=ca) (sz:=1) (nb:=8) o 0 nx (nx:Int) (rfl:(nx:Int)=nx) underlying22 (i:=Tryz.t3) kr fR λm j _ n h1=>nA<|qO Z<|gC (kl:=.i64) (kc:=.i64) (enc:=ca) (sz:=1) (nb:=8) h1 0 nx (nx:Int) (rfl:(nx:Int)=nx) underlying22 (i:=Tryz.t3) kr fR λd c _ g f=>nA<|qV 2<|qN<|mI 0 Z<|⟨((At d 0),c,(At m 0),j),bR,f,g,n⟩
  exact qO Z<|gC (kl:=.i64) (kc:=.i64) (enc:=ca) (sz:=1) (nb:=8) o 0 nx (nx:Int) (rfl:(nx:Int)=nx) underlying22 (i:=Tryz.t3) kr fR λm j _ n c=>nA<|qV 1<|qO Z<|gC (kl:=.i64) (kc:=.i64) (enc:=ca) (sz:=1) (nb:=8) c 0 nx (nx:Int) (rfl:(nx:Int)=nx) underlying22 (i:=Tryz.t3) kr fR λf d _ g c=>nA<|qV 1<|qN<|mI 0 Z<|⟨((At m 0),j,(At f 0),d),bR,(c.pick 1 Z),n,g⟩
 rintro⟨p,q,r,t⟩ V _⟨c,f,d⟩;refine Q 13<|bF [0,1,5] (γ:=Nat×Int×aR×cf×Nat×Nat×af×aR×SO) (λ⟨i,C,zs,M,K,L,E,Oz,Qz,N,P,J⟩ R=>⟨[(10,I i),(9,I C),(7,.slice M K L),(8,.slice Qz N P)],E::J::R,nx-i,i<=nx/\(∀z∈zs,0<=z/\z<=268435456+0)/\(C<=l/\-(268435456*(i:Int))<=C)/\(zs.length=nx/\Oz.length=nx)/\aF ca 3 1 M K L zs E/\aF ca 3 1 Qz N P Oz J⟩) (0,l,(List.replicate nx 0),p,nx,nx,q,(List.replicate nx 0),r,nx,nx,t) ⟨c,Y,by intro z hz;have:=acK hz;omega,Y,by simp,f,d⟩ ?_;rintro⟨i,C,zs,M,K,L,E,Oz,Qz,N,P,J⟩ V _⟨T,v,S,c,B1,y,D⟩;have U:=y.len;have e:=y.le;have Xz:=D.len;have L0:=D.le;refine Q 9<|cD ((i:Int)<nx) (λc=>?_) (λc=>?_)
 ·refine Q 5 ?_;obtain⟨j,c,c,c,d,m⟩:=bl.eN hx i;have R0:=hp j (ab8 c);have c:=el (a:=l) (b:=j) (A:=16384) (B:=16384) Y Y;have c:=tZ (a:=l*j) (b:=s) (A:=268435456) Y Y;obtain⟨f,c,c,g,c,n,o⟩:=aF.eN y i;have c:=S f (ab8 g);obtain⟨t,c,c,v,c,p,q⟩:=aF.eN D i;refine bJ T [21,23] (fq 8 0 (d.up 2 Z)<|fq 16 0 (d.up 2 Z)<|fn) [0,1,2,3,4,5,6,7,10,12,13,14,15,18,8,9,11,16,17,19,20,21,22,23] λ_ c=>wV 7<|wI m<|wV 4<|wI m<|wV 1<|wL 0<|vz l j<|RW (l*j) s<|wL 1<|vz l j<|WW (l*j) s<|wI n<|wO Z<|fj c y o 0 i 0 f ((l*j).tdiv s) g (I ((l*j).tdiv s)) [I ((l*j).tdiv s)] sizeOf3 λ_ r o c=>nA<|wI p<|wO Z<|fj c D q 1 i 0 t ((l*j).tmod s) v (I ((l*j).tmod s)) [I ((l*j).tmod s)] sizeOf3 λ_ n p m=>nA<|wN<|JX 5<|i9 o (i:Int) i λg _ _ d f _=>have c:=Gm d;eB m (f.up 0 Z) 0 (I g)<|dP C g<|JO 6<|aU (i:Int) 1<|bX 2 Z ?_;exact⟨(i+1,(C-g),(zs.set i ((l*j).tdiv s)),M,K,L,r,(Oz.set i ((l*j).tmod s)),Qz,N,P,n),od,bR,m,Y,mem_set S (by first|omega|(refine⟨?_,?_⟩<;>omega)),Y,by simp;omega,o,p⟩
 refine Q 7<|bF [] (γ:=Nat×Int×aR×cf×Nat×Nat×af×aR×SO) (λ⟨u,C,zs,M,K,L,E,Oz,Qz,N,P,J⟩ R=>⟨[(9,I C),(7,.slice M K L),(8,.slice Qz N P)],E::J::R,16384-u,u<=16384/\(∀z∈zs,0<=z/\z<=268435456+(u:Int))/\((u:Int)+C<=16384/\-(268435456*200)<=C)/\(zs.length=nx/\Oz.length=nx)/\aF ca 3 1 M K L zs E/\aF ca 3 1 Qz N P Oz J⟩) (0,C,zs,M,K,L,E,Oz,Qz,N,P,J) ⟨T,Y,by intro z hz;have:=S z hz;omega,Y,Y,y,D⟩ ?_;rintro⟨u,C,zs,M,K,L,E,Oz,Qz,N,P,J⟩ V _⟨d,c,S,c,B1,y,D⟩;have U:=y.len;have e:=y.le;have Xz:=D.len;have L0:=D.le;refine Q 7<|CD (C>0) (λc=>RC 12 [.slice M K L]<|⟨_,_,_,_,_,rfl,(y.dt (O:=[E]) 0 Z),⟨Y,λz hz=>by have h:=S z hz;unfold dT;omega⟩,(d.aj 1 Z)⟩) λc=>Q 16<|bF [9,7,8] (γ:=Nat×Int) (λ⟨k,l⟩ R=>⟨[(12,I k),(11,I l)],R,nx-k,k<=nx/\(0<=l/\l<(nx:Int))⟩) (1,0) ⟨d,Y,Y⟩ ?_;rintro⟨k,l⟩ V _⟨n,c,c⟩;refine Q 9<|cD ((k:Int)<N) (λo=>Q 5<|(by obtain⟨m,c,c,c,f,w0,c⟩:=aF.eN D k;obtain⟨j,c,c,c,d,g,c⟩:=aF.elem D l;exact bJ n [] (fq 3 0 (f.up 1 Z)<|fq 7 0 (d.up 1 Z)<|fn) [0,1,2,4,5,6,3,7,8] λ_ d=>wV 2<|wI w0<|wV 2<|wI g<|wL 0<|wL 1<|wV 1<|wN<|JX 1<|CD (m>j) (λc=>Q 5<|aU (k:Int) 1<|bX 2 Z<|⟨(k+1,l),od,bR,d,Y,Y⟩) λc=>Q 8<|aU (k:Int) 1<|bX 2 Z<|⟨(k+1,(k:Int)),od,bR,d,Y,Y⟩)) λo=>Q 9<|i9 y l l.toNat λj _ _ g d _=>have c:=S j (ab8 g);eB n (d.up 0 Z) 0 (I j)<|aU j 1<|i9 y l l.toNat λc _ _ d _ f=>?_;obtain rfl:j=c:=ace (g.symm.trans d);exact fj n y f 0 l.toNat 0 j (j+1) d (I (j+1)) [I (j+1)] sizeOf3 λ_ m n g=>JO 5<|i9 D l l.toNat λf _ _ d _ c=>fj g D c 1 l.toNat 0 f (-1) d (I (-1)) [I (-1)] sizeOf3 λ_ c f d=>JO 5<|dP C 1<|bX 2 Z<|⟨(u+1,(C-1),(zs.set ((l).toNat) (j+1)),M,K,L,m,(Oz.set ((l).toNat) (-1)),Qz,N,P,c),od,bR,d,Y,mem_set (λz hz=>by have:=S z hz;omega) Y,Y,by simp;omega,n,f⟩
def yo{x d A:Int}(hx:-A<=x/\x<=A):-A<=x.tdiv d/\x.tdiv d<=A:=by
 let h:(x.tdiv d).natAbs<=x.natAbs:=by rw[Int.natAbs_tdiv];exact Nat.div_le_self _ _
 omega
def HE{k m:Int}(b:0<=k)(a:1<=m):k<=k*m:=by
 let:=ad4 a b;omega
def LJ(F:cj)(n0 g sh:Int)(o:X W w (H::F)):
 Calls prog 143 #[I n0,I g,I sh] w λe n=>∃(m:cf) (j l:Nat) (zs:List bL) (f:Int) (c G:af),e=.returned (.tuple #[.slice m j l,I f])/\aF ff 247 2 m j l zs c/\(∀z∈zs,bL.Ok [G] z)/\((zs.length:Int)<=max g 0/\∀z∈zs,xb z)/\X W n (G::c::H::F):=by
 refine aq 80 func143 Z<|Q 10<|cS (rT n0 o.ao) λ_ j=>cG<|zD 18 ((1:Int)<=n0/\n0<=(128:Int)) (λh0=>RO 15 [nS,I 8]<|(by let f:X W _ ([]::[]::H::F):=X.bU (X.bU j);exact VN)) λh0=>bf<|gY<|cS (rT g j.ao) λ_ m=>JO 4<|pk ((1:Int)<=g/\g<=(128:Int)) (λj=>RC 8 [nS,I 8]<|WD) λj=>Q 8<|sD 25 (sh<0) (λj=>RO 14 [nS,I 2]<|WD) λj=>JO 5<|cD (sh>14) (λj=>RC 8 [nS,I 2]<|WD) λj=>Q 14 ?_;refine bF [0,1,2] (γ:=Nat×(List bL)×cf×Nat×Nat×af×af) (λ⟨i,zs,l,r,j,f,q⟩ R=>⟨[(9,I i),(8,.slice l r j)],q::f::R,g.toNat-i,i<=g.toNat/\(∀z∈zs,xb z)/\(zs.length=i)/\aF ff 247 2 l r j zs f/\(∀z∈zs,bL.Ok [q] z)⟩) (0,[],none,0,0,[],[]) ⟨(X.bU (X.bU m)),Y,pG,by rfl,(aF.nil (enc:=ff) (E:=247) (sz:=2) fR),pG⟩ ?_;rintro⟨i,zs,l,r,j,f,q⟩ V _⟨t,f,D,f,s,J⟩;let f:=s.ll;refine Q 8<|CD ((i:Int)<g) (λf=>RC 13 [.slice l r j,I 0]<|⟨_,_,_,zs,_,_,_,rfl,s,J,⟨Y,D⟩,t⟩) λf=>Q 5<|let f:=el (a:=((2*(i:Int))+1)) (b:=n0) (A:=257) (B:=128) Y Y;Q 2<|ei 2 (i:Int)<|aU (2*(i:Int)) 1<|bf<|ei ((2*(i:Int))+1) n0<|bf<|dP (((2*(i:Int))+1)*n0) g<|bf<|ei 2 g<|JO 8<|mE ((((2*(i:Int))+1)*n0)-g) (2*g)<|JO 5<|let f:=aeb ((((2*(i:Int))+1)*n0)-g) (2*g);let f:=adv ((((2*(i:Int))+1)*n0)-g) (by omega:0<(2*g));let f:=adK ((((2*(i:Int))+1)*n0)-g) (by omega:0<(2*g));let f:=ac6 (((((2*(i:Int))+1)*n0)-g).tdiv (2*g)) (2*g);let f:=yo (x:=((((2*(i:Int))+1)*n0)-g)) (d:=(2*g)) (A:=65536) Y;let f:(((((2*(i:Int))+1)*n0)-g).tdiv (2*g)-1)*(2*g)=((((2*(i:Int))+1)*n0)-g).tdiv (2*g)*(2*g)-(2*g):=(by rw[Int.sub_mul,aes]);Q 3<|ei (((((2*(i:Int))+1)*n0)-g).tdiv (2*g)) (2*g)<|JO 4<|cD (((((((2*(i:Int))+1)*n0)-g).tdiv (2*g))*(2*g))>((((2*(i:Int))+1)*n0)-g)) (λf=>?_) (λf=>?_);rotate_left
 ·refine Q 5<|bh (.int .u64 sh) Z Z (fo (k:=.i64) (a:=sh) underlying3 underlying239 (ee _ Y) Z kr)<|bh (I (2^sh.toNat)) Z Z (vX (k':=.u64) sh Z kr kr Y)<|JO 4<|let y:=pu sh.toNat;let v:=rZ (a:=sh.toNat) (b:=14) Y;let C:=rV (a:=(2*(((((2*(i:Int))+1)*n0)-g)-((((((2*(i:Int))+1)*n0)-g).tdiv (2*g))*(2*g))))) (b:=(2^sh.toNat)) (A:=2048) (B:=16384) Y Y;let u:=yo (x:=(((2*(((((2*(i:Int))+1)*n0)-g)-((((((2*(i:Int))+1)*n0)-g).tdiv (2*g))*(2*g))))*(2^sh.toNat))+(2*g))) (d:=(2*(2*g))) (A:=67108864) Y;Q 4<|ei (((((2*(i:Int))+1)*n0)-g).tdiv (2*g)) (2*g)<|dP ((((2*(i:Int))+1)*n0)-g) ((((((2*(i:Int))+1)*n0)-g).tdiv (2*g))*(2*g))<|ei 2 (((((2*(i:Int))+1)*n0)-g)-((((((2*(i:Int))+1)*n0)-g).tdiv (2*g))*(2*g)))<|bf<|ei (2*(((((2*(i:Int))+1)*n0)-g)-((((((2*(i:Int))+1)*n0)-g).tdiv (2*g))*(2*g)))) (2^sh.toNat)<|bf<|aU ((2*(((((2*(i:Int))+1)*n0)-g)-((((((2*(i:Int))+1)*n0)-g).tdiv (2*g))*(2*g))))*(2^sh.toNat)) (2*g)<|bf<|ei 2 (2*g)<|mE (((2*(((((2*(i:Int))+1)*n0)-g)-((((((2*(i:Int))+1)*n0)-g).tdiv (2*g))*(2*g))))*(2^sh.toNat))+(2*g)) (2*(2*g))<|JO 8<|dP (2^sh.toNat) ((((2*(((((2*(i:Int))+1)*n0)-g)-((((((2*(i:Int))+1)*n0)-g).tdiv (2*g))*(2*g))))*(2^sh.toNat))+(2*g)).tdiv (2*(2*g)))<|bf<|ec t #[I ((2^sh.toNat)-((((2*(((((2*(i:Int))+1)*n0)-g)-((((((2*(i:Int))+1)*n0)-g).tdiv (2*g))*(2*g))))*(2^sh.toNat))+(2*g)).tdiv (2*(2*g)))),I ((((2*(((((2*(i:Int))+1)*n0)-g)-((((((2*(i:Int))+1)*n0)-g).tdiv (2*g))*(2*g))))*(2^sh.toNat))+(2*g)).tdiv (2*(2*g)))] 3 λm _ w0=>bf<|ec w0 #[I (((((2*(i:Int))+1)*n0)-g).tdiv (2*g)),.slice (At m 0) 2 2] 247 λ_ _ f=>?_;refine dM (nb:=32) f s 3 (bl.dO (enc:=ff) (sz:=2) (xs:=[(⟨(((((2*(i:Int))+1)*n0)-g).tdiv (2*g)),⟨(At m 0),2,2,[((2^sh.toNat)-((((2*(((((2*(i:Int))+1)*n0)-g)-((((((2*(i:Int))+1)*n0)-g).tdiv (2*g))*(2*g))))*(2^sh.toNat))+(2*g)).tdiv (2*(2*g)))),((((2*(((((2*(i:Int))+1)*n0)-g)-((((((2*(i:Int))+1)*n0)-g).tdiv (2*g))*(2*g))))*(2^sh.toNat))+(2*g)).tdiv (2*(2*g)))]⟩⟩:bL)]) fR 1 0 Z Z Z Y) underlying112 (i:=Tryz.t247) kr fR λn o l _ p f=>JO 6<|aU (i:Int) 1<|bX 2 Z ?_;let j:=(f.aj 0 Z);let f:=(X.perm (cs':=((aW m #[I ((2^sh.toNat)-((((2*(((((2*(i:Int))+1)*n0)-g)-((((((2*(i:Int))+1)*n0)-g).tdiv (2*g))*(2*g))))*(2^sh.toNat))+(2*g)).tdiv (2*(2*g)))),I ((((2*(((((2*(i:Int))+1)*n0)-g)-((((((2*(i:Int))+1)*n0)-g).tdiv (2*g))*(2*g))))*(2^sh.toNat))+(2*g)).tdiv (2*(2*g)))] 3)++q)::(l::H::F)) j (by simp))
  exact⟨(i+1,(zs++[(⟨(((((2*(i:Int))+1)*n0)-g).tdiv (2*g)),⟨(At m 0),2,2,[((2^sh.toNat)-((((2*(((((2*(i:Int))+1)*n0)-g)-((((((2*(i:Int))+1)*n0)-g).tdiv (2*g))*(2*g))))*(2^sh.toNat))+(2*g)).tdiv (2*(2*g)))),((((2*(((((2*(i:Int))+1)*n0)-g)-((((((2*(i:Int))+1)*n0)-g).tdiv (2*g))*(2*g))))*(2^sh.toNat))+(2*g)).tdiv (2*(2*g)))]⟩⟩:bL)]),n,(r+1),o,l,((aW m #[I ((2^sh.toNat)-((((2*(((((2*(i:Int))+1)*n0)-g)-((((((2*(i:Int))+1)*n0)-g).tdiv (2*g))*(2*g))))*(2^sh.toNat))+(2*g)).tdiv (2*(2*g)))),I ((((2*(((((2*(i:Int))+1)*n0)-g)-((((((2*(i:Int))+1)*n0)-g).tdiv (2*g))*(2*g))))*(2^sh.toNat))+(2*g)).tdiv (2*(2*g)))] 3)++q)),od,bR,f,Y,jY D (show xb (⟨(((((2*(i:Int))+1)*n0)-g).tdiv (2*g)),⟨(At m 0),2,2,[((2^sh.toNat)-((((2*(((((2*(i:Int))+1)*n0)-g)-((((((2*(i:Int))+1)*n0)-g).tdiv (2*g))*(2*g))))*(2^sh.toNat))+(2*g)).tdiv (2*(2*g)))),((((2*(((((2*(i:Int))+1)*n0)-g)-((((((2*(i:Int))+1)*n0)-g).tdiv (2*g))*(2*g))))*(2^sh.toNat))+(2*g)).tdiv (2*(2*g)))]⟩⟩:bL) from⟨by unfold dT;dsimp only;omega,by simp,by intro z hz;simp only[acw,acW,adO] at hz;unfold dT;omega⟩),by simp;omega,p,(by
   intro z hz;rcases acn.1 hz with h|h
   ·exact(J z h).ag mS
   ·simp only[ack] at h;subst h;exact⟨(bl.dO (O:=[(aW m #[I ((2^sh.toNat)-((((2*(((((2*(i:Int))+1)*n0)-g)-((((((2*(i:Int))+1)*n0)-g).tdiv (2*g))*(2*g))))*(2^sh.toNat))+(2*g)).tdiv (2*(2*g)))),I ((((2*(((((2*(i:Int))+1)*n0)-g)-((((((2*(i:Int))+1)*n0)-g).tdiv (2*g))*(2*g))))*(2^sh.toNat))+(2*g)).tdiv (2*(2*g)))] 3)]) (enc:=ca) (sz:=1) (xs:=[((2^sh.toNat)-((((2*(((((2*(i:Int))+1)*n0)-g)-((((((2*(i:Int))+1)*n0)-g).tdiv (2*g))*(2*g))))*(2^sh.toNat))+(2*g)).tdiv (2*(2*g)))),((((2*(((((2*(i:Int))+1)*n0)-g)-((((((2*(i:Int))+1)*n0)-g).tdiv (2*g))*(2*g))))*(2^sh.toNat))+(2*g)).tdiv (2*(2*g)))]) fR 2 0 Z Z Z Y).ag mS⟩)⟩
 refine Q 2<|dP (((((2*(i:Int))+1)*n0)-g).tdiv (2*g)) 1<|JO 6<|bh (.int .u64 sh) Z Z (fo (k:=.i64) (a:=sh) underlying3 underlying239 (ee _ Y) Z kr)<|bh (I (2^sh.toNat)) Z Z (vX (k':=.u64) sh Z kr kr Y)<|JO 4<|let y:=pu sh.toNat;let v:=rZ (a:=sh.toNat) (b:=14) Y;let C:=rV (a:=(2*(((((2*(i:Int))+1)*n0)-g)-(((((((2*(i:Int))+1)*n0)-g).tdiv (2*g))-1)*(2*g))))) (b:=(2^sh.toNat)) (A:=2048) (B:=16384) Y Y;let u:=yo (x:=(((2*(((((2*(i:Int))+1)*n0)-g)-(((((((2*(i:Int))+1)*n0)-g).tdiv (2*g))-1)*(2*g))))*(2^sh.toNat))+(2*g))) (d:=(2*(2*g))) (A:=67108864) Y;Q 4<|ei ((((((2*(i:Int))+1)*n0)-g).tdiv (2*g))-1) (2*g)<|dP ((((2*(i:Int))+1)*n0)-g) (((((((2*(i:Int))+1)*n0)-g).tdiv (2*g))-1)*(2*g))<|ei 2 (((((2*(i:Int))+1)*n0)-g)-(((((((2*(i:Int))+1)*n0)-g).tdiv (2*g))-1)*(2*g)))<|bf<|ei (2*(((((2*(i:Int))+1)*n0)-g)-(((((((2*(i:Int))+1)*n0)-g).tdiv (2*g))-1)*(2*g)))) (2^sh.toNat)<|bf<|aU ((2*(((((2*(i:Int))+1)*n0)-g)-(((((((2*(i:Int))+1)*n0)-g).tdiv (2*g))-1)*(2*g))))*(2^sh.toNat)) (2*g)<|bf<|ei 2 (2*g)<|mE (((2*(((((2*(i:Int))+1)*n0)-g)-(((((((2*(i:Int))+1)*n0)-g).tdiv (2*g))-1)*(2*g))))*(2^sh.toNat))+(2*g)) (2*(2*g))<|JO 8<|dP (2^sh.toNat) ((((2*(((((2*(i:Int))+1)*n0)-g)-(((((((2*(i:Int))+1)*n0)-g).tdiv (2*g))-1)*(2*g))))*(2^sh.toNat))+(2*g)).tdiv (2*(2*g)))<|bf<|ec t #[I ((2^sh.toNat)-((((2*(((((2*(i:Int))+1)*n0)-g)-(((((((2*(i:Int))+1)*n0)-g).tdiv (2*g))-1)*(2*g))))*(2^sh.toNat))+(2*g)).tdiv (2*(2*g)))),I ((((2*(((((2*(i:Int))+1)*n0)-g)-(((((((2*(i:Int))+1)*n0)-g).tdiv (2*g))-1)*(2*g))))*(2^sh.toNat))+(2*g)).tdiv (2*(2*g)))] 3 λm _ f=>bf<|ec f #[I ((((((2*(i:Int))+1)*n0)-g).tdiv (2*g))-1),.slice (At m 0) 2 2] 247 λ_ _ f=>?_;refine dM (nb:=32) f s 3 (bl.dO (enc:=ff) (sz:=2) (xs:=[(⟨((((((2*(i:Int))+1)*n0)-g).tdiv (2*g))-1),⟨(At m 0),2,2,[((2^sh.toNat)-((((2*(((((2*(i:Int))+1)*n0)-g)-(((((((2*(i:Int))+1)*n0)-g).tdiv (2*g))-1)*(2*g))))*(2^sh.toNat))+(2*g)).tdiv (2*(2*g)))),((((2*(((((2*(i:Int))+1)*n0)-g)-(((((((2*(i:Int))+1)*n0)-g).tdiv (2*g))-1)*(2*g))))*(2^sh.toNat))+(2*g)).tdiv (2*(2*g)))]⟩⟩:bL)]) fR 1 0 Z Z Z Y) underlying112 (i:=Tryz.t247) kr fR λn h1 l _ o f=>JO 6<|aU (i:Int) 1<|bX 2 Z ?_;let j:=(f.aj 0 Z);let f:=(X.perm (cs':=((aW m #[I ((2^sh.toNat)-((((2*(((((2*(i:Int))+1)*n0)-g)-(((((((2*(i:Int))+1)*n0)-g).tdiv (2*g))-1)*(2*g))))*(2^sh.toNat))+(2*g)).tdiv (2*(2*g)))),I ((((2*(((((2*(i:Int))+1)*n0)-g)-(((((((2*(i:Int))+1)*n0)-g).tdiv (2*g))-1)*(2*g))))*(2^sh.toNat))+(2*g)).tdiv (2*(2*g)))] 3)++q)::(l::H::F)) j (by simp))
 exact⟨(i+1,(zs++[(⟨((((((2*(i:Int))+1)*n0)-g).tdiv (2*g))-1),⟨(At m 0),2,2,[((2^sh.toNat)-((((2*(((((2*(i:Int))+1)*n0)-g)-(((((((2*(i:Int))+1)*n0)-g).tdiv (2*g))-1)*(2*g))))*(2^sh.toNat))+(2*g)).tdiv (2*(2*g)))),((((2*(((((2*(i:Int))+1)*n0)-g)-(((((((2*(i:Int))+1)*n0)-g).tdiv (2*g))-1)*(2*g))))*(2^sh.toNat))+(2*g)).tdiv (2*(2*g)))]⟩⟩:bL)]),n,(r+1),h1,l,((aW m #[I ((2^sh.toNat)-((((2*(((((2*(i:Int))+1)*n0)-g)-(((((((2*(i:Int))+1)*n0)-g).tdiv (2*g))-1)*(2*g))))*(2^sh.toNat))+(2*g)).tdiv (2*(2*g)))),I ((((2*(((((2*(i:Int))+1)*n0)-g)-(((((((2*(i:Int))+1)*n0)-g).tdiv (2*g))-1)*(2*g))))*(2^sh.toNat))+(2*g)).tdiv (2*(2*g)))] 3)++q)),od,bR,f,Y,jY D (show xb (⟨((((((2*(i:Int))+1)*n0)-g).tdiv (2*g))-1),⟨(At m 0),2,2,[((2^sh.toNat)-((((2*(((((2*(i:Int))+1)*n0)-g)-(((((((2*(i:Int))+1)*n0)-g).tdiv (2*g))-1)*(2*g))))*(2^sh.toNat))+(2*g)).tdiv (2*(2*g)))),((((2*(((((2*(i:Int))+1)*n0)-g)-(((((((2*(i:Int))+1)*n0)-g).tdiv (2*g))-1)*(2*g))))*(2^sh.toNat))+(2*g)).tdiv (2*(2*g)))]⟩⟩:bL) from⟨by unfold dT;dsimp only;omega,by simp,by intro z hz;simp only[acw,acW,adO] at hz;unfold dT;omega⟩),by simp;omega,o,(by
  intro z hz;rcases acn.1 hz with h|h
  ·exact(J z h).ag mS
  ·simp only[ack] at h;subst h;exact⟨(bl.dO (O:=[(aW m #[I ((2^sh.toNat)-((((2*(((((2*(i:Int))+1)*n0)-g)-(((((((2*(i:Int))+1)*n0)-g).tdiv (2*g))-1)*(2*g))))*(2^sh.toNat))+(2*g)).tdiv (2*(2*g)))),I ((((2*(((((2*(i:Int))+1)*n0)-g)-(((((((2*(i:Int))+1)*n0)-g).tdiv (2*g))-1)*(2*g))))*(2^sh.toNat))+(2*g)).tdiv (2*(2*g)))] 3)]) (enc:=ca) (sz:=1) (xs:=[((2^sh.toNat)-((((2*(((((2*(i:Int))+1)*n0)-g)-(((((((2*(i:Int))+1)*n0)-g).tdiv (2*g))-1)*(2*g))))*(2^sh.toNat))+(2*g)).tdiv (2*(2*g)))),((((2*(((((2*(i:Int))+1)*n0)-g)-(((((((2*(i:Int))+1)*n0)-g).tdiv (2*g))-1)*(2*g))))*(2^sh.toNat))+(2*g)).tdiv (2*(2*g)))]) fR 2 0 Z Z Z Y).ag mS⟩)⟩
def Wz(F:cj)(n0 q sh:Int)(n:X W w (H::F)):
 Calls prog 144 #[I n0,I q,I sh] w λe l=>∃(j:cf) (f g:Nat) (zs:List bL) (d:Int) (c G:af),e=.returned (.tuple #[.slice j f g,I d])/\aF ff 247 2 j f g zs c/\(∀z∈zs,bL.Ok [G] z)/\((zs.length:Int)<=max q 0/\∀z∈zs,xb z)/\X W l (G::c::H::F):=by
 refine aq 83 func144 Z<|Q 10<|cS (rT n0 n.ao) λ_ f=>cG<|zD 18 ((1:Int)<=n0/\n0<=(128:Int)) (λg=>RO 15 [nS,I 8]<|(by have d:X W _ ([]::[]::H::F):=X.bU (X.bU f);exact⟨none,0,0,[],_,[],[],rfl,aF.nil fR,(λz hz=>gO),⟨by simp;omega,(λz hz=>gO)⟩,d⟩)) λg=>bf<|gY<|cS (rT q f.ao) λ_ j=>JO 4<|pk ((1:Int)<=q/\q<=(128:Int)) (λf=>RC 8 [nS,I 8]<|Xi) λf=>Q 8<|sD 25 (sh<0) (λf=>RO 14 [nS,I 2]<|Xi) λf=>JO 5<|cD (sh>14) (λw0=>RC 8 [nS,I 2]<|Xi) λw0=>Q 14 ?_;refine bF [0,1,2] (γ:=Nat×(List bL)×cf×Nat×Nat×af×af) (λ⟨i,zs,g,y,f,d,C⟩ R=>⟨[(9,I i),(8,.slice g y f)],C::d::R,q.toNat-i,i<=q.toNat/\(∀z∈zs,xb z)/\(zs.length=i)/\aF ff 247 2 g y f zs d/\(∀z∈zs,bL.Ok [C] z)⟩) (0,[],none,0,0,[],[]) ⟨(X.bU (X.bU j)),Y,pG,by rfl,(aF.nil (enc:=ff) (E:=247) (sz:=2) fR),pG⟩ ?_;rintro⟨i,zs,g,y,f,d,C⟩ V _⟨h0,d,J,d,D,K⟩;have d:=D.ll;refine Q 8<|CD ((i:Int)<q) (λd=>RC 13 [.slice g y f,I 0]<|⟨_,_,_,zs,_,_,_,rfl,D,K,⟨Y,J⟩,h0⟩) λd=>Q 5<|have d:=el (a:=(i:Int)) (b:=n0) (A:=128) (B:=128) Y Y;have d:((i:Int)+1)*n0=(i:Int)*n0+n0:=(by rw[aeV,aes]);Q 3<|ei (i:Int) n0<|bf<|aU (i:Int) 1<|bf<|ei ((i:Int)+1) n0<|JO 8<|mE ((i:Int)*n0) q<|bf<|aI h0 zeroValue247 λ_ _ d=>bP d 0 Z [I (((i:Int)*n0).tdiv q),nS] λ_ g=>JO 3<|have d:=aeb ((i:Int)*n0) q;have d:=adv ((i:Int)*n0) (by omega:0<q);have d:=ae6 q (by omega:0<=((i:Int)*n0));have d:=ac6 (((i:Int)*n0).tdiv q) q;have d:=tZ (a:=((i:Int)*n0)) (b:=q) (A:=16384) Y Y;GC g 13 [0]<|bF [0,1,2,9,8,10,11,12] (γ:=Nat×Int×aR×SO) (λ⟨u,f,o,s,n,r,d⟩ R=>⟨[(14,I f),(13,.slice s n r)],d::R,20000-u,u<=20000/\(∀z∈o,1<=z/\z<=16384)/\((u:Int)+(((i:Int)*n0).tdiv q)=f/\((i:Int)*n0)<f*q+q/\f*q<=((i:Int)*n0)+n0+q/\(u=0->f*q<=((i:Int)*n0)))/\(o.length=u)/\aF ca 3 1 s n r o d⟩) (0,(((i:Int)*n0).tdiv q),[],none,0,0,[]) ⟨(X.bU g),Y,pG,Y,by rfl,(aF.nil (enc:=ca) (E:=3) (sz:=1) fR)⟩ ?_;rintro⟨u,f,o,s,n,r,d⟩ V _⟨v,d,x,d,d,p⟩;have d:=p.ll;refine Q 2<|have d:=HE (k:=f) (m:=q) Y Y;have d:(f+1)*q=f*q+q:=(by rw[aeV,aes]);Q 3<|ei f q<|JO 4<|cD ((f*q)<(((i:Int)+1)*n0)) (λt=>Q 8<|aU f 1<|bf<|ei (f+1) q<|bh (I (min (((i:Int)+1)*n0) ((f+1)*q))) Z Z (iY (((i:Int)+1)*n0) ((f+1)*q) Z Z kr kr)<|gw<|ei f q<|bh (I (max ((i:Int)*n0) (f*q))) Z Z (gV ((i:Int)*n0) (f*q) Z Z kr kr)<|dP (min (((i:Int)+1)*n0) ((f+1)*q)) (max ((i:Int)*n0) (f*q))<|ec v #[I ((min (((i:Int)+1)*n0) ((f+1)*q))-(max ((i:Int)*n0) (f*q)))] 3 λ_ _ d=>dM (nb:=8) d p 1 (bl.dO (enc:=ca) (sz:=1) (xs:=[((min (((i:Int)+1)*n0) ((f+1)*q))-(max ((i:Int)*n0) (f*q)))]) fR 1 0 Z Z Z Y) underlying22 (i:=Tryz.t3) kr fR λh1 j g _ l d=>JO 6<|aU f 1<|bX 2 Z<|⟨(u+1,(f+1),(o++[((min (((i:Int)+1)*n0) ((f+1)*q))-(max ((i:Int)*n0) (f*q)))]),h1,(n+1),j,g),od,bR,(d.aj 0 Z),Y,jY x Y,Y,by simp;omega,l⟩) λt=>Q 13<|cD ((n:Int)>8) (λg=>RC 13 [nS,I 9]<|(by have d:=(v.ap [0,0,0,0]);have f:X W _ ([]::[]::H::F):=X.bU (X.bU d);exact VN)) λg=>Q 3<|have d:=pu sh.toNat;have R0:=rZ (a:=sh.toNat) (b:=14) Y;Q 2<|bh (.int .u64 sh) Z Z (fo (k:=.i64) (a:=sh) underlying3 underlying239 (ee _ Y) Z kr)<|bh (I (2^sh.toNat)) Z Z (vX (k':=.u64) sh Z kr kr Y)<|bf<|cZ (KZ [] (2^sh.toNat) _ _ _ o (bl.ao (p.dt 0 (by rfl))) Y (λz hz=>by have:=x z hz;omega) Y v.ao) ?_;rintro _ _⟨p,o,n,t,r,rfl,x,v,d⟩;have f:=d.ak;clear d;refine bf<|sT f 2 1 (.slice p o n) [.slice p o n] #[I (((i:Int)*n0).tdiv q),.slice p o n] sizeOf22 λ_ d=>GO d 5 [202]<|ec d #[I (((i:Int)*n0).tdiv q),.slice p o n] 247 λ_ _ d=>dM (nb:=32) d D 5 (bl.dO (enc:=ff) (sz:=2) (xs:=[(⟨(((i:Int)*n0).tdiv q),⟨p,o,n,r⟩⟩:bL)]) fR 1 0 Z Z Z Y) underlying112 (i:=Tryz.t247) kr fR λg l f _ s d=>JO 6<|aU (i:Int) 1<|bX 2 Z ?_;have j:=(d.ap [0,1,1])
 exact⟨(i+1,(zs++[(⟨(((i:Int)*n0).tdiv q),⟨p,o,n,r⟩⟩:bL)]),g,(y+1),l,f,(t++C)),od,bR,(X.perm (cs':=(t++C)::(f::H::F)) j (by simp)),Y,jY J (show xb (⟨(((i:Int)*n0).tdiv q),⟨p,o,n,r⟩⟩:bL) from⟨by unfold dT;dsimp only;omega,by have:=v.1;dsimp only;omega,v.2⟩),by simp;omega,s,(by
  intro z hz;rcases acn.1 hz with h|h
  ·exact(K z h).ag mS
  ·simp only[ack] at h;subst h;exact⟨x.ag mS⟩)⟩
end Go.Proofs.YtmfebppagcejcaaGreat
namespace Go.E
section
variable{P:Program}{W w:World}{O:cj}{V:Env}{o:Oper}{ops:Array Oper}{rest:List Oper}{n:Nat}{N:Env->World->Prop}
def Xt(i:Int)(k:Nat){t E:TypeId}{x y:Operand}{m:Nat}{vs:fa}{v:Value}(a:∀w,(underlying t).run P w=.ok (.array m E) w)(a:∀w,(sizeOf E).run P w=.ok 1 w)(a:∀w,(isAgg E).run P w=.ok false w)(a:vs[k]?=some v)
 (h0:0<=i:=by omega) (h1:i<m:=by omega) (a:o.op=.index t x y:=by rfl) (hx:ev V x=.agg vs.toArray:=by kernel_rfl) (hy:ev V y=I i:=by kernel_rfl) (a:i.toNat=k:=by first|rfl|omega):Yields P V o v w:=by
 simp_all[Yields,execOp,Instr.index,part,asIntOf]
def Z6(i:Int)(k:Nat){t E:TypeId}{x y:Operand}{m:Nat}{vs:fa}{v:Value}(g:∀w,(underlying t).run P w=.ok (.array m E) w)(d:∀w,(sizeOf E).run P w=.ok 1 w)(c:∀w,(isAgg E).run P w=.ok false w)(f:vs[k]?=some v)
 (h:aZ P n ops rest N (put V o.dst v) w) (h0:0<=i:=by omega) (h1:i<m:=by omega) (e:o.op=.index t x y:=by rfl) (hg:o.guard=none:=by rfl) (b:cV n o.dst=true:=by rfl) (hx:ev V x=.agg vs.toArray:=by kernel_rfl) (hy:ev V y=I i:=by kernel_rfl) (a:i.toNat=k:=by first|rfl|omega):aZ P n ops (o::rest) N V w:=
 bh _ hg b (Xt i k g d c f h0 h1 e hx hy a) h
def Pp{E:TypeId}{b:Nat}{vs:fa}(i:Nat)(hi:O[i]?=some (iO b E [] vs [])):na O b 0 vs:=
 eC (c:=iO b E [] vs []) i hi (Dp (by simp))
def aaF(g:X W w O)(i:Nat){vs:fa}{t E:TypeId}{x:Operand}{b k:Nat}(f:vs.length=k)(d:(isAgg t).run P w=.ok true w)(a:(sizeOf t).run P w=.ok k w)(h:aZ P n ops rest N (put V o.dst (.agg vs.toArray)) w)
 (e:o.op=.load t x:=by rfl) (hg:o.guard=none:=by rfl) (c:cV n o.dst=true:=by rfl) (hx:ev V x=Pt b 0:=by kernel_rfl) (hi:O[i]?=some (iO b E [] vs []):=by rfl):aZ P n ops (o::rest) N V w:=
 bh _ hg c (xr e d a hx f g (Pp i hi)) h
def B8{c d:af}(e:c=d)(h:X W w (c::O)):X W w (d::O):=e▸h
def LF{α:Type}{enc:α->fa}{xs:List α}{n:Nat}(he:∀x,(enc x).length=1)(h:xs.length=n):(xs.flatMap enc).length=n:=by rw[eO (sz:=1) he,h,aeu]
def AP{α:Type}{f:α->Value}:∀xs:List α,(xs.flatMap λy=>[f y])=xs.map f
 |[]=>rfl
 |a::l=>by rw[ac8,AP l];rfl
def Qj{α:Type}{f:α->Value}{xs:List α}{k:Nat}{x:α}(h:xs[k]?=some x):(xs.flatMap λy=>[f y])[k]?=some (f x):=by
 rw[AP,acE,h];rfl
end
end Go.E
namespace Go.Proofs.YtmfebppagcejcaaGreat
open Go Go.E Go.Proofs.Tryz
set_option maxRecDepth 100000
set_option maxHeartbeats 2000000
section
variable{W w:World}{H:af}{F:cj}
structure dY where
 x0:Int
 y0:Int
 x1:Int
 y1:Int
 deriving DecidableEq
def ep(x:dY):fa:=[I x.x0,I x.y0,I x.x1,I x.y1]
def Mg(l:aR):Prop:=l.Pairwise (·<·)
def Aq(n:Int):aR->aR
 |[]=>[n]
 |x::l=>if n<x then n::x::l else if n=x then x::l else x::Aq n l
def yC(l:aR):aR:=l.foldl (λa n=>Aq n a) []
variable{n x:Int}
def yV:∀{l:aR},x∈Aq n l↔x=n\/x∈l
 |[]=>by simp[Aq]
 |y::l=>by
  simp only[Aq];split
  ·simp
  ·split
   ·rename_i h;subst h;simp
   ·simp only[acw,yV (l:=l)];constructor<;>(intro h;rcases h with h|h|h<;>simp[h])
def Ex:∀{l:aR},Mg l->Mg (Aq n l)
 |[],_=>by simp[Aq,Mg]
 |y::l,h=>by
  let h1:=ad9.1 h;simp only[Aq];split
  ·rename_i hn;refine ad9.2 ⟨?_,h⟩;intro z hz;rcases acw.1 hz with rfl|hz
   ·exact hn
   ·let:=h1.1 z hz;omega
  ·split
   ·exact h
   ·rename_i h2 h3;refine ad9.2 ⟨?_,Ex h1.2⟩;intro z hz;rcases yV.1 hz with rfl|hz
    ·omega
    ·exact h1.1 z hz
def IF:∀{a b:aR},Mg a->Mg b->(∀x,x∈a↔x∈b)->a=b
 |[],[],_,_,_=>rfl
 |[],y::b,_,_,h=>by have:=(h y).2 (by simp);simp_all
 |x::a,[],_,_,h=>by have:=(h x).1 (by simp);simp_all
 |x::a,y::b,ha,c,h=>by
  have g:=ad9.1 ha;have f:=ad9.1 c
  have d:x=y:=by
   rcases acw.1 ((h x).1 (by simp)) with e|e
   ·exact e
   ·rcases acw.1 ((h y).2 (by simp)) with c|c
    ·exact c.symm
    ·have:=g.1 y c;have:=f.1 x e;omega
  subst d;rw[IF g.2 f.2]
  grind
def FZ:∀(l:aR) {a:aR},Mg a->Mg (l.foldl (λa n=>Aq n a) a)
 |[],_,h=>h
 |_::l,_,h=>FZ l (Ex h)
theorem DM:∀(l a:aR),x∈l.foldl (λa n=>Aq n a) a↔x∈a\/x∈l
 |[],a=>by simp
 |n::l,a=>by
  rw[List.foldl_cons,DM l,yV,or_assoc,or_left_comm,acw]
def Bm(l:aR):Mg (yC l):=FZ l (by simp[Mg])
def vV{l:aR}:x∈yC l↔x∈l:=by grind[yC,DM]
def gJ(n:Nat):aR:=(List.range n).map λ(i:Nat)=>(i:Int)
theorem Bd(n:Nat):gJ (n+1)=gJ n++[(n:Int)]:=by grind[gJ,List.range_succ]
theorem jG(n:Nat):(gJ n).length=n:=by simp[gJ]
def uk{n:Nat}:x∈gJ n↔0<=x/\x<n:=by
 unfold gJ;simp only[acG,adW];constructor
 ·rintro⟨i,a,rfl⟩;omega
 ·intro h;exact⟨x.toNat,by omega,by omega⟩
def gK(n:Nat)(p:Int->Bool):(gJ (n+1)).filter p=(gJ n).filter p++(if p n=true then[(n:Int)] else[]):=by
 grind[Bd,List.filter]
def sQ{α:Type}(n:Nat)(f:Int->α):(gJ (n+1)).map f=(gJ n).map f++[f n]:=by rw[Bd,acB];rfl
def gE(a b:Int):Int:=if 0<=a/\1<=b then(if a%b=0 then a/b else a/b+1) else 0
def iD(w h tw th:Int):Prop:=(1<=w/\w<=128)/\(1<=h/\h<=128)/\(1<=tw/\tw<=64)/\1<=th/\th<=64
instance (w h tw th:Int):Decidable (iD w h tw th):=by unfold iD;infer_instance
def bI(w h tw th:Int):Int:=if iD w h tw th then gE w tw else 0
def eW(w h tw th:Int):Int:=if iD w h tw th then gE h th else 0
def gF(w h tw th i:Int):dY:=⟨i%bI w h tw th*tw,i/bI w h tw th*th,min (i%bI w h tw th*tw+tw) w,min (i/bI w h tw th*th+th) h⟩
def CS(w h tw th:Int):Nat:=(bI w h tw th*eW w h tw th).toNat
def dK(i n p:Int):Option Int:=
 if 1<=n/\n<=128 then
  (if p=0 then some (min (max i 0) (n-1))
  else if p=1 then some (if n<=i%(2*n) then 2*n-1-i%(2*n) else i%(2*n))
  else if p=2 then some (i%n)
  else if p=3/\0<=i/\i<n then some i else none)
 else none
def si(n:Int):Prop:=1<=n/\n<=9
instance (n:Int):Decidable (si n):=by unfold si;infer_instance
def xf(t:dW):Bool:=decide (t.ad.length<=8/\-128<=t.first/\t.first<=256)
def nt(s:bc):Prop:=dD s/\(s.aB=1->si s.kW/\si s.kH)/\(s.aB=2->si s.row.length/\si s.dG.length)/\(s.aB=3->s.x.all xf=true/\s.y.all xf=true)
instance (s:bc):Decidable (nt s):=by unfold nt;infer_instance
def pe(kd k size:Int)(t:List dW):Int:=if kd=1\/kd=2 then k-size/2 else if kd=3 then(match t[k.toNat]? with|some x=>x.first|none=>0) else k
def qv(kd k size:Int)(t:List dW):Int:=if kd=1\/kd=2 then size else if kd=3 then(match t[k.toNat]? with|some x=>(x.ad.length:Int)|none=>0) else 1
def lP(s:bc):Int:=if 3<s.aB then 3 else s.aS
def Qh(s:bc)(n k size:Int)(t:List dW)(m:Int):Bool:=(List.range (qv s.aB k size t).toNat).any λj=>decide (dK (pe s.aB k size t+j) n (lP s)=some m)
def wt(s:bc)(n a b size:Int)(t:List dW)(m:Int):Bool:=(List.range (b-a).toNat).any λj=>Qh s n (a+j) size t m
def W4(s:bc)(sz:Int)(t:List dW):Prop:=nt s->(¬(s.aB=1\/s.aB=2)\/(1<=sz/\sz<=9))/\(s.aB=3->t.all xf=true)
def Gf(s:bc)(n a size:Int)(t:List dW)(i:Nat)(m:Int):Bool:=(List.range i).any λj=>Qh s n (a+j) size t m
def DU(n a b:Int):Prop:=(1<=n/\n<=128)/\(0<=a/\a<=128)/\0<=b/\b<=128
instance (n a b:Int):Decidable (DU n a b):=by unfold DU;infer_instance
def pj(s:bc)(n a b size:Int)(t:List dW):aR:=if DU n a b/\nt s then(gJ n.toNat).filter (wt s n a b size t) else[]
def ol(s:bc)(w a b:Int):aR:=pj s w a b (if s.aB=2 then s.row.length else s.kW) s.x
def lZ(s:bc)(h a b:Int):aR:=pj s h a b (if s.aB=2 then s.dG.length else s.kH) s.y
def mm(l:aR)(a b:Int):Bool:=l.any λv=>decide (a<=v/\v<b)
def lz(s:bc)(w h tw th:Int)(r:dY):aR:=
 (gJ (CS w h tw th)).filter λi=>mm (ol s w r.x0 r.x1) (i%bI w h tw th*tw) ((i%bI w h tw th+1)*tw)&&mm (lZ s h r.y0 r.y1) (i/bI w h tw th*th) ((i/bI w h tw th+1)*th)
def lV(aB part:Int):Prop:=(aB=4/\(part=1\/part=2))\/(¬aB=4/\part=0)
instance (k p:Int):Decidable (lV k p):=by unfold lV;infer_instance
def iv(s:bc)(h:Int)(r:dY):Int:=
 if s.aB=1 then(r.x1-r.x0+s.kW-1)*(r.y1-r.y0+s.kH-1)
 else if s.aB=2 then(r.x1-r.x0)*(r.y1-r.y0+s.dG.length-1)
 else if s.aB=3 then(r.x1-r.x0)*(lZ s h r.y0 r.y1).length
 else if s.aB=4 then s.cb
 else if s.aB=5 then r.x1-r.x0+(r.y1-r.y0)+1
 else r.x1-r.x0
def P7(n:Int):Int:=(n+15)/16*16
def tE(s:bc)(h:Int)(r:dY):Int:=P7 (8*iv s h r)
def Ei(r:dY):Prop:=0<=r.x0/\r.x0<r.x1/\r.x1<=128/\0<=r.y0/\r.y0<r.y1/\r.y1<=128
instance (r:dY):Decidable (Ei r):=by unfold Ei;infer_instance
structure gg where
 ni:Int
 ss:List bc
 sh:List aY
 od:aR
 tw:Int
 th:Int
def gg.st(L:gg)(n:Int):bc:=gq L.ss L.ni n
def gg.cut(L:gg)(n:Int):aY:=if(L.st n).aB=4 then eg L.sh (L.st n).a else eg L.sh n
def gg.nx(L:gg)(n:Int):Int:=bI (L.cut n).w (L.cut n).h L.tw L.th
def gg.ny(L:gg)(n:Int):Int:=eW (L.cut n).w (L.cut n).h L.tw L.th
def gg.gy(L:gg)(n:Int):Int:=if(L.st n).aB=4 then L.nx n*L.ny n+1 else L.nx n*L.ny n
def xP(f:Int->Int):aR->Int->Int
 |[],_=>0
 |x::l,n=>if x=n then 0 else f x+xP f l n
def gg.first(L:gg)(n:Int):Int:=xP L.gy L.od n
def gg.dU(L:gg):Int:=(L.od.map L.gy).sum
def gg.gZ(L:gg)(s:bc)(r:dY)(x:Int):aR:=
 if x<L.ni then[] else if s.eS=true then(gJ (L.gy x).toNat).map (L.first x+·)
 else if(L.st x).aB=4 then[L.first x+L.gy x-1]
 else(lz s (eg L.sh x).w (eg L.sh x).h L.tw L.th r).map (L.first x+·)
def gg.oe(L:gg)(s:bc)(r:dY):aR:=(df s).flatMap (L.gZ s r)
def gg.own(L:gg)(n i:Int):aR:=if(L.st n).aB=5 then(if 0<i%L.nx n then[L.first n+i-1] else[])++(if L.nx n<=i then[L.first n+i-L.nx n] else[]) else[]
def gg.bE(L:gg)(n part:Int)(r:dY)(aX:aR):eL:=
 ⟨n,part,r.x0,r.y0,r.x1,r.y1,yC aX,if part=2 then 1 else r.y1-r.y0,tE (L.st n) (eg L.sh (L.st n).a).h r⟩
def gg.part(L:gg)(n:Int):Int:=if(L.st n).aB=4 then 1 else 0
def gg.CO(L:gg)(n i:Int):dY:=gF (L.cut n).w (L.cut n).h L.tw L.th i
def gg.Gt(L:gg)(n i:Int):eL:=L.bE n (L.part n) (L.CO n i) (L.oe (L.st n) (L.CO n i)++L.own n i)
def gg.CZ(L:gg)(n:Int):eL:=L.bE n 2 ⟨0,0,(L.st n).cb,1⟩ ((gJ (L.nx n*L.ny n).toNat).map (L.first n+·))
def gg.aN(L:gg)(n:Int):List eL:=(gJ (L.nx n*L.ny n).toNat).map (L.Gt n)++(if(L.st n).aB=4 then[L.CZ n] else[])
def gg.all(L:gg):List eL:=L.od.flatMap L.aN
def rj(j:et)(tw th:Int):gg:=⟨j.aa.length,j.ae,(db j).1,(ez j).1,tw,th⟩
def lh(tw th:Int):Prop:=(1<=tw/\tw<=64)/\1<=th/\th<=64
instance (tw th:Int):Decidable (lh tw th):=by unfold lh;infer_instance
def jQ(j:et)(tw th:Int):Int:=if(db j).2.2=0 then(if lh tw th then(if(rj j tw th).dU<=4096 then 0 else 13) else 2) else(db j).2.2
def mz(j:et)(tw th:Int):List eL:=if jQ j tw th=0 then(rj j tw th).all else[]
def gg.cells(L:gg):Int:=(L.sh.map λm=>m.w*m.h).sum+(L.od.map λn=>if(L.st n).aB=4 then(L.st n).cb*(L.gy n-1) else 0).sum
def so(j:et)(tw th:Int):Int:=if jQ j tw th=0 then(rj j tw th).cells else 0
variable{b:Int}
def Ki{a:Int}(ha:1<=a/\a<=128)(c:1<=b):1<=gE a b/\gE a b<=128:=by
 unfold gE;rw[aca ⟨Y,c⟩];let h1:=aec a b;let c:=adp a (by omega:b≠0);let c:=adj a (by omega:0<b);let c:a/b<=a:=ae0 _ Y;let c:0<=a/b:=aee Y Y
 grind
def mR{w h tw th:Int}(hf:iD w h tw th):(1<=bI w h tw th/\bI w h tw th<=128)/\1<=eW w h tw th/\eW w h tw th<=128:=by
 unfold bI eW;rw[aca hf,aca hf];exact⟨Ki hf.1 hf.2.2.1.1,Ki hf.2.1 hf.2.2.2.1⟩
theorem uL{w h tw th:Int}(hf:¬iD w h tw th):bI w h tw th=0/\eW w h tw th=0:=by
 unfold bI eW
 simp_all
variable{i:Int}
def ceil_lt{a:Int}(ha:0<=a)(c:1<=b)(hi:0<=i)(h:i<gE a b):i*b<a:=by
 unfold gE at h;rw[aca ⟨ha,c⟩] at h;let h1:=aec a b;let c:=adp a (by omega:b≠0);split at h
 ·exact(by let:=adw (show i+1<=a/b by omega) (show 0<=b by omega);grind)
 ·exact(by let:=adw (show i<=a/b by omega) (show 0<=b by omega);grind)
def Dl{a:Int}(ha:0<=a)(c:1<=b):a<=gE a b*b:=by
 unfold gE;rw[aca ⟨ha,c⟩];let h1:=aec a b;let c:=adj a (by omega:0<b);split
 ·rw[ac6 (a/b) b];omega
 grind
def rW{i nx ny:Int}(a:1<=nx)(hi:0<=i)(h:i<nx*ny):(0<=i%nx/\i%nx<nx)/\0<=i/nx/\i/nx<ny/\i=i/nx*nx+i%nx:=by
 let h1:=aec i nx;exact⟨⟨(adp i (by omega:nx≠0)),(adj i (by omega:0<nx))⟩,aee hi (by omega),(adV (by omega) (by grind)),by rw[ac6];omega⟩
def Iu{w h tw th i:Int}(hf:iD w h tw th)(hi:0<=i)(c:i<bI w h tw th*eW w h tw th):Ei (gF w h tw th i)/\(gF w h tw th i).x1<=w/\(gF w h tw th i).y1<=h/\(gF w h tw th i).x1-(gF w h tw th i).x0<=64/\(gF w h tw th i).y1-(gF w h tw th i).y0<=64:=by
 let b:=mR hf;let⟨⟨l,k⟩,m,n,a⟩:=rW b.1.1 hi c;let⟨⟨f,e⟩,⟨d,c⟩,⟨g,b⟩,j,a⟩:=hf;let hf:iD w h tw th:=⟨⟨f,e⟩,⟨d,c⟩,⟨g,b⟩,j,a⟩;let hx:i%bI w h tw th*tw<w:=ceil_lt Y g l ((show bI w h tw th=gE w tw from by unfold bI;rw[aca hf])▸k);let hy:i/bI w h tw th*th<h:=ceil_lt Y j m ((show eW w h tw th=gE h th from by unfold eW;rw[aca hf])▸n);let a:0<=i%bI w h tw th*tw:=ac9 l Y;let a:0<=i/bI w h tw th*th:=ac9 m Y
 grind[Ei,gF]
def Fk(b:0<n):(if i.tmod n<0 then i.tmod n+n else i.tmod n)=i%n:=by
 let h1:=adv i b;let a:=adK i b
 let e:i%n=i.tmod n%n:=by
  let h:=Int.tmod_add_mul_tdiv i n
  calc i%n=(i.tmod n+n*i.tdiv n)%n:=by rw[h]
   _=i.tmod n%n:=by rw[Int.add_mul_emod_self_left]
 rw[e];split
 ·rw[<-Int.add_emod_right,aey (by omega) (by omega)]
 ·rw[aey (by omega) (by omega)]
variable{c:Int}
def Ib{p:Int}(h:dK i n p=some c):0<=c/\c<n:=by
 unfold dK at h;split at h
 ·rename_i hn;let h1:=adp i (by omega:n≠0);let h2:=adj i (by omega:0<n);let h3:=adp i (by omega:2*n≠0);let h4:=adj i (by omega:0<2*n)
  repeat' split at h
  all_goals first
   |(simp only[adh] at h;omega)
   |cases h
 ·cases h
def X6{kd k size:Int}{t:List dW}(hs:¬(kd=1\/kd=2)\/(1<=size/\size<=9))(ht:kd=3->t.all xf=true)(hk:0<=k/\k<=1000):(-200<=pe kd k size t/\pe kd k size t<=1000)/\0<=qv kd k size t/\qv kd k size t<=9:=by
 unfold pe qv;split
 ·rename_i h;omega
 ·split
  ·rename_i h3;let h:=ht h3;cases hx:t[k.toNat]? with
   |none=>simp
   |some x=>
    let:=acH.1 h x (ab8 hx);unfold xf at this;let:=acy this;exact rD
  ·omega
def Ar(N:Nat)(ks:List Bool)(f:Int->Bool):Prop:=ks.length=N/\∀m:Nat,m<N->ks[m]?=some (f m)
variable{N:Nat}
def Ar.zero{f:Int->Bool}(hf:∀m,f m=false):Ar N (List.replicate N false) f:=by
 refine⟨by simp,λm a=>?_⟩
 simp_all
variable{a:List Bool}
def Ar.at{f:Int->Bool}{m:Nat}{x:Bool}(h:Ar N a f)(hx:a[m]?=some x):x=f m:=by
 have a:=(aci.1 hx).1;have:=h.2 m (by rw[<-h.1];exact a)
 simp_all
def Ar.congr{f g:Int->Bool}(h:Ar N a f)(e:∀m:Int,f m=g m):Ar N a g:=⟨h.1,λm a=>by rw[h.2 m a,e]⟩
def Ar.set{ks:List Bool}{f g:Int->Bool}(h:Ar N ks f)(hc:0<=c/\c<N)(e:∀m:Int,g m=(f m||decide (c=m))):Ar N (ks.set c.toNat true) g:=by
 refine⟨by rw[acz];exact h.1,λm hm=>?_⟩;rw[e,acV];split
 ·exact(by rename_i hcm;rw[aca (by rw[h.1];omega),acg (show c=(m:Int) by omega),Bool.or_true])
 ·rw[h.2 m hm,acb (show ¬c=(m:Int) by omega),Bool.or_false]
def yl(k:Nat)(f:Nat->Bool):(List.range (k+1)).any f=((List.range k).any f||f k):=by grind
variable{k:Nat}
def Ar.one{A:Int->Bool}{s:bc}{F:Int}(h:Ar N a (λm=>A m||(List.range k).any λj=>decide (dK (F+j) n (lP s)=some m)))(he:dK (F+k) n (lP s)=some c)(hc:0<=c/\c<N):
 Ar N (a.set c.toNat true) (λm=>A m||(List.range (k+1)).any λj=>decide (dK (F+j) n (lP s)=some m)):=by
 exact h.set hc (λm=>qj)
def Ar.none{A:Int->Bool}{s:bc}{F:Int}(h:Ar N a (λm=>A m||(List.range k).any λj=>decide (dK (F+j) n (lP s)=some m)))(he:dK (F+k) n (lP s)=none):
 Ar N a (λm=>A m||(List.range (k+1)).any λj=>decide (dK (F+j) n (lP s)=some m)):=by
 grind
def Yd{s:bc}{n k size m:Int}{t:List dW}(h:Qh s n k size t m=true):0<=m/\m<n:=by
 unfold Qh at h;let⟨j,_,a⟩:=adf.1 h;exact Ib (acy a)
def RR{s:bc}{n a b size m:Int}{t:List dW}(h:wt s n a b size t m=true):0<=m/\m<n:=by
 unfold wt at h;let⟨j,_,c⟩:=adf.1 h;exact Yd c
def DY{n:Nat}(f:Int->Bool):∀k:Nat,(∀m:Int,(n:Int)<=m->f m=false)->(gJ (n+k)).filter f=(gJ n).filter f
 |0,_=>rfl
 |k+1,h=>by rw[show n+(k+1)=n+k+1 by omega,gK,DY f k h,h _ (by omega)];simp
def M4{s:bc}{n a b size:Int}{t:List dW}(c:1<=n/\n<=128):(gJ 128).filter (wt s n a b size t)=(gJ n.toNat).filter (wt s n a b size t):=by
 have h:=DY (n:=n.toNat) (wt s n a b size t) (128-n.toNat) (λm c=>by
  rw[<-Bool.not_eq_true];intro h;have:=RR h;omega)
 simp_all
def Ea{s:bc}{n a b size:Int}{t:List dW}:(pj s n a b size t).length<=128:=by
 unfold pj;split
 ·exact(by rename_i h;exact adG (ade _ _) (by rw[jG];let:=h.1.1;omega))
 ·simp
def Bq(s:bc):W4 s (if s.aB=2 then s.row.length else s.kW) s.x:=by
 intro h;refine⟨?_,λa=>(h.2.2.2 a).1⟩;by_cases h1:s.aB=1
 ·let:=(h.2.1 h1).1;unfold si at this;rw[ab9 (by omega)];omega
 ·by_cases a:s.aB=2
  ·let:=(h.2.2.1 a).1;unfold si at this;rw[aca a];omega
  ·omega
def BH(s:bc):W4 s (if s.aB=2 then s.dG.length else s.kH) s.y:=by
 intro h;refine⟨?_,λa=>(h.2.2.2 a).2⟩;by_cases h1:s.aB=1
 ·let:=(h.2.1 h1).2;unfold si at this;rw[ab9 (by omega)];omega
 ·by_cases a:s.aB=2
  ·let:=(h.2.2.1 a).2;unfold si at this;rw[aca a];omega
  ·omega
def Lg{s:bc}{n a size c:Int}{t:List dW}{i:Nat}{m:Int}(hc:c=a+i)(b:(qv s.aB c size t).toNat=k):
 Gf s n a size t (i+1) m=(Gf s n a size t i m||(List.range k).any λj=>decide (dK (pe s.aB c size t+j) n (lP s)=some m)):=by
 subst hc;subst b;unfold Gf;rw[yl];rfl
def Bp{α:Type}{p:α->Bool}{l:List α}{i:Nat}{x:α}(hx:l[i]?=some x)(h:p x=true):l.any p=true:=adf.2 ⟨x,ab8 hx,h⟩
def wW{α:Type}{p:α->Bool}{l:List α}{i:Nat}{x:α}(h:(l.take i).any p=false)(hx:l[i]?=some x)(hp:p x=false):(l.take (i+1)).any p=false:=by
 exact Bf
def PS{w h tw th:Int}(hf:¬iD w h tw th):CS w h tw th=0:=by grind[CS,uL]
def zp{s:bc}{w h tw th:Int}{r:dY}(hf:¬iD w h tw th):lz s w h tw th r=[]:=by unfold lz;rw[PS hf];rfl
def Om{w h tw th:Int}(h0:¬bI w h tw th=0):iD w h tw th:=by
 grind[iD,absurd,uL]
theorem qh{nx i j:Int}(a:0<=j/\j<nx):(i*nx+j)%nx=j/\(i*nx+j)/nx=i:=by
 let hx:0<nx:=by omega
 refine⟨?_,?_⟩
 ·rw[aeK,Int.add_mul_emod_self_right,aey a.1 a.2]
 ·rw[aeK,Int.add_mul_ediv_right _ _ (by omega),Int.ediv_eq_zero_of_lt a.1 a.2,Int.zero_add]
def aaI{s:bc}(h:dD s)(h1:¬s.aB=1)(a:¬s.aB=2)(b:¬s.aB=3):nt s:=⟨h,λe=>absurd e h1,λe=>absurd e a,λe=>absurd e b⟩
def Zp{s:bc}(h:dD s)(h1:s.aB=1):nt s↔si s.kW/\si s.kH:=⟨λa=>a.2.1 h1,λb=>⟨h,λ_=>b,λe=>by omega,λe=>by omega⟩⟩
def Zj{s:bc}(h:dD s)(h1:s.aB=2):nt s↔si s.row.length/\si s.dG.length:=⟨λa=>a.2.2.1 h1,λb=>⟨h,λe=>by omega,λ_=>b,λe=>by omega⟩⟩
def YJ{s:bc}(h:dD s)(h1:s.aB=3):nt s↔s.x.all xf=true/\s.y.all xf=true:=⟨λa=>a.2.2.2 h1,λb=>⟨h,λe=>by omega,λe=>by omega,λ_=>b⟩⟩
def Pa{s:bc}(h:nt s):1<=s.aB/\s.aB<=6:=by
 let h1:=h.1;unfold dD at h1;omega
def CG(a:Int)(b:Int)(c:a<=4611686018427387904/\b<=4611686018427387904)(g:X W w (H::F)):
 Ro prog 260 #[I a,I b] (I (gE a b)) W w (H::F):=by
 exact aq 22 func260 Z<|Q 11<|sD 8 (a<0) (λc=>RO 13 [I 0]<|TW) λc=>JO 5<|cD (b<1) (λc=>RC 7 [I 0]<|TW) λc=>Q 3<|let f:a.tdiv b=a/b:=acv Y;let e:a.tmod b=a%b:=aef Y;let c:=tZ (a:=a) (b:=b) (A:=a) Y Y;let c:=adp a (by omega:b≠0);let c:=adj a (by omega:0<b);Q 3<|mE a b<|JO 8<|Dw a b<|JO 3<|cN (a.tmod b) 0 (λc=>RC 9 [I (a.tdiv b)]<|(by let d:gE a b=(a.tdiv b):=(by unfold gE;rw[aca Y,aca (by rw[<-e];omega),<-f]);exact⟨by rw[d];rfl,g⟩)) λc=>Q 2<|aU (a.tdiv b) 1<|RO 10 [I ((a.tdiv b)+1)]<|let d:gE a b=((a.tdiv b)+1):=(by unfold gE;rw[aca Y,ab9 (by rw[<-e];omega),<-f]);⟨by rw[d];rfl,g⟩
def EU(n k l:Int):Bool:=if 0<=n/\1<=k then iL (gE n k) k l else false
def ET(n k l:Int):Int:=if 0<=n/\1<=k then mG (gE n k) k l else 0
def WN{l:Int}(h0:0<=n)(h:n+15<=l):ET n 16 l=P7 n:=by
 grind[gE,P7,ET,mG,iL]
def NS(n:Int)(k:Int)(l:Int)(a:n<=4611686018427387904/\k<=4611686018427387904/\l<=4611686018427387904)(c:X W w (H::F)):
 Ro prog 223 #[I n,I k,I l] (.tuple #[I (ET n k l),.bool (EU n k l)]) W w (H::F):=by
 exact aq 22 func223 Z<|Q 12<|sD 10 (n<0) (λa=>RO 14 [I 0,.bool false]<|Zm) λa=>JO 5<|cD (k<1) (λa=>RC 8 [I 0,.bool false]<|Zm) λa=>Q 6<|cS (CG n k od c.ao) λ_ a=>cG<|cS (vL (gE n k) k l od a.ao) λ_ a=>RO 7 [I (mG (gE n k) k l),.bool (iL (gE n k) k l)]<|let h1:EU n k l=iL (gE n k) k l:=(by unfold EU;exact qk);let b:ET n k l=mG (gE n k) k l:=(by unfold ET;exact qk);⟨by rw[h1,b];rfl,a⟩
def uh(w0:Int)(h0:Int)(tw:Int)(th:Int)(c:X W w (H::F)):
 Ro prog 212 #[I w0,I h0,I tw,I th] (.tuple #[I (bI w0 h0 tw th),I (eW w0 h0 tw th)]) W w (H::F):=by
 refine aq 44 func212 Z<|Q 12<|sD 12 (w0<1) (λb=>RO 22 [I 0,I 0]<|Vo) λb=>je<|sD 16 (w0>128) (λb=>RO 18 [I 0,I 0]<|Vo) λb=>je<|sD 20 (h0<1) (λb=>RO 14 [I 0,I 0]<|Vo) λb=>JO 5<|cD (h0>128) (λb=>RC 8 [I 0,I 0]<|Vo) λb=>Q 8<|sD 26 (tw<1) (λb=>RO 22 [I 0,I 0]<|Vo) λb=>je<|sD 30 (tw>64) (λb=>RO 18 [I 0,I 0]<|Vo) λb=>je<|sD 34 (th<1) (λb=>RO 14 [I 0,I 0]<|Vo) λb=>?_;exact JO 5<|cD (th>64) (λb=>RC 8 [I 0,I 0]<|Vo) λb=>Q 6<|cS (CG w0 tw od c.ao) λ_ a=>cG<|cS (CG h0 th od a.ao) λ_ b=>RO 5 [I (gE w0 tw),I (gE h0 th)]<|let hf:iD w0 h0 tw th:=(by first|assumption|(unfold iD;omega));let h1:bI w0 h0 tw th=gE w0 tw:=(by(unfold bI;rw[aca hf]));let a:eW w0 h0 tw th=gE h0 th:=(by(unfold eW;rw[aca hf]));⟨by rw[h1,a];rfl,b⟩
def C8(n:Int):Prop:=-1048576<=n/\n<=1048576
instance (n:Int):Decidable (C8 n):=by unfold C8;infer_instance
def NN(r:dY):Prop:=(r.x0=0/\r.y0=0/\r.x1=0/\r.y1=0)\/(C8 r.x0/\C8 r.y0/\C8 r.x1/\C8 r.y1/\r.x0<r.x1/\r.y0<r.y1)
instance (r:dY):Decidable (NN r):=by unfold NN;infer_instance
def SQ(w:World)(c e g h a b d f:Int):∀x y,((do eqGuard .eql 141 x y (.agg #[I c,I e,I g,I h]) (.agg #[I a,I b,I d,I f]);binOp .eql 141 (.agg #[I c,I e,I g,I h]) (.agg #[I a,I b,I d,I f])):Sem Value).run prog w=.ok (.bool ((c==a)&&(e==b)&&(g==d)&&(h==f))) w:=by
 intro x y;simp[go_sem,run_eqGuard_agg,run_eql_struct,run_equalIn_agg];exact Nm
def um(n:Int)(b:X W w (H::F)):
 Ro prog 278 #[I n] (.bool (decide (-(1048576:Int)<=n/\n<=1048576))) W w (H::F):=by
 exact aq 9 func278 Z<|Q 10<|SD 5 (-1048576<=n) (λa=>rh) λa=>RO 7 [.bool (decide ((n:Int)<=1048576))]<|⟨rB bq,b⟩
def j9(r:dY)(a:X W w (H::F)):
 Ro prog 176 #[.agg (ep r).toArray] (.bool (decide (r.x0=0/\r.y0=0/\r.x1=0/\r.y1=0))) W w (H::F):=by
 exact aq 6 func176 Z<|Q 2<|eD a (ep r) λ_ _ a=>GO a 7 [400]<|bh (.bool ((r.x0==0)&&(r.y0==0)&&(r.x1==0)&&(r.y1==0))) Z Z (vi Z kr kr (SQ _ r.x0 r.y0 r.x1 r.y1 0 0 0 0))<|RO 4 [.bool ((r.x0==0)&&(r.y0==0)&&(r.x1==0)&&(r.y1==0))]<|⟨rB bq,(a.aj 0 Z)⟩
def yK(r:dY)(a:X W w (H::F)):
 Ro prog 234 #[.agg (ep r).toArray] (.bool (decide (NN r))) W w (H::F):=by
 refine aq 37 func234 Z<|Q 2<|eD a (ep r) λ_ _ a=>GO a 7 [400]<|cS (j9 r a.ao) λ_ a=>JO 2<|cD (r.x0=0/\r.y0=0/\r.x1=0/\r.y1=0) (λb=>VC 7<|P8) λb=>GC a 6 [0]<|cS (um r.x0 a.ao) λ_ a=>bf<|SD 8 (-(1048576:Int)<=r.x0/\r.x0<=1048576) (λb=>FO 32<|P8) λb=>GO a 2 [0]<|gY<|cS (um r.y0 a.ao) λ_ b=>cG<|SD 13 (-(1048576:Int)<=r.y0/\r.y0<=1048576) (λa=>FO 27<|Jd) λa=>?_;exact GO b 2 [0]<|gY<|cS (um r.x1 b.ao) λ_ a=>cG<|SD 18 (-(1048576:Int)<=r.x1/\r.x1<=1048576) (λb=>FO 22<|P8) λb=>GO a 2 [0]<|gY<|cS (um r.y1 a.ao) λ_ b=>cG<|SD 23 (-(1048576:Int)<=r.y1/\r.y1<=1048576) (λa=>FO 17<|Jd) λa=>GO b 7 [0,0]<|SD 30 (r.x0<r.x1) (λa=>FO 10<|Jd) λa=>GK b 10 [0,0] Z<|fc [.bool (decide (r.y0<r.y1))]<|Jd
def IP(w0:Int)(h0:Int)(tw:Int)(th:Int)(i:Int)(hf:iD w0 h0 tw th)(hi:0<=i/\i<(bI w0 h0 tw th)*(eW w0 h0 tw th))(e:X W w (H::F)):
 Ro prog 213 #[I w0,I h0,I tw,I th,I i] (.tuple #[.agg #[I ((gF w0 h0 tw th i).x0),I ((gF w0 h0 tw th i).y0),I ((gF w0 h0 tw th i).x1),I ((gF w0 h0 tw th i).y1)],.bool true]) W w (H::F):=by
 let d:=mR hf;let c:=rW d.1.1 hi.1 hi.2;let hp:=el (a:=(bI w0 h0 tw th)) (b:=(eW w0 h0 tw th)) (A:=128) (B:=128) Y Y;let h:(i.tmod (bI w0 h0 tw th))=i%(bI w0 h0 tw th):=aef hi.1;let g:(i.tdiv (bI w0 h0 tw th))=i/(bI w0 h0 tw th):=acv hi.1;let c:=hf;unfold iD at c;let c:=el (a:=i.tmod (bI w0 h0 tw th)) (b:=tw) (A:=128) (B:=64) Y Y;let c:=el (a:=i.tdiv (bI w0 h0 tw th)) (b:=th) (A:=128) (B:=64) Y Y;exact aq 57 func213 Z<|Q 2<|aI e zeroValue141 λ_ _ c=>JO 9<|cS (uh w0 h0 tw th c.ao) λ_ f=>JO 13<|sD 26 (i<0) (λe=>JO 12<|TD) λe=>gw<|gY<|ei (bI w0 h0 tw th) (eW w0 h0 tw th)<|JO 4<|cD (i>=((bI w0 h0 tw th)*(eW w0 h0 tw th))) (λe=>Q 3<|TD) λe=>Q 3<|bJ f [] (fn) [0,1,2,3,4,5,6,7,8,9,10,11] λ_ c=>wV 2<|WW i (bI w0 h0 tw th)<|wV 1<|vz (i.tmod (bI w0 h0 tw th)) tw<|wV 2<|RW i (bI w0 h0 tw th)<|wV 1<|vz (i.tdiv (bI w0 h0 tw th)) th<|wV 2<|wN<|JX 7<|aU ((i.tmod (bI w0 h0 tw th))*tw) tw<|bf<|bh (I (min (((i.tmod (bI w0 h0 tw th))*tw)+tw) w0)) Z Z (iY (((i.tmod (bI w0 h0 tw th))*tw)+tw) w0 Z Z kr kr)<|cG<|aU ((i.tdiv (bI w0 h0 tw th))*th) th<|bf<|bh (I (min (((i.tdiv (bI w0 h0 tw th))*th)+th) h0)) Z Z (iY (((i.tdiv (bI w0 h0 tw th))*th)+th) h0 Z Z kr kr)<|bf<|bP c 0 Z [I ((i.tmod (bI w0 h0 tw th))*tw),I ((i.tdiv (bI w0 h0 tw th))*th),I (min (((i.tmod (bI w0 h0 tw th))*tw)+tw) w0),I (min (((i.tdiv (bI w0 h0 tw th))*th)+th) h0)] λ_ c=>DO 4 c 0 [I ((i.tmod (bI w0 h0 tw th))*tw),I ((i.tdiv (bI w0 h0 tw th))*th),I (min (((i.tmod (bI w0 h0 tw th))*tw)+tw) w0),I (min (((i.tdiv (bI w0 h0 tw th))*th)+th) h0)] (.bool true)<|⟨by unfold gF;rw[<-h,<-g];rfl,(c.aj 0 Z)⟩
def P6(i:Int)(n:Int)(a:1<=n/\n<=4611686018427387904)(c:X W w (H::F)):
 Ro prog 337 #[I i,I n] (I (i%n)) W w (H::F):=by
 let a:=adv i (by omega:0<n);let a:=adK i (by omega:0<n);exact aq 15 func337 Z<|Q 9<|Dw i n<|JO 10<|CD ((i.tmod n)<0) (λb=>RC 9 [I (i.tmod n)]<|(by let a:=Fk (i:=i) (n:=n) Y;rw[ab9 Y] at a;exact⟨by rw[<-a];rfl,c⟩)) λb=>Q 3<|aU (i.tmod n) n<|RO 10 [I ((i.tmod n)+n)]<|(by let a:=Fk (i:=i) (n:=n) Y;rw[aca Y] at a;exact⟨by rw[<-a];rfl,c⟩)
def iK(i:Int)(n:Int)(p:Int)(d:X W w (H::F)):
 Ro prog 303 #[I i,I n,I p] (.tuple #[I ((dK i n p).getD 0),.bool ((dK i n p).isSome)]) W w (H::F):=by
 refine aq 53 func303 Z<|Q 12<|sD 11 (n<1) (λa=>RO 14 [I 0,.bool false]<|MZ) λa=>JO 5<|cD (n>128) (λa=>RC 8 [I 0,.bool false]<|MZ) λa=>Q 15<|cE p 0 (λa=>Q 3<|bh (I (max i 0)) Z Z (gV i 0 Z Z kr kr)<|bf<|dP n 1<|bh (I (min (max i 0) (n-1))) Z Z (iY (max i 0) (n-1) Z Z kr kr)<|RO 7 [I (min (max i 0) (n-1)),.bool true]<|(by let b:dK i n p=some (min (max i 0) (n-1)):=On;exact⟨by rw[b];rfl,d⟩)) λa=>Q 6<|cE p 1 (λe=>Q 4<|ei 2 n<|cS (P6 i (2*n) od d.ao) λ_ c=>(by let g:=adp i (by omega:((2*n):Int)≠0);let f:=adj i (by omega:(0:Int)<(2*n));refine JO 11<|CD ((i%(2*n))>=n) (λa=>RC 12 [I (i%(2*n)),.bool true]<|(by let b:dK i n p=some (i%(2*n)):=On;exact⟨by rw[b];rfl,c⟩)) λa=>Q 2<|ei 2 n<|dP (2*n) 1<|bf<|dP ((2*n)-1) (i%(2*n))<|RO 13 [I (((2*n)-1)-(i%(2*n))),.bool true] ?_;let b:dK i n p=some (((2*n)-1)-(i%(2*n))):=On;exact⟨by rw[b];rfl,c⟩)) λe=>?_;refine Q 6<|cE p 2 (λa=>Q 4<|cS (P6 i n od d.ao) λ_ h0=>(by let g:=adp i (by omega:(n:Int)≠0);let f:=adj i (by omega:(0:Int)<n);refine RO 7 [I (i%n),.bool true] ?_;let b:dK i n p=some (i%n):=On;exact⟨by rw[b];rfl,h0⟩)) λa=>?_;exact Q 6<|CE p 3 (λa=>RC 10 [I 0,.bool false]<|MZ) λa=>Q 5<|SD 47 (0<=i) (λa=>RO 17 [I 0,.bool false]<|MZ) λa=>JO 6<|CD (i<n) (λa=>RC 10 [I 0,.bool false]<|MZ) λa=>RC 10 [I i,.bool true]<|let b:dK i n p=some i:=On;⟨by rw[b];rfl,d⟩
def xA(x:Int)(b:X W w (H::F)):
 Ro prog 357 #[I x] (.bool (decide ((1:Int)<=x/\x<=(9:Int)))) W w (H::F):=by
 exact aq 9 func357 Z<|Q 10<|SD 5 (1<=x) (λa=>rh) λa=>RO 7 [.bool (decide ((x:Int)<=9))]<|⟨rB bq,b⟩
def Er(b:cf)(nx a:Nat)(x:List bL)(hx:bl ff 2 [H] b nx a x)(g:∀z∈x,bL.Ok [H] z)(c:X W w (H::F)):
 Ro prog 358 #[.slice b nx a] (.bool ((x.map bL.v).all xf)) W w (H::F):=by
 let a:=hx.ll;exact aq 26 func358 Z<|Al 14 Z<|bF [5,6] (γ:=Nat) (λi R=>⟨[(7,I i)],R,nx-i,i<=nx/\(((x.map bL.v).take i).all xf=true)⟩) 0 ⟨c,Y,by rfl⟩<|λi V _⟨d,a,h⟩=>Al 6 Z<|CD ((i:Int)<nx) (λa=>Am 11 Z<|fc [.bool true]<|⟨by rw[di h Br];rfl,d⟩) λa=>GJ 6 Z<|kQ hx i λb _ _ e c=>(by let a:=(g b (ab8 e)).ad.len;let a:=(g b (ab8 e)).ad.le;exact lv d (c.up 0 Z) 0 [I b.first,.slice b.ad.a b.ad.n b.ad.k]<|aI d zeroValue247 λ_ _ a=>bP a 0 Z [I b.first,.slice b.ad.a b.ad.n b.ad.k] λ_ c=>WH c 9 [0] Z<|sD 15 ((b.ad.n:Int)>8) (λh0=>my 23 Z<|Oh) λh0=>WH c 5 [0] Z<|sD 20 (b.first<(-128)) (λa=>my 18 Z<|Oh) λa=>gOC c 6 [0] Z<|cD (b.first>256) (λa=>Am 11 Z<|Oh) λa=>GJ 4 Z<|aU (i:Int) 1<|bX 2 Z<|⟨i+1,od,bR,(c.aj 0 Z),Y,all_succ h (cg (f:=bL.v) e) (acg Up)⟩)
def R2(q:aA)(g:aA.Ok [H] q)(f:X W w (H::F)):
 Ro prog 353 #[.agg (aL q).toArray] (.bool (decide (nt q.v))) W w (H::F):=by
 let a:=g.ad.ll;let a:=g.row.le;let e:=g.row.len;let a:=g.dG.le;let d:=g.dG.len;let a:=g.x.le;let c:=g.x.len;let a:=g.y.le;let b:=g.y.len;let a:=g.ops.ll;let l:=e;let k:=d;let a:=c;let a:=b;refine aq 40 func353 Z<|GJ 2 Z<|eD f (aL q) λ_ _ a=>WH a 7 [1800] Z<|cS (Ab q (g.ag (mF 1)) a.ao) λ_ i=>VD 3 Z<|pk (dD q.v) (λj=>Am 7 Z<|fc [.bool false]<|(by let a:=(i.aj 0 Z);let d:decide (nt q.v)=false:=acb (λh=>j h.1);exact⟨by rw[d];rfl,a⟩)) λj=>gCC i 16 [0] Z<|cE q.aB 1 (λf=>Yt i 4 [0] Z<|cS (xA q.kW i.ao) λ_ a=>bf<|SD 13 ((1:Int)<=q.kW/\q.kW<=(9:Int)) (λc=>my 10 Z<|fc [.bool false]<|(by let b:=(a.aj 0 Z);let e:=Zp (s:=q.v) j (show q.v.aB=1 from f);exact UY)) λc=>WH a 2 [0] Z<|gY<|cS (xA q.kH a.ao) λ_ a=>my 7 Z<|fc [.bool (decide ((1:Int)<=q.kH/\q.kH<=(9:Int)))]<|(by let b:=(a.aj 0 Z);let e:=Zp (s:=q.v) j (show q.v.aB=1 from f);let d:decide (nt q.v)=decide ((1:Int)<=q.kH/\q.kH<=(9:Int)):=TG;exact⟨by rw[d];rfl,b⟩)) λf=>?_;refine Al 6 Z<|cE q.aB 2 (λf=>Yt i 5 [0] Z<|cS (xA (q.row.n:Int) i.ao) λ_ a=>bf<|SD 24 ((1:Int)<=(q.row.n:Int)/\(q.row.n:Int)<=(9:Int)) (λc=>my 11 Z<|fc [.bool false]<|(by let b:=(a.aj 0 Z);let e:=Zj (s:=q.v) j (show q.v.aB=2 from f);exact UY)) λc=>WH a 3 [0] Z<|gY<|cS (xA (q.dG.n:Int) a.ao) λ_ a=>my 7 Z<|fc [.bool (decide ((1:Int)<=(q.dG.n:Int)/\(q.dG.n:Int)<=(9:Int)))]<|(by let b:=(a.aj 0 Z);let e:=Zj (s:=q.v) j (show q.v.aB=2 from f);let d:decide (nt q.v)=decide ((1:Int)<=(q.dG.n:Int)/\(q.dG.n:Int)<=(9:Int)):=TG;exact⟨by rw[d];rfl,b⟩)) λf=>?_;exact Al 6 Z<|CE q.aB 3 (λc=>Am 9 Z<|fc [.bool true]<|(by let a:=(i.aj 0 Z);let e:=aaI (s:=q.v) j (show ¬q.v.aB=1 from sv) (show ¬q.v.aB=2 from sv) (show ¬q.v.aB=3 from sv);let d:decide (nt q.v)=true:=acg e;exact⟨by rw[d];rfl,a⟩)) λc=>Yt i 4 [0] Z<|cS (Er q.x.a q.x.n q.x.k q.x.l (g.x.fl 1) (λz hz=>(g.xD z hz).ag (mF 1)) i.ao) λ_ h0=>bf<|SB 35 ((q.x.l.map bL.v).all xf) (λa=>my 10 Z<|fc [.bool false]<|(by let b:=(h0.aj 0 Z);let e:=YJ (s:=q.v) j (show q.v.aB=3 from c);let d:decide (nt q.v)=false:=acb (λh=>by let h1:=e.1 h;first|exact a h1.1|exact a h1.2);exact⟨by rw[d];rfl,b⟩)) λa=>WH h0 2 [0] Z<|gY<|cS (Er q.y.a q.y.n q.y.k q.y.l (g.y.fl 1) (λz hz=>(g.yD z hz).ag (mF 1)) h0.ao) λ_ a=>my 7 Z<|fc [.bool ((q.y.l.map bL.v).all xf)]<|let w0:=(a.aj 0 Z);let e:=YJ (s:=q.v) j (show q.v.aB=3 from c);let d:decide (nt q.v)=((q.y.l.map bL.v).all xf):=(by rw[acI,acr,e];simp only[aA.v];simp_all);⟨by rw[d];rfl,w0⟩
def Tm(q:aA)(i:Int)(sz:Int)(c:cf)(h b:Nat)(e:List bL)(d:aA.Ok [H] q)(j:bl ff 2 [H] c h b e)(k:∀z∈e,bL.Ok [H] z)(a:(¬(q.aB=1\/q.aB=2)\/(1<=sz/\sz<=9))/\0<=i/\i<=1000)(g:X W w (H::F)):
 Ro prog 354 #[.agg (aL q).toArray,I i,I sz,.slice c h b] (.tuple #[I (pe q.aB i sz (e.map bL.v)),I (qv q.aB i sz (e.map bL.v))]) W w (H::F):=by
 let a:=d.ad.ll;let a:=d.row.ll;let a:=d.dG.ll;let a:=d.x.ll;let a:=d.y.ll;let a:=d.ops.ll;let a:=j.ll;refine aq 38 func354 Z<|Q 2<|eD g (aL q) λ_ _ g=>GO g 19 [0]<|cE q.aB 1 (λb=>Q 2<|cT _ (acJ.2 b)<|Q 1<|(by let c:sz.tdiv 2=sz/2:=acv Y;refine Q 3<|mE sz 2<|dP i (sz.tdiv 2)<|RO 8 [I (i-(sz.tdiv 2)),I sz] ?_;exact UF)) λb=>?_;refine Q 5<|cE q.aB 2 (λh0=>Q 1<|(by let c:sz.tdiv 2=sz/2:=acv Y;refine Q 3<|mE sz 2<|dP i (sz.tdiv 2)<|RO 8 [I (i-(sz.tdiv 2)),I sz] ?_;exact UF)) λh0=>?_;refine Q 6<|CE q.aB 3 (λb=>RC 11 [I i,I 1]<|(by let a:=(g.aj 0 Z);let h1:pe q.aB i sz (e.map bL.v)=i:=(by unfold pe;exact Gc);let d:qv q.aB i sz (e.map bL.v)=1:=(by unfold qv;exact Gc);exact⟨by rw[h1,d];rfl,a⟩)) λb=>Q 9<|cD (i>=(h:Int)) (λc=>RC 10 [I 0,I 0]<|(by let b:=(g.aj 0 Z);let a:(e.map bL.v)[i.toNat]?=none:=acY Br;let h1:pe q.aB i sz (e.map bL.v)=0:=(by unfold pe;rw[ab9 Y,aca Y,a]);let d:qv q.aB i sz (e.map bL.v)=0:=(by unfold qv;rw[ab9 Y,aca Y,a]);exact⟨by rw[h1,d];rfl,b⟩)) λc=>?_;refine Q 3<|let⟨b0,r0,s0,c0,e0,f0⟩:=bl.elem j i;let c:=(k b0 (ab8 c0)).ad.len;let w0:=(k b0 (ab8 c0)).ad.le;bJ g [] (fq 4 0 (e0.up 1 Z)<|fq 9 1 (e0.up 1 Z)<|fn) [0,1,2,3,5,6,7,8,4,11,9,10,12] λ_ a=>wV 2<|wI f0<|wV 3<|wI f0<|wV 1<|wL 0<|wV 1<|wL 1<|wV 2<|wN<|RX 4 [I b0.first,I b0.ad.n] ?_;let b:=(a.aj 0 Z);let a:=cg (f:=bL.v) c0;let h1:pe q.aB i sz (e.map bL.v)=b0.first:=by unfold pe;rw[ab9 Y,aca Y,a];rfl
 let d:qv q.aB i sz (e.map bL.v)=(b0.ad.n:Int):=by unfold qv;rw[ab9 Y,aca Y,a];exact acd (λ(z:Nat)=>(z:Int)) c
 exact⟨by rw[h1,d];rfl,b⟩
def ux(q:aA)(n:Int)(B:Int)(up:Int)(sz:Int)(Qz:cf)(Oz P:Nat)(C:List bL)(J:aA.Ok [H] q)(j:bl ff 2 [H] Qz Oz P C)(a2:∀z∈C,bL.Ok [H] z)(r:W4 q.v sz (C.map bL.v))(p:X W w (H::F)):
 Calls prog 336 #[.agg (aL q).toArray,I n,I B,I up,I sz,.slice Qz Oz P] w λe l=>∃(g:cf) (a d:Nat) (G:af),e=.returned (.slice g a d)/\aF ca 3 1 g a d (pj q.v n B up sz (C.map bL.v)) G/\X W l (G::H::F):=by
 let a:=J.ad.ll;let a:=J.row.le;let o:=J.row.len;let a:=J.dG.le;let l:=J.dG.len;let a:=J.x.le;let g:=J.x.len;let a:=J.y.le;let d:=J.y.len;let a:=J.ops.ll;let a:=j.ll;let a:=o;let a:=l;let a:=g;let a:=d;refine aq 104 func336 Z<|Q 2<|eD p (aL q) λl _ d=>JO 4<|eQ d 0 [1,2,3,4,5,6] (γ:=Unit) (λ_ R=>⟨[(50,.bool (decide (¬(((1<=n/\n<=128)/\(0<=B/\B<=128)/\0<=up/\up<=128)/\nt q.v))))],R,0,True⟩) ?_ ?_
 ·exact Q 4<|sD 26 (n<1) (λa=>bX 25 Z<|⟨(),⟨⟨(mT Y),trivial⟩,sA⟩,d,trivial⟩) λa=>je<|sD 30 (n>128) (λa=>bX 21 Z<|⟨(),⟨⟨(mT Y),trivial⟩,sA⟩,d,trivial⟩) λa=>je<|sD 34 (B<0) (λa=>bX 17 Z<|⟨(),⟨⟨(mT Y),trivial⟩,sA⟩,d,trivial⟩) λa=>je<|sD 38 (B>128) (λa=>bX 13 Z<|⟨(),⟨⟨(mT Y),trivial⟩,sA⟩,d,trivial⟩) λa=>je<|sD 42 (up<0) (λa=>bX 9 Z<|⟨(),⟨⟨(mT Y),trivial⟩,sA⟩,d,trivial⟩) λa=>je<|sD 46 (up>128) (λa=>bX 5 Z<|⟨(),⟨⟨(mT Y),trivial⟩,sA⟩,d,trivial⟩) λa=>GO d 1 [1800]<|gY<|cS (R2 q (J.ag (mF 1)) d.ao) λ_ a=>bX 3 Z<|⟨(),⟨⟨(mB (!decide (nt q.v)) (by rw[acI];simp only[acr,acJ,adM,ne_eq,adt,adE,ae3,aeM,ach,aed,adX,aem,adY,adq]<;>exact⟨λh hx=>h hx.2,λh hx=>h ⟨Y,hx⟩⟩)),trivial⟩,sA⟩,a,trivial⟩
 rintro _ V _⟨g,_⟩;refine cD (¬(((1<=n/\n<=128)/\(0<=B/\B<=128)/\0<=up/\up<=128)/\nt q.v)) (λd=>RC 7 [nS]<|(by let a:=(g.aj 0 Z);let w0:=X.bU a;let S:([]:aR)=pj q.v n B up sz (C.map bL.v):=(by unfold pj;rw[ab9 (show ¬(DU n B up/\nt q.v) from d)]);let u:=aF.nil (enc:=ca) (E:=3) (sz:=1) fR;rw[S] at u;exact⟨_,_,_,_,rfl,u,w0⟩)) λd=>Q 3 ?_;let⟨N,M⟩:DU n B up/\nt q.v:=adg.1 d;let a:=N;unfold DU at a;let⟨T,y1⟩:=r M;let a:=Pa M;replace T:¬(q.aB=1\/q.aB=2)\/(1<=sz/\sz<=9):=T;replace a:1<=q.aB/\q.aB<=6:=a;refine GC g 7 [0]<|eQ g 0 [1,2,3,4,5,6] (γ:=Unit) (λ_ R=>⟨[(13,I (lP q.v))],R,0,True⟩) ?_ ?_
 ·exact GC g 14 [0]<|cE q.aB 4 (λa=>Q 2<|cT _ (acJ.2 a)<|lq 4 Z<|⟨(),⟨⟨(aev (b:=I 3) kr (acd (λz=>Value.int .i64 z) (show 3=lP q.v from by unfold lP;rw[aca (by simp only[aA.v];omega)]))),trivial⟩,sA⟩,g,trivial⟩) λa=>Q 6<|cE q.aB 5 (λa=>Q 2<|cT _ (acJ.2 a)<|lq 4 Z<|⟨(),⟨⟨(aev (b:=I 3) kr (acd (λz=>Value.int .i64 z) (show 3=lP q.v from by unfold lP;rw[aca (by simp only[aA.v];omega)]))),trivial⟩,sA⟩,g,trivial⟩) λa=>Q 5<|cE q.aB 6 (λa=>lq 4 Z<|⟨(),⟨⟨(aev (b:=I 3) kr (acd (λz=>Value.int .i64 z) (show 3=lP q.v from by unfold lP;rw[aca (by simp only[aA.v];omega)]))),trivial⟩,sA⟩,g,trivial⟩) λa=>lq 2 Z<|⟨(),⟨⟨(aev (b:=I q.aS) kr (acd (λz=>Value.int .i64 z) (show q.aS=lP q.v from by unfold lP;rw[ab9 (by simp only[aA.v];omega)];rfl))),trivial⟩,sA⟩,g,trivial⟩
 rintro _ V _⟨a,_⟩;refine Q 2<|aI a zeroValue386 λU _ a=>let d:X W _ ((iO U 386 [] ((List.replicate 128 false).flatMap rb) [])::aW l (aL q).toArray 115::H::F):=B8 kr a;JO 10<|bF [1,3,4,5,6,13,14] (γ:=Nat×Int×(List Bool)) (λ⟨i,v,K⟩ R=>⟨[(15,I v)],(iO U 386 [] (K.flatMap rb) [])::R,((up-B).toNat)-i,i<=(up-B).toNat/\(v=B+(i:Int))/\(Ar 128 K (Gf q.v n B sz (C.map bL.v) i))⟩) (0,B,(List.replicate 128 false)) ⟨d,Y,Y,(Ar.zero (λm=>rfl))⟩<|λ⟨i,v,K⟩ V _⟨D,a,e,hM⟩=>let R0:=hM.1;Q 8<|CD (v<up) (λXz=>Q 12<|(by let a:i=(up-B).toNat:=(by omega);let L:Ar (128) K (wt q.v n B up sz (C.map bL.v)):=(by rw[a] at hM;exact hM);let a:=hM.1;refine Q 1<|aaF D 0 (LF (λ_=>rfl) hM.1) (isAgg386 _) (sizeOf386 _)<|JO 4<|bF [92] (γ:=Nat×aR×SO) (λ⟨m,p,o,x,l,r⟩ R=>⟨[(93,I m),(21,.slice o x l)],r::R,128-m,m<=128/\(p=(gJ m).filter (wt q.v n B up sz (C.map bL.v)))/\aF ca 3 1 o x l p r⟩) (0,[],none,0,0,[]) ⟨(X.bU D),Y,by rfl,(aF.nil (enc:=ca) (E:=3) (sz:=1) fR)⟩ ?_;rintro⟨m,p,o,x,l,r⟩ V _⟨y,a,A,d⟩;let a:=d.ll;refine Q 6<|CD ((m:Int)<128) (λg=>RC 12 [.slice o x l]<|(by let a:=(y.ap [1,1]);let S:p=pj q.v n B up sz (C.map bL.v):=(by unfold pj;rw[aca ⟨N,M⟩,<-M4 N.1,A,show m=128 by omega]);let u:=d;rw[S] at u;exact⟨_,_,_,_,rfl,u,a⟩)) λg=>Q 7 ?_;let⟨a,u⟩:=kU hM.1 (k:=m) Y;refine Z6 (m:Int) m runUnderlying386 sizeOf4 isAgg4 (Qj (f:=λz=> .bool z) u)<|JO 9<|CB a (λh0=>Q 4<|aU (m:Int) 1<|bX 2 Z<|⟨(m+1,p,o,x,l,r),od,bR,y,Y,(by rw[gK,<-L.at u,ab9 h0,<-A,acR]),d⟩) λh0=>?_;let a:p.length<=m:=(by rw[A];exact adG (ade _ _) (by rw[jG];exact acS _));exact Q 3<|ec y #[I m] 3 λ_ _ h1=>dM (nb:=8) h1 d 1 (bl.dO (enc:=ca) (sz:=1) (xs:=[(m:Int)]) fR 1 0 Z Z Z Y) underlying22 (i:=Tryz.t3) kr fR λa l g _ o d=>JO 5<|aU (m:Int) 1<|bX 2 Z<|⟨(m+1,(p++[(m:Int)]),a,(x+1),l,g),od,bR,(d.aj 0 Z),Y,(by rw[gK,<-L.at u,aca h0,<-A]),o⟩)) λXz=>?_;exact GC D 10 [1801]<|cS (Tm q v sz Qz Oz P C (J.ag (mF 2)) (j.fl 2) (λz hz=>(a2 z hz).ag (mF 2)) ⟨T,Y⟩ D.ao) λ_ g=>JO 8<|let a:=X6 (kd:=q.aB) (k:=v) (size:=sz) (t:=(C.map bL.v)) T y1 Y;Q 6<|bF [1,3,4,5,6,13,14,15,16,17] (γ:=Nat×Int×(List Bool)) (λ⟨k,d,o⟩ R=>⟨[(18,I d)],(iO U 386 [] (o.flatMap rb) [])::R,((qv q.aB v sz (C.map bL.v)).toNat)-k,k<=(qv q.aB v sz (C.map bL.v)).toNat/\(d=(pe q.aB v sz (C.map bL.v))+(k:Int))/\(Ar 128 o (λm=>Gf q.v n B sz (C.map bL.v) i m||(List.range k).any λj=>decide (dK ((pe q.aB v sz (C.map bL.v))+(j:Int)) n (lP q.v)=some m)))⟩) (0,(pe q.aB v sz (C.map bL.v)),K) ⟨g,Y,Y,(hM.congr (λm=>by simp))⟩<|λ⟨k,d,o⟩ V _⟨g,a,p,l⟩=>let a:=l.1;Q 6<|aU (pe q.aB v sz (C.map bL.v)) (qv q.aB v sz (C.map bL.v))<|JO 3<|CD (d<((pe q.aB v sz (C.map bL.v))+(qv q.aB v sz (C.map bL.v)))) (λa=>Q 8<|aU v 1<|bX 2 Z<|⟨(i+1,(v+1),o),od,bR,g,Y,Y,(l.congr (λm=>(Lg (s:=q.v) e (by simp only[aA.v];omega)).symm))⟩) λa=>Q 9<|cS (iK d n (lP q.v) g.ao) λ_ g=>JO 12<|CB ((dK d n (lP q.v)).isSome) (λa=>Q 5<|aU d 1<|bX 2 Z<|⟨(k+1,(d+1),o),od,bR,g,Y,Y,(l.none (by rw[<-p];exact Option.not_isSome_iff_eq_none.1 a))⟩) λa=>let⟨c,hc⟩:=aeh.1 a;let a:=Ib hc;let u:(dK d n (lP q.v)).getD 0=c:=(by simp[hc]);let r:dK ((pe q.aB v sz (C.map bL.v))+(k:Int)) n (lP q.v)=some c:=(by rw[<-p];exact hc);Q 2<|let⟨r1,s1⟩:=kU l.1 (k:=(((dK d n (lP q.v)).getD 0).toNat)) Y;zo (b:=U) (off:=0) ((dK d n (lP q.v)).getD 0) (((dK d n (lP q.v)).getD 0).toNat) runUnderlying386 sizeOf4<|MG (enc:=rb) (sz:=1) g fR 0 (((dK d n (lP q.v)).getD 0).toNat) 0 0 r1 true s1 (.bool true) [.bool true] sizeOf4 λ_ a=>JO 5<|aU d 1<|bX 2 Z<|⟨(k+1,(d+1),(o.set (((dK d n (lP q.v)).getD 0).toNat) true)),od,bR,a,Y,Y,(by rw[u];exact Ar.one (c:=c) l r Y)⟩
def MT(q:aA)(n:Int)(m:Int)(up:Int)(g:aA.Ok [H] q)(i:X W w (H::F)):
 Calls prog 298 #[.agg (aL q).toArray,I n,I m,I up] w λe d=>∃(c:cf) (a b:Nat) (G:af),e=.returned (.slice c a b)/\aF ca 3 1 c a b (ol q.v n m up) G/\X W d (G::H::F):=by
 let a:=g.ad.ll;let a:=g.row.le;let f:=g.row.len;let w0:=g.dG.le;let d:=g.dG.len;let a:=g.x.le;let c:=g.x.len;let a:=g.y.le;let b:=g.y.len;let a:=g.ops.ll;let p:=f;let a:=d;let a:=c;let a:=b;refine aq 26 func298 Z<|Q 2<|eD i (aL q) λ_ _ k=>GO k 18 [0,0]<|CE q.aB 2 (λl=>GC k 11 [1800,0]<|cZ (ux q n m up q.kW q.x.a q.x.n q.x.k q.x.l (g.ag (mF 1)) (g.x.fl 1) (λz hz=>(g.xD z hz).ag (mF 1)) (by let h:=Bq q.v;rw[ab9 (show ¬q.v.aB=2 from l)] at h;exact h) k.ao)<|(by rintro _ _⟨f,d,c,_,rfl,i,h0⟩;let b:=h0.ak;let a:=i.ll;exact RO 4 [.slice f d c]<|(by let a:=(b.aj 1 Z);let o:(pj q.v n m up q.kW (q.x.l.map bL.v))=ol q.v n m up:=(by unfold ol;rw[ab9 (show ¬q.v.aB=2 from l)];rfl);let j:=i;exact IK))) λl=>GC k 16 [0,1800,0]<|cZ (ux q n m up (q.row.n:Int) q.x.a q.x.n q.x.k q.x.l (g.ag (mF 1)) (g.x.fl 1) (λz hz=>(g.xD z hz).ag (mF 1)) (by let h:=Bq q.v;rw[aca (show q.v.aB=2 from l),show q.v.row.length=q.row.n from p] at h;exact h) k.ao) ?_;rintro _ _⟨f,d,c,_,rfl,g,a⟩;let b:=a.ak;let a:=g.ll;exact RO 4 [.slice f d c]<|(by let a:=(b.aj 1 Z);let o:(pj q.v n m up (q.row.n:Int) (q.x.l.map bL.v))=ol q.v n m up:=(by unfold ol;rw[aca (show q.v.aB=2 from l),show q.v.row.length=q.row.n from p];rfl);let j:=g;exact IK)
def F5(q:aA)(n:Int)(m:Int)(up:Int)(g:aA.Ok [H] q)(i:X W w (H::F)):
 Calls prog 299 #[.agg (aL q).toArray,I n,I m,I up] w λe d=>∃(c:cf) (a b:Nat) (G:af),e=.returned (.slice c a b)/\aF ca 3 1 c a b (lZ q.v n m up) G/\X W d (G::H::F):=by
 let a:=g.ad.ll;let a:=g.row.le;let f:=g.row.len;let w0:=g.dG.le;let d:=g.dG.len;let a:=g.x.le;let c:=g.x.len;let a:=g.y.le;let b:=g.y.len;let a:=g.ops.ll;let a:=f;let p:=d;let a:=c;let a:=b;refine aq 26 func299 Z<|Q 2<|eD i (aL q) λ_ _ k=>GO k 18 [0,0]<|CE q.aB 2 (λl=>GC k 11 [1800,0]<|cZ (ux q n m up q.kH q.y.a q.y.n q.y.k q.y.l (g.ag (mF 1)) (g.y.fl 1) (λz hz=>(g.yD z hz).ag (mF 1)) (by let h:=BH q.v;rw[ab9 (show ¬q.v.aB=2 from l)] at h;exact h) k.ao)<|(by rintro _ _⟨f,d,c,_,rfl,i,h0⟩;let b:=h0.ak;let a:=i.ll;exact RO 4 [.slice f d c]<|(by let a:=(b.aj 1 Z);let o:(pj q.v n m up q.kH (q.y.l.map bL.v))=lZ q.v n m up:=(by unfold lZ;rw[ab9 (show ¬q.v.aB=2 from l)];rfl);let j:=i;exact IK))) λl=>GC k 16 [0,1800,0]<|cZ (ux q n m up (q.dG.n:Int) q.y.a q.y.n q.y.k q.y.l (g.ag (mF 1)) (g.y.fl 1) (λz hz=>(g.yD z hz).ag (mF 1)) (by let h:=BH q.v;rw[aca (show q.v.aB=2 from l),show q.v.dG.length=q.dG.n from p] at h;exact h) k.ao) ?_;rintro _ _⟨f,d,c,_,rfl,g,a⟩;let b:=a.ak;let a:=g.ll;exact RO 4 [.slice f d c]<|(by let a:=(b.aj 1 Z);let o:(pj q.v n m up (q.dG.n:Int) (q.y.l.map bL.v))=lZ q.v n m up:=(by unfold lZ;rw[aca (show q.v.aB=2 from l),show q.v.dG.length=q.dG.n from p];rfl);let j:=g;exact IK)
def Ge(c:cf)(d kl:Nat)(l:aR)(a:Int)(b:Int)(f:bl ca 1 [H] c d kl l)(e:X W w (H::F)):
 Ro prog 300 #[.slice c d kl,I a,I b] (.bool (mm l a b)) W w (H::F):=by
 let h0:=f.ll;exact aq 24 func300 Z<|Al 14 Z<|bF [1,2,9,10] (γ:=Nat) (λi R=>⟨[(11,I i)],R,d-i,i<=d/\((l.take i).any (λv=>decide (a<=v/\v<b))=false)⟩) 0 ⟨e,Y,by rfl⟩<|λi V _⟨g,c,e⟩=>Al 6 Z<|CD ((i:Int)<d) (λc=>Am 11 Z<|fc [.bool false]<|⟨by rw[show mm l a b=false from by rw[acj Y] at e;exact e];rfl,g⟩) λc=>GJ 6 Z<|kQ f i λd _ _ f c=>eB g (c.up 0 Z) 0 (I d)<|jOO 9 Z<|SD 18 (a<=d) (λc=>jOO 11 Z<|Tz) λc=>VD 6 Z<|CD (d<b) (λc=>GJ 4 Z<|Tz) λc=>Am 11 Z<|fc [.bool true]<|⟨by rw[show mm l a b=true from Bp (p:=(λv=>decide (a<=v/\v<b))) f (acg Y)];rfl,g⟩
def Lx(q:aA)(w0:Int)(h0:Int)(tw:Int)(th:Int)(r:dY)(k:aA.Ok [H] q)(l:X W w (H::F)):
 Calls prog 261 #[.agg (aL q).toArray,I w0,I h0,I tw,I th,.agg (ep r).toArray] w λe g=>∃(f:cf) (c d:Nat) (G:af),e=.returned (.slice f c d)/\aF ca 3 1 f c d (lz q.v w0 h0 tw th r) G/\X W g (G::H::F):=by
 let c:=k.ad.ll;let c:=k.row.ll;let c:=k.dG.ll;let c:=k.x.ll;let c:=k.y.ll;let c:=k.ops.ll;refine aq 87 func261 Z<|Q 2<|eD l (aL q) λ_ _ c=>eD c (ep r) λ_ _ c=>JO 9<|cS (uh w0 h0 tw th c.ao) λ_ l=>JO 13<|sE 30 (bI w0 h0 tw th) 0 (λf=>RO 13 [nS]<|(by let c:=(l.ap [0,0]);let d:=X.bU c;let s:([]:aR)=lz q.v w0 h0 tw th r:=(by rw[zp (λhf=>by let g:=mR hf;omega)]);let m:=aF.nil (enc:=ca) (E:=3) (sz:=1) fR;rw[s] at m;exact⟨_,_,_,_,rfl,m,d⟩)) λf=>JO 5<|cE (eW w0 h0 tw th) 0 (λf=>RC 7 [nS]<|(by let c:=(l.ap [0,0]);let d:=X.bU c;let s:([]:aR)=lz q.v w0 h0 tw th r:=(by rw[zp (λhf=>by let g:=mR hf;omega)]);let m:=aF.nil (enc:=ca) (E:=3) (sz:=1) fR;rw[s] at m;exact⟨_,_,_,_,rfl,m,d⟩)) λf=>Q 3 ?_;let hf:=Om (w:=w0) (h:=h0) (tw:=tw) (th:=th) Y;let g:=mR hf;let c:=hf;unfold iD at c;obtain⟨nx,R0⟩:∃z,z=(bI w0 h0 tw th):=⟨_,rfl⟩;obtain⟨ny,t⟩:∃z,z=(eW w0 h0 tw th):=⟨_,rfl⟩;rw[<-R0,<-t] at g;refine GC l 7 [1801,0,0]<|cZ (MT q w0 r.x0 r.x1 (k.ag (mF 2)) l.ao) ?_;rintro _ _⟨K,J,D,_,rfl,y,c⟩;let d:=c.ak;let c:=y.ll;refine GO d 11 [1802,1,1]<|cZ (F5 q h0 r.y0 r.y1 (k.ag (mF 3)) d.ao) ?_;rintro _ _⟨N,M,L,_,rfl,C,c⟩;let l:=c.ak;let c:=C.ll;refine JO 16<|bF [3,4,13,15,16,48] (γ:=Nat×aR×SO) (λ⟨i,d,k,f,g,n⟩ R=>⟨[(49,I i),(17,.slice k f g)],n::R,ny.toNat-i,i<=ny.toNat/\(d=(gJ (i*nx.toNat)).filter (λi=>mm (ol q.v w0 r.x0 r.x1) (i%(bI w0 h0 tw th)*tw) ((i%(bI w0 h0 tw th)+1)*tw)&&mm (lZ q.v h0 r.y0 r.y1) (i/(bI w0 h0 tw th)*th) ((i/(bI w0 h0 tw th)+1)*th)))/\aF ca 3 1 k f g d n⟩) (0,[],none,0,0,[]) ⟨(X.bU l),Y,(by rw[ae5];rfl),(aF.nil (enc:=ca) (E:=3) (sz:=1) fR)⟩ ?_;rintro⟨i,d,k,f,g,n⟩ V _⟨o,c,p,l⟩;let c:=l.ll;refine Q 6<|CD ((i:Int)<(eW w0 h0 tw th)) (λh1=>RC 12 [.slice k f g]<|(by let c:=(o.ap [1,1,1,1]);let s:d=lz q.v w0 h0 tw th r:=(by unfold lz;rw[p,show i*nx.toNat=CS w0 h0 tw th by unfold CS;rw[show i=ny.toNat by omega,<-R0,<-t,ac6 nx ny,Int.toNat_mul Y Y]]);let m:=l;rw[s] at m;exact⟨_,_,_,_,rfl,m,c⟩)) λh1=>Q 17<|bF [3,4,13,15,16,48,49,18,52] (γ:=Nat×aR×SO) (λ⟨j,u,t,v,m,s⟩ R=>⟨[(53,I j),(17,.slice t v m)],s::R,nx.toNat-j,j<=nx.toNat/\(u=(gJ (i*nx.toNat+j)).filter (λi=>mm (ol q.v w0 r.x0 r.x1) (i%(bI w0 h0 tw th)*tw) ((i%(bI w0 h0 tw th)+1)*tw)&&mm (lZ q.v h0 r.y0 r.y1) (i/(bI w0 h0 tw th)*th) ((i/(bI w0 h0 tw th)+1)*th)))/\aF ca 3 1 t v m u s⟩) (0,d,k,f,g,n) ⟨o,Y,(by rw[adB];exact p),l⟩ ?_;rintro⟨j,u,t,v,m,s⟩ V _⟨d,c,x,f⟩;let c:=f.ll;refine Q 6<|CD ((j:Int)<(bI w0 h0 tw th)) (λc=>Q 7<|aU (i:Int) 1<|bX 2 Z<|⟨(i+1,u,t,v,m,s),od,bR,d,Y,(by rw[ac1,adi,x,show j=nx.toNat by omega]),f⟩) λc=>Q 11<|let c:=el (a:=(j:Int)) (b:=tw) (A:=128) (B:=64) Y Y;let c:=el (a:=(j:Int)+1) (b:=tw) (A:=129) (B:=64) Y Y;let c:=el (a:=(i:Int)) (b:=th) (A:=128) (B:=64) Y Y;let c:=el (a:=(i:Int)+1) (b:=th) (A:=129) (B:=64) Y Y;let c:=el (a:=(i:Int)) (b:=(bI w0 h0 tw th)) (A:=128) (B:=128) Y Y;Q 4<|ei (j:Int) tw<|bf<|aU (j:Int) 1<|bf<|ei ((j:Int)+1) tw<|cS (Ge K J D (ol q.v w0 r.x0 r.x1) ((j:Int)*tw) (((j:Int)+1)*tw) (bl.ao (y.dt 2 (by rfl))) d.ao) λ_ c=>bf<|SB 65 (mm (ol q.v w0 r.x0 r.x1) ((j:Int)*tw) (((j:Int)+1)*tw)) (λp=>JO 17<|aU (j:Int) 1<|bX 2 Z<|(by let jg:=qh (nx:=(bI w0 h0 tw th)) (i:=(i:Int)) (j:=(j:Int)) Y;let l:((i*nx.toNat+j:Nat):Int)=(i:Int)*(bI w0 h0 tw th)+(j:Int):=(by push_cast;rw[acF Y,<-R0]);let o:(λi=>mm (ol q.v w0 r.x0 r.x1) (i%(bI w0 h0 tw th)*tw) ((i%(bI w0 h0 tw th)+1)*tw)&&mm (lZ q.v h0 r.y0 r.y1) (i/(bI w0 h0 tw th)*th) ((i/(bI w0 h0 tw th)+1)*th)) ((i*nx.toNat+j:Nat):Int)=false:=(by rw[l];dsimp only;rw[jg.1,jg.2];simp[p]);exact⟨(j+1,u,t,v,m,s),od,bR,c,Y,(by rw[show i*nx.toNat+(j+1)=i*nx.toNat+j+1 by omega,gK,ab9 (λh=>adk (o.symm.trans h)),<-x,acR]),f⟩)) λp=>?_;exact gw<|gY<|ei (i:Int) th<|bf<|gY<|aU (i:Int) 1<|bf<|gY<|ei ((i:Int)+1) th<|gY<|cS (Ge N M L (lZ q.v h0 r.y0 r.y1) ((i:Int)*th) (((i:Int)+1)*th) (bl.ao (C.dt 1 (by rfl))) c.ao) λ_ d=>JO 3<|CB (mm (lZ q.v h0 r.y0 r.y1) ((i:Int)*th) (((i:Int)+1)*th)) (λn=>Q 4<|aU (j:Int) 1<|bX 2 Z<|(by let jg:=qh (nx:=(bI w0 h0 tw th)) (i:=(i:Int)) (j:=(j:Int)) Y;let l:((i*nx.toNat+j:Nat):Int)=(i:Int)*(bI w0 h0 tw th)+(j:Int):=(by push_cast;rw[acF Y,<-R0]);let o:(λi=>mm (ol q.v w0 r.x0 r.x1) (i%(bI w0 h0 tw th)*tw) ((i%(bI w0 h0 tw th)+1)*tw)&&mm (lZ q.v h0 r.y0 r.y1) (i/(bI w0 h0 tw th)*th) ((i/(bI w0 h0 tw th)+1)*th)) ((i*nx.toNat+j:Nat):Int)=false:=(by rw[l];dsimp only;rw[jg.1,jg.2];simp[p,n]);exact⟨(j+1,u,t,v,m,s),od,bR,d,Y,(by rw[show i*nx.toNat+(j+1)=i*nx.toNat+j+1 by omega,gK,ab9 (λh=>adk (o.symm.trans h)),<-x,acR]),f⟩)) λn=>let c:u.length<=i*nx.toNat+j:=(by rw[x];exact adG (ade _ _) (by rw[jG];exact acS _));let c:i*nx.toNat<=16384:=(by let:=aff (show i<=128 by omega) (show nx.toNat<=128 by omega);omega);Q 4<|ei (i:Int) (bI w0 h0 tw th)<|bf<|aU ((i:Int)*(bI w0 h0 tw th)) (j:Int)<|ec d #[I (((i:Int)*(bI w0 h0 tw th))+(j:Int))] 3 λ_ _ c=>dM (nb:=8) c f 1 (bl.dO (enc:=ca) (sz:=1) (xs:=[(((i:Int)*(bI w0 h0 tw th))+(j:Int))]) fR 1 0 Z Z Z Y) underlying22 (i:=Tryz.t3) kr fR λc g f _ k d=>JO 5<|aU (j:Int) 1<|bX 2 Z<|let jg:=qh (nx:=(bI w0 h0 tw th)) (i:=(i:Int)) (j:=(j:Int)) Y;let l:((i*nx.toNat+j:Nat):Int)=(i:Int)*(bI w0 h0 tw th)+(j:Int):=(by push_cast;rw[acF Y,<-R0]);let o:(λi=>mm (ol q.v w0 r.x0 r.x1) (i%(bI w0 h0 tw th)*tw) ((i%(bI w0 h0 tw th)+1)*tw)&&mm (lZ q.v h0 r.y0 r.y1) (i/(bI w0 h0 tw th)*th) ((i/(bI w0 h0 tw th)+1)*th)) ((i*nx.toNat+j:Nat):Int)=true:=(by rw[l];dsimp only;rw[jg.1,jg.2];simp[p,n]);⟨(j+1,(u++[(((i:Int)*(bI w0 h0 tw th))+(j:Int))]),c,(v+1),g,f),od,bR,(d.aj 0 Z),Y,(by rw[show i*nx.toNat+(j+1)=i*nx.toNat+j+1 by omega,gK,aca o,<-x,l]),k⟩
end
end Go.Proofs.YtmfebppagcejcaaGreat
