import Derived.Test.YtmfebppagcejcaaGreatMWYXDAGQ1Graph
namespace Go.Proofs.YtmfebppagcejcaaGreat
open Go Go.E Go.Proofs.Tryz
set_option linter.all false
set_option maxRecDepth 100000
set_option maxHeartbeats 2000000
section
variable{W w:World}{H:af}{F:cj}
variable{x y:Sp}
def aaK{o:fJ}(h:o.code=5):kY o x y=⟨Fc x y,EB x y⟩:=by
 unfold kY Fc EB;cases hp:jD x y
 ·rw[aca ⟨h,rfl⟩];rfl
 ·rw[ab9 (by simp),aca Z,aca Z];unfold eb;rw[ab9 (by omega),ab9 (by omega),ab9 (by omega),ab9 (by omega),ab9 (by omega),aca h]
def D4{o:fJ}(h:¬o.code=5):kY o x y=eb o x y 1 1:=by unfold kY;rw[ab9 (λk=>h k.1)]
variable{a b:Int}
def M5{o:fJ}{d:Bool}(g:kY o x y=⟨a,b⟩)(c:l8 o x y=d):fx o x y 1 1↔(d=true/\(-17592186044416<=a/\a<=17592186044416)/\-17592186044416<=b/\b<=17592186044416):=by
 unfold fx;rw[c];by_cases f:d=true
 ·exact(by let e:eb o x y 1 1=⟨a,b⟩:=(by rw[<-g];unfold kY;rw[ab9];rintro⟨a,hp⟩;rw[f] at c;unfold l8 at c;rw[aca a,hp] at c;cases c);rw[e])
 ·exact⟨λh=>absurd h.1 f,λh=>absurd h.1 f⟩
def J6{o:fJ}(h:3<=o.code):eb o x y a b=eb o x y 1 1:=by
 have h0:¬o.code=0:=(by omega);have h1:¬o.code=1:=(by omega);have c:¬o.code=2:=(by omega);simp only[eb,h0,h1,c,adR]
variable{z:Sp}
def Ww{o:fJ}(h:10<=o.code):eb o x y a b=eb o x z a b:=by
 have h0:¬o.code=0:=(by omega);have h1:¬o.code=1:=(by omega);have k:¬o.code=2:=(by omega);have j:¬o.code=3:=(by omega);have i:¬o.code=4:=(by omega);have g:¬o.code=5:=(by omega);have f:¬o.code=6:=(by omega);have e:¬o.code=7:=(by omega);have d:¬o.code=8:=(by omega);have c:¬o.code=9:=(by omega);simp only[eb,h0,h1,k,j,i,g,f,e,d,c,adR]
def Sz{o:fJ}(h:10<=o.code):l8 o x y=l8 o x z:=by unfold l8;rw[ab9 (by omega),ab9 (by omega)]
def UD{o:fJ}{st:List Sp}(hc:3<=o.code/\o.code<=11)(hx:st[st.length-(bA o.code).toNat]?=some x)(hy:st[st.length-1]?=some y):
 Jv o st=x/\eb o x (Fi o st) a b=eb o x y 1 1/\(fx o x (Fi o st) a b↔fx o x y 1 1):=by
 let h1:Jv o st=x:=by unfold Jv;rw[aca (by unfold bA;split;omega;split<;>omega),hx];rfl
 let c:eb o x (Fi o st) a b=eb o x y 1 1/\l8 o x (Fi o st)=l8 o x y:=by
  by_cases h:10<=o.code
  ·exact⟨(J6 Y).trans (Ww h),Sz h⟩
  ·exact(by let e:Fi o st=y:=(by unfold Fi;rw[aca (by unfold bA;exact Gc),hy];rfl);rw[e];exact⟨J6 Y,rfl⟩)
 exact⟨h1,c.1,by unfold fx;rw[c.1,c.2]⟩
def We{o:fJ}{l:List fJ}{st m:List Sp}(hc:3<=o.code/\o.code<=11)(hx:st[st.length-(bA o.code).toNat]?=some x)(hy:st[st.length-1]?=some y)(e:fx o x y 1 1)(f:m=st.take (st.length-(bA o.code).toNat)):
 kL a b (o::l) st=kL a b l (m++[eb o x y 1 1]):=by
 let⟨h1,c,d⟩:=UD (a:=a) (b:=b) hc hx hy;subst f;rw[kL,h1,c,aca (d.2 e)]
def Uz{o:fJ}{l:List fJ}{st:List Sp}(hc:3<=o.code/\o.code<=11)(hx:st[st.length-(bA o.code).toNat]?=some x)(hy:st[st.length-1]?=some y)(d:¬fx o x y 1 1):kL a b (o::l) st=none:=by
 obtain⟨h1,c,c⟩:=UD (a:=a) (b:=b) hc hx hy;rw[kL,h1,ab9 (λk=>d (c.1 k))]
def C5{o:fJ}{l:List fJ}{st:List Sp}(hc:0<=o.code/\o.code<=2)(hz:eb o ⟨0,0⟩ ⟨0,0⟩ a b=z)(d:j7 z):kL a b (o::l) st=kL a b l (st++[z]):=by
 let f:bA o.code=0:=by unfold bA;rw[aca (by omega)]
 let h1:Jv o st=⟨0,0⟩:=by unfold Jv;rw[ab9 (by omega)]
 let e:Fi o st=⟨0,0⟩:=by unfold Fi;rw[ab9 (by omega)]
 let c:l8 o ⟨0,0⟩ ⟨0,0⟩=true:=by unfold l8;rw[ab9 (by omega)]
 rw[kL,h1,e,aca ⟨c,by rw[hz];exact d.1,by rw[hz];exact d.2⟩,hz,f];congr 1;exact Vb
def xK{o:fJ}(h:fx o x y 1 1):kY o x y=eb o x y 1 1:=by
 unfold kY;rw[ab9];rintro⟨a,hp⟩;let h1:=h.1;unfold l8 at h1;rw[aca a,hp] at h1;cases h1
def A6(o:fJ)(x:Sp)(y:Sp)(hx:j7 x)(hy:j7 y)(hc:3<=o.code/\o.code<=11)(a:nM o)(b:X W w (H::F)):
 Ro prog 312 #[.agg #[I o.code,I o.arg],.agg #[I x.lo,I x.hi],.agg #[I y.lo,I y.hi]] (.tuple #[.agg #[I ((kY o x y).lo),I ((kY o x y).hi)],.bool (decide (fx o x y 1 1))]) W w (H::F):=by
 let a:=hx.1;let a:=hx.2;let a:=hy.1;let a:=hy.2;refine aq 125 func312 Z<|Q 2<|eD b [I o.code,I o.arg] λ_ _ a=>eD a [I x.lo,I x.hi] λ_ _ a=>eD a [I y.lo,I y.hi] λ_ _ a=>aI a zeroValue358 λ_ _ a=>JO 5<|aI a zeroValue358 λb _ l=>JO 7<|eQ l 1 [6,8] (γ:=Int×Int×Bool) (λ⟨e,c,a⟩ R=>⟨[(9,.bool a)],aW b #[I e,I c] 358::R,0,(kY o x y=⟨e,c⟩)/\(l8 o x y=a)⟩) ?_ ?_;rotate_left
 ·exact(by rintro⟨e,c,a⟩ V _⟨g,k,f⟩;exact Q 1<|bC (a=true) (λd=>bJ g [5,10,12] (fb 0 0 0 2<|fn) [1,2,3,0,4,5,6,7,8,9,10,11,12,13] λ_ a=>wV 2<|jy 115 _ false (ad2.2 d)<|wV 1<|wG 0 2<|wV 1<|wO Z<|bf<|nZ a [0]<|wV 4<|wO Z<|bf<|nZ a [0]<|wV 1<|wO Z<|bP a 1 Z [I e,I c] λ_ a=>nA<|wV 1<|wN<|DX 2 a 1 [I e,I c] (.bool false)<|(by let b:=(a.ap [0,0,0,0,0]);exact V7)) λd=>bJ g [5,9,10,12] (fb 0 0 0 2<|fb 4 0 0 1<|fn) [1,2,3,0,4,5,6,7,8,9,10,11,12,13] λ_ a=>wV 2<|jy 115 _ true d<|wV 1<|wG 0 2<|wL 2<|wO Z<|gY<|cS (gU e a.ao) λ_ a=>nZ a [0]<|wV 2<|bC ((-17592186044416:Int)<=e/\e<=17592186044416) (λd=>jy 120 _ false (acb d)<|wV 1<|wO Z<|bf<|nZ a [0]<|wO Z<|bf<|nZ a [0]<|wV 1<|wO Z<|bP a 1 Z [I e,I c] λ_ h0=>nA<|wV 1<|wN<|DX 2 h0 1 [I e,I c] (.bool false)<|(by let b:=(h0.ap [0,0,0,0,0]);exact V7)) λd=>jy 120 _ true (acg d)<|wV 1<|wO Z<|gY<|sM a 0 1 (I c)<|nZ a [0]<|wO Z<|gY<|cS (gU c a.ao) λ_ a=>nZ a [0]<|wV 1<|wO Z<|bP a 1 Z [I e,I c] λ_ a=>nA<|wV 1<|wN<|DX 2 a 1 [I e,I c] (.bool (decide ((-17592186044416:Int)<=c/\c<=17592186044416)))<|(by let b:=(a.ap [0,0,0,0,0]);let i:=M5 k f;let j:decide (fx o x y 1 1)=decide ((-17592186044416:Int)<=c/\c<=17592186044416):=ad6.2 (i.trans ⟨λh=>h.2.2,λh=>⟨by assumption,Y,h⟩⟩);exact⟨by rw[j,k];rfl,b⟩))
 refine GC l 13 [4]<|cE o.code 3 (λb=>GC l 5 [3,2]<|aU x.lo y.lo<|GO l 4 [3,2]<|aU x.hi y.hi<|bf<|bP l 0 Z [I (x.lo+y.lo),I (x.hi+y.hi)] λ_ a=>bX 2 Z<|⟨((x.lo+y.lo),(x.hi+y.hi),true),bR,a,(by rw[D4 Y];exact Va),pM⟩) λb=>Q 6<|cE o.code 4 (λw0=>GC l 5 [3,2]<|dP x.lo y.hi<|GO l 4 [3,2]<|dP x.hi y.lo<|bf<|bP l 0 Z [I (x.lo-y.hi),I (x.hi-y.lo)] λ_ a=>bX 2 Z<|⟨((x.lo-y.hi),(x.hi-y.lo),true),bR,a,(by rw[D4 Y];exact TT),pM⟩) λw0=>Q 6<|cE o.code 5 (λb=>GC l 3 [203,202]<|cS (K5 x y B4 B4 l.ao) λ_ a=>gw<|bP a 0 Z [I (Fc x y),I (EB x y)] λ_ a=>bX 3 Z<|⟨((Fc x y),(EB x y),(jD x y)),bR,a,(aaK Y),(by unfold l8;exact qk)⟩) λb=>?_;refine Q 6<|cE o.code 6 (λb=>GC l 5 [3,2]<|bh (I (min x.lo y.lo)) Z Z (iY x.lo y.lo Z Z kr kr)<|GO l 4 [3,2]<|bh (I (min x.hi y.hi)) Z Z (iY x.hi y.hi Z Z kr kr)<|bf<|bP l 0 Z [I (min x.lo y.lo),I (min x.hi y.hi)] λ_ a=>bX 2 Z<|⟨((min x.lo y.lo),(min x.hi y.hi),true),bR,a,(by rw[D4 Y];exact Ux),pM⟩) λb=>Q 6<|cE o.code 7 (λb=>GC l 5 [3,2]<|bh (I (max x.lo y.lo)) Z Z (gV x.lo y.lo Z Z kr kr)<|GO l 4 [3,2]<|bh (I (max x.hi y.hi)) Z Z (gV x.hi y.hi Z Z kr kr)<|bf<|bP l 0 Z [I (max x.lo y.lo),I (max x.hi y.hi)] λ_ a=>bX 2 Z<|⟨((max x.lo y.lo),(max x.hi y.hi),true),bR,a,(by rw[D4 Y];exact TL),pM⟩) λb=>Q 6<|cE o.code 8 (λb=>GC l 5 [3,2]<|dP x.hi y.lo<|GO l 4 [2,3]<|dP y.hi x.lo<|bh (I (max (x.hi-y.lo) (y.hi-x.lo))) Z Z (gV (x.hi-y.lo) (y.hi-x.lo) Z Z kr kr)<|bf<|bP l 0 Z [I 0,I (max (x.hi-y.lo) (y.hi-x.lo))] λ_ a=>bX 2 Z<|⟨(0,(max (x.hi-y.lo) (y.hi-x.lo)),true),bR,a,(by rw[D4 Y];exact UK),pM⟩) λb=>Q 6<|cE o.code 9 (λh1=>bJ l [1,4,6] (fb 0 3 0 2<|fb 3 3 0 2<|fn) [0,3,1,2,4,5,6] λ_ a=>wG 0 2<|wG 2 2<|wO Z<|cS (oB x B4 a.ao) λ_ a=>nZ a [3]<|wY (I (-(max (((x.lo).natAbs:Nat):Int) (((x.hi).natAbs:Nat):Int)))) Z (λw _=>wi (max (((x.lo).natAbs:Nat):Int) (((x.hi).natAbs:Nat):Int)) Z kr)<|wO Z<|cS (oB x B4 a.ao) λ_ a=>nA<|wV 1<|wO Z<|bP a 0 Z [I (-(max (((x.lo).natAbs:Nat):Int) (((x.hi).natAbs:Nat):Int))),I (max (((x.lo).natAbs:Nat):Int) (((x.hi).natAbs:Nat):Int))] λ_ a=>nA<|wN<|mI 1 Z<|⟨((-(max (((x.lo).natAbs:Nat):Int) (((x.hi).natAbs:Nat):Int))),(max (((x.lo).natAbs:Nat):Int) (((x.hi).natAbs:Nat):Int)),true),bR,a,(by rw[D4 Y];exact Ul),pM⟩) λh1=>?_;exact Q 6<|CE o.code 10 (λb=>Q 6<|(by let a:o.code=11:=Y;exact cT _ (acJ.2 a)<|GC l 2 [203]<|cS (oB x B4 l.ao) λ_ a=>bf<|bP a 0 Z [I 0,I (max (((x.lo).natAbs:Nat):Int) (((x.hi).natAbs:Nat):Int))] λ_ a=>bX 2 Z<|⟨(0,(max (((x.lo).natAbs:Nat):Int) (((x.hi).natAbs:Nat):Int)),true),bR,a,(by rw[D4 Y];exact Vc),pM⟩)) λb=>GC l 7 [3,3,4]<|cS (Dq x.lo x.hi o.arg l.ao) λ_ a=>je<|sT a 0 0 (I (bk x.lo o.arg)) [I (bk x.lo o.arg)] #[I (bk x.lo o.arg),I 0] sizeOf3 λ_ a=>bf<|sT a 0 1 (I (bk x.hi o.arg)) [I (bk x.hi o.arg)] #[I (bk x.lo o.arg),I (bk x.hi o.arg)] sizeOf3 λ_ a=>bX 2 Z<|⟨((bk x.lo o.arg),(bk x.hi o.arg),true),bR,a,(by rw[D4 Y];exact Vy),pM⟩
def qf(f:cf)(nx d:Nat)(x:List fJ)(a:Int)(b:Int)(hx:bl gA 2 [H] f nx d x)(g:X W w (H::F)):
 Ro prog 276 #[.slice f nx d,I a,I b] (.tuple #[I ((fI x a b).1),I ((fI x a b).2.1),I ((fI x a b).2.2)]) W w (H::F):=by
 have c:=hx.ll;refine aq 115 func276 Z<|Q 11<|cS (vt f nx d x true (hx.fl 0) g.ao) λ_ d=>JO 9<|CN (cH x true) 0 (λc=>RC 10 [I 0,I 0,I (cH x true)]<|⟨wj,d⟩) λc=>Q 8<|sD 27 (a<1) (λc=>RO 23 [I 0,I 0,I 2]<|⟨wj,d⟩) λc=>je<|sD 31 (a>4294967296) (λc=>RO 19 [I 0,I 0,I 2]<|⟨wj,d⟩) λc=>je<|sD 35 (b<1) (λc=>RO 15 [I 0,I 0,I 2]<|⟨wj,d⟩) λc=>JO 5<|cD (b>4294967296) (λc=>RC 9 [I 0,I 0,I 2]<|⟨wj,d⟩) λc=>Q 3 ?_;obtain⟨c,c,c⟩:=lJ (l:=x) (two:=true) Y;refine Q 13<|bF [1,2,39,40] (γ:=Nat×(List Sp)×SO) (λ⟨i,r,K,q,B,c⟩ R=>⟨[(41,I i),(10,.slice K q B)],c::R,nx-i,i<=nx/\(kL a b x []=kL a b (x.drop i) r)/\(fL true (x.drop i) (r.length:Int)=0)/\(∀z∈r,j7 z)/\(r.length<=i)/\aF rA 358 2 K q B r c⟩) (0,[],none,0,0,[]) ⟨(X.bU d),Y,by rfl,(lJ (l:=x) (two:=true) Y).1,pG,by simp,(aF.nil (enc:=rA) (E:=358) (sz:=2) fR)⟩ ?_;rintro⟨i,r,K,q,B,c⟩ V _⟨n,c,G,o,J,c,A⟩;have c:=A.ll;refine Q 6<|CD ((i:Int)<nx) (λp=>Q 6<|(by have hh:fL true (x.drop i) r.length=0:=o;rw[acO Y] at hh;have c:r.length=1:=NX;obtain⟨g,c,c,j,d,f,c⟩:=aF.elem A 0;change _[0]?=_ at j;change na _ _ (_+0*_) _ at d;change nJ _ _ _ _ _ (_+0*_) at f;have c:j7 g:=J g (ab8 j);refine bJ n [] (fq 3 0 (d.up 0 Z)<|fq 7 1 (d.up 0 Z)<|fn) [0,1,2,4,5,6,3,8,7,9,10] λ_ c=>wV 1<|wI f<|wV 2<|wI f<|wV 1<|wL 0<|wV 1<|wL 1<|wV 2<|wN<|RX 2 [I g.lo,I g.hi,I 0] ?_;have f:=(c.aj 0 Z);have L:cH x true=0:=(by omega);have M:fI x a b=(match kL a b x [] with|some st=>((st[0]?.getD (⟨0,0⟩:Sp)).lo,(st[0]?.getD (⟨0,0⟩:Sp)).hi,0)|none=>(0,0,11)):=MN;have d:kL a b x []=some r:=(by rw[G,acO Y];rfl);have c:r[0]?=some g:=j;exact⟨by rw[M,d];dsimp only;rw[c];rfl,f⟩)) λp=>?_;refine Q 6<|kQ hx i λj _ _ C f=>?_;obtain⟨d,p,N⟩:=tu (by rw[<-dZ C];exact o);have h1:=pd j.code;have c:=kC j.code;have c:(0<=j.code/\j.code<=11)/\bA j.code<=r.length:=(by unfold ur at d;omega);have R0:3<=j.code->1<=bA j.code:=TY;refine lv n (f.up 1 Z) 0 [I j.code,I j.arg]<|aI n zeroValue119 λ_ _ c=>bP c 0 Z [I j.code,I j.arg] λ_ o=>GO o 16 [0]<|cE j.code 0 (λc=>?_) (λc=>?_)
 ·refine Q 5<|ec o #[I 0,I a] 358 λ_ _ c=>dM (nb:=16) c A 2 (bl.dO (enc:=rA) (sz:=2) (xs:=[(⟨0,a⟩:Sp)]) fR 1 0 Z Z Z Y) underlying356 (i:=Tryz.t358) kr fR λc g f _ n d=>JO 9<|aU (i:Int) 1<|bX 2 Z ?_
  exact⟨(i+1,(r++[(⟨0,a⟩:Sp)]),c,(q+1),g,f),od,bR,(d.ap [0,0]),Y,by rw[G,dZ C];exact C5 Y (by unfold eb;exact qk) M6,by rw[acm];simp only[acu,acX];rw[show((r.length+(0+1):Nat):Int)=(r.length:Int)+(1-bA j.code) from by rw[show bA j.code=0 from by unfold bA;rw[aca Y]];omega];exact N,(by
   intro z hz;rcases acn.1 hz with h|h
   ·exact J z h
   ·simp only[ack] at h;subst h;unfold j7;dsimp only;unfold nM at p;omega),by simp;omega,n⟩
 refine Q 6<|cE j.code 1 (λc=>?_) (λc=>?_)
 ·refine Q 5<|ec o #[I 0,I b] 358 λ_ _ c=>dM (nb:=16) c A 2 (bl.dO (enc:=rA) (sz:=2) (xs:=[(⟨0,b⟩:Sp)]) fR 1 0 Z Z Z Y) underlying356 (i:=Tryz.t358) kr fR λc g f _ n d=>JO 9<|aU (i:Int) 1<|bX 2 Z ?_
  exact⟨(i+1,(r++[(⟨0,b⟩:Sp)]),c,(q+1),g,f),od,bR,(d.ap [0,0]),Y,by rw[G,dZ C];exact C5 Y (by unfold eb;rw[ab9 Y,aca Y]) M6,by rw[acm];simp only[acu,acX];rw[show((r.length+(0+1):Nat):Int)=(r.length:Int)+(1-bA j.code) from by rw[show bA j.code=0 from by unfold bA;rw[aca Y]];omega];exact N,(by
   intro z hz;rcases acn.1 hz with h|h
   ·exact J z h
   ·simp only[ack] at h;subst h;unfold j7;dsimp only;unfold nM at p;omega),by simp;omega,n⟩
 refine Q 6<|cE j.code 2 (λc=>?_) (λc=>?_)
 ·refine GC o 8 [0,0]<|ec o #[I j.arg,I j.arg] 358 λ_ _ c=>dM (nb:=16) c A 2 (bl.dO (enc:=rA) (sz:=2) (xs:=[(⟨j.arg,j.arg⟩:Sp)]) fR 1 0 Z Z Z Y) underlying356 (i:=Tryz.t358) kr fR λc g f _ n d=>JO 9<|aU (i:Int) 1<|bX 2 Z ?_
  exact⟨(i+1,(r++[(⟨j.arg,j.arg⟩:Sp)]),c,(q+1),g,f),od,bR,(d.ap [0,0]),Y,by rw[G,dZ C];exact C5 Y (by unfold eb;rw[ab9 Y,ab9 Y,aca Y]) M6,by rw[acm];simp only[acu,acX];rw[show((r.length+(0+1):Nat):Int)=(r.length:Int)+(1-bA j.code) from by rw[show bA j.code=0 from by unfold bA;rw[aca Y]];omega];exact N,(by
   intro z hz;rcases acn.1 hz with h|h
   ·exact J z h
   ·simp only[ack] at h;subst h;unfold j7;dsimp only;unfold nM at p;omega),by simp;omega,n⟩
 refine Q 4<|have d:3<=j.code:=Y;have c:=R0 d;GC o 3 [0]<|cS (vw j.code o.ao) λ_ g=>have c:(0<=(cR j.code)/\(cR j.code)<=2)/\(¬(0<=j.code/\j.code<=11)\/(cR j.code)=bA j.code):=pd _;JO 12<|dP (q:Int) (cR j.code)<|JO 4 ?_;obtain⟨o,c,c,y,s,f,c⟩:=aF.elem A ((q:Int)-(cR j.code));have c:j7 o:=J o (ab8 y);obtain⟨n,c,c,v,p,d,c⟩:=aF.elem A ((q:Int)-1);have c:j7 n:=J n (ab8 v);refine kA g [10,11,12,13] (fp 3 (s.up 1 Z)<|fp 9 (p.up 1 Z)<|fn) (pS [0,1,2,4,5,6,7,8,3,9]<| .fk 10 11 (.ef 11<| .ef 12<| .ef 13<| .fin) (.ef 10<| .ef 12<| .ef 13<| .fin)) λ_ D=>qV 2<|qI f<|qV 3<|YT (q:Int) 1<|qI d<|qG 0 2<|qG 2 2<|qF ?_ ?_
 ·refine qO Z<|aI D zeroValue358 λ_ _ c=>er ⟨⟨.inr ((s.up 2 Z).cell c (k:=0) Z),.inr ((s.up 2 Z).cell c (k:=1) Z),.inr ((p.up 2 Z).cell c (k:=0) Z),.inr ((p.up 2 Z).cell c (k:=1) Z),trivial⟩,?_⟩;refine qO Z<|aI c zeroValue358 λ_ _ c=>er ⟨⟨.inr ((s.up 3 Z).cell c (k:=0) Z),.inr ((s.up 3 Z).cell c (k:=1) Z),.inr ((p.up 3 Z).cell c (k:=0) Z),.inr ((p.up 3 Z).cell c (k:=1) Z),trivial⟩,?_⟩;refine qO Z<|bP c 1 Z [I o.lo,I o.hi] λ_ c=>er ⟨⟨dI,dI,.inr ((p.up 3 Z).cell c (k:=0) Z),.inr ((p.up 3 Z).cell c (k:=1) Z),trivial⟩,?_⟩;refine qO Z<|bP c 0 Z [I n.lo,I n.hi] λ_ c=>nA<|qN<|GX c 6 [202,201,200]<|cS (A6 j o n B4 B4 Y ‹_› c.ao) λ_ c=>gw<|aI c zeroValue358 λ_ _ c=>bP c 0 Z [I ((kY j o n).lo),I ((kY j o n).hi)] λ_ c=>JO 10<|pk (fx j o n 1 1) (λh0=>RC 14 [I 0,I 0,I 11]<|(by have d:=(c.ap [0,0,0,0,0]);have L:cH x true=0:=(by omega);have M:fI x a b=(match kL a b x [] with|some st=>((st[0]?.getD (⟨0,0⟩:Sp)).lo,(st[0]?.getD (⟨0,0⟩:Sp)).hi,0)|none=>(0,0,11)):=MN;have u:kL a b x []=none:=(by rw[G,dZ C];exact Uz Y SA RN h0);exact⟨by rw[M,u];rfl,d⟩)) λh0=>?_;refine Q 2<|bJ c [4,5] (fb 3 0 0 2<|fn) [0,1,2,3,4,5,6] λ_ c=>wV 2<|wY (.slice (bZ K B 0 2) (((q:Int)-(cR j.code)).toNat-0) (B-0)) Z (λw _=>Vk)<|wG 0 2<|wO Z<|ec c #[I ((kY j o n).lo),I ((kY j o n).hi)] 358 λ_ _ c=>nA<|wO Z<|dM (nb:=16) c (A.part (lo:=0) (hi:=((q:Int)-(cR j.code)).toNat) Y Y) 5 (bl.dO (enc:=rA) (sz:=2) (xs:=[(⟨(kY j o n).lo,(kY j o n).hi⟩:Sp)]) fR 1 0 Z Z Z Y) underlying356 (i:=Tryz.t358) kr fR λc f d _ t g=>nA<|wV 1<|wN<|JX 3<|aU (i:Int) 1<|bX 2 Z ?_
  exact⟨(i+1,(((r.drop 0).take (((q:Int)-(cR j.code)).toNat-0))++[(⟨(kY j o n).lo,(kY j o n).hi⟩:Sp)]),c,((((q:Int)-(cR j.code)).toNat-0)+1),f,d),od,bR,(g.ap [0,0,0,0,0]),Y,by rw[G,dZ C,We (m:=((r.drop 0).take (((q:Int)-(cR j.code)).toNat-0))) Y SA RN h0 Ep,<-xK h0],by simp only[acm,ac5,adS,acu,acX];rw[show((min _ _+(0+1):Nat):Int)=(r.length:Int)+(1-bA j.code) from by omega];exact N,(by
   intro z hz;rcases acn.1 hz with h|h
   ·exact J z (acM (acL h))
   ·simp only[ack] at h;subst h;show j7 (kY _ _ _);rw[xK h0];exact⟨h0.2.1,h0.2.2⟩),by simp;omega,t⟩
 refine qO Z<|aI D zeroValue358 λ_ _ c=>er ⟨⟨.inr ((s.up 2 Z).cell c (k:=0) Z),.inr ((s.up 2 Z).cell c (k:=1) Z),.inr ((p.up 2 Z).cell c (k:=0) Z),.inr ((p.up 2 Z).cell c (k:=1) Z),trivial⟩,?_⟩;refine qO Z<|aI c zeroValue358 λ_ _ c=>er ⟨⟨.inr ((s.up 3 Z).cell c (k:=0) Z),.inr ((s.up 3 Z).cell c (k:=1) Z),.inr ((p.up 3 Z).cell c (k:=0) Z),.inr ((p.up 3 Z).cell c (k:=1) Z),trivial⟩,?_⟩;refine qO Z<|bP c 0 Z [I o.lo,I o.hi] λ_ w0=>er ⟨⟨dI,dI,.inr ((p.up 3 Z).cell w0 (k:=0) Z),.inr ((p.up 3 Z).cell w0 (k:=1) Z),trivial⟩,?_⟩;refine qO Z<|bP w0 1 Z [I n.lo,I n.hi] λ_ c=>nA<|qN<|GX c 6 [202,200,201]<|cS (A6 j o n B4 B4 Y ‹_› c.ao) λ_ c=>gw<|aI c zeroValue358 λ_ _ c=>bP c 0 Z [I ((kY j o n).lo),I ((kY j o n).hi)] λ_ c=>JO 10<|pk (fx j o n 1 1) (λp=>RC 14 [I 0,I 0,I 11]<|(by have d:=(c.ap [0,0,0,0,0]);have L:cH x true=0:=(by omega);have M:fI x a b=(match kL a b x [] with|some st=>((st[0]?.getD (⟨0,0⟩:Sp)).lo,(st[0]?.getD (⟨0,0⟩:Sp)).hi,0)|none=>(0,0,11)):=MN;have u:kL a b x []=none:=(by rw[G,dZ C];exact Uz Y SA RN p);exact⟨by rw[M,u];rfl,d⟩)) λp=>?_;refine Q 2<|bJ c [4,5] (fb 3 0 0 2<|fn) [0,1,2,3,4,5,6] λ_ c=>wV 2<|wY (.slice (bZ K B 0 2) (((q:Int)-(cR j.code)).toNat-0) (B-0)) Z (λw _=>Vk)<|wG 0 2<|wO Z<|ec c #[I ((kY j o n).lo),I ((kY j o n).hi)] 358 λ_ _ c=>nA<|wO Z<|dM (nb:=16) c (A.part (lo:=0) (hi:=((q:Int)-(cR j.code)).toNat) Y Y) 5 (bl.dO (enc:=rA) (sz:=2) (xs:=[(⟨(kY j o n).lo,(kY j o n).hi⟩:Sp)]) fR 1 0 Z Z Z Y) underlying356 (i:=Tryz.t358) kr fR λc g f _ s d=>nA<|wV 1<|wN<|JX 3<|aU (i:Int) 1<|bX 2 Z ?_
 exact⟨(i+1,(((r.drop 0).take (((q:Int)-(cR j.code)).toNat-0))++[(⟨(kY j o n).lo,(kY j o n).hi⟩:Sp)]),c,((((q:Int)-(cR j.code)).toNat-0)+1),g,f),od,bR,(d.ap [0,0,0,0,0]),Y,by rw[G,dZ C,We (m:=((r.drop 0).take (((q:Int)-(cR j.code)).toNat-0))) Y SA RN p Ep,<-xK p],by simp only[acm,ac5,adS,acu,acX];rw[show((min _ _+(0+1):Nat):Int)=(r.length:Int)+(1-bA j.code) from by omega];exact N,(by
  intro z hz;rcases acn.1 hz with h|h
  ·exact J z (acM (acL h))
  ·simp only[ack] at h;subst h;show j7 (kY _ _ _);rw[xK p];exact⟨p.2.1,p.2.2⟩),by simp;omega,s⟩
end
section
variable{W w:World}{H:af}{F:cj}
def AR(s:aY)(a:X W w (H::F)):
 Ro prog 256 #[.agg #[I s.w,I s.h,I s.aG]] (.bool (decide ((1:Int)<=s.w/\s.w<=(128:Int)/\(1:Int)<=s.h/\s.h<=(128:Int)/\s.w*s.h<=(4096:Int)/\(1:Int)<=s.aG/\s.aG<=(4294967296:Int)))) W w (H::F):=by
 exact aq 42 func256 Z<|Q 2<|eD a [I s.w,I s.h,I s.aG] λ_ _ b=>GO b 10 [0]<|sD 8 (s.w<1) (λa=>FO 34<|BX) λa=>GO b 5 [0]<|sD 13 (s.w>128) (λa=>FO 29<|BX) λa=>GO b 5 [0]<|sD 18 (s.h<1) (λa=>FO 24<|BX) λa=>GO b 5 [0]<|sD 23 (s.h>128) (λh0=>FO 19<|BX) λh0=>GO b 5 [0]<|sD 28 (s.aG<1) (λa=>FO 14<|BX) λa=>GO b 6 [0]<|cD (s.aG>4294967296) (λa=>FC 7<|BX) λa=>GC b 8 [0,0]<|cS (vL s.w s.h 4096 od b.ao) λ_ a=>RO 14 [.bool (iL s.w s.h 4096)]<|⟨rB (show iL s.w s.h 4096=_ from ad6.2 Y),(a.aj 0 Z)⟩
def AB(x:Int)(b:X W w (H::F)):
 Ro prog 257 #[I x] (.bool (decide (x=1\/x=2\/x=3))) W w (H::F):=by
 exact aq 13 func257 Z<|V8
def zJ(q:aA)(b:aA.Ok [H] q)(c:X W w (H::F)):
 Ro prog 170 #[.agg (aL q).toArray] (.bool (decide (q.aB=6/\¬q.b=-1))) W w (H::F):=by
 let a:=b.ad.ll;let a:=b.row.ll;let a:=b.dG.ll;let a:=b.x.ll;let h0:=b.y.ll;let a:=b.ops.ll;exact aq 11 func170 Z<|T6
def kD(q:aA)(g:aA.Ok [H] q)(i:X W w (H::F)):
 Calls prog 104 #[.agg (aL q).toArray] w λe h=>∃(f:cf) (a d:Nat) (G:af),e=.returned (.slice f a d)/\aF ca 3 1 f a d (df q.v) G/\X W h (G::H::F):=by
 let a:=g.ad.ll;let a:=g.row.ll;let a:=g.dG.ll;let a:=g.x.ll;let a:=g.y.ll;let a:=g.ops.ll;exact aq 13 func104 Z<|Q 2<|eD i (aL q) λ_ _ a=>GO a 7 [1800]<|cS (zJ q (g.ag (mF 1)) a.ao) λ_ f=>JO 2<|CD (q.aB=6/\¬q.b=-1) (λi=>GC f 6 [0]<|ec f #[I q.a] 3 λa _ d=>RO 4 [.slice (At a 0) 1 1]<|(by let g:=aF.dO (enc:=ca) (sz:=1) (b:=a) (c:=#[I q.a]) (E:=3) (xs:=[q.a]) fR 1 Z Z Z Y;let h0:=(d.aj 1 Z);let h:[q.a]=df q.v:=VH;let d:=g;rw[h] at d;exact⟨_,_,_,_,rfl,d,h0⟩)) λi=>GC f 6 [0,0]<|ec f #[I q.a,I q.b] 3 λa _ f=>RO 5 [.slice (At a 0) 2 2]<|(by let g:=aF.dO (enc:=ca) (sz:=1) (b:=a) (c:=#[I q.a,I q.b]) (E:=3) (xs:=[q.a,q.b]) fR 2 Z Z Z Y;let a:=(f.aj 1 Z);let h:[q.a,q.b]=df q.v:=Vx;let d:=g;rw[h] at d;exact⟨_,_,_,_,rfl,d,a⟩)
def kp{b d:Nat}{q:aA}{k:Int}(f:X W w (aW b (aL q).toArray 115::aW d #[I k] 3::F)):
 Calls prog 295 #[.slice (At d 0) 1 1,Pt b 0] w λe c=>e=.returned (.bool (decide (q.aB=k)))/\X W c (aW b (aL q).toArray 115::aW d #[I k] 3::F):=by
 exact nH 17 func295 Z<|sR<|bf<|zQ<|gw<|nT<|cW<|sS 3<|dd<|sR<|bf<|nT<|cO<|nh<|kT<|cO<|cW<|sR<|bh (Pt d 0) Z Z (rf (a:=(At d 0)) (i:=0) (len:=1) (cap:=1) Z runUnderlying22 sizeOf3 kr kr ⟨_,rfl,fD _ 0 _,by decide,by decide⟩)<|sM f 1 0 (I k)<|bf<|zS<|bf<|sM f 0 0 (I q.aB)<|cG<|nT<|cE q.aB k (λc=>sR<|bf<|zB<|tR<|tK<|fc [.bool true]<|⟨rB ((acg Y).symm),f⟩) λc=>nY<|bN<|tN<|rE<|cG<|nT<|dd<|sR<|bf<|nT<|cO<|B6<|ql<|xB<|tN<|sR<|bf<|zE<|fc [.bool false]<|⟨rB ((acb Y).symm),f⟩
def ZU{W w:World}{O:cj}{q:bc}(h:¬dD q)(a:X W w O):Ending.returned (.bool false)=.returned (.bool (decide (dD q)))/\X W w O:=⟨rB (acb h).symm,a⟩
def fdT{W w:World}{O:cj}{q:bc}(h:dD q)(a:X W w O):Ending.returned (.bool true)=.returned (.bool (decide (dD q)))/\X W w O:=⟨rB (acg h).symm,a⟩
def Ab(q:aA)(b:aA.Ok [H] q)(e:X W w (H::F)):
 Ro prog 255 #[.agg (aL q).toArray] (.bool (decide (dD q.v))) W w (H::F):=by
 let a:=b.ad.ll;let a:=b.row.ll;let a:=b.dG.ll;let a:=b.x.le;have c:=b.x.len;let a:=b.y.le;have d:=b.y.len;let a:=b.ops.ll;let a:(q.x.l.map bL.v).length=q.x.n:=by simp[c]
 let a:(q.y.l.map bL.v).length=q.y.n:=by simp[d]
 refine aq 146 func255 Z<|Q 2<|eD e (aL q) λf _ h0=>GO h0 10 [0]<|sD 12 (q.aB<1) (λb=>FO 14<|Po) λb=>GO h0 6 [0]<|cD (q.aB>6) (λb=>FC 7<|Po) λb=>Q 2<|eQ h0 0 [1] (γ:=Unit) (λ_ R=>⟨[],R,0,((1<=q.aB/\q.aB<=6)/\(q.aB=6\/q.b=-1))⟩) ?_ ?_
 ·exact GC h0 6 [0]<|sN 20 q.aB 6 (λa=>bX 8 Z<|⟨(),bR,h0,Y⟩) λa=>GO h0 6 [0]<|cN q.b (-1) (λa=>lq 1 Z<|⟨(),bR,h0,Y⟩) λa=>FC 7<|Po
 rintro _ V _⟨b,a⟩;refine GC b 10 [0]<|cS (AB q.aB b.ao) λ_ a=>JO 6<|ec a #[I 1] 3 λ_ _ a=>let b:=(a.az [0,1]);Gl #[Pt f 0] call295 (kp b) ?_;rintro _ _⟨rfl,a⟩;refine JO 6<|ec a #[I 2] 3 λ_ _ a=>let b:=(a.az [0,1]);Gl #[Pt f 0] call295 (kp b) ?_;rintro _ _⟨rfl,a⟩;refine JO 6<|ec a #[I 3] 3 λ_ _ a=>let b:=(a.az [0,1]);Gl #[Pt f 0] call295 (kp b) ?_;rintro _ _⟨rfl,g⟩;refine JO 3 ?_;rcases(by omega:q.aB=1\/q.aB=2\/q.aB=3\/q.aB=4\/q.aB=5\/q.aB=6) with a|a|a|a|a|a
 ·refine Q 3<|ec g #[I 6] 3 λ_ _ a=>let b:=(a.az [0,1]);Gl #[Pt f 0] call295 (kp b) ?_;rintro _ _⟨rfl,d⟩;refine JO 7<|let e:q.aB=1\/q.aB=2\/q.aB=3:=Y;ea 42 _ true (acg e)<|Sw<|let a:q.aB=1:=Y;ea 50 _ true (acg a)<|JO 19<|let w0:¬(q.aB=2):=(by omega);ea 69 _ false (acb w0)<|GO d 5 [0]<|SE 74 (q.row.n:Int) 0 (λb=>FO 75<|jv) λb=>GO d 8 [0]<|SE 82 (q.dG.n:Int) 0 (λb=>FO 67<|jv) λb=>cG<|ea 84 _ true (acg e)<|Sw<|ea 92 _ false (acb w0)<|gw<|have c:¬(q.aB=3):=(by omega);ea 95 _ false (acb c)<|GO d 6 [0]<|SE 101 q.ed 0 (λb=>FO 48<|jv) λb=>cG<|ea 103 _ false (acb c)<|GO d 5 [0]<|SE 108 (q.x.n:Int) 0 (λb=>FO 41<|jv) λb=>GO d 8 [0]<|SE 116 (q.y.n:Int) 0 (λb=>FO 33<|jv) λb=>bf<|gY<|ec d #[I 4] 3 λ_ _ a=>gY<|let b:=(a.az [0,1]);Gl #[Pt f 0] call295 (kp b) ?_;rintro _ _⟨rfl,c⟩;exact bf<|let a:¬(q.aB=4):=(by omega);ea 120 _ false (acb a)<|GO c 6 [0]<|SE 126 q.cb 0 (λb=>FO 23<|yJ) λb=>cG<|let a:¬(q.aB=6):=(by omega);ea 128 _ false (acb a)<|GO c 7 [0]<|SE 135 (q.ops.n:Int) 0 (λb=>FO 14<|yJ) λb=>cG<|ea 137 _ true (acg e)<|VO 12<|Jz
 ·refine Q 3<|ec g #[I 6] 3 λ_ _ a=>let b:=(a.az [0,1]);Gl #[Pt f 0] call295 (kp b) ?_;rintro _ _⟨rfl,c⟩;refine JO 7<|have d:q.aB=1\/q.aB=2\/q.aB=3:=Y;ea 42 _ true (acg d)<|Sw<|let a:¬(q.aB=1):=(by omega);ea 50 _ false (acb a)<|GO c 4 [0]<|SE 54 q.kW 0 (λb=>FO 95<|kz) λb=>GO c 5 [0]<|SE 59 q.kH 0 (λb=>FO 90<|kz) λb=>GO c 8 [0]<|SE 67 (q.ad.n:Int) 0 (λb=>FO 82<|kz) λb=>cG<|let a:q.aB=2:=Y;ea 69 _ true (acg a)<|aak<|ea 84 _ true (acg d)<|Sw<|ea 92 _ true (acg a)<|aaQ<|let a:¬(q.aB=3):=(by omega);ea 103 _ false (acb a)<|GO c 5 [0]<|SE 108 (q.x.n:Int) 0 (λb=>FO 41<|kz) λb=>GO c 8 [0]<|SE 116 (q.y.n:Int) 0 (λb=>FO 33<|kz) λb=>bf<|gY<|ec c #[I 4] 3 λ_ _ a=>gY<|let b:=(a.az [0,1]);Gl #[Pt f 0] call295 (kp b) ?_;rintro _ _⟨rfl,c⟩;exact bf<|let a:¬(q.aB=4):=(by omega);ea 120 _ false (acb a)<|GO c 6 [0]<|SE 126 q.cb 0 (λb=>FO 23<|yJ) λb=>cG<|let a:¬(q.aB=6):=(by omega);ea 128 _ false (acb a)<|GO c 7 [0]<|SE 135 (q.ops.n:Int) 0 (λb=>FO 14<|yJ) λb=>cG<|ea 137 _ true (acg d)<|VO 12<|Jz
 ·refine Q 3<|ec g #[I 6] 3 λ_ _ a=>let b:=(a.az [0,1]);Gl #[Pt f 0] call295 (kp b) ?_;rintro _ _⟨rfl,c⟩;refine JO 7<|let e:q.aB=1\/q.aB=2\/q.aB=3:=Y;ea 42 _ true (acg e)<|Sw<|let a:¬(q.aB=1):=(by omega);ea 50 _ false (acb a)<|GO c 4 [0]<|SE 54 q.kW 0 (λb=>FO 95<|kz) λb=>GO c 5 [0]<|SE 59 q.kH 0 (λb=>FO 90<|kz) λb=>GO c 8 [0]<|SE 67 (q.ad.n:Int) 0 (λb=>FO 82<|kz) λb=>cG<|have d:¬(q.aB=2):=(by omega);ea 69 _ false (acb d)<|GO c 5 [0]<|SE 74 (q.row.n:Int) 0 (λb=>FO 75<|kz) λb=>GO c 8 [0]<|SE 82 (q.dG.n:Int) 0 (λb=>FO 67<|kz) λb=>cG<|ea 84 _ true (acg e)<|Sw<|ea 92 _ false (acb d)<|gw<|let a:q.aB=3:=Y;ea 95 _ true (acg a)<|Sw<|ea 103 _ true (acg a)<|aan<|gY<|ec c #[I 4] 3 λ_ _ a=>gY<|let b:=(a.az [0,1]);Gl #[Pt f 0] call295 (kp b) ?_;rintro _ _⟨rfl,c⟩;exact bf<|let a:¬(q.aB=4):=(by omega);ea 120 _ false (acb a)<|GO c 6 [0]<|SE 126 q.cb 0 (λb=>FO 23<|yJ) λb=>cG<|let a:¬(q.aB=6):=(by omega);ea 128 _ false (acb a)<|GO c 7 [0]<|SE 135 (q.ops.n:Int) 0 (λb=>FO 14<|yJ) λb=>cG<|ea 137 _ true (acg e)<|VO 12<|Jz
 ·refine Q 3<|ec g #[I 6] 3 λ_ _ a=>let b:=(a.az [0,1]);Gl #[Pt f 0] call295 (kp b) ?_;rintro _ _⟨rfl,d⟩;refine JO 7<|let e:¬(q.aB=1\/q.aB=2\/q.aB=3):=Y;ea 42 _ false (acb e)<|GO d 3 [200]<|gY<|bh (.bool ((q.aS==0)&&(q.bz==0))) Z Z (vi Z kr kr (Cx _ q.aS q.bz 0 0))<|cG<|bC (q.aS=0/\q.bz=0) (λb=>Vs) λb=>ea 48 _ true (show((q.aS==0)&&(q.bz==0))=true from by simpa using b)<|cG<|let a:¬(q.aB=1):=(by omega);ea 50 _ false (acb a)<|GO d 4 [0]<|SE 54 q.kW 0 (λb=>FO 95<|jv) λb=>GO d 5 [0]<|SE 59 q.kH 0 (λb=>FO 90<|jv) λb=>GO d 8 [0]<|SE 67 (q.ad.n:Int) 0 (λb=>FO 82<|jv) λb=>cG<|have c:¬(q.aB=2):=(by omega);ea 69 _ false (acb c)<|GO d 5 [0]<|SE 74 (q.row.n:Int) 0 (λb=>FO 75<|jv) λb=>GO d 8 [0]<|SE 82 (q.dG.n:Int) 0 (λb=>FO 67<|jv) λb=>cG<|ea 84 _ false (acb e)<|GO d 6 [0]<|SE 90 q.shift 0 (λb=>FO 59<|jv) λb=>cG<|ea 92 _ false (acb c)<|gw<|have c:¬(q.aB=3):=(by omega);ea 95 _ false (acb c)<|GO d 6 [0]<|SE 101 q.ed 0 (λb=>FO 48<|jv) λb=>cG<|ea 103 _ false (acb c)<|GO d 5 [0]<|SE 108 (q.x.n:Int) 0 (λb=>FO 41<|jv) λb=>GO d 8 [0]<|SE 116 (q.y.n:Int) 0 (λb=>FO 33<|jv) λb=>bf<|gY<|ec d #[I 4] 3 λ_ _ a=>gY<|let b:=(a.az [0,1]);Gl #[Pt f 0] call295 (kp b) ?_;rintro _ _⟨rfl,d⟩;exact bf<|let a:q.aB=4:=Y;ea 120 _ true (acg a)<|Sw<|have c:¬(q.aB=6):=(by omega);ea 128 _ false (acb c)<|GO d 7 [0]<|SE 135 (q.ops.n:Int) 0 (λb=>FO 14<|PQ) λb=>Uj
 ·refine Q 3<|ec g #[I 6] 3 λ_ _ a=>let b:=(a.az [0,1]);Gl #[Pt f 0] call295 (kp b) ?_;rintro _ _⟨rfl,c⟩;refine JO 7<|let e:¬(q.aB=1\/q.aB=2\/q.aB=3):=Y;ea 42 _ false (acb e)<|GO c 3 [200]<|gY<|bh (.bool ((q.aS==0)&&(q.bz==0))) Z Z (vi Z kr kr (Cx _ q.aS q.bz 0 0))<|cG<|bC (q.aS=0/\q.bz=0) (λb=>ea 48 _ false (show((q.aS==0)&&(q.bz==0))=false from by simpa using b)<|FO 101<|kz) λb=>ea 48 _ true (show((q.aS==0)&&(q.bz==0))=true from by simpa using b)<|cG<|let a:¬(q.aB=1):=(by omega);ea 50 _ false (acb a)<|GO c 4 [0]<|SE 54 q.kW 0 (λb=>FO 95<|kz) λb=>GO c 5 [0]<|SE 59 q.kH 0 (λb=>FO 90<|kz) λb=>GO c 8 [0]<|SE 67 (q.ad.n:Int) 0 (λb=>FO 82<|kz) λb=>cG<|have d:¬(q.aB=2):=(by omega);ea 69 _ false (acb d)<|GO c 5 [0]<|SE 74 (q.row.n:Int) 0 (λb=>FO 75<|kz) λb=>GO c 8 [0]<|SE 82 (q.dG.n:Int) 0 (λb=>FO 67<|kz) λb=>cG<|ea 84 _ false (acb e)<|GO c 6 [0]<|SE 90 q.shift 0 (λb=>FO 59<|kz) λb=>cG<|ea 92 _ false (acb d)<|gw<|let h1:¬(q.aB=3):=(by omega);ea 95 _ false (acb h1)<|GO c 6 [0]<|SE 101 q.ed 0 (λb=>FO 48<|kz) λb=>cG<|ea 103 _ false (acb h1)<|GO c 5 [0]<|SE 108 (q.x.n:Int) 0 (λb=>FO 41<|kz) λb=>GO c 8 [0]<|SE 116 (q.y.n:Int) 0 (λb=>FO 33<|kz) λb=>bf<|gY<|ec c #[I 4] 3 λ_ _ a=>gY<|let b:=(a.az [0,1]);Gl #[Pt f 0] call295 (kp b) ?_;rintro _ _⟨rfl,d⟩;exact bf<|let a:¬(q.aB=4):=(by omega);ea 120 _ false (acb a)<|GO d 6 [0]<|SE 126 q.cb 0 (λb=>FO 23<|PQ) λb=>cG<|have c:¬(q.aB=6):=(by omega);ea 128 _ false (acb c)<|GO d 7 [0]<|SE 135 (q.ops.n:Int) 0 (λb=>FO 14<|PQ) λb=>Uj
 refine Q 3<|ec g #[I 6] 3 λ_ _ a=>let b:=(a.az [0,1]);Gl #[Pt f 0] call295 (kp b) ?_;rintro _ _⟨rfl,d⟩;refine JO 7<|let e:¬(q.aB=1\/q.aB=2\/q.aB=3):=Y;ea 42 _ false (acb e)<|GO d 3 [200]<|gY<|bh (.bool ((q.aS==0)&&(q.bz==0))) Z Z (vi Z kr kr (Cx _ q.aS q.bz 0 0))<|cG<|bC (q.aS=0/\q.bz=0) (λb=>Vs) λb=>ea 48 _ true (show((q.aS==0)&&(q.bz==0))=true from by simpa using b)<|cG<|let a:¬(q.aB=1):=(by omega);ea 50 _ false (acb a)<|GO d 4 [0]<|SE 54 q.kW 0 (λb=>FO 95<|jv) λb=>GO d 5 [0]<|SE 59 q.kH 0 (λb=>FO 90<|jv) λb=>GO d 8 [0]<|SE 67 (q.ad.n:Int) 0 (λb=>FO 82<|jv) λb=>cG<|have c:¬(q.aB=2):=(by omega);ea 69 _ false (acb c)<|GO d 5 [0]<|SE 74 (q.row.n:Int) 0 (λb=>FO 75<|jv) λb=>GO d 8 [0]<|SE 82 (q.dG.n:Int) 0 (λb=>FO 67<|jv) λb=>cG<|ea 84 _ false (acb e)<|GO d 6 [0]<|SE 90 q.shift 0 (λb=>FO 59<|jv) λb=>cG<|ea 92 _ false (acb c)<|gw<|have c:¬(q.aB=3):=(by omega);ea 95 _ false (acb c)<|GO d 6 [0]<|SE 101 q.ed 0 (λb=>FO 48<|jv) λb=>cG<|ea 103 _ false (acb c)<|GO d 5 [0]<|SE 108 (q.x.n:Int) 0 (λb=>FO 41<|jv) λb=>GO d 8 [0]<|SE 116 (q.y.n:Int) 0 (λb=>FO 33<|jv) λb=>bf<|gY<|ec d #[I 4] 3 λ_ _ a=>gY<|let b:=(a.az [0,1]);Gl #[Pt f 0] call295 (kp b) ?_;rintro _ _⟨rfl,c⟩;exact bf<|let a:¬(q.aB=4):=(by omega);ea 120 _ false (acb a)<|GO c 6 [0]<|SE 126 q.cb 0 (λb=>FO 23<|yJ) λb=>cG<|(by let a:q.aB=6:=Y;exact ea 128 _ true (acg a)<|pu9<|ea 137 _ false (acb e)<|gw<|ea 140 _ true (acg a)<|VO 9<|Jz)
def iG(q:bc)(s t:aY):Int:=if de q.ops (decide (q.aB=6/\¬q.b=-1)) s.aG t.aG q.aG=0 then(if(q.aB=6/\¬q.b=-1)/\¬(s.w=t.w/\s.h=t.h) then 8 else 0) else de q.ops (decide (q.aB=6/\¬q.b=-1)) s.aG t.aG q.aG
def KK{q:bc}{s t:aY}(h:¬(1<=q.aB/\q.aB<=5)):iG q s t=(aT q s t).2:=by
 grind[iG,aT]
def Kp(q:aA)(s:aY)(t:aY)(i:aA.Ok [H] q)(b:X W w (H::F)):
 Ro prog 297 #[.agg (aL q).toArray,.agg #[I s.w,I s.h,I s.aG],.agg #[I t.w,I t.h,I t.aG]] (I (iG q.v s t)) W w (H::F):=by
 let a:=i.ad.ll;let a:=i.row.ll;let a:=i.dG.ll;let a:=i.x.ll;let a:=i.y.ll;let a:=i.ops.ll;refine aq 61 func297 Z<|Q 2<|eD b (aL q) λ_ _ a=>eD a [I s.w,I s.h,I s.aG] λ_ _ a=>eD a [I t.w,I t.h,I t.aG] λ_ _ a=>GO a 6 [1802]<|cS (zJ q (i.ag (mF 3)) a.ao) λ_ h0=>GO h0 9 [2]<|cS (vt q.ops.a q.ops.n q.ops.k q.ops.l (decide (q.aB=6/\¬q.b=-1)) (i.ops.fl 3) h0.ao) λ_ f=>JO 9<|CN (cH q.ops.l (decide (q.aB=6/\¬q.b=-1))) 0 (λj=>RC 8 [I (cH q.ops.l (decide (q.aB=6/\¬q.b=-1)))]<|(by let a:=(f.ap [0,0,0]);let c:de q.v.ops (decide (q.v.aB=6/\¬q.v.b=-1)) s.aG t.aG q.v.aG=cH q.v.ops (decide (q.v.aB=6/\¬q.v.b=-1)):=(by unfold de;rw[ab9 (show ¬cH q.v.ops (decide (q.v.aB=6/\¬q.v.b=-1))=0 from j)]);let e:iG q.v s t=(cH q.ops.l (decide (q.aB=6/\¬q.b=-1))):=(by unfold iG;rw[ab9 (λh=>(show ¬cH q.v.ops (decide (q.v.aB=6/\¬q.v.b=-1))=0 from j) (c.symm.trans h)),c];rfl);exact⟨by rw[e];rfl,a⟩)) λj=>GC f 9 [2]<|sD 25 (q.aG<1) (λd=>RO 14 [I 2]<|Vj) λd=>?_;refine GO f 6 [2]<|cD (q.aG>4294967296) (λd=>RC 7 [I 2]<|Vj) λd=>Q 13<|CD (q.aB=6/\¬q.b=-1) (λg=>GC f 10 [2,1]<|cS (qf q.ops.a q.ops.n q.ops.k q.ops.l s.aG 1 (i.ops.fl 3) f.ao) λ_ a=>JO 15<|CN ((fI q.ops.l s.aG 1).2.2) 0 (λd=>RC 8 [I ((fI q.ops.l s.aG 1).2.2)]<|(by let b:=(a.ap [0,0,0]);let c:de q.v.ops (decide (q.v.aB=6/\¬q.v.b=-1)) s.aG t.aG q.v.aG=(fI q.v.ops s.aG 1).2.2:=U8;let e:iG q.v s t=(fI q.ops.l s.aG 1).2.2:=(by unfold iG;rw[ab9 (λh=>d (c.symm.trans h)),c];rfl);exact⟨by rw[e];rfl,b⟩)) λd=>Q 7<|ea 47 _ false (acb g)<|RO 24 [I 0]<|(by let b:=(a.ap [0,0,0]);let c:de q.v.ops (decide (q.v.aB=6/\¬q.v.b=-1)) s.aG t.aG q.v.aG=(fI q.v.ops s.aG 1).2.2:=U8;let e:iG q.v s t=0:=(by unfold iG;rw[aca (c.trans d),ab9 iE]);exact⟨by rw[e];rfl,b⟩)) λg=>?_;refine GC f 14 [0,2,1]<|cS (qf q.ops.a q.ops.n q.ops.k q.ops.l s.aG t.aG (i.ops.fl 3) f.ao) λ_ b=>JO 15<|CN ((fI q.ops.l s.aG t.aG).2.2) 0 (λf=>RC 8 [I ((fI q.ops.l s.aG t.aG).2.2)]<|(by let a:=(b.ap [0,0,0]);let c:de q.v.ops (decide (q.v.aB=6/\¬q.v.b=-1)) s.aG t.aG q.v.aG=(fI q.v.ops s.aG t.aG).2.2:=Jb;let e:iG q.v s t=(fI q.ops.l s.aG t.aG).2.2:=(by unfold iG;rw[ab9 (λh=>f (c.symm.trans h)),c];rfl);exact⟨by rw[e];rfl,a⟩)) λf=>Q 7<|ea 47 _ true (acg g)<|GO b 6 [1,0]<|SN 53 s.w t.w (λd=>RO 17 [I 8]<|(by let a:=(b.ap [0,0,0]);let c:de q.v.ops (decide (q.v.aB=6/\¬q.v.b=-1)) s.aG t.aG q.v.aG=(fI q.v.ops s.aG t.aG).2.2:=Jb;let e:iG q.v s t=8:=Ts;exact⟨by rw[e];rfl,a⟩)) λd=>?_;exact GO b 9 [1,0]<|CN s.h t.h (λa=>RC 7 [I 8]<|(by let w0:=(b.ap [0,0,0]);let c:de q.v.ops (decide (q.v.aB=6/\¬q.v.b=-1)) s.aG t.aG q.v.aG=(fI q.v.ops s.aG t.aG).2.2:=Jb;let e:iG q.v s t=8:=Ts;exact⟨by rw[e];rfl,w0⟩)) λa=>RC 8 [I 0]<|let a:=(b.ap [0,0,0]);let c:de q.v.ops (decide (q.v.aB=6/\¬q.v.b=-1)) s.aG t.aG q.v.aG=(fI q.v.ops s.aG t.aG).2.2:=Jb;let e:iG q.v s t=0:=(by unfold iG;rw[aca (c.trans f),ab9 iE]);⟨by rw[e];rfl,a⟩
def Kw(q:aA)(s:aY)(t:aY)(c:aA.Ok [H] q)(b:X W w (H::F)):
 Ro prog 259 #[.agg (aL q).toArray,.agg #[I s.w,I s.h,I s.aG],.agg #[I t.w,I t.h,I t.aG]] (I ((aT q.v s t).2)) W w (H::F):=by
 let a:=c.ad.ll;let a:=c.row.ll;let a:=c.dG.ll;let a:=c.x.ll;let a:=c.y.ll;let a:=c.ops.ll;refine aq 71 func259 Z<|Q 2<|eD b (aL q) λ_ _ a=>eD a [I s.w,I s.h,I s.aG] λ_ _ a=>eD a [I t.w,I t.h,I t.aG] λ_ _ e=>GO e 17 [2]<|cE q.aB 1 (λd=>GC e 14 [1,2,2,2,2,2]<|cS (EQ s.aG q.kW q.kH q.ad.a q.ad.n q.ad.k q.ad.l q.shift q.aG (c.ad.fl 3) e.ao) λ_ a=>RO 6 [I (eh s.aG q.kW q.kH q.ad.l q.shift q.aG)]<|(by let b:=(a.ap [0,0,0]);let f:(aT q.v s t).2=(eh s.aG q.kW q.kH q.ad.l q.shift q.aG):=(by unfold aT;rw[aca iE];rfl);exact tT)) λd=>Q 6<|cE q.aB 2 (λb=>GC e 14 [1,2,2,2,2,2]<|cS (AE s.aG q.row.a q.row.n q.row.k q.row.l q.dG.a q.dG.n q.dG.k q.dG.l q.shift q.ed q.aG (c.row.fl 3) (c.dG.fl 3) e.ao) λ_ h0=>RO 6 [I (eJ s.aG q.row.l q.dG.l q.shift q.ed q.aG)]<|(by let a:=(h0.ap [0,0,0]);let f:(aT q.v s t).2=(eJ s.aG q.row.l q.dG.l q.shift q.ed q.aG):=(by unfold aT;rw[ab9 iE,aca iE];rfl);exact⟨by rw[f];rfl,a⟩)) λb=>?_;refine Q 6<|cE q.aB 3 (λd=>GC e 13 [301,2,2,2,2,2]<|cS (BR s q.x.a q.x.n q.x.k q.x.l q.y.a q.y.n q.y.k q.y.l q.shift q.ed q.aG (c.x.fl 3) (λz hz=>(c.xD z hz).ag (mF 3)) (c.y.fl 3) (λz hz=>(c.yD z hz).ag (mF 3)) e.ao) λ_ a=>RO 6 [I (cM s.w s.h s.aG (q.x.l.map bL.v) (q.y.l.map bL.v) q.shift q.ed q.aG)]<|(by let b:=(a.ap [0,0,0]);let f:(aT q.v s t).2=(cM s.w s.h s.aG (q.x.l.map bL.v) (q.y.l.map bL.v) q.shift q.ed q.aG):=(by unfold aT;rw[ab9 iE,ab9 iE,aca iE];rfl);exact tT)) λd=>Q 6<|CE q.aB 4 (λg=>Q 6<|CE q.aB 5 (λd=>GC e 8 [1802,301,300]<|cS (Kp q s t (c.ag (mF 3)) e.ao) λ_ a=>RO 4 [I (iG q.v s t)]<|(by let b:=(a.ap [0,0,0]);let f:(aT q.v s t).2=(iG q.v s t):=(KK iE).symm;exact tT)) λd=>GC e 3 [301]<|cS (L4 s e.ao) λ_ a=>RO 6 [I (intCode s.w s.h s.aG)]<|(by let b:=(a.ap [0,0,0]);let f:(aT q.v s t).2=(intCode s.w s.h s.aG):=(by unfold aT intCode;rw[ab9 iE,ab9 iE,ab9 iE,ab9 iE,aca iE];split<;>rfl);exact tT)) λg=>?_;exact GC e 7 [2]<|sD 58 (q.cb<1) (λb=>RO 16 [I 9]<|VS) λb=>GO e 6 [2]<|cD (q.cb>128) (λb=>RC 9 [I 9]<|VS) λb=>RC 10 [I 0]<|let w0:=(e.ap [0,0,0]);let f:(aT q.v s t).2=0:=(by unfold aT;rw[ab9 iE,ab9 iE,ab9 iE,aca iE,aca iE]);⟨by rw[f];rfl,w0⟩
def XI{q:aA}{s t:aY}(h:q.v.aB=3)(_:(aT q.v s t).2=0)(hx:(q.x.l.map bL.v).length=q.x.n)(hy:(q.y.l.map bL.v).length=q.y.n):(aT q.v s t).1=⟨(q.x.n:Int),(q.y.n:Int),q.aG⟩:=by
 grind[aT,aA.v]
def Xw{q:aA}{s t:aY}(h:q.v.aB=4)(h0:(aT q.v s t).2=0):(aT q.v s t).1=⟨q.cb,1,s.w*s.h⟩:=by
 unfold aT at h0⊢;rw[ab9 (by omega),ab9 (by omega),ab9 (by omega),aca h] at h0⊢;split at h0
 ·rename_i k;rw[aca k];rfl
 ·cases h0
def XE{q:aA}{s t:aY}(h:q.v.aB=5)(h0:(aT q.v s t).2=0):(aT q.v s t).1=⟨s.w,s.h,s.aG*s.w*s.h⟩:=by
 grind[aT,fz]
def Xo{q:aA}{s t:aY}(h:¬(3<=q.v.aB/\q.v.aB<=5))(h0:(aT q.v s t).2=0):(aT q.v s t).1=⟨s.w,s.h,q.aG⟩:=by
 unfold aT at h0⊢;rw[ab9 (show ¬q.v.aB=3 by omega),ab9 (show ¬q.v.aB=4 by omega),ab9 (show ¬q.v.aB=5 by omega)] at h0⊢;split
 ·rfl
 ·split
  ·rfl
  ·split
   ·split<;>rfl
   ·rfl
def yO(q:aA)(s:aY)(t:aY)(h:aA.Ok [H] q)(f:X W w (H::F)):
 Ro prog 210 #[.agg (aL q).toArray,.agg #[I s.w,I s.h,I s.aG],.agg #[I t.w,I t.h,I t.aG]] (.tuple #[.agg #[I ((fK q.v s t).1.w),I ((fK q.v s t).1.h),I ((fK q.v s t).1.aG)],I ((fK q.v s t).2)]) W w (H::F):=by
 let c:=h.ad.ll;let c:=h.row.ll;let c:=h.dG.ll;let c:=h.x.le;have d:=h.x.len;let c:=h.y.le;have e:=h.y.len;let c:=h.ops.ll;let j:(q.x.l.map bL.v).length=q.x.n:=by simp[d]
 let i:(q.y.l.map bL.v).length=q.y.n:=by simp[e]
 refine aq 91 func210 Z<|Q 2<|eD f (aL q) λ_ _ c=>eD c [I s.w,I s.h,I s.aG] λ_ _ c=>eD c [I t.w,I t.h,I t.aG] λ_ _ w0=>aI w0 zeroValue109 λ_ _ c=>GO c 7 [1803]<|cS (Ab q (h.ag (mF 4)) c.ao) λ_ d=>JO 3<|pk (dD q.v) (λe=>Q 3<|bP d 0 Z [I 0,I 0,I 0] λ_ h0=>DO 5 h0 0 [I 0,I 0,I 0] (I 1)<|(by let c:=(h0.ap [0,0,0,0]);let g:fK q.v s t=((⟨0,0,0⟩:aY),1):=(by unfold fK;rw[ab9 ‹_›]);exact⟨by rw[g];rfl,c⟩)) λe=>Q 2<|eQ d 0 [3,4,5,6] (γ:=Unit) (λ_ R=>⟨[],R,0,(mK s/\fK q.v s t=if ¬(q.v.aB=1\/q.v.aB=2\/q.v.aB=3)\/FP q.v s.aG then(if(aT q.v s t).2=0 then((aT q.v s t).1,0) else(⟨0,0,0⟩,(aT q.v s t).2)) else(⟨0,0,0⟩,1))⟩) ?_ ?_
 ·exact GC d 3 [302]<|cS (AR s d.ao) λ_ e=>cG<|zD 16 ((1:Int)<=s.w/\s.w<=(128:Int)/\(1:Int)<=s.h/\s.h<=(128:Int)/\s.w*s.h<=(4096:Int)/\(1:Int)<=s.aG/\s.aG<=(4294967296:Int)) (λf=>JO 14<|bP e 0 Z [I 0,I 0,I 0] λ_ c=>DO 5 c 0 [I 0,I 0,I 0] (I 2)<|VX) λf=>GO e 1 [1803]<|gY<|cS (zJ q (h.ag (mF 4)) e.ao) λ_ c=>bf<|SD 19 (q.aB=6/\¬q.b=-1) (λd=>bX 9 Z<|⟨(),bR,c,⟨by unfold mK;omega,by unfold fK;rw[aca ‹_›,aca yN]⟩⟩) λd=>GO c 1 [301]<|gY<|cS (AR t c.ao) λ_ d=>JO 5<|SU ((1:Int)<=t.w/\t.w<=(128:Int)/\(1:Int)<=t.h/\t.h<=(128:Int)/\t.w*t.h<=(4096:Int)/\(1:Int)<=t.aG/\t.aG<=(4294967296:Int)) (λc=>lq 1 Z<|⟨(),bR,d,⟨by unfold mK;omega,by unfold fK;rw[aca ‹_›,aca yN]⟩⟩) λc=>Q 3<|bP d 0 Z [I 0,I 0,I 0] λ_ c=>DO 5 c 0 [I 0,I 0,I 0] (I 2)<|VX
 rintro _ V _⟨c,g⟩;refine eQ c 0 [3,4,5,6] (γ:=Unit) (λ_ R=>⟨[],R,0,(mK s/\fK q.v s t=(if(aT q.v s t).2=0 then((aT q.v s t).1,0) else(⟨0,0,0⟩,(aT q.v s t).2)))⟩) ?_ ?_
 ·exact Q 1<|(by let⟨e,g⟩:=g;let f:=e;unfold mK at f;exact GC c 3 [3]<|cS (AB q.aB c.ao) λ_ c=>bf<|SD 29 (q.aB=1\/q.aB=2\/q.aB=3) (λd=>bX 11 Z<|⟨(),bR,c,⟨e,by rw[g,aca Fv]⟩⟩) λd=>GO c 4 [203,2]<|gY<|cS (uU (⟨q.aS,q.bz⟩:Edge) s.aG c.ao) λ_ d=>JO 4<|SU (((⟨q.aS,q.bz⟩:Edge).aJ=3/\0<=(⟨q.aS,q.bz⟩:Edge).fill/\(⟨q.aS,q.bz⟩:Edge).fill<=s.aG)\/(0<=(⟨q.aS,q.bz⟩:Edge).aJ/\(⟨q.aS,q.bz⟩:Edge).aJ<3/\(⟨q.aS,q.bz⟩:Edge).fill=0)) (λc=>lq 1 Z<|⟨(),bR,d,⟨e,by rw[g,aca Fv]⟩⟩) λc=>Q 3<|bP d 0 Z [I 0,I 0,I 0] λ_ c=>DO 5 c 0 [I 0,I 0,I 0] (I 1)<|⟨by rw[g,ab9 Fv];rfl,(c.ap [0,0,0,0])⟩)
 rintro _ V _⟨c,g⟩;refine Q 2 ?_;let⟨e,g⟩:=g;let f:=e;unfold mK at f;exact GC c 4 [1803,302,301]<|cS (Kw q s t (h.ag (mF 4)) c.ao) λ_ e=>JO 9<|CN ((aT q.v s t).2) 0 (λd=>Q 4<|bP e 0 Z [I 0,I 0,I 0] λ_ c=>DO 5 c 0 [I 0,I 0,I 0] (I ((aT q.v s t).2))<|⟨by rw[g,ab9 ‹_›];rfl,(c.ap [0,0,0,0])⟩) λd=>Q 4<|(by let f:(aT q.v s t).2=0:=d;let c:=el (a:=s.w) (b:=s.h) (A:=128) (B:=128) Y Y;let c:=el (a:=s.aG) (b:=s.w) (A:=4294967296) (B:=128) Y Y;let c:=el (a:=s.aG*s.w) (b:=s.h) (A:=549755813888) (B:=128) Y Y;exact GC e 12 [3]<|cE q.aB 3 (λd=>GC e 11 [3,3,3]<|bP e 0 Z [I q.x.n,I q.y.n,I q.aG] λ_ c=>DO 6 c 0 [I q.x.n,I q.y.n,I q.aG] (I 0)<|⟨by rw[g,aca f,XI iE f j i];rfl,(c.ap [0,0,0,0])⟩) λd=>Q 6<|cE q.aB 4 (λd=>GC e 8 [3,2,2]<|ei s.w s.h<|bf<|bP e 0 Z [I q.cb,I 1,I (s.w*s.h)] λ_ c=>DO 6 c 0 [I q.cb,I 1,I (s.w*s.h)] (I 0)<|⟨by rw[g,aca f,Xw iE f];rfl,(c.ap [0,0,0,0])⟩) λd=>Q 6<|CE q.aB 5 (λd=>GC e 12 [2,2,3]<|bP e 0 Z [I s.w,I s.h,I q.aG] λ_ c=>DO 4 c 0 [I s.w,I s.h,I q.aG] (I 0)<|⟨by rw[g,aca f,Xo iE f];rfl,(c.ap [0,0,0,0])⟩) λd=>GC e 10 [2,2,2,2]<|ei s.aG s.w<|GO e 2 [2]<|ei (s.aG*s.w) s.h<|bf<|bP e 0 Z [I s.w,I s.h,I ((s.aG*s.w)*s.h)] λ_ c=>DO 6 c 0 [I s.w,I s.h,I ((s.aG*s.w)*s.h)] (I 0)<|⟨by rw[g,aca f,XE iE f];rfl,(c.ap [0,0,0,0])⟩)
end
end Go.Proofs.YtmfebppagcejcaaGreat
set_option linter.all false
namespace Go.E
def iO(p:Nat)(E:TypeId)(pre mid post:fa):af:=(aW p (pre++(mid++post)).toArray E)
section
variable{p:Nat}{E:TypeId}{pre mid post:fa}
def Dp{off:Nat}{l:fa}(h:((pre++(mid++post)).drop off).take l.length=l):na [iO p E pre mid post] p off l:=
 ⟨(pre++(mid++post)).toArray,E,(0,0),by simp[iO],by omega⟩
def cK:na [iO p E pre mid post] p 0 pre:=Dp (by simp)
def mc{k:Nat}(a:pre.length+mid.length=k):na [iO p E pre mid post] p k post:=Dp (by
 grind)
def bW{W w:World}{O:cj}{c:af}{b off k:Nat}{l:fa}{v:Value}(d:X W w O)(i:Nat)(hi:O[i]?=some c)(h:na [c] b off l)(a:l[k]?=some v):w.cell? ⟨b,off+k,none⟩=some v:=(h.up i hi).cell d a
def eC{O:cj}{c:af}{b off:Nat}{l:fa}(i:Nat)(hi:O[i]?=some c)(h:na [c] b off l):na O b off l:=h.up i hi
def dN{α:Type}{enc:α->fa}{sz k n0:Nat}{xs:List α}{x:α}(he:∀x,(enc x).length=sz)(hx:xs[k]?=some x)(h0:pre.length=n0:=by rfl):na [iO p E pre (xs.flatMap enc) post] p (n0+k*sz) (enc x):=Dp (by
 subst h0;let b:k<xs.length:=(aci.1 hx).1;let h1:=nz he xs k x hx;let a:(k+1)*sz<=xs.length*sz:=acA _ b;rw[ac1,adi] at a
 grind[List.drop_append,Nat.add_sub_cancel_left,List.drop_eq_nil_of_le,eO,List.length_drop])
end
def MF{A B vs:fa}{o:Nat}(h:o+vs.length<=A.length):Ai (A++B) o vs=Ai A o vs++B:=by
 grind[Ai]
def AZ{A B vs:fa}{o:Nat}:Ai (A++B) (A.length+o) vs=A++Ai B o vs:=by
 simp only[Ai];rw[List.take_length_add_append,adL,List.drop_length_add_append];simp
def FX{A B vs:fa}{o:Nat}:wr (A++B).toArray (A.length+o) vs=(A++Ai B o vs).toArray:=by
 let h:wr (A++B).toArray (A.length+o) vs=(Ai (A++B) (A.length+o) vs).toArray:=rfl;rw[h,AZ]
def kU{α:Type}{xs:List α}{n k:Nat}(h:xs.length=n)(a:k<n):∃x,xs[k]?=some x:=⟨xs[k]'(by omega),by simp_all⟩
def iA{α:Type}{enc:α->fa}{sz n m k:Nat}{xs:List α}{pre:fa}(he:∀x,(enc x).length=sz)(b:xs.length=n)(h0:pre.length=m:=by rfl)(a:m+n*sz=k:=by rfl):pre.length+(xs.flatMap enc).length=k:=by rw[eO he,b,h0,a]
section
variable{P:Program}{W w:World}{O:cj}{V:Env}{o:Oper}{ops:Array Oper}{rest:List Oper}{n:Nat}{N:Env->World->Prop}
def Hs(i:Int)(k:Nat){t E:TypeId}{x y:Operand}{m sz b off:Nat}(e:∀w,(underlying t).run P w=.ok (.array m E) w)(c:∀w,(sizeOf E).run P w=.ok sz w)
 (h0:0<=i:=by omega) (h1:i<m:=by omega) (d:o.op=.indexAddr t x y:=by rfl) (hx:ev V x=Pt b off:=by kernel_rfl) (hy:ev V y=I i:=by kernel_rfl) (a:i.toNat=k:=by first|rfl|omega):Yields P V o (.pointer (some ⟨b,off+k*sz,none⟩)) w:=by
 subst a;unfold Yields execOp;rw[d];simp[Instr.indexAt,hx,hy,asIntOf,e,c,Instr.sureAddr,h0,h1,Addr.add]
def zo(i:Int)(k:Nat){t E:TypeId}{x y:Operand}{m sz b off:Nat}(f:∀w,(underlying t).run P w=.ok (.array m E) w)(d:∀w,(sizeOf E).run P w=.ok sz w)
 (h:aZ P n ops rest N (put V o.dst (.pointer (some ⟨b,off+k*sz,none⟩))) w) (h0:0<=i:=by omega) (h1:i<m:=by omega)
 (e:o.op=.indexAddr t x y:=by rfl) (hg:o.guard=none:=by rfl) (c:cV n o.dst=true:=by rfl) (hx:ev V x=Pt b off:=by kernel_rfl) (hy:ev V y=I i:=by kernel_rfl) (a:i.toNat=k:=by first|rfl|omega):aZ P n ops (o::rest) N V w:=
 bh _ hg c (Hs i k f d h0 h1 e hx hy a) h
def MG{α:Type}{enc:α->fa}{sz:Nat}{xs:List α}(y:X W w O)(he:∀x,(enc x).length=sz)(j i n0 k:Nat)(x x':α)(hx:xs[i]?=some x)(v:Value)(vs:fa){t:TypeId}{a c:Operand}{b q:Nat}{E:TypeId}{pre post:fa}(l:∀w,(sizeOf t).run P w=.ok q w)
 (h:∀g,X W g (O.set j (iO b E pre ((xs.set i x').flatMap enc) post))->aZ P n ops rest N V g)
 (r:o.op=.store t a c:=by rfl) (hg:o.guard=none:=by rfl) (p:o.dst=none:=by rfl) (s:O[j]?=some (iO b E pre (xs.flatMap enc) post):=by rfl) (h0:pre.length=n0:=by rfl)
 (hp:ev V a=.pointer (some ⟨b,n0+i*sz+k,none⟩):=by kernel_rfl) (m:ev V c=v:=by kernel_rfl) (e:v.cells.toList=vs:=by kernel_rfl) (f:vs.length=q:=by kernel_rfl) (h1:vs.all (·.oneCell')=true:=by kernel_rfl)
 (hw:Ai (enc x) k vs=enc x':=by kernel_rfl) (a:Nat.ble (k+vs.length) sz=true:=by kernel_rfl):aZ P n ops (o::rest) N V w:=by
 let d:=adl a;let c:i<xs.length:=(aci.1 hx).1;let a:(i+1)*sz<=xs.length*sz:=acA _ c;rw[ac1,adi] at a;let a:=eO he xs;refine oM r hg p l hp m e f (λu a=>Kf) y j s Uq _ (by rw[<-h0,adL,FX,MF (by omega)]) ?_;intro g a;rw[yU he d xs i x x' hx hw] at a;exact h g a
def qS{t:TypeId}{x y:Operand}{b k:Nat}{E:TypeId}{pre mid post:fa}(q:X W w O)(i d off:Nat)(hi:O[i]?=some (iO b E pre mid post))(v:Value)(vs c:fa)(p:pre.length+mid.length=d)(j:∀w,(sizeOf t).run P w=.ok k w)
 (h:∀g,X W g (O.set i (iO b E pre mid c))->aZ P n ops rest N V g)
 (m:o.op=.store t x y:=by rfl) (hg:o.guard=none:=by rfl) (l:o.dst=none:=by rfl)
 (hx:ev V x=.pointer (some ⟨b,d+off,none⟩):=by kernel_rfl) (hy:ev V y=v:=by kernel_rfl) (f:v.cells.toList=vs:=by kernel_rfl) (e:vs.length=k:=by kernel_rfl)
 (h1:vs.all (·.oneCell')=true:=by kernel_rfl) (a:Nat.ble (off+vs.length) post.length=true:=by kernel_rfl) (hw:Ai post off vs=c:=by kernel_rfl):aZ P n ops (o::rest) N V w:=by
 let hf:=adl a;refine oM m hg l j hx hy f e (λu a=>Kf) q i hi Uq _ (by rw[<-p,adL,FX,AZ,hw]) ?_;intro g a;exact h g a
end
def kE{π σ:Type}(R:π->σ->af->Prop)(ps:List π)(ss:List σ)(O:cj):Prop:=
 ps.length=ss.length/\O.length=ss.length/\∀(i:Nat) p s c,ps[i]?=some p->ss[i]?=some s->O[i]?=some c->R p s c
variable{i:Nat}
def kE.get{b a:Type}{R:b->a->af->Prop}{d:List b}{ss:List a}{O:cj}(h:kE R d ss O){p:b}(hp:d[i]?=some p):∃s c,ss[i]?=some s/\O[i]?=some c/\R p s c:=by
 let a:i<d.length:=(aci.1 hp).1;let h1:=h.1;let a:=h.2.1;let b:ss[i]?=some (ss[i]'(by omega)):=by simp_all
 let a:O[i]?=some (O[i]'(by omega)):=by simp_all
 exact⟨_,_,b,a,h.2.2 i p _ _ hp b a⟩
def kE.set{a b:Type}{R:a->b->af->Prop}{e:List a}{ss:List b}{O:cj}(h:kE R e ss O){p:a}{s:b}{c:af}(hp:e[i]?=some p)(g:R p s c):kE R e (ss.set i s) (O.set i c):=by
 refine⟨by simp[h.1],by simp[h.2.1],λj q t d f a e=>?_⟩;by_cases b:i=j
 ·subst b;rw[hp] at f;cases f;rw[acV] at a e;simp only[aeG] at a e;split at a
  ·cases a
   split at e
   ·cases e;exact g
   ·cases e
  ·cases a
 ·rw[ae7 b] at a e;exact h.2.2 j q t d f a e
def kE.aax{a b:Type}{R:a->b->af->Prop}{e:List a}{ss:List b}{O:cj}(h:kE R e ss O){p p':a}{s:b}{c:af}(a:e[i]?=some p)(g:R p' s c):kE R (e.set i p') (ss.set i s) (O.set i c):=by
 refine⟨by simp[h.1],by simp[h.2.1],λj q t d b a f=>?_⟩;by_cases e:i=j
 ·subst e;rw[acV] at b a f;simp only[aeG] at b a f;split at a
  ·cases a
   split at f
   ·cases f
    split at b
    ·cases b;exact g
    ·cases b
   ·cases f
  ·cases a
 ·rw[ae7 e] at b a f;exact h.2.2 j q t d b a f
theorem getD_some{α:Type}{xs:List α}{k:Nat}{x d:α}(h:xs[k]?=some x):xs.getD k d=x:=by simp_all
def kE.snoc{a b:Type}{R:a->b->af->Prop}{e:List a}{ss:List b}{O:cj}(h:kE R e ss O){p:a}{s:b}{c:af}(a:R p s c):kE R (e++[p]) (ss++[s]) (O++[c]):=by
 let h1:=h.1;let a:=h.2.1;refine⟨by simp[h1],by simp[a],λj q t d e b f=>?_⟩;by_cases a:j<ss.length
 ·rw[ada (by omega)] at e b f;exact h.2.2 j q t d e b f
 grind
def kE.nil{b a:Type}(R:b->a->af->Prop):kE R [] [] []:=⟨rfl,rfl,λi p s c h=>sZ⟩
theorem c7{α:Type}{xs:List α}{k:Nat}{x:α}(h:xs[k]?=some x):xs.set k x=xs:=by
 apply acQ
 grind
end Go.E
namespace Go.Proofs.YtmfebppagcejcaaGreat
open Go Go.E Go.Proofs.Tryz
set_option linter.all false
set_option maxRecDepth 100000
set_option maxHeartbeats 2000000
section
variable{W w:World}{H:af}{F:cj}
def okG(ni:Int)(out:aR)(s:aR):Bool:=s.all λx=>decide (x<ni\/x∈out)
def ly(ni:Int)(out:aR):List aR->Int->Int
 |[],_=>-1
 |s::l,i=>if(decide (¬(ni+i)∈out)&&okG ni out s)=true then ni+i else ly ni out l (i+1)
def Yz(ni:Int)(D:List aR):Nat->aR->Option aR
 |0,out=>some out
 |k+1,out=>if ly ni out D 0<0 then none else Yz ni D k (out++[ly ni out D 0])
def Cc(ni:Int)(D:List aR)(out:aR)(i:Nat):Prop:=∃s,D[i]?=some s/\¬(ni+((i:Nat):Int))∈out/\∀x∈s,x<ni\/x∈out
variable{ni:Int}
def P3{out s:aR}:okG ni out s=true↔∀x∈s,x<ni\/x∈out:=by
 grind[okG]
def BM(f:0<=ni){out:aR}{D:List aR}:∀(l:List aR) (i:Nat),D.drop i=l->
 (ly ni out l (i:Int)<0/\∀k,i<=k->¬Cc ni D out k)\/(∃k:Nat,i<=k/\ly ni out l (i:Int)=ni+(k:Int)/\Cc ni D out k/\∀m,i<=m->m<k->¬Cc ni D out m)
 |[],i,h=>by
  left;refine⟨by unfold ly;omega,?_⟩;rintro k j⟨s,d,_⟩;let h1:=(aci.1 d).1;exact wS
 |s::l,i,h=>by
  let d:D[i]?=some s:=(by let h1:=acd (λx=>x[0]?) h;grind);let g:D.drop (i+1)=l:=(by let h1:=acd List.tail h;grind[List.tail_drop]);unfold ly;by_cases hc:(decide (¬(ni+(i:Int))∈out)&&okG ni out s)=true
  ·exact(by right;rw[aca hc];rw[ach,acr,P3] at hc;exact⟨i,acS _,rfl,⟨s,d,hc.1,hc.2⟩,λm h1 b=>by omega⟩)
  ·rw[ab9 hc];let c:¬Cc ni D out i:=(by rintro⟨a,a,h1,b⟩;rw[d] at a;obtain rfl:=ace a;apply hc;rw[ach,acr,P3];simp_all);let a:=BM f (out:=out) (D:=D) l (i+1) g;rw[show((i+1:Nat):Int)=(i:Int)+1 by omega] at a;rcases a with⟨h1,b⟩|⟨k,h1,b,a,d⟩
   ·left;refine⟨h1,λk j=>?_⟩;by_cases e:k=i
    ·rw[e];exact c
    ·exact b k Y
   ·right;refine⟨k,Y,b,a,λm a a=>?_⟩;by_cases e:m=i
    ·rw[e];exact c
    ·exact d m Y a
def sV(a:0<=ni){out:aR}{D:List aR}:
 (ly ni out D 0<0/\∀k,¬Cc ni D out k)\/(∃k:Nat,ly ni out D 0=ni+(k:Int)/\Cc ni D out k/\∀m,m<k->¬Cc ni D out m):=by
 rcases BM a (out:=out) D 0 Z with⟨h1,b⟩|⟨k,_,b,a,a⟩
 ·exact .inl ⟨h1,λk=>b k (aeg _)⟩
 grind
def mM(ni:Int)(D:List aR):Nat->aR->aR
 |0,out=>out
 |k+1,out=>if ly ni out D 0<0 then out else mM ni D k (out++[ly ni out D 0])
structure oy(ni:Int)(D:List aR)(out:aR):Prop where
 r:∀x∈out,ni<=x/\x<ni+((D.length:Nat):Int)
 d:out.Nodup
def oy.nil{D:List aR}:oy ni D []:=⟨(λx hx=>by cases hx),List.nodup_nil⟩
variable{k:Nat}
def oy.add{D:List aR}{out:aR}(h:oy ni D out)(hc:Cc ni D out k):oy ni D (out++[ni+(k:Int)]):=by
 let⟨s,b,h1,_⟩:=hc;let a:=(aci.1 b).1;refine⟨λx hx=>?_,?_⟩
 ·rcases acn.1 hx with a|a
  ·exact h.r x a
  ·rw[ack.1 a];omega
 ·exact(by rw[aex];refine⟨h.d,by simp,?_⟩;grind)
def ML{n:Nat}:∀{m:Nat} {l:gB},l.Nodup->(∀x∈l,x<n)->l.length=m->m<=n:=by
 induction n with
 |zero=>
  intro m l _ d c;cases l with
  |nil=>simp at c;omega
  |cons x l=>let:=d x acT;omega
 |succ n b=>
  intro m l h1 d c
  let f:=b (m:=(l.filter (λx=>decide (x≠n))).length) (l:=l.filter (λx=>decide (x≠n))) (h1.filter _) (λx hx=>by
   grind) Z
  let a:l.length<=(l.filter (λx=>decide (x≠n))).length+1:=by
   clear d c f b
   induction l with
   |nil=>simp
   |cons y l a=>
    rw[adP] at h1;rw[adT];by_cases e:y=n
    ·exact(by subst e;rw[ab9 (by simp)];let a:l.filter (λx=>decide (x≠y))=l:=(by rw[aek];grind);rw[a];simp)
    ·exact dV
  omega
def oy.len{D:List aR}{out:aR}(h:oy ni D out):out.length<=D.length:=by
 let h1:(out.map λx=>(x-ni).toNat).Nodup:=by
  rw[List.nodup_iff_pairwise_ne,List.pairwise_map];refine(List.nodup_iff_pairwise_ne.1 h.d).imp_of_mem ?_;intro a b ha d c;let:=h.r a ha;let:=h.r b d;omega
 let:=ML (n:=D.length) h1 (λx hx=>by
  obtain⟨y,hy,rfl⟩:=acG.1 hx;let:=h.r y hy;omega) (acf _)
 omega
def JB(hni:0<=ni){D:List aR}:∀(k:Nat) {out:aR},oy ni D out->out.length+k=D.length->
 ((Yz ni D k out=some (mM ni D (k+1) out)/\(mM ni D (k+1) out).length=D.length)\/(Yz ni D k out=none/\(mM ni D (k+1) out).length<D.length))/\oy ni D (mM ni D (k+1) out)
 |0,out,h,hl=>by
  let e:mM ni D 1 out=out:=by
   unfold mM;split
   ·rfl
   ·rename_i hp;rcases sV hni (out:=out) (D:=D) with h1|⟨k,h1,h2,_⟩
    ·exact absurd h1.1 hp
    ·exact(by let:=(h.add h2).len;grind)
  rw[e];exact⟨.inl ⟨rfl,Y⟩,h⟩
 |k+1,out,h,hl=>by
  unfold Yz mM;rcases sV hni (out:=out) (D:=D) with h1|⟨m,h1,h2,_⟩
  ·exact qj
  ·exact(by rw[ab9 Y,ab9 Y,h1];exact JB hni k (h.add h2) (by grind))
def uM{out:aR}:∀(ss:List bc) (i:Int),dX ni out ss i=ly ni out (ss.map df) i
 |[],_=>rfl
 |s::l,i=>by
  unfold dX;rw[acC];unfold ly;rw[uM l (i+1)];rfl
def N5{ss:List bc}:∀(k:Nat) (out:aR),lm ni ss k out=Yz ni (ss.map df) k out
 |0,_=>rfl
 |k+1,out=>by
  unfold lm Yz;rw[uM,N5 k]
def oK(j:et):aR:=mM j.aa.length (j.ae.map df) (j.ae.length+1) []
def Fj{j:et}(h:du j=0):(ez j=if(oK j).length<j.ae.length then([],7) else(oK j,0))/\oy j.aa.length (j.ae.map df) (oK j):=by
 let h1:=JB (ni:=j.aa.length) (by omega) (D:=j.ae.map df) j.ae.length oy.nil (by simp);refine⟨?_,h1.2⟩;unfold ez;rw[aca h,N5]
 grind[oK]
def sH(j:et):Int:=if 1<=j.aa.length/\1<=j.ae.length/\j.aa.length+j.ae.length<=16/\1<=j.aK.length/\j.aK.length<=16 then(if 0<=j.ba/\j.ba<4 then 0 else 2) else 5
def rp(j:et):Int:=if j.ae.all (λs=>xg (j.aa.length+j.ae.length) (df s))=true then(if xg (j.aa.length+j.ae.length) j.aK=true then 0 else 6) else 6
def Cs{j:et}:du j=if sH j=0 then rp j else sH j:=by
 grind[du,sH,rp]
def KN(ni:Nat)(out:aR)(ks:List Bool):Prop:=ks.length=16/\∀x:Nat,x<16->(ks[x]?=some true↔(x<ni\/((x:Nat):Int)∈out))
variable{a:List Bool}
def KN.at{ni:Nat}{out:aR}{x:Nat}{y:Int}{b:Bool}(h:KN ni out a)(hx:a[x]?=some b)(hy:y=(x:Int)):b=true↔(y<(ni:Int)\/y∈out):=by
 subst hy;have h1:=(aci.1 hx).1;have a:=h.2 x (by rw[<-h.1];exact h1)
 simp_all
def KN.nil:KN 0 [] (List.replicate 16 false):=by
 refine⟨rfl,λx hx=>?_⟩
 grind
def KN.set{ni:Nat}{out:aR}{b:List Bool}(h:KN ni out b)(a:k<16):(b.set k true).length=16/\∀x:Nat,x<16->((b.set k true)[x]?=some true↔(x=k\/x<ni\/(x:Int)∈out)):=by
 refine⟨by rw[acz];exact h.1,λx hx=>?_⟩;rw[acV];by_cases e:k=x
 ·rw[aca e,aca (by rw[h.1];omega)];exact⟨λ_=> .inl e.symm,λ_=>rfl⟩
 ·exact(by rw[ab9 e,h.2 x hx];grind)
variable{i:Nat}
def KN.inp(h:KN i [] a)(hi:i<16):KN (i+1) [] (a.set i true):=by
 let h1:=h.set hi;exact⟨h1.1,λx hx=>qj⟩
def KN.add{ni:Nat}{out:aR}{y:Int}(h:KN ni out a)(hy:0<=y/\y<16):KN ni (out++[y]) (a.set y.toNat true):=by
 let h1:=h.set (k:=y.toNat) (by omega);refine⟨h1.1,λx hx=>?_⟩
 grind
def pc(ni:Nat)(out:aR)(s:bc)(i:Nat):Bool:=decide (¬(((ni:Nat):Int)+((i:Nat):Int))∈out)&&vn ni out s
def N8{ni:Nat}{out:aR}{s:bc}(h:((ni:Int)+i)∈out):pc ni out s i=false:=by grind[pc]
def Nw{ni:Nat}{out:aR}{s:bc}{x:Int}(hx:(df s)[k]?=some x)(h:¬(x<(ni:Int)\/x∈out)):pc ni out s i=false:=by
 grind[pc,vn]
def Qp{ni:Nat}{out:aR}{s:bc}(h1:¬((ni:Int)+i)∈out)(a:vn ni out s=true):pc ni out s i=true:=by grind[pc]
def RK{ni:Nat}{out:aR}{ss:List bc}{j:Nat}{s:bc}(a:ss[j]?=some s)(h:¬pc ni out s j=true):dX ni out (ss.drop j) (j:Int)=dX ni out (ss.drop (j+1)) ((j:Int)+1):=by
 rw[dZ a,dX,ab9 (show ¬(decide _&&vn _ _ _)=true from h)]
def PL{ni:Nat}{out:aR}{ss:List bc}{j:Nat}{s:bc}(a:ss[j]?=some s)(h:pc ni out s j=true):dX ni out (ss.drop j) (j:Int)=ni+(j:Int):=by
 rw[dZ a,dX,aca (show(decide _&&vn _ _ _)=true from h)]
def oy.snoc{D:List aR}{out:aR}(a:0<=ni)(h:oy ni D out)(hp:¬ly ni out D 0<0):oy ni D (out++[ly ni out D 0]):=by
 rcases sV a (out:=out) (D:=D) with h1|⟨k,h1,a,_⟩
 ·exact absurd h1.1 hp
 ·rw[h1];exact h.add a
def HW(p:eK)(hp:eK.Ok [H] p)(a:p.aa.n<=1000000/\p.ae.n<=1000000/\p.aK.n<=1000000)(d:X W w (H::F)):
 Ro prog 252 #[.agg (bG p).toArray] (I (sH p.v)) W w (H::F):=by
 let a:=hp.aa.le;have b:=hp.aa.len;let a:=hp.ae.le;have c:=hp.ae.len;let a:=hp.aK.ll;let w0:(p.aa.l.map ah.v).length=p.aa.n:=by simp[b]
 let a:(p.ae.l.map aA.v).length=p.ae.n:=by simp[c]
 refine aq 41 func252 Z<|Q 2<|eD d (bG p) λ_ _ a=>JO 4<|bJ a [] (fb 1 0 0 1<|fb 4 0 1 1<|fb 7 0 2 1<|fn) [0,3,6,1,2,9,4,5,10,7,8,11] λ_ d=>wV 3<|wL 0<|wV 2<|wL 1<|wV 2<|wL 2<|wV 2<|wN<|JX 7<|sE 17 (p.aa.n:Int) 0 (λb=>RO 19 [I 5]<|Kj) λb=>je<|sE 21 (p.ae.n:Int) 0 (λb=>RO 15 [I 5]<|Kj) λb=>cG<|gY<|aU (p.aa.n:Int) (p.ae.n:Int)<|JO 4<|cD (((p.aa.n:Int)+p.ae.n)>16) (λa=>RC 7 [I 5]<|(by let h0:=(d.aj 0 Z);have c:sH p.v=5:=(by unfold sH;rw[ab9 LK]);exact⟨by rw[c];rfl,h0⟩)) λa=>Q 8<|sE 29 (p.aK.n:Int) 0 (λb=>RO 13 [I 5]<|Kj) λb=>JO 5<|cD ((p.aK.n:Int)>16) (λb=>RC 7 [I 5]<|Kj) λb=>?_;exact GC d 9 [0]<|sD 36 (p.ba<0) (λb=>RO 14 [I 2]<|TE) λb=>GO d 6 [0]<|cD (p.ba>=4) (λb=>RC 7 [I 2]<|TE) λb=>RC 8 [I 0]<|let a:=(d.aj 0 Z);have c:sH p.v=0:=(by unfold sH;rw[aca LK,aca LK]);⟨by rw[c];rfl,a⟩
def K8(p:eK)(hp:eK.Ok [H] p)(a:p.aa.n<=1000000/\p.ae.n<=1000000/\p.aK.n<=1000000)(d:X W w (H::F)):
 Ro prog 253 #[.agg (bG p).toArray] (I (rp p.v)) W w (H::F):=by
 let a:=hp.aa.le;have b:=hp.aa.len;let a:=hp.ae.le;have c:=hp.ae.len;let a:=hp.aK.ll;let a:(p.aa.l.map ah.v).length=p.aa.n:=by simp[b]
 let a:(p.ae.l.map aA.v).length=p.ae.n:=by simp[c]
 refine aq 55 func253 Z<|Q 2<|eD d (bG p) λ_ _ a=>GO a 11 [0,0]<|aU (p.aa.n:Int) (p.ae.n:Int)<|GO a 13 [0]<|bF [1,3,18,19] (γ:=Nat) (λi R=>⟨[(20,I i)],R,p.ae.n-i,i<=p.ae.n/\(((p.ae.l.map aA.v).take i).all (λs=>xg ((p.aa.l.map ah.v).length+(p.ae.l.map aA.v).length:Int) (df s))=true)⟩) 0 ⟨a,Y,by rfl⟩ ?_;rintro i V _⟨j,a,q⟩;refine Q 6<|CD ((i:Int)<p.ae.n) (λo=>Q 7<|(by let n:(p.ae.l.map aA.v).all (λs=>xg ((p.aa.l.map ah.v).length+(p.ae.l.map aA.v).length:Int) (df s))=true:=di q Y;refine GC j 8 [0]<|bF [3,41,42] (γ:=Nat) (λm R=>⟨[(43,I m)],R,p.aK.n-m,m<=p.aK.n/\(xg ((p.aa.l.map ah.v).length+(p.ae.l.map aA.v).length:Int) (p.aK.l.take m)=true)⟩) 0 ⟨j,Y,by rfl⟩ ?_;rintro m V _⟨c,a,g⟩;refine Q 6<|CD ((m:Int)<p.aK.n) (λb=>RC 11 [I 0]<|(by let a:=(c.aj 0 Z);let d:=di g Y;let l:rp p.v=0:=(by unfold rp;rw[aca (by exact n),aca (by exact d)]);exact⟨by rw[l];rfl,a⟩)) λb=>Q 6<|kQ hp.aK m λh0 _ _ e a=>eB c (a.up 1 Z) 0 (I h0)<|JO 8<|sD 49 (h0<0) (λb=>RO 18 [I 6]<|(by let a:=(c.aj 0 Z);let d:=cy (p:=λx=>decide (0<=x/\x<((p.aa.l.map ah.v).length+(p.ae.l.map aA.v).length:Int))) e (acb Y);let l:rp p.v=6:=(by unfold rp;rw[aca (by exact n),ab9 (by exact λh=>adk (d.symm.trans h))]);exact⟨by rw[l];rfl,a⟩)) λb=>JO 6<|CD (h0>=((p.aa.n:Int)+p.ae.n)) (λa=>Q 4<|aU (m:Int) 1<|bX 2 Z<|⟨m+1,od,bR,c,Y,all_succ g e (acg Y)⟩) λa=>RC 11 [I 6] ?_;let a:=(c.aj 0 Z);let d:=cy (p:=λx=>decide (0<=x/\x<((p.aa.l.map ah.v).length+(p.ae.l.map aA.v).length:Int))) e (acb Y);let l:rp p.v=6:=(by unfold rp;rw[aca (by exact n),ab9 (by exact λh=>adk (d.symm.trans h))]);exact⟨by rw[l];rfl,a⟩)) λo=>?_;refine Q 6<|kQ hp.ae i λb _ _ o a=>lv j (a.up 1 Z) 0 (aL b)<|aI j zeroValue115 λ_ _ w0=>bP w0 0 Z (aL b) λ_ a=>GO a 5 [1800]<|cZ (kD b ((hp.dC b (ab8 o)).ag (mF 2)) a.ao) ?_;rintro _ _⟨_,c,_,_,rfl,e,a⟩;let d:=a.ak;let a:=e.ll;let a:1<=(df b.v).length/\(df b.v).length<=2:=jF _;refine JO 5<|bF [1,3,18,19,20,25,26] (γ:=Nat) (λk R=>⟨[(27,I k)],R,c-k,k<=c/\(xg ((p.aa.l.map ah.v).length+(p.ae.l.map aA.v).length:Int) ((df b.v).take k)=true)⟩) 0 ⟨d,Y,by rfl⟩ ?_;rintro k V _⟨d,l,n⟩;exact Q 6<|CD ((k:Int)<c) (λa=>Q 7<|aU (i:Int) 1<|bX 2 Z<|⟨i+1,od,bR,(d.ap [0,0]),Y,all_succ q (cg (f:=aA.v) o) (show xg _ (df b.v)=true from di n Y)⟩) λa=>Q 6<|i9 e (k:Int) k λb _ _ e a _=>eB d (a.up 0 Z) 0 (I b)<|JO 8<|sD 33 (b<0) (λj=>RO 22 [I 6]<|(by let a:=(d.ap [0,0,0]);let g:=cy (p:=λx=>decide (0<=x/\x<((p.aa.l.map ah.v).length+(p.ae.l.map aA.v).length:Int))) e (acb Y);have c:=cy (p:=λs=>xg ((p.aa.l.map ah.v).length+(p.ae.l.map aA.v).length:Int) (df s)) (cg (f:=aA.v) o) g;let l:rp p.v=6:=(by unfold rp;rw[ab9 (by exact λh=>adk (c.symm.trans h))]);exact⟨by rw[l];rfl,a⟩)) λj=>JO 6<|CD (b>=((p.aa.n:Int)+p.ae.n)) (λa=>Q 4<|aU (k:Int) 1<|bX 2 Z<|⟨k+1,od,bR,d,Y,all_succ n e (acg Y)⟩) λa=>RC 15 [I 6]<|let a:=(d.ap [0,0,0]);let g:=cy (p:=λx=>decide (0<=x/\x<((p.aa.l.map ah.v).length+(p.ae.l.map aA.v).length:Int))) e (acb Y);have c:=cy (p:=λs=>xg ((p.aa.l.map ah.v).length+(p.ae.l.map aA.v).length:Int) (df s)) (cg (f:=aA.v) o) g;let l:rp p.v=6:=(by unfold rp;rw[ab9 (by exact λh=>adk (c.symm.trans h))]);⟨by rw[l];rfl,a⟩
def Cm{m d f:Nat}{p:eK}{c:List Bool}{out:aR}{q:aA}(hp:eK.Ok [H] p)(o:KN p.aa.n out c)(j:p.ae.l[i]?=some q)(a:p.aa.n+p.ae.n<=16)(r:∀x∈df q.v,0<=x/\x<16)(g:X W w ((iO m 346 [] (c.flatMap rb) [])::aW d #[I p.aa.n] 3::aW f (bG p).toArray 41::H::F)):
 Calls prog 294 #[I i,Pt m 0,Pt d 0,Pt f 0] w λe a=>e=.returned (.bool (pc p.aa.n out q.v i))/\X W a ((iO m 346 [] (c.flatMap rb) [])::aW d #[I p.aa.n] 3::aW f (bG p).toArray 41::H::F):=by
 let s:=o.1;let a:=(aci.1 j).1;let a:=jF q.v;let w0:=hp.aa.ll;let a:=hp.ae.ll;let a:=hp.aK.ll;refine aq 29 func294 Z<|Yt g 10 [1] Z<|aU (p.aa.n:Int) (i:Int) ?_;let⟨a,l⟩:=kU s (k:=(((p.aa.n:Int)+i).toNat)) Y;refine zo (b:=m) (off:=0) ((p.aa.n:Int)+i) (((p.aa.n:Int)+i).toNat) runUnderlying346 sizeOf4<|eB g (eC 0 Z (dN (sz:=1) (n0:=0) fR l)) 0 (.bool a)<|VD 2 Z<|cB a (λa=>Am 7 Z<|fc [.bool false]<|(by let he:pc p.aa.n out q.v i=false:=N8 (((o.at l Y).1 a).resolve_left Y);exact⟨by rw[he];rfl,g⟩)) λa=>Al 4 Z ?_;let n:=a;refine Yt g 4 [2] Z<|kQ hp.ae i λa _ _ d c=>?_;obtain rfl:q=a:=ace (j.symm.trans d);refine lv g (c.up 3 Z) 0 (aL q)<|cZ (kD q ((hp.dC q (ab8 d)).ag (mF 3)) g.ao) ?_;rintro _ _⟨_,c,_,_,rfl,g,a⟩;let d:=a.ak;let a:=g.ll;let a:1<=(df q.v).length/\(df q.v).length<=2:=jF _;refine VD 5 Z<|bF [1,18,19] (γ:=Nat) (λk R=>⟨[(20,I k)],R,c-k,k<=c/\(((df q.v).take k).all (λx=>decide (x<(p.aa.n:Int)\/x∈out))=true)⟩) 0 ⟨d,Y,by rfl⟩ ?_;rintro k V _⟨f,a,j⟩;refine Al 6 Z<|CD ((k:Int)<c) (λc=>Am 11 Z<|fc [.bool true]<|(by let a:=(f.aj 0 Z);let he:pc p.aa.n out q.v i=true:=Qp (λh=>n ((o.at l Y).2 (.inr h))) (di j Y);exact⟨by rw[he];rfl,a⟩)) λc=>GJ 6 Z<|i9 g (k:Int) k λc _ _ h0 d _=>?_;let a:=r c (ab8 h0);refine eB f (d.up 0 Z) 0 (I c)<|jOO 6 Z ?_;let⟨a,d⟩:=kU s (k:=(c.toNat)) Y;exact zo (b:=m) (off:=0) c (c.toNat) runUnderlying346 sizeOf4<|eB f (eC 1 Z (dN (sz:=1) (n0:=0) fR d)) 0 (.bool a)<|VD 3 Z<|UX a (λa=>GJ 4 Z<|aU (k:Int) 1<|bX 2 Z<|⟨k+1,od,bR,f,Y,all_succ j h0 (acg ((o.at d Y).1 a))⟩) λa=>Am 11 Z<|fc [.bool false]<|(by let c:=(f.aj 0 Z);let he:pc p.aa.n out q.v i=false:=Nw h0 (λh=>a ((o.at d Y).2 h));exact⟨by rw[he];rfl,c⟩)
def M7(p:eK)(hp:eK.Ok [H] p)(a:p.aa.n+p.ae.n<=16)(g:∀z∈p.ae.l,∀x∈df z.v,0<=x/\x<((p.aa.n+p.ae.n:Nat):Int))(m:X W w (H::F)):
 Calls prog 254 #[.agg (bG p).toArray] w λe a=>∃(u:cf) (A t:Nat) (G:af),e=.returned (.slice u A t)/\aF ca 3 1 u A t (oK p.v) G/\X W a (G::H::F):=by
 let a:=hp.aa.le;have c:=hp.aa.len;let a:=hp.ae.le;have d:=hp.ae.len;let a:=hp.aK.ll;let N:(p.aa.l.map ah.v).length=p.aa.n:=by simp[c]
 let M:(p.ae.l.map aA.v).length=p.ae.n:=by simp[d]
 let Oz:∀z∈p.ae.l,∀x∈df z.v,0<=x/\x<16:=λz hz x hx=>by let h:=g z hz x hx;omega
 refine aq 43 func254 Z<|Q 2<|eD m (bG p) λK _ a=>JO 5<|aI a zeroValue346 λB _ c=>er<|let a:X W _ ((iO B 346 [] ((List.replicate 16 false).flatMap rb) [])::aW K (bG p).toArray 41::H::F):=c;GX a 6 [1]<|aI a zeroValue3 λs _ a=>?_;refine sT a 0 0 (I p.aa.n) [I p.aa.n] #[I p.aa.n] sizeOf3 λ_ h0=>GO h0 10 [0]<|bF [1,3,4,13] (γ:=Nat×(List Bool)) (λ⟨i,g⟩ R=>⟨[(14,I i)],aW s #[I p.aa.n] 3::(iO B 346 [] (g.flatMap rb) [])::R,p.aa.n-i,i<=p.aa.n/\(KN i [] g)⟩) (0,(List.replicate 16 false)) ⟨h0,Y,KN.nil⟩<|λ⟨i,g⟩ V _⟨n,a,d⟩=>let o:=d.1;Q 6<|cD ((i:Int)<p.aa.n) (λm=>Q 12<|(by let⟨a,c⟩:=kU d.1 (k:=i) Y;exact zo (b:=B) (off:=0) (i:Int) i runUnderlying346 sizeOf4<|MG (enc:=rb) (sz:=1) n fR 1 i 0 0 a true c (.bool true) [.bool true] sizeOf4 λ_ a=>JO 4<|aU (i:Int) 1<|bX 2 Z<|⟨(i+1,(g.set i true)),od,bR,a,Y,(d.inp Y)⟩)) λm=>jCX 10 Z<|let m:KN p.aa.n [] g:=(by rw[show p.aa.n=i by omega];exact d);JX 7<|have c:=X.bU n;bF [1,3,4,6] (γ:=aR×cf×Nat×Nat×af×(List Bool)) (λ⟨d,u,A,t,a,D⟩ R=>⟨[(7,.slice u A t)],a::(iO B 346 [] (D.flatMap rb) [])::R,(p.ae.n-d.length),aF ca 3 1 u A t d a/\KN p.aa.n d D/\oy (p.aa.n:Int) ((p.ae.l.map aA.v).map df) d/\mM (p.aa.n:Int) ((p.ae.l.map aA.v).map df) (p.ae.n+1) []=mM (p.aa.n:Int) ((p.ae.l.map aA.v).map df) (p.ae.n+1-d.length) d⟩) ([],none,0,0,[],g) ⟨(c.az [2,1]),(aF.nil (enc:=ca) (E:=3) (sz:=1) fR),m,oy.nil,rfl⟩ ?_;rintro⟨d,u,A,t,a,D⟩ V _⟨c,v,C,L,J⟩;let a:=v.ll;let R0:=L.len;rw[acf] at R0;let o:=C.1;refine GC c 16 [3]<|bF [1,3,4,6,7,23,8] (γ:=Nat) (λj R=>⟨[(24,I j)],R,p.ae.n-j,j<=p.ae.n/\(dX (p.aa.n:Int) d ((p.ae.l.map aA.v).drop 0) ((0:Nat):Int)=dX (p.aa.n:Int) d ((p.ae.l.map aA.v).drop j) (j:Int))⟩) 0 ⟨c,Y,by rfl⟩<|λj V _⟨c,a,y⟩=>Q 6<|CD ((j:Int)<p.ae.n) (λw0=>RC 24 [.slice u A t]<|(by let q:ly (p.aa.n:Int) d ((p.ae.l.map aA.v).map df) 0=-1:=ZO;let o:oK p.v=d:=Z7;let a:=(c.ap [1,1,1]);exact TX)) λw0=>Q 14 ?_;let a:=(c.az [3,3,3]);obtain⟨c,r⟩:∃z,p.ae.l[j]?=some z:=⟨_,aco (show j<p.ae.l.length by omega)⟩;refine Gl #[Pt B 0,Pt s 0,Pt K 0] call294 (Cm (hp.ag (mF 1)) C r Y (Oz c (ab8 r)) (X.YL a)) ?_;rintro _ _⟨rfl,a⟩;let m:=X.IB a;refine JO 2<|CB (pc p.aa.n d c.v j) (λs=>Q 4<|aU (j:Int) 1<|bX 2 Z<|⟨j+1,od,bR,(m.pick 3 Z),Y,(y.trans (RK (cg (f:=aA.v) r) s))⟩) λs=>GC m 4 [1]<|aU (p.aa.n:Int) (j:Int)<|JO 16<|cD (((p.aa.n:Int)+j)<0) (λc=>RC 11 [.slice u A t]<|(by let q:ly (p.aa.n:Int) d ((p.ae.l.map aA.v).map df) 0=-1:=ZO;let o:oK p.v=d:=Z7;let a:=(m.ap [0,0,0]);exact TX)) λc=>Q 5<|let⟨d1,e1⟩:=kU C.1 (k:=(((p.aa.n:Int)+j).toNat)) Y;zo (b:=B) (off:=0) ((p.aa.n:Int)+j) (((p.aa.n:Int)+j).toNat) runUnderlying346 sizeOf4<|MG (enc:=rb) (sz:=1) m fR 0 (((p.aa.n:Int)+j).toNat) 0 0 d1 true e1 (.bool true) [.bool true] sizeOf4 λ_ a=>JO 5<|ec a #[I ((p.aa.n:Int)+j)] 3 λ_ _ a=>dM (nb:=8) a v 4 (bl.dO (enc:=ca) (sz:=1) (xs:=[((p.aa.n:Int)+j)]) fR 1 0 Z Z Z Y) underlying22 (i:=Tryz.t3) kr fR λh1 m g _ o a=>bX 3 Z ?_;let n:=((a.pick 4 Z).aj 1 Z);let q:ly (p.aa.n:Int) d ((p.ae.l.map aA.v).map df) 0=((p.aa.n:Int)+j):=by rw[<-uM,<-ado (l:=(p.ae.l.map aA.v))];exact(show dX _ _ _ ((0:Nat):Int)=_ from y.trans (PL (cg (f:=aA.v) r) s))
 have c:=oy.snoc Y L (by rw[q];omega);rw[q] at c;let a:=c.len;rw[acf,acm,ac4] at a;exact⟨((d++[((p.aa.n:Int)+j)]),h1,(A+1),m,g,(D.set (((p.aa.n:Int)+j).toNat) true)),(by dsimp only;rw[acm,ac4];omega),bR,n,o,(C.add Y),c,(by rw[J,show p.ae.n+1-d.length=(p.ae.n+1-(d.length+1))+1 by omega,mM,ab9 (by rw[q];omega),q,acm,ac4])⟩
def IT{j:et}(h:du j=0):1<=j.aa.length/\1<=j.ae.length/\j.aa.length+j.ae.length<=16:=by
 grind[du]
def DW{j:et}(h:du j=0){s:bc}(a:s∈j.ae):∀x∈df s,0<=x/\x<(j.aa.length:Int)+j.ae.length:=by
 let h1:=Dh h a;intro x hx;unfold df at hx
 grind
def BD(p:eK)(hp:eK.Ok [H] p)(a:p.aa.n<=1000000/\p.ae.n<=1000000/\p.aK.n<=1000000)(f:X W w (H::F)):
 Calls prog 209 #[.agg (bG p).toArray] w λe d=>∃(c:cf) (a b:Nat) (G:af),e=.returned (.tuple #[.slice c a b,I ((ez p.v).2)])/\aF ca 3 1 c a b ((ez p.v).1) G/\X W d (G::H::F):=by
 let a:=hp.aa.le;have b:=hp.aa.len;let a:=hp.ae.le;have c:=hp.ae.len;let a:=hp.aK.ll;let a:(p.aa.l.map ah.v).length=p.aa.n:=by simp[b]
 let m:(p.ae.l.map aA.v).length=p.ae.n:=by simp[c]
 refine aq 26 func209 Z<|Q 2<|eD f (bG p) λ_ _ a=>GO a 8 [400]<|cS (HW p (hp.ag (mF 1)) od a.ao) λ_ c=>JO 9<|CN (sH p.v) 0 (λd=>RC 9 [nS,I (sH p.v)]<|(by let w0:du p.v=sH p.v:=(by rw[Cs,ab9 d]);let j:ez p.v=([],sH p.v):=(by unfold ez;rw[ab9 (by rw[w0];exact d),w0]);let a:=(c.aj 0 Z);exact Vw)) λd=>GC c 6 [400]<|cS (K8 p (hp.ag (mF 1)) od c.ao) λ_ f=>JO 9<|CN (rp p.v) 0 (λc=>RC 9 [nS,I (rp p.v)]<|(by let w0:du p.v=rp p.v:=(by rw[Cs,aca d]);let j:ez p.v=([],rp p.v):=(by unfold ez;rw[ab9 (by rw[w0];exact c),w0]);let a:=(f.aj 0 Z);exact Vw)) λc=>Q 3<|let w0:du p.v=0:=(by rw[Cs,aca d];exact c);let l:=Fj w0;let a:=IT w0;have b:p.aa.n+p.ae.n<=16:=(by let h:=a;simp only[eK.v] at h;omega);let a:∀z∈p.ae.l,∀x∈df z.v,0<=x/\x<((p.aa.n+p.ae.n:Nat):Int):=(λz hz x hx=>by let h:=DW w0 (s:=z.v) (afc hz) x hx;simp only[eK.v] at h;omega);GC f 2 [400]<|cZ (M7 p (hp.ag (mF 1)) b a f.ao) ?_;rintro _ _⟨c,h0,b,_,rfl,d,a⟩;let f:=a.ak;let a:=d.ll;refine GO f 14 [1]<|CD ((h0:Int)<p.ae.n) (λi=>RC 10 [.slice c h0 b,I 0]<|(by let j:ez p.v=(oK p.v,0):=(by rw[l.1,ab9 Vg]);let a:=(f.aj 1 Z);let k:(oK p.v)=(ez p.v).1:=(by rw[j]);let g:=d;rw[k] at g;exact⟨_,_,_,_,(by rw[j];rfl),g,a⟩)) λi=>RC 8 [nS,I 7] ?_;let j:ez p.v=([],7):=by rw[l.1,aca Vg]
 let a:=(f.ap [0,0]);have b:=X.bU a;let k:([]:aR)=(ez p.v).1:=(by rw[j]);let g:=aF.nil (enc:=ca) (E:=3) (sz:=1) fR;rw[k] at g;exact⟨_,_,_,_,(by rw[j];rfl),g,b⟩
end
section
variable{W w:World}{H:af}{F:cj}
def qz{s:bc}:(df s).length=2↔fY s:=by
 grind[df,fY]
def tL(p:eK)(hp:eK.Ok [H] p)(a:p.aa.n<=1000000/\p.ae.n<=1000000/\p.aK.n<=1000000)(g:X W w (H::F)):
 Calls prog 146 #[.agg (bG p).toArray] w λe d=>∃(c:cf) (a b:Nat) (G:af),e=.returned (.tuple #[.slice c a b,I ((db p.v).2.1),I ((db p.v).2.2)])/\aF gN 109 3 c a b ((db p.v).1) G/\X W d (G::H::F):=by
 let a:=hp.aa.le;have b:=hp.aa.len;let a:=hp.ae.le;have c:=hp.ae.len;let a:=hp.aK.ll;let T:(p.aa.l.map ah.v).length=p.aa.n:=by simp[b]
 let S:(p.ae.l.map aA.v).length=p.ae.n:=by simp[c]
 refine aq 103 func146 Z<|Q 2<|eD g (bG p) λ_ _ a=>GO a 8 [400]<|cZ (BD p (hp.ag (mF 1)) od a.ao) ?_;rintro _ _⟨_,L,_,_,rfl,Qz,a⟩;have c:=a.ak;let a:=Qz.ll;refine JO 14<|CN ((ez p.v).2) 0 (λd=>RC 10 [nS,I 0,I ((ez p.v).2)]<|(by let z:db p.v=([],0,(ez p.v).2):=(by unfold db;rw[ab9 ‹_›]);let a:=(c.ap [0,0]);exact N9)) λd=>GC c 16 [1,1]<|aU (p.aa.n:Int) (p.ae.n:Int)<|gC (kl:=.i64) (kc:=.i64) (enc:=gN) (sz:=3) (nb:=24) c ⟨0,0,0⟩ ((p.aa.n:Int)+p.ae.n).toNat ((p.aa.n:Int)+p.ae.n) (Y:((p.aa.n:Int)+p.ae.n)=((((p.aa.n:Int)+p.ae.n).toNat:Nat):Int)) underlying106 (i:=Tryz.t109) kr fR λb c _ d a=>GO a 13 [2]<|bF [1,5,7,36,37] (γ:=Nat×(List aY)×SO) (λ⟨i,u,r,m,q,v⟩ R=>⟨[(38,I i),(8,.slice r m q)],v::R,p.aa.n-i,i<=p.aa.n/\(u=((p.aa.l.map ah.v).take i).map cd++List.replicate (p.aa.n+p.ae.n-i) ⟨0,0,0⟩)/\(((p.aa.l.map ah.v).take i).all aO=true)/\(u.length=p.aa.n+p.ae.n)/\aF gN 109 3 r m q u v⟩) (0,(List.replicate ((p.aa.n:Int)+p.ae.n).toNat ⟨0,0,0⟩),(At b 0),((p.aa.n:Int)+p.ae.n).toNat,((p.aa.n:Int)+p.ae.n).toNat,c) ⟨a,Y,by simp;omega,by rfl,by simp;omega,d⟩ ?_;rintro⟨i,u,r,m,q,v⟩ V _⟨x,N,o,l,a,t⟩;let a:=t.ll;refine Q 6<|cD ((i:Int)<p.aa.n) (λA=>Q 7<|kQ hp.aa i λd _ _ k a=>lv x (a.up 3 Z) 0 (au d)<|aI x zeroValue103 λ_ _ h1=>bf<|bP h1 0 Z (au d) λ_ a=>GO a 6 [400]<|cS (ig d ⟨(bl.ao ((hp.gf d (ab8 k)).bM.up 4 (by rfl)))⟩ a.ao) λ_ g=>JO 3<|uP (aO d.v) (λc=>RC 15 [nS,I i,I 1]<|(by let a:(p.aa.l.map ah.v).all aO=false:=cy (cg (f:=ah.v) k) UA;let B:((p.aa.l.map ah.v).takeWhile aO).length=i:=qg l (cg (f:=ah.v) k) UA;let z:db p.v=([],(i:Int),1):=(by unfold db;rw[aca ‹_›,ab9 (by exact λh=>adk (a.symm.trans h))];exact acd (λn:Nat=>(([]:List aY),(n:Int),(1:Int))) B);let a:=(g.ap [0,0,0,0]);exact N9)) λc=>GC g 12 [0,0,0]<|i9 t (i:Int) i λb _ _ c _ a=>fj g t a 1 i 0 b (⟨d.w,d.h,d.aG⟩:aY) c (.agg #[I d.w,I d.h,I d.aG]) [I d.w,I d.h,I d.aG] sizeOf109 λ_ a c b=>JO 4<|aU (i:Int) 1<|bX 2 Z<|⟨(i+1,(u.set i (⟨d.w,d.h,d.aG⟩:aY)),r,m,q,a),od,bR,(b.aj 0 Z),Y,by rw[o];exact JQ (f:=cd) (cg (f:=ah.v) k) Y,all_succ l (cg (f:=ah.v) k) ‹_›,by simp;omega,c⟩) λA=>?_;refine Q 7<|let P:(p.aa.l.map ah.v).all aO=true:=di l mo;let M:u=(p.aa.l.map ah.v).map cd++List.replicate p.ae.n ⟨0,0,0⟩:=(by rw[o,acj mo];congr 2;omega);have c:=xU (j:=p.v) Y;let k:=zL (j:=p.v) Y;Q 7<|bF [1,7,58,59] (γ:=Nat×(List aY)×SO) (λ⟨i,o,J,C,D,a⟩ R=>⟨[(60,I i),(8,.slice J C D)],a::R,L-i,i<=L/\(iB (p.aa.n:Int) (p.ae.l.map aA.v) ((ez p.v).1) u=iB (p.aa.n:Int) (p.ae.l.map aA.v) (((ez p.v).1).drop i) o)/\(o.length=p.aa.n+p.ae.n)/\aF gN 109 3 J C D o a⟩) (0,u,r,m,q,v) ⟨x,Y,by rfl,by rw[M];simp;omega,t⟩ ?_;rintro⟨i,o,J,C,D,a⟩ V _⟨g,N,Oz,a,v⟩;let a:=v.ll;refine Q 6<|CD ((i:Int)<L) (λb=>RC 14 [.slice J C D,I 0,I 0]<|(by let A:db p.v=iB (p.aa.n:Int) (p.ae.l.map aA.v) ((ez p.v).1) u:=TS;let z:db p.v=(o,0,0):=(by rw[A,Oz,acO Y];rfl);let a:=(g.ap [1,1]);let K:o=(db p.v).1:=(by rw[z]);let y:=v;rw[K] at y;exact⟨_,_,_,_,(by rw[z];rfl),y,a⟩)) λb=>Q 6<|i9 Qz (i:Int) i λm _ _ L a _=>let R0:(p.aa.n:Int)<=m/\m<(p.aa.n:Int)+p.ae.n:=(by let h:=c m (ab8 L);simp only[eK.v] at h;omega);eB g (a.up 1 Z) 0 (I m)<|GO g 9 [2]<|dP m (p.aa.n:Int)<|oJ hp.ae (m-(p.aa.n:Int)) λd _ _ h0 c=>?_;let⟨b,l⟩:=Dh k (s:=d.v) (afc (ab8 h0));let a:0<=d.a/\d.a<(p.aa.n:Int)+p.ae.n:=by simp only[eK.v,aA.v] at b;omega
 refine lv g (c.up 3 Z) 0 (aL d)<|aI g zeroValue115 λ_ _ a=>bP a 0 Z (aL d) λ_ b=>GO b 7 [0]<|i9 v d.a (d.a).toNat λg _ _ N a _=>lv b (a.up 1 Z) 0 [I g.w,I g.h,I g.aG]<|bf<|aI b zeroValue109 λ_ _ a=>aI a zeroValue109 λb _ a=>bP a 1 Z [I g.w,I g.h,I g.aG] λ_ a=>bP a 0 Z [I 0,I 0,I 0] λ_ a=>JO 2<|eQ a 1 [1,7,58,59,60,8,12,13,14,15] (γ:=aY) (λk R=>⟨[],aW b #[I k.w,I k.h,I k.aG] 109::R,0,(if fY d.v then eg o d.v.b else⟨0,0,0⟩)=k⟩) ?_ ?_
 ·exact GC a 3 [1802]<|cZ (kD d ((hp.dC d (ab8 h0)).ag (mF 6)) a.ao)<|(by rintro _ _⟨_,b,_,_,rfl,w0,a⟩;have c:=a.ak;let a:=w0.ll;let a:1<=(df d.v).length/\(df d.v).length<=2:=jF _;refine JO 4<|CE (b:Int) 2 (λa=>lq 1 Z<|⟨(⟨0,0,0⟩:aY),bR,(c.aj 0 Z),(ab9 (λh=>by have b:=qz.2 h;omega))⟩) λa=>?_;let B:fY d.v:=qz.1 Y;let a:0<=d.b/\d.b<(p.aa.n:Int)+p.ae.n:=(by have b:=l B;simp only[eK.v,aA.v] at b;omega);exact GC c 4 [3]<|i9 v d.b (d.b).toNat λb _ _ l a _=>lv c (a.up 4 Z) 0 [I b.w,I b.h,I b.aG]<|bP c 1 Z [I b.w,I b.h,I b.aG] λ_ a=>bX 1 Z<|⟨b,bR,(a.aj 0 Z),(by rw[aca B];unfold eg;rw[show o[d.v.b.toNat]?=some b from l];rfl)⟩)
 rintro k V _⟨a,x⟩;refine GC a 5 [1802,301,300]<|cS (yO d g k ((hp.dC d (ab8 h0)).ag (mF 6)) a.ao) λ_ a=>gw<|aI a zeroValue109 λ_ _ a=>bP a 0 Z [I ((fK d.v g k).1.w),I ((fK d.v g k).1.h),I ((fK d.v g k).1.aG)] λ_ l=>JO 10<|CN ((fK d.v g k).2) 0 (λc=>RC 16 [nS,I m,I ((fK d.v g k).2)]<|(by let A:db p.v=iB (p.aa.n:Int) (p.ae.l.map aA.v) ((ez p.v).1) u:=TS;let u:gq (p.ae.l.map aA.v) (p.aa.n:Int) m=d.v:=(by unfold gq;rw[cg (f:=aA.v) h0];rfl);let r:eg o d.v.a=g:=(by unfold eg;rw[show o[d.v.a.toNat]?=some g from N];rfl);let q:=x;let t:fu (p.aa.n:Int) (p.ae.l.map aA.v) m o=fK d.v g k:=(by unfold fu;rw[u,r,q]);let z:db p.v=([],m,(fK d.v g k).2):=(by rw[A,Oz,dZ L,iB,t,ab9 ‹_›]);let a:=(l.ap [0,0,0,0,0,0,0]);exact N9)) λc=>GC l 6 [300]<|i9 v m m.toNat λb _ _ c _ a=>fj l v a 4 m.toNat 0 b (⟨(fK d.v g k).1.w,(fK d.v g k).1.h,(fK d.v g k).1.aG⟩:aY) c (.agg #[I ((fK d.v g k).1.w),I ((fK d.v g k).1.h),I ((fK d.v g k).1.aG)]) [I ((fK d.v g k).1.w),I ((fK d.v g k).1.h),I ((fK d.v g k).1.aG)] sizeOf109 λ_ a c b=>JO 4<|aU (i:Int) 1<|bX 2 Z ?_;let u:gq (p.ae.l.map aA.v) (p.aa.n:Int) m=d.v:=by unfold gq;rw[cg (f:=aA.v) h0];rfl
 let r:eg o d.v.a=g:=by unfold eg;rw[show o[d.v.a.toNat]?=some g from N];rfl
 let q:=x;let t:fu (p.aa.n:Int) (p.ae.l.map aA.v) m o=fK d.v g k:=by unfold fu;rw[u,r,q]
 exact⟨(i+1,(o.set ((m).toNat) (⟨(fK d.v g k).1.w,(fK d.v g k).1.h,(fK d.v g k).1.aG⟩:aY)),J,C,D,a),od,bR,(b.ap [0,0,0,0]),Y,by rw[Oz,dZ L,iB,t,aca ‹_›],by simp;omega,c⟩
def My(p:eK)(hp:eK.Ok [H] p)(a:p.aa.n<=1000000/\p.ae.n<=1000000/\p.aK.n<=1000000)(b:X W w (H::F)):
 Ro prog 84 #[.agg (bG p).toArray] (.tuple #[I ((db p.v).2.1),I ((db p.v).2.2)]) W w (H::F):=by
 let a:=hp.aa.ll;let a:=hp.ae.ll;let a:=hp.aK.ll;refine aq 15 func84 Z<|Q 2<|eD b (bG p) λ_ _ a=>GO a 7 [400]<|cZ (tL p (hp.ag (mF 1)) od a.ao) ?_;rintro _ _⟨_,_,_,_,rfl,b,a⟩;let c:=a.ak;let h0:=b.ll;exact UP
def Nc{O:cj}(a:cf)(n k:Nat)(c:X W w O):
 Calls prog 8 #[.slice a n k] w λe b=>∃p:Nat,e=.returned (Pt p 0)/\X W b (aW p #[.slice a n k,I 0] 91::O):=by
 exact aq 6 func8 Z<|Q 9<|eD c [.slice a n k,I 0] λc b b=>RO 4 [Pt c 0]<|⟨_,rfl,b⟩
def R9(v n:Int)(h:0<n):-n<v.tmod n/\v.tmod n<n:=by
 let h1:=adv v h;let a:=adK v h;omega
def Wt{O:cj}(v n:Int)(b:0<n)(a:n<=4611686018427387904)(c:X W w O):
 Calls prog 37 #[I v,I n] w λe a=>∃r:Int,e=.returned (I r)/\(0<=r/\r<n)/\X W a O:=by
 let a:=R9 v n b;exact aq 15 func37 Z<|Q 9<|Dw v n<|JO 10<|CD ((v.tmod n)<0) (λa=>RC 9 [I (v.tmod n)]<|⟨_,rfl,by omega,c⟩) λa=>Q 3<|aU (v.tmod n) n<|RO 10 [I ((v.tmod n)+n)]<|⟨_,rfl,by omega,c⟩
variable{p n k:Nat}{i:Int}
def bB{a:cf}{xs:aR}(g:bl ca 1 [H] a n k xs)(hi:0<=i/\i<=n)(f:X W w (aW p #[.slice a n k,I i] 91::H::F))(m:Int)(b:m<=4611686018427387904):
 Calls prog 12 #[Pt p 0,I m] w λe c=>∃r:Int,e=.returned (I r)/\(0<=r/\(r<m\/r=0))/\∃b:Int,(0<=b/\b<=n)/\X W c (aW p #[.slice a n k,I b] 91::H::F):=by
 have b:=g.le;refine aq 39 func12 Z<|Q 7<|bD ((m:Int)<1) (λd=>bJ f [] fn [0,1,2,3,4,5,7,8,9,6,10,11,12,13] λ_ b=>wV 3<|jy 7 _ true (acg d)<|wV 11<|wN<|RX 9 [I 0]<|⟨_,rfl,Y,_,Y,b⟩) λd=>bJ f [] (fb 6 0 1 1<|fb 10 0 0 1<|fn) [0,1,2,3,4,5,7,8,9,6,10,11,12,13] λ_ c=>wV 3<|jy 7 _ false (acb d)<|wV 6<|wL 0<|wL 1<|wV 3<|wN<|JX 1<|cD (i>=(n:Int)) (λb=>RC 7 [I 0]<|⟨_,rfl,Y,_,Y,c⟩) λb=>GC c 8 [0]<|aU i 1<|cG<|sT c 0 1 (I (i+1)) [I (i+1)] #[.slice a n k,I (i+1)] sizeOf3 λ_ c=>JO 3 ?_;obtain⟨f,b,b,b,h0,d⟩:=bl.elem g ((i+1)-1);refine bJ c [12] (fb 3 0 0 1<|fb 7 0 1 1<|fq 10 0 (h0.up 1 Z)<|fn) [0,1,2,4,5,6,11,3,7,8,9,10,12,13] λ_ b=>wV 7<|wL 0<|wL 1<|vY (i+1) 1<|wI d<|wL 2<|wO Z<|cZ (Wt f m Y Y b) ?_;rintro _ _⟨c,rfl,_,b⟩;exact nZ b [0,0]<|wV 1<|wN<|RX 2 [I c]<|⟨_,rfl,Y,_,Y,b⟩
def Lm{a:cf}{xs:aR}(d:bl ca 1 [H] a n k xs)(hi:0<=i/\i<=n)(c:X W w (aW p #[.slice a n k,I i] 91::H::F)):
 Calls prog 11 #[Pt p 0] w λe b=>∃v:Bool,e=.returned (.bool v)/\X W b (aW p #[.slice a n k,I i] 91::H::F):=by
 let b:=d.le;exact aq 13 func11 Z<|Q 6<|bJ c [] (fb 3 0 1 1<|fb 7 0 0 1<|fn) [0,1,2,4,5,6,3,7,8,9,10] λ_ b=>wV 6<|wL 0<|wL 1<|wV 3<|wN<|RX 2 [.bool (decide (i<(n:Int)))]<|⟨_,rfl,b⟩
def bQ{a:cf}{xs:aR}(f:bl ca 1 [H] a n k xs)(hi:0<=i/\i<=n)(g:X W w (aW p #[.slice a n k,I i] 91::H::F)){b:cf}{m cap:Nat}{l:aR}(h:bl ca 1 [H] b m cap l)(h0:0<m)(c:m<=1000000):
 Calls prog 38 #[Pt p 0,.slice b m cap] w λe d=>∃x:Int,e=.returned (I x)/\x∈l/\∃c:Int,(0<=c/\c<=n)/\X W d (aW p #[.slice a n k,I c] 91::H::F):=by
 let c:=f.le;refine aq 12 func38 Z<|Q 11<|cZ (bB (f.fl 0) Y g.aQ (m:Int) Y) ?_;rintro _ _⟨d,rfl,_,_,_,c⟩;let g:=c.ak;exact oJ h d λd _ _ f c=>eB g (c.up 1 Z) 0 (I d)<|RO 4 [I d]<|⟨_,rfl,ab8 f,_,Y,g⟩
end
end Go.Proofs.YtmfebppagcejcaaGreat
