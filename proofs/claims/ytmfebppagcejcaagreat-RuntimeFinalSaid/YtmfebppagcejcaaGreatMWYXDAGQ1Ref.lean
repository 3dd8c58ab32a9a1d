import Derived.Test.YtmfebppagcejcaaGreatMWYXDAGQ1Rdr
namespace Go.Proofs.YtmfebppagcejcaaGreat
open Go Go.E Go.Proofs.Tryz
set_option linter.all false
set_option maxRecDepth 100000
set_option maxHeartbeats 2000000
section
variable{W w:World}{H:af}{F:cj}
structure Edge where
 aJ:Int
 fill:Int
 deriving DecidableEq
def WS(x:Int)(b:X W w (H::F)):
 Ro prog 327 #[I x] (.bool (decide ((-32767:Int)<=x/\x<=(32767:Int)))) W w (H::F):=by
 exact aq 9 func327 Z<|Q 10<|SD 5 (x>=(-32767)) (λa=>rh) λa=>RO 7 [.bool (decide ((x:Int)<=32767))]<|⟨rB bq,b⟩
def tq(x:Int)(b:X W w (H::F)):
 Ro prog 287 #[I x] (.bool (decide ((0:Int)<=x/\x<=(24:Int)))) W w (H::F):=by
 exact aq 9 func287 Z<|Q 10<|SD 5 (x>=0) (λa=>rh) λa=>RO 7 [.bool (decide ((x:Int)<=24))]<|⟨rB bq,b⟩
def yd(x:Int)(b:X W w (H::F)):
 Ro prog 329 #[I x] (.bool (decide ((-17592186044416:Int)<=x/\x<=(17592186044416:Int)))) W w (H::F):=by
 exact aq 9 func329 Z<|Q 10<|SD 5 (x>=(-17592186044416)) (λa=>rh) λa=>VW
def xv(x:Int)(b:X W w (H::F)):
 Ro prog 285 #[I x] (.bool (decide ((1:Int)<=x/\x<=(9:Int)))) W w (H::F):=by
 exact aq 9 func285 Z<|Q 10<|SD 5 (x>=1) (λa=>rh) λa=>RO 7 [.bool (decide ((x:Int)<=9))]<|⟨rB bq,b⟩
def lp(x:Int)(b:X W w (H::F)):
 Ro prog 288 #[I x] (.bool (decide ((1:Int)<=x/\x<=(4294967296:Int)))) W w (H::F):=by
 exact aq 9 func288 Z<|Q 10<|SD 5 (x>=1) (λa=>rh) λa=>RO 7 [.bool (decide ((x:Int)<=4294967296))]<|⟨rB bq,b⟩
def PN(x:Int)(b:X W w (H::F)):
 Ro prog 247 #[I x] (.bool (decide ((1:Int)<=x/\x<=(128:Int)))) W w (H::F):=by
 exact aq 9 func247 Z<|Vp
def rT(x:Int)(b:X W w (H::F)):
 Ro prog 202 #[I x] (.bool (decide ((1:Int)<=x/\x<=(128:Int)))) W w (H::F):=by
 exact aq 9 func202 Z<|Vp
def OV(x:Int)(b:X W w (H::F)):
 Ro prog 331 #[I x] (.bool (decide ((-128:Int)<=x/\x<=(256:Int)))) W w (H::F):=by
 exact aq 9 func331 Z<|Q 10<|SD 5 (x>=(-128)) (λa=>rh) λa=>RO 7 [.bool (decide ((x:Int)<=256))]<|⟨rB bq,b⟩
def Jl(w0:Int)(h0:Int)(e:Int)(d:X W w (H::F)):
 Ro prog 196 #[I w0,I h0,I e] (.bool (decide ((1:Int)<=w0/\w0<=(128:Int)/\(1:Int)<=h0/\h0<=(128:Int)/\w0*h0<=(4096:Int)/\(1:Int)<=e/\e<=(4294967296:Int)))) W w (H::F):=by
 exact aq 35 func196 Z<|Q 10<|SD 9 (w0>=1) (λc=>FO 29<|⟨rB bq,d⟩) λc=>je<|SD 13 (w0<=128) (λc=>FO 25<|⟨rB bq,d⟩) λc=>je<|SD 17 (h0>=1) (λc=>FO 21<|⟨rB bq,d⟩) λc=>je<|SD 21 (h0<=128) (λc=>FO 17<|⟨rB bq,d⟩) λc=>cG<|gY<|(by let c:=el (a:=w0) (b:=h0) (A:=128) (B:=128) Y Y;exact ei w0 h0<|gw<|SD 27 ((w0*h0)<=4096) (λc=>FO 11<|⟨rB bq,d⟩) λc=>je<|SD 31 (e>=1) (λc=>FO 7<|⟨rB bq,d⟩) λc=>RO 7 [.bool (decide ((e:Int)<=4294967296))]<|⟨rB bq,d⟩)
def cU(w h m:Int):Prop:=1<=w/\w<=128/\1<=h/\h<=128/\w*h<=4096/\1<=m/\m<=4294967296
instance (w h m:Int):Decidable (cU w h m):=by unfold cU;infer_instance
def jc(l:aR):Bool:=l.all λn=>decide (-32767<=n/\n<=32767)
def y9(m:Int)(l:aR):Bool:=l.all λn=>decide (0<=n/\n<=m)
def aO(p:aM):Bool:=decide (cU p.w p.h p.aG/\(p.bM.length:Int)=p.w*p.h)&&y9 p.aG p.bM
def r8{p:aM}(h:cU p.w p.h p.aG/\(p.bM.length:Int)=p.w*p.h)(a:y9 p.aG p.bM=true):aO p=true:=by simp[aO,h,a]
def tr{p:aM}(h:¬(cU p.w p.h p.aG/\(p.bM.length:Int)=p.w*p.h)):aO p=false:=by grind[aO,absurd]
def tx{p:aM}(h:y9 p.aG p.bM=false):aO p=false:=by simp[aO,h]
def vl(b:cf)(nx a:Nat)(x:aR)(hx:bl ca 1 [H] b nx a x)(c:X W w (H::F)):
 Ro prog 286 #[.slice b nx a] (.bool (jc x)) W w (H::F):=by
 let h0:=hx.ll;exact aq 16 func286 Z<|Al 12 Z<|bF [0] (γ:=Nat) (λi R=>⟨[(3,I i)],R,nx-i,i<=nx/\(jc (x.take i)=true)⟩) 0 ⟨c,Y,by rfl⟩<|λi V _⟨c,a,e⟩=>Al 9 Z<|CD ((i:Int)<nx) (λa=>Am 11 Z<|fc [.bool true]<|⟨by rw[show jc x=true from di e Y];rfl,c⟩) λa=>GJ 8 Z<|kQ hx i λb _ _ d a=>eB c (a.up 0 Z) 0 (I b)<|cS (WS b c.ao) λ_ c=>VD 3 Z<|pk ((-32767:Int)<=b/\b<=(32767:Int)) (λa=>Am 11 Z<|fc [.bool false]<|⟨by rw[show jc x=false from cy d (acb Y)];rfl,c⟩) λa=>GJ 5 Z<|UZ
def Pd(p:ah)(hp:ah.Ok [H] p)(d:X W w (H::F)):
 Ro prog 141 #[.agg (au p).toArray] (.bool (aO p.v)) W w (H::F):=by
 have c:=hp.bM.ll;refine aq 46 func141 Z<|Q 2<|eD d (au p) λ_ _ c=>GO c 12 [0,0,0]<|cS (Jl p.w p.h p.aG c.ao) λ_ d=>cG<|zD 12 ((1:Int)<=p.w/\p.w<=(128:Int)/\(1:Int)<=p.h/\p.h<=(128:Int)/\p.w*p.h<=(4096:Int)/\(1:Int)<=p.aG/\p.aG<=(4294967296:Int)) (λc=>FO 20<|Vv) λc=>GO d 7 [0,0,0]<|gY<|have c:=el (a:=p.w) (b:=p.h) (A:=128) (B:=128) Y Y;ei p.w p.h<|JO 4<|CN (p.bM.n:Int) (p.w*p.h) (λc=>FC 7<|Vv) λc=>Q 9<|bF [1] (γ:=Nat) (λi R=>⟨[(3,I i)],R,p.bM.n-i,i<=p.bM.n/\(y9 p.aG (p.bM.l.take i)=true)⟩) 0 ⟨d,Y,by rfl⟩ ?_;rintro i V _⟨e,c,j⟩;refine GC e 10 [0]<|CD ((i:Int)<p.bM.n) (λc=>VC 11<|⟨rB (r8 (p:=p.v) Wl (di j vo)).symm,(e.aj 0 Z)⟩) λc=>Q 5 ?_;obtain⟨h,c,c,g,d,f⟩:=bl.eN hp.bM i;exact bD ((h:Int)<0) (λh0=>bJ e [] (fb 1 0 3 1<|fq 4 0 (d.up 1 Z)<|fn) [0,2,1,3,4,5,6,7,9,12,8,10,11,13,14,15] λ_ c=>wV 2<|wL 0<|wI f<|wL 1<|wV 2<|jy 36 _ true (acg h0)<|wV 9<|wN<|RX 13 [.bool false]<|⟨rB (tx (p:=p.v) (cy g (acb vo))).symm,(c.aj 0 Z)⟩) λh0=>bJ e [] (fb 1 0 3 1<|fq 4 0 (d.up 1 Z)<|fb 8 0 3 1<|fq 11 0 (d.up 1 Z)<|fb 13 0 2 1<|fn) [0,2,1,3,4,5,6,7,9,12,8,10,11,13,14,15] λ_ d=>wV 2<|wL 0<|wI f<|wL 1<|wV 2<|jy 36 _ false (acb h0)<|wV 3<|wL 2<|wI f<|wL 3<|wL 4<|wV 2<|wN<|JX 1<|CD (h>p.aG) (λc=>Q 5<|aU (i:Int) 1<|bX 2 Z<|⟨i+1,od,bR,d,Y,all_succ j g (acg Y)⟩) λc=>FC 11<|⟨rB (tx (p:=p.v) (cy g (acb vo))).symm,(d.aj 0 Z)⟩
def jT(l:aR):Int:=if l.length=0\/81<l.length then 9 else if jc l=true then 0 else 10
def HD(d:cf)(nx c:Nat)(x:aR)(hx:bl ca 1 [H] d nx c x)(b:X W w (H::F)):
 Ro prog 328 #[.slice d nx c] (I (jT x)) W w (H::F):=by
 let a:=hx.ll;exact aq 14 func328 Z<|Q 12<|sE 6 (nx:Int) 0 (λa=>RO 14 [I 9]<|⟨Kb,b⟩) λa=>JO 6<|cD ((nx:Int)>81) (λa=>RC 7 [I 9]<|⟨Kb,b⟩) λa=>Q 6<|cS (vl d nx c x (hx.fl 0) b.ao) λ_ b=>JO 3<|uP (jc x) (λa=>RC 7 [I 10]<|⟨Kb,b⟩) λa=>RC 8 [I 0]<|⟨Kb,b⟩
def kn(x:Int):Prop:=-17592186044416<=x/\x<=17592186044416
instance (x:Int):Decidable (kn x):=by unfold kn;infer_instance
def oY(l:aR)(lo hi:Int):Int:=(l.map λw=>min (w*lo) (w*hi)).sum
def py(l:aR)(lo hi:Int):Int:=(l.map λw=>max (w*lo) (w*hi)).sum
def eM(l:aR)(lo hi:Int):Bool:=decide (jT l=0/\lo<=hi/\-68719476736<=lo/\hi<=68719476736/\kn (oY l lo hi)/\kn (py l lo hi))
def fN(l:aR)(lo hi:Int):Int:=if eM l lo hi=true then oY l lo hi else 0
def fM(l:aR)(lo hi:Int):Int:=if eM l lo hi=true then py l lo hi else 0
def nr{l:aR}(h:jT l=0):0<l.length/\l.length<=81/\jc l=true:=by
 grind[jT]
variable{i:Nat}
def oh{l:aR}(h:jc l=true){x:Int}(hx:l[i]?=some x):-32767<=x/\x<=32767:=by
 have:=acH.1 h x (ab8 hx)
 simp_all
def zr{f:Int->Int}{l:aR}{x:Int}(hx:l[i]?=some x):((l.take (i+1)).map f).sum=((l.take i).map f).sum+f x:=by
 rw[bY hx];simp
variable{lo hi a b:Int}
def IV{l:aR}(hw:jT l=0)(h1:lo<=hi)(c:-68719476736<=lo/\hi<=68719476736)(ha:a=oY (l.take i) lo hi)(e:b=py (l.take i) lo hi)(d:l.length<=i)(c:kn a)(c:kn b):eM l lo hi=true/\fN l lo hi=a/\fM l lo hi=b:=by
 rw[acj d] at ha e
 grind[eM,fN,fM]
theorem IN{l:aR}(h:¬(jT l=0/\lo<=hi/\-68719476736<=lo/\hi<=68719476736/\kn (oY l lo hi)/\kn (py l lo hi))):eM l lo hi=false/\fN l lo hi=0/\fM l lo hi=0:=by
 grind[eM,fN,fM]
def zw{l:aR}(ha:a=oY (l.take i) lo hi)(c:b=py (l.take i) lo hi)(c:l.length<=i)(h:¬(kn a/\kn b)):eM l lo hi=false/\fN l lo hi=0/\fM l lo hi=0:=by
 grind[List.take_of_length_le,IN]
def oU(g:cf)(nx d:Nat)(x:aR)(lo:Int)(up:Int)(hx:bl ca 1 [H] g nx d x)(h:X W w (H::F)):
 Ro prog 289 #[.slice g nx d,I lo,I up] (.tuple #[I (fN x lo up),I (fM x lo up),.bool (eM x lo up)]) W w (H::F):=by
 have c:=hx.ll;refine aq 68 func289 Z<|Q 11<|cS (HD g nx d x (hx.fl 0) h.ao) λ_ d=>cG<|SN 17 (jT x) 0 (λc=>RO 24 [I 0,I 0,.bool false]<|Ga) λc=>xN<|sD 22 (lo>up) (λc=>RO 19 [I 0,I 0,.bool false]<|Ga) λc=>je<|sD 26 (lo<(-68719476736)) (λc=>RO 15 [I 0,I 0,.bool false]<|Ga) λc=>JO 5<|cD (up>68719476736) (λc=>RC 9 [I 0,I 0,.bool false]<|Ga) λc=>Q 10 ?_;obtain⟨c,w0,hw⟩:=nr (l:=x) Y;refine Q 5<|bF [0,1,2] (γ:=Nat×Int×Int) (λ⟨i,a,b⟩ R=>⟨[(11,I i),(9,I a),(10,I b)],R,nx-i,i<=nx/\(a=oY (x.take i) lo up)/\(b=py (x.take i) lo up)/\(-(2251799813685248*(i:Int))<=a/\a<=2251799813685248*(i:Int)/\-(2251799813685248*(i:Int))<=b/\b<=2251799813685248*(i:Int))⟩) (0,0,0) ⟨d,Y,by rfl,by rfl,Y⟩ ?_;rintro⟨i,a,b⟩ V _⟨m,c,ha,k,c⟩;refine Q 9<|CD ((i:Int)<nx) (λn=>Q 9<|cS (yd a m.ao) λ_ c=>cG<|zD 61 ((-17592186044416:Int)<=a/\a<=(17592186044416:Int)) (λd=>RO 16 [I 0,I 0,.bool false]<|Uo) λd=>bf<|gY<|cS (yd b c.ao) λ_ d=>JO 4<|pk ((-17592186044416:Int)<=b/\b<=(17592186044416:Int)) (λc=>RC 9 [I 0,I 0,.bool false]<|(by obtain⟨j,h,g⟩:=zw (l:=x) (i:=i) ha k Y yv;exact⟨by rw[j,h,g];rfl,d⟩)) λc=>RC 12 [I a,I b,.bool true]<|(by obtain⟨j,h,g⟩:=IV (l:=x) (i:=i) Y Y Y ha k Y yv yv;exact⟨by rw[j,h,g];rfl,d⟩)) λn=>Q 5 ?_;obtain⟨g,c,c,j,h,h0⟩:=bl.eN hx i;have d:=oh hw j;have c:=rV (A:=32767) (B:=68719476736) d (b:=lo) Y;have c:=rV (A:=32767) (B:=68719476736) d (b:=up) Y;exact bJ m [] (fq 3 0 (h.up 0 Z)<|fq 9 0 (h.up 0 Z)<|fn) [0,1,2,4,6,7,8,10,3,5,12,9,11,13] λ_ c=>wV 2<|wI h0<|wV 3<|wI h0<|wV 1<|wL 0<|vz g lo<|wV 1<|wL 1<|vz g up<|wV 1<|wN<|JX 5<|bh (I (min (g*lo) (g*up))) Z Z (iY (g*lo) (g*up) Z Z kr kr)<|aU a (min (g*lo) (g*up))<|gw<|bh (I (max (g*lo) (g*up))) Z Z (gV (g*lo) (g*up) Z Z kr kr)<|aU b (max (g*lo) (g*up))<|JO 7<|aU (i:Int) 1<|bX 2 Z<|⟨(i+1,(a+(min (g*lo) (g*up))),(b+(max (g*lo) (g*up)))),od,bR,c,Y,by have e:=zr (f:=λw=>min (w*lo) (w*up)) j;unfold oY at*;omega,by have e:=zr (f:=λw=>max (w*lo) (w*up)) j;unfold py at*;omega,Y⟩
def bk(a s:Int):Int:=if kn a/\0<=s/\s<=24 then(if s=0 then a else(a+2^(s-1).toNat)/2^s.toNat) else 0
def FR(a:Int)(s:Int)(c:X W w (H::F)):
 Ro prog 330 #[I a,I s] (I (bk a s)) W w (H::F):=by
 exact aq 39 func330 Z<|Q 9<|cS (yd a c.ao) λ_ e=>cG<|zD 11 ((-17592186044416:Int)<=a/\a<=(17592186044416:Int)) (λc=>RO 14 [I 0]<|⟨MX,e⟩) λc=>bf<|gY<|cS (tq s e.ao) λ_ f=>JO 4<|pk ((0:Int)<=s/\s<=(24:Int)) (λc=>RC 7 [I 0]<|⟨MX,f⟩) λc=>Q 9<|cE s 0 (λc=>RC 8 [I a]<|⟨MX,f⟩) λc=>Q 3<|(by let hp:=pu (s-1).toNat;let h0:=rZ (a:=(s-1).toNat) (b:=24) Y;let e:=pu s.toNat;let c:=rZ (a:=(s).toNat) (b:=24) Y;exact Q 3<|dP s 1<|bh (.int .u64 (s-1)) Z Z (fo (k:=.i64) (a:=(s-1)) underlying3 underlying239 (ee _ Y) Z kr)<|bh (I (2^(s-1).toNat)) Z Z (vX (k':=.u64) (s-1) Z kr kr Y)<|aU a (2^(s-1).toNat)<|bf<|bh (.int .u64 s) Z Z (fo (k:=.i64) (a:=s) underlying3 underlying239 (ee _ Y) Z kr)<|bh (I (2^s.toNat)) Z Z (vX (k':=.u64) s Z kr kr Y)<|JO 5<|(by let c:=aeb (a+(2^(s-1).toNat)) (2^s.toNat);let c:=adv (a+(2^(s-1).toNat)) e;let c:=adK (a+(2^(s-1).toNat)) e;let c:=ac6 ((a+(2^(s-1).toNat)).tdiv (2^s.toNat)) (2^s.toNat);let hf:=Ic (x:=(a+(2^(s-1).toNat))) (d:=(2^s.toNat)) e;let c:=HJ (q:=(a+(2^(s-1).toNat)).tdiv (2^s.toNat)) (A:=18014398509481984) e Y;exact Q 3<|mE (a+(2^(s-1).toNat)) (2^s.toNat)<|JO 8<|ei ((a+(2^(s-1).toNat)).tdiv (2^s.toNat)) (2^s.toNat)<|JO 4<|CD ((((a+(2^(s-1).toNat)).tdiv (2^s.toNat))*(2^s.toNat))>(a+(2^(s-1).toNat))) (λc=>RC 9 [I ((a+(2^(s-1).toNat)).tdiv (2^s.toNat))]<|(by rw[ab9 c] at hf;exact VU)) λc=>Q 2<|dP ((a+(2^(s-1).toNat)).tdiv (2^s.toNat)) 1<|RO 10 [I (((a+(2^(s-1).toNat)).tdiv (2^s.toNat))-1)]<|(by rw[aca c] at hf;exact VU)))
def CX(lo:Int)(up:Int)(s:Int)(a:X W w (H::F)):
 Ro prog 290 #[I lo,I up,I s] (.tuple #[I (bk lo s),I (bk up s)]) W w (H::F):=by
 exact aq 14 func290 Z<|Q 10<|cS (FR lo s a.ao) λa a=>cG<|cS (FR up s a.ao) λa a=>RO 5 [I (bk lo s),I (bk up s)]<|⟨rfl,a⟩
def EF(c:Edge)(m:Int)(a:X W w (H::F)):
 Ro prog 200 #[.agg #[I c.aJ,I c.fill],I m] (.bool (decide ((c.aJ=3/\0<=c.fill/\c.fill<=m)\/(0<=c.aJ/\c.aJ<3/\c.fill=0)))) W w (H::F):=by
 exact aq 30 func200 Z<|Q 2<|eD a [I c.aJ,I c.fill] λ_ _ b=>GO b 11 [0]<|cE c.aJ 3 (λd=>GC b 6 [0]<|SD 11 (c.fill>=0) (λa=>FO 10<|ym) λa=>GK b 10 [0] Z<|fc [.bool (decide (c.fill<=m))]<|ym) λd=>GC b 8 [0]<|SD 20 (c.aJ>=0) (λa=>FO 13<|ym) λa=>GO b 5 [0]<|SD 25 (c.aJ<3) (λa=>FO 8<|ym) λa=>GK b 8 [0] Z<|fc [.bool (c.fill==0)]<|ym
def iL(a b l:Int):Bool:=decide (0<=a/\0<=b/\0<=l/\a*b<=l)
def mG(a b l:Int):Int:=if iL a b l=true then a*b else 0
variable{l:Int}
def BI(h:0<=a/\0<=b/\0<=l/\a*b<=l):iL a b l=true/\mG a b l=a*b:=by
 grind[iL,mG]
def JP(h:¬(0<=a/\0<=b/\0<=l/\a*b<=l)):iL a b l=false/\mG a b l=0:=by
 grind[iL,mG]
def pg(ha:0<=a)(c:0<=b)(d:0<=l)(h:b=0\/(0<b/\a<=l.tdiv b)):0<=a*b/\a*b<=l:=by
 refine⟨ac9 ha c,?_⟩;rcases h with rfl|⟨h1,c⟩
 ·simpa using d
 grind[Int.tdiv_eq_ediv_of_nonneg,Int.le_ediv_iff_mul_le]
def Bz(c:0<=l)(d:0<b)(h:l.tdiv b<a):l<a*b:=by
 rw[acv c] at h;let:=mt (aet d (a:=a) (b:=l)).2;omega
def gj(w h m:Int):Bool:=decide (1<=w/\1<=h/\1<=m/\w*h<=4294967296/\w*h*m<=4294967296)
def fz(w h m:Int):Int:=if gj w h m=true then w*h*m else 0
def Xk{w h m:Int}(x:1<=w/\1<=h/\1<=m/\w*h<=4294967296/\w*h*m<=4294967296):gj w h m=true/\fz w h m=w*h*m:=by
 grind[gj,fz]
def B9{w h m:Int}(x:¬(1<=w/\1<=h/\1<=m/\w*h<=4294967296/\w*h*m<=4294967296)):gj w h m=false/\fz w h m=0:=by
 grind[gj,fz]
def QW(a:Int)(b:Int)(l:Int)(c:l<=4611686018427387904)(f:X W w (H::F)):
 Ro prog 194 #[I a,I b,I l] (.tuple #[I (mG a b l),.bool (iL a b l)]) W w (H::F):=by
 refine aq 32 func194 Z<|Q 12<|sD 10 (a<0) (λc=>RO 29 [I 0,.bool false]<|T8) λc=>je<|sD 14 (b<0) (λc=>RO 25 [I 0,.bool false]<|T8) λc=>je<|sD 18 (l<0) (λc=>RO 21 [I 0,.bool false]<|T8) λc=>gw<|SD 21 (b>0) (λc=>JO 13<|(by let g:=pg (a:=a) (b:=b) (l:=l) Y Y Y Y;refine Q 3<|ei a b<|RO 5 [I (a*b),.bool true] ?_;exact VT)) λc=>?_;exact gw<|gY<|mE l b<|JO 5<|cD (a>(l.tdiv b)) (λc=>RC 8 [I 0,.bool false]<|T8) λc=>Q 3<|let g:=pg (a:=a) (b:=b) (l:=l) Y Y Y Y;Q 3<|ei a b<|RO 5 [I (a*b),.bool true]<|let⟨e,d⟩:=BI (a:=a) (b:=b) (l:=l) Y;⟨by rw[e,d];rfl,f⟩
def OL(s:aY)(c:X W w (H::F)):
 Ro prog 248 #[.agg #[I s.w,I s.h,I s.aG]] (.tuple #[I (fz s.w s.h s.aG),.bool (gj s.w s.h s.aG)]) W w (H::F):=by
 refine aq 37 func248 Z<|Q 2<|eD c [I s.w,I s.h,I s.aG] λ_ _ c=>GO c 10 [0,0]<|cS (QW s.w s.h 4294967296 od c.ao) λ_ d=>JO 13<|sBn 16 (iL s.w s.h 4294967296) (λh0=>?_) (λh0=>?_);rotate_left
 ·refine RO 25 [I 0,.bool false] ?_;let c:=(d.aj 0 Z);by_cases j:0<=s.w/\0<=s.h/\(0:Int)<=4294967296/\s.w*s.h<=4294967296
  ·exact S8
  ·exact Q7
 refine GO d 5 [0]<|sD 21 (s.w<1) (λc=>?_) (λc=>?_)
 ·refine RO 20 [I 0,.bool false] ?_;let c:=(d.aj 0 Z);by_cases j:0<=s.w/\0<=s.h/\(0:Int)<=4294967296/\s.w*s.h<=4294967296
  ·exact S8
  ·exact Q7
 refine GO d 5 [0]<|sD 26 (s.h<1) (λc=>?_) (λc=>?_)
 ·refine RO 15 [I 0,.bool false] ?_;let c:=(d.aj 0 Z);by_cases j:0<=s.w/\0<=s.h/\(0:Int)<=4294967296/\s.w*s.h<=4294967296
  ·exact S8
  ·exact Q7
 refine GO d 6 [0]<|cD (s.aG<1) (λc=>?_) (λc=>?_)
 ·refine RC 8 [I 0,.bool false] ?_;let c:=(d.aj 0 Z);by_cases j:0<=s.w/\0<=s.h/\(0:Int)<=4294967296/\s.w*s.h<=4294967296
  ·exact S8
  ·exact Q7
 refine GC d 7 [0]<|cS (QW (mG s.w s.h 4294967296) s.aG 4294967296 od d.ao) λ_ c=>RO 7 [I (mG (mG s.w s.h 4294967296) s.aG 4294967296),.bool (iL (mG s.w s.h 4294967296) s.aG 4294967296)] ?_;let k:=(c.aj 0 Z);by_cases j:0<=s.w/\0<=s.h/\(0:Int)<=4294967296/\s.w*s.h<=4294967296
 ·let⟨n,l⟩:=BI j;rw[l];by_cases f:0<=s.w*s.h/\0<=s.aG/\(0:Int)<=4294967296/\s.w*s.h*s.aG<=4294967296
  ·let⟨e,d⟩:=BI f;let⟨i,g⟩:=Xk (w:=s.w) (h:=s.h) (m:=s.aG) Y;exact⟨by rw[e,d,i,g];rfl,k⟩
  ·let c:=el (a:=s.w) (b:=s.h) (A:=s.w) (B:=s.h) Y Y;let⟨e,d⟩:=JP f;let⟨i,g⟩:=B9 (w:=s.w) (h:=s.h) (m:=s.aG) Y;exact⟨by rw[e,d,i,g];rfl,k⟩
 ·exact(by let⟨n,l⟩:=JP j;exfalso;simp_all;done)
def Bg(s:aY)(a:X W w (H::F)):
 Ro prog 198 #[.agg #[I s.w,I s.h,I s.aG]] (.bool (decide ((1:Int)<=s.w/\s.w<=(128:Int)/\(1:Int)<=s.h/\s.h<=(128:Int)/\s.w*s.h<=(4096:Int)/\(1:Int)<=s.aG/\s.aG<=(4294967296:Int)))) W w (H::F):=by
 exact aq 10 func198 Z<|Q 2<|eD a [I s.w,I s.h,I s.aG] λ_ _ a=>GO a 11 [0,0,0]<|cS (Jl s.w s.h s.aG a.ao) λ_ a=>RO 4 [.bool (decide ((1:Int)<=s.w/\s.w<=(128:Int)/\(1:Int)<=s.h/\s.h<=(128:Int)/\s.w*s.h<=(4096:Int)/\(1:Int)<=s.aG/\s.aG<=(4294967296:Int)))]<|⟨rB bq,(a.aj 0 Z)⟩
def ub(q:aA)(b:aA.Ok [H] q)(c:X W w (H::F)):
 Ro prog 134 #[.agg (aL q).toArray] (.bool (decide (q.aB=6/\¬q.b=-1))) W w (H::F):=by
 let a:=b.ad.ll;let a:=b.row.ll;let a:=b.dG.ll;let a:=b.x.ll;let h0:=b.y.ll;let a:=b.ops.ll;exact aq 11 func134 Z<|T6
def sf(x:Int)(b:X W w (H::F)):
 Ro prog 199 #[I x] (.bool (decide (x=1\/x=2\/x=3))) W w (H::F):=by
 exact aq 13 func199 Z<|V8
def dD(s:bc):Prop:=¬(¬((1<=s.aB/\s.aB<=6)/\(s.aB=6\/s.b=-1)))/\¬(¬(s.aB=1\/s.aB=2\/s.aB=3)/\¬(s.aS=0/\s.bz=0))/\¬(¬s.aB=1/\¬(s.kW=0/\s.kH=0/\s.ad.length=0))/\¬(¬s.aB=2/\¬(s.row.length=0/\s.dG.length=0))/\¬(¬s.aB=3/\¬(s.x.length=0/\s.y.length=0))/\¬(¬(s.aB=1\/s.aB=2\/s.aB=3)/\¬s.shift=0)/\¬((¬s.aB=2/\¬s.aB=3)/\¬s.ed=0)/\¬(¬s.aB=4/\¬s.cb=0)/\¬(¬s.aB=6/\¬s.ops.length=0)/\¬((s.aB=4\/s.aB=5)/\¬s.aG=0)
instance (s:bc):Decidable (dD s):=by unfold dD;infer_instance
def GZ(q:aA)(b:aA.Ok [H] q)(e:X W w (H::F)):
 Ro prog 197 #[.agg (aL q).toArray] (.bool (decide (dD q.v))) W w (H::F):=by
 let a:=b.ad.ll;let a:=b.row.ll;let a:=b.dG.ll;let a:=b.x.le;have c:=b.x.len;let a:=b.y.le;have d:=b.y.len;let a:=b.ops.ll;let a:(q.x.l.map bL.v).length=q.x.n:=by simp[c]
 let a:(q.y.l.map bL.v).length=q.y.n:=by simp[d]
 refine aq 148 func197 Z<|Q 2<|eD e (aL q) λ_ _ b=>JO 4<|eQ b 0 [1] (γ:=Unit) (λ_ R=>⟨[(23,.bool (decide (¬((1<=q.aB/\q.aB<=6)/\(q.aB=6\/q.b=-1)))))],R,0,True⟩) ?_ ?_
 ·exact GC b 5 [0]<|sD 9 (q.aB<1) (λa=>bX 15 Z<|As) λa=>GO b 5 [0]<|sD 14 (q.aB>6) (λa=>bX 10 Z<|As) λa=>GO b 4 [0]<|sN 18 q.aB 6 (λa=>bX 6 Z<|Av) λa=>Mz b 6 [0] Z<|⟨(),⟨⟨(mB ((q.b:Int)!=(-1)) bm),trivial⟩,sA⟩,b,trivial⟩
 rintro _ V _⟨w0,_⟩;refine cD (¬((1<=q.aB/\q.aB<=6)/\(q.aB=6\/q.b=-1))) (λm=>FC 7<|⟨rB (acb (p:=dD q.v) (λh=>h.1 m)).symm,(w0.aj 0 Z)⟩) λm=>Q 3<|bJ w0 [] (fb 1 0 0 1<|fb 4 0 0 1<|fb 7 0 0 1<|fn) [0,3,6,1,2,9,4,5,10,7,8,11] λ_ a=>wV 3<|wL 0<|wV 2<|wL 1<|wV 2<|wL 2<|wV 2<|wN<|JX 3<|eQ a 0 [1,3,4,5] (γ:=Unit) (λ_ R=>⟨[(33,.bool (decide (¬(q.aB=1\/q.aB=2\/q.aB=3)/\¬(q.aS=0/\q.bz=0))))],R,0,True⟩) ?_ ?_
 ·exact GC a 3 [0]<|cS (sf q.aB a.ao) λ_ b=>cG<|sDn 38 (q.aB=1\/q.aB=2\/q.aB=3) (λa=>bX 7 Z<|Av) λa=>GO b 3 [200]<|gY<|bh (.bool (!((q.aS==0)&&(q.bz==0)))) Z Z (vi Z kr kr (Sf _ q.aS q.bz 0 0))<|bX 3 Z<|⟨(),⟨⟨(mB (!((q.aS==0)&&(q.bz==0))) bm),trivial⟩,sA⟩,b,trivial⟩
 rintro _ V _⟨b,_⟩;refine cD (¬(q.aB=1\/q.aB=2\/q.aB=3)/\¬(q.aS=0/\q.bz=0)) (λl=>FC 9<|⟨rB (acb (p:=dD q.v) (λh=>h.2.1 l)).symm,(b.aj 0 Z)⟩) λl=>eQ b 0 [1,4,5] (γ:=Unit) (λ_ R=>⟨[(44,.bool (decide (¬q.aB=1/\¬(q.kW=0/\q.kH=0/\q.ad.l.length=0))))],R,0,True⟩) ?_ ?_
 ·exact Q 4<|YB 47 q.aB 1 (λa=>bX 17 Z<|Av) λa=>GO b 4 [0]<|SN 51 q.kW 0 (λa=>bX 13 Z<|As) λa=>GO b 5 [0]<|SN 56 q.kH 0 (λa=>BF) λa=>Mz b 8 [0] Z<|⟨(),⟨⟨(mB (decide ((q.ad.n:Int)>0)) bm),trivial⟩,sA⟩,b,trivial⟩
 rintro _ V _⟨b,_⟩;refine cD (¬q.aB=1/\¬(q.kW=0/\q.kH=0/\q.ad.l.length=0)) (λk=>FC 9<|⟨rB (acb (p:=dD q.v) (λh=>h.2.2.1 k)).symm,(b.aj 0 Z)⟩) λk=>eQ b 0 [1,4,5] (γ:=Unit) (λ_ R=>⟨[(63,.bool (decide (¬q.aB=2/\¬(q.row.l.length=0/\q.dG.l.length=0))))],R,0,True⟩) ?_ ?_
 ·exact Q 4<|YB 66 q.aB 2 (λa=>bX 13 Z<|Av) λa=>GO b 5 [0]<|sD 71 ((q.row.n:Int)>0) (λa=>BF) λa=>Mz b 8 [0] Z<|⟨(),⟨⟨(mB (decide ((q.dG.n:Int)>0)) bm),trivial⟩,sA⟩,b,trivial⟩
 rintro _ V _⟨b,_⟩;refine cD (¬q.aB=2/\¬(q.row.l.length=0/\q.dG.l.length=0)) (λj=>FC 9<|⟨rB (acb (p:=dD q.v) (λh=>h.2.2.2.1 j)).symm,(b.aj 0 Z)⟩) λj=>eQ b 0 [1,4,5] (γ:=Unit) (λ_ R=>⟨[(78,.bool (decide (¬q.aB=3/\¬((q.x.l.map bL.v).length=0/\(q.y.l.map bL.v).length=0))))],R,0,True⟩) ?_ ?_
 ·exact Q 4<|YB 81 q.aB 3 (λa=>bX 13 Z<|Av) λa=>GO b 5 [0]<|sD 86 ((q.x.n:Int)>0) (λa=>BF) λa=>Mz b 8 [0] Z<|⟨(),⟨⟨(mB (decide ((q.y.n:Int)>0)) bm),trivial⟩,sA⟩,b,trivial⟩
 rintro _ V _⟨a,_⟩;refine cD (¬q.aB=3/\¬((q.x.l.map bL.v).length=0/\(q.y.l.map bL.v).length=0)) (λi=>FC 9<|⟨rB (acb (p:=dD q.v) (λh=>h.2.2.2.2.1 i)).symm,(a.aj 0 Z)⟩) λi=>eQ a 0 [1,4,5] (γ:=Unit) (λ_ R=>⟨[(93,.bool (decide (¬(q.aB=1\/q.aB=2\/q.aB=3)/\¬q.shift=0)))],R,0,True⟩) ?_ ?_
 ·exact GC a 3 [0]<|cS (sf q.aB a.ao) λ_ b=>cG<|sDn 98 (q.aB=1\/q.aB=2\/q.aB=3) (λa=>bX 6 Z<|Av) λa=>Mz b 6 [0] Z<|⟨(),⟨⟨(mB (q.shift !=0) bm),trivial⟩,sA⟩,b,trivial⟩
 rintro _ V _⟨b,_⟩;refine cD (¬(q.aB=1\/q.aB=2\/q.aB=3)/\¬q.shift=0) (λg=>FC 9<|⟨rB (acb (p:=dD q.v) (λh=>h.2.2.2.2.2.1 g)).symm,(b.aj 0 Z)⟩) λg=>eQ b 0 [1] (γ:=Unit) (λ_ R=>⟨[(103,.bool (decide ((¬q.aB=2/\¬q.aB=3)/\¬q.ed=0)))],R,0,True⟩) ?_ ?_
 ·exact Q 4<|YB 106 q.aB 2 (λa=>bX 10 Z<|Av) λa=>je<|YB 110 q.aB 3 (λa=>bX 6 Z<|Av) λa=>Mz b 6 [0] Z<|⟨(),⟨⟨(mB (q.ed !=0) bm),trivial⟩,sA⟩,b,trivial⟩
 rintro _ V _⟨b,_⟩;refine cD ((¬q.aB=2/\¬q.aB=3)/\¬q.ed=0) (λf=>FC 9<|⟨rB (acb (p:=dD q.v) (λh=>h.2.2.2.2.2.2.1 f)).symm,(b.aj 0 Z)⟩) λf=>eQ b 0 [1] (γ:=Unit) (λ_ R=>⟨[(115,.bool (decide (¬q.aB=4/\¬q.cb=0)))],R,0,True⟩) ?_ ?_
 ·exact GC b 5 [0]<|sN 119 q.aB 4 (λa=>bX 6 Z<|Av) λa=>Mz b 6 [0] Z<|⟨(),⟨⟨(mB (q.cb !=0) bm),trivial⟩,sA⟩,b,trivial⟩
 rintro _ V _⟨h0,_⟩;refine cD (¬q.aB=4/\¬q.cb=0) (λe=>FC 9<|⟨rB (acb (p:=dD q.v) (λh=>h.2.2.2.2.2.2.2.1 e)).symm,(h0.aj 0 Z)⟩) λe=>eQ h0 0 [1] (γ:=Unit) (λ_ R=>⟨[(124,.bool (decide (¬q.aB=6/\¬q.ops.l.length=0)))],R,0,True⟩) ?_ ?_
 ·exact GC h0 5 [0]<|sN 128 q.aB 6 (λa=>bX 7 Z<|⟨(),⟨⟨(mF0 Y),trivial⟩,sA⟩,h0,trivial⟩) λa=>Mz h0 7 [0] Z<|⟨(),⟨⟨(mB (decide ((q.ops.n:Int)>0)) bm),trivial⟩,sA⟩,h0,trivial⟩
 rintro _ V _⟨b,_⟩;refine cD (¬q.aB=6/\¬q.ops.l.length=0) (λd=>FC 9<|⟨rB (acb (p:=dD q.v) (λh=>h.2.2.2.2.2.2.2.2.1 d)).symm,(b.aj 0 Z)⟩) λd=>eQ b 0 [] (γ:=Unit) (λ_ R=>⟨[(134,.bool (decide ((q.aB=4\/q.aB=5)/\¬q.aG=0)))],R,0,True⟩) ?_ ?_;rotate_left
 ·exact(by rintro _ V _⟨c,_⟩;exact cD ((q.aB=4\/q.aB=5)/\¬q.aG=0) (λa=>FC 9<|⟨rB (acb (p:=dD q.v) (λh=>h.2.2.2.2.2.2.2.2.2 a)).symm,(c.aj 0 Z)⟩) λa=>VC 8<|⟨rB (acg (p:=dD q.v) ⟨m,l,k,j,i,g,f,e,d,a⟩).symm,(c.aj 0 Z)⟩)
 exact GC b 5 [0]<|sE 138 q.aB 4 (λa=>Mz b 11 [0] Z<|UW) λa=>GO b 5 [0]<|SE 143 q.aB 5 (λa=>bX 6 Z<|Av) λa=>Mz b 6 [0] Z<|UW
def jW(f:Int)(ws:aR):Int:=if ws.length=0\/8<ws.length then 9 else if jc ws=true then(if-128<=f/\f<=256 then 0 else 2) else 10
def xE(t:dW):Int:=jW t.first t.ad
def jE{α:Type}(f:α->Int):List α->Int
 |[]=>0
 |x::l=>if f x=0 then jE f l else f x
def uN{α:Type}(f:α->Int)(l m:List α)(h:l.all (λx=>decide (f x=0))=true):jE f (l++m)=jE f m:=by
 induction l with
 |nil=>rfl
 |cons x l a=>
  simp only[aeW,ach,acr] at h;simp only[acP,jE,aca h.1];exact a h.2
def ij{α:Type}{f:α->Int}{l:List α}{x:α}(h:(l.take i).all (λx=>decide (f x=0))=true)(hx:l[i]?=some x)(e:f x≠0):jE f l=f x:=by
 let a:l=l.take i++l.drop i:=(ads i l).symm;rw[a,uN f _ _ h,dZ hx,jE,ab9 e]
def sU{α:Type}{f:α->Int}{l:List α}(h:(l.take i).all (λx=>decide (f x=0))=true)(h1:l.length<=i):jE f l=0:=by
 rw[acj h1] at h;let:=uN f l [] h;simpa [jE] using this
def cJ(l:List dW)(n:Int):Int:=if(1<=n/\n<=128)/\1<=(l.length:Int)/\(l.length:Int)<=128 then jE xE l else 8
def DZ(b:cf)(nx a:Nat)(x:List bL)(m:Int)(hx:bl ff 2 [H] b nx a x)(l:∀z∈x,bL.Ok [H] z)(d:X W w (H::F)):
 Ro prog 291 #[.slice b nx a,I m] (I (cJ (x.map bL.v) m)) W w (H::F):=by
 let a:=hx.le;have w0:=hx.len;refine aq 47 func291 Z<|Q 9<|cS (rT m d.ao) λ_ b=>cG<|zD 10 ((1:Int)<=m/\m<=(128:Int)) (λa=>RO 15 [I 8]<|(by let k:(x.map bL.v).length=nx:=(by simp[w0]);exact⟨by unfold cJ;rw[ab9 Y];rfl,b⟩)) λa=>cG<|gY<|cS (rT (nx:Int) b.ao) λ_ b=>JO 4<|pk ((1:Int)<=(nx:Int)/\(nx:Int)<=(128:Int)) (λa=>RC 7 [I 8]<|(by let k:(x.map bL.v).length=nx:=(by simp[w0]);exact⟨by unfold cJ;rw[ab9 Y];rfl,b⟩)) λa=>Q 9<|bF [0] (γ:=Nat) (λi R=>⟨[(5,I i)],R,nx-i,i<=nx/\(((x.map bL.v).take i).all (λx=>decide (xE x=0))=true)⟩) 0 ⟨b,Y,by rfl⟩<|λi V _⟨e,a,j⟩=>Q 9<|CD ((i:Int)<nx) (λa=>RC 11 [I 0]<|(by let k:(x.map bL.v).length=nx:=(by simp[w0]);exact⟨by unfold cJ;rw[aca Y,sU j Y];rfl,e⟩)) λa=>Q 8<|kQ hx i λd _ _ h b=>let a:=(l d (ab8 h)).ad.len;let a:=(l d (ab8 h)).ad.le;lv e (b.up 0 Z) 0 [I d.first,.slice d.ad.a d.ad.n d.ad.k]<|aI e zeroValue247 λ_ _ a=>bP a 0 Z [I d.first,.slice d.ad.a d.ad.n d.ad.k] λ_ a=>GO a 10 [0]<|sE 31 (d.ad.n:Int) 0 (λg=>RO 21 [I 9]<|(by let b:=(a.aj 0 Z);let k:(x.map bL.v).length=nx:=(by simp[w0]);let e:jW d.first d.ad.l=9:=(by unfold jW;(repeat' split)<;>first|rfl|(exfalso;omega)|contradiction|(exfalso;simp_all;done));exact⟨by unfold cJ;rw[aca Y,ij j (cg (f:=bL.v) h) (show jW d.first d.ad.l≠0 by omega)];exact acd (λc=>Ending.returned (packed [I c])) e.symm,b⟩)) λg=>GO a 8 [0]<|cD ((d.ad.n:Int)>8) (λg=>RC 12 [I 9]<|(by let b:=(a.aj 0 Z);let k:(x.map bL.v).length=nx:=(by simp[w0]);let e:jW d.first d.ad.l=9:=(by unfold jW;(repeat' split)<;>first|rfl|(exfalso;omega)|contradiction|(exfalso;simp_all;done));exact⟨by unfold cJ;rw[aca Y,ij j (cg (f:=bL.v) h) (show jW d.first d.ad.l≠0 by omega)];exact acd (λc=>Ending.returned (packed [I c])) e.symm,b⟩)) λg=>?_;refine GC a 4 [0]<|cS (vl d.ad.a d.ad.n d.ad.k d.ad.l (bl.ao ((l d (ab8 h)).ad.up 1 (by rfl))) a.ao) λ_ a=>JO 4<|uP (jc d.ad.l) (λg=>RC 12 [I 10]<|(by let b:=(a.aj 0 Z);let k:(x.map bL.v).length=nx:=(by simp[w0]);let e:jW d.first d.ad.l=10:=(by unfold jW;(repeat' split)<;>first|rfl|(exfalso;omega)|contradiction|(exfalso;simp_all;done));exact⟨by unfold cJ;rw[aca Y,ij j (cg (f:=bL.v) h) (show jW d.first d.ad.l≠0 by omega)];exact acd (λc=>Ending.returned (packed [I c])) e.symm,b⟩)) λg=>GC a 4 [0]<|cS (OV d.first a.ao) λ_ h0=>JO 4<|SU ((-128:Int)<=d.first/\d.first<=(256:Int)) (λa=>Q 6<|aU (i:Int) 1<|bX 2 Z<|(by let e:jW d.first d.ad.l=0:=(by unfold jW;(repeat' split)<;>first|rfl|(exfalso;omega)|contradiction|(exfalso;simp_all;done));exact⟨i+1,od,bR,(h0.aj 0 Z),Y,all_succ j (cg (f:=bL.v) h) (acg e)⟩)) λa=>RC 12 [I 2] ?_;let a:=(h0.aj 0 Z);let k:(x.map bL.v).length=nx:=by simp[w0]
 let e:jW d.first d.ad.l=2:=by unfold jW;(repeat' split)<;>first|rfl|(exfalso;omega)|contradiction|(exfalso;simp_all;done)
 exact⟨by unfold cJ;rw[aca Y,ij j (cg (f:=bL.v) h) (show jW d.first d.ad.l≠0 by omega)];exact acd (λc=>Ending.returned (packed [I c])) e.symm,a⟩
def eh(mx kw kh:Int)(ws:aR)(sh out:Int):Int:=
 if(1<=kw/\kw<=9)/\(1<=kh/\kh<=9)/\(ws.length:Int)=kw*kh then(if jc ws=true/\0<=sh/\sh<=24 then(if(1<=mx/\mx<=4294967296)/\1<=out/\out<=4294967296 then(if eM ws 0 mx=true then 0 else 11) else 2) else 10) else 9
def eJ(mx:Int)(row dG:aR)(sh sh2 out:Int):Int:=
 if(1<=(row.length:Int)/\(row.length:Int)<=9)/\1<=(dG.length:Int)/\(dG.length:Int)<=9 then(if jc row=true/\jc dG=true/\(0<=sh/\sh<=24)/\0<=sh2/\sh2<=24 then(if(1<=mx/\mx<=4294967296)/\1<=out/\out<=4294967296 then(if eM row 0 mx=true then(if eM dG (bk (fN row 0 mx) sh) (bk (fM row 0 mx) sh)=true then 0 else 11) else 11) else 2) else 10) else 9
def Ov(mx:Int)(kw:Int)(kh:Int)(h:cf)(e g:Nat)(f:aR)(sh:Int)(out:Int)(i:bl ca 1 [H] h e g f)(d:X W w (H::F)):
 Ro prog 244 #[I mx,I kw,I kh,.slice h e g,I sh,I out] (I (eh mx kw kh f sh out)) W w (H::F):=by
 let c:=i.ll;refine aq 60 func244 Z<|Q 7<|eQ d 0 [0,3,4,5] (γ:=Unit) (λ_ R=>⟨[(16,.bool (decide (¬((1<=kw/\kw<=9)/\(1<=kh/\kh<=9)/\(f.length:Int)=kw*kh))))],R,0,True⟩) ?_ ?_
 ·exact Q 2<|cS (xv kw d.ao) λ_ d=>cG<|zD 20 ((1:Int)<=kw/\kw<=(9:Int)) (λc=>bX 14 Z<|Au) λc=>bf<|gY<|cS (xv kh d.ao) λ_ d=>gw<|zD 25 ((1:Int)<=kh/\kh<=(9:Int)) (λc=>bX 9 Z<|Au) λc=>je<|gY<|(by let c:=el (a:=kw) (b:=kh) (A:=9) (B:=9) Y Y;exact ei kw kh<|bX 4 Z<|⟨(),⟨⟨(mB (((e:Int):Int)!=(kw*kh)) bm),trivial⟩,sA⟩,d,trivial⟩)
 rintro _ V _⟨d,_⟩;refine cD (¬((1<=kw/\kw<=9)/\(1<=kh/\kh<=9)/\(f.length:Int)=kw*kh)) (λc=>RC 8 [I 9]<|⟨Ay,d⟩) λc=>eQ d 0 [0,3,5] (γ:=Unit) (λ_ R=>⟨[(33,.bool (decide (¬(jc f=true/\0<=sh/\sh<=24))))],R,0,True⟩) ?_ ?_
 ·exact Q 2<|cS (vl h e g f (i.fl 0) d.ao) λ_ d=>cG<|Dk 37 (jc f) (λc=>bX 6 Z<|⟨(),⟨⟨(mT (by(first|omega|(simp_all;done)|(simp_all;omega)))),trivial⟩,sA⟩,d,trivial⟩) λc=>bf<|gY<|cS (tq sh d.ao) λ_ c=>bX 4 Z<|⟨(),⟨⟨(mB (!decide ((0:Int)<=sh/\sh<=(24:Int))) (by rw[acI];simp only[acr,acJ,adM,ne_eq,adt,adE,ae3,aeM,ach,aed,adX,aem,adY,adq]<;>(first|omega|(simp_all;done)|(simp_all;omega)))),trivial⟩,sA⟩,c,trivial⟩
 rintro _ V _⟨d,_⟩;refine cD (¬(jc f=true/\0<=sh/\sh<=24)) (λc=>RC 8 [I 10]<|⟨Ay,d⟩) λc=>eQ d 0 [0,3] (γ:=Unit) (λ_ R=>⟨[(42,.bool (decide (¬((1<=mx/\mx<=4294967296)/\1<=out/\out<=4294967296))))],R,0,True⟩) ?_ ?_
 ·exact Q 2<|cS (lp mx d.ao) λ_ d=>cG<|zD 46 ((1:Int)<=mx/\mx<=(4294967296:Int)) (λc=>bX 6 Z<|Au) λc=>bf<|gY<|cS (lp out d.ao) λ_ c=>bX 4 Z<|⟨(),⟨⟨(mB (!decide ((1:Int)<=out/\out<=(4294967296:Int))) bm),trivial⟩,sA⟩,c,trivial⟩
 rintro _ V _⟨d,_⟩;exact cD (¬((1<=mx/\mx<=4294967296)/\1<=out/\out<=4294967296)) (λc=>RC 8 [I 2]<|⟨Ay,d⟩) λc=>Q 8<|cS (oU h e g f 0 mx (i.fl 0) d.ao) λ_ h0=>JO 15<|uP (eM f 0 mx) (λc=>RC 7 [I 11]<|⟨Ay,h0⟩) λc=>RC 8 [I 0]<|⟨Ay,h0⟩
def LV(mx:Int)(g:cf)(c f:Nat)(row:aR)(i:cf)(d h:Nat)(dG:aR)(sh:Int)(e:Int)(out:Int)(j:bl ca 1 [H] g c f row)(k:bl ca 1 [H] i d h dG)(b:X W w (H::F)):
 Ro prog 245 #[I mx,.slice g c f,.slice i d h,I sh,I e,I out] (I (eJ mx row dG sh e out)) W w (H::F):=by
 let w0:=j.ll;let a:=k.ll;exact aq 81 func245 Z<|Q 11<|cS (xv (c:Int) b.ao) λ_ b=>cG<|zD 21 ((1:Int)<=(c:Int)/\(c:Int)<=(9:Int)) (λa=>RO 17 [I 9]<|⟨pP,b⟩) λa=>cG<|gY<|cS (xv (d:Int) b.ao) λ_ b=>JO 5<|pk ((1:Int)<=(d:Int)/\(d:Int)<=(9:Int)) (λa=>RC 8 [I 9]<|⟨pP,b⟩) λa=>Q 3<|cS (vl g c f row (j.fl 0) b.ao) λ_ b=>cG<|Dk 31 (jc row) (λa=>RO 26 [I 10]<|⟨pP,b⟩) λa=>bf<|gY<|cS (vl i d h dG (k.fl 0) b.ao) λ_ b=>gw<|Dk 36 (jc dG) (λa=>RO 21 [I 10]<|⟨pP,b⟩) λa=>bf<|gY<|cS (tq sh b.ao) λ_ b=>gw<|zD 41 ((0:Int)<=sh/\sh<=(24:Int)) (λa=>RO 16 [I 10]<|⟨pP,b⟩) λa=>bf<|gY<|cS (tq e b.ao) λ_ b=>JO 5<|pk ((0:Int)<=e/\e<=(24:Int)) (λa=>RC 8 [I 10]<|⟨pP,b⟩) λa=>Q 3<|cS (lp mx b.ao) λ_ b=>cG<|zD 50 ((1:Int)<=mx/\mx<=(4294967296:Int)) (λa=>RO 16 [I 2]<|⟨pP,b⟩) λa=>bf<|gY<|cS (lp out b.ao) λ_ h0=>JO 5<|pk ((1:Int)<=out/\out<=(4294967296:Int)) (λa=>RC 8 [I 2]<|⟨pP,h0⟩) λa=>Q 7<|cS (oU g c f row 0 mx (j.fl 0) h0.ao) λ_ b=>JO 16<|uP (eM row 0 mx) (λa=>RC 7 [I 11]<|⟨pP,b⟩) λa=>Q 7<|cS (CX (fN row 0 mx) (fM row 0 mx) sh b.ao) λ_ a=>JO 13<|cS (oU i d h dG (bk (fN row 0 mx) sh) (bk (fM row 0 mx) sh) (k.fl 0) a.ao) λ_ b=>JO 13<|VY
def pz(mx s:Int)(t:dW):Int:=bk (fN t.ad 0 mx) s
def oT(mx s:Int)(t:dW):Int:=bk (fM t.ad 0 mx) s
def li(f:dW->Int):List dW->Int
 |[]=>0
 |t::l=>l.foldl (λm t=>min m (f t)) (f t)
def lg(f:dW->Int):List dW->Int
 |[]=>0
 |t::l=>l.foldl (λm t=>max m (f t)) (f t)
def Be(f:dW->Int){l:List dW}{x:dW}(h:l[0]?=some x):li f (l.take 1)=f x:=by
 match l with
 |[]=>simp at h
 |y::l=>simp at h;subst h;simp[li]
def AG(f:dW->Int){l:List dW}{x:dW}(h:l[0]?=some x):lg f (l.take 1)=f x:=by
 match l with
 |[]=>simp at h
 |y::l=>simp at h;subst h;simp[lg]
def GG(f:dW->Int){l:List dW}{x:dW}(h:l[i]?=some x)(hi:0<i):li f (l.take (i+1))=min (li f (l.take i)) (f x):=by
 rw[bY h]
 match l,i with
 |[],_=>simp at h
 |y::l,i+1=>simp[li,aew]
def D9(f:dW->Int){l:List dW}{x:dW}(h:l[i]?=some x)(hi:0<i):lg f (l.take (i+1))=max (lg f (l.take i)) (f x):=by
 rw[bY h]
 match l,i with
 |[],_=>simp at h
 |y::l,i+1=>simp[lg,aew]
def cM(w h mx:Int)(x y:List dW)(s s2 out:Int):Int:=
 if cJ x w=0 then(if cJ y h=0 then(if(x.length:Int)*y.length<=4096 then(if(0<=s/\s<=24)/\0<=s2/\s2<=24 then(if(1<=mx/\mx<=4294967296)/\1<=out/\out<=4294967296 then
  (if x.all (λt=>eM t.ad 0 mx)=true then(if y.all (λt=>eM t.ad (li (pz mx s) x) (lg (oT mx s) x))=true then 0 else 11) else 11) else 2) else 10) else 8) else cJ y h) else cJ x w
theorem fh{l:List dW}{n:Int}(h:cJ l n=0):1<=l.length/\l.length<=128:=by
 grind[cJ]
def KC(s:aY)(ax:cf)(nx kx:Nat)(x:List bL)(ay:cf)(ny ky:Nat)(y:List bL)(sh:Int)(sh2:Int)(out:Int)(hx:bl ff 2 [H] ax nx kx x)(dx:∀z∈x,bL.Ok [H] z)(hy:bl ff 2 [H] ay ny ky y)(dy:∀z∈y,bL.Ok [H] z)(hS:X W w (H::F)):
 Ro prog 246 #[.agg #[I s.w,I s.h,I s.aG],.slice ax nx kx,.slice ay ny ky,I sh,I sh2,I out] (I (cM s.w s.h s.aG (x.map bL.v) (y.map bL.v) sh sh2 out)) W w (H::F):=by
 have C0:=hx.le;have r0:=hx.len;have D0:=hy.le;have t0:=hy.len;refine aq 122 func246 Z<|Q 2<|eD hS [I s.w,I s.h,I s.aG] λ_ _ i0=>GO i0 9 [0]<|cS (DZ ax nx kx x s.w (hx.fl 1) (λz hz=>(dx z hz).ag (mF 1)) i0.ao) λ_ g0=>JO 9<|CN (cJ (x.map bL.v) s.w) 0 (λq0=>RC 8 [I (cJ (x.map bL.v) s.w)]<|⟨(by unfold cM;exact Jt),(g0.aj 0 Z)⟩) λq0=>GC g0 8 [0]<|cS (DZ ay ny ky y s.h (hy.fl 1) (λz hz=>(dy z hz).ag (mF 1)) g0.ao) λ_ d0=>JO 9<|CN (cJ (y.map bL.v) s.h) 0 (λs0=>RC 8 [I (cJ (y.map bL.v) s.h)]<|⟨(by unfold cM;exact Jt),(d0.aj 0 Z)⟩) λs0=>Q 5<|have H0:=fh (l:=x.map bL.v) (n:=s.w) Y;have I0:=fh (l:=y.map bL.v) (n:=s.h) Y;have E0:(x.map bL.v).length=nx:=(by simp[r0]);have F0:(y.map bL.v).length=ny:=(by simp[t0]);have K0:=el (a:=(nx:Int)) (b:=(ny:Int)) (A:=128) (B:=128) Y Y;have J0:((x.map bL.v).length:Int)*((y.map bL.v).length:Int)=(nx:Int)*ny:=(by rw[E0,F0]);Q 5<|ei (nx:Int) (ny:Int)<|JO 4<|cD (((nx:Int)*ny)>4096) (λu0=>RC 8 [I 8]<|⟨(by unfold cM;exact Jt),(d0.aj 0 Z)⟩) λu0=>eQ d0 0 [1,2,3,5,6] (γ:=Unit) (λ_ R=>⟨[(46,.bool (decide (¬((0<=sh/\sh<=24)/\0<=sh2/\sh2<=24))))],R,0,True⟩) ?_ ?_
 ·exact Q 2<|cS (tq sh d0.ao) λ_ j0=>cG<|zD 50 ((0:Int)<=sh/\sh<=(24:Int)) (λw0=>bX 6 Z<|⟨(),⟨⟨(mT Y),trivial⟩,sA⟩,j0,trivial⟩) λw0=>bf<|gY<|cS (tq sh2 j0.ao) λ_ x0=>bX 4 Z<|⟨(),⟨⟨(mB (!decide ((0:Int)<=sh2/\sh2<=(24:Int))) bm),trivial⟩,sA⟩,x0,trivial⟩
 rintro _ V _⟨e0,_⟩;refine cD (¬((0<=sh/\sh<=24)/\0<=sh2/\sh2<=24)) (λy0=>RC 8 [I 10]<|⟨(by unfold cM;exact Jt),(e0.aj 0 Z)⟩) λy0=>eQ e0 0 [1,2,3,6] (γ:=Unit) (λ_ R=>⟨[(55,.bool (decide (¬((1<=s.aG/\s.aG<=4294967296)/\1<=out/\out<=4294967296))))],R,0,True⟩) ?_ ?_
 ·exact GC e0 3 [0]<|cS (lp s.aG e0.ao) λ_ k0=>cG<|zD 60 ((1:Int)<=s.aG/\s.aG<=(4294967296:Int)) (λa1=>bX 6 Z<|⟨(),⟨⟨(mT Y),trivial⟩,sA⟩,k0,trivial⟩) λa1=>bf<|gY<|cS (lp out k0.ao) λ_ b1=>bX 4 Z<|⟨(),⟨⟨(mB (!decide ((1:Int)<=out/\out<=(4294967296:Int))) bm),trivial⟩,sA⟩,b1,trivial⟩
 rintro _ V _⟨l0,_⟩;refine cD (¬((1<=s.aG/\s.aG<=4294967296)/\1<=out/\out<=4294967296)) (λc1=>RC 8 [I 2]<|⟨(by unfold cM;exact Jt),(l0.aj 0 Z)⟩) λc1=>Q 16<|bF [1,2,3,6] (γ:=Nat×Int×Int) (λ⟨i,lo,up⟩ R=>⟨[(17,I i),(15,I lo),(16,I up)],R,nx-i,i<=nx/\(lo=li (pz s.aG sh) ((x.map bL.v).take i)/\up=lg (oT s.aG sh) ((x.map bL.v).take i))/\(((x.map bL.v).take i).all (λt=>eM t.ad 0 s.aG)=true)⟩) (0,0,0) ⟨l0,Y,by exact⟨rfl,rfl⟩,by rfl⟩<|λ⟨i,lo,up⟩ V _⟨m0,hi,hr,hE⟩=>Q 9<|cD ((i:Int)<nx) (λf1=>?_) (λf1=>?_);rotate_left
 ·refine Q 7<|have G0:=di hE (by simp;omega);have z0:lo=li (pz s.aG sh) (x.map bL.v):=(by rw[hr.1,acj (by simp;omega)]);have A0:up=lg (oT s.aG sh) (x.map bL.v):=(by rw[hr.2,acj (by simp;omega)]);Q 5<|bF [2,15,16] (γ:=Nat) (λj R=>⟨[(21,I j)],R,ny-j,j<=ny/\(((y.map bL.v).take j).all (λt=>eM t.ad (li (pz s.aG sh) (x.map bL.v)) (lg (oT s.aG sh) (x.map bL.v)))=true)⟩) 0 ⟨m0,Y,by rfl⟩<|λj V _⟨h0,hj,hF⟩=>Q 9<|CD ((j:Int)<ny) (λg1=>RC 11 [I 0]<|(by have h1:=(h0.aj 0 Z);have v0:=di hF (by simp;omega);refine⟨?_,h1⟩;unfold cM;(repeat' split)<;>first|rfl|(exfalso;omega)|contradiction|(exfalso;rename_i h;rw[v0] at h;cases h)|(exfalso;simp_all;done)|(simp_all;done))) λg1=>?_;refine Q 8<|kQ hy j λb0 _ _ f0 i1=>bf<|eB h0 (i1.up 1 Z) 1 (.slice b0.ad.a b0.ad.n b0.ad.k)<|cG<|cS (oU b0.ad.a b0.ad.n b0.ad.k b0.ad.l lo up (bl.ao ((dy b0 (ab8 f0)).ad.up 1 (by rfl))) h0.ao) λ_ n0=>JO 15<|UX (eM b0.ad.l lo up) (λj1=>Q 5<|aU (j:Int) 1<|bX 2 Z<|⟨j+1,od,bR,n0,Y,all_succ hF (cg (f:=bL.v) f0) (by simp only[bL.v];rw[<-z0,<-A0];simp_all)⟩) λj1=>RC 11 [I 11] ?_;have k1:=(n0.aj 0 Z);have v0:=cy (p:=λt=>eM t.ad (li (pz s.aG sh) (x.map bL.v)) (lg (oT s.aG sh) (x.map bL.v))) (cg (f:=bL.v) f0) (by simp only[bL.v];rw[<-z0,<-A0];simp_all);refine⟨?_,k1⟩;unfold cM
  (repeat' split)<;>first|rfl|(exfalso;omega)|contradiction|(exfalso;rename_i h;rw[v0] at h;cases h)|(exfalso;simp_all;done)|(simp_all;done)
 refine Q 5<|have⟨a0,i2,j2,c0,l1,m1⟩:=bl.eN hx i;bJ m0 [7] (fq 4 1 (l1.up 1 Z)<|fb 6 0 2 1<|fn) [0,1,2,3,5,4,6,7,8,9,10,11,12,13,14] λ_ n1=>wV 2<|wI m1<|wV 2<|wL 0<|wL 1<|wO Z<|cS (oU a0.ad.a a0.ad.n a0.ad.k a0.ad.l 0 s.aG (bl.ao ((dx a0 (ab8 c0)).ad.up 1 (by rfl))) n1.ao) λ_ o0=>nA<|wV 1<|wV 1<|wV 1<|wV 1<|wV 3<|wN<|JX 8<|uP (eM a0.ad.l 0 s.aG) (λo1=>RC 12 [I 11]<|(by have q1:=(o0.aj 0 Z);have G0:=cy (p:=λt=>eM t.ad 0 s.aG) (cg (f:=bL.v) c0) (by simp only[bL.v];simp_all);exact⟨(by unfold cM;exact Jt),q1⟩)) λo1=>Q 7<|cS (CX (fN a0.ad.l 0 s.aG) (fM a0.ad.l 0 s.aG) sh o0.ao) λ_ p0=>JO 14<|cE (i:Int) 0 (λr1=>?_) (λr1=>?_);rotate_left
 ·exact Q 5<|bh (I (min lo (bk (fN a0.ad.l 0 s.aG) sh))) Z Z (iY lo (bk (fN a0.ad.l 0 s.aG) sh) Z Z kr kr)<|cG<|bh (I (max up (bk (fM a0.ad.l 0 s.aG) sh))) Z Z (gV up (bk (fM a0.ad.l 0 s.aG) sh) Z Z kr kr)<|JO 7<|aU (i:Int) 1<|bX 2 Z<|⟨(i+1,(min lo (bk (fN a0.ad.l 0 s.aG) sh)),(max up (bk (fM a0.ad.l 0 s.aG) sh))),od,bR,p0,Y,by
   have e1:=GG (pz s.aG sh) (cg (f:=bL.v) c0) Y;have e2:=D9 (oT s.aG sh) (cg (f:=bL.v) c0) Y;exact⟨by rw[e1,<-hr.1];rfl,by rw[e2,<-hr.2];rfl⟩,all_succ hE (cg (f:=bL.v) c0) (by simp only[bL.v];simp_all)⟩
 exact Q 10<|bh (I (min (bk (fN a0.ad.l 0 s.aG) sh) (bk (fN a0.ad.l 0 s.aG) sh))) Z Z (iY (bk (fN a0.ad.l 0 s.aG) sh) (bk (fN a0.ad.l 0 s.aG) sh) Z Z kr kr)<|cG<|bh (I (max (bk (fM a0.ad.l 0 s.aG) sh) (bk (fM a0.ad.l 0 s.aG) sh))) Z Z (gV (bk (fM a0.ad.l 0 s.aG) sh) (bk (fM a0.ad.l 0 s.aG) sh) Z Z kr kr)<|JO 7<|aU (i:Int) 1<|bX 2 Z<|⟨(i+1,(min (bk (fN a0.ad.l 0 s.aG) sh) (bk (fN a0.ad.l 0 s.aG) sh)),(max (bk (fM a0.ad.l 0 s.aG) sh) (bk (fM a0.ad.l 0 s.aG) sh))),od,bR,p0,Y,by
  have B0:i=0:=by omega
  subst B0;have e1:=Be (pz s.aG sh) (cg (f:=bL.v) c0);have e2:=AG (oT s.aG sh) (cg (f:=bL.v) c0);rw[e1,e2];simp only[pz,oT,bL.v];omega,all_succ hE (cg (f:=bL.v) c0) (by simp only[bL.v];simp_all)⟩
end
section
variable{W w:World}{H:af}{F:cj}
structure Sp where
 lo:Int
 hi:Int
 deriving DecidableEq
def rA(x:Sp):fa:=[I x.lo,I x.hi]
def bA(c:Int):Int:=if c<=2 then 0 else if 10<=c then 1 else 2
def kC(c:Int):0<=bA c/\bA c<=2:=by grind[bA]
def nM(o:fJ):Prop:=(o.code=2/\-4294967296<=o.arg/\o.arg<=4294967296)\/(o.code=10/\0<=o.arg/\o.arg<=24)\/(¬o.code=2/\¬o.code=10/\o.arg=0)
instance (o:fJ):Decidable (nM o):=by unfold nM;infer_instance
def ur(two:Bool)(o:fJ)(h:Int):Prop:=o.code<0\/11<o.code\/(o.code=1/\two=false)\/h<bA o.code
instance (two:Bool)(o:fJ)(h:Int):Decidable (ur two o h):=by unfold ur;infer_instance
def fL(two:Bool):List fJ->Int->Int
 |[],h=>if h=1 then 0 else 1
 |o::l,h=>if ur two o h then 1 else if nM o then fL two l (h+(1-bA o.code)) else 10
def cH(l:List fJ)(two:Bool):Int:=if l.length=0\/32<l.length then 9 else fL two l 0
def pf(x:Int)(b:X W w (H::F)):
 Ro prog 332 #[I x] (I (bA x)) W w (H::F):=by
 exact aq 9 func332 Z<|Q 14<|cD (x<=2) (λa=>RC 8 [I 0]<|⟨MM,b⟩) λa=>Q 7<|cD (x>=10) (λa=>RC 8 [I 1]<|⟨MM,b⟩) λa=>RC 9 [I 2]<|⟨MM,b⟩
def uw(o:fJ)(a:X W w (H::F)):
 Ro prog 333 #[.agg #[I o.code,I o.arg]] (.bool (decide (nM o))) W w (H::F):=by
 exact aq 23 func333 Z<|Q 2<|eD a [I o.code,I o.arg] λ_ _ b=>GO b 17 [0]<|cE o.code 2 (λc=>GC b 6 [0]<|SD 10 (o.arg>=(-4294967296)) (λa=>FO 10<|Ad) λa=>Uw) λc=>Q 6<|CE o.code 10 (λa=>LX b 12 [0] Z<|fc [.bool (o.arg==0)]<|Ad) λa=>GC b 4 [0]<|cS (tq o.arg b.ao) λ_ h0=>RO 6 [.bool (decide ((0:Int)<=o.arg/\o.arg<=(24:Int)))]<|⟨rB (by unfold nM;exact bq),(h0.aj 0 Z)⟩
def AM(b:cf)(nx a:Nat)(x:List fJ)(two:Bool)(hx:bl gA 2 [H] b nx a x)(c:X W w (H::F)):
 Ro prog 292 #[.slice b nx a,.bool two] (I (cH x two)) W w (H::F):=by
 let a:=hx.ll;refine aq 61 func292 Z<|Q 12<|sE 11 (nx:Int) 0 (λa=>RO 14 [I 9]<|Jm) λa=>JO 6<|cD ((nx:Int)>32) (λa=>RC 7 [I 9]<|Jm) λa=>Q 14<|bF [0,1] (γ:=Nat×Int) (λ⟨i,h⟩ R=>⟨[(6,I i),(5,I h)],R,nx-i,i<=nx/\(fL two x 0=fL two (x.drop i) h)/\(0<=h/\h<=(i:Int))⟩) (0,0) ⟨c,Y,by rfl,Y⟩ ?_;rintro⟨i,h⟩ V _⟨b,a,g,a⟩;refine Q 9<|CD ((i:Int)<nx) (λc=>Q 12<|CN h 1 (λa=>RC 7 [I 1]<|(by let e:cH x two=fL two (x.drop i) h:=CT;exact⟨by rw[e,acO Y,fL];rw[ab9 Y];rfl,b⟩)) λa=>RC 8 [I 0]<|(by let e:cH x two=fL two (x.drop i) h:=CT;exact⟨by rw[e,acO Y,fL];rw[aca Y];rfl,b⟩)) λc=>?_;refine Q 8<|kQ hx i λc _ _ j a=>lv b (a.up 0 Z) 0 [I c.code,I c.arg]<|aI b zeroValue119 λ_ _ a=>bP a 0 Z [I c.code,I c.arg] λ_ f=>GO f 9 [0]<|sD 29 (c.code<0) (λb=>RO 35 [I 1]<|YF) λb=>GO f 5 [0]<|sD 34 (c.code>11) (λb=>RO 30 [I 1]<|YF) λb=>GO f 4 [0]<|SE 38 c.code 1 (λk=>GO f 7 [0]<|gY<|cS (pf c.code f.ao) λ_ b=>(by let a:0<=(bA c.code)/\(bA c.code)<=2:=kC _;exact JO 5<|cD ((bA c.code)>h) (λd=>RC 12 [I 1]<|Ub) λd=>GC b 6 [200]<|cS (uw c b.ao) λ_ a=>JO 3<|pk (nM c) (λb=>RC 12 [I 10]<|(by let w0:=(a.aj 0 Z);let e:cH x two=fL two (x.drop i) h:=CT;exact⟨by rw[e,dZ j,fL];rw[ab9 Yg,ab9 ‹_›];rfl,w0⟩)) λb=>GC a 6 [0]<|cS (pf c.code a.ao) λ_ b=>V2)) λk=>?_;exact xN<|Dk 43 two (λb=>RO 21 [I 1]<|YF) λb=>GO f 2 [0]<|gY<|cS (pf c.code f.ao) λ_ b=>(by let a:0<=(bA c.code)/\(bA c.code)<=2:=kC _;exact JO 5<|cD ((bA c.code)>h) (λd=>RC 12 [I 1]<|Ub) λd=>GC b 6 [200]<|cS (uw c b.ao) λ_ h0=>JO 3<|pk (nM c) (λb=>RC 12 [I 10]<|(by let a:=(h0.aj 0 Z);let e:cH x two=fL two (x.drop i) h:=CT;exact⟨by rw[e,dZ j,fL];rw[ab9 Yg,ab9 ‹_›];rfl,a⟩)) λb=>GC h0 6 [0]<|cS (pf c.code h0.ao) λ_ b=>V2)
def gd(a b:Int):Bool:=decide (-17592186044416<=a*b/\a*b<=17592186044416)
def aE(a b:Int):Int:=if gd a b=true then a*b else 0
variable{a b:Int}
def uV{x y:Int}(hx:x=a\/x=-a)(hy:y=b\/y=-b)(e:0<=x)(d:0<=y)(h:y=0\/(0<y/\x<=(17592186044416:Int).tdiv y)):gd a b=true/\aE a b=a*b/\-17592186044416<=a*b/\a*b<=17592186044416:=by
 let h1:=pg e d (l:=17592186044416) (by omega) h;let c:=H6 hx hy e d h1.2
 grind[gd,aE]
def uf{x y:Int}(hx:x=a\/x=-a)(hy:y=b\/y=-b)(h:0<y/\(17592186044416:Int).tdiv y<x):gd a b=false/\aE a b=0:=by
 let h1:=Bz (l:=17592186044416) (by omega) h.1 h.2;let c:gd a b=false:=acb (H7 hx hy h1)
 grind[aE]
def j7(x:Sp):Prop:=(-17592186044416<=x.lo/\x.lo<=17592186044416)/\-17592186044416<=x.hi/\x.hi<=17592186044416
def tG(x y:Sp):Int:=min (min (min (aE x.lo y.lo) (aE x.lo y.hi)) (aE x.hi y.lo)) (aE x.hi y.hi)
def tm(x y:Sp):Int:=max (max (max (aE x.lo y.lo) (aE x.lo y.hi)) (aE x.hi y.lo)) (aE x.hi y.hi)
def jD(x y:Sp):Bool:=gd x.lo y.lo&&gd x.lo y.hi&&gd x.hi y.lo&&gd x.hi y.hi
def rI(a:Int)(b:Int)(ha:-17592186044416<=a/\a<=17592186044416)(c:-17592186044416<=b/\b<=17592186044416)(e:X W w (H::F)):
 Ro prog 356 #[I a,I b] (.tuple #[I (aE a b),.bool (gd a b)]) W w (H::F):=by
 refine aq 29 func356 Z<|Q 21<|CD (a<0) (λg=>Q 9<|CD (b<0) (λf=>Q 8<|SD 20 (b>0) (λd=>JO 11<|V4) λd=>cG<|gY<|mE 17592186044416 b<|JO 4<|cD (a>((17592186044416:Int).tdiv b)) (λd=>RC 8 [I 0,.bool false]<|(by let c:=uf (a:=a) (b:=b) (x:=a) (y:=b) Y Y Y;exact Jq)) λd=>Q 3<|V4) λf=>Q 2<|bh (I (-b)) Z Z (wi b Z kr)<|JO 9<|SD 20 ((-b)>0) (λd=>JO 11<|Uu) λd=>cG<|gY<|mE 17592186044416 (-b)<|JO 4<|cD (a>((17592186044416:Int).tdiv (-b))) (λd=>RC 8 [I 0,.bool false]<|(by let c:=uf (a:=a) (b:=b) (x:=a) (y:=(-b)) Y Y Y;exact Jq)) λd=>Q 3<|Uu) λg=>?_;exact Q 2<|bh (I (-a)) Z Z (wi a Z kr)<|JO 10<|CD (b<0) (λf=>Q 8<|SD 20 (b>0) (λh0=>JO 11<|UB) λh0=>cG<|gY<|mE 17592186044416 b<|JO 4<|cD ((-a)>((17592186044416:Int).tdiv b)) (λd=>RC 8 [I 0,.bool false]<|(by let c:=uf (a:=a) (b:=b) (x:=(-a)) (y:=b) Y Y Y;exact Jq)) λd=>Q 3<|UB) λf=>Q 2<|bh (I (-b)) Z Z (wi b Z kr)<|JO 9<|SD 20 ((-b)>0) (λd=>JO 11<|Ua) λd=>cG<|gY<|mE 17592186044416 (-b)<|JO 4<|cD ((-a)>((17592186044416:Int).tdiv (-b))) (λd=>RC 8 [I 0,.bool false]<|(by let c:=uf (a:=a) (b:=b) (x:=(-a)) (y:=(-b)) Y Y Y;exact Jq)) λd=>Q 3<|Ua
def Jr(a:Int)(ha:-9223372036854775807<=a/\a<=9223372036854775807)(d:X W w (H::F)):
 Ro prog 351 #[I a] (I a.natAbs) W w (H::F):=by
 exact aq 8 func351 Z<|Q 12<|CD (a<0) (λb=>RC 9 [I a]<|⟨acd (λc=>Ending.returned (I c)) (by omega),d⟩) λb=>Q 3<|bh (I (-a)) Z Z (wi a Z (by kernel_rfl))<|RO 5 [I (-a)]<|⟨acd (λc=>Ending.returned (I c)) (by omega),d⟩
def GA(x:Sp)(y:Sp)(hx:j7 x)(hy:j7 y)(b:X W w (H::F)):
 Ro prog 352 #[.agg #[I x.lo,I x.hi],.agg #[I y.lo,I y.hi]] (.tuple #[.agg #[I (tG x y),I (tm x y)],.bool (jD x y)]) W w (H::F):=by
 let a:=hx.1;let a:=hx.2;let a:=hy.1;let w0:=hy.2;refine aq 67 func352 Z<|Q 2<|eD b [I x.lo,I x.hi] λ_ _ a=>eD a [I y.lo,I y.hi] λ_ _ a=>aI a zeroValue374 λ_ _ a=>GO a 9 [2,1]<|cS (rI x.lo y.lo od od a.ao) λ_ a=>GO a 13 [2,1]<|cS (rI x.lo y.hi od od a.ao) λ_ a=>GO a 13 [2,1]<|cS (rI x.hi y.lo od od a.ao) λ_ a=>GO a 13 [2,1]<|cS (rI x.hi y.hi od od a.ao) λ_ e=>JO 13<|bh (I (min (min (min (aE x.lo y.lo) (aE x.lo y.hi)) (aE x.hi y.lo)) (aE x.hi y.hi))) Z Z (XA (aE x.lo y.lo) (aE x.lo y.hi) (aE x.hi y.lo) (aE x.hi y.hi) Z Z kr kr kr kr)<|je<|bh (I (max (max (max (aE x.lo y.lo) (aE x.lo y.hi)) (aE x.hi y.lo)) (aE x.hi y.hi))) Z Z (XY (aE x.lo y.lo) (aE x.lo y.hi) (aE x.hi y.lo) (aE x.hi y.hi) Z Z kr kr kr kr)<|gw<|SB 58 (gd x.lo y.lo) (λd=>Sw<|YR) λd=>?_;exact gw<|SB 61 (gd x.lo y.hi) (λd=>xN<|YR) λd=>gw<|SB 64 (gd x.hi y.lo) (λb=>cG<|bP e 0 Z [I (min (min (min (aE x.lo y.lo) (aE x.lo y.hi)) (aE x.hi y.lo)) (aE x.hi y.hi)),I (max (max (max (aE x.lo y.lo) (aE x.lo y.hi)) (aE x.hi y.lo)) (aE x.hi y.hi))] λ_ h0=>DO 4 h0 0 [I (min (min (min (aE x.lo y.lo) (aE x.lo y.hi)) (aE x.hi y.lo)) (aE x.hi y.hi)),I (max (max (max (aE x.lo y.lo) (aE x.lo y.hi)) (aE x.hi y.lo)) (aE x.hi y.hi))] (.bool false)<|(by let a:=(h0.ap [0,0,0]);let c:jD x y=false:=E4;exact NP)) λb=>cG<|bP e 0 Z [I (min (min (min (aE x.lo y.lo) (aE x.lo y.hi)) (aE x.hi y.lo)) (aE x.hi y.hi)),I (max (max (max (aE x.lo y.lo) (aE x.lo y.hi)) (aE x.hi y.lo)) (aE x.hi y.hi))] λ_ b=>DO 4 b 0 [I (min (min (min (aE x.lo y.lo) (aE x.lo y.hi)) (aE x.hi y.lo)) (aE x.hi y.hi)),I (max (max (max (aE x.lo y.lo) (aE x.lo y.hi)) (aE x.hi y.lo)) (aE x.hi y.hi))] (.bool (gd x.hi y.hi))<|let a:=(b.ap [0,0,0]);let c:jD x y=(gd x.hi y.hi):=E4;⟨by rw[c];rfl,a⟩
def eb(o:fJ)(x y:Sp)(a b:Int):Sp:=
 if o.code=0 then⟨0,a⟩ else if o.code=1 then⟨0,b⟩ else if o.code=2 then⟨o.arg,o.arg⟩ else if o.code=3 then⟨x.lo+y.lo,x.hi+y.hi⟩ else if o.code=4 then⟨x.lo-y.hi,x.hi-y.lo⟩
 else if o.code=5 then⟨tG x y,tm x y⟩ else if o.code=6 then⟨min x.lo y.lo,min x.hi y.hi⟩ else if o.code=7 then⟨max x.lo y.lo,max x.hi y.hi⟩ else if o.code=8 then⟨0,max (x.hi-y.lo) (y.hi-x.lo)⟩
 else if o.code=9 then⟨-(max (x.lo.natAbs:Int) x.hi.natAbs),max (x.lo.natAbs:Int) x.hi.natAbs⟩ else if o.code=10 then⟨bk x.lo o.arg,bk x.hi o.arg⟩ else⟨0,max (x.lo.natAbs:Int) x.hi.natAbs⟩
def l8(o:fJ)(x y:Sp):Bool:=if o.code=5 then jD x y else true
def fx(o:fJ)(x y:Sp)(a b:Int):Prop:=l8 o x y=true/\(-17592186044416<=(eb o x y a b).lo/\(eb o x y a b).lo<=17592186044416)/\-17592186044416<=(eb o x y a b).hi/\(eb o x y a b).hi<=17592186044416
instance (o:fJ)(x y:Sp)(a b:Int):Decidable (fx o x y a b):=by unfold fx;infer_instance
def ED(o:fJ)(x:Sp)(y:Sp)(a:Int)(b:Int)(hx:j7 x)(hy:j7 y)(c:(1<=a/\a<=4294967296)/\1<=b/\b<=4294967296)(c:nM o)(d:X W w (H::F)):
 Ro prog 334 #[.agg #[I o.code,I o.arg],.agg #[I x.lo,I x.hi],.agg #[I y.lo,I y.hi],I a,I b] (.tuple #[.agg #[I ((eb o x y a b).lo),I ((eb o x y a b).hi)],.bool (decide (fx o x y a b))]) W w (H::F):=by
 let c:=hx.1;let c:=hx.2;let c:=hy.1;let c:=hy.2;refine aq 148 func334 Z<|Q 2<|eD d [I o.code,I o.arg] λ_ _ c=>eD c [I x.lo,I x.hi] λ_ _ c=>eD c [I y.lo,I y.hi] λ_ _ c=>aI c zeroValue374 λ_ _ c=>JO 4<|bJ c [2,5] (fb 1 2 0 1<|fb 4 2 1 1<|fn) [0,3,1,4,2,5,6,7] λ_ c=>wV 2<|wL 0<|wL 1<|wO Z<|cS (Jr x.lo od c.ao) λ_ c=>nZ c [2]<|wO Z<|cS (Jr x.hi od c.ao) λ_ c=>nA<|wY (I (max (x.lo.natAbs:Int) (x.hi.natAbs:Int))) Z (λw _=>Uy)<|wV 1<|wN<|JX 4<|aI c zeroValue374 λd _ c=>bP c 0 Z [I 0,I 0] λ_ j=>JO 3<|eQ j 1 [10,13] (γ:=Int×Int×Bool) (λ⟨f,e,k⟩ R=>⟨[(14,.bool k)],aW d #[I f,I e] 374::R,0,(eb o x y a b=⟨f,e⟩)/\(l8 o x y=k)⟩) ?_ ?_;rotate_left
 ·rintro⟨f,e,k⟩ V _⟨i,n,s⟩;refine Q 1<|bC (k=true) (λg=>bJ i [5,10,12] (fb 0 0 0 2<|fn) [1,2,3,0,4,5,6,7,8,9,10,11,12,13] λ_ c=>wV 2<|jy 138 _ false (ad2.2 g)<|wV 1<|wG 0 2<|wV 1<|wO Z<|bf<|nZ c [0]<|wV 4<|wO Z<|bf<|nZ c [0]<|wV 1<|wO Z<|bP c 1 Z [I f,I e] λ_ c=>nA<|wV 1<|wN<|DX 2 c 1 [I f,I e] (.bool false)<|(by let d:=(c.ap [0,0,0,0,0]);let m:fx o x y a b↔(k=true/\(-17592186044416<=f/\f<=17592186044416)/\-17592186044416<=e/\e<=17592186044416):=(by unfold fx;rw[n,s]);let l:decide (fx o x y a b)=false:=acb (λh=>by let⟨r,q,p⟩:=m.1 h;first|contradiction|omega);exact⟨by rw[l,n];rfl,d⟩)) λg=>bJ i [5,9,10,12] (fb 0 0 0 2<|fb 4 0 0 1<|fn) [1,2,3,0,4,5,6,7,8,9,10,11,12,13] λ_ c=>wV 2<|jy 138 _ true g<|wV 1<|wG 0 2<|wL 2<|wO Z<|gY<|cS (yd f c.ao) λ_ d=>nZ d [0]<|wV 2 ?_;exact bC ((-17592186044416:Int)<=f/\f<=(17592186044416:Int)) (λh0=>jy 143 _ false (acb h0)<|wV 1<|wO Z<|bf<|nZ d [0]<|wO Z<|bf<|nZ d [0]<|wV 1<|wO Z<|bP d 1 Z [I f,I e] λ_ c=>nA<|wV 1<|wN<|DX 2 c 1 [I f,I e] (.bool false)<|(by let g:=(c.ap [0,0,0,0,0]);let m:fx o x y a b↔(k=true/\(-17592186044416<=f/\f<=17592186044416)/\-17592186044416<=e/\e<=17592186044416):=(by unfold fx;rw[n,s]);let l:decide (fx o x y a b)=false:=acb (λh=>by let⟨r,q,p⟩:=m.1 h;first|contradiction|omega);exact⟨by rw[l,n];rfl,g⟩)) λh0=>jy 143 _ true (acg h0)<|wV 1<|wO Z<|gY<|sM d 0 1 (I e)<|nZ d [0]<|wO Z<|gY<|cS (yd e d.ao) λ_ c=>nZ c [0]<|wV 1<|wO Z<|bP c 1 Z [I f,I e] λ_ c=>nA<|wV 1<|wN<|DX 2 c 1 [I f,I e] (.bool (decide ((-17592186044416:Int)<=e/\e<=(17592186044416:Int))))<|let w0:=(c.ap [0,0,0,0,0]);let m:fx o x y a b↔(k=true/\(-17592186044416<=f/\f<=17592186044416)/\-17592186044416<=e/\e<=17592186044416):=(by unfold fx;rw[n,s]);let l:decide (fx o x y a b)=decide ((-17592186044416:Int)<=e/\e<=(17592186044416:Int)):=ad6.2 (m.trans ⟨λh=>h.2.2,λh=>⟨by assumption,Y,h⟩⟩);⟨by rw[l,n];rfl,w0⟩
 refine GC j 13 [4]<|cE o.code 0 (λd=>Q 3<|bP j 0 Z [I 0,I a] λ_ c=>bX 2 Z<|⟨(0,a,true),bR,c,(by unfold eb;rw[aca Y]<;>rfl),pM⟩) λd=>Q 6<|cE o.code 1 (λd=>Q 3<|bP j 0 Z [I 0,I b] λ_ c=>bX 2 Z<|⟨(0,b,true),bR,c,(by unfold eb;rw[ab9 Y,aca Y]<;>rfl),pM⟩) λd=>Q 6<|cE o.code 2 (λd=>GC j 6 [4,4]<|bP j 0 Z [I o.arg,I o.arg] λ_ c=>bX 2 Z<|⟨(o.arg,o.arg,true),bR,c,(by unfold eb;rw[ab9 Y,ab9 Y,aca Y]<;>rfl),pM⟩) λd=>Q 6<|cE o.code 3 (λd=>GC j 5 [3,2]<|aU x.lo y.lo<|GO j 4 [3,2]<|aU x.hi y.hi<|bf<|bP j 0 Z [I (x.lo+y.lo),I (x.hi+y.hi)] λ_ c=>bX 2 Z<|⟨((x.lo+y.lo),(x.hi+y.hi),true),bR,c,Va,pM⟩) λd=>Q 6<|cE o.code 4 (λd=>GC j 5 [3,2]<|dP x.lo y.hi<|GO j 4 [3,2]<|dP x.hi y.lo<|bf<|bP j 0 Z [I (x.lo-y.hi),I (x.hi-y.lo)] λ_ c=>bX 2 Z<|⟨((x.lo-y.hi),(x.hi-y.lo),true),bR,c,TT,pM⟩) λd=>?_;refine Q 6<|cE o.code 5 (λh1=>GC j 3 [203,202]<|cS (GA x y (by unfold j7;exact Cj) (by unfold j7;exact Cj) j.ao) λ_ c=>gw<|bP c 0 Z [I (tG x y),I (tm x y)] λ_ c=>bX 3 Z<|⟨((tG x y),(tm x y),(jD x y)),bR,c,(by unfold eb;rw[ab9 Y,ab9 Y,ab9 Y,ab9 Y,ab9 Y,aca Y]<;>rfl),(by unfold l8;exact qk)⟩) λh1=>Q 6<|cE o.code 6 (λd=>GC j 5 [3,2]<|bh (I (min x.lo y.lo)) Z Z (iY x.lo y.lo Z Z kr kr)<|GO j 4 [3,2]<|bh (I (min x.hi y.hi)) Z Z (iY x.hi y.hi Z Z kr kr)<|bf<|bP j 0 Z [I (min x.lo y.lo),I (min x.hi y.hi)] λ_ c=>bX 2 Z<|⟨((min x.lo y.lo),(min x.hi y.hi),true),bR,c,Ux,pM⟩) λd=>Q 6<|cE o.code 7 (λd=>GC j 5 [3,2]<|bh (I (max x.lo y.lo)) Z Z (gV x.lo y.lo Z Z kr kr)<|GO j 4 [3,2]<|bh (I (max x.hi y.hi)) Z Z (gV x.hi y.hi Z Z kr kr)<|bf<|bP j 0 Z [I (max x.lo y.lo),I (max x.hi y.hi)] λ_ c=>bX 2 Z<|⟨((max x.lo y.lo),(max x.hi y.hi),true),bR,c,TL,pM⟩) λd=>?_;exact Q 6<|cE o.code 8 (λd=>GC j 5 [3,2]<|dP x.hi y.lo<|GO j 4 [2,3]<|dP y.hi x.lo<|bh (I (max (x.hi-y.lo) (y.hi-x.lo))) Z Z (gV (x.hi-y.lo) (y.hi-x.lo) Z Z kr kr)<|bf<|bP j 0 Z [I 0,I (max (x.hi-y.lo) (y.hi-x.lo))] λ_ c=>bX 2 Z<|⟨(0,(max (x.hi-y.lo) (y.hi-x.lo)),true),bR,c,UK,pM⟩) λd=>Q 6<|cE o.code 9 (λd=>Q 2<|bh (I (-(max (x.lo.natAbs:Int) (x.hi.natAbs:Int)))) Z Z (wi (max (x.lo.natAbs:Int) (x.hi.natAbs:Int)) Z kr)<|cG<|bP j 0 Z [I (-(max (x.lo.natAbs:Int) (x.hi.natAbs:Int))),I (max (x.lo.natAbs:Int) (x.hi.natAbs:Int))] λ_ c=>bX 2 Z<|⟨((-(max (x.lo.natAbs:Int) (x.hi.natAbs:Int))),(max (x.lo.natAbs:Int) (x.hi.natAbs:Int)),true),bR,c,Ul,pM⟩) λd=>Q 6<|CE o.code 10 (λd=>Q 3<|bP j 0 Z [I 0,I (max (x.lo.natAbs:Int) (x.hi.natAbs:Int))] λ_ c=>bX 2 Z<|⟨(0,(max (x.lo.natAbs:Int) (x.hi.natAbs:Int)),true),bR,c,Vc,pM⟩) λd=>GC j 7 [3,3,4]<|cS (CX x.lo x.hi o.arg j.ao) λ_ c=>je<|sT c 0 0 (I (bk x.lo o.arg)) [I (bk x.lo o.arg)] #[I (bk x.lo o.arg),I 0] sizeOf3 λ_ c=>bf<|sT c 0 1 (I (bk x.hi o.arg)) [I (bk x.hi o.arg)] #[I (bk x.lo o.arg),I (bk x.hi o.arg)] sizeOf3 λ_ c=>bX 2 Z<|⟨((bk x.lo o.arg),(bk x.hi o.arg),true),bR,c,Vy,pM⟩
def tu{two:Bool}{o:fJ}{l:List fJ}{h:Int}(e:fL two (o::l) h=0):¬ur two o h/\nM o/\fL two l (h+(1-bA o.code))=0:=by
 grind[fL]
def lJ{l:List fJ}{two:Bool}(h:cH l two=0):fL two l 0=0/\0<l.length/\l.length<=32:=by
 grind[cH]
def Fi(o:fJ)(st:List Sp):Sp:=if bA o.code=2 then st[st.length-1]?.getD (⟨0,0⟩:Sp) else⟨0,0⟩
def Jv(o:fJ)(st:List Sp):Sp:=if 0<bA o.code then st[st.length-(bA o.code).toNat]?.getD (⟨0,0⟩:Sp) else⟨0,0⟩
def kL(a b:Int):List fJ->List Sp->Option (List Sp)
 |[],st=>some st
 |o::l,st=>if fx o (Jv o st) (Fi o st) a b then kL a b l (st.take (st.length-(bA o.code).toNat)++[eb o (Jv o st) (Fi o st) a b]) else none
def fI(l:List fJ)(a b:Int):Int×Int×Int:=
 if cH l true=0 then(if(1<=a/\a<=4294967296)/\1<=b/\b<=4294967296 then(match kL a b l [] with|some st=>((st[0]?.getD (⟨0,0⟩:Sp)).lo,(st[0]?.getD (⟨0,0⟩:Sp)).hi,0)|none=>(0,0,11)) else(0,0,2)) else(0,0,cH l true)
def J7{o:fJ}{l:List fJ}{st m:List Sp}{x y:Sp}(hy:Fi o st=y)(hx:Jv o st=x)(c:fx o x y a b)(c:m=st.take (st.length-(bA o.code).toNat)):kL a b (o::l) st=kL a b l (m++[eb o x y a b]):=by
 grind[kL]
def OU{o:fJ}{l:List fJ}{st:List Sp}{x y:Sp}(hy:Fi o st=y)(hx:Jv o st=x)(c:¬fx o x y a b):kL a b (o::l) st=none:=by
 grind[kL]
def de(l:List fJ)(two:Bool)(a b out:Int):Int:=if cH l two=0 then(if 1<=out/\out<=4294967296 then(fI l a (if two=true then b else 1)).2.2 else 2) else cH l two
def vg(f:cf)(nx d:Nat)(x:List fJ)(a:Int)(b:Int)(hx:bl gA 2 [H] f nx d x)(g:X W w (H::F)):
 Ro prog 293 #[.slice f nx d,I a,I b] (.tuple #[I ((fI x a b).1),I ((fI x a b).2.1),I ((fI x a b).2.2)]) W w (H::F):=by
 have c:=hx.ll;refine aq 92 func293 Z<|Q 11<|cS (AM f nx d x true (hx.fl 0) g.ao) λ_ d=>JO 9<|CN (cH x true) 0 (λc=>RC 10 [I 0,I 0,I (cH x true)]<|⟨wj,d⟩) λc=>Q 6<|cS (lp a d.ao) λ_ d=>cG<|zD 25 ((1:Int)<=a/\a<=(4294967296:Int)) (λc=>RO 16 [I 0,I 0,I 2]<|⟨wj,d⟩) λc=>bf<|gY<|cS (lp b d.ao) λ_ d=>JO 4<|pk ((1:Int)<=b/\b<=(4294967296:Int)) (λc=>RC 9 [I 0,I 0,I 2]<|⟨wj,d⟩) λc=>Q 9 ?_;obtain⟨c,c,c⟩:=lJ (l:=x) (two:=true) Y;refine Q 5<|bF [0,1,2] (γ:=Nat×(List Sp)×SO) (λ⟨i,r,B,p,v,c⟩ R=>⟨[(11,I i),(10,.slice B p v)],c::R,nx-i,i<=nx/\(kL a b x []=kL a b (x.drop i) r)/\(fL true (x.drop i) (r.length:Int)=0)/\(∀z∈r,j7 z)/\(r.length<=i)/\aF rA 374 2 B p v r c⟩) (0,[],none,0,0,[]) ⟨(X.bU d),Y,by rfl,(lJ (l:=x) (two:=true) Y).1,pG,by simp,(aF.nil (enc:=rA) (E:=374) (sz:=2) fR)⟩ ?_;rintro⟨i,r,B,p,v,c⟩ V _⟨n,c,L,o,M,c,J⟩;have c:=J.ll;refine Q 9<|CD ((i:Int)<nx) (λq=>Q 6<|(by have hh:fL true (x.drop i) r.length=0:=o;rw[acO Y] at hh;have c:r.length=1:=NX;obtain⟨g,c,c,j,d,f,c⟩:=aF.elem J 0;change _[0]?=_ at j;change na _ _ (_+0*_) _ at d;change nJ _ _ _ _ _ (_+0*_) at f;have c:j7 g:=M g (ab8 j);refine bJ n [] (fq 3 0 (d.up 0 Z)<|fq 7 1 (d.up 0 Z)<|fn) [0,1,2,4,5,6,3,8,7,9,10] λ_ c=>wV 1<|wI f<|wV 2<|wI f<|wV 1<|wL 0<|wV 1<|wL 1<|wV 2<|wN<|RX 2 [I g.lo,I g.hi,I 0] ?_;have d:=(c.aj 0 Z);have D:cH x true=0:=(by omega);have G:fI x a b=(match kL a b x [] with|some st=>((st[0]?.getD (⟨0,0⟩:Sp)).lo,(st[0]?.getD (⟨0,0⟩:Sp)).hi,0)|none=>(0,0,11)):=(by unfold fI;rw[aca D,aca Y]);have R0:kL a b x []=some r:=(by rw[L,acO Y];rfl);have c:r[0]?=some g:=j;exact⟨by rw[G,R0];dsimp only;rw[c];rfl,d⟩)) λq=>?_;refine Q 8<|kQ hx i λj _ _ C h1=>?_;obtain⟨d,c,N⟩:=tu (by rw[<-dZ C];exact o);have c:=kC j.code;have c:bA j.code<=r.length:=by unfold ur at d;omega
 refine bf<|eB n (h1.up 1 Z) 0 (I j.code)<|cS (pf j.code n.ao) λ_ d=>have c:0<=(bA j.code)/\(bA j.code)<=2:=kC _;JO 7<|aI d zeroValue374 λs _ c=>aI c zeroValue374 λq _ c=>bP c 1 Z [I 0,I 0] λ_ c=>bP c 0 Z [I 0,I 0] λ_ g=>JO 2<|eQ g 1 [0,1,2,11,10,12,13,14] (γ:=Sp) (λo R=>⟨[],aW q #[I o.lo,I o.hi] 374::R,0,Fi j r=o/\j7 o⟩) ?_ ?_
 ·exact Q 6<|CE (bA j.code) 2 (λc=>lq 1 Z<|⟨(⟨0,0⟩:Sp),bR,g,(by unfold Fi;rw[ab9 Y]),(by unfold j7;exact rD)⟩) λc=>Q 4<|dP (p:Int) 1<|i9 J ((p:Int)-1) ((p:Int)-1).toNat λd _ _ f c _=>(by have n:j7 d:=M d (ab8 f);exact lv g (c.up 2 Z) 0 [I d.lo,I d.hi]<|bP g 0 Z [I d.lo,I d.hi] λ_ c=>bX 1 Z<|⟨d,bR,c,(by unfold Fi;rw[aca Y];have e:=f;rw[(by omega:r.length-1=((p:Int)-1).toNat),e]<;>rfl),n⟩)
 rintro o V _⟨h0,K,c⟩;refine eQ h0 2 [0,1,2,11,10,12,13,14] (γ:=Sp) (λn R=>⟨[],aW q #[I o.lo,I o.hi] 374::aW s #[I n.lo,I n.hi] 374::R,0,Jv j r=n/\j7 n⟩) ?_ ?_
 ·exact Q 6<|CD ((bA j.code)>0) (λc=>lq 1 Z<|⟨(⟨0,0⟩:Sp),bR,h0,(by unfold Jv;rw[ab9 Y]),(by unfold j7;exact rD)⟩) λc=>Q 5<|dP (p:Int) (bA j.code)<|i9 J ((p:Int)-(bA j.code)) ((p:Int)-(bA j.code)).toNat λd _ _ f c _=>(by have g:j7 d:=M d (ab8 f);exact lv h0 (c.up 2 Z) 0 [I d.lo,I d.hi]<|bP h0 1 Z [I d.lo,I d.hi] λ_ c=>bX 1 Z<|⟨d,bR,c,(by unfold Jv;rw[aca Y];have e:=f;rw[(by omega:r.length-(bA j.code).toNat=((p:Int)-(bA j.code)).toNat),e]<;>rfl),g⟩)
 rintro n V _⟨f,A,c⟩;refine Q 1 ?_;obtain⟨d,c,c,c,u,g⟩:=bl.eN hx i;obtain rfl:j=d:=ace (C.symm.trans c);refine kA f [8,12,13] (fp 3 (u.up 3 Z)<|fb 4 1 0 2<|fb 5 0 0 2<|fn) (pS [0,1,2,6,7,3,4,5]<| .fk 8 12 (pS [9,10,11]<| .ef 12<| .ef 13<|pS [14]<| .fin) (.ef 8<|pS [9,10,11]<| .ef 13<|pS [14]<| .fin)) λ_ w0=>qV 2<|qI g<|qV 2<|qG 0 2<|qG 2 2<|qG 4 2<|qF ?_ ?_
 ·refine qO Z<|cS (ED j n o a b IW IW Y ‹_› w0.ao) λ_ c=>nA<|qV 1<|qV 1<|qV 1<|qO Z<|aI c zeroValue374 λ_ _ c=>nA<|qO Z<|bP c 0 Z [I ((eb j n o a b).lo),I ((eb j n o a b).hi)] λ_ c=>nA<|qV 1<|qN<|JX 8<|pk (fx j n o a b) (λs=>RC 14 [I 0,I 0,I 11]<|Zh) λs=>?_;refine Q 2<|bJ c [7,8] (fb 6 0 0 2<|fn) [0,1,2,3,4,5,6,7,8,9] λ_ c=>wV 4<|vY (p:Int) (bA j.code)<|wY (.slice (bZ B v 0 2) (((p:Int)-(bA j.code)).toNat-0) (v-0)) Z (λw _=>TQ)<|wG 0 2<|wO Z<|ec c #[I ((eb j n o a b).lo),I ((eb j n o a b).hi)] 374 λ_ _ c=>nA<|wO Z<|dM (nb:=16) c (J.part (lo:=0) (hi:=((p:Int)-(bA j.code)).toNat) Y Y) 4 (bl.dO (enc:=rA) (sz:=2) (xs:=[(⟨(eb j n o a b).lo,(eb j n o a b).hi⟩:Sp)]) fR 1 0 Z Z Z Y) underlying372 (i:=Tryz.t374) kr fR λc g f _ q d=>nA<|wV 1<|wN<|JX 4<|aU (i:Int) 1<|bX 2 Z ?_
  exact⟨(i+1,(((r.drop 0).take (((p:Int)-(bA j.code)).toNat-0))++[(⟨(eb j n o a b).lo,(eb j n o a b).hi⟩:Sp)]),c,((((p:Int)-(bA j.code)).toNat-0)+1),g,f),od,bR,(d.ap [0,0,0,0]),Y,by rw[L,dZ C,J7 (x:=n) (y:=o) K A ‹_› (m:=((r.drop 0).take (((p:Int)-(bA j.code)).toNat-0))) Ep]<;>rfl,by simp only[acm,ac5,adS,acu,acX];rw[show((min _ _+(0+1):Nat):Int)=(r.length:Int)+(1-bA j.code) from by omega];exact N,(by
   intro z hz;rcases acn.1 hz with h|h
   ·exact M z (acM (acL h))
   ·simp only[ack] at h;subst h;exact⟨s.2.1,s.2.2⟩),by simp;omega,q⟩
 refine qO Z<|aI w0 zeroValue374 λ_ _ c=>er ⟨⟨.inr ((u.up 4 Z).cell c (k:=0) Z),.inr ((u.up 4 Z).cell c (k:=1) Z),cI c 2,cI c 2,cI c 1,cI c 1,trivial⟩,?_⟩;refine qO Z<|cS (ED j n o a b IW IW Y ‹_› c.ao) λ_ c=>nA<|qV 1<|qV 1<|qV 1<|qO Z<|bP c 0 Z [I ((eb j n o a b).lo),I ((eb j n o a b).hi)] λ_ c=>nA<|qV 1<|qN<|JX 8<|pk (fx j n o a b) (λs=>RC 14 [I 0,I 0,I 11]<|Zh) λs=>Q 2<|bJ c [7,8] (fb 6 0 0 2<|fn) [0,1,2,3,4,5,6,7,8,9] λ_ c=>wV 4<|vY (p:Int) (bA j.code)<|wY (.slice (bZ B v 0 2) (((p:Int)-(bA j.code)).toNat-0) (v-0)) Z (λw _=>TQ)<|wG 0 2<|wO Z<|ec c #[I ((eb j n o a b).lo),I ((eb j n o a b).hi)] 374 λ_ _ c=>nA<|wO Z<|dM (nb:=16) c (J.part (lo:=0) (hi:=((p:Int)-(bA j.code)).toNat) Y Y) 4 (bl.dO (enc:=rA) (sz:=2) (xs:=[(⟨(eb j n o a b).lo,(eb j n o a b).hi⟩:Sp)]) fR 1 0 Z Z Z Y) underlying372 (i:=Tryz.t374) kr fR λc g f _ q d=>nA<|wV 1<|wN<|JX 4<|aU (i:Int) 1<|bX 2 Z ?_
 exact⟨(i+1,(((r.drop 0).take (((p:Int)-(bA j.code)).toNat-0))++[(⟨(eb j n o a b).lo,(eb j n o a b).hi⟩:Sp)]),c,((((p:Int)-(bA j.code)).toNat-0)+1),g,f),od,bR,(d.ap [0,0,0,0]),Y,by rw[L,dZ C,J7 (x:=n) (y:=o) K A ‹_› (m:=((r.drop 0).take (((p:Int)-(bA j.code)).toNat-0))) Ep]<;>rfl,by simp only[acm,ac5,adS,acu,acX];rw[show((min _ _+(0+1):Nat):Int)=(r.length:Int)+(1-bA j.code) from by omega];exact N,(by
  intro z hz;rcases acn.1 hz with h|h
  ·exact M z (acM (acL h))
  ·simp only[ack] at h;subst h;exact⟨s.2.1,s.2.2⟩),by simp;omega,q⟩
def LN(h:cf)(nx g:Nat)(x:List fJ)(two:Bool)(a:Int)(b:Int)(out:Int)(hx:bl gA 2 [H] h nx g x)(d:X W w (H::F)):
 Ro prog 249 #[.slice h nx g,.bool two,I a,I b,I out] (I (de x two a b out)) W w (H::F):=by
 let h0:=hx.ll;exact aq 35 func249 Z<|Q 10<|cS (AM h nx g x two (hx.fl 0) d.ao) λ_ d=>JO 9<|CN (cH x two) 0 (λe=>RC 8 [I (cH x two)]<|⟨acd (λc=>Ending.returned (I c)) (by unfold de;(repeat' split)<;>first|rfl|omega|contradiction|(exfalso;omega)|(exfalso;simp_all;done)|(simp_all;done)),d⟩) λe=>Q 6<|cS (lp out d.ao) λ_ f=>JO 3<|pk ((1:Int)<=out/\out<=(4294967296:Int)) (λd=>RC 7 [I 2]<|⟨acd (λc=>Ending.returned (I c)) (by unfold de;(repeat' split)<;>first|rfl|omega|contradiction|(exfalso;omega)|(exfalso;simp_all;done)|(simp_all;done)),f⟩) λd=>Q 9<|UX two (λe=>Q 7<|cS (vg h nx g x a b (hx.fl 0) f.ao) λ_ d=>RO 16 [I ((fI x a b).2.2)]<|⟨acd (λc=>Ending.returned (I c)) (by unfold de;(repeat' split)<;>first|rfl|omega|contradiction|(exfalso;omega)|(exfalso;simp_all;done)|(simp_all;done)),d⟩) λe=>Q 9<|cS (vg h nx g x a 1 (hx.fl 0) f.ao) λ_ d=>RO 16 [I ((fI x a 1).2.2)]<|⟨acd (λc=>Ending.returned (I c)) (by unfold de;(repeat' split)<;>first|rfl|omega|contradiction|(exfalso;omega)|(exfalso;simp_all;done)|(simp_all;done)),d⟩
end
section
variable{W w:World}{H:af}{F:cj}
def fY(s:bc):Prop:=s.aB=6/\¬s.b=-1
instance (s:bc):Decidable (fY s):=by unfold fY;infer_instance
def mK(s:aY):Prop:=1<=s.w/\s.w<=128/\1<=s.h/\s.h<=128/\s.w*s.h<=4096/\1<=s.aG/\s.aG<=4294967296
instance (s:aY):Decidable (mK s):=by unfold mK;infer_instance
def aT(q:bc)(s t:aY):aY×Int:=
 if q.aB=1 then(⟨s.w,s.h,q.aG⟩,eh s.aG q.kW q.kH q.ad q.shift q.aG)
 else if q.aB=2 then(⟨s.w,s.h,q.aG⟩,eJ s.aG q.row q.dG q.shift q.ed q.aG)
 else if q.aB=3 then(⟨q.x.length,q.y.length,q.aG⟩,cM s.w s.h s.aG q.x q.y q.shift q.ed q.aG)
 else if q.aB=4 then(if 1<=q.cb/\q.cb<=128 then(⟨q.cb,1,s.w*s.h⟩,0) else(⟨s.w,s.h,q.aG⟩,9))
 else if q.aB=5 then(if gj s.w s.h s.aG=true then(⟨s.w,s.h,fz s.w s.h s.aG⟩,0) else(⟨s.w,s.h,q.aG⟩,11))
 else if de q.ops (decide (q.aB=6/\¬q.b=-1)) s.aG t.aG q.aG=0 then(if(q.aB=6/\¬q.b=-1)/\¬(s.w=t.w/\s.h=t.h) then(⟨s.w,s.h,q.aG⟩,8) else(⟨s.w,s.h,q.aG⟩,0))
 else(⟨s.w,s.h,q.aG⟩,de q.ops (decide (q.aB=6/\¬q.b=-1)) s.aG t.aG q.aG)
def FP(q:bc)(m:Int):Prop:=(q.aS=3/\0<=q.bz/\q.bz<=m)\/(0<=q.aS/\q.aS<3/\q.bz=0)
instance (q:bc)(m:Int):Decidable (FP q m):=by unfold FP;infer_instance
def fK(q:bc)(s t:aY):aY×Int:=
 if dD q then(if mK s/\(¬fY q\/mK t) then(if ¬(q.aB=1\/q.aB=2\/q.aB=3)\/FP q s.aG then(if(aT q s t).2=0 then((aT q s t).1,0) else(⟨0,0,0⟩,(aT q s t).2)) else(⟨0,0,0⟩,1)) else(⟨0,0,0⟩,2)) else(⟨0,0,0⟩,1)
def pC(q:aA)(s:aY)(t:aY)(h:aA.Ok [H] q)(g:mK s)(f:X W w (H::F)):
 Ro prog 201 #[.agg (aL q).toArray,.agg #[I s.w,I s.h,I s.aG],.agg #[I t.w,I t.h,I t.aG]] (.tuple #[.agg #[I ((aT q.v s t).1.w),I ((aT q.v s t).1.h),I ((aT q.v s t).1.aG)],I ((aT q.v s t).2)]) W w (H::F):=by
 let c:=h.ad.ll;let c:=h.row.ll;let c:=h.dG.ll;let c:=h.x.le;have d:=h.x.len;let c:=h.y.le;have e:=h.y.len;let c:=h.ops.ll;have k:(q.x.l.map bL.v).length=q.x.n:=by simp[d]
 have j:(q.y.l.map bL.v).length=q.y.n:=by simp[e]
 refine aq 140 func201 Z<|Q 2<|eD f (aL q) λ_ _ w0=>eD w0 [I s.w,I s.h,I s.aG] λ_ _ c=>eD c [I t.w,I t.h,I t.aG] λ_ _ c=>aI c zeroValue109 λ_ _ d=>JO 4 ?_;let c:=g;unfold mK at c;let c:=el (a:=s.w) (b:=s.h) (A:=128) (B:=128) Y Y;refine GC d 8 [2,2,3]<|aI d zeroValue109 λ_ _ c=>bP c 0 Z [I s.w,I s.h,I q.aG] λ_ i=>GO i 16 [4]<|cE q.aB 1 (λd=>Q 1<|bJ i [13,14] (fb 0 0 0 3<|fb 2 3 2 1<|fb 4 4 6 1<|fb 6 4 7 1<|fb 8 4 8 1<|fb 10 4 11 1<|fb 12 4 17 1<|fn) [1,3,5,7,9,11,0,2,4,6,8,10,12,13,14,15] λ_ c=>wV 6<|wG 0 3<|wL 3<|wL 4<|wL 5<|wL 6<|wL 7<|wL 8<|wO Z<|cS (Ov s.aG q.kW q.kH q.ad.a q.ad.n q.ad.k q.ad.l q.shift q.aG (h.ad.fl 5) c.ao) λ_ c=>nZ c [0]<|wO Z<|bP c 1 Z [I s.w,I s.h,I q.aG] λ_ h0=>nA<|wV 1<|wN<|DX 4 h0 1 [I s.w,I s.h,I q.aG] (I (eh s.aG q.kW q.kH q.ad.l q.shift q.aG))<|(by let c:=(h0.ap [0,0,0,0,0]);let g:aT q.v s t=((⟨s.w,s.h,q.aG⟩:aY),(eh s.aG q.kW q.kH q.ad.l q.shift q.aG)):=(by unfold aT;rw[aca iE]<;>rfl);exact⟨by rw[g];rfl,c⟩)) λd=>?_;refine Q 6<|cE q.aB 2 (λe=>Q 1<|bJ i [13,14] (fb 0 0 0 3<|fb 2 3 2 1<|fb 4 4 9 1<|fb 6 4 10 1<|fb 8 4 11 1<|fb 10 4 12 1<|fb 12 4 17 1<|fn) [1,3,5,7,9,11,0,2,4,6,8,10,12,13,14,15] λ_ c=>wV 6<|wG 0 3<|wL 3<|wL 4<|wL 5<|wL 6<|wL 7<|wL 8<|wO Z<|cS (LV s.aG q.row.a q.row.n q.row.k q.row.l q.dG.a q.dG.n q.dG.k q.dG.l q.shift q.ed q.aG (h.row.fl 5) (h.dG.fl 5) c.ao) λ_ c=>nZ c [0]<|wO Z<|bP c 1 Z [I s.w,I s.h,I q.aG] λ_ c=>nA<|wV 1<|wN<|DX 4 c 1 [I s.w,I s.h,I q.aG] (I (eJ s.aG q.row.l q.dG.l q.shift q.ed q.aG))<|(by have d:=(c.ap [0,0,0,0,0]);let g:aT q.v s t=((⟨s.w,s.h,q.aG⟩:aY),(eJ s.aG q.row.l q.dG.l q.shift q.ed q.aG)):=(by unfold aT;rw[ab9 iE,aca iE]<;>rfl);exact yY)) λe=>?_;refine Q 6<|cE q.aB 3 (λe=>Q 1<|bJ i [20,21] (fb 1 4 13 1<|fb 4 4 14 1<|fb 7 4 17 1<|fb 9 3 0 3<|fb 11 4 13 1<|fb 13 4 14 1<|fb 15 4 11 1<|fb 17 4 12 1<|fb 19 4 17 1<|fn) [0,3,6,10,12,14,16,18,1,2,4,5,7,8,9,11,13,15,17,19,20,21,22] λ_ h1=>wV 8<|wL 0<|wV 1<|wL 1<|wV 1<|wL 2<|wV 1<|wG 3 3<|wL 6<|wL 7<|wL 8<|wL 9<|wL 10<|wO Z<|cS (KC s q.x.a q.x.n q.x.k q.x.l q.y.a q.y.n q.y.k q.y.l q.shift q.ed q.aG (h.x.fl 5) (λz hz=>(h.xD z hz).ag (mF 5)) (h.y.fl 5) (λz hz=>(h.yD z hz).ag (mF 5)) h1.ao) λ_ c=>nZ c [4,4,4]<|wO Z<|bP c 1 Z [I q.x.n,I q.y.n,I q.aG] λ_ c=>nA<|wV 1<|wN<|DX 4 c 1 [I q.x.n,I q.y.n,I q.aG] (I (cM s.w s.h s.aG (q.x.l.map bL.v) (q.y.l.map bL.v) q.shift q.ed q.aG))<|(by have d:=(c.ap [0,0,0,0,0]);let g:aT q.v s t=((⟨(q.x.n:Int),(q.y.n:Int),q.aG⟩:aY),(cM s.w s.h s.aG (q.x.l.map bL.v) (q.y.l.map bL.v) q.shift q.ed q.aG)):=(by unfold aT;rw[ab9 iE,ab9 iE,aca iE]<;>simp only[aA.v,k,j]);exact yY)) λe=>Q 6<|cE q.aB 4 (λj=>GC i 5 [4]<|cS (PN q.cb i.ao) λ_ d=>JO 3<|pk ((1:Int)<=q.cb/\q.cb<=(128:Int)) (λf=>GC d 3 [300]<|bP d 1 Z [I s.w,I s.h,I q.aG] λ_ c=>DO 7 c 1 [I s.w,I s.h,I q.aG] (I 9)<|(by have e:=(c.ap [0,0,0,0,0]);let g:aT q.v s t=((⟨s.w,s.h,q.aG⟩:aY),9):=(by unfold aT;rw[ab9 iE,ab9 iE,ab9 iE,aca iE,ab9 iE]<;>rfl);exact Gr)) λf=>GC d 10 [4,3,3]<|ei s.w s.h<|bf<|bP d 1 Z [I q.cb,I 1,I (s.w*s.h)] λ_ c=>DO 6 c 1 [I q.cb,I 1,I (s.w*s.h)] (I 0)<|(by have d:=(c.ap [0,0,0,0,0]);let g:aT q.v s t=((⟨q.cb,1,(s.w*s.h)⟩:aY),0):=(by unfold aT;rw[ab9 iE,ab9 iE,ab9 iE,aca iE,aca iE]<;>rfl);exact yY)) λj=>?_;refine Q 6<|cE q.aB 5 (λj=>GC i 3 [303]<|cS (OL s i.ao) λ_ d=>JO 14<|uP (gj s.w s.h s.aG) (λf=>GC d 3 [300]<|bP d 1 Z [I s.w,I s.h,I q.aG] λ_ c=>DO 7 c 1 [I s.w,I s.h,I q.aG] (I 11)<|(by have e:=(c.ap [0,0,0,0,0]);let g:aT q.v s t=((⟨s.w,s.h,q.aG⟩:aY),11):=(by unfold aT;rw[ab9 iE,ab9 iE,ab9 iE,ab9 iE,aca iE,ab9 ‹_›]<;>rfl);exact Gr)) λf=>GC d 10 [3,3]<|bP d 1 Z [I s.w,I s.h,I (fz s.w s.h s.aG)] λ_ c=>DO 6 c 1 [I s.w,I s.h,I (fz s.w s.h s.aG)] (I 0)<|(by have d:=(c.ap [0,0,0,0,0]);let g:aT q.v s t=((⟨s.w,s.h,(fz s.w s.h s.aG)⟩:aY),0):=(by unfold aT;rw[ab9 iE,ab9 iE,ab9 iE,ab9 iE,aca iE,aca ‹_›]<;>rfl);exact yY)) λj=>?_;refine Q 5<|bJ i [3,10] (fb 1 4 16 1<|fb 2 4 0 18<|fb 5 3 2 1<|fb 7 2 2 1<|fb 9 4 17 1<|fn) [0,4,6,8,1,2,5,7,9,3,10,11] λ_ c=>wV 4<|wL 0<|wG 1 18<|wL 19<|wL 20<|wL 21<|wO Z<|cS (ub q (h.ag (mF 5)) c.ao) λ_ c=>nZ c [4,3,2,4]<|wO Z<|cS (LN q.ops.a q.ops.n q.ops.k q.ops.l (decide (q.aB=6/\¬q.b=-1)) s.aG t.aG q.aG (h.ops.fl 5) c.ao) λ_ d=>nA<|wV 1<|wN<|JX 7<|CN (de q.ops.l (decide (q.aB=6/\¬q.b=-1)) s.aG t.aG q.aG) 0 (λf=>GC d 4 [300]<|bP d 1 Z [I s.w,I s.h,I q.aG] λ_ c=>DO 5 c 1 [I s.w,I s.h,I q.aG] (I (de q.ops.l (decide (q.aB=6/\¬q.b=-1)) s.aG t.aG q.aG))<|(by have e:=(c.ap [0,0,0,0,0]);let g:aT q.v s t=((⟨s.w,s.h,q.aG⟩:aY),(de q.ops.l (decide (q.aB=6/\¬q.b=-1)) s.aG t.aG q.aG)):=(by unfold aT;rw[ab9 iE,ab9 iE,ab9 iE,ab9 iE,ab9 iE,ab9 ‹_›]<;>rfl);exact Gr)) λf=>?_;exact GC d 6 [1804]<|cS (ub q (h.ag (mF 5)) d.ao) λ_ d=>bf<|SD 124 (q.aB=6/\¬q.b=-1) (λf=>GO d 21 [300]<|bP d 1 Z [I s.w,I s.h,I q.aG] λ_ c=>DO 4 c 1 [I s.w,I s.h,I q.aG] (I 0)<|(by have e:=(c.ap [0,0,0,0,0]);let g:aT q.v s t=((⟨s.w,s.h,q.aG⟩:aY),0):=VB;exact Gr)) λf=>GO d 6 [3,2]<|SN 130 s.w t.w (λf=>GO d 13 [300]<|UC) λf=>GO d 9 [3,2]<|CN s.h t.h (λf=>GC d 3 [300]<|UC) λf=>GC d 5 [300]<|bP d 1 Z [I s.w,I s.h,I q.aG] λ_ c=>DO 4 c 1 [I s.w,I s.h,I q.aG] (I 0)<|(by have d:=(c.ap [0,0,0,0,0]);let g:aT q.v s t=((⟨s.w,s.h,q.aG⟩:aY),0):=VB;exact yY)
def Nk(q:aA)(s:aY)(t:aY)(g:aA.Ok [H] q)(b:X W w (H::F)):
 Ro prog 142 #[.agg (aL q).toArray,.agg #[I s.w,I s.h,I s.aG],.agg #[I t.w,I t.h,I t.aG]] (.tuple #[.agg #[I ((fK q.v s t).1.w),I ((fK q.v s t).1.h),I ((fK q.v s t).1.aG)],I ((fK q.v s t).2)]) W w (H::F):=by
 let a:=g.ad.ll;let a:=g.row.ll;let a:=g.dG.ll;let a:=g.x.ll;let a:=g.y.ll;let a:=g.ops.ll;refine aq 54 func142 Z<|Q 2<|eD b (aL q) λ_ _ a=>eD a [I s.w,I s.h,I s.aG] λ_ _ a=>eD a [I t.w,I t.h,I t.aG] λ_ _ a=>aI a zeroValue109 λ_ _ a=>GO a 8 [1803]<|cS (GZ q (g.ag (mF 4)) a.ao) λ_ c=>JO 4<|pk (dD q.v) (λd=>Q 3<|bP c 0 Z [I 0,I 0,I 0] λ_ a=>DO 6 a 0 [I 0,I 0,I 0] (I 1)<|(by let b:=(a.ap [0,0,0,0]);let f:fK q.v s t=((⟨0,0,0⟩:aY),1):=(by unfold fK;rw[ab9 ‹_›]);exact tT)) λd=>GC c 3 [302]<|cS (Bg s c.ao) λ_ c=>cG<|zD 19 ((1:Int)<=s.w/\s.w<=(128:Int)/\(1:Int)<=s.h/\s.h<=(128:Int)/\s.w*s.h<=(4096:Int)/\(1:Int)<=s.aG/\s.aG<=(4294967296:Int)) (λd=>JO 15<|bP c 0 Z [I 0,I 0,I 0] λ_ a=>DO 6 a 0 [I 0,I 0,I 0] (I 2)<|Wg) λd=>GO c 1 [1803]<|gY<|cS (ub q (g.ag (mF 4)) c.ao) λ_ i=>bf<|sD 22 (q.aB=6/\¬q.b=-1) (λh1=>?_) (λh1=>?_);rotate_left
 ·refine GO i 13 [3]<|cS (sf q.aB i.ao) λ_ e=>bf<|SD 33 (q.aB=1\/q.aB=2\/q.aB=3) (λh=>GO e 19 [1803,302,301]<|cS (pC q s t (g.ag (mF 4)) J9 e.ao) λ_ a=>Un) λh=>?_;exact GO e 4 [203,2]<|gY<|cS (EF (⟨q.aS,q.bz⟩:Edge) s.aG e.ao) λ_ c=>JO 5<|pk (((⟨q.aS,q.bz⟩:Edge).aJ=3/\0<=(⟨q.aS,q.bz⟩:Edge).fill/\(⟨q.aS,q.bz⟩:Edge).fill<=s.aG)\/(0<=(⟨q.aS,q.bz⟩:Edge).aJ/\(⟨q.aS,q.bz⟩:Edge).aJ<3/\(⟨q.aS,q.bz⟩:Edge).fill=0)) (λd=>Q 3<|bP c 0 Z [I 0,I 0,I 0] λ_ a=>DO 6 a 0 [I 0,I 0,I 0] (I 1)<|Wk) λd=>GC c 8 [1803,302,301]<|cS (pC q s t (g.ag (mF 4)) J9 c.ao) λ_ a=>gw<|aI a zeroValue109 λ_ _ a=>bP a 0 Z [I ((aT q.v s t).1.w),I ((aT q.v s t).1.h),I ((aT q.v s t).1.aG)] λ_ h0=>JO 10<|CN ((aT q.v s t).2) 0 (λc=>Q 4<|bP h0 1 Z [I 0,I 0,I 0] λ_ a=>DO 5 a 1 [I 0,I 0,I 0] (I ((aT q.v s t).2))<|(by let b:=(a.ap [0,0,0,0,0]);let f:fK q.v s t=((⟨0,0,0⟩:aY),(aT q.v s t).2):=(by unfold fK;rw[aca ‹_›,aca yN,aca Fv,ab9 ‹_›]);exact tT)) λc=>GC h0 5 [300]<|bP h0 1 Z [I ((aT q.v s t).1.w),I ((aT q.v s t).1.h),I ((aT q.v s t).1.aG)] λ_ a=>DO 4 a 1 [I ((aT q.v s t).1.w),I ((aT q.v s t).1.h),I ((aT q.v s t).1.aG)] (I 0)<|UG
 refine GO i 1 [301]<|gY<|cS (Bg t i.ao) λ_ c=>JO 6<|pk ((1:Int)<=t.w/\t.w<=(128:Int)/\(1:Int)<=t.h/\t.h<=(128:Int)/\t.w*t.h<=(4096:Int)/\(1:Int)<=t.aG/\t.aG<=(4294967296:Int)) (λd=>Q 3<|bP c 0 Z [I 0,I 0,I 0] λ_ a=>DO 6 a 0 [I 0,I 0,I 0] (I 2)<|Wg) λd=>GC c 4 [3]<|cS (sf q.aB c.ao) λ_ e=>bf<|SD 33 (q.aB=1\/q.aB=2\/q.aB=3) (λh=>GO e 19 [1803,302,301]<|cS (pC q s t (g.ag (mF 4)) J9 e.ao) λ_ a=>gw<|aI a zeroValue109 λ_ _ a=>bP a 0 Z [I ((aT q.v s t).1.w),I ((aT q.v s t).1.h),I ((aT q.v s t).1.aG)] λ_ b=>JO 10<|CN ((aT q.v s t).2) 0 (λd=>Q 4<|bP b 1 Z [I 0,I 0,I 0] λ_ a=>DO 5 a 1 [I 0,I 0,I 0] (I ((aT q.v s t).2))<|Ut) λd=>GC b 5 [300]<|bP b 1 Z [I ((aT q.v s t).1.w),I ((aT q.v s t).1.h),I ((aT q.v s t).1.aG)] λ_ w0=>DO 4 w0 1 [I ((aT q.v s t).1.w),I ((aT q.v s t).1.h),I ((aT q.v s t).1.aG)] (I 0)<|(by let a:=(w0.ap [0,0,0,0,0]);let f:fK q.v s t=((aT q.v s t).1,0):=(by unfold fK;rw[aca ‹_›,aca yN,aca Fv,aca ‹_›]);exact⟨by rw[f];rfl,a⟩)) λh=>?_;exact GO e 4 [203,2]<|gY<|cS (EF (⟨q.aS,q.bz⟩:Edge) s.aG e.ao) λ_ c=>JO 5<|pk (((⟨q.aS,q.bz⟩:Edge).aJ=3/\0<=(⟨q.aS,q.bz⟩:Edge).fill/\(⟨q.aS,q.bz⟩:Edge).fill<=s.aG)\/(0<=(⟨q.aS,q.bz⟩:Edge).aJ/\(⟨q.aS,q.bz⟩:Edge).aJ<3/\(⟨q.aS,q.bz⟩:Edge).fill=0)) (λd=>Q 3<|bP c 0 Z [I 0,I 0,I 0] λ_ a=>DO 6 a 0 [I 0,I 0,I 0] (I 1)<|Wk) λd=>GC c 8 [1803,302,301]<|cS (pC q s t (g.ag (mF 4)) J9 c.ao) λ_ a=>Un
end
end Go.Proofs.YtmfebppagcejcaaGreat
