import Derived.Test.YtmfebppagcejcaaGreatMWYXDAGQ1SpoilJ
set_option linter.all false
namespace Go.Proofs.YtmfebppagcejcaaGreat
open Go Go.E Go.Proofs.Tryz
set_option maxRecDepth 100000
set_option maxHeartbeats 2000000
section
variable{W w:World}{H:af}{F:cj}
def Qw(p:Nat)(S:AS)(M:af):Prop:=∃(a:cf) (n k:Nat) (c:af),M=(aW p #[I S.cap,I S.used,I S.high,.slice a n k] 235)++c/\aF ca 3 1 a n k S.marks c/\S.Wf
def Sq(x:Int)(y:Int)(hx:0<=x/\x<=1048576)(hy:1<=y/\y<=4096)(b:X W w (H::F)):
 Ro prog 260 #[I x,I y] (I (uE x y)) W w (H::F):=by
 obtain⟨a,a,a,a,h0⟩:=zF hx hy;exact aq 22 func260 Z<|Q 11<|sD 8 (x<0) (λa=>RO 13 [I 0]<|lx) λa=>JO 5<|cD (y<1) (λa=>RC 7 [I 0]<|lx) λa=>Q 6<|mE x y<|JO 8<|Dw x y<|JO 3<|cN (x.tmod y) 0 (λa=>RC 9 [I (x.tdiv y)]<|⟨by unfold uE;rw[ab9 Y];rfl,b⟩) λa=>Q 2<|aU (x.tdiv y) 1<|RO 10 [I ((x.tdiv y)+1)]<|⟨by unfold uE;rw[aca Y];rfl,b⟩
def XV{O:cj}(x y z:Int)(hx:0<=x/\x<=1048577)(hy:1<=y/\y<=4096)(hz:0<=z/\z<=1048576)(g:X W w O):
 Calls prog 264 #[I x,I y,I z] w λe b=>(x*y<=z/\e=.returned (.tuple #[I (x*y),.bool true])\/¬(x*y<=z)/\e=.returned (.tuple #[I 0,.bool false]))/\X W b O:=by
 let b:0<=z.tdiv y/\z.tdiv y<=1048576:=by rw[acv hz.1];exact⟨aee hz.1 Y,by let:=ae0 y hz.1;omega⟩
 let d:=RT (c:=x) (a:=y) (l:=z) hx.1 hy.1 hz.1;exact aq 30 func264 Z<|Q 12<|sD 10 (x<0) (λb=>RO 18 [I 0,.bool false]<|I7) λb=>je<|sD 14 (y<0) (λb=>RO 14 [I 0,.bool false]<|I7) λb=>JO 5<|cD (z<0) (λb=>RC 8 [I 0,.bool false]<|I7) λb=>Q 8<|SD 20 (y>0) (λb=>JO 12<|ZP) λb=>gw<|gY<|mE z y<|JO 4<|cD (x>(z.tdiv y)) (λb=>RC 8 [I 0,.bool false]<|I7) λb=>Q 3<|ZP
def Pu{O:cj}(x y z:Int)(hx:0<=x/\x<=1048576)(hy:1<=y/\y<=4096)(hz:0<=z/\z<=1048576)(b:X W w O):
 Calls prog 223 #[I x,I y,I z] w λe a=>(iV x y<=z/\e=.returned (.tuple #[I (iV x y),.bool true])\/¬(iV x y<=z)/\e=.returned (.tuple #[I 0,.bool false]))/\X W a O:=by
 obtain⟨a,a,h0,a,a⟩:=zF hx hy;refine aq 22 func223 Z<|Q 12<|sD 10 (x<0) (λa=>RO 14 [I 0,.bool false]<|lx) λa=>JO 5<|cD (y<1) (λa=>RC 8 [I 0,.bool false]<|lx) λa=>Q 6<|cS (Sq x y od od b.ao) λ_ a=>cG<|cZ (XV (uE x y) y z Y Y Y a) ?_
 rintro _ _⟨⟨a,rfl⟩|⟨a,rfl⟩,b⟩;rotate_left
 ·exact RO 7 [I 0,.bool false]<|⟨.inr ⟨a,rfl⟩,b⟩
 exact RO 7 [I ((uE x y)*y),.bool true]<|⟨.inl ⟨a,rfl⟩,b⟩
variable{p:Nat}{S:AS}
def Td{M:af}(j:Qw p S M)(g:X W w (M::H::F)):
 Calls prog 163 #[Pt p 0] w λe d=>∃b:af,e=.returned (I (if 1024<=S.marks.length then 19 else 0))/\Qw p (mP S) b/\X W d (b::H::F):=by
 obtain⟨a,n,k,c,rfl,l,f⟩:=j;let g:X W _ (aW p #[I S.cap,I S.used,I S.high,.slice a n k] 235::c::H::F):=X.perm g (by simp);let b:=l.ll;let b:=f.c;let b:=f.u;let b:=f.h;exact aq 24 func163 Z<|GC g 26 [0]<|cD ((n:Int)>=1024) (λd=>RC 7 [I 19]<|(by let b:=(g.jB);let he:mP S=S:=(by unfold mP;exact qk);exact⟨_,by rw[aca Y];rfl,by rw[he];exact⟨_,_,_,_,rfl,l,f⟩,b⟩)) λd=>Q 3<|bJ g [9,10,13] (fb 4 0 3 1<|fb 8 0 1 1<|fn) [0,1,2,3,5,6,7,4,8,9,10,11,12,13] λ_ b=>wV 7<|wL 0<|wL 1<|wO Z<|ec b #[I S.used] 3 λ_ _ b=>nZ b [1]<|wO Z<|dM (nb:=8) b l 2 (bl.dO (enc:=ca) (sz:=1) (xs:=[S.used]) fR 1 0 Z Z Z Y) underlying22 (i:=Tryz.t3) kr fR λb d _ _ g h0=>nA<|wV 2<|wO Z<|eX h0 1 Z 3 (.slice b (n+1) d) λ_ d=>nA<|wN<|RX 7 [I 0]<|let b:=(d.aj 0 Z);let d:=(b.jB);let he:mP S={S with marks:=S.marks++[S.used]}:=(by unfold mP;rw[ab9 Y]);⟨_,by rw[ab9 Y];rfl,by rw[he];exact⟨_,_,_,_,rfl,g,⟨f.c,f.u,f.h,by intro x hx;rcases acn.1 hx with h|h;exact f.m x h;rw[ack.1 h];exact⟨f.u.1,f.h.1⟩⟩⟩,d⟩
def NJ{M:af}(f:Qw p S M)(x:Int)(y:Int)(g:X W w (M::H::F)):
 Calls prog 164 #[Pt p 0,I x,I y] w λe d=>∃(b:af) (v:Int),e=.returned (.tuple #[I v,I (oq S x y)])/\Qw p (lL S x y) b/\X W d (b::H::F):=by
 obtain⟨a,n,k,c,rfl,j,i⟩:=f;let g:X W _ (aW p #[I S.cap,I S.used,I S.high,.slice a n k] 235::c::H::F):=X.perm g (by simp);let b:=j.ll;let b:=i.c;let b:=i.u;let b:=i.h;refine aq 70 func164 Z<|Q 22<|sD 14 (x<1) (λd=>RO 22 [I 0,I 2]<|Sk) λd=>je<|sD 18 (x>1048576) (λd=>RO 18 [I 0,I 2]<|Sk) λd=>je<|sD 22 (y<1) (λd=>RO 14 [I 0,I 2]<|Sk) λd=>JO 5<|cD (y>4096) (λh0=>RC 8 [I 0,I 2]<|Sk) λh0=>Q 3<|bJ g [9] (fb 3 0 1 1<|fb 8 0 0 1<|fn) [0,1,2,4,5,6,7,3,8,9,10,11,12,13,14] λ_ d=>wV 7<|wL 0<|wL 1<|wO Z<|let b:=Oq (u:=S.used) (a:=y) Y Y;cZ (Pu S.used y S.cap Y Y Y d) ?_
 rintro _ _⟨⟨b,rfl⟩|⟨b,rfl⟩,f⟩;rotate_left
 ·exact nA<|wV 1<|wV 1<|wV 1<|wV 2<|wN<|RX 27 [I 0,I 19]<|YG
 exact nA<|wV 1<|wV 1<|wV 1<|wV 2<|wN<|GX f 13 [0]<|gY<|dP S.cap (iV S.used y)<|JO 4<|cD (x>(S.cap-(iV S.used y))) (λd=>RC 8 [I 0,I 19]<|YG) λd=>Q 7<|aU (iV S.used y) x<|cG<|eX f 0 Z 1 (I ((iV S.used y)+x)) λ_ b=>JO 3<|bJ b [12] (fb 4 0 2 1<|fb 8 0 1 1<|fn) [0,1,2,3,5,6,7,4,8,9,10,11,12] λ_ b=>wV 7<|wL 0<|wL 1<|wY (I (max S.high ((iV S.used y)+x))) Z (λw _=>gV S.high ((iV S.used y)+x) Z Z kr kr)<|wV 2<|wO Z<|eX b 0 Z 2 (I (max S.high ((iV S.used y)+x))) λ_ b=>nA<|wN<|RX 9 [I (iV S.used y),I 0]<|let hc:oq S x y=0:=(by unfold oq;rw[ab9 Y,aca Y]);let d:=(b.jB);let he:lL S x y={S with used:=iV S.used y+x,high:=(max S.high ((iV S.used y)+x))}:=(by unfold lL;rw[aca hc]);⟨_,_,by rw[hc];rfl,by rw[he];exact⟨_,_,_,_,rfl,j,⟨i.c,by dsimp only;omega,by dsimp only;omega,λz hz=>⟨(i.m z hz).1,by let h:=(i.m z hz).2;dsimp only;omega⟩⟩⟩,d⟩
def PR{M:af}(g:Qw p S M)(f:X W w (M::H::F)):
 Calls prog 157 #[Pt p 0] w λe d=>∃b:af,e=.returned (.tuple #[])/\Qw p (ga S) b/\X W d (b::H::F):=by
 obtain⟨a,n,k,c,rfl,d,h⟩:=g;let f:X W _ (aW p #[I S.cap,I S.used,I S.high,.slice a n k] 235::c::H::F):=X.perm f (by simp);let b:=d.ll;let b:=h.c;let b:=h.u;let b:=h.h;exact aq 10 func157 Z<|Q 15<|eX f 0 Z 1 (I 0) λ_ b=>JO 6<|eX b 0 Z 3 nS λ_ b=>er<|DV Z<|(by let d:=(b.aj 1 Z);let b:X W _ (((aW p #[I S.cap,I 0,I S.high,nS] 235)++([]:af))::H::F):=X.perm (show X W _ (aW p #[I S.cap,I 0,I S.high,nS] 235::H::F) from d) (by simp);let he:ga S=⟨S.cap,0,S.high,[]⟩:=rfl;exact⟨_,rfl,by rw[he];exact⟨_,_,_,_,rfl,aF.nil fR,⟨h.c,by dsimp only;omega,by dsimp only;omega,λx hx=>by cases hx⟩⟩,b⟩)
def XW{O:cj}(c:Int)(hc:0<=c/\c<=1048576)(b:X W w O):
 Calls prog 72 #[I c] w λe a=>∃(p:Nat) (M:af),e=.returned (.tuple #[Pt p 0,I 0])/\Qw p ⟨c,0,0,[]⟩ M/\X W a (M::O):=by
 exact aq 13 func72 Z<|Q 12<|sD 6 (c<0) (λa=>M3) λa=>JO 5<|cD (c>1048576) (λa=>NY) λa=>Q 6<|eD b [I c,I 0,I 0,nS] λa _ b=>RO 5 [Pt a 0,I 0]<|⟨_,_,rfl,⟨_,_,_,[],rfl,aF.nil fR,⟨hc,by dsimp only;omega,by dsimp only;omega,λx hx=>by cases hx⟩⟩,b⟩
end
section
variable{W w:World}{H:af}{F:cj}
variable{n:Nat}
def QB{t z:Int}(h:0<=t)(hz:0<=z):(t+z).tmod (n:Int)=(((t.toNat+z.toNat)%n:Nat):Int):=by
 grind
variable{t:Nat}
def Dx{a b:Nat}(ha:a<n)(hb:b<n)(ht:t<n)(h:(t+a)%n=(t+b)%n):a=b:=by
 let f:∀x,x<n->(t+x)%n=if t+x<n then t+x else t+x-n:=by
  intro x hx;split
  ·rename_i h1;exact aeY h1
  ·rename_i h1;rw[Nat.mod_eq_sub_mod (by omega),aeY (by omega)]
 grind
def Ring(r:List Ref)(t:Nat)(l:List Ref):Prop:=t<r.length/\l.length<=r.length/\∀i,i<l.length->r[(t+i)%r.length]?=l[i]?
variable{r l:List Ref}{i:Nat}{x:Ref}
def Ring.at(h:Ring r t l)(hi:i<l.length)(hx:r[(t+i)%r.length]?=some x):l[i]?=some x:=(h.2.2 i hi).symm.trans hx
def Ring.push(h:Ring r t l)(a:l.length<r.length):Ring (r.set ((t+l.length)%r.length) x) t (l++[x]):=by
 refine⟨by rw[acz];exact h.1,by grind,?_⟩;intro i a;rw[acm,ac4] at a;rw[acz,acV];by_cases e:i=l.length
 ·exact(by subst e;rw[aca Z,aca (aeC _ Y),adm (acS _),adQ];rfl)
 ·exact(by rw[ab9 (λq=>e (Dx Y Y h.1 q.symm)),ada Y];exact h.2.2 i Y)
def Ring.pop(h:Ring r t l):Ring r t l.dropLast:=by
 refine⟨h.1,by rw[aeE];let:=h.2.1;omega,?_⟩;intro i a;rw[aeE] at a;rw[List.dropLast_eq_take,ac0,aca a];exact h.2.2 i (by omega)
def Ring.YV(h:Ring r t l):Ring r ((t+1)%r.length) l.tail:=by
 refine⟨aeC _ (by let:=h.1;omega),by rw[adU];let:=h.2.1;omega,?_⟩;intro i a;rw[adU] at a;let e:((t+1)%r.length+i)%r.length=(t+(i+1))%r.length:=by grind[Nat.mod_add_mod]
 rw[e,h.2.2 (i+1) (by omega),List.getElem?_tail]
def Ring.nil(h:t<r.length):Ring r t []:=⟨h,aeg _,λi a=>absurd a (Nat.not_lt_zero i)⟩
def xj(r:List Ref)(t:Nat)(l:List Ref)(j:Int)(i:Nat):Prop:=t<r.length/\l.length<=r.length/\(∀q,q<(bw j (l.take i)).length->r[(t+q)%r.length]?=(bw j (l.take i))[q]?)/\∀q,i<=q->q<l.length->r[(t+q)%r.length]?=l[q]?
variable{j:Int}
def Ring.rem(h:Ring r t l):xj r t l j 0:=⟨h.1,h.2.1,λq a=>by simp[bw] at a,λq _ a=>h.2.2 q a⟩
def xj.at(h:xj r t l j i)(hi:i<l.length)(hx:r[(t+i)%r.length]?=some x):l[i]?=some x:=(h.2.2.2 i (acS _) hi).symm.trans hx
def kX(h:l[i]?=some x)(a:x.bO≠j):bw j (l.take (i+1))=bw j (l.take i)++[x]:=(Lf Z h a).symm
theorem lb(h:l[i]?=some x)(a:x.bO=j):bw j (l.take (i+1))=bw j (l.take i):=(KU Z h a).symm
def xj.keep(h:xj r t l j i)(hx:l[i]?=some x)(b:x.bO≠j):xj (r.set ((t+(bw j (l.take i)).length)%r.length) x) t l j (i+1):=by
 let⟨h1,a,c,d⟩:=h;let a:=(aci.1 hx).1;let a:(bw j (l.take i)).length<=i:=by grind[iP,List.length_take]
 refine⟨by simp_all,by simp_all,?_,?_⟩
 ·rw[kX hx b];intro q a;rw[acm,ac4] at a;rw[acz,acV];by_cases e:q=(bw j (l.take i)).length
  ·exact(by subst e;rw[aca Z,aca (aeC _ Y),adm (acS _),adQ];rfl)
  ·exact(by rw[ab9 (λz=>e (Dx Y Y h1 z.symm)),ada Y];exact c q Y)
 ·exact(by intro q a a;rw[acz,acV,ab9 (λz=>by let:=Dx Y Y h1 z;omega)];exact d q Y a)
def xj.drop(h:xj r t l j i)(hx:l[i]?=some x)(a:x.bO=j):xj r t l j (i+1):=by
 let⟨h1,b,a,c⟩:=h;exact⟨h1,b,by grind[lb],λq a a=>c q (by omega) a⟩
def xj.ring(h:xj r t l j i)(hi:l.length<=i):Ring r t (bw j l):=by
 obtain⟨h1,a,a,_⟩:=h;rw[acj hi] at a;exact⟨h1,by have:=iP j l;omega,a⟩
def Ky(h:Ring r t l)(hi:i<l.length)(hx:r[(t+i)%r.length]?=some x):l.take i++[x]=l.take (i+1):=(bY (h.at hi hx)).symm
def GL(p:Nat)(S:DS)(M:af):Prop:=∃(a:cf) (n k t:Nat) (r:List Ref) (c:af),M=(aW p #[.slice a n k,I ((t:Nat):Int),I ((S.l.length:Nat):Int)] 237)++c/\aF cz 52 2 a n k r c/\S.cap=((n:Nat):Int)/\Ring r t S.l/\S.Wf
variable{p:Nat}
def k9{O:cj}{a:cf}{k:Nat}{t s:Int}(z:Int)(d:0<n/\n<=256)(b:0<=t/\t<n)(hz:0<=z/\z<=512)(c:X W w (aW p #[.slice a n k,I t,I s] 237::O)):
 Calls prog 160 #[Pt p 0,I z] w λe b=>∃v:Nat,e=.returned (I v)/\(v=(t.toNat+z.toNat)%n/\v<n)/\X W b (aW p #[.slice a n k,I t,I s] 237::O):=by
 exact aq 17 func160 Z<|Q 6<|bJ c [] (fb 3 0 1 1<|fb 9 0 0 1<|fn) [0,1,2,4,6,7,8,3,5,9,10,11,12] λ_ b=>wV 7<|wL 0<|mD t z<|wL 1<|wV 1<|WW (t+z) (n:Int)<|wV 1<|wN<|RX 2 [I ((t+z).tmod (n:Int))]<|⟨_,acd (λz=>Ending.returned (I z)) (QB Y Y),⟨rfl,aeC _ d.1⟩,b⟩
variable{S:DS}
def RU{M:af}(f:GL p S M)(g:Ref)(h:X W w (M::H::F)):
 Calls prog 224 #[Pt p 0,.agg #[I g.bO,I g.bE]] w λe d=>∃b:af,e=.returned (I (ue S))/\GL p (nG S g) b/\X W d (b::H::F):=by
 obtain⟨a,n,k,t,r,c,rfl,j,s,m,q⟩:=f;let h0:X W _ (aW p #[.slice a n k,I t,I S.l.length] 237::c::H::F):=X.perm h (by simp);let u:=j.len;let b:=j.le;let b:=q.c;let b:=q.n;let b:=m.1;let b:=m.2.1;refine aq 44 func224 Z<|Q 2<|eD h0 [I g.bO,I g.bE] λv _ d=>GO d 18 [1]<|let b:¬(((n:Int):Int)=0):=Y;cF _ (adq.2 b)<|Q 4<|bJ d [] (fb 3 1 2 1<|fb 7 1 0 1<|fn) [0,1,2,4,5,6,3,7,8,9] λ_ f=>wV 6<|wL 0<|wL 1<|wV 2<|wN<|JX 1<|cE (S.l.length:Int) (n:Int) (λh=>RC 7 [I 19]<|(by let hc:ue S=19:=(by unfold ue;exact qk);let b:=(f.aj 0 Z);let d:=(b.jB);let he:nG S g=S:=(by unfold nG;rw[hc,ab9 (by decide)]);exact⟨_,by rw[hc];rfl,by rw[he];exact⟨_,_,_,t,_,_,rfl,j,s,m,q⟩,d⟩)) λh=>Q 3<|bJ f [9,12] (fb 3 1 0 1<|fb 8 1 2 1<|fb 10 0 0 2<|fn) [0,1,2,4,5,6,7,3,8,10,9,11,12] λ_ b=>wV 7<|wL 0<|wL 1<|wG 2 2<|wO Z<|let d:=(b.pick 1 Z);cZ (k9 (S.l.length:Int) Y Y Y d) ?_
 rintro _ _⟨f,rfl,b,d⟩;let i:=b.1;rw[acD,acD] at i;refine nZ d [0,1]<|let⟨q0,c1,d1,e0,r0,f0,s0⟩:=aF.eN j f;wI f0<|wO Z<|fj d j s0 2 f 0 q0 (⟨g.bO,g.bE⟩:Ref) e0 (.agg #[I g.bO,I g.bE]) [I g.bO,I g.bE] sizeOf52 λ_ j o b=>nA<|wN<|GX b 7 [0]<|aU (S.l.length:Int) 1<|cG<|sT b 0 2 (I ((S.l.length:Int)+1)) [I ((S.l.length:Int)+1)] #[.slice a n k,I t,I ((S.l.length:Int)+1)] sizeOf3 λf w0=>RO 8 [I 0] ?_;let hc:ue S=0:=by unfold ue;rw[ab9 Y]
 let h:=m.push (x:=g) Y;rw[u,<-i] at h;let b:(S.l++[g]).length=S.l.length+1:=by simp
 let d:X W f (aW p #[.slice a n k,I t,I (((S.l++[g]).length:Nat):Int)] 237::aW v #[I g.bO,I g.bE] 52::j::H::F):=by rw[b];exact w0
 let b:=(d.aj 1 Z);let d:=(b.jB);let he:nG S g={S with l:=S.l++[g]}:=by unfold nG;rw[aca hc]
 exact⟨_,by rw[hc];rfl,by rw[he];exact⟨_,_,_,t,_,_,rfl,o,s,h,⟨q.c,by dsimp only;omega⟩⟩,d⟩
def W8{M:af}(f:GL p S M)(g:X W w (M::H::F)):
 Calls prog 166 #[Pt p 0] w λe d=>(S.l=[]/\e=.returned (.tuple #[.agg #[I 0,I 0],.bool false])/\X W d (M::H::F))\/(∃(x:Ref) (b:af),S.l.getLast?=some x/\e=.returned (.tuple #[.agg #[I x.bO,I x.bE],.bool true])/\GL p {S with l:=S.l.dropLast} b/\X W d (b::H::F)):=by
 obtain⟨a,n,k,t,r,c,rfl,i,w0,h,j⟩:=f;have d:X W _ (aW p #[.slice a n k,I (t:Int),I (S.l.length:Int)] 237::c::H::F):=X.perm g (by simp);have m:=i.len;have b:=i.le;have b:=j.c;have b:=j.n;have b:=h.1;have b:=h.2.1;refine aq 33 func166 Z<|Q 2<|aI d zeroValue52 λo _ f=>GO f 17 [1]<|cE (S.l.length:Int) 0 (λg=>Ui) λg=>GC f 8 [1]<|dP (S.l.length:Int) 1<|cG<|sT f 1 2 (I ((S.l.length:Int)-1)) [I ((S.l.length:Int)-1)] #[.slice a n k,I (t:Int),I ((S.l.length:Int)-1)] sizeOf3 λ_ b=>JO 3<|bJ b [9,11,12] (fb 3 1 0 1<|fb 8 1 2 1<|fn) [0,1,2,4,5,6,7,3,8,9,10,11,12,13] λ_ b=>wV 7<|wL 0<|wL 1<|wO Z<|have d:=(b.pick 1 Z);cZ (k9 ((S.l.length:Int)-1) Y Y Y d) ?_
 rintro _ _⟨f,rfl,b,d⟩;have g:=b.1;rw[acD,show((S.l.length:Int)-1).toNat=(S.l.length-1) by omega] at g;refine nZ d [0]<|have⟨a0,a1,b1,e0,f0,g0,c1⟩:=aF.eN i f;wI g0<|wO Z<|lv d (f0.up 2 Z) 0 [I a0.bO,I a0.bE]<|nZ d [0]<|wO Z<|bP d 1 Z [I a0.bO,I a0.bE] λf h0=>nA<|wV 1<|wN<|DX 2 h0 1 [I a0.bO,I a0.bE] (.bool true) ?_;have b:S.l[S.l.length-1]?=some a0:=h.at Y (by rw[m,<-g];exact e0);have g:S.l.getLast?=some a0:=by rw[List.getLast?_eq_getElem?];exact b
 have d:X W f (aW p #[.slice a n k,I (t:Int),I (S.l.dropLast.length:Int)] 237::aW o #[I a0.bO,I a0.bE] 52::c::H::F):=by rw[show(S.l.dropLast.length:Int)=((S.l.length:Int)-1) by rw[aeE];omega];exact h0
 have b:=(d.aj 1 Z);exact .inr ⟨_,_,g,rfl,⟨_,_,_,t,_,_,rfl,i,w0,h.pop,⟨j.c,by rw[aeE];dsimp only;omega⟩⟩,(b.jB)⟩
def Qd{M:af}(f:GL p S M)(g:X W w (M::H::F)):
 Calls prog 169 #[Pt p 0] w λe d=>(S.l=[]/\e=.returned (.tuple #[.agg #[I 0,I 0],.bool false])/\X W d (M::H::F))\/(∃(x:Ref) (b:af),S.l.head?=some x/\e=.returned (.tuple #[.agg #[I x.bO,I x.bE],.bool true])/\GL p {S with l:=S.l.tail} b/\X W d (b::H::F)):=by
 obtain⟨a,n,k,t,r,c,rfl,m,v,j,o⟩:=f;have d:X W _ (aW p #[.slice a n k,I (t:Int),I (S.l.length:Int)] 237::c::H::F):=X.perm g (by simp);have s:=m.len;have b:=m.le;have b:=o.c;have b:=o.n;have i:=j.1;have b:=j.2.1;refine aq 38 func169 Z<|Q 2<|aI d zeroValue52 λu _ f=>GO f 17 [1]<|cE (S.l.length:Int) 0 (λg=>Ui) λg=>Q 3<|have⟨a0,c1,d1,g0,d0,h0,e1⟩:=aF.eN m t;bJ f [10,11] (fb 3 1 0 1<|fb 7 1 1 1<|fp 9 (d0.up 2 Z)<|fn) [0,1,2,4,5,6,3,7,8,9,10,11] λ_ b=>wV 6<|wL 0<|wL 1<|wI h0<|wG 2 2<|wO Z<|aI b zeroValue52 λq _ b=>er ⟨⟨cI b 2,cI b 2,.inr ((d0.up 3 Z).cell b (k:=0) Z),.inr ((d0.up 3 Z).cell b (k:=1) Z),trivial⟩,?_⟩
 refine wO Z<|bP b 0 Z [I a0.bO,I a0.bE] λ_ b=>nA<|wN<|JX 5<|have d:=(b.pick 2 Z);cZ (k9 (1:Int) Y Y Y d) ?_;rintro _ _⟨g,rfl,b,d⟩;have f:=b.1;rw[acD,show(1:Int).toNat=1 by omega] at f;refine cG<|sT d 0 1 (I (g:Int)) [I (g:Int)] #[.slice a n k,I (g:Int),I (S.l.length:Int)] sizeOf3 λ_ b=>GO b 8 [0]<|dP (S.l.length:Int) 1<|cG<|sT b 0 2 (I ((S.l.length:Int)-1)) [I ((S.l.length:Int)-1)] #[.slice a n k,I (g:Int),I ((S.l.length:Int)-1)] sizeOf3 λ_ b=>GO b 5 [201]<|bP b 2 Z [I a0.bO,I a0.bE] λw0 h=>DO 4 h 2 [I a0.bO,I a0.bE] (.bool true) ?_;have b:S.l[0]?=some a0:=j.at Y (by rw[adB,aeY i];exact g0);have i:S.l.head?=some a0:=by rw[List.head?_eq_getElem?];exact b
 have d:=j.YV;rw[s,<-f] at d;have f:X W w0 (aW p #[.slice a n k,I (g:Int),I (S.l.tail.length:Int)] 237::aW q #[I a0.bO,I a0.bE] 52::aW u #[I a0.bO,I a0.bE] 52::c::H::F):=by rw[show(S.l.tail.length:Int)=((S.l.length:Int)-1) by rw[adU];omega];exact h
 have b:=(f.ap [1,1]);exact .inr ⟨_,_,i,rfl,⟨_,_,_,g,_,_,rfl,m,v,d,⟨o.c,by rw[adU];dsimp only;omega⟩⟩,(b.jB)⟩
def Q6{M:af}(h:GL p S M)(j:X W w (M::H::F)):
 Calls prog 156 #[Pt p 0] w λe g=>∃(f:cf) (b d:Nat) (Zz:af),e=.returned (.slice f b d)/\aF cz 52 2 f b d S.l Zz/\X W g (Zz::M::H::F):=by
 obtain⟨a,n,k,t,r,c,rfl,s,b,u,d⟩:=h;have g:X W _ (aW p #[.slice a n k,I t,I S.l.length] 237::c::H::F):=X.perm j (by simp);have v:=s.len;have b:=s.le;have b:=d.c;have b:=d.n;have b:=u.1;have b:=u.2.1;refine aq 28 func156 Z<|GC g 31 [0]<|bF [0,10] (γ:=Nat×(List Ref)×SO) (λ⟨i,l,f,w0,d,b⟩ R=>⟨[(11,I i),(3,.slice f w0 d)],b::R,S.l.length-i,i<=S.l.length/\(l=S.l.take i)/\(l.length<=i)/\aF cz 52 2 f w0 d l b⟩) (0,[],none,0,0,[]) ⟨(X.bU g),Y,rfl,by simp,(aF.nil (enc:=cz) (E:=52) (sz:=2) fR)⟩ ?_
 rintro⟨i,l,f,w0,d,b⟩ V _⟨h,b,hz,b,m⟩;have b:=m.ll;refine Q 6<|CD ((i:Int)<S.l.length) (λg=>RC 12 [.slice f w0 d]<|(by have d:l=S.l:=(by rw[hz,acj Y]);have b:=m;rw[d] at b;have d:=(h.az [2,2]);exact⟨_,_,_,_,rfl,b,((d.jB).pick 1 Z)⟩)) λg=>Q 10<|bJ h [7,9,10,11] (fb 4 1 0 1<|fn) [0,1,2,3,5,6,4,7,8,9,10,11,12] λ_ b=>wV 6<|wL 0<|wO Z<|have d:=(b.pick 1 Z);cZ (k9 (i:Int) Y Y Y d) ?_;rintro _ _⟨j,rfl,b,g⟩;have o:=b.1;rw[acD,acD] at o;refine nZ g [0] ?_;obtain⟨h,b,b,q,f,d,b⟩:=aF.eN s j;exact wI d<|wO Z<|lv g (f.up 2 Z) 0 [I h.bO,I h.bE]<|nZ g [0]<|wO Z<|ec g #[I h.bO,I h.bE] 52 λ_ _ h0=>nZ h0 [1]<|wO Z<|dM (nb:=16) h0 m 2 (bl.dO (enc:=cz) (sz:=2) (xs:=[(⟨h.bO,h.bE⟩:Ref)]) fR 1 0 Z Z Z Y) underlying187 (i:=Tryz.t52) kr fR λd g f _ j b=>nZ b [1]<|wV 1<|wN<|JX 3<|aU (i:Int) 1<|bX 2 Z<|⟨(i+1,(l++[(⟨h.bO,h.bE⟩:Ref)]),d,(w0+1),g,f),od,bR,((b.pick 2 Z).aj 1 Z),Y,(by rw[hz];exact Ky u Y (by rw[v,<-o];exact q)),Qm,j⟩
def Fe{M:af}(i:GL p S M)(f:X W w (M::H::F)):
 Calls prog 93 #[Pt p 0] w λe d=>∃(a:cf) (n k:Nat) (Zz b:af),e=.returned (.slice a n k)/\aF cz 52 2 a n k S.l Zz/\GL p {S with l:=[]} b/\X W d (Zz::b::H::F):=by
 refine aq 15 func93 Z<|Q 8<|cZ (Q6 i f.aQ) ?_;rintro _ _⟨u,s,q,h,rfl,m,b⟩;let d:=b.cq;let b:=m.ll;refine JO 11 ?_;obtain⟨a,n,k,t,r,c,rfl,j,o,f,g⟩:=i;let h0:=(d.pick 1 Z);let d:X W _ (aW p #[.slice a n k,I t,I S.l.length] 237::c::h::H::F):=X.perm h0 (by simp);let b:=j.ll;let b:=g.c;let b:=g.n;let b:=f.1;let b:=f.2.1;exact Q 5<|sT d 0 1 (I 0) [I 0] #[.slice a n k,I 0,I S.l.length] sizeOf3 λ_ b=>cG<|sT b 0 2 (I 0) [I 0] #[.slice a n k,I 0,I 0] sizeOf3 λ_ b=>RO 9 [.slice u s q]<|⟨_,_,_,_,_,rfl,m,⟨_,_,_,0,_,_,rfl,j,o,Ring.nil Y,⟨g.c,by simp;omega⟩⟩,((b.jB).pick 1 Z)⟩
def KV{M:af}(g:GL p S M)(j:Int)(h:X W w (M::H::F)):
 Calls prog 97 #[Pt p 0,I j] w λe d=>∃(b:af) (v:Int),e=.returned (I v)/\GL p ({S with l:=bw j S.l}) b/\X W d (b::H::F):=by
 obtain⟨a,n,k,t,r,c,rfl,f,o,d,m⟩:=g;let g:X W _ (aW p #[.slice a n k,I t,I S.l.length] 237::c::H::F):=X.perm h (by simp);let b:=f.len;let b:=f.le;let b:=m.c;let b:=m.n;let b:=d.1;let b:=d.2.1;refine aq 54 func97 Z<|GC g 31 [0]<|bF [0,1,14] (γ:=Nat×(List Ref)×af×Int) (λ⟨i,B,C,q⟩ R=>⟨[(15,I i),(5,I q)],aW p #[.slice a n k,I t,I S.l.length] 237::C::R,S.l.length-i,i<=S.l.length/\(aF cz 52 2 a n k B C)/\(xj B t S.l j i)/\(q=(((bw j (S.l.take i)).length:Nat):Int))⟩) (0,r,c,0) ⟨g,Y,f,d.rem,by simp[bw]⟩ ?_
 rintro⟨i,B,C,q⟩ V _⟨f,b,y,u,D⟩;let A:=y.len;let b:=u.1;let R0:=u.2.1;let b:=iP j (S.l.take i);rw[ac5] at b;refine Q 6<|cD ((i:Int)<S.l.length) (λb=>?_) (λb=>?_);rotate_left
 ·exact GC f 12 [0]<|dP (S.l.length:Int) q<|JO 9<|sT f 0 2 (I q) [I q] #[.slice a n k,I t,I q] sizeOf3 λb h1=>RO 9 [I ((S.l.length:Int)-q)]<|let d:X W b (aW p #[.slice a n k,I t,I (((bw j S.l).length:Nat):Int)] 237::C::H::F):=(by rw[show(((bw j S.l).length:Nat):Int)=q by rw[D,acj Y]];exact h1);⟨_,_,rfl,⟨_,_,_,t,_,_,rfl,y,o,u.ring Y,⟨m.c,by let:=iP j S.l;dsimp only;omega⟩⟩,(d.jB)⟩
 refine Q 11<|kA f [6,8,9,10] (fb 3 0 0 1<|fn) (pS [0,1,2,4,5,3]<| .fk 6 9 (pS [7]<| .fk 8 9 (.ef 9<| .ef 10<| .fin) (.ef 8<| .ef 10<| .fin)) (.ef 6<|pS [7]<| .ef 8<| .ef 10<| .fin)) λ_ z=>qV 5<|qL 0<|qF ?_ ?_;rotate_left
 ·refine qO Z<|aI z zeroValue52 λ_ _ b=>nZ b [1]<|qO Z<|let d:=(b.pick 1 Z);cZ (k9 (i:Int) Y Y Y d) ?_;rintro _ _⟨f,rfl,b,d⟩;let s:=b.1;rw[acD,acD] at s;refine nZ d [0]<|let⟨b0,e3,f3,h0,s0,t0,g3⟩:=aF.eN y f;qI t0<|qO Z<|lv d (s0.up 2 Z) 0 [I b0.bO,I b0.bE]<|nZ d [0]<|qO Z<|bP d 1 Z [I b0.bO,I b0.bE] λ_ d=>nA<|qN<|GX d 9 [1]<|cN b0.bO j (λf=>Q 4<|aU (i:Int) 1<|bX 2 Z<|(by let b:=(d.aj 1 Z);let o:=u.at Y (by rw[A,<-s];exact h0);exact⟨(i+1,B,C,q),od,bR,b,Y,y,u.drop o Y,by rw[D,lb o Y]⟩)) λf=>Q 1<|bJ d [6,9] (fb 3 0 0 1<|fb 7 1 0 2<|fn) [0,1,2,4,5,3,7,6,8,9] λ_ b=>wV 5<|wL 0<|wG 1 2<|wO Z<|cZ (k9 q Y Y Y b) ?_;rintro _ _⟨h,rfl,b,d⟩;let m:=b.1;rw[acD,show q.toNat=(bw j (S.l.take i)).length by omega] at m;exact nZ d [0,1]<|let⟨s1,j3,k3,v0,t1,w0,u1⟩:=aF.eN y h;wI w0<|wO Z<|fj d y u1 2 h 0 s1 (⟨b0.bO,b0.bE⟩:Ref) v0 (.agg #[I b0.bO,I b0.bE]) [I b0.bO,I b0.bE] sizeOf52 λ_ f g b=>nA<|wN<|JX 3<|aU q 1<|JO 5<|aU (i:Int) 1<|bX 2 Z<|(by let d:=(b.aj 1 Z);let o:=u.at Y (by rw[A,<-s];exact h0);let x:=u.keep o Y;exact⟨(i+1,(B.set h (⟨b0.bO,b0.bE⟩:Ref)),f,(q+1)),od,bR,d,Y,g,Qs,by rw[D,kX o Y,acm,ac4];omega⟩)
 refine qO Z<|cZ (k9 (i:Int) Y Y Y z) ?_;rintro _ _⟨d,rfl,b,s⟩;let z:=b.1;rw[acD,acD] at z;refine nZ s [0]<|let⟨a0,n3,o3,d0,k0,x0,q3⟩:=aF.eN y d;qI x0<|qF ?_ ?_
 ·refine qO Z<|lv s (k0.up 1 Z) 0 [I a0.bO,I a0.bE]<|nZ s [0]<|qO Z<|aI s zeroValue52 λ_ _ b=>nZ b [1]<|qO Z<|bP b 0 Z [I a0.bO,I a0.bE] λ_ d=>nA<|qN<|GX d 9 [0]<|cN a0.bO j (λf=>Q 4<|aU (i:Int) 1<|bX 2 Z<|ZK) λf=>Q 1<|bJ d [6,9] (fb 3 1 0 1<|fb 7 0 0 2<|fn) [0,1,2,4,5,3,7,6,8,9] λ_ b=>wV 5<|wL 0<|wG 1 2<|wO Z<|let d:=(b.pick 1 Z);cZ (k9 q Y Y Y d) ?_;rintro _ _⟨g,rfl,b,d⟩;let m:=b.1;rw[acD,show q.toNat=(bw j (S.l.take i)).length by omega] at m;exact nZ d [0,1]<|let⟨g2,v3,w3,a1,h2,b1,i2⟩:=aF.eN y g;wI b1<|wO Z<|fj d y i2 2 g 0 g2 (⟨a0.bO,a0.bE⟩:Ref) a1 (.agg #[I a0.bO,I a0.bE]) [I a0.bO,I a0.bE] sizeOf52 λ_ f h b=>nA<|wN<|JX 3<|aU q 1<|JO 5<|aU (i:Int) 1<|bX 2 Z<|(by let d:=(b.aj 1 Z);let o:=u.at Y (by rw[A,<-z];exact d0);let x:=u.keep o Y;exact⟨(i+1,(B.set g (⟨a0.bO,a0.bE⟩:Ref)),f,(q+1)),od,bR,d,Y,h,Qs,by rw[D,kX o Y,acm,ac4];omega⟩)
 refine qO Z<|aI s zeroValue52 λ_ _ b=>nZ b [1]<|qO Z<|lv b (k0.up 2 Z) 0 [I a0.bO,I a0.bE]<|nZ b [1]<|qO Z<|bP b 0 Z [I a0.bO,I a0.bE] λ_ d=>nA<|qN<|GX d 9 [0]<|cN a0.bO j (λf=>Q 4<|aU (i:Int) 1<|bX 2 Z<|ZK) λf=>Q 1<|bJ d [6,9] (fb 3 1 0 1<|fb 7 0 0 2<|fn) [0,1,2,4,5,3,7,6,8,9] λ_ b=>wV 5<|wL 0<|wG 1 2<|wO Z<|let d:=(b.pick 1 Z);cZ (k9 q Y Y Y d) ?_;rintro _ _⟨h,rfl,b,d⟩;let m:=b.1;rw[acD,show q.toNat=(bw j (S.l.take i)).length by omega] at m;exact nZ d [0,1]<|let⟨t2,c4,d4,d1,u2,e1,v2⟩:=aF.eN y h;wI e1<|wO Z<|fj d y v2 2 h 0 t2 (⟨a0.bO,a0.bE⟩:Ref) d1 (.agg #[I a0.bO,I a0.bE]) [I a0.bO,I a0.bE] sizeOf52 λ_ f g b=>nA<|wN<|JX 3<|aU q 1<|JO 5<|aU (i:Int) 1<|bX 2 Z<|(by let d:=(b.aj 1 Z);let o:=u.at Y (by rw[A,<-z];exact d0);let x:=u.keep o Y;exact⟨(i+1,(B.set h (⟨a0.bO,a0.bE⟩:Ref)),f,(q+1)),od,bR,d,Y,g,Qs,by rw[D,kX o Y,acm,ac4];omega⟩)
def Ye{O:cj}(c:Int)(hc:1<=c/\c<=256)(b:X W w O):
 Calls prog 73 #[I c] w λe a=>∃(p:Nat) (M:af),e=.returned (.tuple #[Pt p 0,I 0])/\GL p ⟨c,[]⟩ M/\X W a (M::O):=by
 exact aq 14 func73 Z<|Q 12<|sD 6 (c<1) (λa=>M3) λa=>JO 5<|cD (c>256) (λa=>NY) λa=>Q 5<|gC (kl:=.i64) (kc:=.i64) (enc:=cz) (sz:=2) (nb:=16) b ⟨0,0⟩ c.toNat c (Y:c=(((c).toNat:Nat):Int)) underlying187 (i:=Tryz.t52) kr fR λb d _ g a=>bf<|eD a [.slice (At b 0) ((c).toNat) ((c).toNat),I 0,I 0] λa _ h0=>RO 5 [Pt a 0,I 0]<|(by let f:X W _ (((aW a #[.slice (At b 0) ((c).toNat) ((c).toNat),I 0,I 0] 237)++d)::O):=X.perm (show X W _ (aW a #[.slice (At b 0) ((c).toNat) ((c).toNat),I 0,I 0] 237::d::O) from h0) (by simp);exact⟨_,_,rfl,⟨_,_,_,0,_,_,rfl,g,by dsimp only;omega,Ring.nil MV,⟨hc,by simp;omega⟩⟩,f⟩)
end
section
variable{W w:World}{H:af}{F:cj}
variable{l:List Ref}{n:Nat}
def qb(h:l.length=n):(l.drop 1).take (n-1)=l.tail:=by
 grind[List.take_of_length_le,List.drop_one]
variable{k:Nat}{x:Ref}
def KT(h:l[k]?=some x):l.take (k+1)=l.take k++[x]:=bY h
variable{j:Int}
def uA(h:∀(k:Nat) (x:Ref),l[k]?=some x->¬x.bO=j):bw j l=l:=by
 refine aek.2 λx hx=>?_
 grind[List.getElem?_of_mem]
variable{xs b:List Ref}{i:Nat}
def Od(e:b.length=xs.length)(hi:i<k)(h1:b.take i=bw j (xs.take k))(a:b.drop k=xs.drop k)(hx:b[k]?=some x)(d:¬x.bO=j):
 (b.set i x).length=xs.length/\(b.set i x).take (i+1)=bw j (xs.take (k+1))/\(b.set i x).drop (k+1)=xs.drop (k+1):=by
 have a:k<b.length:=(aci.1 hx).1;have a:xs[k]?=some x:=(by have c:(b.drop k)[0]?=b[k]?:=(by simp);simp_all);refine⟨by simp[e],?_,?_⟩
 ·exact(by rw[kX a d,<-h1];rw[KT (l:=b.set i x) (k:=i) (x:=x) (by grind)];congr 1;rw[List.take_set_of_le Y])
 ·exact(by rw[List.drop_set_of_lt Y];have c:b.drop (k+1)=(b.drop k).drop 1:=(by simp);simp_all)
def Pz(h1:b.take i=bw j (xs.take k))(a:b.drop k=xs.drop k)(hx:b[k]?=some x)(d:x.bO=j):
 b.take i=bw j (xs.take (k+1))/\b.drop (k+1)=xs.drop (k+1):=by
 have c:xs[k]?=some x:=(by have a:(b.drop k)[0]?=b[k]?:=(by simp);simp_all);refine⟨by rw[lb c d,h1],?_⟩;have a:b.drop (k+1)=(b.drop k).drop 1:=by simp
 simp_all
def aao(xs:List Ref)(j:Int)(n:Nat)(r:Int):Prop:=((r=-1/\∀(k:Nat) (x:Ref),xs[k]?=some x->¬x.bO=j)\/∃i:Nat,r=(i:Int)/\i<n/\(∃x:Ref,xs[i]?=some x/\x.bO=j)/\∀(k:Nat) (x:Ref),k<i->xs[k]?=some x->¬x.bO=j)
abbrev qM(p:Nat)(c:Int)(a0:cf)(n0 k0:Nat)(a1:cf)(n1 k1:Nat)(a2:cf)(n2 k2:Nat)(a3:cf)(n3 k3:Nat):af:=(aW p #[I c,.slice a0 n0 k0,.slice a1 n1 k1,.slice a2 n2 k2,.slice a3 n3 k3] 233)
def uT(p:Nat)(S:QS)(M:af):Prop:=∃(a0:cf) (n0 k0:Nat) (l0:List Ref) (c0:af) (a1:cf) (n1 k1:Nat) (l1:List Ref) (c1:af) (a2:cf) (n2 k2:Nat) (l2:List Ref) (c2:af) (a3:cf) (n3 k3:Nat) (l3:List Ref) (c3:af),M=qM p S.cap a0 n0 k0 a1 n1 k1 a2 n2 k2 a3 n3 k3++(c0++(c1++(c2++c3)))/\aF cz 52 2 a0 n0 k0 l0 c0/\aF cz 52 2 a1 n1 k1 l1 c1/\aF cz 52 2 a2 n2 k2 l2 c2/\aF cz 52 2 a3 n3 k3 l3 c3/\S.bs=[l0,l1,l2,l3]/\(1<=S.cap/\S.cap<=4096)/\gL S.bs<=S.cap
variable{p:Nat}{S:QS}
def iJ{q:cf}{n0 o:Nat}{f:List Ref}{s:af}{n:cf}{l m:Nat}{c:List Ref}{c1:af}{k:cf}{j:Nat}{c2:af}{h:cf}{e g:Nat}{a:List Ref}{d:af}(A:aF cz 52 2 q n0 o f s)(B:aF cz 52 2 n l m c c1)(C:aF cz 52 2 k i j b c2)(D:aF cz 52 2 h e g a d)(r:S.bs=[f,c,b,a])(hc:1<=S.cap/\S.cap<=4096)(a:gL S.bs<=S.cap):uT p S (qM p S.cap q n0 o n l m k i j h e g++(s++(c1++(c2++d)))):=⟨_,_,_,_,_,_,_,_,_,_,_,_,_,_,_,_,_,_,_,_,rfl,A,B,C,D,r,hc,a⟩
def GM{a b c d e:af}(h:X W w (a::b::c::d::e::F)):X W w ((a++(b++(c++(d++e))))::F):=X.perm h (by simp)
def XT{a b c d e:af}(h:X W w ((a++(b++(c++(d++e))))::F)):X W w (a::b::c::d::e::F):=X.perm h (by simp)
def No{b:Nat}{F:cj}(r:Ref)(j:Int)(c:X W w (aW b #[I j] 3::F)):
 Calls prog 162 #[.agg #[I r.bO,I r.bE],Pt b 0] w λe a=>e=.returned (.bool (r.bO==j))/\X W a (aW b #[I j] 3::F):=by
 exact aq 8 func162 Z<|Q 2<|eD c [I r.bO,I r.bE] λa a a=>GK a 13 [0,1] Z<|fc [.bool (r.bO==j)]<|⟨rfl,(a.aj 0 Z)⟩
def QE{f:Nat}{G:af}{F:cj}{a:cf}{cap:Nat}(h:bl cz 2 [G] a n cap xs)(c:X W w (aW f #[I j] 3::G::F)):
 Calls prog 222 #[.slice a n cap,.func (.func 162) #[] #[Pt f 0]] w λe b=>∃r:Int,e=.returned (I r)/\(-1<=r/\r<n)/\aao xs j n r/\X W b (aW f #[I j] 3::G::F):=by
 let b:=h.ll;refine aq 19 func222 Z<|Q 14<|bF [0,1,7] (γ:=Nat) (λi R=>⟨[(8,I i)],R,n-i,i<=n/\(∀(k:Nat) (x:Ref),k<i->xs[k]?=some x->¬x.bO=j)⟩) 0 ⟨c,Y,λk x g=>absurd g Y⟩ ?_;rintro i V _⟨d,b,h0⟩;refine Q 6<|CD ((i:Int)<n) (λb=>RC 11 [I (-1)]<|⟨-1,rfl,Y,.inl ⟨rfl,λk x g=>h0 k x (by let:=(aci.1 g).1;omega) g⟩,d⟩) λb=>?_;refine Q 15<|kQ h i λc _ _ h b=>lv d (b.up 1 Z) 0 [I c.bO,I c.bE]<|sC #[.agg #[I c.bO,I c.bE],Pt f 0] #[Pt f 0] call162 (Calls.mono (No ⟨c.bO,c.bE⟩ _ d) ?_);rintro _ _⟨rfl,f⟩;exact⟨_,rfl,(JO 2<|cE c.bO j (λb=>RC 12 [I i]<|⟨_,rfl,Y,.inr ⟨i,rfl,Y,⟨c,h,b⟩,λk y g=>h0 k y g⟩,f⟩) λb=>Q 4<|aU (i:Int) 1<|bX 2 Z<|(by let d:¬c.bO=j:=b;exact⟨i+1,od,bR,f,Y,λk y g hy=>by by_cases b:k=i;exact(by subst b;rw[h] at hy;cases hy;exact d);exact h0 k y Y hy⟩))⟩
def rO{s:Nat}{c:af}{F:cj}{a:cf}{cap:Nat}(o:aF cz 52 2 a n cap xs c)(f:X W w (aW s #[I j] 3::c::F)):
 Calls prog 161 #[.slice a n cap,.func (.func 162) #[] #[Pt s 0]] w λe d=>∃(a':cf) (cap':Nat) (b:af),e=.returned (.slice a' (bw j xs).length cap')/\aF cz 52 2 a' (bw j xs).length cap' (bw j xs) b/\X W d (aW s #[I j] 3::b::F):=by
 let g:=o.len;let b:=o.le;refine aq 42 func161 Z<|Q 9<|let b:=(f.az [1,1]);cZ (QE (o.dt (O:=[c]) 0 Z) b) ?_;rintro _ _⟨d,rfl,_,l,r⟩;refine JO 10<|cE d (-1) (λb=>RC 8 [.slice a n cap]<|(by let hw:bw j xs=xs:=uA (by rcases l with h|⟨i,h,_⟩;exact h.2;omega);rw[hw,g];exact⟨_,_,_,rfl,o,r⟩)) λb=>Q 6<|aU d 1<|JO 4 ?_
 obtain⟨g,f,b,⟨b,u,v⟩,m⟩:∃i:Nat,d=(i:Int)/\i<n/\(∃x:Ref,xs[i]?=some x/\x.bO=j)/\∀(k:Nat) (x:Ref),k<i->xs[k]?=some x->¬x.bO=j:=by
  rcases l with h|h
  ·omega
  ·exact h
 subst f;let d:bw j (xs.take g)=xs.take g:=uA λk x t=>by let b:=(aci.1 t).1;rw[ac0,aca (by simp at b;omega)] at t;exact m k x (by simp at b;omega) t
 refine bF [0,1] (γ:=Nat×Nat×(List Ref)×af) (λ⟨i,k,p,q⟩ R=>⟨[(5,I i),(6,I k)],aW s #[I j] 3::q::R,n-k,aF cz 52 2 a n cap p q/\(k<=n/\i<k)/\p.take i=bw j (xs.take k)/\p.drop k=xs.drop k/\p.length=xs.length⟩) (g,g+1,xs,c) ⟨r,o,Y,by rw[lb u v,d],rfl,rfl⟩<|λ⟨i,k,p,q⟩ V _⟨g,m,t,h1,u,r⟩=>Q 9<|CD ((k:Int)<n) (λl=>(by refine Q 9<|Pk (some (i:Int)) none i n runUnderlying187 sizeOf52 ⟨Y,Y⟩ rfl Y Y ?_ (a:=a) (len:=n) (cap:=cap);let b:=m.part (lo:=i) (hi:=n) Y Y;refine Xh g m 1 ⟨0,0⟩ (lo:=i) Y runUnderlying187 zeroValue52 kr λ_ _ d f=>JO 6<|Pk none (some (i:Int)) 0 i runUnderlying187 sizeOf52 Z ⟨Y,Y⟩ Y Y ?_ (a:=a) (len:=n) (cap:=cap);let b:=d.part (lo:=0) (hi:=i) Y Y;refine RO 4 [.slice (bZ a cap 0 2) (i-0) (cap-0)] ?_;let d:=b;let hy:((List.take i p++List.replicate (n-i) (⟨0,0⟩:Ref)).drop 0).take (i-0)=bw j xs:=(by rw[ado,Nat.sub_zero,List.take_append_of_le_length mo,aeO,Nat.min_self,h1,acj Y]);rw[hy] at d;let b:=d.len;rw[b];exact⟨_,_,_,rfl,d,f⟩)) λl=>?_;refine Q 8<|i9 m (k:Int) k λf _ _ h0 b _=>lv g (b.up 1 Z) 0 [I f.bO,I f.bE]<|aI g zeroValue52 λ_ _ b=>bP b 0 Z [I f.bO,I f.bE] λ_ b=>GO b 6 [200]<|let d:=(b.pick 1 Z);sC #[.agg #[I f.bO,I f.bE],Pt s 0] #[Pt s 0] call162 (Calls.mono (No ⟨f.bO,f.bE⟩ _ d) ?_);rintro _ _⟨rfl,l⟩;exact⟨_,rfl,(JO 3<|cEn f.bO j (λo=>Q 5<|aU (k:Int) 1<|bX 2 Z<|(by let b:=(l.aj 1 Z);let g:=Pz h1 u h0 o;exact⟨(i,k+1,p,q),by dsimp only;omega,bR,b,m,Y,g.1,g.2,r⟩)) λo=>GC l 5 [201]<|i9 m (i:Int) i λb _ _ d _ w0=>fj l m w0 2 i 0 b (⟨f.bO,f.bE⟩:Ref) d (.agg #[I f.bO,I f.bE]) [I f.bO,I f.bE] sizeOf52 λ_ l m b=>JO 4<|aU (i:Int) 1<|JO 6<|aU (k:Int) 1<|bX 2 Z<|(by let d:=(b.aj 1 Z);let g:=Od r t.2 h1 u h0 o;exact⟨(i+1,k+1,(p.set i (⟨f.bO,f.bE⟩:Ref)),l),by dsimp only;omega,bR,d,m,Y,g.2.1,g.2.2,g.1⟩))⟩
def Hw{M:af}(j:uT p S M)(m:X W w (M::H::F)):
 Calls prog 118 #[Pt p 0] w λe a=>e=.returned (I (gL S.bs))/\X W a (M::H::F):=by
 obtain⟨y,h,v,a,B,u,i,t,a,A,s,k,q,a,x,o,l,n,a,r,rfl,c,d,f,g,b,a,a⟩:=j;let m:=XT m;let a:gL S.bs=h+i+k+l:=by rw[b];unfold gL;simp[c.len,d.len,f.len,g.len];omega
 let a:=c.ll;let a:=d.ll;let a:=f.ll;let a:=g.ll;exact nH 21 func118 Z<|sR<|bf<|zQ<|cG<|nT<|B6<|kS<|bf<|zQ<|gw<|lB m 0 1 4<|bf<|nT<|cW<|sS 5<|dd<|sR<|bf<|nT<|cO<|nh<|kT<|cO<|cW<|sR<|cG<|nT<|rE<|gw<|aU 0 (h:Int)<|bf<|nB<|rE<|cG<|nT<|dd<|sR<|bf<|nT<|cO<|nh<|kT<|cO<|cW<|sR<|cG<|nT<|rE<|gw<|aU (0+(h:Int)) (i:Int)<|bf<|nB<|rE<|cG<|nT<|dd<|sR<|bf<|nT<|cO<|nh<|kT<|cO<|cW<|sR<|cG<|nT<|rE<|gw<|aU ((0+(h:Int))+(i:Int)) (k:Int)<|bf<|nB<|rE<|cG<|nT<|dd<|sR<|bf<|nT<|cO<|nh<|kT<|cO<|cW<|sR<|cG<|nT<|rE<|gw<|aU (((0+(h:Int))+(i:Int))+(k:Int)) (l:Int)<|bf<|nB<|rE<|cG<|nT<|dd<|sR<|bf<|nT<|cO<|B6<|ql<|xB<|tN<|sR<|cG<|zE<|fc [I ((((0+(h:Int))+(i:Int))+(k:Int))+(l:Int))]<|(by let a:=GM (show X W _ (qM p S.cap y h v u i t s k q o l n::B::A::x::r::H::F) from m);exact⟨acd (λz=>Ending.returned (I z)) Y,a⟩)
def uO{M:af}(f:uT p S M)(r:Ref)(b:Int)(hz:0<=b/\b<4)(d:X W w (M::H::F)):
 Calls prog 92 #[Pt p 0,.agg #[I r.bO,I r.bE],I b] w λe c=>∃a:af,e=.returned (I (rz S))/\uT p (gk S r b) a/\X W c (a::H::F):=by
 obtain⟨R,s,P,z,U,Oz,q,N,y,T,L,o,K,x,Qz,E,n,D,v,G,rfl,C,B,A,u,J,Xz,k⟩:=f;let d:=XT d;let a:gL S.bs=s+q+o+n:=by rw[J];unfold gL;simp[C.len,B.len,A.len,u.len];omega
 let a:=C.ll;let a:=B.ll;let a:=A.ll;let a:=u.ll;refine aq 43 func92 Z<|Q 2<|eD d [I r.bO,I r.bE] λg _ d=>GO d 17 [1]<|cE S.cap 0 (λf=>RC 7 [I 20]<|(by let c:=(d.aj 0 Z);let a:=GM (show X W _ (qM p S.cap R s P Oz q N L o K E n D::U::T::Qz::G::H::F) from c);let j:gL [z,y,x,v]=gL S.bs:=(by rw[J]);omega)) λf=>Q 8<|sD 18 (b<0) (λh=>lx) λh=>JO 5<|cD (b>=4) (λh=>lx) λh=>Q 4<|bJ d [1] (fb 5 1 0 1<|fn) [0,2,3,4,5,1,6] λ_ a=>wV 4<|wL 0<|wO Z<|let c:=(a.az [5,5,5,5,5]);let d:=GM (show X W _ (qM p S.cap R s P Oz q N L o K E n D::U::T::Qz::G::aW g #[I r.bO,I r.bE] 52::H::F) from c);let a:gL [z,y,x,v]=((s+q+o+n:Nat):Int):=(by unfold gL;simp only[acC,adA,ady,ae4];let h0:=(C).len;let h1:=(B).len;let a:=(A).len;let a:=(u).len;omega);cZ (Hw (S:=⟨S.cap,[z,y,x,v]⟩) (iJ C B A u Z Xz rD) d.aQ) ?_;rintro _ _⟨rfl,a⟩;let t:X W _ (qM p S.cap R s P Oz q N L o K E n D::U::T::Qz::G::aW g #[I r.bO,I r.bE] 52::H::F):=XT (X.ak a);refine nZ t [0]<|wV 1<|wN<|JX 1<|cD ((gL [z,y,x,v])>=S.cap) (λd=>RC 7 [I 19]<|(by let a:=(t.aj 5 Z);let c:=GM (show X W _ (qM p S.cap R s P Oz q N L o K E n D::U::T::Qz::G::H::F) from a);let j:gL [z,y,x,v]=gL S.bs:=(by rw[J]);let hc:rz S=19:=(by unfold rz;exact qk);let he:gk S r b=S:=(by unfold gk;rw[hc,ab9 (by decide)]);exact⟨_,by rw[hc];rfl,by rw[he];exact iJ C B A u J Xz k,c⟩)) λd=>?_;let hc:rz S=0:=by unfold rz;rw[ab9 Y]
 rcases(by omega:b=0\/b=1\/b=2\/b=3) with rfl|rfl|rfl|rfl
 ·exact Q 3<|bJ t [9,10,14] (fb 7 0 1 1<|fb 8 5 0 2<|fn) [0,1,2,3,4,5,6,11,12,7,8,9,10,13,14] λ_ w0=>wV 9<|wL 0<|wG 1 2<|wO Z<|ec w0 #[I r.bO,I r.bE] 52 λ_ _ a=>nZ a [1]<|wO Z<|dM (nb:=16) a C 2 (bl.dO (enc:=cz) (sz:=2) (xs:=[(⟨r.bO,r.bE⟩:Ref)]) fR 1 0 Z Z Z Y) underlying187 (i:=Tryz.t52) kr fR λc d k _ m f=>nA<|wV 1<|wO Z<|eX f 1 Z 1 (.slice c (s+1) d) λ_ g=>nA<|wN<|RX 7 [I 0]<|let j:=(g.ap [0,5]);let l:=GM (show X W _ (qM p S.cap c (s+1) d Oz q N L o K E n D::k::T::Qz::G::H::F) from j);let he:gk S r 0={S with bs:=[(z++[(⟨r.bO,r.bE⟩:Ref)]),y,x,v]}:=I6;⟨_,by rw[hc];rfl,by rw[he];exact iJ m B A u Z Xz Je,l⟩
 ·exact Q 3<|bJ t [9,10,14] (fb 7 0 2 1<|fb 8 5 0 2<|fn) [0,1,2,3,4,5,6,11,12,7,8,9,10,13,14] λ_ w0=>wV 9<|wL 0<|wG 1 2<|wO Z<|ec w0 #[I r.bO,I r.bE] 52 λ_ _ a=>nZ a [1]<|wO Z<|dM (nb:=16) a B 3 (bl.dO (enc:=cz) (sz:=2) (xs:=[(⟨r.bO,r.bE⟩:Ref)]) fR 1 0 Z Z Z Y) underlying187 (i:=Tryz.t52) kr fR λc d k _ m f=>nA<|wV 1<|wO Z<|eX f 1 Z 2 (.slice c (q+1) d) λ_ g=>nA<|wN<|RX 7 [I 0]<|let j:=(g.ap [0,5]);let l:=GM (show X W _ (qM p S.cap R s P c (q+1) d L o K E n D::U::k::Qz::G::H::F) from j);let he:gk S r 1={S with bs:=[z,(y++[(⟨r.bO,r.bE⟩:Ref)]),x,v]}:=I6;⟨_,by rw[hc];rfl,by rw[he];exact iJ C m A u Z Xz Je,l⟩
 ·exact Q 3<|bJ t [9,10,14] (fb 7 0 3 1<|fb 8 5 0 2<|fn) [0,1,2,3,4,5,6,11,12,7,8,9,10,13,14] λ_ w0=>wV 9<|wL 0<|wG 1 2<|wO Z<|ec w0 #[I r.bO,I r.bE] 52 λ_ _ a=>nZ a [1]<|wO Z<|dM (nb:=16) a A 4 (bl.dO (enc:=cz) (sz:=2) (xs:=[(⟨r.bO,r.bE⟩:Ref)]) fR 1 0 Z Z Z Y) underlying187 (i:=Tryz.t52) kr fR λc d k _ m f=>nA<|wV 1<|wO Z<|eX f 1 Z 3 (.slice c (o+1) d) λ_ g=>nA<|wN<|RX 7 [I 0]<|let j:=(g.ap [0,5]);let l:=GM (show X W _ (qM p S.cap R s P Oz q N c (o+1) d E n D::U::T::k::G::H::F) from j);let he:gk S r 2={S with bs:=[z,y,(x++[(⟨r.bO,r.bE⟩:Ref)]),v]}:=I6;⟨_,by rw[hc];rfl,by rw[he];exact iJ C B m u Z Xz Je,l⟩
 ·exact Q 3<|bJ t [9,10,14] (fb 7 0 4 1<|fb 8 5 0 2<|fn) [0,1,2,3,4,5,6,11,12,7,8,9,10,13,14] λ_ w0=>wV 9<|wL 0<|wG 1 2<|wO Z<|ec w0 #[I r.bO,I r.bE] 52 λ_ _ a=>nZ a [1]<|wO Z<|dM (nb:=16) a u 5 (bl.dO (enc:=cz) (sz:=2) (xs:=[(⟨r.bO,r.bE⟩:Ref)]) fR 1 0 Z Z Z Y) underlying187 (i:=Tryz.t52) kr fR λc d k _ m f=>nA<|wV 1<|wO Z<|eX f 1 Z 4 (.slice c (n+1) d) λ_ g=>nA<|wN<|RX 7 [I 0]<|let j:=(g.ap [0,5]);let l:=GM (show X W _ (qM p S.cap R s P Oz q N L o K c (n+1) d::U::T::Qz::k::H::F) from j);let he:gk S r 3={S with bs:=[z,y,x,(v++[(⟨r.bO,r.bE⟩:Ref)])]}:=I6;⟨_,by rw[hc];rfl,by rw[he];exact iJ C B A m Z Xz Je,l⟩
def Wv{M:af}(f:uT p S M)(d:X W w (M::H::F)):
 Calls prog 168 #[Pt p 0] w λe c=>(mC S.bs=none/\e=.returned (.tuple #[.agg #[I 0,I 0],.bool false])/\X W c (M::H::F))\/(∃(x:Ref) (bs:List (List Ref)) (b:af),mC S.bs=some (x,bs)/\e=.returned (.tuple #[.agg #[I x.bO,I x.bE],.bool true])/\uT p {S with bs:=bs} b/\X W c (b::H::F)):=by
 obtain⟨B,m,r,R,Oz,A,k,q,Qz,N,z,j,o,P,L,y,i,n,T,K,rfl,G,E,D,v,J,Xz,R0⟩:=f;let d:=XT d;let b:gL S.bs=m+k+j+i:=by rw[J];unfold gL;simp[G.len,E.len,D.len,v.len];omega
 let g:=G.len;let b:=G.le;let e:=E.len;let b:=E.le;let L0:=D.len;let b:=D.le;let M0:=v.len;let b:=v.le;refine nH 32 func168 Z<|sR<|aI d zeroValue52 λ_ _ C=>bf<|zQ<|cG<|nT<|B6<|kT<|cO<|sR<|gw<|lB C 1 1 4<|bf<|nT<|cW<|sS 5<|dd<|sR<|bf<|nT<|cO<|nh<|kT<|cO<|cW<|sR<|je<|zS<|gw<|nT<|cD ((m:Int)>0) (λh=>cO<|bJ C [7] fn [0,1,2,3,4,5,6,7] λ_ b=>wV 3<|(by let f:=G.part (lo:=1) (hi:=m) Y Y;refine wY (.slice (bZ B r 1 2) (m-1) (r-1)) Z (λw _=>yR (a:=B) (len:=m) (cap:=r) (some 1) none 1 m runUnderlying187 sizeOf52 ⟨by decide,rfl⟩ rfl Y Y)<|wV 3<|wO Z<|eX b 1 Z 1 (.slice (bZ B r 1 2) (m-1) (r-1)) λ_ h0=>nA<|wN<|tN<|sR<|bf<|i9 G 0 0 λc _ _ w0 b _=>lv h0 (b.up 2 Z) 0 [I c.bO,I c.bE]<|bP h0 0 Z [I c.bO,I c.bE] λ_ b=>bf<|zB<|tR<|tK<|xk b 0 [I c.bO,I c.bE] (.bool true) ?_;let d:=(b.aj 0 Z);let b:=GM (show X W _ (qM p S.cap (bZ B r 1 2) (m-1) (r-1) A k q z j o y i n::Oz::N::L::K::H::F) from d);let s:=qb g;let g:=f;rw[s] at g;let t:mC S.bs=some (c,[R.tail,Qz,P,T]):=(by rw[J,xF w0]);exact .inr ⟨_,_,_,t,rfl,iJ g E D v Z Xz (by let U:=adU (l:=R);exact NW),b⟩)) λh=>?_;refine nY<|bN<|tN<|rE<|cG<|nT<|dd<|sR<|bf<|nT<|cO<|nh<|kT<|cO<|cW<|sR<|je<|zS<|gw<|nT<|cD ((k:Int)>0) (λu=>cO<|bJ C [7] fn [0,1,2,3,4,5,6,7] λ_ b=>wV 3<|(by let h:=E.part (lo:=1) (hi:=k) Y Y;refine wY (.slice (bZ A q 1 2) (k-1) (q-1)) Z (λw _=>yR (a:=A) (len:=k) (cap:=q) (some 1) none 1 k runUnderlying187 sizeOf52 ⟨by decide,rfl⟩ rfl Y Y)<|wV 3<|wO Z<|eX b 1 Z 2 (.slice (bZ A q 1 2) (k-1) (q-1)) λ_ c=>nA<|wN<|tN<|sR<|bf<|i9 E 0 0 λd _ _ f b _=>lv c (b.up 3 Z) 0 [I d.bO,I d.bE]<|bP c 0 Z [I d.bO,I d.bE] λ_ b=>bf<|zB<|tR<|tK<|xk b 0 [I d.bO,I d.bE] (.bool true) ?_;let h1:=(b.aj 0 Z);let b:=GM (show X W _ (qM p S.cap B m r (bZ A q 1 2) (k-1) (q-1) z j o y i n::Oz::N::L::K::H::F) from h1);let s:=qb e;let g:=h;rw[s] at g;let t:mC S.bs=some (d,[R,Qz.tail,P,T]):=(by rw[J,ke Y,xF f];rfl);exact .inr ⟨_,_,_,t,rfl,iJ G g D v Z Xz (by let U:=adU (l:=Qz);exact NW),b⟩)) λu=>?_;refine nY<|bN<|tN<|rE<|cG<|nT<|dd<|sR<|bf<|nT<|cO<|nh<|kT<|cO<|cW<|sR<|je<|zS<|gw<|nT<|cD ((j:Int)>0) (λu=>cO<|bJ C [7] fn [0,1,2,3,4,5,6,7] λ_ b=>wV 3<|(by let h:=D.part (lo:=1) (hi:=j) Y Y;refine wY (.slice (bZ z o 1 2) (j-1) (o-1)) Z (λw _=>yR (a:=z) (len:=j) (cap:=o) (some 1) none 1 j runUnderlying187 sizeOf52 ⟨by decide,rfl⟩ rfl Y Y)<|wV 3<|wO Z<|eX b 1 Z 3 (.slice (bZ z o 1 2) (j-1) (o-1)) λ_ c=>nA<|wN<|tN<|sR<|bf<|i9 D 0 0 λd _ _ f b _=>lv c (b.up 4 Z) 0 [I d.bO,I d.bE]<|bP c 0 Z [I d.bO,I d.bE] λ_ b=>bf<|zB<|tR<|tK<|xk b 0 [I d.bO,I d.bE] (.bool true) ?_;let c:=(b.aj 0 Z);let b:=GM (show X W _ (qM p S.cap B m r A k q (bZ z o 1 2) (j-1) (o-1) y i n::Oz::N::L::K::H::F) from c);let s:=qb L0;let g:=h;rw[s] at g;let t:mC S.bs=some (d,[R,Qz,P.tail,T]):=(by rw[J,ke Y,ke Y,xF f];rfl);exact .inr ⟨_,_,_,t,rfl,iJ G E g v Z Xz (by let U:=adU (l:=P);exact NW),b⟩)) λu=>?_;refine nY<|bN<|tN<|rE<|cG<|nT<|dd<|sR<|bf<|nT<|cO<|nh<|kT<|cO<|cW<|sR<|je<|zS<|gw<|nT<|CD ((i:Int)>0) (λd=>nY<|bN<|tN<|rE<|cG<|nT<|dd<|sR<|bf<|nT<|cO<|B6<|ql<|xB<|tN<|sR<|bf<|bP C 0 Z [I 0,I 0] λ_ b=>bf<|zE<|xk b 0 [I 0,I 0] (.bool false)<|(by let c:=(b.aj 0 Z);let b:=GM (show X W _ (qM p S.cap B m r A k q z j o y i n::Oz::N::L::K::H::F) from c);exact .inl ⟨by rw[J,ke Y,ke Y,ke Y,ke Y];rfl,rfl,b⟩)) λd=>cO<|bJ C [7] fn [0,1,2,3,4,5,6,7] λ_ b=>wV 3<|let h:=v.part (lo:=1) (hi:=i) Y Y;wY (.slice (bZ y n 1 2) (i-1) (n-1)) Z (λw _=>yR (a:=y) (len:=i) (cap:=n) (some 1) none 1 i runUnderlying187 sizeOf52 ⟨by decide,rfl⟩ rfl Y Y)<|wV 3<|wO Z<|eX b 1 Z 4 (.slice (bZ y n 1 2) (i-1) (n-1)) λ_ c=>nA<|wN<|tN<|sR<|bf<|i9 v 0 0 λd _ _ f b _=>lv c (b.up 5 Z) 0 [I d.bO,I d.bE]<|bP c 0 Z [I d.bO,I d.bE] λ_ b=>bf<|zB<|tR<|tK<|xk b 0 [I d.bO,I d.bE] (.bool true) ?_;let c:=(b.aj 0 Z);let b:=GM (show X W _ (qM p S.cap B m r A k q z j o (bZ y n 1 2) (i-1) (n-1)::Oz::N::L::K::H::F) from c);let s:=qb M0;let g:=h;rw[s] at g;let t:mC S.bs=some (d,[R,Qz,P,T.tail]):=by rw[J,ke Y,ke Y,ke Y,xF f];rfl
 exact .inr ⟨_,_,_,t,rfl,iJ G E D g Z Xz (by let U:=adU (l:=T);exact NW),b⟩
def KD{M:af}(d:uT p S M)(j:Int)(c:X W w (M::H::F)):
 Calls prog 98 #[Pt p 0,I j] w λe b=>∃(a:af) (v:Int),e=.returned (I v)/\uT p ({S with bs:=S.bs.map (bw j)}) a/\X W b (a::H::F):=by
 obtain⟨r,g,q,l,u,C,m,B,k,t,G,x,E,i,s,K,A,J,h,o,rfl,f,n,y,D,R,Oz,a⟩:=d;let c:=XT c;let a:gL S.bs=g+m+x+A:=by rw[R];unfold gL;simp[f.len,n.len,y.len,D.len];omega
 let a:=f.ll;let a:=n.ll;let a:=y.ll;let a:=D.ll;refine nH 33 func98 Z<|sR<|NO c (I j) #[I j] λz _ a=>bf<|zQ<|cG<|nT<|B6<|kS<|bf<|let b:=(a.az [5,5,5,5,5]);let c:=GM (show X W _ (qM p S.cap r g q C m B G x E K A J::u::t::s::o::aW z #[I j] 3::H::F) from b);let a:gL [l,k,i,h]=((g+m+x+A:Nat):Int):=(by unfold gL;simp only[acC,adA,ady,ae4];let h0:=(f).len;let h1:=(n).len;let Qz:=(y).len;let P:=(D).len;omega);cZ (Hw (S:=⟨S.cap,[l,k,i,h]⟩) (iJ f n y D Z Oz rD) c.aQ) ?_;rintro _ _⟨rfl,a⟩;let b:X W _ (qM p S.cap r g q C m B G x E K A J::u::t::s::o::aW z #[I j] 3::H::F):=XT (X.ak a);refine bf<|zQ<|gw<|lB b 0 1 4<|bf<|nT<|cW<|sS 5<|dd<|sR<|bf<|nT<|cO<|nh<|kT<|cO<|cW<|sR<|je<|nT<|bJ b [4,8] fn [0,1,2,3,5,6,4,7,8] λ_ a=>wV 6<|wO Z<|let b:=(a.az [1,5]);let:=iP j l;cZ (rO f b) ?_;rintro _ _⟨t,u,L,rfl,N,a⟩;refine nA<|wV 1<|wO Z<|eX a 2 Z 1 (.slice t ((bw j l).length) u) λ_ a=>nA<|wN<|bN<|tN<|rE<|cG<|nT<|dd<|sR<|bf<|nT<|cO<|nh<|kT<|cO<|cW<|sR<|je<|nT<|bJ a [4,8] fn [0,1,2,3,5,6,4,7,8] λ_ a=>wV 6<|wO Z<|let b:=(a.az [3,1]);let:=iP j k;cZ (rO n b) ?_;rintro _ _⟨o,q,B,rfl,C,a⟩;refine nA<|wV 1<|wO Z<|eX a 3 Z 2 (.slice o ((bw j k).length) q) λ_ a=>nA<|wN<|bN<|tN<|rE<|cG<|nT<|dd<|sR<|bf<|nT<|cO<|nh<|kT<|cO<|cW<|sR<|je<|nT<|bJ a [4,8] fn [0,1,2,3,5,6,4,7,8] λ_ a=>wV 6<|wO Z<|let b:=(a.az [4,1]);let:=iP j i;cZ (rO y b) ?_;rintro _ _⟨m,n,r,rfl,s,a⟩;refine nA<|wV 1<|wO Z<|eX a 4 Z 3 (.slice m ((bw j i).length) n) λ_ a=>nA<|wN<|bN<|tN<|rE<|cG<|nT<|dd<|sR<|bf<|nT<|cO<|nh<|kT<|cO<|cW<|sR<|je<|nT<|bJ a [4,8] fn [0,1,2,3,5,6,4,7,8] λ_ a=>wV 6<|wO Z<|let b:=(a.az [5,1]);let:=iP j h;cZ (rO D b) ?_;rintro _ _⟨c,d,g,rfl,w0,a⟩;refine nA<|wV 1<|wO Z<|eX a 5 Z 4 (.slice c ((bw j h).length) d) λ_ a=>nA<|wN<|bN<|tN<|rE<|cG<|nT<|dd<|sR<|bf<|nT<|cO<|B6<|ql<|xB<|tN<|sR<|cG<|let b:=(a.az [1,2,3,4,5]);have f:=GM (show X W _ (qM p S.cap t ((bw j l).length) u o ((bw j k).length) q m ((bw j i).length) n c ((bw j h).length) d::L::B::r::g::aW z #[I j] 3::H::F) from b);let a:gL [(bw j l),(bw j k),(bw j i),(bw j h)]=(((bw j l).length+(bw j k).length+(bw j i).length+(bw j h).length:Nat):Int):=(by unfold gL;simp only[acC,adA,ady,ae4];let h0:=(N).len;let h1:=(C).len;let Qz:=(s).len;let P:=(w0).len;omega);cZ (Hw (S:=⟨S.cap,[(bw j l),(bw j k),(bw j i),(bw j h)]⟩) (iJ N C s w0 Z Oz rD) f.aQ) ?_;rintro _ _⟨rfl,a⟩;let b:X W _ (qM p S.cap t ((bw j l).length) u o ((bw j k).length) q m ((bw j i).length) n c ((bw j h).length) d::L::B::r::g::aW z #[I j] 3::H::F):=XT (X.ak a);exact dP (gL [l,k,i,h]) (gL [(bw j l),(bw j k),(bw j i),(bw j h)])<|bf<|zE<|fc [I ((gL [l,k,i,h])-(gL [(bw j l),(bw j k),(bw j i),(bw j h)]))]<|(by let a:=(b.aj 5 Z);let b:=GM (show X W _ (qM p S.cap t ((bw j l).length) u o ((bw j k).length) q m ((bw j i).length) n c ((bw j h).length) d::L::B::r::g::H::F) from a);exact⟨_,_,rfl,by rw[R];exact iJ N C s w0 Z Oz NW,b⟩)
def XF{O:cj}(c:Int)(hc:1<=c/\c<=4096)(b:X W w O):
 Calls prog 71 #[I c] w λe a=>∃(p:Nat) (M:af),e=.returned (.tuple #[Pt p 0,I 0])/\uT p ⟨c,[[],[],[],[]]⟩ M/\X W a (M::O):=by
 exact aq 13 func71 Z<|Q 12<|sD 6 (c<1) (λa=>M3) λa=>JO 5<|cD (c>4096) (λa=>NY) λa=>Q 6<|eD b [I c,nS,nS,nS,nS] λa _ b=>RO 5 [Pt a 0,I 0]<|⟨_,_,rfl,⟨_,_,_,[],[],_,_,_,[],[],_,_,_,[],[],_,_,_,[],[],rfl,aF.nil fR,aF.nil fR,aF.nil fR,aF.nil fR,rfl,hc,by unfold gL;simp;omega⟩,b⟩
end
section
variable{W w:World}{H:af}{F:cj}
def Wx{L M:List Ref}:(∀r,L.count r<=M.count r)->L.length<=M.length:=by
 induction L generalizing M with
 |nil=>intro _;exact aeg _
 |cons x L a=>
  intro h;let hx:x∈M:=(by let:=h x;grind)
  let h1:=a (M:=M.erase x) (λr=>by
   grind)
  rw[List.length_erase_of_mem hx] at h1;let a:0<M.length:=List.length_pos_of_mem hx;exact JH
def FL(l:List DS)(r:Ref):Nat:=(l.map λd=>d.l.count r).sum
def cQ(bs:List (List Ref))(r:Ref):Nat:=(bs.map λl=>l.count r).sum
def AA(a b:Ref):Nat:=if a=b then 1 else 0
theorem NQ:∀{l:List DS} {k:Nat} {d d':DS} {r:Ref},l[k]?=some d->FL (l.set k d') r+d.l.count r=FL l r+d'.l.count r
 |[],_,_,_,_,h=>kv
 |x::l,0,d,d',r,h=>by
  obtain rfl:x=d:=by simp_all
  grind[FL]
 |x::l,k+1,d,d',r,h=>by
  let a:=NQ (l:=l) (k:=k) (d:=d) (d':=d') (r:=r) dV
  grind[FL]
variable{r:Ref}
theorem oa{a:Ref}:List.count r [a]=AA a r:=by
 grind[AA]
def JE:∀{bs:List (List Ref)} {b:Nat} {a r:Ref},b<bs.length->cQ (ru bs b a) r=cQ bs r+AA a r
 |[],_,_,_,h=>sZ
 |l::t,0,a,r,_=>by grind[ru,cQ,oa]
 |l::t,b+1,a,r,h=>by
  let c:=JE (bs:=t) (b:=b) (a:=a) (r:=r) dV
  grind[ru,cQ]
theorem NM:∀{bs bs':List (List Ref)} {a r:Ref},mC bs=some (a,bs')->cQ bs r=cQ bs' r+AA a r
 |[],_,_,_,h=>kv
 |[]::t,bs',a,r,h=>by
  unfold mC at h;cases hp:mC t with
  |none=>rw[hp] at h;cases h
  |some q=>
   rw[hp] at h;obtain⟨rfl,rfl⟩:=adn (ace h);let b:=NM (bs:=t) (bs':=q.2) (a:=q.1) (r:=r) hp;simp only[cQ,acC,ady,afh] at b⊢;omega
 |(x::l)::t,bs',a,r,h=>by
  unfold mC at h;obtain⟨rfl,rfl⟩:=adn (ace h)
  grind[cQ,AA]
def Fs:∀{bs:List (List Ref)} {b:Nat} {a:Ref},(ru bs b a).length=bs.length
 |[],_,_=>rfl
 |_::_,0,_=>rfl
 |l::t,b+1,a=>by simp only[ru,acu,Fs (bs:=t)]
def Gn:∀{bs:List (List Ref)} {b:Nat} {a:Ref},b<bs.length->gL (ru bs b a)=gL bs+1
 |[],_,_,h=>sZ
 |l::t,0,a,_=>by grind[gL,ru]
 |l::t,b+1,a,h=>by
  let c:=Gn (bs:=t) (b:=b) (a:=a) dV
  grind[gL,ru]
def JJ:∀{bs bs':List (List Ref)} {a:Ref},mC bs=some (a,bs')->bs'.length=bs.length
 |[],_,_,h=>kv
 |[]::t,bs',a,h=>by
  unfold mC at h;cases hp:mC t with
  |none=>rw[hp] at h;cases h
  |some q=>rw[hp] at h;obtain⟨rfl,rfl⟩:=adn (ace h);simp[JJ (bs:=t) (bs':=q.2) (a:=q.1) hp]
 |(x::l)::t,bs',a,h=>by unfold mC at h;grind
variable{b:Int}
def qD{q:QS}{a:Ref}(c:0<=b/\b<4)(c:q.bs.length=4)(hc:gL q.bs<q.cap):cQ (gk q a b).bs r=cQ q.bs r+AA a r/\(gk q a b).bs.length=4/\(gk q a b).cap=q.cap/\gL (gk q a b).bs=gL q.bs+1:=by
 let h:rz q=0:=by grind[rz]
 unfold gk;rw[aca h];exact⟨JE (by omega),by rw[Fs];exact c,rfl,Gn (by omega)⟩
def mJ(aD:List JS)(r:Ref):Bool:=decide (0<=r.bO)&&((aD.getD r.bO.toNat default).bg&&decide (fA (aD.getD r.bO.toNat default).B.st r.bE=2))
def gy(F:FS)(r:Ref):Nat:=FL F.dq r+cQ F.q.bs r
def Holds(v:kt):Prop:=v.bH=1\/v.bH=2\/v.bH=3
structure QI(F:FS):Prop where
 c:∀r,gy F r=(mJ F.aD r).toNat
 q4:F.q.bs.length=4
 cap:F.q.cap=F.cc.aN
 ld:fT F.aD<=F.cc.aN
structure HI(F:FS):Prop where
 h:∀(x:Nat) v,F.ws[x]?=some v->Holds v->∃j,F.aD[v.aw.toNat]?=some j/\j.dm=true/\fS j.B v.an v.aC=0
 d:∀(x y:Nat) v u,F.ws[x]?=some v->F.ws[y]?=some u->x≠y->Holds v->Holds u->¬(v.aw=u.aw/\v.an=u.an)
 z:∀(x:Nat) v,F.ws[x]?=some v->¬Holds v->v.aw=0/\v.an=0/\v.aC=0/\v.row=0/\(v.bH=0\/v.bH=4)
variable{k:Nat}
def lR{α:Type}{l:List α}{y:Nat}{x v:α}(h:(l.set k x)[y]?=some v):(k=y/\v=x)\/(k≠y/\l[y]?=some v):=by
 grind
def HI.lU{F a:FS}(h:HI F){x:Nat}{v':kt}(hw:a.ws=F.ws.set x v')
 (ha:∀(y:Nat) v,x≠y->F.ws[y]?=some v->Holds v->∃j,a.aD[v.aw.toNat]?=some j/\j.dm=true/\fS j.B v.an v.aC=0)
 (l:Holds v'->(∃j,a.aD[v'.aw.toNat]?=some j/\j.dm=true/\fS j.B v'.an v'.aC=0)/\∀(y:Nat) v,x≠y->F.ws[y]?=some v->Holds v->¬(v.aw=v'.aw/\v.an=v'.an))
 (hc:¬Holds v'->v'.aw=0/\v'.an=0/\v'.aC=0/\v'.row=0/\(v'.bH=0\/v'.bH=4)):HI a:=by
 refine⟨?_,?_,?_⟩
 ·intro y v hy f;rw[hw] at hy;rcases lR hy with⟨_,rfl⟩|⟨e,hy⟩
  ·exact(l f).1
  ·exact ha y v e hy f
 ·intro y z v u hy hz e f g;rw[hw] at hy hz;rcases lR hy with⟨d,a⟩|⟨d,i⟩
  ·rcases lR hz with⟨b,_⟩|⟨b,c⟩
   ·exact absurd (d.symm.trans b) e
   ·subst a;intro k;exact(l f).2 z u b c g ⟨k.1.symm,k.2.symm⟩
  ·rcases lR hz with⟨b,a⟩|⟨b,c⟩
   ·subst a;exact(l g).2 y v d i f
   ·exact h.d y z v u i c e f g
 ·intro y v hy f;rw[hw] at hy;rcases lR hy with⟨_,rfl⟩|⟨e,hy⟩
  ·exact hc f
  ·exact h.z y v hy f
variable{aD:List JS}
def rM{k:Int}{j':JS}(a:0<=k)(a:k.toNat<aD.length):mJ (aD.set k.toNat j') r=if r.bO=k then(j'.bg&&decide (fA j'.B.st r.bE=2)) else mJ aD r:=by
 grind[mJ,default]
variable{j:JS}
theorem yr(h0:0<=r.bO)(a:aD[r.bO.toNat]?=some j):mJ aD r=(j.bg&&decide (fA j.B.st r.bE=2)):=by
 grind[mJ]
def EE(h:mJ aD r=true):0<=r.bO/\∃j,aD[r.bO.toNat]?=some j/\j.bg=true/\fA j.B.st r.bE=2:=by
 unfold mJ at h;let⟨h1,a⟩:=(ach _ _).mp h;let⟨b,c⟩:=(ach _ _).mp a;refine⟨acy h1,?_⟩;cases hj:aD[r.bO.toNat]? with
 |none=>
  rw[acp,hj] at b;cases b
 |some j=>rw[getD_some hj] at b c;exact⟨j,rfl,b,acy c⟩
variable{x y:Int}
def mX{s:aR}(h:fA s x=y)(hy:y≠0):0<=x/\x<(s.length:Int):=by
 grind[fA]
def BA{y z:Int}:∀{s:aR} {k:Nat},(idxOf y k s).count z=if(k:Int)<=z/\z<((k+s.length:Nat):Int)/\s.getD (z-k).toNat 0=y then 1 else 0
 |[],k=>by rw[ab9 (by grind)];rfl
 |x::s,k=>by
  have a:=BA (y:=y) (z:=z) (s:=s) (k:=k+1);simp only[idxOf,ad3,a,acu];by_cases hz:z=(k:Int)
  ·let h1:(z-(k:Int)).toNat=0:=by omega
   rw[ab9 (show ¬(((k+1:Nat):Int)<=z/\_) from λh=>by omega)];by_cases hx:x=y
   ·rw[aca hx,aca ⟨by omega,by omega,by simp_all⟩,hz];simp
   ·rw[ab9 hx,ab9 dV];simp
  ·have a:(if x=y then[((k:Nat):Int)] else[]).count z=0:=by
    split
    ·rw[List.count_cons,afh];exact mo
    ·rfl
   rw[a,aez];by_cases b:((k+1:Nat):Int)<=z
   ·have a:(z-(k:Int)).toNat=(z-((k+1:Nat):Int)).toNat+1:=by omega
    rw[a];simp only[List.getD_cons_succ];by_cases a:((k+1:Nat):Int)<=z/\z<((k+1+s.length:Nat):Int)/\s.getD (z-((k+1:Nat):Int)).toNat 0=y
    ·rw[aca a,aca ⟨by omega,by omega,a.2.2⟩]
    ·rw[ab9 a,ab9 (λh=>a ⟨b,by omega,h.2.2⟩)]
   ·rw[ab9 (λh=>b h.1),ab9 (λh=>by omega)]
def La{s:aR}{z:Int}:(idxOf 2 0 s).count z=if fA s z=2 then 1 else 0:=by
 rw[BA]
 grind[fA]
def Ez{p:Nat→Bool}{t:Int}:∀{n:Nat},(((List.range n).filter p).map λ(q:Nat)=>(q:Int)).count t=if 0≤t∧t<(n:Int)∧p t.toNat=true then 1 else 0
 |0=>by grind
 |n+1=>by
  rw[List.range_succ,aeo,acB,ad3,Ez (n:=n)]
  grind
variable{t:Int}
def Lk{s:aR}{D:List aR}:(Df s D).count t=if 0<=t/\t<(D.length:Int)/\mn s D t.toNat=true then 1 else 0:=Ez
def Ja{s:aR}{D:List aR}(a:s.length=D.length):fA (lY s D) t=if 0<=t/\t<(D.length:Int)/\mn s D t.toNat=true then 2 else fA s t:=by
 grind[lY,mn,fA]
def F8{s:aR}{D:List aR}(h0:0<=t)(h:mn s D t.toNat=true):fA s t=1:=by
 unfold mn at h;rw[ic _ h0]
 simp_all
def XL{bO:Int}{r:Ref}:∀{l:aR},(l.map λt=>(⟨bO,t⟩:Ref)).count r=if r.bO=bO then l.count r.bE else 0
 |[]=>by split<;>rfl
 |t::l=>by
  rw[acC,List.count_cons,XL (l:=l),List.count_cons];by_cases h1:r.bO=bO
  ·rw[aca h1,aca h1];congr 1;cases r;simp only at h1;subst h1;simp
  grind
def H9:Nat->List JS->List Ref
 |_,[]=>[]
 |k,j::l=>(if j.bg then(List.range j.aN.length).map (λ(t:Nat)=>(⟨(k:Int),(t:Int)⟩:Ref)) else[])++H9 (k+1) l
theorem iu{l:List JS}:fT (j::l)=(if j.bg then(j.aN.length:Int) else 0)+fT l:=by
 grind[fT]
def FE:∀{l:List JS} {k:Nat},(((H9 k l).length:Nat):Int)=fT l
 |[],_=>rfl
 |j::l,k=>by
  let a:=FE (l:=l) (k:=k+1)
  grind[iu,H9,List.length_append]
def FJ:∀{l:List JS} {k i:Nat} {j:JS} {t:Int},l[i]?=some j->j.bg=true->0<=t->t<(j.aN.length:Int)->(⟨((k+i:Nat):Int),t⟩:Ref)∈H9 k l
 |[],_,_,_,_,h,_,_,_=>kv
 |x::l,k,0,j,t,h,ha,h0,h1=>by
  obtain rfl:x=j:=by simp_all
  unfold H9;apply List.mem_append_left;rw[aca ha];exact acG.2 ⟨t.toNat,adW.2 Y,by grind⟩
 |x::l,k,i+1,j,t,h,ha,h0,h1=>by
  let a:=FJ (l:=l) (k:=k+1) (i:=i) (j:=j) (t:=t) dV ha h0 h1
  grind[H9]
def oO:∀{l:List JS} {k:Nat} {j j':JS},l[k]?=some j->j'.aN.length=j.aN.length->(j'.bg=true->j.bg=true)->fT (l.set k j')<=fT l
 |[],_,_,_,h,_,_=>kv
 |x::l,0,j,j',h,b,c=>by
  obtain rfl:x=j:=by simp_all
  rw[adZ,iu,iu,b]
  grind
 |x::l,k+1,j,j',h,b,c=>by
  let a:=oO (l:=l) (k:=k) (j:=j) (j':=j') dV b c
  grind[iu]
def Eh:∀{l:List JS} {k:Nat} {j j':JS},l[k]?=some j->j.bg=false->fT (l.set k j')=fT l+if j'.bg then(j'.aN.length:Int) else 0
 |[],_,_,_,h,_=>kv
 |x::l,0,j,j',h,b=>by
  obtain rfl:x=j:=by simp_all
  rw[adZ,iu,iu,b];simp[aeK]
 |x::l,k+1,j,j',h,b=>by
  let a:=Eh (l:=l) (k:=k) (j:=j) (j':=j') dV b
  grind[iu]
def CR{L:List Ref}(h1:∀r,L.count r<=1)(f:∀r∈L,0<=r.bO/\∃j,aD[r.bO.toNat]?=some j/\j.bg=true/\0<=r.bE/\r.bE<(j.aN.length:Int)):(L.length:Int)<=fT aD:=by
 rw[<-FE (k:=0)]
 let:L.length<=(H9 0 aD).length:=by
  apply Wx;intro r;by_cases e:r∈L
  ·exact(by let⟨h0,j,a,d,c,b⟩:=f r e;let e:=FJ (k:=0) (t:=r.bE) a d c b;rw[show(⟨((0+r.bO.toNat:Nat):Int),r.bE⟩:Ref)=r by cases r;grind] at e;grind)
  grind
 omega
variable{K:Int}
def CM{F:FS}(c:FW F K)(h:mJ F.aD r=true):0<=r.bO/\∃j,F.aD[r.bO.toNat]?=some j/\j.bg=true/\0<=r.bE/\r.bE<(j.aN.length:Int):=by
 let⟨h0,j,b,d,e⟩:=EE h;let a:=c.j j (ab8 b);let⟨c,b,_,_⟩:=a.b (a.r d);let a:=mX e fe;rw[c.ls,b] at a
 simp_all
def QI.rdy{F:FS}(h:QI F)(a:0<gy F r):mJ F.aD r=true:=by
 let h1:=h.c r
 grind
def QI.one{F:FS}(h:QI F)(r:Ref):gy F r<=1:=by rw[h.c r];cases mJ F.aD r<;>simp
def vA{bs:List (List Ref)}:bs.flatten.count r=cQ bs r:=by rw[List.count_flatten];rfl
theorem uj{bs:List (List Ref)}:gL bs=(bs.flatten.length:Int):=by grind[gL]
def QI.few{F:FS}(h:QI F)(c:FW F K){L:List Ref}(b:∀r,L.count r<=gy F r):(L.length:Int)<=fT F.aD:=by
 exact CR (λr=>adG (b r) (h.one r)) λr a=>(by let:=afj.2 a;exact CM c (h.rdy (by let:=b r;omega)))
def QI.small{F:FS}(h:QI F)(a:FW F K):gL F.q.bs<=fT F.aD:=by
 rw[uj];exact h.few a (λr=>by rw[vA];unfold gy;omega)
def Kl{a b:Ref}(h1:a.bO=b.bO)(c:a.bE=b.bE):a=b:=by cases a;simp_all
variable{B:BS}{i a:Int}
theorem GB(h1:Ah B i)(b:fA B.st i=3)(b:B.mZ.getD i.toNat 0=a):fS B i a=0:=by grind[fS]
def to{c:BS}(h:fS B i a=0)(b:c.aX=B.aX)(b:fA c.st i=fA B.st i)(ha:c.mZ.getD i.toNat 0=B.mZ.getD i.toNat 0):fS c i a=0:=by
 grind[fQ,GB,Ah]
def HI.Ce{F b:FS}(h:HI F){x:Nat}{j':JS}(a:F.aD[k]?=some j)(a:b.aD=F.aD.set k j')(a:j.dm=true->j'.dm=true)
 (a:∀(y:Nat) v,x≠y->F.ws[y]?=some v->Holds v->v.aw.toNat=k->fS j.B v.an v.aC=0->fS j'.B v.an v.aC=0):
 ∀(y:Nat) v,x≠y->F.ws[y]?=some v->Holds v->∃j,b.aD[v.aw.toNat]?=some j/\j.dm=true/\fS j.B v.an v.aC=0:=by
 intro y v hx hy b;obtain⟨a,h1,a,a⟩:=h.h y v hy b
 grind
def HI.same{F:FS}(h:HI F){x:Nat}:∀(y:Nat) v,x≠y->F.ws[y]?=some v->Holds v->∃j,F.aD[v.aw.toNat]?=some j/\j.dm=true/\fS j.B v.an v.aC=0:=λy v _ hy a=>h.h y v hy a
def start_eq(a:B.st.length=B.aX.length)(h:fA B.st t=2):eT B t=(⟨B.aX,B.st.set t.toNat 3,B.mZ⟩,B.mZ.getD t.toNat 0,0):=by
 let h1:=mX h fe
 grind[eT,Ah]
theorem jJ{s:aR}(a:0<=t)(h:x≠t):fA (s.set t.toNat y) x=fA s x:=by
 rw[oV,ab9 (λk=>h (by omega))]
theorem oR{s:aR}(a:0<=t/\t<(s.length:Int)):fA (s.set t.toNat y) t=y:=by
 rw[oV,aca ⟨by omega,by omega⟩]
def za{F F1:FS}{r0:Ref}(i:FW F K)(q:QI F)(h:HI F)(a:∀v,F.ws[x.toNat]?=some v->¬Holds v)
 (hc:∀r,gy F r=gy F1 r+AA r0 r) (a:F1.aD=F.aD) (hw:F1.ws=F.ws) (m:F1.q.bs.length=4/\F1.q.cap=F.cc.aN) (d:F1.cc=F.cc):
 QI (fV F1 x r0)/\HI (fV F1 x r0)/\∃j,F.aD[r0.bO.toNat]?=some j/\0<=r0.bO/\j.bg=true/\j.dm=true/\fA j.B.st r0.bE=2/\su j.B K/\fV F1 x r0={F1 with ws:=F.ws.set x.toNat ⟨1,r0.bO,r0.bE,j.B.mZ.getD r0.bE.toNat 0,0,0,(F1.ar.getD x.toNat default).high⟩,aD:=F.aD.set r0.bO.toNat {j with B:=⟨j.B.aX,j.B.st.set r0.bE.toNat 3,j.B.mZ⟩},st:={F1.st with ew:=F1.st.ew+1}}:=by
 have a:mJ F.aD r0=true:=by
  have h1:=hc r0;have o:=q.c r0
  grind[mJ,AA]
 obtain⟨h0,j,g,f,c⟩:=EE a;have b:=i.j j (ab8 g);have ha:=b.r f;obtain⟨n,a,a⟩:=b.b ha;have l:=mX c fe;have a:=start_eq n.ls c;have e:dE F1 r0.bO=j:=by grind[dE]
 have a:=(aci.1 g).1;have i:fV F1 x r0={F1 with ws:=F.ws.set x.toNat ⟨1,r0.bO,r0.bE,j.B.mZ.getD r0.bE.toNat 0,0,0,(F1.ar.getD x.toNat default).high⟩,aD:=F.aD.set r0.bO.toNat {j with B:=⟨j.B.aX,j.B.st.set r0.bE.toNat 3,j.B.mZ⟩},st:={F1.st with ew:=F1.st.ew+1}}:=(by unfold fV;simp_all);refine⟨?_,?_,j,g,h0,f,ha,c,n,i⟩
 ·rw[i];refine⟨?_,m.1,m.2.trans (acd mi.aN d.symm),?_⟩;rotate_left
  ·exact(by show fT (F.aD.set r0.bO.toNat _)<=F1.cc.aN;rw[d];exact aeA (oO g Z (λh=>h)) q.ld)
  intro r;show gy F1 r=(mJ (F.aD.set r0.bO.toNat _) r).toNat;rw[rM h0 a];have h1:=hc r;have o:=q.c r;by_cases b:r.bO=r0.bO
  ·rw[aca b];rw[yr Y (by rw[b];exact g),f] at o;dsimp only;rw[f];by_cases c:r.bE=r0.bE
   ·exact(by have a:r0=r:=Kl b.symm c.symm;subst a;rw[oR l];grind[AA])
   ·exact(by rw[jJ l.1 c];grind[AA])
  ·exact(by grind[AA])
 ·refine h.lU (x:=x.toNat) (v':=⟨1,r0.bO,r0.bE,j.B.mZ.getD r0.bE.toNat 0,0,0,(F1.ar.getD x.toNat default).high⟩) (by rw[i]) ?_ ?_ (λk=>absurd (.inl Z) k)
  ·exact h.Ce (k:=r0.bO.toNat) (j':={j with B:=⟨j.B.aX,j.B.st.set r0.bE.toNat 3,j.B.mZ⟩}) g (by rw[i]) (λh=>h) λy v hy b hh c a=>(by have f:=(fQ a).2.1;have d:v.an≠r0.bE:=(by grind);exact to a Z (jJ l.1 d) Z)
  ·intro _;refine⟨⟨{j with B:=⟨j.B.aX,j.B.st.set r0.bE.toNat 3,j.B.mZ⟩},?_,ha,?_⟩,?_⟩
   ·rw[i];exact gW g
   ·exact GB (B:=⟨j.B.aX,j.B.st.set r0.bE.toNat 3,j.B.mZ⟩) ⟨l.1,by rw[<-n.ls];exact l.2⟩ (oR l) Z
   ·exact(by intro y v hy b hh c;obtain⟨a,h1,o,f⟩:=h.h y v b hh;have b:v.aw=r0.bO:=c.1;have a:v.an=r0.bE:=c.2;rw[b,g] at h1;obtain rfl:=ace h1;have d:=(fQ f).2.1;simp_all)
theorem B5{F:FS}{d d':DS}(h:F.dq[k]?=some d):gy {F with dq:=F.dq.set k d'} r+d.l.count r=gy F r+d'.l.count r:=by
 grind[NQ,gy]
variable{l:List Ref}
def HC{a:Ref}(h:l.getLast?=some a):l.count r=l.dropLast.count r+AA a r:=by
 have h1:l=l.dropLast++[a]:=by
  cases l with
  |nil=>cases h
  |cons x l=>
   have b:(x::l).getLast (by simp)=a:=by grind
   rw[<-b];exact(List.dropLast_concat_getLast (by simp)).symm
 grind[oa]
def G4{a:Ref}(h:l.head?=some a):l.count r=l.tail.count r+AA a r:=by
 cases l with
 |nil=>cases h
 |cons x l=>
  obtain rfl:=ace h;have:List.count r (x::l)=List.count r [x]+List.count r l:=by grind
  rw[this,oa,List.tail_cons];omega
def xo{F:FS}(a:FW F K)(hx:0<=x/\x<(F.ws.length:Int)):F.dq[x.toNat]?=some (gD F x):=by
 unfold gD;let h1:x.toNat<F.dq.length:=by rw[a.dl];omega
 simp_all
def Iz{F:FS}{d:DS}{a:Ref}(b:F.dq[x.toNat]?=some d)(h:∀r,d.l.count r=l.count r+AA a r):gy F r=gy {F with dq:=F.dq.set x.toNat {d with l:=l}} r+AA a r:=by
 grind[B5]
def Th {F F':FS} {c:Int} {ev:oC} (hF:FW F K) (q:QI F) (h:HI F) (hx:0<=x/\x<(F.ws.length:Int)) (hv:∀v,F.ws[x.toNat]?=some v->¬Holds v) (he:nu F x c=some (F',ev)):
  QI F'/\HI F'/\∃(r0:Ref) (j:JS),F.aD[r0.bO.toNat]?=some j/\0<=r0.bO/\j.bg=true/\j.dm=true/\fA j.B.st r0.bE=2/\su j.B K/\(∃hh:Int,F'.ws=F.ws.set x.toNat ⟨1,r0.bO,r0.bE,j.B.mZ.getD r0.bE.toNat 0,0,0,hh⟩)/\F'.aD=F.aD.set r0.bO.toNat {j with B:=⟨j.B.aX,j.B.st.set r0.bE.toNat 3,j.B.mZ⟩}/\
   (ev=⟨3,x,0,0,r0.bO,r0.bE,0⟩\/ev=⟨4,x,0,0,r0.bO,r0.bE,0⟩\/∃f:Int,0<=f/\f<(F.ws.length:Int)/\f≠x/\ev=⟨5,x,f,0,r0.bO,r0.bE,0⟩):=by 
 unfold nu at he;split at he
 · exact (by  rename_i r hr;obtain ⟨rfl,rfl⟩:=adn (ace he);obtain ⟨a1,a2,j,b1,b2,b3,b4,b5,b6,b7⟩:=za (F1:=ou F x (gD F x).l.dropLast) (x:=x) (r0:=r) hF q h hv (λy=>Iz (xo hF hx) (λr=>HC hr)) Z Z ⟨q.q4,q.cap⟩ rfl;grind)
 ·rename_i hlast;split at he
  · exact (by  rename_i r bs hq;obtain ⟨rfl,rfl⟩:=adn (ace he);obtain ⟨a1,a2,j,b1,b2,b3,b4,b5,b6,b7⟩:=za (F1:={F with q:={F.q with bs:=bs}}) (x:=x) (r0:=r) hF q h hv (λy=>by  grind [NM,gy]) Z Z ⟨by  rw [show ({F with q:={F.q with bs:=bs}}:FS).q.bs=bs from rfl,JJ hq];exact q.q4,q.cap⟩ rfl;grind)
  ·unfold oA at he;split at he
   ·cases he
   ·rename_i i hi;split at he
    ·cases he
    ·rename_i r hr;obtain ⟨rfl,rfl⟩:=adn (ace he);have hb:=vP (F:=F) (c:=c) (i:=i) hF.n.1;obtain ⟨a1,a2,j,b1,b2,b3,b4,b5,b6,b7⟩:=za (F1:=ou F (oE F c i) (gD F (oE F c i)).l.tail) (x:=x) (r0:=r) hF q h hv (λy=>Iz (xo hF hb) (λr=>G4 hr)) Z Z ⟨q.q4,q.cap⟩ rfl;refine ⟨⟨a1.c,a1.q4,a1.cap,a1.ld⟩,⟨a2.h,a2.d,a2.z⟩,r,j,b1,b2,b3,b4,b5,b6,⟨((ou F (oE F c i) (gD F (oE F c i)).l.tail).ar.getD x.toNat default).high,?_⟩,?_, .inr (.inr ⟨oE F c i,hb.1,hb.2,?_,rfl⟩)⟩
     ·show (fV _ x r).ws=_;rw [b7]
     ·show (fV _ x r).aD=_;rw [b7]
     · exact (by  grind [gD,List.getLast?_eq_none_iff])
def LQ{x bO cC K C:Int}(hb:0<=cC/\cC<4)(l:aR):∀{F:FS},FW F K->(0<=x/\x<(F.ws.length:Int))->F.q.bs.length=4->F.q.cap=C->gL F.q.bs+l.length<=C->(∀t∈l,ix (cY F.aD) ⟨bO,t⟩)->
 (∀r,gy (gi F x bO cC l) r=gy F r+(l.map λt=>(⟨bO,t⟩:Ref)).count r)/\(gi F x bO cC l).q.bs.length=4/\(gi F x bO cC l).q.cap=C:=by
 induction l with
 |nil=>intro F _ _ h4 hc _ _;exact⟨λr=>by rfl,h4,hc⟩
 |cons t l ih=>
  intro F hF hx h4 hc ht hr;let h0:=hr t acT;simp only[acu] at ht;let hd:=xo hF hx
  let h1:FW (gb F x ⟨bO,t⟩ cC) K/\(gb F x ⟨bO,t⟩ cC).aD=F.aD/\(gb F x ⟨bO,t⟩ cC).ws=F.ws/\(∀r,gy (gb F x ⟨bO,t⟩ cC) r=gy F r+AA ⟨bO,t⟩ r)/\(gb F x ⟨bO,t⟩ cC).q.bs.length=4/\(gb F x ⟨bO,t⟩ cC).q.cap=C/\gL (gb F x ⟨bO,t⟩ cC).q.bs<=gL F.q.bs+1:=by
   unfold gb;split
   ·exact(by rename_i hp;refine⟨hF.sd (BB h0 (hF.dr x)),rfl,rfl,?_,h4,hc,by dsimp only;omega⟩;intro r;let h2:=B5 (d':=nG (gD F x) ⟨bO,t⟩) (r:=r) hd;let h3:(nG (gD F x) ⟨bO,t⟩).l=(gD F x).l++[⟨bO,t⟩]:=(by grind[nG,ue,gD]);grind[oa,gy,nG,gD])
   ·exact(by let⟨_,g2,g3,g4⟩:=qD (a:=(⟨bO,t⟩:Ref)) (r:=⟨0,0⟩) hb h4 Y;refine⟨(hF.sq (oS h0 hF.q)).ss,rfl,rfl,?_,g2,g3.trans hc,by simp_all⟩;intro r;let:=(qD (a:=(⟨bO,t⟩:Ref)) (r:=r) hb h4 Y).1;unfold gy;exact rD)
  let⟨a1,a2,a3,a4,a5,a6,a7⟩:=h1;let⟨b1,b2,b3⟩:=ih a1 dV a5 a6 Y dV;let a0:gi F x bO cC (t::l)=gi (gb F x ⟨bO,t⟩ cC) x bO cC l:=by rfl
  rw[a0];refine⟨?_,b2,b3⟩;intro r;rw[b1,a4,acC];let:List.count r ((⟨bO,t⟩:Ref)::l.map λt=>(⟨bO,t⟩:Ref))=List.count r [(⟨bO,t⟩:Ref)]+List.count r (l.map λt=>(⟨bO,t⟩:Ref)):=by grind
  rw[this,oa];omega
def NB(h:fS B i a=0):fG B i a=(⟨B.aX,lY (B.st.set i.toNat 4) B.aX,B.mZ⟩,Df (B.st.set i.toNat 4) B.aX):=by unfold fG;simp_all
def Su{z:Int}(a:B.st.length=B.aX.length)(hi:fA B.st i=3):
 (if fA (lY (B.st.set i.toNat 4) B.aX) z=2 then 1 else 0)=(if fA B.st z=2 then 1 else 0)+(Df (B.st.set i.toNat 4) B.aX).count z:=by
 let b:=mX hi fe;rw[Ja dV,Lk];by_cases h:0<=z/\z<(B.aX.length:Int)/\mn (B.st.set i.toNat 4) B.aX z.toNat=true
 ·exact(by rw[aca h,aca h];let h1:=F8 h.1 h.2.2;let a:z≠i:=(by grind[oR]);rw[jJ b.1 a] at h1;simp_all)
 ·rw[ab9 h,ab9 h];by_cases a:z=i
  ·subst a;rw[oR b,hi];rfl
  ·rw[jJ b.1 a];rfl
def Qk(c:B.st.length=B.aX.length)(h:fS B i a=0)(f:fS B t b=0)(e:t≠i):fS (fG B i a).1 t b=0:=by
 rw[NB h];let d:=(fQ h).2.1;let c:=(fQ f).2.1;let c:=mX d fe;refine to f Z ?_ Z;dsimp only;rw[Ja dV,ab9,jJ c.1 e];intro k;let h1:=F8 k.1 k.2.2
 grind[jJ]
def wB{s:aR}(h:(s.filter λx=>decide (x=4)).length=s.length):∀x∈s,x=4:=by
 exact wS
def K3(c:su B K)(b:bT B=(B.aX.length:Int))(z:Int):fA B.st z≠2:=by
 intro h;let a:=c.ls;unfold bT at b;let a:=wB (s:=B.st) (by omega);let h1:=mX h fe
 grind[ic,px]
def sb{b:Bool}{p:Prop}[Decidable p]:(b&&decide p).toNat=if b=true then(if p then 1 else 0) else 0:=by
 grind
theorem lK{x bO cC:Int}:∀(l:aR) {F:FS},(gi F x bO cC l).cc=F.cc
 |[],_=>rfl
 |t::l,F=>by
  let h:(gb F x ⟨bO,t⟩ cC).cc=F.cc:=by unfold gb;split<;>rfl
  exact(lK l).trans h
def Bx{F:FS}{v:kt}(hF:FW F K)(hK:K+1<=4096)(q:QI F)(h:HI F)(hx:0<=x/\x<(F.ws.length:Int))(hv:F.ws[x.toNat]?=some v)(hh:Holds v)(hj:F.aD[v.aw.toNat]?=some j)(hrun:j.bg=true):
 QI (dn F x).1/\HI (dn F x).1:=by
 have hw:=hF.w v (ab8 hv);obtain⟨j2,c1,c2,c3⟩:=h.h _ v hv hh;rw[hj] at c1;obtain rfl:=ace c1;have hJ:=hF.j j (ab8 hj);obtain⟨hW,hd,hb⟩:=hJ.b c2;have e:dE F v.aw=j:=getD_some hj;have i0:=λk (hk:Holds v)=>h.h k v;unfold dn;simp only[getD_some hv,e];by_cases p1:v.bH=1
 ·exact(by rw[aca p1];refine⟨⟨q.c,q.q4,q.cap,q.ld⟩,h.lU (x:=x.toNat) Z h.same (λ_=>⟨⟨j,hj,c2,c3⟩,?_⟩) (λk=>absurd (.inr (.inl Z)) k)⟩;exact Vn)
 ·rw[ab9 p1];by_cases p2:v.bH=2
  ·exact(by rw[aca p2];refine⟨⟨q.c,q.q4,q.cap,q.ld⟩,h.lU (x:=x.toNat) Z h.same (λ_=>⟨⟨j,hj,c2,c3⟩,?_⟩) (λk=>absurd (by grind[Holds]) k)⟩;exact Vn)
  ·rw[ab9 p2];have hz:=fQ c3;have hm:=hF.mono (L:=K+1) Y hK;have k2:=hw.h;have hO:x9 (K+1) {j with B:=(fG j.B v.an v.aC).1}:=⟨hJ.n,λ_=>⟨(yW hW).mono Y,by rw[rm];exact hd,hb⟩,λ_=>c2⟩;have f0:=(((hm.sj (k:=v.aw.toNat) (j':={j with B:=(fG j.B v.an v.aC).1}) hj Z Z hO).sa (k:=x.toNat) (a:=tv (F.ar.getD x.toNat default))).sw (k:=x.toNat) (v:=⟨0,0,0,0,0,0,(tv (F.ar.getD x.toNat default)).high⟩) ⟨⟨ac2 0,show(0:Int)<64 by decide⟩,⟨ac2 0,hm.k.1⟩,λh=>ft⟩).ss (s:={F.st with dw:=F.st.dw+1});have j0:=lI (j':={j with B:=(fG j.B v.an v.aC).1}) hj Z Z;have m0:=q.small hF;have l0:=Cz (B:=j.B) (i:=v.an) (a:=v.aC);have hr:=hw.t hh;have c0:∀t∈(fG j.B v.an v.aC).2,ix (cY (F.aD.set v.aw.toNat {j with B:=(fG j.B v.an v.aC).1})) ⟨v.aw,t⟩:=(by intro t ht2;have h3:=Ha ht2;rw[j0];obtain⟨_,_,_,m,d0,_⟩:=hr;refine⟨k2.1,k2.2,h3.1,m,d0,?_⟩;grind[cY,d0]);have g0:=(aci.1 hj).1
   have a0:∀r,gy F r+((fG j.B v.an v.aC).2.map λt=>(⟨v.aw,t⟩:Ref)).count r=if r.bO=v.aw then(if fA (fG j.B v.an v.aC).1.st r.bE=2 then 1 else 0) else(mJ F.aD r).toNat:=by
    intro r;rw[q.c r,XL];by_cases e1:r.bO=v.aw
    ·exact(by rw[aca e1,aca e1,yr Y (by rw[e1];exact hj),sb,aca hrun,NB c3];exact(Su hW.ls hz.2.1).symm)
    simp_all
   have e0:gL F.q.bs+(((fG j.B v.an v.aC).2.length:Nat):Int)<=F.cc.aN:=by
    have h1:((F.q.bs.flatten++(fG j.B v.an v.aC).2.map λt=>(⟨v.aw,t⟩:Ref)).length:Int)<=fT F.aD:=by
     refine CR (λr=>?_) (λr hr=>?_)
     ·rw[ad3,vA];have h2:=a0 r;have h3:(mJ F.aD r).toNat<=1:=by cases mJ F.aD r<;>simp
      unfold gy at h2;split at h2
      ·split at h2<;>omega
      ·omega
     ·rcases acn.1 hr with hr|hr
      ·exact(by have:=afj.2 hr;rw[vA] at this;exact CM hF (q.rdy (by unfold gy;omega)))
      ·exact(by obtain⟨t,ht,rfl⟩:=acG.1 hr;have h3:=Ha ht;simp_all)
    rw[acm,acf] at h1;have:=q.ld;rw[uj];omega
   obtain⟨g1,g2,g3⟩:=LQ (x:=x) (bO:=v.aw) hb (fG j.B v.an v.aC).2 f0 dV q.q4 q.cap e0 c0;obtain⟨_,s2,s3,_,_⟩:=yz (x:=x) (bO:=v.aw) (cC:=j.cC) (fG j.B v.an v.aC).2 f0 c0;have hH:∀F':FS,F'.ws=F.ws.set x.toNat ⟨0,0,0,0,0,0,(tv (F.ar.getD x.toNat default)).high⟩->(∃j',F'.aD=F.aD.set v.aw.toNat j'/\j'.dm=true/\j'.B=(fG j.B v.an v.aC).1)->HI F':=(by rintro F' hw'⟨j',hj',ha',hB'⟩;refine h.lU (x:=x.toNat) hw' ?_ (λk=>QA) (λ_=>⟨rfl,rfl,rfl,rfl,.inl Z⟩);refine h.Ce hj hj' (λ_=>ha') λy u hy hu b0 hk k0=>?_;rw[hB'];have h0:u.an≠v.an:=(by intro k;have:=hF.w u (ab8 hu);exact h.d _ _ v u hv hu hy hh b0 ⟨by have:=this.h;omega,k.symm⟩);exact Qk hW.ls c3 k0 h0);split
   ·rename_i hdone;refine⟨⟨?_,g2,?_,?_⟩,hH _ s3 ⟨_,rfl,c2,rfl⟩⟩;rotate_left
    ·exact(by grind[lK])
    ·exact(by show fT (F.aD.set v.aw.toNat _)<=(gi _ x v.aw j.cC (fG j.B v.an v.aC).2).cc.aN;rw[lK];exact aeA (oO hj Z (λh=>kv)) q.ld)
    intro r;show gy (gi _ x v.aw j.cC (fG j.B v.an v.aC).2) r=(mJ (F.aD.set v.aw.toNat _) r).toNat;rw[g1 r,rM k2.1 g0];show gy F r+_=_;rw[a0 r];by_cases e1:r.bO=v.aw
    ·rw[aca e1,aca e1,ab9 (K3 (yW hW) (by rw[rm,hd];exact hdone) _)];rfl
    ·rw[ab9 e1,ab9 e1]
   ·refine⟨⟨?_,g2,?_,?_⟩,hH _ s3 ⟨_,s2,c2,rfl⟩⟩;rotate_left
    ·exact(by grind[lK])
    ·rw[s2,lK];exact aeA (oO hj Z (λh=>h)) q.ld
    intro r;rw[g1 r,s2,rM k2.1 g0];show gy F r+_=_;rw[a0 r];by_cases e1:r.bO=v.aw
    ·exact qj
    ·rw[ab9 e1,ab9 e1]
def O7{F:FS}{s:De}(q:QI F)(h:HI F)(hp:a=0\/a=4):QI (ot F x a s)/\HI (ot F x a s):=by
 refine⟨⟨q.c,q.q4,q.cap,q.ld⟩,h.lU (x:=x.toNat) (v':=⟨a,0,0,0,0,0,(p9 F x).high⟩) Z h.same (λk=>QA) (λ_=>⟨rfl,rfl,rfl,rfl,hp⟩)⟩
def I8:∀{l:List DS} {k:Nat} {d:DS} {r:Ref},l[k]?=some d->d.l.count r<=FL l r
 |[],_,_,_,h=>kv
 |x::l,0,d,r,h=>by
  obtain rfl:x=d:=by simp_all
  grind[FL]
 |x::l,k+1,d,r,h=>by
  let a:=I8 (l:=l) (k:=k) (d:=d) (r:=r) dV
  grind[FL]
def AX{C:Int}(l:List Ref):∀{q:QS},q.bs.length=4->q.cap=C->gL q.bs+l.length<=C->(∀r∈l,0<=(aD.getD r.bO.toNat default).cC/\(aD.getD r.bO.toNat default).cC<4)->
 (∀r,cQ (iX aD q l).bs r=cQ q.bs r+l.count r)/\(iX aD q l).bs.length=4/\(iX aD q l).cap=C:=by
 induction l with
 |nil=>intro q c hc _ _;exact⟨λr=>by rfl,c,hc⟩
 |cons t l h=>
  intro q c hc b g;simp only[acu] at b;let b:=g t acT;let h1:=λr=>qD (a:=t) (r:=r) b c Y;let e:iX aD q (t::l)=iX aD (gk q t (aD.getD t.bO.toNat default).cC) l:=by rfl
  rw[e];let⟨f,d,c⟩:=h (q:=gk q t (aD.getD t.bO.toNat default).cC) (h1 t).2.1 ((h1 t).2.2.1.trans hc) (by let:=(h1 t).2.2.2;omega) (λr b=>g r (ac7 _ b));refine⟨?_,d,c⟩;intro r;rw[f,(h1 r).1];let:List.count r (t::l)=List.count r [t]+List.count r l:=by grind
  rw[this,oa];omega
def Hj{y:Int}:∀{s:aR} {k:Nat},(idxOf y k s).length<=s.length
 |[],_=>acS _
 |x::s,k=>by
  let:=Hj (y:=y) (s:=s) (k:=k+1)
  grind[idxOf]
def KW{d C:Int}(f:0<=d/\d<4)(l:aR):∀{q:QS},q.bs.length=4->q.cap=C->gL q.bs+l.length<=C->
 (∀r,cQ (lG x d q l).bs r=cQ q.bs r+(l.map λt=>(⟨x,t⟩:Ref)).count r)/\(lG x d q l).bs.length=4/\(lG x d q l).cap=C:=by
 induction l with
 |nil=>intro q c hc _;exact⟨λr=>by rfl,c,hc⟩
 |cons t l g=>
  intro q c hc b;simp only[acu] at b;let h1:=λr=>qD (a:=(⟨x,t⟩:Ref)) (r:=r) f c Y;let e:lG x d q (t::l)=lG x d (gk q ⟨x,t⟩ d) l:=by rfl
  rw[e];let⟨f,c,b⟩:=g (q:=gk q ⟨x,t⟩ d) (h1 ⟨x,t⟩).2.1 ((h1 ⟨x,t⟩).2.2.1.trans hc) (by let:=(h1 ⟨x,t⟩).2.2.2;omega);refine⟨?_,c,b⟩;intro r;rw[f,(h1 r).1,acC];let:List.count r ((⟨x,t⟩:Ref)::l.map λt=>(⟨x,t⟩:Ref))=List.count r [(⟨x,t⟩:Ref)]+List.count r (l.map λt=>(⟨x,t⟩:Ref)):=by grind
  rw[this,oa];omega
def OS(h:fS B i a=0):jR B i a=⟨B.aX,B.st.set i.toNat 2,B.mZ.set i.toNat (a+1)⟩:=by unfold jR;simp_all
def PG(h:fS B i a=0)(g:fS B t b=0)(f:t≠i):fS (jR B i a) t b=0:=by
 rw[OS h];let c:=fQ h;let d:=fQ g;let e:0<=i:=c.1.1;let c:0<=t:=d.1.1;exact to g Z (jJ e f)<|qj
def R4{F:FS}{v:kt}(h:iM F v=false):kj F v=F:=by grind[kj]
def KI{F:FS}{v:kt}(hF:FW F K)(q:QI F)(h:HI F)(hx:0<=x/\x<(F.ws.length:Int))(hv:F.ws[x.toNat]?=some v):
 QI (pH (kj F v) x)/\HI (pH (kj F v) x):=by
 have hd:=xo hF hx;have k0:=q.cap;have s0:=q.ld
 have o0:gL F.q.bs+(gD F x).l.length<=F.cc.aN:=by
  have h1:=q.few hF (L:=F.q.bs.flatten++(gD F x).l) (λr=>by
   rw[ad3,vA];have:=I8 (r:=r) hd;unfold gy;omega)
  grind[List.length_append,uj]
 have b0:∀r∈(gD F x).l,0<=(F.aD.getD r.bO.toNat default).cC/\(F.aD.getD r.bO.toNat default).cC<4:=(by intro r hr;obtain⟨j,hj,_,_,_,b1,b2,_,_⟩:=hF.bO (hF.dr x r hr);simp_all);cases hb:iM F v with
 |false=>
  rw[R4 hb];obtain⟨d1,d2,d3⟩:=AX (aD:=F.aD) (gD F x).l q.q4 q.cap Y b0;refine⟨⟨?_,d2,d3,q.ld⟩,h.lU (x:=x.toNat) (v':=⟨4,0,0,0,0,0,(p9 F x).high⟩) Z h.same (λk=>by grind[Holds]) (λ_=>⟨rfl,rfl,rfl,rfl,.inr Z⟩)⟩;intro r;rw[<-show mJ F.aD r=mJ (pH F x).aD r from rfl,<-q.c r];have h1:=B5 (d':=⟨(gD F x).cap,[]⟩) (r:=r) hd;have h2:=d1 r;show FL (F.dq.set x.toNat ⟨(gD F x).cap,[]⟩) r+cQ (iX F.aD F.q (gD F x).l).bs r=gy F r;unfold gy at h1⊢;simp only[afh] at h1;omega
 |true=>
  unfold iM at hb;obtain⟨f0,d0⟩:=(ach _ _).mp hb;have hh:Holds v:=(acy f0:v.bH=1\/v.bH=2\/v.bH=3);have hw:=hF.w v (ab8 hv);obtain⟨j,hj,ha,hz⟩:=h.h _ v hv hh;have a0:j.bg=true:=by grind[dE,d0]
  have e:dE F v.aw=j:=getD_some hj;have hJ:=hF.j j (ab8 hj);obtain⟨hW,l0,g0⟩:=hJ.b ha;have eR:kj F v={F with aD:=F.aD.set v.aw.toNat {j with B:=jR j.B v.an v.aC},q:=gk F.q ⟨v.aw,v.an⟩ j.cC}:=(by grind[kj,iM]);have e0:=fQ hz;have i0:=mX e0.2.1 (by decide);have p0:=(aci.1 hj).1;have k2:=hw.h
  have j0:gL F.q.bs+(gD F x).l.length+1<=F.cc.aN:=by
   have h1:((F.q.bs.flatten++(gD F x).l++[(⟨v.aw,v.an⟩:Ref)]).length:Int)<=fT F.aD:=by
    refine CR (λr=>?_) (λr hr=>?_)
    ·rw[ad3,ad3,vA,oa];have h2:=I8 (r:=r) hd;have h3:=q.one r;have h4:=q.c r;unfold gy at h3 h4;unfold AA;split
     ·exact(by grind[yr])
     ·omega
    ·rcases acn.1 hr with hr|hr
     ·exact(by have:=afj.2 hr;rw[ad3,vA] at this;have h2:=I8 (r:=r) hd;exact CM hF (q.rdy (by unfold gy;omega)))
     ·exact(by obtain rfl:=ack.1 hr;have n0:fA j.B.st v.an=3:=e0.2.1;have h0:=mX n0 (by decide);rw[hW.ls,l0] at h0;simp_all)
   grind[List.length_append,List.length_singleton,uj]
  have p:=λr=>qD (a:=(⟨v.aw,v.an⟩:Ref)) (r:=r) g0 q.q4 Y
  have c0:∀r∈(gD F x).l,0<=((F.aD.set v.aw.toNat {j with B:=jR j.B v.an v.aC}).getD r.bO.toNat default).cC/\((F.aD.set v.aw.toNat {j with B:=jR j.B v.an v.aC}).getD r.bO.toNat default).cC<4:=by
   grind
  obtain⟨d1,d2,d3⟩:=AX (aD:=F.aD.set v.aw.toNat {j with B:=jR j.B v.an v.aC}) (gD F x).l (p ⟨0,0⟩).2.1 ((p ⟨0,0⟩).2.2.1.trans q.cap) (by have:=(p ⟨0,0⟩).2.2.2;omega) c0;rw[eR];refine⟨⟨?_,d2,d3,aeA (oO hj Z (λh=>h)) q.ld⟩,h.lU (x:=x.toNat) (v':=⟨4,0,0,0,0,0,(p9 F x).high⟩) Z ?_ (λk=>by grind[Holds]) (λ_=>⟨rfl,rfl,rfl,rfl,.inr Z⟩)⟩
  ·intro r;show FL (F.dq.set x.toNat ⟨(gD F x).cap,[]⟩) r+cQ (iX (F.aD.set v.aw.toNat {j with B:=jR j.B v.an v.aC}) (gk F.q ⟨v.aw,v.an⟩ j.cC) (gD F x).l).bs r=(mJ (F.aD.set v.aw.toNat {j with B:=jR j.B v.an v.aC}) r).toNat;rw[rM k2.1 p0];have h1:=B5 (d':=⟨(gD F x).cap,[]⟩) (r:=r) hd;have h2:=d1 r;have h3:=(p r).1;have h4:=q.c r;unfold gy at h1 h4;simp only[afh] at h1;by_cases e1:r.bO=v.aw
   ·rw[aca e1];dsimp only;rw[sb,aca a0,show(jR j.B v.an v.aC).st=j.B.st.set v.an.toNat 2 by rw[OS hz]];rw[yr Y (by rw[e1];exact hj),sb,aca a0] at h4;by_cases e2:r.bE=v.an
    ·exact(by rw[e2,oR i0,aca Z];rw[e2,e0.2.1] at h4;have e3:AA ⟨v.aw,v.an⟩ r=1:=(by unfold AA;rw[aca (Kl e1.symm e2.symm)]);simp_all)
    ·exact(by rw[jJ i0.1 e2];grind[AA])
   ·exact(by grind[AA])
  ·exact h.Ce hj (j':={j with B:=jR j.B v.an v.aC}) Z (λh=>h) λy u hy hu m0 hk r0=>(by have q0:u.an≠v.an:=(by intro k;have:=hF.w u (ab8 hu);exact h.d _ _ v u hv hu hy hh m0 ⟨by have:=this.h;omega,k.symm⟩);exact PG hz r0 q0)
def Uf{k:Int}{r:Ref}:∀{l:List DS},FL (l.map (QZ k)) r=if r.bO=k then 0 else FL l r
 |[]=>by split<;>rfl
 |d::l=>by
  let a:=Uf (k:=k) (r:=r) (l:=l);simp only[FL,acC,ady] at a⊢;rw[a]
  let h1:(QZ k d).l.count r=if r.bO=k then 0 else d.l.count r:=by
   unfold QZ bw;by_cases e:r.bO=k
   ·rw[aca e,List.count_eq_zero];intro h;let:=(aen.1 h).2;simp[e] at this
   simp_all
  grind
def Uh{k:Int}{r:Ref}:∀{l:List (List Ref)},cQ (l.map (bw k)) r=if r.bO=k then 0 else cQ l r
 |[]=>by split<;>rfl
 |d::l=>by
  let a:=Uh (k:=k) (r:=r) (l:=l);simp only[cQ,acC,ady] at a⊢;rw[a]
  let h1:(bw k d).count r=if r.bO=k then 0 else d.count r:=by
   unfold bw;by_cases e:r.bO=k
   ·rw[aca e,List.count_eq_zero];intro h;let:=(aen.1 h).2;simp[e] at this
   simp_all
  grind
def HI.jb{F a:FS}(h:HI F)(hw:a.ws=F.ws)(ha:∀(y:Nat) v,F.ws.length≠y->F.ws[y]?=some v->Holds v->∃j,a.aD[v.aw.toNat]?=some j/\j.dm=true/\fS j.B v.an v.aC=0):HI a:=
 ⟨λy v hy a=>by grind,by rw[hw];exact h.d,by rw[hw];exact h.z⟩
def H4{F:FS}{k:Int}(q:QI F)(h:HI F)(c:0<=k)(b:F.aD[k.toNat]?=some j):QI (nV F k)/\HI (nV F k):=by
 let e:dE F k=j:=getD_some b;let a:=(aci.1 b).1;refine⟨⟨?_,by simp only[nV,acf];exact q.q4,q.cap,aeA (oO b (by rw[e]) (λh=>kv)) q.ld⟩,h.jb Z ?_⟩
 ·intro r;show FL (F.dq.map (QZ k)) r+cQ (F.q.bs.map (bw k)) r=(mJ (F.aD.set k.toNat _) r).toNat;rw[Uf,Uh,rM c a];by_cases a:r.bO=k
  ·rw[aca a,aca a,aca a];rfl
  ·rw[ab9 a,ab9 a,ab9 a];exact q.c r
 ·refine h.Ce b (j':={j with bg:=false}) (by unfold nV;rw[e]) (λh=>h) (λy v _ _ _ _ hz=>hz)
def RD{F:FS}{c:Int}{l:List Task}(g:FW F K)(q:QI F)(h:HI F)(a:(l.length:Int)<=F.cc.aN-fT F.aD)(hx:0<=x)(b:0<=c/\c<4)(i:F.aD[x.toNat]?=some j)(ha:j.dm=false):QI (vK F x l c)/\HI (vK F x l c):=by
 let n:=(aci.1 i).1;let a:=q.small g;let a:=Hj (y:=2) (s:=(jw l).st) (k:=0);let a:(jw l).st.length=l.length:=by simp[jw]
 let⟨m,e,d⟩:=KW (x:=x) b (idxOf 2 0 (jw l).st) q.q4 q.cap Y
 let b:j.bg=false:=by
  cases f:j.bg with
  |false=>rfl
  |true=>let:=(g.j j (ab8 i)).r f;rw[ha] at this;cases this
 let a:fT (F.aD.set x.toNat (uQ l c))<=F.cc.aN:=(by rw[Eh i b];grind[uQ]);refine⟨⟨?_,e,d,a⟩,h.jb Z ?_⟩
 ·intro r;show FL F.dq r+cQ (lG x c F.q (idxOf 2 0 (jw l).st)).bs r=(mJ (F.aD.set x.toNat (uQ l c)) r).toNat;rw[m,rM hx n,XL];let b:=q.c r;unfold gy at b;by_cases a:r.bO=x
  ·rw[aca a,aca a,sb,aca (show(uQ l c).bg=true from rfl),La]
   let f:j.bg=false:=by
    omega
   rw[yr Y (by rw[a];exact i),f] at b;simp at b;show _=if fA (jw l).st r.bE=2 then 1 else 0
   omega
  ·rw[ab9 a,ab9 a];omega
 ·intro y v _ hy b;let⟨a,d,e,c⟩:=h.h y v hy b;refine⟨a,?_,e,c⟩;show(F.aD.set x.toNat _)[_]?=_;rw[acV,ab9]
  ·exact d
  ·intro k;rw[<-k,i] at d;obtain rfl:=ace d;rw[ha] at e;cases e
def Qg{F:FS}(q:QI F)(h:HI F):QI (Ee F x 0)/\HI (Ee F x 0):=
 ⟨⟨q.c,q.q4,q.cap,q.ld⟩,h.lU (x:=x.toNat) (v':=⟨0,0,0,0,0,0,(F.ar.getD x.toNat default).high⟩) Z h.same (λk=>QA) (λ_=>⟨rfl,rfl,rfl,rfl,.inl Z⟩)⟩
def Tq {c : mi} (hc : 0 <= c.aN) : QI (ma c) /\ HI (ma c) := by
  refine ⟨⟨?_, rfl, rfl, by have : fT (ma c).aD = 0 := rfl
                            rw [this]; exact hc⟩, ⟨?_, ?_, ?_⟩⟩
  · intro r
    let h1 : mJ (ma c).aD r = false := by
      unfold mJ ma;dsimp only
      have : (List.replicate 64 JS.zero).getD r.bO.toNat default = JS.zero := by
        rw [acp, aeR]; split <;> rfl
      rw [this]; simp [JS.zero]
    rw [h1]
    let a : FL (ma c).dq r = 0 := by
      unfold FL ma; simp
    unfold gy; rw [a]; simp [ma, cQ]
  · intro x v a hh;obtain rfl := ti a;unfold Holds at hh; dsimp only at hh; omega
  · intro x y v u a _ _ hh;obtain rfl := ti a;unfold Holds at hh; dsimp only at hh; omega
  · intro x v a _;obtain rfl := ti a;exact ⟨rfl, rfl, rfl, rfl, .inl Z⟩
end
end Go.Proofs.YtmfebppagcejcaaGreat
