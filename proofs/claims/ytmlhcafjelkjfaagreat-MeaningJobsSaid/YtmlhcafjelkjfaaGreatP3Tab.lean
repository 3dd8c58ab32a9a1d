import Derived.Test.YtmlhcafjelkjfaaGreatP3Ab
import Derived.WalkKit
import Derived.Deep.Quiet
import Derived.KernelRfl
import Derived.Laws.BytesString
import Derived.Laws.Shifts
import Derived.Laws.IdiomStrings
import Derived.Test.YtmlhcafjelkjfaaGreatProg
import Derived.Test.YtmlhcafjelkjfaaGreatP3Gr
namespace Go.Proofs.YtmlhcafjelkjfaaGreat
open Go Go.E Go.Proofs.Tryz
set_option linter.all false
set_option maxRecDepth 100000
set_option maxHeartbeats 2000000
variable {W w:World} {H:Chunk} {F:List Chunk}
def numB (z:Int):Prop:=-4611686018427387904<=z/\z<=4611686018427387904
theorem nb {z:Int} (h:numB z:=by unfold numB;first|omega|(dsimp only;omega)):numB z:=h
def tapB (t:Tap):Prop:=numB t.first/\t.weights.l.length<=9/\∀z∈t.weights.l,numB z
theorem mem_set {α:Type} {P:α->Prop} {l:List α} {i:Nat} {x:α} (h:∀z∈l,P z) (hx:P x):∀z∈l.set i x,P z:=by
  intro z hz
  rcases List.mem_or_eq_of_mem_set hz with h1|h1
  · exact h z h1
  · rw [h1];exact hx
theorem set_self_at {α:Type} {l:List α} {i:Nat} {x y:α} (h:(l.set i x)[i]?=some y):y=x:=by
  have hl:i<(l.set i x).length:=(List.getElem?_eq_some_iff.1 h).1
  rw [List.length_set] at hl
  rw [List.getElem?_set_self hl] at h
  exact (Option.some.inj h).symm
theorem tdiv_bd {a b A:Int} (ha:0<=a/\a<=A) (hb:0<b):0<=a.tdiv b/\a.tdiv b<=A:=by
  rw [Int.tdiv_eq_ediv_of_nonneg ha.1]
  refine ⟨Int.ediv_nonneg ha.1 (by omega),Int.le_trans (Int.ediv_le_self _ ha.1) ha.2⟩
theorem mem_snoc {α:Type} {P:α->Prop} {l:List α} {x:α} (h:∀z∈l,P z) (hx:P x):∀z∈l++[x],P z:=by
  intro z hz
  rcases List.mem_append.1 hz with h1|h1
  · exact h z h1
  · simp only [List.mem_singleton] at h1;rw [h1];exact hx
theorem r8_divide (W w:World) (H:Chunk) (F:List Chunk) (tot:Int) (ax:Option Addr) (nx kx:Nat) (x:List Int) (hx:RdT Go.E.encI 1 [H] ax nx kx x) (ht:0<=tot/\tot<=16384) (hp:∀z∈x,1<=z/\z<=16384) (h0:1<=nx/\nx<=200) (hS:Sat W w (H::F)):
  Calls prog 165 #[I tot, .slice ax nx kx] w fun e w'=>∃(az:Option Addr) (nz kz:Nat) (G:Chunk) (zs:List Int),e= .returned (.slice az nz kz)/\RdT Go.E.encI 1 [G] az nz kz zs/\(zs.length=nx/\∀z∈zs,numB z)/\Sat W w' (G::H::F):=by
 have hl_x:=hx.le;have hn_x:=hx.len
 refine callsA 96 func165 rfl<|sR<|pu1<|zS<|pu1<|zQ<|pu1<|nT<|blockE<|loopA (γ:=Nat×Int) (fun ⟨i,s⟩=>[(0,I tot),(1, .slice ax nx kx),(6,I (i:Int)),(5,I s)]) (fun ⟨i,s⟩ w=>Sat W w (H::F)/\i<=nx/\((i:Int)<=s/\s<=16384*(i:Int))) (fun ⟨i,s⟩=>nx-i) (0,0) ⟨hS,om,om⟩ ?_
 rintro ⟨i,s⟩ ρ _ ⟨i0,hi,hs⟩
 refine seqE<|sR<|pu4<|nT<|cD ((i:Int)<(nx:Int)) (fun k1=>?_) (fun k1=>?_)
 ·refine kT<|seqE<|blockE<|rE<|pu3<|sIdx hx (i:Int) runUnderlying22 sizeOf3 fun c0 _ _ n0 l1=>?_
  rw [Int.toNat_natCast] at n0
  have hp_x_4:=hp c0 (List.mem_of_getElem? n0);have hpm_x_4:=mul_bd (a:=tot) (b:=c0) (A:=16384) (B:=16384) om om
  exact sLp i0 (l1.up 0 rfl) 0 (I c0) (isAgg3 _)<|sAdd s c0<|pu1<|nB<|rE<|pu1<|sAdd (i:Int) 1<|pu1<|nT<|⟨(i+1,(s+c0)),od,alA,i0,om,om⟩
 refine exitE<|xB<|tN<|cutA (γ:=(Option Addr)×Chunk×(Option Addr)×Chunk) (fun ⟨a1,c1,a2,c2⟩=>[(0,I tot),(1, .slice ax nx kx),(5,I s),(7, .slice a1 nx nx),(8, .slice a2 nx nx)]) (fun ⟨a1,c1,a2,c2⟩ w=>Sat W w (c1::c2::H::F)/\OwnT Go.E.encI 3 1 a1 nx nx (List.replicate nx 0) c1/\OwnT Go.E.encI 3 1 a2 nx nx (List.replicate nx 0) c2) ?_ ?_
 ·refine drawP [2,5] [] (Plan.sts [0,1,3,4]<| .fk 2 5 (Plan.sts [6]<| .ef 5<|Plan.sts [7]<| .fin) (.ef 2<|Plan.sts [6,7]<| .fin)) rfl kr trivial ?_
  have o0:=i0.drew
  refine qU [0,1,3,4]<|qF ?_ ?_
  rotate_left
  ·refine qO rfl<|sMake (kl:= .i64) (kc:= .i64) (enc:=Go.E.encI) (sz:=1) (nb:=8) o0 0 nx (nx:Int) (rfl:(nx:Int)=(nx:Int)) underlying22 (i:=Tryz.t3) kr fR fun m1 n1 _ o1 p1=>nilO ⟨trivial,?_⟩
   refine qO rfl<|sMake (kl:= .i64) (kc:= .i64) (enc:=Go.E.encI) (sz:=1) (nb:=8) p1 0 nx (nx:Int) (rfl:(nx:Int)=(nx:Int)) underlying22 (i:=Tryz.t3) kr fR fun q1 r1 _ s1 t1=>nilO ⟨trivial,?_⟩
   exact qU [6,7]<|qN<|tN<|⟨((At q1 0),r1,(At m1 0),n1),alA,t1,s1,o1⟩
  refine qO rfl<|sMake (kl:= .i64) (kc:= .i64) (enc:=Go.E.encI) (sz:=1) (nb:=8) o0 0 nx (nx:Int) (rfl:(nx:Int)=(nx:Int)) underlying22 (i:=Tryz.t3) kr fR fun u1 v1 _ w1 x1=>nilO ⟨trivial,?_⟩
  refine qU [6]<|qO rfl<|sMake (kl:= .i64) (kc:= .i64) (enc:=Go.E.encI) (sz:=1) (nb:=8) x1 0 nx (nx:Int) (rfl:(nx:Int)=(nx:Int)) underlying22 (i:=Tryz.t3) kr fR fun y1 z1 _ b2 d2=>nilO ⟨trivial,?_⟩
  exact qU [7]<|qN<|tN<|⟨((At u1 0),v1,(At y1 0),z1),alA,(d2.pick 1 rfl),w1,b2⟩
 rintro ⟨a1,c1,a2,c2⟩ ρ _ ⟨f2,hO1,hO2⟩
 refine sR<|pu2<|zQ<|pu1<|nT<|blockE ?_
 refine loopA (γ:=Nat×Int×(List Int)×(Option Addr)×Nat×Nat×Chunk×(List Int)×(Option Addr)×Nat×Nat×Chunk) (fun ⟨i,lf,zs,azs,nzs,kzs,czs,ys,ays,nys,kys,cys⟩=>[(0,I tot),(1, .slice ax nx kx),(5,I s),(10,I (i:Int)),(9,I lf),(7, .slice azs nzs kzs),(8, .slice ays nys kys)]) (fun ⟨i,lf,zs,azs,nzs,kzs,czs,ys,ays,nys,kys,cys⟩ w=>Sat W w (czs::cys::H::F)/\i<=nx/\(∀z∈zs,0<=z/\z<=268435456+0)/\(lf<=tot/\-(268435456*(i:Int))<=lf)/\(zs.length=nx/\ys.length=nx)/\OwnT Go.E.encI 3 1 azs nzs kzs zs czs/\OwnT Go.E.encI 3 1 ays nys kys ys cys) (fun ⟨i,lf,zs,azs,nzs,kzs,czs,ys,ays,nys,kys,cys⟩=>nx-i) (0,tot,(List.replicate nx 0),a1,nx,nx,c1,(List.replicate nx 0),a2,nx,nx,c2) ⟨f2,om,by intro z hz;have:=List.eq_of_mem_replicate hz;omega,om,by simp,hO1,hO2⟩ ?_
 rintro ⟨i,lf,zs,azs,nzs,kzs,czs,ys,ays,nys,kys,cys⟩ ρ _ ⟨e0,hi,hZ,hlf,hzl,hOzs,hOys⟩
 have hn_zs:=hOzs.len;have hl_zs:=hOzs.le
 have hn_ys:=hOys.len;have hl_ys:=hOys.le
 refine seqE<|sR<|pu4<|nT<|cD ((i:Int)<(nx:Int)) (fun g2=>?_) (fun g2=>?_)
 ·refine kT<|seqE<|blockE<|seqE ?_
  obtain ⟨a0,f0,g0,p0,q0,r0⟩:=RdT.elem hx (i:Int)
  rw [Int.toNat_natCast] at p0
  have hp_x_36:=hp a0 (List.mem_of_getElem? p0);have hpm_x_36:=mul_bd (a:=tot) (b:=a0) (A:=16384) (B:=16384) om om;have hq_x_36:=tdiv_bd (a:=tot*a0) (b:=s) (A:=268435456) om om
  obtain ⟨s0,h2,i2,j0,j2,t0,k2⟩:=OwnT.elem hOzs (i:Int)
  rw [Int.toNat_natCast] at j0 j2 t0
  have hz_x_42:=hZ s0 (List.mem_of_getElem? j0)
  obtain ⟨l2,m2,n2,u0,o2,v0,p2⟩:=OwnT.elem hOys (i:Int)
  rw [Int.toNat_natCast] at u0 o2 v0
  refine drawE [21,23] [(8,⟨f0,g0,none⟩,I a0),(16,⟨f0,g0,none⟩,I a0)] [(true,[0,1,2,3,4,5,6]),(true,[7]),(true,[10,12,13,14]),(true,[15]),(true,[18]),(true,[8]),(true,[9]),(true,[11]),(true,[16]),(true,[17]),(true,[19]),(true,[20]),(false,[21]),(true,[22]),(false,[23])] rfl kr ⟨.inr ((q0.up 2 rfl).cell e0 (k:=0) rfl), .inr ((q0.up 2 rfl).cell e0 (k:=0) rfl),trivial⟩ ?_
  have q2:=e0.drew
  refine wU [0,1,2,3,4,5,6]<|wY (.pointer (some ⟨f0,g0,none⟩)) rfl (fun w _=>Y_idx (a:=ax) (i:=(i:Int)) (len:=nx) (cap:=kx) rfl runUnderlying22 sizeOf3 kr kr r0)<|wU [10,12,13,14]<|wY (.pointer (some ⟨f0,g0,none⟩)) rfl (fun w _=>Y_idx (a:=ax) (i:=(i:Int)) (len:=nx) (cap:=kx) rfl runUnderlying22 sizeOf3 kr kr r0)<|wU [18]<|wLd (I a0) 0 isAgg3<|wMul tot a0<|wQuo (tot*a0) s<|wLd (I a0) 1 isAgg3<|wMul tot a0<|wRem (tot*a0) s<|wY (.pointer (some ⟨h2,i2+i*1,none⟩)) rfl (fun w _=>Y_idx (a:=azs) (i:=(i:Int)) (len:=nzs) (cap:=kzs) rfl runUnderlying22 sizeOf3 kr kr t0)<|wO rfl ?_
  refine sStF q2 hOzs k2 0 i 0 s0 ((tot*a0).tdiv s) j0 (I ((tot*a0).tdiv s)) [I ((tot*a0).tdiv s)] sizeOf3 fun _ r2 w0 s2=>nilO ⟨dA,?_⟩
  refine wY (.pointer (some ⟨m2,n2+i*1,none⟩)) rfl (fun w _=>Y_idx (a:=ays) (i:=(i:Int)) (len:=nys) (cap:=kys) rfl runUnderlying22 sizeOf3 kr kr v0)<|wO rfl<|sStF s2 hOys p2 1 i 0 l2 ((tot*a0).tmod s) u0 (I ((tot*a0).tmod s)) [I ((tot*a0).tmod s)] sizeOf3 fun _ t2 u2 x0=>nilO ⟨dA,?_⟩
  refine wN<|tN<|rE<|pu3<|sIdxO w0 (i:Int) i runUnderlying22 sizeOf3 fun k0 _ _ v2 w2 _=>?_
  have he_x_65:=set_self_at v2
  refine sLp x0 (w2.up 0 rfl) 0 (I k0) (isAgg3 _)<|sSub lf k0<|pu1<|nB<|rE<|pu1<|sAdd (i:Int) 1<|pu1<|nT ?_
  exact ⟨(i+1,(lf-k0),(zs.set i ((tot*a0).tdiv s)),azs,nzs,kzs,r2,(ys.set i ((tot*a0).tmod s)),ays,nys,kys,t2),od,alA,x0,om,mem_set hZ (by first|omega|(refine ⟨?_,?_⟩<;>omega)),om,by simp;omega,w0,u2⟩
 refine exitE<|xB<|tN<|seqE<|blockE ?_
 refine loopA (γ:=Nat×Int×(List Int)×(Option Addr)×Nat×Nat×Chunk×(List Int)×(Option Addr)×Nat×Nat×Chunk) (fun ⟨u,lf,zs,azs,nzs,kzs,czs,ys,ays,nys,kys,cys⟩=>[(9,I lf),(7, .slice azs nzs kzs),(8, .slice ays nys kys)]) (fun ⟨u,lf,zs,azs,nzs,kzs,czs,ys,ays,nys,kys,cys⟩ w=>Sat W w (czs::cys::H::F)/\u<=16384/\(∀z∈zs,0<=z/\z<=268435456+(u:Int))/\((u:Int)+lf<=16384/\-(268435456*200)<=lf)/\(zs.length=nx/\ys.length=nx)/\OwnT Go.E.encI 3 1 azs nzs kzs zs czs/\OwnT Go.E.encI 3 1 ays nys kys ys cys) (fun ⟨u,lf,zs,azs,nzs,kzs,czs,ys,ays,nys,kys,cys⟩=>16384-u) (0,lf,zs,azs,nzs,kzs,czs,ys,ays,nys,kys,cys) ⟨e0,om,by intro z hz;have:=hZ z hz;omega,om,om,hOzs,hOys⟩ ?_
 rintro ⟨u,lf,zs,azs,nzs,kzs,czs,ys,ays,nys,kys,cys⟩ ρ _ ⟨y0,hu,hZ,hlf2,hzl,hOzs,hOys⟩
 have hn_zs:=hOzs.len;have hl_zs:=hOzs.le
 have hn_ys:=hOys.len;have hl_ys:=hOys.le
 refine seqE<|sR<|pu2<|nT<|cD (lf>0) (fun x2=>?_) (fun x2=>?_)
 rotate_left
 ·refine exitE<|xB<|tN<|sR<|pu2<|zE<|retT [.slice azs nzs kzs] ?_
  exact ⟨_,_,_,_,_,rfl,(hOzs.rdAt (cs:=[czs]) 0 rfl),⟨om,fun z hz=>by have h:=hZ z hz;unfold numB;omega⟩,(y0.dropAt 1 rfl)⟩
 refine kT<|seqE<|blockE<|sR<|pu1<|zQ<|pu1<|nT<|blockE<|loopA (γ:=Nat×Int) (fun ⟨k,best⟩=>[(9,I lf),(7, .slice azs nzs kzs),(8, .slice ays nys kys),(12,I (k:Int)),(11,I best)]) (fun ⟨k,best⟩ w=>Sat W w (czs::cys::H::F)/\k<=nx/\(0<=best/\best<(nx:Int))) (fun ⟨k,best⟩=>nx-k) (1,0) ⟨y0,om,om⟩ ?_
 rintro ⟨k,best⟩ ρ _ ⟨d0,hk,hbest⟩
 refine seqE<|sR<|pu4<|nT<|cD ((k:Int)<(nys:Int)) (fun z2=>?_) (fun z2=>?_)
 rotate_left
 ·refine exitE<|xB<|tN<|sR<|pu2<|sIdxO hOzs best (best).toNat runUnderlying22 sizeOf3 fun b0 _ _ z0 a3 _=>?_
  have hz_x_93:=hZ b0 (List.mem_of_getElem? z0)
  refine sLp d0 (a3.up 0 rfl) 0 (I b0) (isAgg3 _)<|sAdd b0 1<|sIdxO hOzs best (best).toNat runUnderlying22 sizeOf3 fun b3 _ _ b1 _ c3=>?_
  obtain rfl:b0=b3:=Option.some.inj (z0.symm.trans b1)
  refine sStF d0 hOzs c3 0 (best).toNat 0 b0 (b0+1) b1 (I (b0+1)) [I (b0+1)] sizeOf3 fun _ d3 e3 f3=>nT<|rE<|pu2<|sIdxO hOys best (best).toNat runUnderlying22 sizeOf3 fun g3 _ _ h3 _ i3=>sStF f3 hOys i3 1 (best).toNat 0 g3 (-1) h3 (I (-1)) [I (-1)] sizeOf3 fun _ j3 k3 l3=>nB<|rE<|pu1<|sSub lf 1<|pu1<|nT ?_
  exact ⟨(u+1,(lf-1),(zs.set ((best).toNat) (b0+1)),azs,nzs,kzs,d3,(ys.set ((best).toNat) (-1)),ays,nys,kys,j3),od,alA,l3,om,mem_set (fun z hz=>by have:=hZ z hz;omega) om,om,by simp;omega,e3,k3⟩
 refine kT<|seqE<|blockE<|seqE ?_
 obtain ⟨l0,d1,e1,m3,f1,g1,s4⟩:=OwnT.elem hOys (k:Int)
 rw [Int.toNat_natCast] at m3 f1 g1
 obtain ⟨m0,h1,i1,t4,n3,o3,u4⟩:=OwnT.elem hOys best
 refine drawE [] [(3,⟨d1,e1+k*1,none⟩,I l0),(7,⟨h1,i1+(best).toNat*1,none⟩,I m0)] [(true,[0,1]),(true,[2]),(true,[4,5]),(true,[6]),(true,[3]),(true,[7]),(true,[8])] rfl kr ⟨.inr ((f1.up 1 rfl).cell d0 (k:=0) rfl), .inr ((n3.up 1 rfl).cell d0 (k:=0) rfl),trivial⟩ ?_
 have j1:=d0.drew
 refine wU [0,1]<|wY (.pointer (some ⟨d1,e1+k*1,none⟩)) rfl (fun w _=>Y_idx (a:=ays) (i:=(k:Int)) (len:=nys) (cap:=kys) rfl runUnderlying22 sizeOf3 kr kr g1)<|wU [4,5]<|wY (.pointer (some ⟨h1,i1+(best).toNat*1,none⟩)) rfl (fun w _=>Y_idx (a:=ays) (i:=best) (len:=nys) (cap:=kys) rfl runUnderlying22 sizeOf3 kr kr o3)<|wLd (I l0) 0 isAgg3<|wLd (I m0) 1 isAgg3<|wU [8]<|wN<|tN<|cD (l0>m0) (fun p3=>?_) (fun p3=>?_)
 rotate_left
 ·exact skipE<|bN<|tN<|rE<|pu1<|sAdd (k:Int) 1<|pu1<|nT<|⟨(k+1,best),od,alA,j1,om,om⟩
 exact rE<|pu2<|nB<|rE<|pu1<|sAdd (k:Int) 1<|pu1<|nT<|⟨(k+1,(k:Int)),od,alA,j1,om,om⟩
theorem tdiv_abs {x d A:Int} (hx:-A<=x/\x<=A):-A<=x.tdiv d/\x.tdiv d<=A:=by
  have h:(x.tdiv d).natAbs<=x.natAbs:=by rw [Int.natAbs_tdiv];exact Nat.div_le_self _ _
  omega
theorem le_mul_pos {k m:Int} (hk:0<=k) (hm:1<=m):k<=k*m:=by
  have:=Int.mul_le_mul_of_nonneg_left hm hk
  omega
theorem r8_linear (W w:World) (H:Chunk) (F:List Chunk) (n0 m0 sh:Int) (hS:Sat W w (H::F)):
  Calls prog 116 #[I n0,I m0,I sh] w fun e w'=>∃(az:Option Addr) (nz kz:Nat) (zs:List Tap) (cd:Int) (c G:Chunk),e= .returned (.tuple #[.slice az nz kz,I cd])/\OwnT encTap 122 2 az nz kz zs c/\(∀z∈zs,Tap.Ok [G] z)/\((zs.length:Int)<=max m0 0/\∀z∈zs,tapB z)/\Sat W w' (G::c::H::F):=by
 refine callsA 80 func116 rfl<|sR<|pu2<|zQ<|pu1<|cR call164 (r8_side n0 hS.flat) fun _ e0=>pu2<|sDn 18 ((1:Int)<=n0/\n0<=(128:Int)) (fun h0=>?_) (fun h0=>?_)
 rotate_left
 ·refine pu4<|zC<|pu2<|zR<|retT [nS,I 8] ?_
  have i0:Sat W _ ([]::[]::H::F):=Sat.nilc (Sat.nilc e0)
  exact ⟨none,0,0,[],_,[],[],rfl,OwnT.nil fR,(fun z hz=>by cases hz),⟨by simp;omega,(fun z hz=>by cases hz)⟩,i0⟩
 refine pu1<|gY<|cR call164 (r8_side m0 e0.flat) fun _ c0=>pu2<|nT<|cDn ((1:Int)<=m0/\m0<=(128:Int)) (fun j0=>?_) (fun j0=>?_)
 rotate_left
 ·refine sR<|pu2<|zR<|retT [nS,I 8] ?_
  have k0:Sat W _ ([]::[]::H::F):=Sat.nilc (Sat.nilc c0)
  exact ⟨none,0,0,[],_,[],[],rfl,OwnT.nil fR,(fun z hz=>by cases hz),⟨by simp;omega,(fun z hz=>by cases hz)⟩,k0⟩
 refine kT<|seqE<|sR<|pu3<|sD 25 (sh<0) (fun l0=>?_) (fun l0=>?_)
 ·refine pu3<|zC<|pu2<|zR<|retT [nS,I 2] ?_
  have o0:Sat W _ ([]::[]::H::F):=Sat.nilc (Sat.nilc c0)
  exact ⟨none,0,0,[],_,[],[],rfl,OwnT.nil fR,(fun z hz=>by cases hz),⟨by simp;omega,(fun z hz=>by cases hz)⟩,o0⟩
 refine pu3<|nT<|cD (sh>14) (fun p0=>?_) (fun p0=>?_)
 ·refine sR<|pu2<|zR<|retT [nS,I 2] ?_
  have q0:Sat W _ ([]::[]::H::F):=Sat.nilc (Sat.nilc c0)
  exact ⟨none,0,0,[],_,[],[],rfl,OwnT.nil fR,(fun z hz=>by cases hz),⟨by simp;omega,(fun z hz=>by cases hz)⟩,q0⟩
 refine kS<|pu1<|zQ<|pu1<|nT<|blockE ?_
 have r0:=Sat.nilc c0
 have s0:=OwnT.nil (enc:=encTap) (E:=122) (sz:=2) fR
 refine loopA (γ:=Nat×(List Tap)×(Option Addr)×Nat×Nat×Chunk×Chunk) (fun ⟨i,zs,azs,nzs,kzs,czs,Gzs⟩=>[(0,I n0),(1,I m0),(2,I sh),(9,I (i:Int)),(8, .slice azs nzs kzs)]) (fun ⟨i,zs,azs,nzs,kzs,czs,Gzs⟩ w=>Sat W w (Gzs::czs::H::F)/\i<=m0.toNat/\(∀z∈zs,tapB z)/\(zs.length=i)/\OwnT encTap 122 2 azs nzs kzs zs czs/\(∀z∈zs,Tap.Ok [Gzs] z)) (fun ⟨i,zs,azs,nzs,kzs,czs,Gzs⟩=>m0.toNat-i) (0,[],none,0,0,[],[]) ⟨(Sat.nilc r0),om,(by intro z hz;cases hz),by rfl,s0,(by intro z hz;cases hz)⟩ ?_
 rintro ⟨i,zs,azs,nzs,kzs,czs,Gzs⟩ ρ _ ⟨d0,hi,hB,hzl,hOzs,hDzs⟩
 have hn_zs:=hOzs.len;have hl_zs:=hOzs.le
 refine seqE<|sR<|pu3<|nT<|cD ((i:Int)<m0) (fun u0=>?_) (fun u0=>?_)
 rotate_left
 ·exact exitE<|xB<|tN<|sR<|pu3<|zE<|retT [.slice azs nzs kzs,I 0]<|⟨_,_,_,zs,_,_,_,rfl,hOzs,hDzs,⟨om,hB⟩,d0⟩
 refine kT<|seqE<|blockE<|seqE ?_
 have hm1:=mul_bd (a:=((2*(i:Int))+1)) (b:=n0) (A:=257) (B:=128) om om
 refine rE<|pu1<|sMul 2 (i:Int)<|sAdd (2*(i:Int)) 1<|pu1<|sMul ((2*(i:Int))+1) n0<|pu1<|sSub (((2*(i:Int))+1)*n0) m0<|pu1<|sMul 2 m0<|pu2<|zS<|pu2<|sQuo ((((2*(i:Int))+1)*n0)-m0) (2*m0)<|pu1<|nT<|seqE<|seqE ?_
 have hq:=Int.mul_tdiv_add_tmod ((((2*(i:Int))+1)*n0)-m0) (2*m0);have hq1:=Int.tmod_lt_of_pos ((((2*(i:Int))+1)*n0)-m0) (by omega:0<(2*m0));have hq2:=Int.lt_tmod_of_pos ((((2*(i:Int))+1)*n0)-m0) (by omega:0<(2*m0));have hq3:=Int.mul_comm (((((2*(i:Int))+1)*n0)-m0).tdiv (2*m0)) (2*m0);have hq5:=tdiv_abs (x:=((((2*(i:Int))+1)*n0)-m0)) (d:=(2*m0)) (A:=65536) om;have hq6:(((((2*(i:Int))+1)*n0)-m0).tdiv (2*m0)-1)*(2*m0)=((((2*(i:Int))+1)*n0)-m0).tdiv (2*m0)*(2*m0)-(2*m0):=by rw [Int.sub_mul,Int.one_mul]
 refine rE<|pu2<|sMul (((((2*(i:Int))+1)*n0)-m0).tdiv (2*m0)) (2*m0)<|pu2<|nT<|cD (((((((2*(i:Int))+1)*n0)-m0).tdiv (2*m0))*(2*m0))>((((2*(i:Int))+1)*n0)-m0)) (fun v0=>?_) (fun v0=>?_)
 rotate_left
 ·refine kS<|pu1<|stepY (.int .u64 sh) rfl rfl (Y_conv (k:= .i64) (a:=sh) underlying3 underlying167 (wrapIn_u64 _ om) rfl kr)<|stepY (I (2^(sh).toNat)) rfl rfl (Y_shl1 (k':= .u64) sh rfl kr kr om)<|pu1<|nT<|seqE ?_
  have hp1:=pow2_pos sh.toNat;have hp2:=pow2_le (a:=sh.toNat) (b:=14) om
  have hm2:=mul_abs (a:=(2*(((((2*(i:Int))+1)*n0)-m0)-((((((2*(i:Int))+1)*n0)-m0).tdiv (2*m0))*(2*m0))))) (b:=(2^(sh).toNat)) (A:=2048) (B:=16384) om om
  have hq7:=tdiv_abs (x:=(((2*(((((2*(i:Int))+1)*n0)-m0)-((((((2*(i:Int))+1)*n0)-m0).tdiv (2*m0))*(2*m0))))*(2^(sh).toNat))+(2*m0))) (d:=(2*(2*m0))) (A:=67108864) om
  refine rE<|pu3<|sMul (((((2*(i:Int))+1)*n0)-m0).tdiv (2*m0)) (2*m0)<|sSub ((((2*(i:Int))+1)*n0)-m0) ((((((2*(i:Int))+1)*n0)-m0).tdiv (2*m0))*(2*m0))<|sMul 2 (((((2*(i:Int))+1)*n0)-m0)-((((((2*(i:Int))+1)*n0)-m0).tdiv (2*m0))*(2*m0)))<|pu1<|sMul (2*(((((2*(i:Int))+1)*n0)-m0)-((((((2*(i:Int))+1)*n0)-m0).tdiv (2*m0))*(2*m0)))) (2^(sh).toNat)<|pu1<|sAdd ((2*(((((2*(i:Int))+1)*n0)-m0)-((((((2*(i:Int))+1)*n0)-m0).tdiv (2*m0))*(2*m0))))*(2^(sh).toNat)) (2*m0)<|pu1<|sMul 2 (2*m0) ?_
  refine sQuo (((2*(((((2*(i:Int))+1)*n0)-m0)-((((((2*(i:Int))+1)*n0)-m0).tdiv (2*m0))*(2*m0))))*(2^(sh).toNat))+(2*m0)) (2*(2*m0))<|pu1<|nT<|rE<|pu4<|sSub (2^(sh).toNat) ((((2*(((((2*(i:Int))+1)*n0)-m0)-((((((2*(i:Int))+1)*n0)-m0).tdiv (2*m0))*(2*m0))))*(2^(sh).toNat))+(2*m0)).tdiv (2*(2*m0)))<|pu1 ?_
  refine sBS d0 #[I ((2^(sh).toNat)-((((2*(((((2*(i:Int))+1)*n0)-m0)-((((((2*(i:Int))+1)*n0)-m0).tdiv (2*m0))*(2*m0))))*(2^(sh).toNat))+(2*m0)).tdiv (2*(2*m0)))),I ((((2*(((((2*(i:Int))+1)*n0)-m0)-((((((2*(i:Int))+1)*n0)-m0).tdiv (2*m0))*(2*m0))))*(2^(sh).toNat))+(2*m0)).tdiv (2*(2*m0)))] runUnderlying22 sizeOf3 zeroValue3 fun a0 _ w0=>pu1<|sBS w0 #[I (((((2*(i:Int))+1)*n0)-m0).tdiv (2*m0)), .slice (At a0 0) 2 2] runUnderlying50 sizeOf122 zeroValue122 fun _ _ x0=>?_
  refine sApp (nb:=32) x0 hOzs 3 (RdT.blk (enc:=encTap) (sz:=2) (xs:=[(⟨(((((2*(i:Int))+1)*n0)-m0).tdiv (2*m0)),⟨(At a0 0),2,2,[((2^(sh).toNat)-((((2*(((((2*(i:Int))+1)*n0)-m0)-((((((2*(i:Int))+1)*n0)-m0).tdiv (2*m0))*(2*m0))))*(2^(sh).toNat))+(2*m0)).tdiv (2*(2*m0)))),((((2*(((((2*(i:Int))+1)*n0)-m0)-((((((2*(i:Int))+1)*n0)-m0).tdiv (2*m0))*(2*m0))))*(2^(sh).toNat))+(2*m0)).tdiv (2*(2*m0)))]⟩⟩:Tap)]) fR 1 0 rfl rfl rfl om) underlying50 (i:=Tryz.t122) kr fR fun y0 z0 f0 _ a1 b1=>pu1<|nB<|rE<|pu1<|sAdd (i:Int) 1<|pu1<|nT ?_
  have c1:=(b1.dropAt 0 rfl)
  have d1:=(Sat.perm (cs':=([(a0, .cells #[I ((2^(sh).toNat)-((((2*(((((2*(i:Int))+1)*n0)-m0)-((((((2*(i:Int))+1)*n0)-m0).tdiv (2*m0))*(2*m0))))*(2^(sh).toNat))+(2*m0)).tdiv (2*(2*m0)))),I ((((2*(((((2*(i:Int))+1)*n0)-m0)-((((((2*(i:Int))+1)*n0)-m0).tdiv (2*m0))*(2*m0))))*(2^(sh).toNat))+(2*m0)).tdiv (2*(2*m0)))] 3 (0,0))]++Gzs)::(f0::H::F)) c1 (by simp))
  exact ⟨(i+1,(zs++[(⟨(((((2*(i:Int))+1)*n0)-m0).tdiv (2*m0)),⟨(At a0 0),2,2,[((2^(sh).toNat)-((((2*(((((2*(i:Int))+1)*n0)-m0)-((((((2*(i:Int))+1)*n0)-m0).tdiv (2*m0))*(2*m0))))*(2^(sh).toNat))+(2*m0)).tdiv (2*(2*m0)))),((((2*(((((2*(i:Int))+1)*n0)-m0)-((((((2*(i:Int))+1)*n0)-m0).tdiv (2*m0))*(2*m0))))*(2^(sh).toNat))+(2*m0)).tdiv (2*(2*m0)))]⟩⟩:Tap)]),y0,(nzs+1),z0,f0,([(a0, .cells #[I ((2^(sh).toNat)-((((2*(((((2*(i:Int))+1)*n0)-m0)-((((((2*(i:Int))+1)*n0)-m0).tdiv (2*m0))*(2*m0))))*(2^(sh).toNat))+(2*m0)).tdiv (2*(2*m0)))),I ((((2*(((((2*(i:Int))+1)*n0)-m0)-((((((2*(i:Int))+1)*n0)-m0).tdiv (2*m0))*(2*m0))))*(2^(sh).toNat))+(2*m0)).tdiv (2*(2*m0)))] 3 (0,0))]++Gzs)),od,alA,d1,om,mem_snoc hB (show tapB (⟨(((((2*(i:Int))+1)*n0)-m0).tdiv (2*m0)),⟨(At a0 0),2,2,[((2^(sh).toNat)-((((2*(((((2*(i:Int))+1)*n0)-m0)-((((((2*(i:Int))+1)*n0)-m0).tdiv (2*m0))*(2*m0))))*(2^(sh).toNat))+(2*m0)).tdiv (2*(2*m0)))),((((2*(((((2*(i:Int))+1)*n0)-m0)-((((((2*(i:Int))+1)*n0)-m0).tdiv (2*m0))*(2*m0))))*(2^(sh).toNat))+(2*m0)).tdiv (2*(2*m0)))]⟩⟩:Tap) from ⟨by unfold numB;dsimp only;omega,by simp,by intro z hz;simp only [List.mem_cons,List.not_mem_nil,or_false] at hz;unfold numB;omega⟩),by simp;omega,a1,(by
    intro z hz
    rcases List.mem_append.1 hz with h|h
    ·exact (hDzs z h).of_mem mS
    ·simp only [List.mem_singleton] at h;subst h;exact ⟨(RdT.blk (cs:=[[(a0, .cells #[I ((2^(sh).toNat)-((((2*(((((2*(i:Int))+1)*n0)-m0)-((((((2*(i:Int))+1)*n0)-m0).tdiv (2*m0))*(2*m0))))*(2^(sh).toNat))+(2*m0)).tdiv (2*(2*m0)))),I ((((2*(((((2*(i:Int))+1)*n0)-m0)-((((((2*(i:Int))+1)*n0)-m0).tdiv (2*m0))*(2*m0))))*(2^(sh).toNat))+(2*m0)).tdiv (2*(2*m0)))] 3 (0,0))]]) (enc:=Go.E.encI) (sz:=1) (xs:=[((2^(sh).toNat)-((((2*(((((2*(i:Int))+1)*n0)-m0)-((((((2*(i:Int))+1)*n0)-m0).tdiv (2*m0))*(2*m0))))*(2^(sh).toNat))+(2*m0)).tdiv (2*(2*m0)))),((((2*(((((2*(i:Int))+1)*n0)-m0)-((((((2*(i:Int))+1)*n0)-m0).tdiv (2*m0))*(2*m0))))*(2^(sh).toNat))+(2*m0)).tdiv (2*(2*m0)))]) fR 2 0 rfl rfl rfl om).of_mem mS⟩)⟩
 refine rE<|pu1<|sSub (((((2*(i:Int))+1)*n0)-m0).tdiv (2*m0)) 1<|pu1<|zS<|pu1<|stepY (.int .u64 sh) rfl rfl (Y_conv (k:= .i64) (a:=sh) underlying3 underlying167 (wrapIn_u64 _ om) rfl kr)<|stepY (I (2^(sh).toNat)) rfl rfl (Y_shl1 (k':= .u64) sh rfl kr kr om)<|pu1<|nT<|seqE ?_
 have hp1:=pow2_pos sh.toNat;have hp2:=pow2_le (a:=sh.toNat) (b:=14) om
 have hm2:=mul_abs (a:=(2*(((((2*(i:Int))+1)*n0)-m0)-(((((((2*(i:Int))+1)*n0)-m0).tdiv (2*m0))-1)*(2*m0))))) (b:=(2^(sh).toNat)) (A:=2048) (B:=16384) om om
 have hq7:=tdiv_abs (x:=(((2*(((((2*(i:Int))+1)*n0)-m0)-(((((((2*(i:Int))+1)*n0)-m0).tdiv (2*m0))-1)*(2*m0))))*(2^(sh).toNat))+(2*m0))) (d:=(2*(2*m0))) (A:=67108864) om
 refine rE<|pu3<|sMul ((((((2*(i:Int))+1)*n0)-m0).tdiv (2*m0))-1) (2*m0)<|sSub ((((2*(i:Int))+1)*n0)-m0) (((((((2*(i:Int))+1)*n0)-m0).tdiv (2*m0))-1)*(2*m0))<|sMul 2 (((((2*(i:Int))+1)*n0)-m0)-(((((((2*(i:Int))+1)*n0)-m0).tdiv (2*m0))-1)*(2*m0)))<|pu1<|sMul (2*(((((2*(i:Int))+1)*n0)-m0)-(((((((2*(i:Int))+1)*n0)-m0).tdiv (2*m0))-1)*(2*m0)))) (2^(sh).toNat)<|pu1<|sAdd ((2*(((((2*(i:Int))+1)*n0)-m0)-(((((((2*(i:Int))+1)*n0)-m0).tdiv (2*m0))-1)*(2*m0))))*(2^(sh).toNat)) (2*m0)<|pu1<|sMul 2 (2*m0) ?_
 refine sQuo (((2*(((((2*(i:Int))+1)*n0)-m0)-(((((((2*(i:Int))+1)*n0)-m0).tdiv (2*m0))-1)*(2*m0))))*(2^(sh).toNat))+(2*m0)) (2*(2*m0))<|pu1<|nT<|rE<|pu4<|sSub (2^(sh).toNat) ((((2*(((((2*(i:Int))+1)*n0)-m0)-(((((((2*(i:Int))+1)*n0)-m0).tdiv (2*m0))-1)*(2*m0))))*(2^(sh).toNat))+(2*m0)).tdiv (2*(2*m0)))<|pu1 ?_
 refine sBS d0 #[I ((2^(sh).toNat)-((((2*(((((2*(i:Int))+1)*n0)-m0)-(((((((2*(i:Int))+1)*n0)-m0).tdiv (2*m0))-1)*(2*m0))))*(2^(sh).toNat))+(2*m0)).tdiv (2*(2*m0)))),I ((((2*(((((2*(i:Int))+1)*n0)-m0)-(((((((2*(i:Int))+1)*n0)-m0).tdiv (2*m0))-1)*(2*m0))))*(2^(sh).toNat))+(2*m0)).tdiv (2*(2*m0)))] runUnderlying22 sizeOf3 zeroValue3 fun b0 _ e1=>pu1<|sBS e1 #[I ((((((2*(i:Int))+1)*n0)-m0).tdiv (2*m0))-1), .slice (At b0 0) 2 2] runUnderlying50 sizeOf122 zeroValue122 fun _ _ f1=>?_
 refine sApp (nb:=32) f1 hOzs 3 (RdT.blk (enc:=encTap) (sz:=2) (xs:=[(⟨((((((2*(i:Int))+1)*n0)-m0).tdiv (2*m0))-1),⟨(At b0 0),2,2,[((2^(sh).toNat)-((((2*(((((2*(i:Int))+1)*n0)-m0)-(((((((2*(i:Int))+1)*n0)-m0).tdiv (2*m0))-1)*(2*m0))))*(2^(sh).toNat))+(2*m0)).tdiv (2*(2*m0)))),((((2*(((((2*(i:Int))+1)*n0)-m0)-(((((((2*(i:Int))+1)*n0)-m0).tdiv (2*m0))-1)*(2*m0))))*(2^(sh).toNat))+(2*m0)).tdiv (2*(2*m0)))]⟩⟩:Tap)]) fR 1 0 rfl rfl rfl om) underlying50 (i:=Tryz.t122) kr fR fun g1 h1 g0 _ i1 j1=>pu1<|nB<|rE<|pu1<|sAdd (i:Int) 1<|pu1<|nT ?_
 have k1:=(j1.dropAt 0 rfl)
 have l1:=(Sat.perm (cs':=([(b0, .cells #[I ((2^(sh).toNat)-((((2*(((((2*(i:Int))+1)*n0)-m0)-(((((((2*(i:Int))+1)*n0)-m0).tdiv (2*m0))-1)*(2*m0))))*(2^(sh).toNat))+(2*m0)).tdiv (2*(2*m0)))),I ((((2*(((((2*(i:Int))+1)*n0)-m0)-(((((((2*(i:Int))+1)*n0)-m0).tdiv (2*m0))-1)*(2*m0))))*(2^(sh).toNat))+(2*m0)).tdiv (2*(2*m0)))] 3 (0,0))]++Gzs)::(g0::H::F)) k1 (by simp))
 exact ⟨(i+1,(zs++[(⟨((((((2*(i:Int))+1)*n0)-m0).tdiv (2*m0))-1),⟨(At b0 0),2,2,[((2^(sh).toNat)-((((2*(((((2*(i:Int))+1)*n0)-m0)-(((((((2*(i:Int))+1)*n0)-m0).tdiv (2*m0))-1)*(2*m0))))*(2^(sh).toNat))+(2*m0)).tdiv (2*(2*m0)))),((((2*(((((2*(i:Int))+1)*n0)-m0)-(((((((2*(i:Int))+1)*n0)-m0).tdiv (2*m0))-1)*(2*m0))))*(2^(sh).toNat))+(2*m0)).tdiv (2*(2*m0)))]⟩⟩:Tap)]),g1,(nzs+1),h1,g0,([(b0, .cells #[I ((2^(sh).toNat)-((((2*(((((2*(i:Int))+1)*n0)-m0)-(((((((2*(i:Int))+1)*n0)-m0).tdiv (2*m0))-1)*(2*m0))))*(2^(sh).toNat))+(2*m0)).tdiv (2*(2*m0)))),I ((((2*(((((2*(i:Int))+1)*n0)-m0)-(((((((2*(i:Int))+1)*n0)-m0).tdiv (2*m0))-1)*(2*m0))))*(2^(sh).toNat))+(2*m0)).tdiv (2*(2*m0)))] 3 (0,0))]++Gzs)),od,alA,l1,om,mem_snoc hB (show tapB (⟨((((((2*(i:Int))+1)*n0)-m0).tdiv (2*m0))-1),⟨(At b0 0),2,2,[((2^(sh).toNat)-((((2*(((((2*(i:Int))+1)*n0)-m0)-(((((((2*(i:Int))+1)*n0)-m0).tdiv (2*m0))-1)*(2*m0))))*(2^(sh).toNat))+(2*m0)).tdiv (2*(2*m0)))),((((2*(((((2*(i:Int))+1)*n0)-m0)-(((((((2*(i:Int))+1)*n0)-m0).tdiv (2*m0))-1)*(2*m0))))*(2^(sh).toNat))+(2*m0)).tdiv (2*(2*m0)))]⟩⟩:Tap) from ⟨by unfold numB;dsimp only;omega,by simp,by intro z hz;simp only [List.mem_cons,List.not_mem_nil,or_false] at hz;unfold numB;omega⟩),by simp;omega,i1,(by
   intro z hz
   rcases List.mem_append.1 hz with h|h
   ·exact (hDzs z h).of_mem mS
   ·simp only [List.mem_singleton] at h;subst h;exact ⟨(RdT.blk (cs:=[[(b0, .cells #[I ((2^(sh).toNat)-((((2*(((((2*(i:Int))+1)*n0)-m0)-(((((((2*(i:Int))+1)*n0)-m0).tdiv (2*m0))-1)*(2*m0))))*(2^(sh).toNat))+(2*m0)).tdiv (2*(2*m0)))),I ((((2*(((((2*(i:Int))+1)*n0)-m0)-(((((((2*(i:Int))+1)*n0)-m0).tdiv (2*m0))-1)*(2*m0))))*(2^(sh).toNat))+(2*m0)).tdiv (2*(2*m0)))] 3 (0,0))]]) (enc:=Go.E.encI) (sz:=1) (xs:=[((2^(sh).toNat)-((((2*(((((2*(i:Int))+1)*n0)-m0)-(((((((2*(i:Int))+1)*n0)-m0).tdiv (2*m0))-1)*(2*m0))))*(2^(sh).toNat))+(2*m0)).tdiv (2*(2*m0)))),((((2*(((((2*(i:Int))+1)*n0)-m0)-(((((((2*(i:Int))+1)*n0)-m0).tdiv (2*m0))-1)*(2*m0))))*(2^(sh).toNat))+(2*m0)).tdiv (2*(2*m0)))]) fR 2 0 rfl rfl rfl om).of_mem mS⟩)⟩
theorem r8_box (W w:World) (H:Chunk) (F:List Chunk) (n0 m0 sh:Int) (hS:Sat W w (H::F)):
  Calls prog 117 #[I n0,I m0,I sh] w fun e w'=>∃(az:Option Addr) (nz kz:Nat) (zs:List Tap) (cd:Int) (c G:Chunk),e= .returned (.tuple #[.slice az nz kz,I cd])/\OwnT encTap 122 2 az nz kz zs c/\(∀z∈zs,Tap.Ok [G] z)/\((zs.length:Int)<=max m0 0/\∀z∈zs,tapB z)/\Sat W w' (G::c::H::F):=by
 refine callsA 83 func117 rfl<|sR<|pu2<|zQ<|pu1<|cR call164 (r8_side n0 hS.flat) fun _ g0=>pu2<|sDn 18 ((1:Int)<=n0/\n0<=(128:Int)) (fun r0=>?_) (fun r0=>?_)
 rotate_left
 ·refine pu4<|zC<|pu2<|zR<|retT [nS,I 8] ?_
  have s0:Sat W _ ([]::[]::H::F):=Sat.nilc (Sat.nilc g0)
  exact ⟨none,0,0,[],_,[],[],rfl,OwnT.nil fR,(fun z hz=>by cases hz),⟨by simp;omega,(fun z hz=>by cases hz)⟩,s0⟩
 refine pu1<|gY<|cR call164 (r8_side m0 g0.flat) fun _ d0=>pu2<|nT<|cDn ((1:Int)<=m0/\m0<=(128:Int)) (fun t0=>?_) (fun t0=>?_)
 rotate_left
 ·refine sR<|pu2<|zR<|retT [nS,I 8] ?_
  have u0:Sat W _ ([]::[]::H::F):=Sat.nilc (Sat.nilc d0)
  exact ⟨none,0,0,[],_,[],[],rfl,OwnT.nil fR,(fun z hz=>by cases hz),⟨by simp;omega,(fun z hz=>by cases hz)⟩,u0⟩
 refine kT<|seqE<|sR<|pu3<|sD 25 (sh<0) (fun v0=>?_) (fun v0=>?_)
 ·refine pu3<|zC<|pu2<|zR<|retT [nS,I 2] ?_
  have w0:Sat W _ ([]::[]::H::F):=Sat.nilc (Sat.nilc d0)
  exact ⟨none,0,0,[],_,[],[],rfl,OwnT.nil fR,(fun z hz=>by cases hz),⟨by simp;omega,(fun z hz=>by cases hz)⟩,w0⟩
 refine pu3<|nT<|cD (sh>14) (fun x0=>?_) (fun x0=>?_)
 ·refine sR<|pu2<|zR<|retT [nS,I 2] ?_
  have y0:Sat W _ ([]::[]::H::F):=Sat.nilc (Sat.nilc d0)
  exact ⟨none,0,0,[],_,[],[],rfl,OwnT.nil fR,(fun z hz=>by cases hz),⟨by simp;omega,(fun z hz=>by cases hz)⟩,y0⟩
 refine kS<|pu1<|zQ<|pu1<|nT<|blockE ?_
 have z0:=Sat.nilc d0
 have a1:=OwnT.nil (enc:=encTap) (E:=122) (sz:=2) fR
 refine loopA (γ:=Nat×(List Tap)×(Option Addr)×Nat×Nat×Chunk×Chunk) (fun ⟨i,zs,azs,nzs,kzs,czs,Gzs⟩=>[(0,I n0),(1,I m0),(2,I sh),(9,I (i:Int)),(8, .slice azs nzs kzs)]) (fun ⟨i,zs,azs,nzs,kzs,czs,Gzs⟩ w=>Sat W w (Gzs::czs::H::F)/\i<=m0.toNat/\(∀z∈zs,tapB z)/\(zs.length=i)/\OwnT encTap 122 2 azs nzs kzs zs czs/\(∀z∈zs,Tap.Ok [Gzs] z)) (fun ⟨i,zs,azs,nzs,kzs,czs,Gzs⟩=>m0.toNat-i) (0,[],none,0,0,[],[]) ⟨(Sat.nilc z0),om,(by intro z hz;cases hz),by rfl,a1,(by intro z hz;cases hz)⟩ ?_
 rintro ⟨i,zs,azs,nzs,kzs,czs,Gzs⟩ ρ _ ⟨h0,hi,hB,hzl,hOzs,hDzs⟩
 have hn_zs:=hOzs.len;have hl_zs:=hOzs.le
 refine seqE<|sR<|pu3<|nT<|cD ((i:Int)<m0) (fun c1=>?_) (fun c1=>?_)
 rotate_left
 ·exact exitE<|xB<|tN<|sR<|pu3<|zE<|retT [.slice azs nzs kzs,I 0]<|⟨_,_,_,zs,_,_,_,rfl,hOzs,hDzs,⟨om,hB⟩,h0⟩
 refine kT<|seqE<|blockE<|seqE ?_
 have hm1:=mul_bd (a:=(i:Int)) (b:=n0) (A:=128) (B:=128) om om;have hm2:((i:Int)+1)*n0=(i:Int)*n0+n0:=by rw [Int.add_mul,Int.one_mul]
 refine rE<|pu2<|sMul (i:Int) n0<|pu1<|sAdd (i:Int) 1<|pu1<|sMul ((i:Int)+1) n0<|pu2<|zS<|pu2<|sQuo ((i:Int)*n0) m0<|pu1<|sAlloc h0 zeroValue122 fun i0 _ d1=>sTl d1 0 [I (((i:Int)*n0).tdiv m0),nS] sizeOf122 fun _ j0=>nT<|seqE ?_
 have hq:=Int.mul_tdiv_add_tmod ((i:Int)*n0) m0;have hq1:=Int.tmod_lt_of_pos ((i:Int)*n0) (by omega:0<m0);have hq2:=Int.tmod_nonneg m0 (by omega:0<=((i:Int)*n0));have hq3:=Int.mul_comm (((i:Int)*n0).tdiv m0) m0;have hq5:=tdiv_bd (a:=((i:Int)*n0)) (b:=m0) (A:=16384) om om
 refine rE<|pu1<|zQ<|pu1<|sL j0 0 0 (I (((i:Int)*n0).tdiv m0)) (isAgg3 _)<|pu1<|nT<|blockE ?_
 have e1:=Sat.nilc j0
 have f1:=OwnT.nil (enc:=Go.E.encI) (E:=3) (sz:=1) fR
 refine loopA (γ:=Nat×Int×(List Int)×(Option Addr)×Nat×Nat×Chunk) (fun ⟨u,kk,ps,aps,nps,kps,cps⟩=>[(0,I n0),(1,I m0),(2,I sh),(9,I (i:Int)),(8, .slice azs nzs kzs),(10,I ((i:Int)*n0)),(11,I (((i:Int)+1)*n0)),(12,Pt i0 0),(14,I kk),(13, .slice aps nps kps)]) (fun ⟨u,kk,ps,aps,nps,kps,cps⟩ w=>Sat W w (cps::[(i0, .cells #[I (((i:Int)*n0).tdiv m0),nS] 122 (0,0))]::Gzs::czs::H::F)/\u<=20000/\(∀z∈ps,1<=z/\z<=16384)/\((u:Int)+(((i:Int)*n0).tdiv m0)=kk/\((i:Int)*n0)<kk*m0+m0/\kk*m0<=((i:Int)*n0)+n0+m0/\(u=0->kk*m0<=((i:Int)*n0)))/\(ps.length=u)/\OwnT Go.E.encI 3 1 aps nps kps ps cps) (fun ⟨u,kk,ps,aps,nps,kps,cps⟩=>20000-u) (0,(((i:Int)*n0).tdiv m0),[],none,0,0,[]) ⟨e1,om,(by intro z hz;cases hz),om,by rfl,f1⟩ ?_
 rintro ⟨u,kk,ps,aps,nps,kps,cps⟩ ρ _ ⟨e0,hu,hP,hk,hpl,hOps⟩
 have hn_ps:=hOps.len;have hl_ps:=hOps.le
 refine seqE<|seqE ?_
 have hkm:=le_mul_pos (k:=kk) (m:=m0) om om;have hkm1:(kk+1)*m0=kk*m0+m0:=by rw [Int.add_mul,Int.one_mul]
 refine rE<|pu2<|sMul kk m0<|pu2<|nT<|cD ((kk*m0)<(((i:Int)+1)*n0)) (fun g1=>?_) (fun g1=>?_)
 ·refine kT<|seqE<|blockE<|rE<|pu3<|sAdd kk 1<|pu1<|sMul (kk+1) m0<|stepY (I (min (((i:Int)+1)*n0) ((kk+1)*m0))) rfl rfl (Y_min2 (((i:Int)+1)*n0) ((kk+1)*m0) rfl rfl kr kr)<|pu3<|sMul kk m0<|stepY (I (max ((i:Int)*n0) (kk*m0))) rfl rfl (Y_max2 ((i:Int)*n0) (kk*m0) rfl rfl kr kr)<|sSub (min (((i:Int)+1)*n0) ((kk+1)*m0)) (max ((i:Int)*n0) (kk*m0))<|sBS e0 #[I ((min (((i:Int)+1)*n0) ((kk+1)*m0))-(max ((i:Int)*n0) (kk*m0)))] runUnderlying22 sizeOf3 zeroValue3 fun _ _ h1=>?_
  refine sApp (nb:=8) h1 hOps 1 (RdT.blk (enc:=Go.E.encI) (sz:=1) (xs:=[((min (((i:Int)+1)*n0) ((kk+1)*m0))-(max ((i:Int)*n0) (kk*m0)))]) fR 1 0 rfl rfl rfl om) underlying22 (i:=Tryz.t3) kr fR fun i1 j1 k1 _ l1 m1=>pu1<|nB<|rE<|pu1<|sAdd kk 1<|pu1<|nT ?_
  exact ⟨(u+1,(kk+1),(ps++[((min (((i:Int)+1)*n0) ((kk+1)*m0))-(max ((i:Int)*n0) (kk*m0)))]),i1,(nps+1),j1,k1),od,alA,(m1.dropAt 0 rfl),om,mem_snoc hP om,om,by simp;omega,l1⟩
 refine exitE<|xB<|tN<|seqE<|sR<|pu3<|nT<|cD ((nps:Int)>8) (fun o1=>?_) (fun o1=>?_)
 ·refine sR<|pu2<|zE<|tR<|tK<|tR<|tK<|retT [nS,I 9] ?_
  have p1:=(e0.drops [0,0,0,0])
  have q1:Sat W _ ([]::[]::H::F):=Sat.nilc (Sat.nilc p1)
  exact ⟨none,0,0,[],_,[],[],rfl,OwnT.nil fR,(fun z hz=>by cases hz),⟨by simp;omega,(fun z hz=>by cases hz)⟩,q1⟩
 refine kT<|seqE ?_
 have hp1:=pow2_pos sh.toNat;have hp2:=pow2_le (a:=sh.toNat) (b:=14) om
 refine rE<|pu1<|stepY (.int .u64 sh) rfl rfl (Y_conv (k:= .i64) (a:=sh) underlying3 underlying167 (wrapIn_u64 _ om) rfl kr)<|stepY (I (2^(sh).toNat)) rfl rfl (Y_shl1 (k':= .u64) sh rfl kr kr om)<|pu1<|sF #[I (2^(sh).toNat), .slice aps nps kps] call165 (Calls.mono (r8_divide W _ _ [] (2^(sh).toNat) _ _ _ ps (RdT.flat (hOps.rdAt 0 (by rfl))) om (fun z hz=>by have:=hP z hz;omega) om e0.flat) ?_)
 rintro _ _ ⟨a0,b0,c0,k0,f0,rfl,r1,l0,o0⟩
 refine ⟨_,rfl,?_⟩
 have s1:=o0.unflat1;clear o0
 refine pu1<|sT s1 2 1 (.slice a0 b0 c0) [.slice a0 b0 c0] #[I (((i:Int)*n0).tdiv m0), .slice a0 b0 c0] sizeOf22 fun _ p0=>nT<|rE<|pu1<|lA p0 2 0 2 (isAgg122 _) (sizeOf122 _)<|sBS p0 #[I (((i:Int)*n0).tdiv m0), .slice a0 b0 c0] runUnderlying50 sizeOf122 zeroValue122 fun _ _ t1=>sApp (nb:=32) t1 hOzs 5 (RdT.blk (enc:=encTap) (sz:=2) (xs:=[(⟨(((i:Int)*n0).tdiv m0),⟨a0,b0,c0,f0⟩⟩:Tap)]) fR 1 0 rfl rfl rfl om) underlying50 (i:=Tryz.t122) kr fR fun u1 v1 q0 _ w1 x1=>pu1<|nB<|rE<|pu1<|sAdd (i:Int) 1<|pu1<|nT ?_
 have y1:=(x1.drops [0,1,1])
 exact ⟨(i+1,(zs++[(⟨(((i:Int)*n0).tdiv m0),⟨a0,b0,c0,f0⟩⟩:Tap)]),u1,(nzs+1),v1,q0,(k0++Gzs)),od,alA,(Sat.perm (cs':=(k0++Gzs)::(q0::H::F)) y1 (by simp)),om,mem_snoc hB (show tapB (⟨(((i:Int)*n0).tdiv m0),⟨a0,b0,c0,f0⟩⟩:Tap) from ⟨by unfold numB;dsimp only;omega,by have:=l0.1;dsimp only;omega,l0.2⟩),by simp;omega,w1,(by
   intro z hz
   rcases List.mem_append.1 hz with h|h
   ·exact (hDzs z h).of_mem mS
   ·simp only [List.mem_singleton] at h;subst h;exact ⟨r1.of_mem mS⟩)⟩
end Go.Proofs.YtmlhcafjelkjfaaGreat
namespace Go.E
set_option linter.unusedVariables false
set_option linter.unusedSimpArgs false
section
variable {P:Program} {W w:World} {cs:List Chunk} {ρ:Env} {o:Oper} {ops:Array Oper} {rest:List Oper} {n:Nat} {N:Env->World->Prop}
end
end Go.E
