import Derived.Test.YtkadmghedmodbaaGreatR3P2Bd3
set_option linter.all false
namespace Go.Proofs.YtkadmghedmodbaaGreat
open Go Go.E Go.Proofs.Tryz
set_option linter.all false
set_option maxRecDepth 100000
set_option maxHeartbeats 2000000
variable {W w:World} {H:Chunk} {F:List Chunk}
def PaR (p:Nat) (S:AS) (M:Chunk):Prop:=∃(a:Option Addr) (n k:Nat) (c:Chunk),M=[(p, .cells #[.int .i64 S.cap, .int .i64 S.used, .int .i64 S.high, .slice a n k] 160 (0,0))]++c/\OwnT Go.E.encI 3 1 a n k S.marks c/\S.Wf
theorem ex_ceil (x:Int) (y:Int) (hx:0<=x/\x<=1048576) (hy:1<=y/\y<=4096) (hS:Sat W w (H::F)):
  Ro prog 187 #[I x,I y] (I (ceilD x y)) W w (H::F):=by
 obtain ⟨d0,e0,f0,g0,h0⟩:=ceilD_bd hx hy
 exact callsK 22 func187 rfl<|jCO 11 rfl<|sD 8 (x<0) (fun a0=>jOR 13 rfl<|retT [I 0]<|(by omega)) fun a0=>jOC 5 rfl<|cD (y<1) (fun b0=>jCR 7 rfl<|retT [I 0]<|(by omega)) fun b0=>jCO 6 rfl<|sQuo x y<|jOO 8 rfl<|sRem x y<|jOC 3 rfl<|cN (x.tmod y) 0 (fun c0=>jCR 9 rfl<|retT [I (x.tdiv y)]<|⟨by unfold ceilD;rw [if_neg om];rfl,hS⟩) fun c0=>jCO 2 rfl<|sAdd (x.tdiv y) 1<|jOR 10 rfl<|retT [I ((x.tdiv y)+1)]<|⟨by unfold ceilD;rw [if_pos om];rfl,hS⟩
theorem ex_mul {cs:List Chunk} (x y z:Int) (hx:0<=x/\x<=1048577) (hy:1<=y/\y<=4096) (hz:0<=z/\z<=1048576) (hS:Sat W w cs):
  Calls prog 186 #[I x,I y,I z] w fun e w'=>(x*y<=z/\e= .returned (.tuple #[I (x*y), .bool true])\/¬(x*y<=z)/\e= .returned (.tuple #[I 0, .bool false]))/\Sat W w' cs:=by
 have hq:0<=z.tdiv y/\z.tdiv y<=1048576:=by rw [Int.tdiv_eq_ediv_of_nonneg hz.1];exact ⟨Int.ediv_nonneg hz.1 om,by have:=Int.ediv_le_self y hz.1;omega⟩
 have f0:=mul_lim (c:=x) (a:=y) (l:=z) hx.1 hy.1 hz.1
 exact callsK 30 func186 rfl<|jCO 12 rfl<|sD 10 (x<0) (fun a0=>jOR 18 rfl<|retT [I 0, .bool false]<|⟨.inr ⟨fun h=>by have:=f0.2 h;omega,rfl⟩,hS⟩) fun a0=>pu4<|sD 14 (y<0) (fun b0=>jOR 14 rfl<|retT [I 0, .bool false]<|⟨.inr ⟨fun h=>by have:=f0.2 h;omega,rfl⟩,hS⟩) fun b0=>jOC 5 rfl<|cD (z<0) (fun c0=>jCR 8 rfl<|retT [I 0, .bool false]<|⟨.inr ⟨fun h=>by have:=f0.2 h;omega,rfl⟩,hS⟩) fun c0=>jCO 8 rfl<|SD 20 (y>0) (fun d0=>jOC 12 rfl<|(by have g0:=f0.1 om;have h0:=Int.mul_nonneg hx.1 (show (0:Int)<=y by omega);exact jCO 3 rfl<|sMul x y<|jOR 5 rfl<|retT [I (x*y), .bool true]<|⟨.inl ⟨f0.1 om,rfl⟩,hS⟩)) fun d0=>pu3<|gY<|sQuo z y<|jOC 4 rfl<|cD (x>(z.tdiv y)) (fun e0=>jCR 8 rfl<|retT [I 0, .bool false]<|⟨.inr ⟨fun h=>by have:=f0.2 h;omega,rfl⟩,hS⟩) fun e0=>jCC 3 rfl<|(by have g0:=f0.1 om;have h0:=Int.mul_nonneg hx.1 (show (0:Int)<=y by omega);exact jCO 3 rfl<|sMul x y<|jOR 5 rfl<|retT [I (x*y), .bool true]<|⟨.inl ⟨f0.1 om,rfl⟩,hS⟩)
theorem ex_align {cs:List Chunk} (x y z:Int) (hx:0<=x/\x<=1048576) (hy:1<=y/\y<=4096) (hz:0<=z/\z<=1048576) (hS:Sat W w cs):
  Calls prog 173 #[I x,I y,I z] w fun e w'=>(alignI x y<=z/\e= .returned (.tuple #[I (alignI x y), .bool true])\/¬(alignI x y<=z)/\e= .returned (.tuple #[I 0, .bool false]))/\Sat W w' cs:=by
 obtain ⟨f0,g0,h0,i0,j0⟩:=ceilD_bd hx hy
 refine callsK 22 func173 rfl<|jCO 12 rfl<|sD 10 (x<0) (fun c0=>jOR 14 rfl<|retT [I 0, .bool false]<|(by omega)) fun c0=>jOC 5 rfl<|cD (y<1) (fun d0=>jCR 8 rfl<|retT [I 0, .bool false]<|(by omega)) fun d0=>jCO 6 rfl<|cS (ex_ceil x y (od) (od) hS.flat) fun _ e0=>pu2<|cZ (ex_mul (ceilD x y) y z om om om e0) ?_
 rintro _ _ ⟨⟨a0,rfl⟩|⟨a0,rfl⟩,b0⟩
 rotate_left
 ·exact jOR 7 rfl<|retT [I 0, .bool false]<|⟨.inr ⟨a0,rfl⟩,b0⟩
 exact jOR 7 rfl<|retT [I ((ceilD x y)*y), .bool true]<|⟨.inl ⟨a0,rfl⟩,b0⟩
theorem pa_mark {p:Nat} {S:AS} {M:Chunk} (hR:PaR p S M) (hS:Sat W w (M::H::F)):
  Calls prog 122 #[Pt p 0] w fun e w'=>∃M':Chunk,e= .returned (I (if 1024<=S.marks.length then 19 else 0))/\PaR p (markA S) M'/\Sat W w' (M'::H::F):=by
 obtain ⟨a,n,k,c,rfl,hO,hW⟩:=hR
 have hS:Sat W _ ([(p, .cells #[I S.cap,I S.used,I S.high, .slice a n k] 160 (0,0))]::c::H::F):=Sat.perm hS (by simp)
 have hn:=hO.ll;have l0:=hW.c;have m0:=hW.u;have n0:=hW.h
 refine callsK 24 func122 rfl<|gCC hS 26 [0] rfl<|cD ((n:Int)>=1024) (fun b0=>jCR 7 rfl<|retT [I 19]<|(by have c0:=(hS.merge2);have he:markA S=S:=(by unfold markA;rw [if_pos om]);exact ⟨_,by rw [if_pos om];rfl,by rw [he];exact ⟨_,_,_,_,rfl,hO,hW⟩,c0⟩)) fun b0=>jCC 3 rfl<|drawF hS [9,10,13] (fb 4 0 3 1<|fb 8 0 1 1<|fn) [0,1,2,3,5,6,7,4,8,9,10,11,12,13] fun _ d0=>wV 7<|wL 0<|wL 1<|wO rfl<|sBK d0 #[I S.used] 3 fun _ _ a0=>nZ a0 [1]<|wO rfl<|sApp (nb:=8) a0 hO 2 (RdT.blk (enc:=Go.E.encI) (sz:=1) (xs:=[S.used]) fR 1 0 rfl rfl rfl om) underlying22 (i:=Tryz.t3) kr fR fun e0 f0 _ _ g0 h0=>nA<|wV 2<|wO rfl<|tWk h0 1 rfl 3 (.slice e0 (n+1) f0) fun _ i0=>nA<|wN<|jXR 7 rfl<|retT [I 0] ?_
 have j0:=(i0.dropAt 0 rfl)
 have k0:=(j0.merge2)
 have he:markA S={S with marks:=S.marks++[S.used]}:=by unfold markA;rw [if_neg om]
 exact ⟨_,by rw [if_neg om];rfl,by rw [he];exact ⟨_,_,_,_,rfl,g0,⟨hW.c,hW.u,hW.h,by intro x hx;rcases List.mem_append.1 hx with h|h;exact hW.m x h;rw [List.mem_singleton.1 h];exact ⟨hW.u.1,hW.h.1⟩⟩⟩,k0⟩
theorem pa_alloc {p:Nat} {S:AS} {M:Chunk} (hR:PaR p S M) (x:Int) (y:Int) (hS:Sat W w (M::H::F)):
  Calls prog 123 #[Pt p 0,I x,I y] w fun e w'=>∃(M':Chunk) (v:Int),e= .returned (.tuple #[I v,I (allocC S x y)])/\PaR p (allocA S x y) M'/\Sat W w' (M'::H::F):=by
 obtain ⟨a,n,k,c,rfl,hO,hW⟩:=hR
 have hS:Sat W _ ([(p, .cells #[I S.cap,I S.used,I S.high, .slice a n k] 160 (0,0))]::c::H::F):=Sat.perm hS (by simp)
 have hn:=hO.ll;have t0:=hW.c;have u0:=hW.u;have v0:=hW.h
 refine callsK 70 func123 rfl<|jCO 22 rfl<|sD 14 (x<1) (fun b0=>jOR 22 rfl<|retT [I 0,I 2]<|(by have hc:allocC S x y=2:=(by unfold allocC;rw [if_pos om]);have c0:=(hS.merge2);have he:allocA S x y=S:=(by unfold allocA;rw [hc,if_neg (by decide)]);exact ⟨_,_,by rw [hc];rfl,by rw [he];exact ⟨_,_,_,_,rfl,hO,hW⟩,c0⟩)) fun b0=>pu4<|sD 18 (x>1048576) (fun d0=>jOR 18 rfl<|retT [I 0,I 2]<|(by have hc:allocC S x y=2:=(by unfold allocC;rw [if_pos om]);have e0:=(hS.merge2);have he:allocA S x y=S:=(by unfold allocA;rw [hc,if_neg (by decide)]);exact ⟨_,_,by rw [hc];rfl,by rw [he];exact ⟨_,_,_,_,rfl,hO,hW⟩,e0⟩)) fun d0=>pu4<|sD 22 (y<1) (fun f0=>jOR 14 rfl<|retT [I 0,I 2]<|(by have hc:allocC S x y=2:=(by unfold allocC;rw [if_pos om]);have g0:=(hS.merge2);have he:allocA S x y=S:=(by unfold allocA;rw [hc,if_neg (by decide)]);exact ⟨_,_,by rw [hc];rfl,by rw [he];exact ⟨_,_,_,_,rfl,hO,hW⟩,g0⟩)) fun f0=>jOC 5 rfl<|cD (y>4096) (fun h0=>jCR 8 rfl<|retT [I 0,I 2]<|(by have hc:allocC S x y=2:=(by unfold allocC;rw [if_pos om]);have i0:=(hS.merge2);have he:allocA S x y=S:=(by unfold allocA;rw [hc,if_neg (by decide)]);exact ⟨_,_,by rw [hc];rfl,by rw [he];exact ⟨_,_,_,_,rfl,hO,hW⟩,i0⟩)) fun h0=>jCC 3 rfl<|drawF hS [9] (fb 3 0 1 1<|fb 8 0 0 1<|fn) [0,1,2,4,5,6,7,3,8,9,10,11,12,13,14] fun _ j0=>wV 7<|wL 0<|wL 1<|wO rfl ?_
 have s0:=align_nn (u:=S.used) (a:=y) om om
 refine cZ (ex_align S.used y S.cap om om om j0) ?_
 rintro _ _ ⟨⟨k0,rfl⟩|⟨k0,rfl⟩,a0⟩
 rotate_left
 · exact nA<|wV 1<|wV 1<|wV 1<|wV 2<|wN<|jXR 27 rfl<|retT [I 0,I 19]<|(by have hc:allocC S x y=19:=(by unfold allocC;rw [if_neg om,if_neg om]);have l0:=(a0.merge2);have he:allocA S x y=S:=(by unfold allocA;rw [hc,if_neg (by decide)]);exact ⟨_,_,by rw [hc];rfl,by rw [he];exact ⟨_,_,_,_,rfl,hO,hW⟩,l0⟩)
 refine nA<|wV 1<|wV 1<|wV 1<|wV 2<|wN<|gXO a0 13 [0] rfl<|gY<|sSub S.cap (alignI S.used y)<|jOC 4 rfl<|cD (x>(S.cap-(alignI S.used y))) (fun m0=>jCR 8 rfl<|retT [I 0,I 19]<|(by have hc:allocC S x y=19:=(by unfold allocC;rw [if_neg om,if_neg om]);have n0:=(a0.merge2);have he:allocA S x y=S:=(by unfold allocA;rw [hc,if_neg (by decide)]);exact ⟨_,_,by rw [hc];rfl,by rw [he];exact ⟨_,_,_,_,rfl,hO,hW⟩,n0⟩)) fun m0=>jCO 7 rfl<|sAdd (alignI S.used y) x<|pu2<|tWk a0 0 rfl 1 (I ((alignI S.used y)+x)) fun _ o0=>jOC 3 rfl<|drawF o0 [12] (fb 4 0 2 1<|fb 8 0 1 1<|fn) [0,1,2,3,5,6,7,4,8,9,10,11,12] fun _ p0=>wV 7<|wL 0<|wL 1<|wY (I (max S.high ((alignI S.used y)+x))) rfl (fun w _=>Y_max2 S.high ((alignI S.used y)+x) rfl rfl kr kr)<|wV 2<|wO rfl<|tWk p0 0 rfl 2 (I (max S.high ((alignI S.used y)+x))) fun _ q0=>nA<|wN<|jXR 9 rfl<|retT [I (alignI S.used y),I 0] ?_
 have hc:allocC S x y=0:=by unfold allocC;rw [if_neg om,if_pos om]
 have r0:=(q0.merge2)
 have he:allocA S x y={S with used:=alignI S.used y+x,high:=(max S.high ((alignI S.used y)+x))}:=by unfold allocA;rw [if_pos hc]
 exact ⟨_,_,by rw [hc];rfl,by rw [he];exact ⟨_,_,_,_,rfl,hO,⟨hW.c,by dsimp only;omega,by dsimp only;omega,fun z hz=>⟨(hW.m z hz).1,by have h:=(hW.m z hz).2;dsimp only;omega⟩⟩⟩,r0⟩
theorem pa_reset {p:Nat} {S:AS} {M:Chunk} (hR:PaR p S M) (hS:Sat W w (M::H::F)):
  Calls prog 113 #[Pt p 0] w fun e w'=>∃M':Chunk,e= .returned (.tuple #[])/\PaR p (resetA S) M'/\Sat W w' (M'::H::F):=by
 obtain ⟨a,n,k,c,rfl,hO,hW⟩:=hR
 have hS:Sat W _ ([(p, .cells #[I S.cap,I S.used,I S.high, .slice a n k] 160 (0,0))]::c::H::F):=Sat.perm hS (by simp)
 have hn:=hO.ll;have e0:=hW.c;have f0:=hW.u;have g0:=hW.h
 exact callsK 10 func113 rfl<|jCO 15 rfl<|tWk hS 0 rfl 1 (I 0) fun _ a0=>jOO 6 rfl<|tWk a0 0 rfl 3 (nS) fun _ b0=>nilO<|ret0n rfl<|(by have c0:=(b0.dropAt 1 rfl);have d0:Sat W _ (([(p, .cells #[I S.cap,I 0,I S.high,nS] 160 (0,0))]++([]:Chunk))::H::F):=Sat.perm (show Sat W _ ([(p, .cells #[I S.cap,I 0,I S.high,nS] 160 (0,0))]::H::F) from c0) (by simp);have he:resetA S=⟨S.cap,0,S.high,[]⟩:=rfl;exact ⟨_,rfl,by rw [he];exact ⟨_,_,_,_,rfl,OwnT.nil fR,⟨hW.c,by dsimp only;omega,by dsimp only;omega,fun x hx=>by cases hx⟩⟩,d0⟩)
theorem pa_used {p:Nat} {S:AS} {M:Chunk} (hR:PaR p S M) (hS:Sat W w (M::H::F)):
    Calls prog 140 #[.pointer (some ⟨p,0,none⟩)] w fun e w'=>e= .returned (.int .i64 S.used)/\Sat W w' (M::H::F):=by
  obtain ⟨a,n,k,c,rfl,hO,hW⟩:=hR
  have hS:Sat W _ ([(p, .cells #[.int .i64 S.cap, .int .i64 S.used, .int .i64 S.high, .slice a n k] 160 (0,0))]::c::H::F):=Sat.perm hS (by simp)
  have hn:=hO.ll;have a0:=hW.c;have b0:=hW.u;have c0:=hW.h
  exact callsK 9 func140 rfl<|gCR hS 25 [0] rfl<|retT [.int .i64 S.used]<|⟨rfl,(hS.merge2)⟩
theorem pa_high {p:Nat} {S:AS} {M:Chunk} (hR:PaR p S M) (hS:Sat W w (M::H::F)):
    Calls prog 141 #[.pointer (some ⟨p,0,none⟩)] w fun e w'=>e= .returned (.int .i64 S.high)/\Sat W w' (M::H::F):=by
  obtain ⟨a,n,k,c,rfl,hO,hW⟩:=hR
  have hS:Sat W _ ([(p, .cells #[.int .i64 S.cap, .int .i64 S.used, .int .i64 S.high, .slice a n k] 160 (0,0))]::c::H::F):=Sat.perm hS (by simp)
  have hn:=hO.ll;have a0:=hW.c;have b0:=hW.u;have c0:=hW.h
  exact callsK 9 func141 rfl<|gCR hS 25 [0] rfl<|retT [.int .i64 S.high]<|⟨rfl,(hS.merge2)⟩
theorem pa_new {cs:List Chunk} (c:Int) (hc:0<=c/\c<=1048576) (hS:Sat W w cs):
  Calls prog 44 #[I c] w fun e w'=>∃(p:Nat) (M:Chunk),e= .returned (.tuple #[Pt p 0,I 0])/\PaR p ⟨c,0,0,[]⟩ M/\Sat W w' (M::cs):=by
 exact callsK 13 func44 rfl<|jCO 12 rfl<|sD 6 (c<0) (fun a0=>jOR 14 rfl<|retT [.pointer none,I 2]<|(by omega)) fun a0=>jOC 5 rfl<|cD (c>1048576) (fun b0=>jCR 8 rfl<|retT [.pointer none,I 2]<|(by omega)) fun b0=>jCO 6 rfl<|sBx hS [I c,I 0,I 0,nS] fun c0 _ d0=>jOR 5 rfl<|retT [Pt c0 0,I 0]<|⟨_,_,rfl,⟨_,_,_,[],rfl,OwnT.nil fR,⟨hc,by dsimp only;omega,by dsimp only;omega,fun x hx=>by cases hx⟩⟩,d0⟩
end Go.Proofs.YtkadmghedmodbaaGreat

namespace Go.Proofs.YtkadmghedmodbaaGreat
open Go Go.E Go.Proofs.Tryz
set_option linter.all false
set_option maxRecDepth 100000
set_option maxHeartbeats 2000000
variable {W w:World} {H:Chunk} {F:List Chunk}
theorem place_eq {t z:Int} {n:Nat} (h:0<=t) (hz:0<=z):(t+z).tmod (n:Int)=(((t.toNat+z.toNat)%n:Nat):Int):=by
  rw [Int.tmod_eq_emod_of_nonneg (by omega),Int.natCast_emod,Int.natCast_add,Int.toNat_of_nonneg h,Int.toNat_of_nonneg hz]
theorem mod_inj {t a b n:Nat} (ha:a<n) (hb:b<n) (ht:t<n) (h:(t+a)%n=(t+b)%n):a=b:=by
  have f:∀x,x<n->(t+x)%n=if t+x<n then t+x else t+x-n:=by
    intro x hx
    split
    · rename_i h1;exact Nat.mod_eq_of_lt h1
    · rename_i h1;rw [Nat.mod_eq_sub_mod (by omega),Nat.mod_eq_of_lt (by omega)]
  rw [f a ha,f b hb] at h
  split at h<;>split at h<;>omega
def Ring (r:List Ref) (t:Nat) (l:List Ref):Prop:=t<r.length/\l.length<=r.length/\∀i,i<l.length->r[(t+i)%r.length]?=l[i]?
theorem Ring.at {r:List Ref} {t i:Nat} {l:List Ref} {x:Ref} (h:Ring r t l) (hi:i<l.length) (hx:r[(t+i)%r.length]?=some x):l[i]?=some x:=(h.2.2 i hi).symm.trans hx
theorem Ring.push {r:List Ref} {t:Nat} {l:List Ref} {x:Ref} (h:Ring r t l) (hl:l.length<r.length):Ring (r.set ((t+l.length)%r.length) x) t (l++[x]):=by
 refine ⟨by rw [List.length_set];exact h.1,by rw [List.length_set,List.length_append,List.length_singleton];omega,?_⟩
 intro i hi
 rw [List.length_append,List.length_singleton] at hi
 rw [List.length_set,List.getElem?_set]
 by_cases e:i=l.length
 · exact (by subst e;rw [if_pos rfl,if_pos (Nat.mod_lt _ om),List.getElem?_append_right (Nat.le_refl _),Nat.sub_self];rfl)
 · exact (by rw [if_neg (fun q=>e (mod_inj om om h.1 q.symm)),List.getElem?_append_left om];exact h.2.2 i om)
theorem Ring.pop {r:List Ref} {t:Nat} {l:List Ref} (h:Ring r t l):Ring r t l.dropLast:=by
  refine ⟨h.1,by rw [List.length_dropLast];have:=h.2.1;omega,?_⟩
  intro i hi
  rw [List.length_dropLast] at hi
  rw [List.dropLast_eq_take,List.getElem?_take,if_pos hi]
  exact h.2.2 i (by omega)
theorem Ring.steal {r:List Ref} {t:Nat} {l:List Ref} (h:Ring r t l):Ring r ((t+1)%r.length) l.tail:=by
  refine ⟨Nat.mod_lt _ (by have:=h.1;omega),by rw [List.length_tail];have:=h.2.1;omega,?_⟩
  intro i hi
  rw [List.length_tail] at hi
  have e:((t+1)%r.length+i)%r.length=(t+(i+1))%r.length:=by rw [Nat.mod_add_mod];congr 1;omega
  rw [e,h.2.2 (i+1) (by omega),List.getElem?_tail]
theorem Ring.nil {r:List Ref} {t:Nat} (h:t<r.length):Ring r t []:=⟨h,Nat.zero_le _,fun i hi=>absurd hi (Nat.not_lt_zero i)⟩
def RemI (r:List Ref) (t:Nat) (l:List Ref) (j:Int) (i:Nat):Prop:=t<r.length/\l.length<=r.length/\(∀q,q<(without j (l.take i)).length->r[(t+q)%r.length]?=(without j (l.take i))[q]?)/\∀q,i<=q->q<l.length->r[(t+q)%r.length]?=l[q]?
theorem Ring.rem {r:List Ref} {t:Nat} {l:List Ref} {j:Int} (h:Ring r t l):RemI r t l j 0:=⟨h.1,h.2.1,fun q hq=>by simp [without] at hq,fun q _ hq=>h.2.2 q hq⟩
theorem RemI.at {r:List Ref} {t i:Nat} {l:List Ref} {j:Int} {x:Ref} (h:RemI r t l j i) (hi:i<l.length) (hx:r[(t+i)%r.length]?=some x):l[i]?=some x:=(h.2.2.2 i (Nat.le_refl _) hi).symm.trans hx
theorem without_snoc {l:List Ref} {i:Nat} {j:Int} {x:Ref} (h:l[i]?=some x) (hj:x.job≠j):without j (l.take (i+1))=without j (l.take i)++[x]:=(without_y rfl h hj).symm
theorem without_same {l:List Ref} {i:Nat} {j:Int} {x:Ref} (h:l[i]?=some x) (hj:x.job=j):without j (l.take (i+1))=without j (l.take i):=(without_n rfl h hj).symm
theorem RemI.keep {r:List Ref} {t i:Nat} {l:List Ref} {j:Int} {x:Ref} (h:RemI r t l j i) (hx:l[i]?=some x) (hj:x.job≠j):RemI (r.set ((t+(without j (l.take i)).length)%r.length) x) t l j (i+1):=by
 obtain ⟨h1,h2,h3,h4⟩:=h
 have hi:=(List.getElem?_eq_some_iff.1 hx).1
 have hk:(without j (l.take i)).length<=i:=by have:=without_len j (l.take i);rw [List.length_take] at this;omega
 refine ⟨by rw [List.length_set];exact h1,by rw [List.length_set];exact h2,?_,?_⟩
 ·rw [without_snoc hx hj]
  intro q hq
  rw [List.length_append,List.length_singleton] at hq
  rw [List.length_set,List.getElem?_set]
  by_cases e:q=(without j (l.take i)).length
  · exact (by subst e;rw [if_pos rfl,if_pos (Nat.mod_lt _ om),List.getElem?_append_right (Nat.le_refl _),Nat.sub_self];rfl)
  · exact (by rw [if_neg (fun z=>e (mod_inj om om h1 z.symm)),List.getElem?_append_left om];exact h3 q om)
 · exact (by intro q hq hl;rw [List.length_set,List.getElem?_set,if_neg (fun z=>by have:=mod_inj om om h1 z;omega)];exact h4 q om hl)
theorem RemI.drop {r:List Ref} {t i:Nat} {l:List Ref} {j:Int} {x:Ref} (h:RemI r t l j i) (hx:l[i]?=some x) (hj:x.job=j):RemI r t l j (i+1):=by
  obtain ⟨h1,h2,h3,h4⟩:=h
  exact ⟨h1,h2,by rw [without_same hx hj];exact h3,fun q hq hl=>h4 q (by omega) hl⟩
theorem RemI.ring {r:List Ref} {t i:Nat} {l:List Ref} {j:Int} (h:RemI r t l j i) (hi:l.length<=i):Ring r t (without j l):=by
  obtain ⟨h1,h2,h3,_⟩:=h
  rw [List.take_of_length_le hi] at h3
  exact ⟨h1,by have:=without_len j l;omega,h3⟩
theorem ring_list {r:List Ref} {t i:Nat} {l:List Ref} {x:Ref} (h:Ring r t l) (hi:i<l.length) (hx:r[(t+i)%r.length]?=some x):l.take i++[x]=l.take (i+1):=(take_succ_at (h.at hi hx)).symm
def DqP (p:Nat) (S:DS) (M:Chunk):Prop:=∃(a:Option Addr) (n k t:Nat) (r:List Ref) (c:Chunk),M=[(p, .cells #[.slice a n k, .int .i64 ((t:Nat):Int), .int .i64 ((S.l.length:Nat):Int)] 162 (0,0))]++c/\OwnT encRef 61 2 a n k r c/\S.cap=((n:Nat):Int)/\Ring r t S.l/\S.Wf
theorem pd_place {cs:List Chunk} {p:Nat} {a:Option Addr} {n k:Nat} {t s:Int} (z:Int) (hn:0<n/\n<=256) (ht:0<=t/\t<n) (hz:0<=z/\z<=512) (hS:Sat W w ([(p, .cells #[.slice a n k,I t,I s] 162 (0,0))]::cs)):
  Calls prog 118 #[Pt p 0,I z] w fun e w'=>∃v:Nat,e= .returned (I (v:Int))/\(v=(t.toNat+z.toNat)%n/\v<n)/\Sat W w' ([(p, .cells #[.slice a n k,I t,I s] 162 (0,0))]::cs):=by
 exact callsK 17 func118 rfl<|jCC 6 rfl<|drawF hS [] (fb 3 0 1 1<|fb 9 0 0 1<|fn) [0,1,2,4,6,7,8,3,5,9,10,11,12] fun _ a0=>wV 7<|wL 0<|wAdd t z<|wL 1<|wV 1<|wRem (t+z) (n:Int)<|wV 1<|wN<|jXR 2 rfl<|retT [I ((t+z).tmod (n:Int))]<|⟨_,congrArg (fun z=>Ending.returned (I z)) (place_eq om om),⟨rfl,Nat.mod_lt _ hn.1⟩,a0⟩
theorem pd_len {p:Nat} {S:DS} {M:Chunk} (hR:DqP p S M) (hS:Sat W w (M::H::F)):
  Calls prog 101 #[Pt p 0] w fun e w'=>e= .returned (I (S.l.length:Int))/\Sat W w' (M::H::F):=by
 obtain ⟨a,n,k,t,r,c,rfl,hO,c0,b0,hW⟩:=hR
 have a0:Sat W _ ([(p, .cells #[.slice a n k,I (t:Int),I (S.l.length:Int)] 162 (0,0))]::c::H::F):=Sat.perm hS (by simp)
 have hn:=hO.ll;have f0:=hW.c;have g0:=hW.n;have d0:=b0.1;have e0:=b0.2.1
 exact callsK 9 func101 rfl<|gCR a0 25 [0] rfl<|retT [I (S.l.length:Int)]<|⟨rfl,(a0.merge2)⟩
theorem pd_push {p:Nat} {S:DS} {M:Chunk} (hR:DqP p S M) (r_:Ref) (hS:Sat W w (M::H::F)):
  Calls prog 175 #[Pt p 0, .agg #[I r_.job,I r_.task]] w fun e w'=>∃M':Chunk,e= .returned (I (pushC S))/\DqP p (pushD S r_) M'/\Sat W w' (M'::H::F):=by
 obtain ⟨a,n,k,t,r,c,rfl,hO,B0,C0,hW⟩:=hR
 have h0:Sat W _ ([(p, .cells #[.slice a n k,I (t:Int),I (S.l.length:Int)] 162 (0,0))]::c::H::F):=Sat.perm hS (by simp)
 have hn:=hO.len;have hl:=hO.le;have H0:=hW.c;have I0:=hW.n;have F0:=C0.1;have G0:=C0.2.1
 refine callsK 44 func175 rfl<|jCO 2 rfl<|sBx h0 [I r_.job,I r_.task] fun i0 _ a0=>gOC a0 18 [1] rfl ?_
 have j0:¬(((n:Int):Int)=0):=om
 refine cF _ (beq_eq_false_iff_ne.2 j0)<|jCC 4 rfl<|drawF a0 [] (fb 3 1 2 1<|fb 7 1 0 1<|fn) [0,1,2,4,5,6,3,7,8,9] fun _ b0=>wV 6<|wL 0<|wL 1<|wV 2<|wN<|jXC 1 rfl<|cE (S.l.length:Int) (n:Int) (fun k0=>jCR 7 rfl<|retT [I 19]<|(by have hc:pushC S=19:=(by unfold pushC;rw [if_pos om]);have l0:=(b0.dropAt 0 rfl);have m0:=(l0.merge2);have he:pushD S r_=S:=(by unfold pushD;rw [hc,if_neg (by decide)]);exact ⟨_,by rw [hc];rfl,by rw [he];exact ⟨_,_,_,t,_,_,rfl,hO,B0,C0,hW⟩,m0⟩)) fun k0=>jCC 3 rfl<|drawF b0 [9,12] (fb 3 1 0 1<|fb 8 1 2 1<|fb 10 0 0 2<|fn) [0,1,2,4,5,6,7,3,8,10,9,11,12] fun _ n0=>wV 7<|wL 0<|wL 1<|wG 2 2<|wO rfl ?_
 have o0:=(n0.pick 1 rfl)
 refine cZ (pd_place (S.l.length:Int) om om om o0) ?_
 rintro _ _ ⟨c0,rfl,p0,d0⟩
 have A0:=p0.1;rw [Int.toNat_natCast,Int.toNat_natCast] at A0
 refine nZ d0 [0,1] ?_
 obtain ⟨q0,c1,d1,e0,r0,f0,s0⟩:=OwnT.eN hO c0
 refine wI f0<|wO rfl<|sStF d0 hO s0 2 c0 0 q0 (⟨r_.job,r_.task⟩:Ref) e0 (.agg #[I r_.job,I r_.task]) [I r_.job,I r_.task] sizeOf61 fun _ t0 u0 g0=>nA<|wN<|gXO g0 7 [0] rfl<|sAdd (S.l.length:Int) 1<|pu2<|sT g0 0 2 (I ((S.l.length:Int)+1)) [I ((S.l.length:Int)+1)] #[.slice a n k,I (t:Int),I ((S.l.length:Int)+1)] sizeOf3 fun v0 w0=>jOR 8 rfl<|retT [I 0] ?_
 have hc:pushC S=0:=by unfold pushC;rw [if_neg om]
 have D0:=C0.push (x:=r_) om;rw [hn,<-A0] at D0
 have E0:(S.l++[r_]).length=S.l.length+1:=by simp
 have x0:Sat W v0 ([(p, .cells #[.slice a n k,I (t:Int),I (((S.l++[r_]).length:Nat):Int)] 162 (0,0))]::[(i0, .cells #[I r_.job,I r_.task] 61 (0,0))]::t0::H::F):=by rw [E0];exact w0
 have y0:=(x0.dropAt 1 rfl)
 have z0:=(y0.merge2)
 have he:pushD S r_={S with l:=S.l++[r_]}:=by unfold pushD;rw [if_pos hc]
 exact ⟨_,by rw [hc];rfl,by rw [he];exact ⟨_,_,_,t,_,_,rfl,u0,B0,D0,⟨hW.c,by dsimp only;omega⟩⟩,z0⟩
theorem pd_pop {p:Nat} {S:DS} {M:Chunk} (hR:DqP p S M) (hS:Sat W w (M::H::F)):
  Calls prog 125 #[Pt p 0] w fun e w'=>(S.l=[]/\e= .returned (.tuple #[.agg #[I 0,I 0], .bool false])/\Sat W w' (M::H::F))\/(∃(x:Ref) (M':Chunk),S.l.getLast?=some x/\e= .returned (.tuple #[.agg #[I x.job,I x.task], .bool true])/\DqP p {S with l:=S.l.dropLast} M'/\Sat W w' (M'::H::F)):=by
 obtain ⟨a,n,k,t,r,c,rfl,hO,w0,v0,hW⟩:=hR
 have i0:Sat W _ ([(p, .cells #[.slice a n k,I (t:Int),I (S.l.length:Int)] 162 (0,0))]::c::H::F):=Sat.perm hS (by simp)
 have hn:=hO.len;have hl:=hO.le;have B0:=hW.c;have C0:=hW.n;have z0:=v0.1;have A0:=v0.2.1
 refine callsK 33 func125 rfl<|jCO 2 rfl<|sAlloc i0 zeroValue61 fun j0 _ b0=>gOC b0 17 [1] rfl<|cE (S.l.length:Int) 0 (fun k0=>jCO 3 rfl<|sTk b0 0 rfl [I 0,I 0] fun _ d0=>jOR 5 rfl<|retD d0 0 [I 0,I 0] (.bool false)<|(by have l0:=(d0.dropAt 0 rfl);exact .inl ⟨List.length_eq_zero_iff.1 om,rfl,(l0.merge2)⟩)) fun k0=>gCO b0 8 [1] rfl<|sSub (S.l.length:Int) 1<|pu2<|sT b0 1 2 (I ((S.l.length:Int)-1)) [I ((S.l.length:Int)-1)] #[.slice a n k,I (t:Int),I ((S.l.length:Int)-1)] sizeOf3 fun _ n0=>jOC 3 rfl<|drawF n0 [9,11,12] (fb 3 1 0 1<|fb 8 1 2 1<|fn) [0,1,2,4,5,6,7,3,8,9,10,11,12,13] fun _ o0=>wV 7<|wL 0<|wL 1<|wO rfl ?_
 have p0:=(o0.pick 1 rfl)
 refine cZ (pd_place ((S.l.length:Int)-1) om om om p0) ?_
 rintro _ _ ⟨q0,rfl,r0,c0⟩
 have m0:=r0.1;rw [Int.toNat_natCast,show (((S.l.length:Int)-1)).toNat=(S.l.length-1) by omega] at m0
 refine nZ c0 [0] ?_
 obtain ⟨a0,a1,b1,e0,f0,g0,c1⟩:=OwnT.eN hO q0
 refine wI g0<|wO rfl<|sMA c0 (f0.up 2 rfl) 0 [I a0.job,I a0.task]<|nZ c0 [0]<|wO rfl<|sTk c0 1 rfl [I a0.job,I a0.task] fun s0 h0=>nA<|wV 1<|wN<|jXR 2 rfl<|retD h0 1 [I a0.job,I a0.task] (.bool true) ?_
 have y0:S.l[S.l.length-1]?=some a0:=v0.at om (by rw [hn,<-m0];exact e0)
 have x0:S.l.getLast?=some a0:=by rw [List.getLast?_eq_getElem?];exact y0
 have t0:Sat W s0 ([(p, .cells #[.slice a n k,I (t:Int),I (S.l.dropLast.length:Int)] 162 (0,0))]::[(j0, .cells #[I a0.job,I a0.task] 61 (0,0))]::c::H::F):=by rw [show ((S.l.dropLast.length:Int))=((S.l.length:Int)-1) by rw [List.length_dropLast];omega];exact h0
 have u0:=(t0.dropAt 1 rfl)
 exact .inr ⟨_,_,x0,rfl,⟨_,_,_,t,_,_,rfl,hO,w0,v0.pop,⟨hW.c,by rw [List.length_dropLast];dsimp only;omega⟩⟩,(u0.merge2)⟩
theorem pd_steal {p:Nat} {S:DS} {M:Chunk} (hR:DqP p S M) (hS:Sat W w (M::H::F)):
  Calls prog 128 #[Pt p 0] w fun e w'=>(S.l=[]/\e= .returned (.tuple #[.agg #[I 0,I 0], .bool false])/\Sat W w' (M::H::F))\/(∃(x:Ref) (M':Chunk),S.l.head?=some x/\e= .returned (.tuple #[.agg #[I x.job,I x.task], .bool true])/\DqP p {S with l:=S.l.tail} M'/\Sat W w' (M'::H::F)):=by
 obtain ⟨a,n,k,t,r,c,rfl,hO,A0,z0,hW⟩:=hR
 have l0:Sat W _ ([(p, .cells #[.slice a n k,I (t:Int),I (S.l.length:Int)] 162 (0,0))]::c::H::F):=Sat.perm hS (by simp)
 have hn:=hO.len;have hl:=hO.le;have G0:=hW.c;have H0:=hW.n;have D0:=z0.1;have F0:=z0.2.1
 refine callsK 38 func128 rfl<|jCO 2 rfl<|sAlloc l0 zeroValue61 fun m0 _ e0=>gOC e0 17 [1] rfl<|cE (S.l.length:Int) 0 (fun n0=>jCO 3 rfl<|sTk e0 0 rfl [I 0,I 0] fun _ f0=>jOR 5 rfl<|retD f0 0 [I 0,I 0] (.bool false)<|(by have o0:=(f0.dropAt 0 rfl);exact .inl ⟨List.length_eq_zero_iff.1 om,rfl,(o0.merge2)⟩)) fun n0=>jCC 3 rfl ?_
 obtain ⟨a0,c1,d1,g0,d0,h0,e1⟩:=OwnT.eN hO t
 refine drawF e0 [10,11] (fb 3 1 0 1<|fb 7 1 1 1<|fp 9 (d0.up 2 rfl)<|fn) [0,1,2,4,5,6,3,7,8,9,10,11] fun _ q0=>wV 6<|wL 0<|wL 1<|wI h0<|wG 2 2<|wO rfl<|sAlloc q0 zeroValue61 fun r0 _ c0=>nilO ⟨⟨cI c0 2,cI c0 2, .inr ((d0.up 3 rfl).cell c0 (k:=0) rfl), .inr ((d0.up 3 rfl).cell c0 (k:=1) rfl),trivial⟩,?_⟩
 refine wO rfl<|sTk c0 0 rfl [I a0.job,I a0.task] fun _ s0=>nA<|wN<|jXO 5 rfl ?_
 have t0:=(s0.pick 2 rfl)
 refine cZ (pd_place (1:Int) om om om t0) ?_
 rintro _ _ ⟨b0,rfl,u0,v0⟩
 have p0:=u0.1;rw [Int.toNat_natCast,show ((1:Int)).toNat=1 by omega] at p0
 refine pu2<|sT v0 0 1 (I (b0:Int)) [I (b0:Int)] #[.slice a n k,I (b0:Int),I (S.l.length:Int)] sizeOf3 fun _ i0=>gOO i0 8 [0] rfl<|sSub (S.l.length:Int) 1<|pu2<|sT i0 0 2 (I ((S.l.length:Int)-1)) [I ((S.l.length:Int)-1)] #[.slice a n k,I (b0:Int),I ((S.l.length:Int)-1)] sizeOf3 fun _ j0=>gOO j0 5 [201] rfl<|sTk j0 2 rfl [I a0.job,I a0.task] fun w0 k0=>jOR 4 rfl<|retD k0 2 [I a0.job,I a0.task] (.bool true) ?_
 have E0:S.l[0]?=some a0:=z0.at om (by rw [Nat.add_zero,Nat.mod_eq_of_lt D0];exact g0)
 have C0:S.l.head?=some a0:=by rw [List.head?_eq_getElem?];exact E0
 have B0:=z0.steal;rw [hn,<-p0] at B0
 have x0:Sat W w0 ([(p, .cells #[.slice a n k,I (b0:Int),I (S.l.tail.length:Int)] 162 (0,0))]::[(r0, .cells #[I a0.job,I a0.task] 61 (0,0))]::[(m0, .cells #[I a0.job,I a0.task] 61 (0,0))]::c::H::F):=by rw [show ((S.l.tail.length:Int))=((S.l.length:Int)-1) by rw [List.length_tail];omega];exact k0
 have y0:=(x0.drops [1,1])
 exact .inr ⟨_,_,C0,rfl,⟨_,_,_,b0,_,_,rfl,hO,A0,B0,⟨hW.c,by rw [List.length_tail];dsimp only;omega⟩⟩,(y0.merge2)⟩
theorem pd_list {p:Nat} {S:DS} {M:Chunk} (hR:DqP p S M) (hS:Sat W w (M::H::F)):
  Calls prog 112 #[Pt p 0] w fun e w'=>∃(az:Option Addr) (nz kz:Nat) (Z:Chunk),e= .returned (.slice az nz kz)/\OwnT encRef 61 2 az nz kz S.l Z/\Sat W w' (Z::M::H::F):=by
 obtain ⟨a,n,k,t,r,c,rfl,hO,E0,B0,hW⟩:=hR
 have c0:Sat W _ ([(p, .cells #[.slice a n k,I (t:Int),I (S.l.length:Int)] 162 (0,0))]::c::H::F):=Sat.perm hS (by simp)
 have hn:=hO.len;have hl:=hO.le;have H0:=hW.c;have I0:=hW.n;have F0:=B0.1;have G0:=B0.2.1
 refine callsK 28 func112 rfl<|gCC c0 31 [0] rfl<|loopF [0,10] (γ:=Nat×(List Ref)×SO) (fun ⟨i,zs,x0,w0,y0,A0⟩ R=>⟨[(11,I (i:Int)),(3, .slice x0 w0 y0)],A0::R,S.l.length-i,i<=S.l.length/\(zs=S.l.take i)/\(zs.length<=i)/\OwnT encRef 61 2 x0 w0 y0 zs A0⟩) (0,[],none,0,0,[]) ⟨(Sat.nilc c0),om,rfl,by simp,(OwnT.nil (enc:=encRef) (E:=61) (sz:=2) fR)⟩ ?_
 rintro ⟨i,zs,x0,w0,y0,A0⟩ ρ _ ⟨d0,hi,hz,J0,k0⟩
 have D0:=k0.ll
 refine jCC 6 rfl<|CD ((i:Int)<(S.l.length:Int)) (fun l0=>jCR 12 rfl<|retT [.slice x0 w0 y0]<|(by have C0:zs=S.l:=(by rw [hz,List.take_of_length_le om]);have n0:=k0;rw [C0] at n0;have m0:=(d0.picks [2,2]);exact ⟨_,_,_,_,rfl,n0,((m0.merge2).pick 1 rfl)⟩)) fun l0=>jCC 10 rfl<|drawF d0 [7,9,10,11] (fb 4 1 0 1<|fn) [0,1,2,3,5,6,4,7,8,9,10,11,12] fun _ o0=>wV 6<|wL 0<|wO rfl ?_
 have p0:=(o0.pick 1 rfl)
 refine cZ (pd_place (i:Int) om om om p0) ?_
 rintro _ _ ⟨q0,rfl,r0,b0⟩
 have j0:=r0.1;rw [Int.toNat_natCast,Int.toNat_natCast] at j0
 refine nZ b0 [0] ?_
 obtain ⟨a0,z0,a1,e0,f0,g0,b1⟩:=OwnT.eN hO q0
 exact wI g0<|wO rfl<|sMA b0 (f0.up 2 rfl) 0 [I a0.job,I a0.task]<|nZ b0 [0]<|wO rfl<|sBK b0 #[I a0.job,I a0.task] 61 fun _ _ h0=>nZ h0 [1]<|wO rfl<|sApp (nb:=16) h0 k0 2 (RdT.blk (enc:=encRef) (sz:=2) (xs:=[(⟨a0.job,a0.task⟩:Ref)]) fR 1 0 rfl rfl rfl om) underlying125 (i:=Tryz.t61) kr fR fun s0 t0 u0 _ v0 i0=>nZ i0 [1]<|wV 1<|wN<|jXO 3 rfl<|sAdd (i:Int) 1<|jOI 2 rfl<|⟨(i+1,(zs++[(⟨a0.job,a0.task⟩:Ref)]),s0,(w0+1),t0,u0),od,alB,((i0.pick 2 rfl).dropAt 1 rfl),om,(by rw [hz];exact ring_list B0 om (by rw [hn,<-j0];exact e0)),(by first|omega|(simp;omega)),v0⟩
theorem pd_drain {p:Nat} {S:DS} {M:Chunk} (hR:DqP p S M) (hS:Sat W w (M::H::F)):
  Calls prog 64 #[Pt p 0] w fun e w'=>∃(a:Option Addr) (n k:Nat) (Z M':Chunk),e= .returned (.slice a n k)/\OwnT encRef 61 2 a n k S.l Z/\DqP p {S with l:=[]} M'/\Sat W w' (Z::M'::H::F):=by
 refine callsK 15 func64 rfl<|jCO 8 rfl<|cZ (pd_list hR hS.flat1) ?_
 rintro _ _ ⟨b0,c0,d0,e0,rfl,a0,f0⟩
 have g0:=f0.unflat2;have m0:=a0.ll
 refine jOC 11 rfl ?_
 obtain ⟨a,n,k,t,r,c,rfl,hO,n0,o0,hW⟩:=hR
 have h0:=(g0.pick 1 rfl)
 have i0:Sat W _ ([(p, .cells #[.slice a n k,I (t:Int),I (S.l.length:Int)] 162 (0,0))]::c::e0::H::F):=Sat.perm h0 (by simp)
 have hn:=hO.ll;have r0:=hW.c;have s0:=hW.n;have p0:=o0.1;have q0:=o0.2.1
 exact jCO 5 rfl<|sT i0 0 1 (I 0) [I 0] #[.slice a n k,I 0,I (S.l.length:Int)] sizeOf3 fun _ j0=>pu2<|sT j0 0 2 (I 0) [I 0] #[.slice a n k,I 0,I 0] sizeOf3 fun _ k0=>jOR 9 rfl<|retT [.slice b0 c0 d0]<|⟨_,_,_,_,_,rfl,a0,⟨_,_,_,0,_,_,rfl,hO,n0,Ring.nil om,⟨hW.c,by simp;omega⟩⟩,((k0.merge2).pick 1 rfl)⟩
theorem pd_remove {p:Nat} {S:DS} {M:Chunk} (hR:DqP p S M) (j:Int) (hS:Sat W w (M::H::F)):
  Calls prog 72 #[Pt p 0,I j] w fun e w'=>∃(M':Chunk) (v:Int),e= .returned (I v)/\DqP p ({S with l:=without j S.l}) M'/\Sat W w' (M'::H::F):=by
 obtain ⟨a,n,k,t,r,c,rfl,hO,M0,L0,hW⟩:=hR
 have p0:Sat W _ ([(p, .cells #[.slice a n k,I (t:Int),I (S.l.length:Int)] 162 (0,0))]::c::H::F):=Sat.perm hS (by simp)
 have hn:=hO.len;have hl:=hO.le;have S0:=hW.c;have T0:=hW.n;have O0:=L0.1;have P0:=L0.2.1
 refine callsK 54 func72 rfl<|gCC p0 31 [0] rfl<|loopF [0,1,14] (γ:=Nat×(List Ref)×Chunk×Int) (fun ⟨i,ri,ci,kp⟩ R=>⟨[(15,I (i:Int)),(5,I kp)],[(p, .cells #[.slice a n k,I (t:Int),I (S.l.length:Int)] 162 (0,0))]::ci::R,S.l.length-i,i<=S.l.length/\(OwnT encRef 61 2 a n k ri ci)/\(RemI ri t S.l j i)/\(kp=(((without j (S.l.take i)).length:Nat):Int))⟩) (0,r,c,0) ⟨p0,om,hO,L0.rem,by simp [without]⟩ ?_
 rintro ⟨i,ri,ci,kp⟩ ρ _ ⟨g0,hi,E0,C0,K0⟩
 have I0:=E0.len;have Q0:=C0.1;have R0:=C0.2.1;have N0:=without_len j (S.l.take i);rw [List.length_take] at N0
 refine jCC 6 rfl<|cD ((i:Int)<(S.l.length:Int)) (fun f1=>?_) (fun f1=>?_)
 rotate_left
 ·refine gCO g0 12 [0] rfl<|sSub (S.l.length:Int) kp<|jOO 9 rfl<|sT g0 0 2 (I kp) [I kp] #[.slice a n k,I (t:Int),I kp] sizeOf3 fun g1 h1=>jOR 9 rfl<|retT [I ((S.l.length:Int)-kp)] ?_
  have i1:Sat W g1 ([(p, .cells #[.slice a n k,I (t:Int),I (((without j S.l).length:Nat):Int)] 162 (0,0))]::ci::H::F):=by rw [show ((((without j S.l).length:Nat):Int))=kp by rw [K0,List.take_of_length_le om]];exact h1
  exact ⟨_,_,rfl,⟨_,_,_,t,_,_,rfl,E0,M0,C0.ring om,⟨hW.c,by have:=without_len j S.l;dsimp only;omega⟩⟩,(i1.merge2)⟩
 refine jCC 11 rfl<|drawG g0 [6,8,9,10] (fb 3 0 0 1<|fn) (pS [0,1,2,4,5,3]<| .fk 6 9 (pS [7]<| .fk 8 9 (.ef 9<| .ef 10<| .fin) (.ef 8<| .ef 10<| .fin)) (.ef 6<|pS [7]<| .ef 8<| .ef 10<| .fin)) fun _ q0=>qV 5<|qL 0<|qF ?_ ?_
 rotate_left
 ·refine qO rfl<|sAlloc q0 zeroValue61 fun _ _ r0=>nZ r0 [1]<|qO rfl ?_
  have k1:=(r0.pick 1 rfl)
  refine cZ (pd_place (i:Int) om om om k1) ?_
  rintro _ _ ⟨l1,rfl,m1,e0⟩
  have D0:=m1.1;rw [Int.toNat_natCast,Int.toNat_natCast] at D0
  refine nZ e0 [0] ?_
  obtain ⟨b0,e3,f3,h0,s0,t0,g3⟩:=OwnT.eN E0 l1
  refine qI t0<|qO rfl<|sMA e0 (s0.up 2 rfl) 0 [I b0.job,I b0.task]<|nZ e0 [0]<|qO rfl<|sTk e0 1 rfl [I b0.job,I b0.task] fun _ i0=>nA<|qN<|gXC i0 9 [1] rfl<|cN b0.job j (fun n1=>jCO 4 rfl<|sAdd (i:Int) 1<|jOI 2 rfl<|(by have o1:=(i0.dropAt 1 rfl);have B0:=C0.at om (by rw [I0,<-D0];exact h0);exact ⟨(i+1,ri,ci,kp),od,alB,o1,om,E0,C0.drop B0 om,by rw [K0,without_same B0 om]⟩)) fun n1=>jCC 1 rfl<|drawF i0 [6,9] (fb 3 0 0 1<|fb 7 1 0 2<|fn) [0,1,2,4,5,3,7,6,8,9] fun _ q1=>wV 5<|wL 0<|wG 1 2<|wO rfl<|cZ (pd_place kp om om om q1) ?_
  rintro _ _ ⟨j0,rfl,r1,u0⟩
  have H0:=r1.1;rw [Int.toNat_natCast,show (kp).toNat=(without j (S.l.take i)).length by omega] at H0
  refine nZ u0 [0,1] ?_
  obtain ⟨s1,j3,k3,v0,t1,w0,u1⟩:=OwnT.eN E0 j0
  exact wI w0<|wO rfl<|sStF u0 E0 u1 2 j0 0 s1 (⟨b0.job,b0.task⟩:Ref) v0 (.agg #[I b0.job,I b0.task]) [I b0.job,I b0.task] sizeOf61 fun _ v1 w1 x1=>nA<|wN<|jXO 3 rfl<|sAdd kp 1<|jOO 5 rfl<|sAdd (i:Int) 1<|jOI 2 rfl<|(by have y1:=(x1.dropAt 1 rfl);have B0:=C0.at om (by rw [I0,<-D0];exact h0);have J0:=C0.keep B0 om;exact ⟨(i+1,(ri.set j0 (⟨b0.job,b0.task⟩:Ref)),v1,(kp+1)),od,alB,y1,om,w1,(by rw [I0,<-H0] at J0;exact J0),by rw [K0,without_snoc B0 om,List.length_append,List.length_singleton];omega⟩)
 refine qO rfl<|cZ (pd_place (i:Int) om om om q0) ?_
 rintro _ _ ⟨z1,rfl,a2,c0⟩
 have A0:=a2.1;rw [Int.toNat_natCast,Int.toNat_natCast] at A0
 refine nZ c0 [0] ?_
 obtain ⟨a0,n3,o3,d0,k0,x0,q3⟩:=OwnT.eN E0 z1
 refine qI x0<|qF ?_ ?_
 ·refine qO rfl<|sMA c0 (k0.up 1 rfl) 0 [I a0.job,I a0.task]<|nZ c0 [0]<|qO rfl<|sAlloc c0 zeroValue61 fun _ _ y0=>nZ y0 [1]<|qO rfl<|sTk y0 0 rfl [I a0.job,I a0.task] fun _ l0=>nA<|qN<|gXC l0 9 [0] rfl<|cN a0.job j (fun b2=>jCO 4 rfl<|sAdd (i:Int) 1<|jOI 2 rfl<|(by have c2:=(l0.dropAt 0 rfl);have B0:=C0.at om (by rw [I0,<-A0];exact d0);exact ⟨(i+1,ri,ci,kp),od,alB,c2,om,E0,C0.drop B0 om,by rw [K0,without_same B0 om]⟩)) fun b2=>jCC 1 rfl<|drawF l0 [6,9] (fb 3 1 0 1<|fb 7 0 0 2<|fn) [0,1,2,4,5,3,7,6,8,9] fun _ d2=>wV 5<|wL 0<|wG 1 2<|wO rfl ?_
  have e2:=(d2.pick 1 rfl)
  refine cZ (pd_place kp om om om e2) ?_
  rintro _ _ ⟨m0,rfl,f2,z0⟩
  have F0:=f2.1;rw [Int.toNat_natCast,show (kp).toNat=(without j (S.l.take i)).length by omega] at F0
  refine nZ z0 [0,1] ?_
  obtain ⟨g2,v3,w3,a1,h2,b1,i2⟩:=OwnT.eN E0 m0
  exact wI b1<|wO rfl<|sStF z0 E0 i2 2 m0 0 g2 (⟨a0.job,a0.task⟩:Ref) a1 (.agg #[I a0.job,I a0.task]) [I a0.job,I a0.task] sizeOf61 fun _ j2 k2 l2=>nA<|wN<|jXO 3 rfl<|sAdd kp 1<|jOO 5 rfl<|sAdd (i:Int) 1<|jOI 2 rfl<|(by have m2:=(l2.dropAt 1 rfl);have B0:=C0.at om (by rw [I0,<-A0];exact d0);have J0:=C0.keep B0 om;exact ⟨(i+1,(ri.set m0 (⟨a0.job,a0.task⟩:Ref)),j2,(kp+1)),od,alB,m2,om,k2,(by rw [I0,<-F0] at J0;exact J0),by rw [K0,without_snoc B0 om,List.length_append,List.length_singleton];omega⟩)
 refine qO rfl<|sAlloc c0 zeroValue61 fun _ _ f0=>nZ f0 [1]<|qO rfl<|sMA f0 (k0.up 2 rfl) 0 [I a0.job,I a0.task]<|nZ f0 [1]<|qO rfl<|sTk f0 0 rfl [I a0.job,I a0.task] fun _ n0=>nA<|qN<|gXC n0 9 [0] rfl<|cN a0.job j (fun n2=>jCO 4 rfl<|sAdd (i:Int) 1<|jOI 2 rfl<|(by have o2:=(n0.dropAt 0 rfl);have B0:=C0.at om (by rw [I0,<-A0];exact d0);exact ⟨(i+1,ri,ci,kp),od,alB,o2,om,E0,C0.drop B0 om,by rw [K0,without_same B0 om]⟩)) fun n2=>jCC 1 rfl<|drawF n0 [6,9] (fb 3 1 0 1<|fb 7 0 0 2<|fn) [0,1,2,4,5,3,7,6,8,9] fun _ q2=>wV 5<|wL 0<|wG 1 2<|wO rfl ?_
 have r2:=(q2.pick 1 rfl)
 refine cZ (pd_place kp om om om r2) ?_
 rintro _ _ ⟨o0,rfl,s2,c1⟩
 have G0:=s2.1;rw [Int.toNat_natCast,show (kp).toNat=(without j (S.l.take i)).length by omega] at G0
 refine nZ c1 [0,1] ?_
 obtain ⟨t2,c4,d4,d1,u2,e1,v2⟩:=OwnT.eN E0 o0
 exact wI e1<|wO rfl<|sStF c1 E0 v2 2 o0 0 t2 (⟨a0.job,a0.task⟩:Ref) d1 (.agg #[I a0.job,I a0.task]) [I a0.job,I a0.task] sizeOf61 fun _ w2 x2 y2=>nA<|wN<|jXO 3 rfl<|sAdd kp 1<|jOO 5 rfl<|sAdd (i:Int) 1<|jOI 2 rfl<|(by have z2:=(y2.dropAt 1 rfl);have B0:=C0.at om (by rw [I0,<-A0];exact d0);have J0:=C0.keep B0 om;exact ⟨(i+1,(ri.set o0 (⟨a0.job,a0.task⟩:Ref)),w2,(kp+1)),od,alB,z2,om,x2,(by rw [I0,<-G0] at J0;exact J0),by rw [K0,without_snoc B0 om,List.length_append,List.length_singleton];omega⟩)
theorem pd_new {cs:List Chunk} (c:Int) (hc:1<=c/\c<=256) (hS:Sat W w cs):
  Calls prog 45 #[I c] w fun e w'=>∃(p:Nat) (M:Chunk),e= .returned (.tuple #[Pt p 0,I 0])/\DqP p ⟨c,[]⟩ M/\Sat W w' (M::cs):=by
 exact callsK 14 func45 rfl<|jCO 12 rfl<|sD 6 (c<1) (fun d0=>jOR 14 rfl<|retT [.pointer none,I 2]<|(by omega)) fun d0=>jOC 5 rfl<|cD (c>256) (fun e0=>jCR 8 rfl<|retT [.pointer none,I 2]<|(by omega)) fun e0=>jCO 5 rfl<|sMake (kl:= .i64) (kc:= .i64) (enc:=encRef) (sz:=2) (nb:=16) hS ⟨0,0⟩ (c).toNat c (om:c=(((c).toNat:Nat):Int)) underlying125 (i:=Tryz.t61) kr fR fun a0 c0 _ f0 g0=>pu1<|sBx g0 [.slice (At a0 0) ((c).toNat) ((c).toNat),I 0,I 0] fun b0 _ h0=>jOR 5 rfl<|retT [Pt b0 0,I 0]<|(by have i0:Sat W _ (([(b0, .cells #[.slice (At a0 0) ((c).toNat) ((c).toNat),I 0,I 0] 162 (0,0))]++c0)::cs):=Sat.perm (show Sat W _ ([(b0, .cells #[.slice (At a0 0) ((c).toNat) ((c).toNat),I 0,I 0] 162 (0,0))]::c0::cs) from h0) (by simp);exact ⟨_,_,rfl,⟨_,_,_,0,_,_,rfl,f0,by dsimp only;omega,Ring.nil (by rw [List.length_replicate];omega),⟨hc,by simp;omega⟩⟩,i0⟩)
end Go.Proofs.YtkadmghedmodbaaGreat

namespace Go.Proofs.YtkadmghedmodbaaGreat
open Go Go.E Go.Proofs.Tryz
set_option linter.all false
set_option maxRecDepth 100000
set_option maxHeartbeats 2000000
variable {W w:World} {H:Chunk} {F:List Chunk}
theorem tail_part2 {l:List Ref} {n:Nat} (h:l.length=n):(l.drop 1).take (n-1)=l.tail:=by
  rw [List.take_of_length_le (by simp;omega),List.drop_one]
theorem take_snoc {l:List Ref} {k:Nat} {x:Ref} (h:l[k]?=some x):l.take (k+1)=l.take k++[x]:=take_succ_at h
theorem without_none {l:List Ref} {j:Int} (h:∀(k:Nat) (x:Ref),l[k]?=some x->¬x.job=j):without j l=l:=by
  refine List.filter_eq_self.2 fun x hx=>?_
  obtain ⟨k,hk⟩:=List.getElem?_of_mem hx
  simpa using h k x hk
theorem del_keep {xs ys:List Ref} {i k:Nat} {x:Ref} {j:Int} (hl:ys.length=xs.length) (hi:i<k) (h1:ys.take i=without j (xs.take k)) (h2:ys.drop k=xs.drop k) (hx:ys[k]?=some x) (hj:¬x.job=j):
  (ys.set i x).length=xs.length/\(ys.set i x).take (i+1)=without j (xs.take (k+1))/\(ys.set i x).drop (k+1)=xs.drop (k+1):=by
 have hk:k<ys.length:=(List.getElem?_eq_some_iff.1 hx).1
 have a0:xs[k]?=some x:=(by have e1:(ys.drop k)[0]?=ys[k]?:=(by simp);have e2:(xs.drop k)[0]?=xs[k]?:=(by simp);rw [<-e2,<-h2,e1,hx])
 refine ⟨by simp [hl],?_,?_⟩
 · exact (by rw [without_snoc a0 hj,<-h1];rw [take_snoc (l:=ys.set i x) (k:=i) (x:=x) (by rw [List.getElem?_set_self om])];congr 1;rw [List.take_set_of_le om])
 · exact (by rw [List.drop_set_of_lt om];have e1:ys.drop (k+1)=(ys.drop k).drop 1:=(by simp);have e2:xs.drop (k+1)=(xs.drop k).drop 1:=(by simp);rw [e1,e2,h2])
theorem del_drop {xs ys:List Ref} {i k:Nat} {x:Ref} {j:Int} (h1:ys.take i=without j (xs.take k)) (h2:ys.drop k=xs.drop k) (hx:ys[k]?=some x) (hj:x.job=j):
    ys.take i=without j (xs.take (k+1))/\ys.drop (k+1)=xs.drop (k+1):=by
  have a0:xs[k]?=some x:=(by have e1:(ys.drop k)[0]?=ys[k]?:=(by simp);have e2:(xs.drop k)[0]?=xs[k]?:=(by simp);rw [<-e2,<-h2,e1,hx])
  refine ⟨by rw [without_same a0 hj,h1],?_⟩
  have e1:ys.drop (k+1)=(ys.drop k).drop 1:=by simp
  have e2:xs.drop (k+1)=(xs.drop k).drop 1:=by simp
  rw [e1,e2,h2]
def IdxP (xs:List Ref) (j:Int) (n:Nat) (r:Int):Prop:=((r=-1/\∀(k:Nat) (x:Ref),xs[k]?=some x->¬x.job=j)\/∃i:Nat,r=(i:Int)/\i<n/\(∃x:Ref,xs[i]?=some x/\x.job=j)/\∀(k:Nat) (x:Ref),k<i->xs[k]?=some x->¬x.job=j)
def InjP (p:Nat) (S:QS) (M:Chunk):Prop:=∃(a0:Option Addr) (n0 k0:Nat) (l0:List Ref) (c0:Chunk) (a1:Option Addr) (n1 k1:Nat) (l1:List Ref) (c1:Chunk) (a2:Option Addr) (n2 k2:Nat) (l2:List Ref) (c2:Chunk) (a3:Option Addr) (n3 k3:Nat) (l3:List Ref) (c3:Chunk),M=[(p, .cells #[.int .i64 S.cap, .slice a0 n0 k0, .slice a1 n1 k1, .slice a2 n2 k2, .slice a3 n3 k3] 158 (0,0))]++(c0++(c1++(c2++c3)))/\OwnT encRef 61 2 a0 n0 k0 l0 c0/\OwnT encRef 61 2 a1 n1 k1 l1 c1/\OwnT encRef 61 2 a2 n2 k2 l2 c2/\OwnT encRef 61 2 a3 n3 k3 l3 c3/\S.bs=[l0,l1,l2,l3]/\(1<=S.cap/\S.cap<=4096)/\totB S.bs<=S.cap
theorem del_ok (W w:World) (bj:Nat) (F:List Chunk) (r:Ref) (j:Int) (hS:Sat W w ([(bj, .cells #[.int .i64 j] 3 (0,0))]::F)):
    Calls prog 120 #[.agg #[.int .i64 r.job, .int .i64 r.task], .pointer (some ⟨bj,0,none⟩)] w fun e w'=>e= .returned (.bool (r.job==j))/\Sat W w' ([(bj, .cells #[.int .i64 j] 3 (0,0))]::F):=by
  exact callsK 8 func120 rfl<|jCO 2 rfl<|sBx hS [.int .i64 r.job, .int .i64 r.task] fun b0 c0 a0=>gOR a0 13 [0,1] rfl<|retT [.bool ((r.job:Int)==j)]<|⟨rfl,(a0.dropAt 0 rfl)⟩
theorem index_ok (W w:World) (bj:Nat) (G:Chunk) (F:List Chunk) (a:Option Addr) (n cap:Nat) (xs:List Ref) (j:Int) (hR:RdT encRef 2 [G] a n cap xs) (hS:Sat W w ([(bj, .cells #[I j] 3 (0,0))]::G::F)):
  Calls prog 172 #[.slice a n cap, .func (.func 120) #[] #[Pt bj 0]] w fun e w'=>∃r:Int,e= .returned (I r)/\(-1<=r/\r<n)/\IdxP xs j n r/\Sat W w' ([(bj, .cells #[I j] 3 (0,0))]::G::F):=by
 have hl:=hR.ll
 refine callsK 19 func172 rfl<|jCC 14 rfl<|loopF [0,1,7] (γ:=Nat) (fun i R=>⟨[(8,I (i:Int))],R,n-i,i<=n/\(∀(k:Nat) (x:Ref),k<i->xs[k]?=some x->¬x.job=j)⟩) 0 ⟨hS,om,fun k x hk=>absurd hk om⟩ ?_
 rintro i ρ _ ⟨b0,hi,h0⟩
 refine jCC 6 rfl<|CD ((i:Int)<(n:Int)) (fun f0=>jCR 11 rfl<|retT [I (-1)]<|⟨-1,rfl,om, .inl ⟨rfl,fun k x hk=>h0 k x (by have:=(List.getElem?_eq_some_iff.1 hk).1;omega) hk⟩,b0⟩) fun f0=>?_
 refine jCO 15 rfl<|sIN hR i fun a0 _ _ c0 g0=>sMA b0 (g0.up 1 rfl) 0 [I a0.job,I a0.task]<|sC #[.agg #[I a0.job,I a0.task],Pt bj 0] #[Pt bj 0] call120 (Calls.mono (del_ok W _ _ _ ⟨a0.job,a0.task⟩ _ b0) ?_)
 rintro _ _ ⟨rfl,e0⟩
 exact ⟨_,rfl,(jOC 2 rfl<|cE a0.job j (fun d0=>jCR 12 rfl<|retT [I (i:Int)]<|⟨_,rfl,om, .inr ⟨i,rfl,om,⟨a0,c0,d0⟩,fun k y hk=>h0 k y hk⟩,e0⟩) fun d0=>jCO 4 rfl<|sAdd (i:Int) 1<|jOI 2 rfl<|(by have j0:¬a0.job=j:=d0;exact ⟨i+1,od,alB,e0,om,fun k y hk hy=>by by_cases i0:k=i;exact (by subst i0;rw [c0] at hy;cases hy;exact j0);exact h0 k y om hy⟩))⟩
theorem delete_ok (W w:World) (bj:Nat) (c:Chunk) (F:List Chunk) (a:Option Addr) (n cap:Nat) (xs:List Ref) (j:Int) (hO:OwnT encRef 61 2 a n cap xs c) (hS:Sat W w ([(bj, .cells #[I j] 3 (0,0))]::c::F)):
  Calls prog 119 #[.slice a n cap, .func (.func 120) #[] #[Pt bj 0]] w fun e w'=>∃(a':Option Addr) (cap':Nat) (c':Chunk),e= .returned (.slice a' (without j xs).length cap')/\OwnT encRef 61 2 a' (without j xs).length cap' (without j xs) c'/\Sat W w' ([(bj, .cells #[I j] 3 (0,0))]::c'::F):=by
 have hl:=hO.len;have K0:=hO.le
 refine callsK 42 func119 rfl<|jCO 9 rfl ?_
 have k0:=(hS.picks [1,1])
 refine sF #[.slice a n cap, .func (.func 120) #[] #[Pt bj 0]] call172 (Calls.mono (index_ok W _ _ _ _ _ _ _ _ _ (hO.rdAt (cs:=[c]) 0 rfl) k0) ?_)
 rintro _ _ ⟨b0,rfl,_,f0,g0⟩
 refine ⟨_,rfl,?_⟩
 refine jOC 10 rfl<|cE b0 (-1) (fun l0=>jCR 8 rfl<|retT [.slice a n cap]<|(by have hw:without j xs=xs:=without_none (by rcases f0 with h|⟨i,h,_⟩;exact h.2;omega);rw [hw,hl];exact ⟨_,_,_,rfl,hO,g0⟩)) fun l0=>jCO 6 rfl<|sAdd b0 1<|jOC 4 rfl ?_
 obtain ⟨i0,C0,J0,⟨x0,I0,F0⟩,G0⟩:∃i:Nat,b0=(i:Int)/\i<n/\(∃x:Ref,xs[i]?=some x/\x.job=j)/\∀(k:Nat) (x:Ref),k<i->xs[k]?=some x->¬x.job=j:=by
  rcases f0 with h|h
  ·omega
  ·exact h
 subst C0
 have H0:without j (xs.take i0)=xs.take i0:=without_none fun k x hk=>by have h3:=(List.getElem?_eq_some_iff.1 hk).1;rw [List.getElem?_take,if_pos (by simp at h3;omega)] at hk;exact G0 k x (by simp at h3;omega) hk
 refine loopF [0,1] (γ:=Nat×Nat×(List Ref)×Chunk) (fun ⟨i,k,ys,c2⟩ R=>⟨[(5,I (i:Int)),(6,I (k:Int))],[(bj, .cells #[I j] 3 (0,0))]::c2::R,n-k,OwnT encRef 61 2 a n cap ys c2/\(k<=n/\i<k)/\ys.take i=without j (xs.take k)/\ys.drop k=xs.drop k/\ys.length=xs.length⟩) (i0,i0+1,xs,c) ⟨g0,hO,om,by rw [without_same I0 F0,H0],rfl,rfl⟩ ?_
 rintro ⟨i,k,ys,c2⟩ ρ _ ⟨c0,B0,hk,h1,h2,E0⟩
 refine jCC 9 rfl<|CD ((k:Int)<(n:Int)) (fun m0=>(by refine jCO 9 rfl<|sSl (some (i:Int)) none i n runUnderlying125 sizeOf61 ⟨om,om⟩ rfl om om ?_ (a:=a) (len:=n) (cap:=cap);have f1:=B0.part (lo:=i) (hi:=n) om om;refine sClear c0 B0 1 ⟨0,0⟩ (lo:=i) om runUnderlying125 zeroValue61 kr fun _ _ n0 o0=>jOO 6 rfl<|sSl none (some (i:Int)) 0 i runUnderlying125 sizeOf61 rfl ⟨om,om⟩ om om ?_ (a:=a) (len:=n) (cap:=cap);have p0:=n0.part (lo:=0) (hi:=i) om om;refine jOR 4 rfl<|retT [.slice (partAddr a cap 0 2) (i-0) (cap-0)] ?_;have A0:=p0;have hy:((List.take i ys++List.replicate (n-i) (⟨0,0⟩:Ref)).drop 0).take (i-0)=without j xs:=(by rw [List.drop_zero,Nat.sub_zero,List.take_append_of_le_length (by simp;omega),List.take_take,Nat.min_self,h1,List.take_of_length_le om]);rw [hy] at A0;have D0:=A0.len;rw [D0];exact ⟨_,_,_,rfl,A0,o0⟩)) fun m0=>?_
 refine jCO 8 rfl<|sIO B0 (k:Int) k fun a0 _ _ h0 q0 _=>sMA c0 (q0.up 1 rfl) 0 [I a0.job,I a0.task]<|sAlloc c0 zeroValue61 fun _ _ r0=>sTk r0 0 rfl [I a0.job,I a0.task] fun _ j0=>gOO j0 6 [200] rfl ?_
 have s0:=(j0.pick 1 rfl)
 refine sC #[.agg #[I a0.job,I a0.task],Pt bj 0] #[Pt bj 0] call120 (Calls.mono (del_ok W _ _ _ ⟨a0.job,a0.task⟩ _ s0) ?_)
 rintro _ _ ⟨rfl,d0⟩
 exact ⟨_,rfl,(jOC 3 rfl<|cEn a0.job j (fun e0=>jCO 5 rfl<|sAdd (k:Int) 1<|jOI 2 rfl<|(by have t0:=(d0.dropAt 1 rfl);have hd:=del_drop h1 h2 h0 e0;exact ⟨(i,k+1,ys,c2),by dsimp only;omega,alB,t0,B0,om,hd.1,hd.2,E0⟩)) fun e0=>gCO d0 5 [201] rfl<|sIO B0 (i:Int) i fun u0 _ _ v0 _ w0=>sStF d0 B0 w0 2 i 0 u0 (⟨a0.job,a0.task⟩:Ref) v0 (.agg #[I a0.job,I a0.task]) [I a0.job,I a0.task] sizeOf61 fun _ y0 z0 a1=>jOO 4 rfl<|sAdd (i:Int) 1<|jOO 6 rfl<|sAdd (k:Int) 1<|jOI 2 rfl<|(by have b1:=(a1.dropAt 1 rfl);have hd:=del_keep E0 hk.2 h1 h2 h0 e0;exact ⟨(i+1,k+1,(ys.set i (⟨a0.job,a0.task⟩:Ref)),y0),by dsimp only;omega,alB,b1,z0,om,hd.2.1,hd.2.2,hd.1⟩))⟩
theorem pq_len {p:Nat} {S:QS} {M:Chunk} (hR:InjP p S M) (hS:Sat W w (M::H::F)):
  Calls prog 100 #[Pt p 0] w fun e w'=>e= .returned (I (totB S.bs))/\Sat W w' (M::H::F):=by
 obtain ⟨a0,n0,k0,l0,c0,a1,n1,k1,l1,c1,a2,n2,k2,l2,c2,a3,n3,k3,l3,c3,rfl,d0,e0,f0,g0,hb,s0,t0⟩:=hR
 have hS:Sat W _ ([(p, .cells #[I S.cap, .slice a0 n0 k0, .slice a1 n1 k1, .slice a2 n2 k2, .slice a3 n3 k3] 158 (0,0))]::c0::c1::c2::c3::H::F):=Sat.perm hS (by simp)
 have ht:totB S.bs=n0+n1+n2+n3:=by rw [hb];unfold totB;simp [d0.len,e0.len,f0.len,g0.len];omega
 have o0:=d0.ll;have p0:=e0.ll;have q0:=f0.ll;have r0:=g0.ll
 exact callsA 21 func100 rfl<|sR<|pu1<|zQ<|pu2<|nT<|cFf<|kS<|pu1<|zQ<|pu3<|lB hS 0 1 4<|pu1<|nT<|blockE<|loopN 5<|roundS<|sR<|pu1<|nT<|seqE<|cTt<|kT<|seqE<|blockE<|sR<|pu2<|nT<|rE<|pu3<|sAdd 0 (n0:Int)<|pu1<|nB<|rE<|pu2<|nT<|roundS<|sR<|pu1<|nT<|seqE<|cTt<|kT<|seqE<|blockE<|sR<|pu2<|nT<|rE<|pu3<|sAdd (0+(n0:Int)) (n1:Int)<|pu1<|nB<|rE<|pu2<|nT<|roundS<|sR<|pu1<|nT<|seqE<|cTt<|kT<|seqE<|blockE<|sR<|pu2<|nT<|rE<|pu3<|sAdd ((0+(n0:Int))+(n1:Int)) (n2:Int)<|pu1<|nB<|rE<|pu2<|nT<|roundS<|sR<|pu1<|nT<|seqE<|cTt<|kT<|seqE<|blockE<|sR<|pu2<|nT<|rE<|pu3<|sAdd (((0+(n0:Int))+(n1:Int))+(n2:Int)) (n3:Int)<|pu1<|nB<|rE<|pu2<|nT<|roundS<|sR<|pu1<|nT<|seqE<|cFf<|exitE<|xB<|tN<|sR<|pu2<|zE<|retT [I ((((0+(n0:Int))+(n1:Int))+(n2:Int))+(n3:Int))]<|(by have b0:Sat W _ (([(p, .cells #[I S.cap, .slice a0 n0 k0, .slice a1 n1 k1, .slice a2 n2 k2, .slice a3 n3 k3] 158 (0,0))]++(c0++(c1++(c2++c3))))::H::F):=Sat.perm (show Sat W _ ([(p, .cells #[I S.cap, .slice a0 n0 k0, .slice a1 n1 k1, .slice a2 n2 k2, .slice a3 n3 k3] 158 (0,0))]::c0::c1::c2::c3::H::F) from hS) (by simp);exact ⟨congrArg (fun z=>Ending.returned (I z)) om,b0⟩)
theorem pq_push0 {p:Nat} {S:QS} {M:Chunk} (hR:InjP p S M) (r:Ref) (hS:Sat W w (M::H::F)):
  Calls prog 55 #[Pt p 0, .agg #[I r.job,I r.task],I 0] w fun e w'=>∃M':Chunk,e= .returned (I (pushCQ S))/\InjP p (pushQ S r 0) M'/\Sat W w' (M'::H::F):=by
 obtain ⟨a0,n0,k0,l0,c0,a1,n1,k1,l1,c1,a2,n2,k2,l2,c2,a3,n3,k3,l3,c3,rfl,A0,B0,C0,D0,hb,E0,F0⟩:=hR
 have hS:Sat W _ ([(p, .cells #[I S.cap, .slice a0 n0 k0, .slice a1 n1 k1, .slice a2 n2 k2, .slice a3 n3 k3] 158 (0,0))]::c0::c1::c2::c3::H::F):=Sat.perm hS (by simp)
 have ht:totB S.bs=n0+n1+n2+n3:=by rw [hb];unfold totB;simp [A0.len,B0.len,C0.len,D0.len];omega
 have K0:=A0.ll;have L0:=B0.ll;have M0:=C0.ll;have N0:=D0.ll
 refine callsK 43 func55 rfl<|jCO 2 rfl<|sBx hS [I r.job,I r.task] fun b0 _ d0=>gOC d0 17 [1] rfl<|cE S.cap 0 (fun m0=>jCR 7 rfl<|retT [I 20]<|(by have o0:=(d0.dropAt 0 rfl);have f1:Sat W _ (([(p, .cells #[I S.cap, .slice a0 n0 k0, .slice a1 n1 k1, .slice a2 n2 k2, .slice a3 n3 k3] 158 (0,0))]++(c0++(c1++(c2++c3))))::H::F):=Sat.perm (show Sat W _ ([(p, .cells #[I S.cap, .slice a0 n0 k0, .slice a1 n1 k1, .slice a2 n2 k2, .slice a3 n3 k3] 158 (0,0))]::c0::c1::c2::c3::H::F) from o0) (by simp);have hq:totB [l0,l1,l2,l3]=totB S.bs:=(by rw [hb]);omega)) fun m0=>jCC 18 rfl<|drawF d0 [1] (fb 5 1 0 1<|fn) [0,2,3,4,5,1,6] fun _ p0=>wV 4<|wL 0<|wO rfl ?_
 have q0:=(p0.picks [5,5,5,5,5])
 have r0:Sat W _ (([(p, .cells #[I S.cap, .slice a0 n0 k0, .slice a1 n1 k1, .slice a2 n2 k2, .slice a3 n3 k3] 158 (0,0))]++(c0++(c1++(c2++c3))))::[(b0, .cells #[I r.job,I r.task] 61 (0,0))]::H::F):=Sat.perm (show Sat W _ ([(p, .cells #[I S.cap, .slice a0 n0 k0, .slice a1 n1 k1, .slice a2 n2 k2, .slice a3 n3 k3] 158 (0,0))]::c0::c1::c2::c3::[(b0, .cells #[I r.job,I r.task] 61 (0,0))]::H::F) from q0) (by simp)
 have g1:totB [l0,l1,l2,l3]=((n0+n1+n2+n3:Nat):Int):=by unfold totB;simp only [List.map_cons,List.map_nil,List.sum_cons,List.sum_nil];have h0:=(A0).len;have h1:=(B0).len;have h2:=(C0).len;have h3:=(D0).len;omega
 refine cZ (pq_len (S:=⟨S.cap,[l0,l1,l2,l3]⟩) ⟨_,_,_,_,_,_,_,_,_,_,_,_,_,_,_,_,_,_,_,_,rfl,A0,B0,C0,D0,rfl,E0,(by dsimp only;omega)⟩ r0.flat1) ?_
 rintro _ _ ⟨rfl,s0⟩
 have e0:Sat W _ ([(p, .cells #[I S.cap, .slice a0 n0 k0, .slice a1 n1 k1, .slice a2 n2 k2, .slice a3 n3 k3] 158 (0,0))]::c0::c1::c2::c3::[(b0, .cells #[I r.job,I r.task] 61 (0,0))]::H::F):=Sat.perm (Sat.unflat1 s0) (by simp [Value.cells])
 refine nZ e0 [0]<|wV 1<|wN<|jXC 1 rfl<|cD ((totB [l0,l1,l2,l3])>=S.cap) (fun t0=>jCR 7 rfl<|retT [I 19]<|(by have u0:=(e0.dropAt 5 rfl);have v0:Sat W _ (([(p, .cells #[I S.cap, .slice a0 n0 k0, .slice a1 n1 k1, .slice a2 n2 k2, .slice a3 n3 k3] 158 (0,0))]++(c0++(c1++(c2++c3))))::H::F):=Sat.perm (show Sat W _ ([(p, .cells #[I S.cap, .slice a0 n0 k0, .slice a1 n1 k1, .slice a2 n2 k2, .slice a3 n3 k3] 158 (0,0))]::c0::c1::c2::c3::H::F) from u0) (by simp);have hq:totB [l0,l1,l2,l3]=totB S.bs:=(by rw [hb]);have hc:pushCQ S=19:=(by unfold pushCQ;rw [if_pos om]);have he:pushQ S r 0=S:=(by unfold pushQ;rw [hc,if_neg (by decide)]);exact ⟨_,by rw [hc];rfl,by rw [he];exact ⟨_,_,_,_,_,_,_,_,_,_,_,_,_,_,_,_,_,_,_,_,rfl,A0,B0,C0,D0,hb,E0,F0⟩,v0⟩)) fun t0=>jCC 3 rfl<|drawF e0 [9,10,14] (fb 7 0 1 1<|fb 8 5 0 2<|fn) [0,1,2,3,4,5,6,11,12,7,8,9,10,13,14] fun _ w0=>wV 9<|wL 0<|wG 1 2<|wO rfl<|sBK w0 #[I r.job,I r.task] 61 fun _ _ i0=>nZ i0 [1]<|wO rfl<|sApp (nb:=16) i0 A0 2 (RdT.blk (enc:=encRef) (sz:=2) (xs:=[(⟨r.job,r.task⟩:Ref)]) fR 1 0 rfl rfl rfl om) underlying125 (i:=Tryz.t61) kr fR fun f0 g0 j0 _ x0 y0=>nA<|wV 1<|wO rfl<|tWk y0 1 rfl 1 (.slice f0 (n0+1) g0) fun _ z0=>nA<|wN<|jXR 7 rfl<|retT [I 0] ?_
 have b1:=(z0.drops [0,5])
 have d1:Sat W _ (([(p, .cells #[I S.cap, .slice f0 (n0+1) g0, .slice a1 n1 k1, .slice a2 n2 k2, .slice a3 n3 k3] 158 (0,0))]++(j0++(c1++(c2++c3))))::H::F):=Sat.perm (show Sat W _ ([(p, .cells #[I S.cap, .slice f0 (n0+1) g0, .slice a1 n1 k1, .slice a2 n2 k2, .slice a3 n3 k3] 158 (0,0))]::j0::c1::c2::c3::H::F) from b1) (by simp)
 have hq:totB [l0,l1,l2,l3]=totB S.bs:=by rw [hb]
 have hc:pushCQ S=0:=by unfold pushCQ;rw [if_neg om]
 have he:pushQ S r 0={S with bs:=[(l0++[(⟨r.job,r.task⟩:Ref)]),l1,l2,l3]}:=by unfold pushQ;rw [if_pos hc,hb];rfl
 exact ⟨_,by rw [hc];rfl,by rw [he];exact ⟨_,_,_,_,_,_,_,_,_,_,_,_,_,_,_,_,_,_,_,_,rfl,x0,B0,C0,D0,rfl,E0,(by unfold totB;simp;omega)⟩,d1⟩
theorem pq_push1 {p:Nat} {S:QS} {M:Chunk} (hR:InjP p S M) (r:Ref) (hS:Sat W w (M::H::F)):
  Calls prog 55 #[Pt p 0, .agg #[I r.job,I r.task],I 1] w fun e w'=>∃M':Chunk,e= .returned (I (pushCQ S))/\InjP p (pushQ S r 1) M'/\Sat W w' (M'::H::F):=by
 obtain ⟨a0,n0,k0,l0,c0,a1,n1,k1,l1,c1,a2,n2,k2,l2,c2,a3,n3,k3,l3,c3,rfl,A0,B0,C0,D0,hb,E0,F0⟩:=hR
 have hS:Sat W _ ([(p, .cells #[I S.cap, .slice a0 n0 k0, .slice a1 n1 k1, .slice a2 n2 k2, .slice a3 n3 k3] 158 (0,0))]::c0::c1::c2::c3::H::F):=Sat.perm hS (by simp)
 have ht:totB S.bs=n0+n1+n2+n3:=by rw [hb];unfold totB;simp [A0.len,B0.len,C0.len,D0.len];omega
 have K0:=A0.ll;have L0:=B0.ll;have M0:=C0.ll;have N0:=D0.ll
 refine callsK 43 func55 rfl<|jCO 2 rfl<|sBx hS [I r.job,I r.task] fun b0 _ d0=>gOC d0 17 [1] rfl<|cE S.cap 0 (fun m0=>jCR 7 rfl<|retT [I 20]<|(by have o0:=(d0.dropAt 0 rfl);have f1:Sat W _ (([(p, .cells #[I S.cap, .slice a0 n0 k0, .slice a1 n1 k1, .slice a2 n2 k2, .slice a3 n3 k3] 158 (0,0))]++(c0++(c1++(c2++c3))))::H::F):=Sat.perm (show Sat W _ ([(p, .cells #[I S.cap, .slice a0 n0 k0, .slice a1 n1 k1, .slice a2 n2 k2, .slice a3 n3 k3] 158 (0,0))]::c0::c1::c2::c3::H::F) from o0) (by simp);have hq:totB [l0,l1,l2,l3]=totB S.bs:=(by rw [hb]);omega)) fun m0=>jCC 18 rfl<|drawF d0 [1] (fb 5 1 0 1<|fn) [0,2,3,4,5,1,6] fun _ p0=>wV 4<|wL 0<|wO rfl ?_
 have q0:=(p0.picks [5,5,5,5,5])
 have r0:Sat W _ (([(p, .cells #[I S.cap, .slice a0 n0 k0, .slice a1 n1 k1, .slice a2 n2 k2, .slice a3 n3 k3] 158 (0,0))]++(c0++(c1++(c2++c3))))::[(b0, .cells #[I r.job,I r.task] 61 (0,0))]::H::F):=Sat.perm (show Sat W _ ([(p, .cells #[I S.cap, .slice a0 n0 k0, .slice a1 n1 k1, .slice a2 n2 k2, .slice a3 n3 k3] 158 (0,0))]::c0::c1::c2::c3::[(b0, .cells #[I r.job,I r.task] 61 (0,0))]::H::F) from q0) (by simp)
 have g1:totB [l0,l1,l2,l3]=((n0+n1+n2+n3:Nat):Int):=by unfold totB;simp only [List.map_cons,List.map_nil,List.sum_cons,List.sum_nil];have h0:=(A0).len;have h1:=(B0).len;have h2:=(C0).len;have h3:=(D0).len;omega
 refine cZ (pq_len (S:=⟨S.cap,[l0,l1,l2,l3]⟩) ⟨_,_,_,_,_,_,_,_,_,_,_,_,_,_,_,_,_,_,_,_,rfl,A0,B0,C0,D0,rfl,E0,(by dsimp only;omega)⟩ r0.flat1) ?_
 rintro _ _ ⟨rfl,s0⟩
 have e0:Sat W _ ([(p, .cells #[I S.cap, .slice a0 n0 k0, .slice a1 n1 k1, .slice a2 n2 k2, .slice a3 n3 k3] 158 (0,0))]::c0::c1::c2::c3::[(b0, .cells #[I r.job,I r.task] 61 (0,0))]::H::F):=Sat.perm (Sat.unflat1 s0) (by simp [Value.cells])
 refine nZ e0 [0]<|wV 1<|wN<|jXC 1 rfl<|cD ((totB [l0,l1,l2,l3])>=S.cap) (fun t0=>jCR 7 rfl<|retT [I 19]<|(by have u0:=(e0.dropAt 5 rfl);have v0:Sat W _ (([(p, .cells #[I S.cap, .slice a0 n0 k0, .slice a1 n1 k1, .slice a2 n2 k2, .slice a3 n3 k3] 158 (0,0))]++(c0++(c1++(c2++c3))))::H::F):=Sat.perm (show Sat W _ ([(p, .cells #[I S.cap, .slice a0 n0 k0, .slice a1 n1 k1, .slice a2 n2 k2, .slice a3 n3 k3] 158 (0,0))]::c0::c1::c2::c3::H::F) from u0) (by simp);have hq:totB [l0,l1,l2,l3]=totB S.bs:=(by rw [hb]);have hc:pushCQ S=19:=(by unfold pushCQ;rw [if_pos om]);have he:pushQ S r 1=S:=(by unfold pushQ;rw [hc,if_neg (by decide)]);exact ⟨_,by rw [hc];rfl,by rw [he];exact ⟨_,_,_,_,_,_,_,_,_,_,_,_,_,_,_,_,_,_,_,_,rfl,A0,B0,C0,D0,hb,E0,F0⟩,v0⟩)) fun t0=>jCC 3 rfl<|drawF e0 [9,10,14] (fb 7 0 2 1<|fb 8 5 0 2<|fn) [0,1,2,3,4,5,6,11,12,7,8,9,10,13,14] fun _ w0=>wV 9<|wL 0<|wG 1 2<|wO rfl<|sBK w0 #[I r.job,I r.task] 61 fun _ _ i0=>nZ i0 [1]<|wO rfl<|sApp (nb:=16) i0 B0 3 (RdT.blk (enc:=encRef) (sz:=2) (xs:=[(⟨r.job,r.task⟩:Ref)]) fR 1 0 rfl rfl rfl om) underlying125 (i:=Tryz.t61) kr fR fun f0 g0 j0 _ x0 y0=>nA<|wV 1<|wO rfl<|tWk y0 1 rfl 2 (.slice f0 (n1+1) g0) fun _ z0=>nA<|wN<|jXR 7 rfl<|retT [I 0] ?_
 have b1:=(z0.drops [0,5])
 have d1:Sat W _ (([(p, .cells #[I S.cap, .slice a0 n0 k0, .slice f0 (n1+1) g0, .slice a2 n2 k2, .slice a3 n3 k3] 158 (0,0))]++(c0++(j0++(c2++c3))))::H::F):=Sat.perm (show Sat W _ ([(p, .cells #[I S.cap, .slice a0 n0 k0, .slice f0 (n1+1) g0, .slice a2 n2 k2, .slice a3 n3 k3] 158 (0,0))]::c0::j0::c2::c3::H::F) from b1) (by simp)
 have hq:totB [l0,l1,l2,l3]=totB S.bs:=by rw [hb]
 have hc:pushCQ S=0:=by unfold pushCQ;rw [if_neg om]
 have he:pushQ S r 1={S with bs:=[l0,(l1++[(⟨r.job,r.task⟩:Ref)]),l2,l3]}:=by unfold pushQ;rw [if_pos hc,hb];rfl
 exact ⟨_,by rw [hc];rfl,by rw [he];exact ⟨_,_,_,_,_,_,_,_,_,_,_,_,_,_,_,_,_,_,_,_,rfl,A0,x0,C0,D0,rfl,E0,(by unfold totB;simp;omega)⟩,d1⟩
theorem pq_push2 {p:Nat} {S:QS} {M:Chunk} (hR:InjP p S M) (r:Ref) (hS:Sat W w (M::H::F)):
  Calls prog 55 #[Pt p 0, .agg #[I r.job,I r.task],I 2] w fun e w'=>∃M':Chunk,e= .returned (I (pushCQ S))/\InjP p (pushQ S r 2) M'/\Sat W w' (M'::H::F):=by
 obtain ⟨a0,n0,k0,l0,c0,a1,n1,k1,l1,c1,a2,n2,k2,l2,c2,a3,n3,k3,l3,c3,rfl,A0,B0,C0,D0,hb,E0,F0⟩:=hR
 have hS:Sat W _ ([(p, .cells #[I S.cap, .slice a0 n0 k0, .slice a1 n1 k1, .slice a2 n2 k2, .slice a3 n3 k3] 158 (0,0))]::c0::c1::c2::c3::H::F):=Sat.perm hS (by simp)
 have ht:totB S.bs=n0+n1+n2+n3:=by rw [hb];unfold totB;simp [A0.len,B0.len,C0.len,D0.len];omega
 have K0:=A0.ll;have L0:=B0.ll;have M0:=C0.ll;have N0:=D0.ll
 refine callsK 43 func55 rfl<|jCO 2 rfl<|sBx hS [I r.job,I r.task] fun b0 _ d0=>gOC d0 17 [1] rfl<|cE S.cap 0 (fun m0=>jCR 7 rfl<|retT [I 20]<|(by have o0:=(d0.dropAt 0 rfl);have f1:Sat W _ (([(p, .cells #[I S.cap, .slice a0 n0 k0, .slice a1 n1 k1, .slice a2 n2 k2, .slice a3 n3 k3] 158 (0,0))]++(c0++(c1++(c2++c3))))::H::F):=Sat.perm (show Sat W _ ([(p, .cells #[I S.cap, .slice a0 n0 k0, .slice a1 n1 k1, .slice a2 n2 k2, .slice a3 n3 k3] 158 (0,0))]::c0::c1::c2::c3::H::F) from o0) (by simp);have hq:totB [l0,l1,l2,l3]=totB S.bs:=(by rw [hb]);omega)) fun m0=>jCC 18 rfl<|drawF d0 [1] (fb 5 1 0 1<|fn) [0,2,3,4,5,1,6] fun _ p0=>wV 4<|wL 0<|wO rfl ?_
 have q0:=(p0.picks [5,5,5,5,5])
 have r0:Sat W _ (([(p, .cells #[I S.cap, .slice a0 n0 k0, .slice a1 n1 k1, .slice a2 n2 k2, .slice a3 n3 k3] 158 (0,0))]++(c0++(c1++(c2++c3))))::[(b0, .cells #[I r.job,I r.task] 61 (0,0))]::H::F):=Sat.perm (show Sat W _ ([(p, .cells #[I S.cap, .slice a0 n0 k0, .slice a1 n1 k1, .slice a2 n2 k2, .slice a3 n3 k3] 158 (0,0))]::c0::c1::c2::c3::[(b0, .cells #[I r.job,I r.task] 61 (0,0))]::H::F) from q0) (by simp)
 have g1:totB [l0,l1,l2,l3]=((n0+n1+n2+n3:Nat):Int):=by unfold totB;simp only [List.map_cons,List.map_nil,List.sum_cons,List.sum_nil];have h0:=(A0).len;have h1:=(B0).len;have h2:=(C0).len;have h3:=(D0).len;omega
 refine cZ (pq_len (S:=⟨S.cap,[l0,l1,l2,l3]⟩) ⟨_,_,_,_,_,_,_,_,_,_,_,_,_,_,_,_,_,_,_,_,rfl,A0,B0,C0,D0,rfl,E0,(by dsimp only;omega)⟩ r0.flat1) ?_
 rintro _ _ ⟨rfl,s0⟩
 have e0:Sat W _ ([(p, .cells #[I S.cap, .slice a0 n0 k0, .slice a1 n1 k1, .slice a2 n2 k2, .slice a3 n3 k3] 158 (0,0))]::c0::c1::c2::c3::[(b0, .cells #[I r.job,I r.task] 61 (0,0))]::H::F):=Sat.perm (Sat.unflat1 s0) (by simp [Value.cells])
 refine nZ e0 [0]<|wV 1<|wN<|jXC 1 rfl<|cD ((totB [l0,l1,l2,l3])>=S.cap) (fun t0=>jCR 7 rfl<|retT [I 19]<|(by have u0:=(e0.dropAt 5 rfl);have v0:Sat W _ (([(p, .cells #[I S.cap, .slice a0 n0 k0, .slice a1 n1 k1, .slice a2 n2 k2, .slice a3 n3 k3] 158 (0,0))]++(c0++(c1++(c2++c3))))::H::F):=Sat.perm (show Sat W _ ([(p, .cells #[I S.cap, .slice a0 n0 k0, .slice a1 n1 k1, .slice a2 n2 k2, .slice a3 n3 k3] 158 (0,0))]::c0::c1::c2::c3::H::F) from u0) (by simp);have hq:totB [l0,l1,l2,l3]=totB S.bs:=(by rw [hb]);have hc:pushCQ S=19:=(by unfold pushCQ;rw [if_pos om]);have he:pushQ S r 2=S:=(by unfold pushQ;rw [hc,if_neg (by decide)]);exact ⟨_,by rw [hc];rfl,by rw [he];exact ⟨_,_,_,_,_,_,_,_,_,_,_,_,_,_,_,_,_,_,_,_,rfl,A0,B0,C0,D0,hb,E0,F0⟩,v0⟩)) fun t0=>jCC 3 rfl<|drawF e0 [9,10,14] (fb 7 0 3 1<|fb 8 5 0 2<|fn) [0,1,2,3,4,5,6,11,12,7,8,9,10,13,14] fun _ w0=>wV 9<|wL 0<|wG 1 2<|wO rfl<|sBK w0 #[I r.job,I r.task] 61 fun _ _ i0=>nZ i0 [1]<|wO rfl<|sApp (nb:=16) i0 C0 4 (RdT.blk (enc:=encRef) (sz:=2) (xs:=[(⟨r.job,r.task⟩:Ref)]) fR 1 0 rfl rfl rfl om) underlying125 (i:=Tryz.t61) kr fR fun f0 g0 j0 _ x0 y0=>nA<|wV 1<|wO rfl<|tWk y0 1 rfl 3 (.slice f0 (n2+1) g0) fun _ z0=>nA<|wN<|jXR 7 rfl<|retT [I 0] ?_
 have b1:=(z0.drops [0,5])
 have d1:Sat W _ (([(p, .cells #[I S.cap, .slice a0 n0 k0, .slice a1 n1 k1, .slice f0 (n2+1) g0, .slice a3 n3 k3] 158 (0,0))]++(c0++(c1++(j0++c3))))::H::F):=Sat.perm (show Sat W _ ([(p, .cells #[I S.cap, .slice a0 n0 k0, .slice a1 n1 k1, .slice f0 (n2+1) g0, .slice a3 n3 k3] 158 (0,0))]::c0::c1::j0::c3::H::F) from b1) (by simp)
 have hq:totB [l0,l1,l2,l3]=totB S.bs:=by rw [hb]
 have hc:pushCQ S=0:=by unfold pushCQ;rw [if_neg om]
 have he:pushQ S r 2={S with bs:=[l0,l1,(l2++[(⟨r.job,r.task⟩:Ref)]),l3]}:=by unfold pushQ;rw [if_pos hc,hb];rfl
 exact ⟨_,by rw [hc];rfl,by rw [he];exact ⟨_,_,_,_,_,_,_,_,_,_,_,_,_,_,_,_,_,_,_,_,rfl,A0,B0,x0,D0,rfl,E0,(by unfold totB;simp;omega)⟩,d1⟩
theorem pq_push3 {p:Nat} {S:QS} {M:Chunk} (hR:InjP p S M) (r:Ref) (hS:Sat W w (M::H::F)):
  Calls prog 55 #[Pt p 0, .agg #[I r.job,I r.task],I 3] w fun e w'=>∃M':Chunk,e= .returned (I (pushCQ S))/\InjP p (pushQ S r 3) M'/\Sat W w' (M'::H::F):=by
 obtain ⟨a0,n0,k0,l0,c0,a1,n1,k1,l1,c1,a2,n2,k2,l2,c2,a3,n3,k3,l3,c3,rfl,A0,B0,C0,D0,hb,E0,F0⟩:=hR
 have hS:Sat W _ ([(p, .cells #[I S.cap, .slice a0 n0 k0, .slice a1 n1 k1, .slice a2 n2 k2, .slice a3 n3 k3] 158 (0,0))]::c0::c1::c2::c3::H::F):=Sat.perm hS (by simp)
 have ht:totB S.bs=n0+n1+n2+n3:=by rw [hb];unfold totB;simp [A0.len,B0.len,C0.len,D0.len];omega
 have K0:=A0.ll;have L0:=B0.ll;have M0:=C0.ll;have N0:=D0.ll
 refine callsK 43 func55 rfl<|jCO 2 rfl<|sBx hS [I r.job,I r.task] fun b0 _ d0=>gOC d0 17 [1] rfl<|cE S.cap 0 (fun m0=>jCR 7 rfl<|retT [I 20]<|(by have o0:=(d0.dropAt 0 rfl);have f1:Sat W _ (([(p, .cells #[I S.cap, .slice a0 n0 k0, .slice a1 n1 k1, .slice a2 n2 k2, .slice a3 n3 k3] 158 (0,0))]++(c0++(c1++(c2++c3))))::H::F):=Sat.perm (show Sat W _ ([(p, .cells #[I S.cap, .slice a0 n0 k0, .slice a1 n1 k1, .slice a2 n2 k2, .slice a3 n3 k3] 158 (0,0))]::c0::c1::c2::c3::H::F) from o0) (by simp);have hq:totB [l0,l1,l2,l3]=totB S.bs:=(by rw [hb]);omega)) fun m0=>jCC 18 rfl<|drawF d0 [1] (fb 5 1 0 1<|fn) [0,2,3,4,5,1,6] fun _ p0=>wV 4<|wL 0<|wO rfl ?_
 have q0:=(p0.picks [5,5,5,5,5])
 have r0:Sat W _ (([(p, .cells #[I S.cap, .slice a0 n0 k0, .slice a1 n1 k1, .slice a2 n2 k2, .slice a3 n3 k3] 158 (0,0))]++(c0++(c1++(c2++c3))))::[(b0, .cells #[I r.job,I r.task] 61 (0,0))]::H::F):=Sat.perm (show Sat W _ ([(p, .cells #[I S.cap, .slice a0 n0 k0, .slice a1 n1 k1, .slice a2 n2 k2, .slice a3 n3 k3] 158 (0,0))]::c0::c1::c2::c3::[(b0, .cells #[I r.job,I r.task] 61 (0,0))]::H::F) from q0) (by simp)
 have g1:totB [l0,l1,l2,l3]=((n0+n1+n2+n3:Nat):Int):=by unfold totB;simp only [List.map_cons,List.map_nil,List.sum_cons,List.sum_nil];have h0:=(A0).len;have h1:=(B0).len;have h2:=(C0).len;have h3:=(D0).len;omega
 refine cZ (pq_len (S:=⟨S.cap,[l0,l1,l2,l3]⟩) ⟨_,_,_,_,_,_,_,_,_,_,_,_,_,_,_,_,_,_,_,_,rfl,A0,B0,C0,D0,rfl,E0,(by dsimp only;omega)⟩ r0.flat1) ?_
 rintro _ _ ⟨rfl,s0⟩
 have e0:Sat W _ ([(p, .cells #[I S.cap, .slice a0 n0 k0, .slice a1 n1 k1, .slice a2 n2 k2, .slice a3 n3 k3] 158 (0,0))]::c0::c1::c2::c3::[(b0, .cells #[I r.job,I r.task] 61 (0,0))]::H::F):=Sat.perm (Sat.unflat1 s0) (by simp [Value.cells])
 refine nZ e0 [0]<|wV 1<|wN<|jXC 1 rfl<|cD ((totB [l0,l1,l2,l3])>=S.cap) (fun t0=>jCR 7 rfl<|retT [I 19]<|(by have u0:=(e0.dropAt 5 rfl);have v0:Sat W _ (([(p, .cells #[I S.cap, .slice a0 n0 k0, .slice a1 n1 k1, .slice a2 n2 k2, .slice a3 n3 k3] 158 (0,0))]++(c0++(c1++(c2++c3))))::H::F):=Sat.perm (show Sat W _ ([(p, .cells #[I S.cap, .slice a0 n0 k0, .slice a1 n1 k1, .slice a2 n2 k2, .slice a3 n3 k3] 158 (0,0))]::c0::c1::c2::c3::H::F) from u0) (by simp);have hq:totB [l0,l1,l2,l3]=totB S.bs:=(by rw [hb]);have hc:pushCQ S=19:=(by unfold pushCQ;rw [if_pos om]);have he:pushQ S r 3=S:=(by unfold pushQ;rw [hc,if_neg (by decide)]);exact ⟨_,by rw [hc];rfl,by rw [he];exact ⟨_,_,_,_,_,_,_,_,_,_,_,_,_,_,_,_,_,_,_,_,rfl,A0,B0,C0,D0,hb,E0,F0⟩,v0⟩)) fun t0=>jCC 3 rfl<|drawF e0 [9,10,14] (fb 7 0 4 1<|fb 8 5 0 2<|fn) [0,1,2,3,4,5,6,11,12,7,8,9,10,13,14] fun _ w0=>wV 9<|wL 0<|wG 1 2<|wO rfl<|sBK w0 #[I r.job,I r.task] 61 fun _ _ i0=>nZ i0 [1]<|wO rfl<|sApp (nb:=16) i0 D0 5 (RdT.blk (enc:=encRef) (sz:=2) (xs:=[(⟨r.job,r.task⟩:Ref)]) fR 1 0 rfl rfl rfl om) underlying125 (i:=Tryz.t61) kr fR fun f0 g0 j0 _ x0 y0=>nA<|wV 1<|wO rfl<|tWk y0 1 rfl 4 (.slice f0 (n3+1) g0) fun _ z0=>nA<|wN<|jXR 7 rfl<|retT [I 0] ?_
 have b1:=(z0.drops [0,5])
 have d1:Sat W _ (([(p, .cells #[I S.cap, .slice a0 n0 k0, .slice a1 n1 k1, .slice a2 n2 k2, .slice f0 (n3+1) g0] 158 (0,0))]++(c0++(c1++(c2++j0))))::H::F):=Sat.perm (show Sat W _ ([(p, .cells #[I S.cap, .slice a0 n0 k0, .slice a1 n1 k1, .slice a2 n2 k2, .slice f0 (n3+1) g0] 158 (0,0))]::c0::c1::c2::j0::H::F) from b1) (by simp)
 have hq:totB [l0,l1,l2,l3]=totB S.bs:=by rw [hb]
 have hc:pushCQ S=0:=by unfold pushCQ;rw [if_neg om]
 have he:pushQ S r 3={S with bs:=[l0,l1,l2,(l3++[(⟨r.job,r.task⟩:Ref)])]}:=by unfold pushQ;rw [if_pos hc,hb];rfl
 exact ⟨_,by rw [hc];rfl,by rw [he];exact ⟨_,_,_,_,_,_,_,_,_,_,_,_,_,_,_,_,_,_,_,_,rfl,A0,B0,C0,x0,rfl,E0,(by unfold totB;simp;omega)⟩,d1⟩
theorem pq_push {p:Nat} {S:QS} {M:Chunk} (hR:InjP p S M) (r:Ref) (b:Int) (hb:0<=b/\b<4) (hS:Sat W w (M::H::F)):
    Calls prog 55 #[.pointer (some ⟨p,0,none⟩), .agg #[.int .i64 r.job, .int .i64 r.task], .int .i64 b] w fun e w'=>∃M':Chunk,e= .returned (.int .i64 (pushCQ S))/\InjP p (pushQ S r b) M'/\Sat W w' (M'::H::F):=by
  rcases (by omega:b=0\/b=1\/b=2\/b=3) with rfl|rfl|rfl|rfl
  · exact pq_push0 hR r hS
  · exact pq_push1 hR r hS
  · exact pq_push2 hR r hS
  · exact pq_push3 hR r hS
theorem pq_pop {p:Nat} {S:QS} {M:Chunk} (hR:InjP p S M) (hS:Sat W w (M::H::F)):
  Calls prog 127 #[Pt p 0] w fun e w'=>(popB S.bs=none/\e= .returned (.tuple #[.agg #[I 0,I 0], .bool false])/\Sat W w' (M::H::F))\/(∃(x:Ref) (bs:List (List Ref)) (M':Chunk),popB S.bs=some (x,bs)/\e= .returned (.tuple #[.agg #[I x.job,I x.task], .bool true])/\InjP p {S with bs:=bs} M'/\Sat W w' (M'::H::F)):=by
 obtain ⟨a0,n0,k0,l0,c0,a1,n1,k1,l1,c1,a2,n2,k2,l2,c2,a3,n3,k3,l3,c3,rfl,B0,C0,D0,E0,hb,H0,R0⟩:=hR
 have hS:Sat W _ ([(p, .cells #[I S.cap, .slice a0 n0 k0, .slice a1 n1 k1, .slice a2 n2 k2, .slice a3 n3 k3] 158 (0,0))]::c0::c1::c2::c3::H::F):=Sat.perm hS (by simp)
 have ht:totB S.bs=n0+n1+n2+n3:=by rw [hb];unfold totB;simp [B0.len,C0.len,D0.len,E0.len];omega
 have J0:=B0.len;have N0:=B0.le;have K0:=C0.len;have O0:=C0.le;have L0:=D0.len;have P0:=D0.le;have M0:=E0.len;have Q0:=E0.le
 refine callsA 32 func127 rfl<|sR<|sAlloc hS zeroValue61 fun _ _ g0=>pu1<|zQ<|pu2<|nT<|cFf<|kT<|seqE<|sR<|pu3<|lB g0 1 1 4<|pu1<|nT<|blockE<|loopN 5<|roundS<|sR<|pu1<|nT<|seqE<|cTt<|kT<|seqE<|blockE<|sR<|pu4<|zS<|pu3<|nT<|cD ((n0:Int)>0) (fun t0=>seqE<|drawF g0 [7] (fn) [0,1,2,3,4,5,6,7] fun _ u0=>wV 3<|(by have v0:=B0.part (lo:=1) (hi:=n0) om om;refine wY (.slice (partAddr a0 k0 1 2) (n0-1) (k0-1)) rfl (fun w _=>Y_sl (a:=a0) (len:=n0) (cap:=k0) (some 1) none 1 n0 runUnderlying125 sizeOf61 ⟨by decide,rfl⟩ rfl om om)<|wV 3<|wO rfl<|tWk u0 1 rfl 1 (.slice (partAddr a0 k0 1 2) (n0-1) (k0-1)) fun _ h0=>nA<|wN<|tN<|sR<|pu1<|sIO B0 0 0 fun b0 _ _ w0 x0 _=>sMA h0 (x0.up 2 rfl) 0 [I b0.job,I b0.task]<|sTk h0 0 rfl [I b0.job,I b0.task] fun _ i0=>pu1<|zB<|tR<|tK<|retD i0 0 [I b0.job,I b0.task] (.bool true) ?_;have y0:=(i0.dropAt 0 rfl);have z0:Sat W _ (([(p, .cells #[I S.cap, .slice (partAddr a0 k0 1 2) (n0-1) (k0-1), .slice a1 n1 k1, .slice a2 n2 k2, .slice a3 n3 k3] 158 (0,0))]++(c0++(c1++(c2++c3))))::H::F):=Sat.perm (show Sat W _ ([(p, .cells #[I S.cap, .slice (partAddr a0 k0 1 2) (n0-1) (k0-1), .slice a1 n1 k1, .slice a2 n2 k2, .slice a3 n3 k3] 158 (0,0))]::c0::c1::c2::c3::H::F) from y0) (by simp);have G0:=tail_part2 J0;have A0:=v0;rw [G0] at A0;have F0:popB S.bs=some (b0,[l0.tail,l1,l2,l3]):=(by rw [hb,popB_at w0]);exact .inr ⟨_,_,_,F0,rfl,⟨_,_,_,_,_,_,_,_,_,_,_,_,_,_,_,_,_,_,_,_,rfl,A0,C0,D0,E0,rfl,H0,(by have I0:=List.length_tail (l:=l0);unfold totB;simp only [List.map_cons,List.map_nil,List.sum_cons,List.sum_nil];omega)⟩,z0⟩)) fun t0=>?_
 refine skipE<|bN<|tN<|rE<|pu2<|nT<|roundS<|sR<|pu1<|nT<|seqE<|cTt<|kT<|seqE<|blockE<|sR<|pu4<|zS<|pu3<|nT<|cD ((n1:Int)>0) (fun b1=>seqE<|drawF g0 [7] (fn) [0,1,2,3,4,5,6,7] fun _ d1=>wV 3<|(by have e1:=C0.part (lo:=1) (hi:=n1) om om;refine wY (.slice (partAddr a1 k1 1 2) (n1-1) (k1-1)) rfl (fun w _=>Y_sl (a:=a1) (len:=n1) (cap:=k1) (some 1) none 1 n1 runUnderlying125 sizeOf61 ⟨by decide,rfl⟩ rfl om om)<|wV 3<|wO rfl<|tWk d1 1 rfl 2 (.slice (partAddr a1 k1 1 2) (n1-1) (k1-1)) fun _ j0=>nA<|wN<|tN<|sR<|pu1<|sIO C0 0 0 fun d0 _ _ f1 g1 _=>sMA j0 (g1.up 3 rfl) 0 [I d0.job,I d0.task]<|sTk j0 0 rfl [I d0.job,I d0.task] fun _ m0=>pu1<|zB<|tR<|tK<|retD m0 0 [I d0.job,I d0.task] (.bool true) ?_;have h1:=(m0.dropAt 0 rfl);have i1:Sat W _ (([(p, .cells #[I S.cap, .slice a0 n0 k0, .slice (partAddr a1 k1 1 2) (n1-1) (k1-1), .slice a2 n2 k2, .slice a3 n3 k3] 158 (0,0))]++(c0++(c1++(c2++c3))))::H::F):=Sat.perm (show Sat W _ ([(p, .cells #[I S.cap, .slice a0 n0 k0, .slice (partAddr a1 k1 1 2) (n1-1) (k1-1), .slice a2 n2 k2, .slice a3 n3 k3] 158 (0,0))]::c0::c1::c2::c3::H::F) from h1) (by simp);have G0:=tail_part2 K0;have A0:=e1;rw [G0] at A0;have F0:popB S.bs=some (d0,[l0,l1.tail,l2,l3]):=(by rw [hb,popB_nil om,popB_at f1];rfl);exact .inr ⟨_,_,_,F0,rfl,⟨_,_,_,_,_,_,_,_,_,_,_,_,_,_,_,_,_,_,_,_,rfl,B0,A0,D0,E0,rfl,H0,(by have I0:=List.length_tail (l:=l1);unfold totB;simp only [List.map_cons,List.map_nil,List.sum_cons,List.sum_nil];omega)⟩,i1⟩)) fun b1=>?_
 refine skipE<|bN<|tN<|rE<|pu2<|nT<|roundS<|sR<|pu1<|nT<|seqE<|cTt<|kT<|seqE<|blockE<|sR<|pu4<|zS<|pu3<|nT<|cD ((n2:Int)>0) (fun j1=>seqE<|drawF g0 [7] (fn) [0,1,2,3,4,5,6,7] fun _ m1=>wV 3<|(by have o1:=D0.part (lo:=1) (hi:=n2) om om;refine wY (.slice (partAddr a2 k2 1 2) (n2-1) (k2-1)) rfl (fun w _=>Y_sl (a:=a2) (len:=n2) (cap:=k2) (some 1) none 1 n2 runUnderlying125 sizeOf61 ⟨by decide,rfl⟩ rfl om om)<|wV 3<|wO rfl<|tWk m1 1 rfl 3 (.slice (partAddr a2 k2 1 2) (n2-1) (k2-1)) fun _ o0=>nA<|wN<|tN<|sR<|pu1<|sIO D0 0 0 fun e0 _ _ q1 r1 _=>sMA o0 (r1.up 4 rfl) 0 [I e0.job,I e0.task]<|sTk o0 0 rfl [I e0.job,I e0.task] fun _ p0=>pu1<|zB<|tR<|tK<|retD p0 0 [I e0.job,I e0.task] (.bool true) ?_;have s1:=(p0.dropAt 0 rfl);have t1:Sat W _ (([(p, .cells #[I S.cap, .slice a0 n0 k0, .slice a1 n1 k1, .slice (partAddr a2 k2 1 2) (n2-1) (k2-1), .slice a3 n3 k3] 158 (0,0))]++(c0++(c1++(c2++c3))))::H::F):=Sat.perm (show Sat W _ ([(p, .cells #[I S.cap, .slice a0 n0 k0, .slice a1 n1 k1, .slice (partAddr a2 k2 1 2) (n2-1) (k2-1), .slice a3 n3 k3] 158 (0,0))]::c0::c1::c2::c3::H::F) from s1) (by simp);have G0:=tail_part2 L0;have A0:=o1;rw [G0] at A0;have F0:popB S.bs=some (e0,[l0,l1,l2.tail,l3]):=(by rw [hb,popB_nil om,popB_nil om,popB_at q1];rfl);exact .inr ⟨_,_,_,F0,rfl,⟨_,_,_,_,_,_,_,_,_,_,_,_,_,_,_,_,_,_,_,_,rfl,B0,C0,A0,E0,rfl,H0,(by have I0:=List.length_tail (l:=l2);unfold totB;simp only [List.map_cons,List.map_nil,List.sum_cons,List.sum_nil];omega)⟩,t1⟩)) fun j1=>?_
 refine skipE<|bN<|tN<|rE<|pu2<|nT<|roundS<|sR<|pu1<|nT<|seqE<|cTt<|kT<|seqE<|blockE<|sR<|pu4<|zS<|pu3<|nT<|CD ((n3:Int)>0) (fun u1=>skipE<|bN<|tN<|rE<|pu2<|nT<|roundS<|sR<|pu1<|nT<|seqE<|cFf<|exitE<|xB<|tN<|sR<|pu1<|sTk g0 0 rfl [I 0,I 0] fun _ q0=>pu1<|zE<|retD q0 0 [I 0,I 0] (.bool false)<|(by have v1:=(q0.dropAt 0 rfl);have w1:Sat W _ (([(p, .cells #[I S.cap, .slice a0 n0 k0, .slice a1 n1 k1, .slice a2 n2 k2, .slice a3 n3 k3] 158 (0,0))]++(c0++(c1++(c2++c3))))::H::F):=Sat.perm (show Sat W _ ([(p, .cells #[I S.cap, .slice a0 n0 k0, .slice a1 n1 k1, .slice a2 n2 k2, .slice a3 n3 k3] 158 (0,0))]::c0::c1::c2::c3::H::F) from v1) (by simp);exact .inl ⟨by rw [hb,popB_nil om,popB_nil om,popB_nil om,popB_nil om];rfl,rfl,w1⟩)) fun u1=>seqE<|drawF g0 [7] (fn) [0,1,2,3,4,5,6,7] fun _ x1=>wV 3 ?_
 have y1:=E0.part (lo:=1) (hi:=n3) om om
 refine wY (.slice (partAddr a3 k3 1 2) (n3-1) (k3-1)) rfl (fun w _=>Y_sl (a:=a3) (len:=n3) (cap:=k3) (some 1) none 1 n3 runUnderlying125 sizeOf61 ⟨by decide,rfl⟩ rfl om om)<|wV 3<|wO rfl<|tWk x1 1 rfl 4 (.slice (partAddr a3 k3 1 2) (n3-1) (k3-1)) fun _ r0=>nA<|wN<|tN<|sR<|pu1<|sIO E0 0 0 fun f0 _ _ z1 b2 _=>sMA r0 (b2.up 5 rfl) 0 [I f0.job,I f0.task]<|sTk r0 0 rfl [I f0.job,I f0.task] fun _ s0=>pu1<|zB<|tR<|tK<|retD s0 0 [I f0.job,I f0.task] (.bool true) ?_
 have d2:=(s0.dropAt 0 rfl)
 have e2:Sat W _ (([(p, .cells #[I S.cap, .slice a0 n0 k0, .slice a1 n1 k1, .slice a2 n2 k2, .slice (partAddr a3 k3 1 2) (n3-1) (k3-1)] 158 (0,0))]++(c0++(c1++(c2++c3))))::H::F):=Sat.perm (show Sat W _ ([(p, .cells #[I S.cap, .slice a0 n0 k0, .slice a1 n1 k1, .slice a2 n2 k2, .slice (partAddr a3 k3 1 2) (n3-1) (k3-1)] 158 (0,0))]::c0::c1::c2::c3::H::F) from d2) (by simp)
 have G0:=tail_part2 M0
 have A0:=y1;rw [G0] at A0
 have F0:popB S.bs=some (f0,[l0,l1,l2,l3.tail]):=by rw [hb,popB_nil om,popB_nil om,popB_nil om,popB_at z1];rfl
 exact .inr ⟨_,_,_,F0,rfl,⟨_,_,_,_,_,_,_,_,_,_,_,_,_,_,_,_,_,_,_,_,rfl,B0,C0,D0,A0,rfl,H0,(by have I0:=List.length_tail (l:=l3);unfold totB;simp only [List.map_cons,List.map_nil,List.sum_cons,List.sum_nil];omega)⟩,e2⟩
theorem pq_remove {p:Nat} {S:QS} {M:Chunk} (hR:InjP p S M) (j:Int) (hS:Sat W w (M::H::F)):
  Calls prog 73 #[Pt p 0,I j] w fun e w'=>∃(M':Chunk) (v:Int),e= .returned (I v)/\InjP p ({S with bs:=S.bs.map (without j)}) M'/\Sat W w' (M'::H::F):=by
 obtain ⟨a0,n0,k0,l0,c0,a1,n1,k1,l1,c1,a2,n2,k2,l2,c2,a3,n3,k3,l3,c3,rfl,A0,B0,C0,D0,hb,E0,N0⟩:=hR
 have hS:Sat W _ ([(p, .cells #[I S.cap, .slice a0 n0 k0, .slice a1 n1 k1, .slice a2 n2 k2, .slice a3 n3 k3] 158 (0,0))]::c0::c1::c2::c3::H::F):=Sat.perm hS (by simp)
 have ht:totB S.bs=n0+n1+n2+n3:=by rw [hb];unfold totB;simp [A0.len,B0.len,C0.len,D0.len];omega
 have J0:=A0.ll;have K0:=B0.ll;have L0:=C0.ll;have M0:=D0.ll
 refine callsA 33 func73 rfl<|sR<|sBox hS (I j) #[I j] fun b0 _ y0=>pu1<|zQ<|pu2<|nT<|cFf<|kS<|pu1 ?_
 have z0:=(y0.picks [5,5,5,5,5])
 have b1:Sat W _ (([(p, .cells #[I S.cap, .slice a0 n0 k0, .slice a1 n1 k1, .slice a2 n2 k2, .slice a3 n3 k3] 158 (0,0))]++(c0++(c1++(c2++c3))))::[(b0, .cells #[I j] 3 (0,0))]::H::F):=Sat.perm (show Sat W _ ([(p, .cells #[I S.cap, .slice a0 n0 k0, .slice a1 n1 k1, .slice a2 n2 k2, .slice a3 n3 k3] 158 (0,0))]::c0::c1::c2::c3::[(b0, .cells #[I j] 3 (0,0))]::H::F) from z0) (by simp)
 have j2:totB [l0,l1,l2,l3]=((n0+n1+n2+n3:Nat):Int):=by unfold totB;simp only [List.map_cons,List.map_nil,List.sum_cons,List.sum_nil];have h0:=(A0).len;have h1:=(B0).len;have h2:=(C0).len;have h3:=(D0).len;omega
 refine cZ (pq_len (S:=⟨S.cap,[l0,l1,l2,l3]⟩) ⟨_,_,_,_,_,_,_,_,_,_,_,_,_,_,_,_,_,_,_,_,rfl,A0,B0,C0,D0,rfl,E0,(by dsimp only;omega)⟩ b1.flat1) ?_
 rintro _ _ ⟨rfl,d1⟩
 have x0:Sat W _ ([(p, .cells #[I S.cap, .slice a0 n0 k0, .slice a1 n1 k1, .slice a2 n2 k2, .slice a3 n3 k3] 158 (0,0))]::c0::c1::c2::c3::[(b0, .cells #[I j] 3 (0,0))]::H::F):=Sat.perm (Sat.unflat1 d1) (by simp [Value.cells])
 refine pu1<|zQ<|pu3<|lB x0 0 1 4<|pu1<|nT<|blockE<|loopN 5<|roundS<|sR<|pu1<|nT<|seqE<|cTt<|kT<|seqE<|blockE<|sR<|pu4<|nT<|drawF x0 [4,8] (fn) [0,1,2,3,5,6,4,7,8] fun _ e1=>wV 6<|wO rfl ?_
 have f1:=(e1.picks [1,5])
 have:=without_len j l0
 refine sF #[.slice a0 n0 k0, .func (.func 120) #[] #[Pt b0 0]] call119 (Calls.mono (delete_ok W _ _ _ _ _ _ _ _ _ A0 f1) ?_)
 rintro _ _ ⟨d0,e0,p0,rfl,t0,g1⟩
 refine ⟨_,rfl,?_⟩
 refine nA<|wV 1<|wO rfl<|tWk g1 2 rfl 1 (.slice d0 ((without j l0).length) e0) fun _ i1=>nA<|wN<|bN<|tN<|rE<|pu2<|nT<|roundS<|sR<|pu1<|nT<|seqE<|cTt<|kT<|seqE<|blockE<|sR<|pu4<|nT<|drawF i1 [4,8] (fn) [0,1,2,3,5,6,4,7,8] fun _ j1=>wV 6<|wO rfl ?_
 have m1:=(j1.picks [3,1])
 have:=without_len j l1
 refine sF #[.slice a1 n1 k1, .func (.func 120) #[] #[Pt b0 0]] call119 (Calls.mono (delete_ok W _ _ _ _ _ _ _ _ _ B0 m1) ?_)
 rintro _ _ ⟨f0,g0,q0,rfl,u0,o1⟩
 refine ⟨_,rfl,?_⟩
 refine nA<|wV 1<|wO rfl<|tWk o1 3 rfl 2 (.slice f0 ((without j l1).length) g0) fun _ q1=>nA<|wN<|bN<|tN<|rE<|pu2<|nT<|roundS<|sR<|pu1<|nT<|seqE<|cTt<|kT<|seqE<|blockE<|sR<|pu4<|nT<|drawF q1 [4,8] (fn) [0,1,2,3,5,6,4,7,8] fun _ r1=>wV 6<|wO rfl ?_
 have s1:=(r1.picks [4,1])
 have:=without_len j l2
 refine sF #[.slice a2 n2 k2, .func (.func 120) #[] #[Pt b0 0]] call119 (Calls.mono (delete_ok W _ _ _ _ _ _ _ _ _ C0 s1) ?_)
 rintro _ _ ⟨i0,j0,r0,rfl,v0,t1⟩
 refine ⟨_,rfl,?_⟩
 refine nA<|wV 1<|wO rfl<|tWk t1 4 rfl 3 (.slice i0 ((without j l2).length) j0) fun _ u1=>nA<|wN<|bN<|tN<|rE<|pu2<|nT<|roundS<|sR<|pu1<|nT<|seqE<|cTt<|kT<|seqE<|blockE<|sR<|pu4<|nT<|drawF u1 [4,8] (fn) [0,1,2,3,5,6,4,7,8] fun _ v1=>wV 6<|wO rfl ?_
 have w1:=(v1.picks [5,1])
 have:=without_len j l3
 refine sF #[.slice a3 n3 k3, .func (.func 120) #[] #[Pt b0 0]] call119 (Calls.mono (delete_ok W _ _ _ _ _ _ _ _ _ D0 w1) ?_)
 rintro _ _ ⟨m0,o0,s0,rfl,w0,x1⟩
 refine ⟨_,rfl,?_⟩
 refine nA<|wV 1<|wO rfl<|tWk x1 5 rfl 4 (.slice m0 ((without j l3).length) o0) fun _ y1=>nA<|wN<|bN<|tN<|rE<|pu2<|nT<|roundS<|sR<|pu1<|nT<|seqE<|cFf<|exitE<|xB<|tN<|sR<|pu2 ?_
 have z1:=(y1.picks [1,2,3,4,5])
 have b2:Sat W _ (([(p, .cells #[I S.cap, .slice d0 ((without j l0).length) e0, .slice f0 ((without j l1).length) g0, .slice i0 ((without j l2).length) j0, .slice m0 ((without j l3).length) o0] 158 (0,0))]++(p0++(q0++(r0++s0))))::[(b0, .cells #[I j] 3 (0,0))]::H::F):=Sat.perm (show Sat W _ ([(p, .cells #[I S.cap, .slice d0 ((without j l0).length) e0, .slice f0 ((without j l1).length) g0, .slice i0 ((without j l2).length) j0, .slice m0 ((without j l3).length) o0] 158 (0,0))]::p0::q0::r0::s0::[(b0, .cells #[I j] 3 (0,0))]::H::F) from z1) (by simp)
 have x2:totB [(without j l0),(without j l1),(without j l2),(without j l3)]=(((without j l0).length+(without j l1).length+(without j l2).length+(without j l3).length:Nat):Int):=by unfold totB;simp only [List.map_cons,List.map_nil,List.sum_cons,List.sum_nil];have h0:=(t0).len;have h1:=(u0).len;have h2:=(v0).len;have h3:=(w0).len;omega
 refine cZ (pq_len (S:=⟨S.cap,[(without j l0),(without j l1),(without j l2),(without j l3)]⟩) ⟨_,_,_,_,_,_,_,_,_,_,_,_,_,_,_,_,_,_,_,_,rfl,t0,u0,v0,w0,rfl,E0,(by dsimp only;omega)⟩ b2.flat1) ?_
 rintro _ _ ⟨rfl,d2⟩
 have e2:Sat W _ ([(p, .cells #[I S.cap, .slice d0 ((without j l0).length) e0, .slice f0 ((without j l1).length) g0, .slice i0 ((without j l2).length) j0, .slice m0 ((without j l3).length) o0] 158 (0,0))]::p0::q0::r0::s0::[(b0, .cells #[I j] 3 (0,0))]::H::F):=Sat.perm (Sat.unflat1 d2) (by simp [Value.cells])
 exact sSub (totB [l0,l1,l2,l3]) (totB [(without j l0),(without j l1),(without j l2),(without j l3)])<|pu1<|zE<|retT [I ((totB [l0,l1,l2,l3])-(totB [(without j l0),(without j l1),(without j l2),(without j l3)]))]<|(by have f2:=(e2.dropAt 5 rfl);have g2:Sat W _ (([(p, .cells #[I S.cap, .slice d0 ((without j l0).length) e0, .slice f0 ((without j l1).length) g0, .slice i0 ((without j l2).length) j0, .slice m0 ((without j l3).length) o0] 158 (0,0))]++(p0++(q0++(r0++s0))))::H::F):=Sat.perm (show Sat W _ ([(p, .cells #[I S.cap, .slice d0 ((without j l0).length) e0, .slice f0 ((without j l1).length) g0, .slice i0 ((without j l2).length) j0, .slice m0 ((without j l3).length) o0] 158 (0,0))]::p0::q0::r0::s0::H::F) from f2) (by simp);exact ⟨_,_,rfl,by rw [hb];exact ⟨_,_,_,_,_,_,_,_,_,_,_,_,_,_,_,_,_,_,_,_,rfl,t0,u0,v0,w0,rfl,E0,(by unfold totB;simp only [List.map_cons,List.map_nil,List.sum_cons,List.sum_nil];omega)⟩,g2⟩)
theorem pq_new {cs:List Chunk} (c:Int) (hc:1<=c/\c<=4096) (hS:Sat W w cs):
  Calls prog 43 #[I c] w fun e w'=>∃(p:Nat) (M:Chunk),e= .returned (.tuple #[Pt p 0,I 0])/\InjP p ⟨c,[[],[],[],[]]⟩ M/\Sat W w' (M::cs):=by
 exact callsK 13 func43 rfl<|jCO 12 rfl<|sD 6 (c<1) (fun a0=>jOR 14 rfl<|retT [.pointer none,I 2]<|(by omega)) fun a0=>jOC 5 rfl<|cD (c>4096) (fun b0=>jCR 8 rfl<|retT [.pointer none,I 2]<|(by omega)) fun b0=>jCO 6 rfl<|sBx hS [I c,nS,nS,nS,nS] fun c0 _ d0=>jOR 5 rfl<|retT [Pt c0 0,I 0]<|⟨_,_,rfl,⟨_,_,_,[],[],_,_,_,[],[],_,_,_,[],[],_,_,_,[],[],rfl,OwnT.nil fR,OwnT.nil fR,OwnT.nil fR,OwnT.nil fR,rfl,hc,by unfold totB;simp;omega⟩,d0⟩
end Go.Proofs.YtkadmghedmodbaaGreat
