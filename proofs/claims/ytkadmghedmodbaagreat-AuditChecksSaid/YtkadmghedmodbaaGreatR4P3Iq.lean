import Derived.Test.YtkadmghedmodbaaGreatR4P3BNew
set_option linter.all false
namespace Go.Proofs.YtkadmghedmodbaaGreat
open Go Go.E Go.Proofs.Tryz
set_option linter.all false
set_option maxRecDepth 100000
set_option maxHeartbeats 2000000
variable {W w:World} {H:Chunk} {F:List Chunk}
def InjR (p:Nat) (S:QS) (M:Chunk):Prop:=∃(a0:Option Addr) (n0 k0:Nat) (l0:List Ref) (c0:Chunk) (a1:Option Addr) (n1 k1:Nat) (l1:List Ref) (c1:Chunk) (a2:Option Addr) (n2 k2:Nat) (l2:List Ref) (c2:Chunk) (a3:Option Addr) (n3 k3:Nat) (l3:List Ref) (c3:Chunk),M=[(p, .cells #[.int .i64 S.cap, .slice a0 n0 k0, .slice a1 n1 k1, .slice a2 n2 k2, .slice a3 n3 k3] 168 (0,0))]++(c0++(c1++(c2++c3)))/\OwnT encRef 61 2 a0 n0 k0 l0 c0/\OwnT encRef 61 2 a1 n1 k1 l1 c1/\OwnT encRef 61 2 a2 n2 k2 l2 c2/\OwnT encRef 61 2 a3 n3 k3 l3 c3/\S.bs=[l0,l1,l2,l3]/\(1<=S.cap/\S.cap<=4096)/\totB S.bs<=S.cap
theorem iq_len {p:Nat} {S:QS} {M:Chunk} (hR:InjR p S M) (hS:Sat W w (M::H::F)):
  Calls prog 110 #[Pt p 0] w fun e w'=>e= .returned (I (totB S.bs))/\Sat W w' (M::H::F):=by
 obtain ⟨a0,n0,k0,l0,c0,a1,n1,k1,l1,c1,a2,n2,k2,l2,c2,a3,n3,k3,l3,c3,rfl,d0,e0,f0,g0,hb,s0,t0⟩:=hR
 have hS:Sat W _ ([(p, .cells #[I S.cap, .slice a0 n0 k0, .slice a1 n1 k1, .slice a2 n2 k2, .slice a3 n3 k3] 168 (0,0))]::c0::c1::c2::c3::H::F):=Sat.perm hS (by simp)
 have ht:totB S.bs=n0+n1+n2+n3:=by rw [hb];unfold totB;simp [d0.len,e0.len,f0.len,g0.len];omega
 have o0:=d0.ll;have p0:=e0.ll;have q0:=f0.ll;have r0:=g0.ll
 exact callsA 23 func110 rfl<|sR<|pu1<|zS<|pu1<|zQ<|pu1<|nT<|blockE<|loopN 5<|roundS<|seqE<|sR<|pu6<|nT<|cTt<|kT<|seqE<|blockE<|rE<|pu6<|sM hS 0 1 (.slice a0 n0 k0)<|pu1<|sAdd 0 (n0:Int)<|pu1<|nB<|rE<|pu3<|nT<|roundS<|seqE<|sR<|pu6<|nT<|cTt<|kT<|seqE<|blockE<|rE<|pu6<|sM hS 0 2 (.slice a1 n1 k1)<|pu1<|sAdd (0+(n0:Int)) (n1:Int)<|pu1<|nB<|rE<|pu3<|nT<|roundS<|seqE<|sR<|pu6<|nT<|cTt<|kT<|seqE<|blockE<|rE<|pu6<|sM hS 0 3 (.slice a2 n2 k2)<|pu1<|sAdd ((0+(n0:Int))+(n1:Int)) (n2:Int)<|pu1<|nB<|rE<|pu3<|nT<|roundS<|seqE<|sR<|pu6<|nT<|cTt<|kT<|seqE<|blockE<|rE<|pu6<|sM hS 0 4 (.slice a3 n3 k3)<|pu1<|sAdd (((0+(n0:Int))+(n1:Int))+(n2:Int)) (n3:Int)<|pu1<|nB<|rE<|pu3<|nT<|roundS<|seqE<|sR<|pu6<|nT<|cFf<|exitE<|xB<|tN<|sR<|pu2<|zE<|retT [I ((((0+(n0:Int))+(n1:Int))+(n2:Int))+(n3:Int))]<|(by have b0:Sat W _ (([(p, .cells #[I S.cap, .slice a0 n0 k0, .slice a1 n1 k1, .slice a2 n2 k2, .slice a3 n3 k3] 168 (0,0))]++(c0++(c1++(c2++c3))))::H::F):=Sat.perm (show Sat W _ ([(p, .cells #[I S.cap, .slice a0 n0 k0, .slice a1 n1 k1, .slice a2 n2 k2, .slice a3 n3 k3] 168 (0,0))]::c0::c1::c2::c3::H::F) from hS) (by simp);exact ⟨congrArg (fun z=>Ending.returned (I z)) om,b0⟩)
theorem iq_push0 {p:Nat} {S:QS} {M:Chunk} (hR:InjR p S M) (r:Ref) (hS:Sat W w (M::H::F)):
  Calls prog 60 #[Pt p 0, .agg #[I r.job,I r.task],I 0] w fun e w'=>∃M':Chunk,e= .returned (I (pushCQ S))/\InjR p (pushQ S r 0) M'/\Sat W w' (M'::H::F):=by
 obtain ⟨a0,n0,k0,l0,c0,a1,n1,k1,l1,c1,a2,n2,k2,l2,c2,a3,n3,k3,l3,c3,rfl,A0,B0,C0,D0,hb,E0,F0⟩:=hR
 have hS:Sat W _ ([(p, .cells #[I S.cap, .slice a0 n0 k0, .slice a1 n1 k1, .slice a2 n2 k2, .slice a3 n3 k3] 168 (0,0))]::c0::c1::c2::c3::H::F):=Sat.perm hS (by simp)
 have ht:totB S.bs=n0+n1+n2+n3:=by rw [hb];unfold totB;simp [A0.len,B0.len,C0.len,D0.len];omega
 have K0:=A0.ll;have L0:=B0.ll;have M0:=C0.ll;have N0:=D0.ll
 refine callsK 43 func60 rfl<|jCO 2 rfl<|sBx hS [I r.job,I r.task] fun b0 _ d0=>gOC d0 17 [1] rfl<|cE S.cap 0 (fun m0=>jCR 7 rfl<|retT [I 20]<|(by have o0:=(d0.dropAt 0 rfl);have f1:Sat W _ (([(p, .cells #[I S.cap, .slice a0 n0 k0, .slice a1 n1 k1, .slice a2 n2 k2, .slice a3 n3 k3] 168 (0,0))]++(c0++(c1++(c2++c3))))::H::F):=Sat.perm (show Sat W _ ([(p, .cells #[I S.cap, .slice a0 n0 k0, .slice a1 n1 k1, .slice a2 n2 k2, .slice a3 n3 k3] 168 (0,0))]::c0::c1::c2::c3::H::F) from o0) (by simp);have hq:totB [l0,l1,l2,l3]=totB S.bs:=(by rw [hb]);omega)) fun m0=>jCC 18 rfl<|drawF d0 [1] (fb 5 1 0 1<|fn) [0,2,3,4,5,1,6] fun _ p0=>wV 4<|wL 0<|wO rfl ?_
 have q0:=(p0.picks [5,5,5,5,5])
 have r0:Sat W _ (([(p, .cells #[I S.cap, .slice a0 n0 k0, .slice a1 n1 k1, .slice a2 n2 k2, .slice a3 n3 k3] 168 (0,0))]++(c0++(c1++(c2++c3))))::[(b0, .cells #[I r.job,I r.task] 61 (0,0))]::H::F):=Sat.perm (show Sat W _ ([(p, .cells #[I S.cap, .slice a0 n0 k0, .slice a1 n1 k1, .slice a2 n2 k2, .slice a3 n3 k3] 168 (0,0))]::c0::c1::c2::c3::[(b0, .cells #[I r.job,I r.task] 61 (0,0))]::H::F) from q0) (by simp)
 have g1:totB [l0,l1,l2,l3]=((n0+n1+n2+n3:Nat):Int):=by unfold totB;simp only [List.map_cons,List.map_nil,List.sum_cons,List.sum_nil];have h0:=(A0).len;have h1:=(B0).len;have h2:=(C0).len;have h3:=(D0).len;omega
 refine cZ (iq_len (S:=⟨S.cap,[l0,l1,l2,l3]⟩) ⟨_,_,_,_,_,_,_,_,_,_,_,_,_,_,_,_,_,_,_,_,rfl,A0,B0,C0,D0,rfl,E0,(by dsimp only;omega)⟩ r0.flat1) ?_
 rintro _ _ ⟨rfl,s0⟩
 have e0:Sat W _ ([(p, .cells #[I S.cap, .slice a0 n0 k0, .slice a1 n1 k1, .slice a2 n2 k2, .slice a3 n3 k3] 168 (0,0))]::c0::c1::c2::c3::[(b0, .cells #[I r.job,I r.task] 61 (0,0))]::H::F):=Sat.perm (Sat.unflat1 s0) (by simp [Value.cells])
 refine nZ e0 [0]<|wV 1<|wN<|jXC 1 rfl<|cD ((totB [l0,l1,l2,l3])>=S.cap) (fun t0=>jCR 7 rfl<|retT [I 19]<|(by have u0:=(e0.dropAt 5 rfl);have v0:Sat W _ (([(p, .cells #[I S.cap, .slice a0 n0 k0, .slice a1 n1 k1, .slice a2 n2 k2, .slice a3 n3 k3] 168 (0,0))]++(c0++(c1++(c2++c3))))::H::F):=Sat.perm (show Sat W _ ([(p, .cells #[I S.cap, .slice a0 n0 k0, .slice a1 n1 k1, .slice a2 n2 k2, .slice a3 n3 k3] 168 (0,0))]::c0::c1::c2::c3::H::F) from u0) (by simp);have hq:totB [l0,l1,l2,l3]=totB S.bs:=(by rw [hb]);have hc:pushCQ S=19:=(by unfold pushCQ;rw [if_pos om]);have he:pushQ S r 0=S:=(by unfold pushQ;rw [hc,if_neg (by decide)]);exact ⟨_,by rw [hc];rfl,by rw [he];exact ⟨_,_,_,_,_,_,_,_,_,_,_,_,_,_,_,_,_,_,_,_,rfl,A0,B0,C0,D0,hb,E0,F0⟩,v0⟩)) fun t0=>jCC 3 rfl<|drawF e0 [9,10,14] (fb 7 0 1 1<|fb 8 5 0 2<|fn) [0,1,2,3,4,5,6,11,12,7,8,9,10,13,14] fun _ w0=>wV 9<|wL 0<|wG 1 2<|wO rfl<|sBK w0 #[I r.job,I r.task] 61 fun _ _ i0=>nZ i0 [1]<|wO rfl<|sApp (nb:=16) i0 A0 2 (RdT.blk (enc:=encRef) (sz:=2) (xs:=[(⟨r.job,r.task⟩:Ref)]) fR 1 0 rfl rfl rfl om) underlying125 (i:=Tryz.t61) kr fR fun f0 g0 j0 _ x0 y0=>nA<|wV 1<|wO rfl<|tWk y0 1 rfl 1 (.slice f0 (n0+1) g0) fun _ z0=>nA<|wN<|jXR 7 rfl<|retT [I 0] ?_
 have b1:=(z0.drops [0,5])
 have d1:Sat W _ (([(p, .cells #[I S.cap, .slice f0 (n0+1) g0, .slice a1 n1 k1, .slice a2 n2 k2, .slice a3 n3 k3] 168 (0,0))]++(j0++(c1++(c2++c3))))::H::F):=Sat.perm (show Sat W _ ([(p, .cells #[I S.cap, .slice f0 (n0+1) g0, .slice a1 n1 k1, .slice a2 n2 k2, .slice a3 n3 k3] 168 (0,0))]::j0::c1::c2::c3::H::F) from b1) (by simp)
 have hq:totB [l0,l1,l2,l3]=totB S.bs:=by rw [hb]
 have hc:pushCQ S=0:=by unfold pushCQ;rw [if_neg om]
 have he:pushQ S r 0={S with bs:=[(l0++[(⟨r.job,r.task⟩:Ref)]),l1,l2,l3]}:=by unfold pushQ;rw [if_pos hc,hb];rfl
 exact ⟨_,by rw [hc];rfl,by rw [he];exact ⟨_,_,_,_,_,_,_,_,_,_,_,_,_,_,_,_,_,_,_,_,rfl,x0,B0,C0,D0,rfl,E0,(by unfold totB;simp;omega)⟩,d1⟩
theorem iq_push1 {p:Nat} {S:QS} {M:Chunk} (hR:InjR p S M) (r:Ref) (hS:Sat W w (M::H::F)):
  Calls prog 60 #[Pt p 0, .agg #[I r.job,I r.task],I 1] w fun e w'=>∃M':Chunk,e= .returned (I (pushCQ S))/\InjR p (pushQ S r 1) M'/\Sat W w' (M'::H::F):=by
 obtain ⟨a0,n0,k0,l0,c0,a1,n1,k1,l1,c1,a2,n2,k2,l2,c2,a3,n3,k3,l3,c3,rfl,A0,B0,C0,D0,hb,E0,F0⟩:=hR
 have hS:Sat W _ ([(p, .cells #[I S.cap, .slice a0 n0 k0, .slice a1 n1 k1, .slice a2 n2 k2, .slice a3 n3 k3] 168 (0,0))]::c0::c1::c2::c3::H::F):=Sat.perm hS (by simp)
 have ht:totB S.bs=n0+n1+n2+n3:=by rw [hb];unfold totB;simp [A0.len,B0.len,C0.len,D0.len];omega
 have K0:=A0.ll;have L0:=B0.ll;have M0:=C0.ll;have N0:=D0.ll
 refine callsK 43 func60 rfl<|jCO 2 rfl<|sBx hS [I r.job,I r.task] fun b0 _ d0=>gOC d0 17 [1] rfl<|cE S.cap 0 (fun m0=>jCR 7 rfl<|retT [I 20]<|(by have o0:=(d0.dropAt 0 rfl);have f1:Sat W _ (([(p, .cells #[I S.cap, .slice a0 n0 k0, .slice a1 n1 k1, .slice a2 n2 k2, .slice a3 n3 k3] 168 (0,0))]++(c0++(c1++(c2++c3))))::H::F):=Sat.perm (show Sat W _ ([(p, .cells #[I S.cap, .slice a0 n0 k0, .slice a1 n1 k1, .slice a2 n2 k2, .slice a3 n3 k3] 168 (0,0))]::c0::c1::c2::c3::H::F) from o0) (by simp);have hq:totB [l0,l1,l2,l3]=totB S.bs:=(by rw [hb]);omega)) fun m0=>jCC 18 rfl<|drawF d0 [1] (fb 5 1 0 1<|fn) [0,2,3,4,5,1,6] fun _ p0=>wV 4<|wL 0<|wO rfl ?_
 have q0:=(p0.picks [5,5,5,5,5])
 have r0:Sat W _ (([(p, .cells #[I S.cap, .slice a0 n0 k0, .slice a1 n1 k1, .slice a2 n2 k2, .slice a3 n3 k3] 168 (0,0))]++(c0++(c1++(c2++c3))))::[(b0, .cells #[I r.job,I r.task] 61 (0,0))]::H::F):=Sat.perm (show Sat W _ ([(p, .cells #[I S.cap, .slice a0 n0 k0, .slice a1 n1 k1, .slice a2 n2 k2, .slice a3 n3 k3] 168 (0,0))]::c0::c1::c2::c3::[(b0, .cells #[I r.job,I r.task] 61 (0,0))]::H::F) from q0) (by simp)
 have g1:totB [l0,l1,l2,l3]=((n0+n1+n2+n3:Nat):Int):=by unfold totB;simp only [List.map_cons,List.map_nil,List.sum_cons,List.sum_nil];have h0:=(A0).len;have h1:=(B0).len;have h2:=(C0).len;have h3:=(D0).len;omega
 refine cZ (iq_len (S:=⟨S.cap,[l0,l1,l2,l3]⟩) ⟨_,_,_,_,_,_,_,_,_,_,_,_,_,_,_,_,_,_,_,_,rfl,A0,B0,C0,D0,rfl,E0,(by dsimp only;omega)⟩ r0.flat1) ?_
 rintro _ _ ⟨rfl,s0⟩
 have e0:Sat W _ ([(p, .cells #[I S.cap, .slice a0 n0 k0, .slice a1 n1 k1, .slice a2 n2 k2, .slice a3 n3 k3] 168 (0,0))]::c0::c1::c2::c3::[(b0, .cells #[I r.job,I r.task] 61 (0,0))]::H::F):=Sat.perm (Sat.unflat1 s0) (by simp [Value.cells])
 refine nZ e0 [0]<|wV 1<|wN<|jXC 1 rfl<|cD ((totB [l0,l1,l2,l3])>=S.cap) (fun t0=>jCR 7 rfl<|retT [I 19]<|(by have u0:=(e0.dropAt 5 rfl);have v0:Sat W _ (([(p, .cells #[I S.cap, .slice a0 n0 k0, .slice a1 n1 k1, .slice a2 n2 k2, .slice a3 n3 k3] 168 (0,0))]++(c0++(c1++(c2++c3))))::H::F):=Sat.perm (show Sat W _ ([(p, .cells #[I S.cap, .slice a0 n0 k0, .slice a1 n1 k1, .slice a2 n2 k2, .slice a3 n3 k3] 168 (0,0))]::c0::c1::c2::c3::H::F) from u0) (by simp);have hq:totB [l0,l1,l2,l3]=totB S.bs:=(by rw [hb]);have hc:pushCQ S=19:=(by unfold pushCQ;rw [if_pos om]);have he:pushQ S r 1=S:=(by unfold pushQ;rw [hc,if_neg (by decide)]);exact ⟨_,by rw [hc];rfl,by rw [he];exact ⟨_,_,_,_,_,_,_,_,_,_,_,_,_,_,_,_,_,_,_,_,rfl,A0,B0,C0,D0,hb,E0,F0⟩,v0⟩)) fun t0=>jCC 3 rfl<|drawF e0 [9,10,14] (fb 7 0 2 1<|fb 8 5 0 2<|fn) [0,1,2,3,4,5,6,11,12,7,8,9,10,13,14] fun _ w0=>wV 9<|wL 0<|wG 1 2<|wO rfl<|sBK w0 #[I r.job,I r.task] 61 fun _ _ i0=>nZ i0 [1]<|wO rfl<|sApp (nb:=16) i0 B0 3 (RdT.blk (enc:=encRef) (sz:=2) (xs:=[(⟨r.job,r.task⟩:Ref)]) fR 1 0 rfl rfl rfl om) underlying125 (i:=Tryz.t61) kr fR fun f0 g0 j0 _ x0 y0=>nA<|wV 1<|wO rfl<|tWk y0 1 rfl 2 (.slice f0 (n1+1) g0) fun _ z0=>nA<|wN<|jXR 7 rfl<|retT [I 0] ?_
 have b1:=(z0.drops [0,5])
 have d1:Sat W _ (([(p, .cells #[I S.cap, .slice a0 n0 k0, .slice f0 (n1+1) g0, .slice a2 n2 k2, .slice a3 n3 k3] 168 (0,0))]++(c0++(j0++(c2++c3))))::H::F):=Sat.perm (show Sat W _ ([(p, .cells #[I S.cap, .slice a0 n0 k0, .slice f0 (n1+1) g0, .slice a2 n2 k2, .slice a3 n3 k3] 168 (0,0))]::c0::j0::c2::c3::H::F) from b1) (by simp)
 have hq:totB [l0,l1,l2,l3]=totB S.bs:=by rw [hb]
 have hc:pushCQ S=0:=by unfold pushCQ;rw [if_neg om]
 have he:pushQ S r 1={S with bs:=[l0,(l1++[(⟨r.job,r.task⟩:Ref)]),l2,l3]}:=by unfold pushQ;rw [if_pos hc,hb];rfl
 exact ⟨_,by rw [hc];rfl,by rw [he];exact ⟨_,_,_,_,_,_,_,_,_,_,_,_,_,_,_,_,_,_,_,_,rfl,A0,x0,C0,D0,rfl,E0,(by unfold totB;simp;omega)⟩,d1⟩
theorem iq_push2 {p:Nat} {S:QS} {M:Chunk} (hR:InjR p S M) (r:Ref) (hS:Sat W w (M::H::F)):
  Calls prog 60 #[Pt p 0, .agg #[I r.job,I r.task],I 2] w fun e w'=>∃M':Chunk,e= .returned (I (pushCQ S))/\InjR p (pushQ S r 2) M'/\Sat W w' (M'::H::F):=by
 obtain ⟨a0,n0,k0,l0,c0,a1,n1,k1,l1,c1,a2,n2,k2,l2,c2,a3,n3,k3,l3,c3,rfl,A0,B0,C0,D0,hb,E0,F0⟩:=hR
 have hS:Sat W _ ([(p, .cells #[I S.cap, .slice a0 n0 k0, .slice a1 n1 k1, .slice a2 n2 k2, .slice a3 n3 k3] 168 (0,0))]::c0::c1::c2::c3::H::F):=Sat.perm hS (by simp)
 have ht:totB S.bs=n0+n1+n2+n3:=by rw [hb];unfold totB;simp [A0.len,B0.len,C0.len,D0.len];omega
 have K0:=A0.ll;have L0:=B0.ll;have M0:=C0.ll;have N0:=D0.ll
 refine callsK 43 func60 rfl<|jCO 2 rfl<|sBx hS [I r.job,I r.task] fun b0 _ d0=>gOC d0 17 [1] rfl<|cE S.cap 0 (fun m0=>jCR 7 rfl<|retT [I 20]<|(by have o0:=(d0.dropAt 0 rfl);have f1:Sat W _ (([(p, .cells #[I S.cap, .slice a0 n0 k0, .slice a1 n1 k1, .slice a2 n2 k2, .slice a3 n3 k3] 168 (0,0))]++(c0++(c1++(c2++c3))))::H::F):=Sat.perm (show Sat W _ ([(p, .cells #[I S.cap, .slice a0 n0 k0, .slice a1 n1 k1, .slice a2 n2 k2, .slice a3 n3 k3] 168 (0,0))]::c0::c1::c2::c3::H::F) from o0) (by simp);have hq:totB [l0,l1,l2,l3]=totB S.bs:=(by rw [hb]);omega)) fun m0=>jCC 18 rfl<|drawF d0 [1] (fb 5 1 0 1<|fn) [0,2,3,4,5,1,6] fun _ p0=>wV 4<|wL 0<|wO rfl ?_
 have q0:=(p0.picks [5,5,5,5,5])
 have r0:Sat W _ (([(p, .cells #[I S.cap, .slice a0 n0 k0, .slice a1 n1 k1, .slice a2 n2 k2, .slice a3 n3 k3] 168 (0,0))]++(c0++(c1++(c2++c3))))::[(b0, .cells #[I r.job,I r.task] 61 (0,0))]::H::F):=Sat.perm (show Sat W _ ([(p, .cells #[I S.cap, .slice a0 n0 k0, .slice a1 n1 k1, .slice a2 n2 k2, .slice a3 n3 k3] 168 (0,0))]::c0::c1::c2::c3::[(b0, .cells #[I r.job,I r.task] 61 (0,0))]::H::F) from q0) (by simp)
 have g1:totB [l0,l1,l2,l3]=((n0+n1+n2+n3:Nat):Int):=by unfold totB;simp only [List.map_cons,List.map_nil,List.sum_cons,List.sum_nil];have h0:=(A0).len;have h1:=(B0).len;have h2:=(C0).len;have h3:=(D0).len;omega
 refine cZ (iq_len (S:=⟨S.cap,[l0,l1,l2,l3]⟩) ⟨_,_,_,_,_,_,_,_,_,_,_,_,_,_,_,_,_,_,_,_,rfl,A0,B0,C0,D0,rfl,E0,(by dsimp only;omega)⟩ r0.flat1) ?_
 rintro _ _ ⟨rfl,s0⟩
 have e0:Sat W _ ([(p, .cells #[I S.cap, .slice a0 n0 k0, .slice a1 n1 k1, .slice a2 n2 k2, .slice a3 n3 k3] 168 (0,0))]::c0::c1::c2::c3::[(b0, .cells #[I r.job,I r.task] 61 (0,0))]::H::F):=Sat.perm (Sat.unflat1 s0) (by simp [Value.cells])
 refine nZ e0 [0]<|wV 1<|wN<|jXC 1 rfl<|cD ((totB [l0,l1,l2,l3])>=S.cap) (fun t0=>jCR 7 rfl<|retT [I 19]<|(by have u0:=(e0.dropAt 5 rfl);have v0:Sat W _ (([(p, .cells #[I S.cap, .slice a0 n0 k0, .slice a1 n1 k1, .slice a2 n2 k2, .slice a3 n3 k3] 168 (0,0))]++(c0++(c1++(c2++c3))))::H::F):=Sat.perm (show Sat W _ ([(p, .cells #[I S.cap, .slice a0 n0 k0, .slice a1 n1 k1, .slice a2 n2 k2, .slice a3 n3 k3] 168 (0,0))]::c0::c1::c2::c3::H::F) from u0) (by simp);have hq:totB [l0,l1,l2,l3]=totB S.bs:=(by rw [hb]);have hc:pushCQ S=19:=(by unfold pushCQ;rw [if_pos om]);have he:pushQ S r 2=S:=(by unfold pushQ;rw [hc,if_neg (by decide)]);exact ⟨_,by rw [hc];rfl,by rw [he];exact ⟨_,_,_,_,_,_,_,_,_,_,_,_,_,_,_,_,_,_,_,_,rfl,A0,B0,C0,D0,hb,E0,F0⟩,v0⟩)) fun t0=>jCC 3 rfl<|drawF e0 [9,10,14] (fb 7 0 3 1<|fb 8 5 0 2<|fn) [0,1,2,3,4,5,6,11,12,7,8,9,10,13,14] fun _ w0=>wV 9<|wL 0<|wG 1 2<|wO rfl<|sBK w0 #[I r.job,I r.task] 61 fun _ _ i0=>nZ i0 [1]<|wO rfl<|sApp (nb:=16) i0 C0 4 (RdT.blk (enc:=encRef) (sz:=2) (xs:=[(⟨r.job,r.task⟩:Ref)]) fR 1 0 rfl rfl rfl om) underlying125 (i:=Tryz.t61) kr fR fun f0 g0 j0 _ x0 y0=>nA<|wV 1<|wO rfl<|tWk y0 1 rfl 3 (.slice f0 (n2+1) g0) fun _ z0=>nA<|wN<|jXR 7 rfl<|retT [I 0] ?_
 have b1:=(z0.drops [0,5])
 have d1:Sat W _ (([(p, .cells #[I S.cap, .slice a0 n0 k0, .slice a1 n1 k1, .slice f0 (n2+1) g0, .slice a3 n3 k3] 168 (0,0))]++(c0++(c1++(j0++c3))))::H::F):=Sat.perm (show Sat W _ ([(p, .cells #[I S.cap, .slice a0 n0 k0, .slice a1 n1 k1, .slice f0 (n2+1) g0, .slice a3 n3 k3] 168 (0,0))]::c0::c1::j0::c3::H::F) from b1) (by simp)
 have hq:totB [l0,l1,l2,l3]=totB S.bs:=by rw [hb]
 have hc:pushCQ S=0:=by unfold pushCQ;rw [if_neg om]
 have he:pushQ S r 2={S with bs:=[l0,l1,(l2++[(⟨r.job,r.task⟩:Ref)]),l3]}:=by unfold pushQ;rw [if_pos hc,hb];rfl
 exact ⟨_,by rw [hc];rfl,by rw [he];exact ⟨_,_,_,_,_,_,_,_,_,_,_,_,_,_,_,_,_,_,_,_,rfl,A0,B0,x0,D0,rfl,E0,(by unfold totB;simp;omega)⟩,d1⟩
theorem iq_push3 {p:Nat} {S:QS} {M:Chunk} (hR:InjR p S M) (r:Ref) (hS:Sat W w (M::H::F)):
  Calls prog 60 #[Pt p 0, .agg #[I r.job,I r.task],I 3] w fun e w'=>∃M':Chunk,e= .returned (I (pushCQ S))/\InjR p (pushQ S r 3) M'/\Sat W w' (M'::H::F):=by
 obtain ⟨a0,n0,k0,l0,c0,a1,n1,k1,l1,c1,a2,n2,k2,l2,c2,a3,n3,k3,l3,c3,rfl,A0,B0,C0,D0,hb,E0,F0⟩:=hR
 have hS:Sat W _ ([(p, .cells #[I S.cap, .slice a0 n0 k0, .slice a1 n1 k1, .slice a2 n2 k2, .slice a3 n3 k3] 168 (0,0))]::c0::c1::c2::c3::H::F):=Sat.perm hS (by simp)
 have ht:totB S.bs=n0+n1+n2+n3:=by rw [hb];unfold totB;simp [A0.len,B0.len,C0.len,D0.len];omega
 have K0:=A0.ll;have L0:=B0.ll;have M0:=C0.ll;have N0:=D0.ll
 refine callsK 43 func60 rfl<|jCO 2 rfl<|sBx hS [I r.job,I r.task] fun b0 _ d0=>gOC d0 17 [1] rfl<|cE S.cap 0 (fun m0=>jCR 7 rfl<|retT [I 20]<|(by have o0:=(d0.dropAt 0 rfl);have f1:Sat W _ (([(p, .cells #[I S.cap, .slice a0 n0 k0, .slice a1 n1 k1, .slice a2 n2 k2, .slice a3 n3 k3] 168 (0,0))]++(c0++(c1++(c2++c3))))::H::F):=Sat.perm (show Sat W _ ([(p, .cells #[I S.cap, .slice a0 n0 k0, .slice a1 n1 k1, .slice a2 n2 k2, .slice a3 n3 k3] 168 (0,0))]::c0::c1::c2::c3::H::F) from o0) (by simp);have hq:totB [l0,l1,l2,l3]=totB S.bs:=(by rw [hb]);omega)) fun m0=>jCC 18 rfl<|drawF d0 [1] (fb 5 1 0 1<|fn) [0,2,3,4,5,1,6] fun _ p0=>wV 4<|wL 0<|wO rfl ?_
 have q0:=(p0.picks [5,5,5,5,5])
 have r0:Sat W _ (([(p, .cells #[I S.cap, .slice a0 n0 k0, .slice a1 n1 k1, .slice a2 n2 k2, .slice a3 n3 k3] 168 (0,0))]++(c0++(c1++(c2++c3))))::[(b0, .cells #[I r.job,I r.task] 61 (0,0))]::H::F):=Sat.perm (show Sat W _ ([(p, .cells #[I S.cap, .slice a0 n0 k0, .slice a1 n1 k1, .slice a2 n2 k2, .slice a3 n3 k3] 168 (0,0))]::c0::c1::c2::c3::[(b0, .cells #[I r.job,I r.task] 61 (0,0))]::H::F) from q0) (by simp)
 have g1:totB [l0,l1,l2,l3]=((n0+n1+n2+n3:Nat):Int):=by unfold totB;simp only [List.map_cons,List.map_nil,List.sum_cons,List.sum_nil];have h0:=(A0).len;have h1:=(B0).len;have h2:=(C0).len;have h3:=(D0).len;omega
 refine cZ (iq_len (S:=⟨S.cap,[l0,l1,l2,l3]⟩) ⟨_,_,_,_,_,_,_,_,_,_,_,_,_,_,_,_,_,_,_,_,rfl,A0,B0,C0,D0,rfl,E0,(by dsimp only;omega)⟩ r0.flat1) ?_
 rintro _ _ ⟨rfl,s0⟩
 have e0:Sat W _ ([(p, .cells #[I S.cap, .slice a0 n0 k0, .slice a1 n1 k1, .slice a2 n2 k2, .slice a3 n3 k3] 168 (0,0))]::c0::c1::c2::c3::[(b0, .cells #[I r.job,I r.task] 61 (0,0))]::H::F):=Sat.perm (Sat.unflat1 s0) (by simp [Value.cells])
 refine nZ e0 [0]<|wV 1<|wN<|jXC 1 rfl<|cD ((totB [l0,l1,l2,l3])>=S.cap) (fun t0=>jCR 7 rfl<|retT [I 19]<|(by have u0:=(e0.dropAt 5 rfl);have v0:Sat W _ (([(p, .cells #[I S.cap, .slice a0 n0 k0, .slice a1 n1 k1, .slice a2 n2 k2, .slice a3 n3 k3] 168 (0,0))]++(c0++(c1++(c2++c3))))::H::F):=Sat.perm (show Sat W _ ([(p, .cells #[I S.cap, .slice a0 n0 k0, .slice a1 n1 k1, .slice a2 n2 k2, .slice a3 n3 k3] 168 (0,0))]::c0::c1::c2::c3::H::F) from u0) (by simp);have hq:totB [l0,l1,l2,l3]=totB S.bs:=(by rw [hb]);have hc:pushCQ S=19:=(by unfold pushCQ;rw [if_pos om]);have he:pushQ S r 3=S:=(by unfold pushQ;rw [hc,if_neg (by decide)]);exact ⟨_,by rw [hc];rfl,by rw [he];exact ⟨_,_,_,_,_,_,_,_,_,_,_,_,_,_,_,_,_,_,_,_,rfl,A0,B0,C0,D0,hb,E0,F0⟩,v0⟩)) fun t0=>jCC 3 rfl<|drawF e0 [9,10,14] (fb 7 0 4 1<|fb 8 5 0 2<|fn) [0,1,2,3,4,5,6,11,12,7,8,9,10,13,14] fun _ w0=>wV 9<|wL 0<|wG 1 2<|wO rfl<|sBK w0 #[I r.job,I r.task] 61 fun _ _ i0=>nZ i0 [1]<|wO rfl<|sApp (nb:=16) i0 D0 5 (RdT.blk (enc:=encRef) (sz:=2) (xs:=[(⟨r.job,r.task⟩:Ref)]) fR 1 0 rfl rfl rfl om) underlying125 (i:=Tryz.t61) kr fR fun f0 g0 j0 _ x0 y0=>nA<|wV 1<|wO rfl<|tWk y0 1 rfl 4 (.slice f0 (n3+1) g0) fun _ z0=>nA<|wN<|jXR 7 rfl<|retT [I 0] ?_
 have b1:=(z0.drops [0,5])
 have d1:Sat W _ (([(p, .cells #[I S.cap, .slice a0 n0 k0, .slice a1 n1 k1, .slice a2 n2 k2, .slice f0 (n3+1) g0] 168 (0,0))]++(c0++(c1++(c2++j0))))::H::F):=Sat.perm (show Sat W _ ([(p, .cells #[I S.cap, .slice a0 n0 k0, .slice a1 n1 k1, .slice a2 n2 k2, .slice f0 (n3+1) g0] 168 (0,0))]::c0::c1::c2::j0::H::F) from b1) (by simp)
 have hq:totB [l0,l1,l2,l3]=totB S.bs:=by rw [hb]
 have hc:pushCQ S=0:=by unfold pushCQ;rw [if_neg om]
 have he:pushQ S r 3={S with bs:=[l0,l1,l2,(l3++[(⟨r.job,r.task⟩:Ref)])]}:=by unfold pushQ;rw [if_pos hc,hb];rfl
 exact ⟨_,by rw [hc];rfl,by rw [he];exact ⟨_,_,_,_,_,_,_,_,_,_,_,_,_,_,_,_,_,_,_,_,rfl,A0,B0,C0,x0,rfl,E0,(by unfold totB;simp;omega)⟩,d1⟩
theorem iq_push {p:Nat} {S:QS} {M:Chunk} (hR:InjR p S M) (r:Ref) (b:Int) (hb:0<=b/\b<4) (hS:Sat W w (M::H::F)):
    Calls prog 60 #[.pointer (some ⟨p,0,none⟩), .agg #[.int .i64 r.job, .int .i64 r.task], .int .i64 b] w fun e w'=>∃M':Chunk,e= .returned (.int .i64 (pushCQ S))/\InjR p (pushQ S r b) M'/\Sat W w' (M'::H::F):=by
  rcases (by omega:b=0\/b=1\/b=2\/b=3) with rfl|rfl|rfl|rfl
  · exact iq_push0 hR r hS
  · exact iq_push1 hR r hS
  · exact iq_push2 hR r hS
  · exact iq_push3 hR r hS
theorem iq_pop {p:Nat} {S:QS} {M:Chunk} (hR:InjR p S M) (hS:Sat W w (M::H::F)):
  Calls prog 138 #[Pt p 0] w fun e w'=>(popB S.bs=none/\e= .returned (.tuple #[.agg #[I 0,I 0], .bool false])/\Sat W w' (M::H::F))\/(∃(x:Ref) (bs:List (List Ref)) (M':Chunk),popB S.bs=some (x,bs)/\e= .returned (.tuple #[.agg #[I x.job,I x.task], .bool true])/\InjR p {S with bs:=bs} M'/\Sat W w' (M'::H::F)):=by
 obtain ⟨a0,n0,k0,l0,c0,a1,n1,k1,l1,c1,a2,n2,k2,l2,c2,a3,n3,k3,l3,c3,rfl,B0,C0,D0,E0,hb,H0,R0⟩:=hR
 have hS:Sat W _ ([(p, .cells #[I S.cap, .slice a0 n0 k0, .slice a1 n1 k1, .slice a2 n2 k2, .slice a3 n3 k3] 168 (0,0))]::c0::c1::c2::c3::H::F):=Sat.perm hS (by simp)
 have ht:totB S.bs=n0+n1+n2+n3:=by rw [hb];unfold totB;simp [B0.len,C0.len,D0.len,E0.len];omega
 have J0:=B0.len;have N0:=B0.le;have K0:=C0.len;have O0:=C0.le;have L0:=D0.len;have P0:=D0.le;have M0:=E0.len;have Q0:=E0.le
 refine callsA 35 func138 rfl<|sR<|sAlloc hS zeroValue61 fun _ _ b0=>pu1<|zQ<|pu1<|nT<|blockE<|loopN 5<|roundS<|seqE<|sR<|pu6<|nT<|cTt<|kT<|seqE<|blockE<|sR<|pu5<|sM b0 1 1 (.slice a0 n0 k0)<|pu1<|zS<|pu3<|nT<|cD ((n0:Int)>0) (fun h1=>seqE<|drawF b0 [4,8] (fn) [0,1,2,3,5,6,4,7,8] fun _ i1=>wV 3<|(by have j1:=B0.part (lo:=1) (hi:=n0) om om;refine wY (.slice (partAddr a0 k0 1 2) (n0-1) (k0-1)) rfl (fun w _=>Y_sl (a:=a0) (len:=n0) (cap:=k0) (some 1) none 1 n0 runUnderlying125 sizeOf61 ⟨by decide,rfl⟩ rfl om om)<|wV 2<|wO rfl<|sApp (nb:=16) (Sat.nilc i1) (OwnT.nil (enc:=encRef) (E:=61) (sz:=2) fR) 0 (j1.rdAt 3 rfl) underlying125 (i:=Tryz.t61) kr fR fun h0 i0 s0 _ q1 r1=>nA<|wV 1<|wO rfl<|tWk r1 2 rfl 1 (.slice h0 (0+(n0-1)) i0) fun _ t0=>nA<|wN<|tN<|sR<|pu1<|sIO B0 0 0 fun d0 _ _ s1 t1 _=>sMA t0 (t1.up 3 rfl) 0 [I d0.job,I d0.task]<|sTk t0 1 rfl [I d0.job,I d0.task] fun _ u0=>pu1<|zB<|tR<|tK<|retD u0 1 [I d0.job,I d0.task] (.bool true) ?_;have u1:=((u0.pick 2 rfl).drops [2,2]);have v1:Sat W _ (([(p, .cells #[I S.cap, .slice h0 (0+(n0-1)) i0, .slice a1 n1 k1, .slice a2 n2 k2, .slice a3 n3 k3] 168 (0,0))]++(s0++(c1++(c2++c3))))::H::F):=Sat.perm (show Sat W _ ([(p, .cells #[I S.cap, .slice h0 (0+(n0-1)) i0, .slice a1 n1 k1, .slice a2 n2 k2, .slice a3 n3 k3] 168 (0,0))]::s0::c1::c2::c3::H::F) from u1) (by simp);have G0:=tail_part J0;have A0:=q1;rw [G0] at A0;have F0:popB S.bs=some (d0,[l0.tail,l1,l2,l3]):=(by rw [hb,popB_at s1]);exact .inr ⟨_,_,_,F0,rfl,⟨_,_,_,_,_,_,_,_,_,_,_,_,_,_,_,_,_,_,_,_,rfl,A0,C0,D0,E0,rfl,H0,(by have I0:=List.length_tail (l:=l0);unfold totB;simp only [List.map_cons,List.map_nil,List.sum_cons,List.sum_nil];omega)⟩,v1⟩)) fun h1=>?_
 refine skipE<|bN<|tN<|rE<|pu3<|nT<|roundS<|seqE<|sR<|pu6<|nT<|cTt<|kT<|seqE<|blockE<|sR<|pu5<|sM b0 1 2 (.slice a1 n1 k1)<|pu1<|zS<|pu3<|nT<|cD ((n1:Int)>0) (fun w1=>seqE<|drawF b0 [4,8] (fn) [0,1,2,3,5,6,4,7,8] fun _ x1=>wV 3<|(by have y1:=C0.part (lo:=1) (hi:=n1) om om;refine wY (.slice (partAddr a1 k1 1 2) (n1-1) (k1-1)) rfl (fun w _=>Y_sl (a:=a1) (len:=n1) (cap:=k1) (some 1) none 1 n1 runUnderlying125 sizeOf61 ⟨by decide,rfl⟩ rfl om om)<|wV 2<|wO rfl<|sApp (nb:=16) (Sat.nilc x1) (OwnT.nil (enc:=encRef) (E:=61) (sz:=2) fR) 0 (y1.rdAt 4 rfl) underlying125 (i:=Tryz.t61) kr fR fun j0 m0 v0 _ d2 e2=>nA<|wV 1<|wO rfl<|tWk e2 2 rfl 2 (.slice j0 (0+(n1-1)) m0) fun _ w0=>nA<|wN<|tN<|sR<|pu1<|sIO C0 0 0 fun e0 _ _ f2 g2 _=>sMA w0 (g2.up 4 rfl) 0 [I e0.job,I e0.task]<|sTk w0 1 rfl [I e0.job,I e0.task] fun _ x0=>pu1<|zB<|tR<|tK<|retD x0 1 [I e0.job,I e0.task] (.bool true) ?_;have h2:=((x0.picks [3,3]).drops [3,3]);have i2:Sat W _ (([(p, .cells #[I S.cap, .slice a0 n0 k0, .slice j0 (0+(n1-1)) m0, .slice a2 n2 k2, .slice a3 n3 k3] 168 (0,0))]++(c0++(v0++(c2++c3))))::H::F):=Sat.perm (show Sat W _ ([(p, .cells #[I S.cap, .slice a0 n0 k0, .slice j0 (0+(n1-1)) m0, .slice a2 n2 k2, .slice a3 n3 k3] 168 (0,0))]::c0::v0::c2::c3::H::F) from h2) (by simp);have G0:=tail_part K0;have A0:=d2;rw [G0] at A0;have F0:popB S.bs=some (e0,[l0,l1.tail,l2,l3]):=(by rw [hb,popB_nil om,popB_at f2];rfl);exact .inr ⟨_,_,_,F0,rfl,⟨_,_,_,_,_,_,_,_,_,_,_,_,_,_,_,_,_,_,_,_,rfl,B0,A0,D0,E0,rfl,H0,(by have I0:=List.length_tail (l:=l1);unfold totB;simp only [List.map_cons,List.map_nil,List.sum_cons,List.sum_nil];omega)⟩,i2⟩)) fun w1=>?_
 refine skipE<|bN<|tN<|rE<|pu3<|nT<|roundS<|seqE<|sR<|pu6<|nT<|cTt<|kT<|seqE<|blockE<|sR<|pu5<|sM b0 1 3 (.slice a2 n2 k2)<|pu1<|zS<|pu3<|nT<|cD ((n2:Int)>0) (fun j2=>seqE<|drawF b0 [4,8] (fn) [0,1,2,3,5,6,4,7,8] fun _ m2=>wV 3<|(by have o2:=D0.part (lo:=1) (hi:=n2) om om;refine wY (.slice (partAddr a2 k2 1 2) (n2-1) (k2-1)) rfl (fun w _=>Y_sl (a:=a2) (len:=n2) (cap:=k2) (some 1) none 1 n2 runUnderlying125 sizeOf61 ⟨by decide,rfl⟩ rfl om om)<|wV 2<|wO rfl<|sApp (nb:=16) (Sat.nilc m2) (OwnT.nil (enc:=encRef) (E:=61) (sz:=2) fR) 0 (o2.rdAt 5 rfl) underlying125 (i:=Tryz.t61) kr fR fun o0 p0 y0 _ s2 t2=>nA<|wV 1<|wO rfl<|tWk t2 2 rfl 3 (.slice o0 (0+(n2-1)) p0) fun _ z0=>nA<|wN<|tN<|sR<|pu1<|sIO D0 0 0 fun f0 _ _ u2 v2 _=>sMA z0 (v2.up 5 rfl) 0 [I f0.job,I f0.task]<|sTk z0 1 rfl [I f0.job,I f0.task] fun _ b1=>pu1<|zB<|tR<|tK<|retD b1 1 [I f0.job,I f0.task] (.bool true) ?_;have w2:=((b1.picks [4,4,4]).drops [4,4]);have x2:Sat W _ (([(p, .cells #[I S.cap, .slice a0 n0 k0, .slice a1 n1 k1, .slice o0 (0+(n2-1)) p0, .slice a3 n3 k3] 168 (0,0))]++(c0++(c1++(y0++c3))))::H::F):=Sat.perm (show Sat W _ ([(p, .cells #[I S.cap, .slice a0 n0 k0, .slice a1 n1 k1, .slice o0 (0+(n2-1)) p0, .slice a3 n3 k3] 168 (0,0))]::c0::c1::y0::c3::H::F) from w2) (by simp);have G0:=tail_part L0;have A0:=s2;rw [G0] at A0;have F0:popB S.bs=some (f0,[l0,l1,l2.tail,l3]):=(by rw [hb,popB_nil om,popB_nil om,popB_at u2];rfl);exact .inr ⟨_,_,_,F0,rfl,⟨_,_,_,_,_,_,_,_,_,_,_,_,_,_,_,_,_,_,_,_,rfl,B0,C0,A0,E0,rfl,H0,(by have I0:=List.length_tail (l:=l2);unfold totB;simp only [List.map_cons,List.map_nil,List.sum_cons,List.sum_nil];omega)⟩,x2⟩)) fun j2=>?_
 refine skipE<|bN<|tN<|rE<|pu3<|nT<|roundS<|seqE<|sR<|pu6<|nT<|cTt<|kT<|seqE<|blockE<|sR<|pu5<|sM b0 1 4 (.slice a3 n3 k3)<|pu1<|zS<|pu3<|nT<|CD ((n3:Int)>0) (fun y2=>skipE<|bN<|tN<|rE<|pu3<|nT<|roundS<|seqE<|sR<|pu6<|nT<|cFf<|exitE<|xB<|tN<|sR<|pu1<|sTk b0 0 rfl [I 0,I 0] fun _ d1=>pu1<|zE<|retD d1 0 [I 0,I 0] (.bool false)<|(by have z2:=(d1.dropAt 0 rfl);have b3:Sat W _ (([(p, .cells #[I S.cap, .slice a0 n0 k0, .slice a1 n1 k1, .slice a2 n2 k2, .slice a3 n3 k3] 168 (0,0))]++(c0++(c1++(c2++c3))))::H::F):=Sat.perm (show Sat W _ ([(p, .cells #[I S.cap, .slice a0 n0 k0, .slice a1 n1 k1, .slice a2 n2 k2, .slice a3 n3 k3] 168 (0,0))]::c0::c1::c2::c3::H::F) from z2) (by simp);exact .inl ⟨by rw [hb,popB_nil om,popB_nil om,popB_nil om,popB_nil om];rfl,rfl,b3⟩)) fun y2=>seqE<|drawF b0 [4,8] (fn) [0,1,2,3,5,6,4,7,8] fun _ d3=>wV 3 ?_
 have e3:=E0.part (lo:=1) (hi:=n3) om om
 refine wY (.slice (partAddr a3 k3 1 2) (n3-1) (k3-1)) rfl (fun w _=>Y_sl (a:=a3) (len:=n3) (cap:=k3) (some 1) none 1 n3 runUnderlying125 sizeOf61 ⟨by decide,rfl⟩ rfl om om)<|wV 2<|wO rfl<|sApp (nb:=16) (Sat.nilc d3) (OwnT.nil (enc:=encRef) (E:=61) (sz:=2) fR) 0 (e3.rdAt 6 rfl) underlying125 (i:=Tryz.t61) kr fR fun q0 r0 e1 _ h3 i3=>nA<|wV 1<|wO rfl<|tWk i3 2 rfl 4 (.slice q0 (0+(n3-1)) r0) fun _ f1=>nA<|wN<|tN<|sR<|pu1<|sIO E0 0 0 fun g0 _ _ j3 m3 _=>sMA f1 (m3.up 6 rfl) 0 [I g0.job,I g0.task]<|sTk f1 1 rfl [I g0.job,I g0.task] fun _ g1=>pu1<|zB<|tR<|tK<|retD g1 1 [I g0.job,I g0.task] (.bool true) ?_
 have o3:=((g1.picks [5,5,5,5]).drops [5,5])
 have q3:Sat W _ (([(p, .cells #[I S.cap, .slice a0 n0 k0, .slice a1 n1 k1, .slice a2 n2 k2, .slice q0 (0+(n3-1)) r0] 168 (0,0))]++(c0++(c1++(c2++e1))))::H::F):=Sat.perm (show Sat W _ ([(p, .cells #[I S.cap, .slice a0 n0 k0, .slice a1 n1 k1, .slice a2 n2 k2, .slice q0 (0+(n3-1)) r0] 168 (0,0))]::c0::c1::c2::e1::H::F) from o3) (by simp)
 have G0:=tail_part M0
 have A0:=h3;rw [G0] at A0
 have F0:popB S.bs=some (g0,[l0,l1,l2,l3.tail]):=by rw [hb,popB_nil om,popB_nil om,popB_nil om,popB_at j3];rfl
 exact .inr ⟨_,_,_,F0,rfl,⟨_,_,_,_,_,_,_,_,_,_,_,_,_,_,_,_,_,_,_,_,rfl,B0,C0,D0,A0,rfl,H0,(by have I0:=List.length_tail (l:=l3);unfold totB;simp only [List.map_cons,List.map_nil,List.sum_cons,List.sum_nil];omega)⟩,q3⟩
theorem iq_remove {p:Nat} {S:QS} {M:Chunk} (hR:InjR p S M) (j:Int) (hS:Sat W w (M::H::F)):
  Calls prog 74 #[Pt p 0,I j] w fun e w'=>∃(M':Chunk) (v:Int),e= .returned (I v)/\InjR p ({S with bs:=S.bs.map (without j)}) M'/\Sat W w' (M'::H::F):=by
 obtain ⟨a0,n0,k0,l0,c0,a1,n1,k1,l1,c1,a2,n2,k2,l2,c2,a3,n3,k3,l3,c3,rfl,A0,B0,C0,D0,hb,I0,R0⟩:=hR
 have hS:Sat W _ ([(p, .cells #[I S.cap, .slice a0 n0 k0, .slice a1 n1 k1, .slice a2 n2 k2, .slice a3 n3 k3] 168 (0,0))]::c0::c1::c2::c3::H::F):=Sat.perm hS (by simp)
 have ht:totB S.bs=n0+n1+n2+n3:=by rw [hb];unfold totB;simp [A0.len,B0.len,C0.len,D0.len];omega
 have N0:=A0.ll;have O0:=B0.ll;have P0:=C0.ll;have Q0:=D0.ll
 refine callsA 34 func74 rfl<|sR<|pu1<|zS<|pu1 ?_
 have b1:Sat W _ (([(p, .cells #[I S.cap, .slice a0 n0 k0, .slice a1 n1 k1, .slice a2 n2 k2, .slice a3 n3 k3] 168 (0,0))]++(c0++(c1++(c2++c3))))::H::F):=Sat.perm (show Sat W _ ([(p, .cells #[I S.cap, .slice a0 n0 k0, .slice a1 n1 k1, .slice a2 n2 k2, .slice a3 n3 k3] 168 (0,0))]::c0::c1::c2::c3::H::F) from hS) (by simp)
 have i2:totB [l0,l1,l2,l3]=((n0+n1+n2+n3:Nat):Int):=by unfold totB;simp only [List.map_cons,List.map_nil,List.sum_cons,List.sum_nil];have h0:=(A0).len;have h1:=(B0).len;have h2:=(C0).len;have h3:=(D0).len;omega
 refine cZ (iq_len (S:=⟨S.cap,[l0,l1,l2,l3]⟩) ⟨_,_,_,_,_,_,_,_,_,_,_,_,_,_,_,_,_,_,_,_,rfl,A0,B0,C0,D0,rfl,I0,(by dsimp only;omega)⟩ b1.flat1) ?_
 rintro _ _ ⟨rfl,d1⟩
 have e1:Sat W _ ([(p, .cells #[I S.cap, .slice a0 n0 k0, .slice a1 n1 k1, .slice a2 n2 k2, .slice a3 n3 k3] 168 (0,0))]::c0::c1::c2::c3::H::F):=Sat.perm (Sat.unflat1 d1) (by simp [Value.cells])
 refine pu1<|zQ<|pu1<|nT<|blockE<|loopN 5<|roundS<|seqE<|sR<|pu6<|nT<|cTt<|kT<|seqE<|blockE<|drawF e1 [9,13] (fb 7 0 1 1<|fn) [0,1,2,3,4,5,6,8,10,11,7,9,12,13] fun _ f1=>wV 10<|wL 0<|wO rfl<|cZ (r23_without a0 n0 k0 l0 j (RdT.flat (A0.rdAt 1 (by rfl))) (od) f1.flat) ?_
 rintro _ _ ⟨g0,b0,i0,s0,rfl,w0,g1⟩
 have i1:=g1.unflat1
 have E0:=w0.ll
 have:=without_len j l0
 refine nA<|wV 1<|wO rfl<|tWk i1 1 rfl 1 (.slice g0 b0 i0) fun _ j1=>nA<|wN<|bN<|tN<|rE<|pu3<|nT<|roundS<|seqE<|sR<|pu6<|nT<|cTt<|kT<|seqE<|blockE<|drawF j1 [9,13] (fb 7 1 2 1<|fn) [0,1,2,3,4,5,6,8,10,11,7,9,12,13] fun _ m1=>wV 10<|wL 0<|wO rfl<|cZ (r23_without a1 n1 k1 l1 j (RdT.flat (B0.rdAt 3 (by rfl))) (od) m1.flat) ?_
 rintro _ _ ⟨j0,d0,m0,t0,rfl,x0,o1⟩
 have q1:=o1.unflat1
 have F0:=x0.ll
 have:=without_len j l1
 refine nA<|wV 1<|wO rfl<|tWk q1 2 rfl 2 (.slice j0 d0 m0) fun _ r1=>nA<|wN<|bN<|tN<|rE<|pu3<|nT<|roundS<|seqE<|sR<|pu6<|nT<|cTt<|kT<|seqE<|blockE<|drawF r1 [9,13] (fb 7 2 3 1<|fn) [0,1,2,3,4,5,6,8,10,11,7,9,12,13] fun _ s1=>wV 10<|wL 0<|wO rfl<|cZ (r23_without a2 n2 k2 l2 j (RdT.flat (C0.rdAt 5 (by rfl))) (od) s1.flat) ?_
 rintro _ _ ⟨o0,e0,p0,u0,rfl,y0,t1⟩
 have u1:=t1.unflat1
 have G0:=y0.ll
 have:=without_len j l2
 refine nA<|wV 1<|wO rfl<|tWk u1 3 rfl 3 (.slice o0 e0 p0) fun _ v1=>nA<|wN<|bN<|tN<|rE<|pu3<|nT<|roundS<|seqE<|sR<|pu6<|nT<|cTt<|kT<|seqE<|blockE<|drawF v1 [9,13] (fb 7 3 4 1<|fn) [0,1,2,3,4,5,6,8,10,11,7,9,12,13] fun _ w1=>wV 10<|wL 0<|wO rfl<|cZ (r23_without a3 n3 k3 l3 j (RdT.flat (D0.rdAt 7 (by rfl))) (od) w1.flat) ?_
 rintro _ _ ⟨q0,f0,r0,v0,rfl,z0,x1⟩
 have y1:=x1.unflat1
 have H0:=z0.ll
 have:=without_len j l3
 refine nA<|wV 1<|wO rfl<|tWk y1 4 rfl 4 (.slice q0 f0 r0) fun _ z1=>nA<|wN<|bN<|tN<|rE<|pu3<|nT<|roundS<|seqE<|sR<|pu6<|nT<|cFf<|exitE<|xB<|tN<|sR<|pu2 ?_
 have b2:=((z1.picks [1,2,3,4]).drops [5,5,5,5])
 have d2:Sat W _ (([(p, .cells #[I S.cap, .slice g0 b0 i0, .slice j0 d0 m0, .slice o0 e0 p0, .slice q0 f0 r0] 168 (0,0))]++(s0++(t0++(u0++v0))))::H::F):=Sat.perm (show Sat W _ ([(p, .cells #[I S.cap, .slice g0 b0 i0, .slice j0 d0 m0, .slice o0 e0 p0, .slice q0 f0 r0] 168 (0,0))]::s0::t0::u0::v0::H::F) from b2) (by simp)
 have w2:totB [(without j l0),(without j l1),(without j l2),(without j l3)]=((b0+d0+e0+f0:Nat):Int):=by unfold totB;simp only [List.map_cons,List.map_nil,List.sum_cons,List.sum_nil];have h0:=(OwnT.nil (enc:=encRef) (E:=61) (sz:=2) fR).len;have h1:=(OwnT.nil (enc:=encRef) (E:=61) (sz:=2) fR).len;have h2:=(OwnT.nil (enc:=encRef) (E:=61) (sz:=2) fR).len;have h3:=(OwnT.nil (enc:=encRef) (E:=61) (sz:=2) fR).len;omega
 refine cZ (iq_len (S:=⟨S.cap,[(without j l0),(without j l1),(without j l2),(without j l3)]⟩) ⟨_,_,_,_,_,_,_,_,_,_,_,_,_,_,_,_,_,_,_,_,rfl,w0,x0,y0,z0,rfl,I0,(by dsimp only;omega)⟩ d2.flat1) ?_
 rintro _ _ ⟨rfl,e2⟩
 have f2:Sat W _ ([(p, .cells #[I S.cap, .slice g0 b0 i0, .slice j0 d0 m0, .slice o0 e0 p0, .slice q0 f0 r0] 168 (0,0))]::s0::t0::u0::v0::H::F):=Sat.perm (Sat.unflat1 e2) (by simp [Value.cells])
 exact sSub (totB [l0,l1,l2,l3]) (totB [(without j l0),(without j l1),(without j l2),(without j l3)])<|pu1<|zE<|retT [I ((totB [l0,l1,l2,l3])-(totB [(without j l0),(without j l1),(without j l2),(without j l3)]))]<|(by have g2:Sat W _ (([(p, .cells #[I S.cap, .slice g0 b0 i0, .slice j0 d0 m0, .slice o0 e0 p0, .slice q0 f0 r0] 168 (0,0))]++(s0++(t0++(u0++v0))))::H::F):=Sat.perm (show Sat W _ ([(p, .cells #[I S.cap, .slice g0 b0 i0, .slice j0 d0 m0, .slice o0 e0 p0, .slice q0 f0 r0] 168 (0,0))]::s0::t0::u0::v0::H::F) from f2) (by simp);exact ⟨_,_,rfl,by rw [hb];exact ⟨_,_,_,_,_,_,_,_,_,_,_,_,_,_,_,_,_,_,_,_,rfl,w0,x0,y0,z0,rfl,I0,(by unfold totB;simp only [List.map_cons,List.map_nil,List.sum_cons,List.sum_nil];omega)⟩,g2⟩)
theorem r24_new {cs:List Chunk} (c:Int) (hc:1<=c/\c<=4096) (hS:Sat W w cs):
  Calls prog 49 #[I c] w fun e w'=>∃(p:Nat) (M:Chunk),e= .returned (.tuple #[Pt p 0,I 0])/\InjR p ⟨c,[[],[],[],[]]⟩ M/\Sat W w' (M::cs):=by
 exact callsK 13 func49 rfl<|jCO 12 rfl<|sD 6 (c<1) (fun a0=>jOR 14 rfl<|retT [.pointer none,I 2]<|(by omega)) fun a0=>jOC 5 rfl<|cD (c>4096) (fun b0=>jCR 8 rfl<|retT [.pointer none,I 2]<|(by omega)) fun b0=>jCO 6 rfl<|sBx hS [I c,nS,nS,nS,nS] fun c0 _ d0=>jOR 5 rfl<|retT [Pt c0 0,I 0]<|⟨_,_,rfl,⟨_,_,_,[],[],_,_,_,[],[],_,_,_,[],[],_,_,_,[],[],rfl,OwnT.nil fR,OwnT.nil fR,OwnT.nil fR,OwnT.nil fR,rfl,hc,by unfold totB;simp;omega⟩,d0⟩
end Go.Proofs.YtkadmghedmodbaaGreat

namespace Go.Proofs.YtkadmghedmodbaaGreat
open Go Go.E Go.Proofs.Tryz
set_option linter.all false
set_option maxRecDepth 100000
set_option maxHeartbeats 2000000
variable {W w:World} {H:Chunk} {F:List Chunk}
structure FJob where
  added:Bool
  running:Bool
  band:Int
  tasks:Sl Task
  board:Option Addr
def encFJob (x:FJob):List Value:=[.bool x.added, .bool x.running, .int .i64 x.band, .slice x.tasks.a x.tasks.n x.tasks.k, .pointer x.board]
structure FJobV where
  added:Bool
  running:Bool
  band:Int
  tasks:List TaskV
  board:Option Addr
  deriving DecidableEq
def FJob.v (x:FJob):FJobV:=⟨x.added,x.running,x.band,x.tasks.l.map Task.v,x.board⟩
structure FJob.Ok (cs:List Chunk) (q:FJob):Prop where
  tasks:RdT encTask 9 cs q.tasks.a q.tasks.n q.tasks.k q.tasks.l
  tasksD:∀z∈q.tasks.l,Task.Ok cs z
theorem FJob.Ok.of_mem {cs cs':List Chunk} {x:FJob} (h:FJob.Ok cs x) (hm:∀p∈cs.flatten,p∈cs'.flatten):FJob.Ok cs' x:=⟨h.tasks.of_mem hm,fun y hy=>(h.tasksD y hy).of_mem hm⟩
def encP (x:Nat):List Value:=[.pointer (some ⟨x,0,none⟩)]
def JobM (x:FJob) (s:JS) (c:Chunk):Prop:=
  (s=JS.zero/\x=⟨false,false,0,⟨none,0,0,[]⟩,none⟩/\c=[])\/
  (s.added=true/\∃(ta:Option Addr) (tn tk:Nat) (tl:List Task) (b:Nat) (T M:Chunk),x=⟨true,s.running,s.band,⟨ta,tn,tk,tl⟩,some ⟨b,0,none⟩⟩/\c=T++M/\RdT encTask 9 [T] ta tn tk tl/\(∀z∈tl,Task.Ok [T] z)/\tl.map Task.v=s.tasks/\RefR b s.B M)
theorem JobM.open {x:FJob} {s:JS} {c:Chunk} (h:JobM x s c) (ha:s.added=true):∃(ta:Option Addr) (tn tk:Nat) (tl:List Task) (b:Nat) (T M:Chunk),x=⟨true,s.running,s.band,⟨ta,tn,tk,tl⟩,some ⟨b,0,none⟩⟩/\c=T++M/\RdT encTask 9 [T] ta tn tk tl/\(∀z∈tl,Task.Ok [T] z)/\tl.map Task.v=s.tasks/\RefR b s.B M:=by
  rcases h with ⟨rfl,_⟩|h
  · cases ha
  · exact h.2
theorem JobM.mk {s:JS} {ta:Option Addr} {tn tk:Nat} {tl:List Task} {b:Nat} {T M:Chunk} (ha:s.added=true) (hT:RdT encTask 9 [T] ta tn tk tl) (hD:∀z∈tl,Task.Ok [T] z) (hV:tl.map Task.v=s.tasks) (hB:RefR b s.B M):JobM ⟨true,s.running,s.band,⟨ta,tn,tk,tl⟩,some ⟨b,0,none⟩⟩ s (T++M):=
  .inr ⟨ha,_,_,_,_,_,_,_,rfl,rfl,hT,hD,hV,hB⟩
def preF (c:Cfg) (wa:Option Addr) (wn wk:Nat) (aa:Option Addr) (an ak:Nat) (da:Option Addr) (dn dk:Nat) (q:Nat):List Value:=[.int .i64 c.workers, .int .i64 c.tileW, .int .i64 c.tileH, .int .i64 c.arena, .int .i64 c.deque, .int .i64 c.tasks, .int .i64 c.cells, .int .i64 c.jobs, .slice wa wn wk, .slice aa an ak, .slice da dn dk, .pointer (some ⟨q,0,none⟩)]
def FarmR (p:Nat) (F:FS) (M:Chunk):Prop:=∃(wa aa da:Option Addr) (wn wk an ak dn dk q:Nat) (xs:List FJob) (ap dp:List Nat) (Wc Ac Dc Qc:Chunk) (acs dcs jcs:List Chunk),
  M=Tri p 101 (preF F.cfg wa wn wk aa an ak da dn dk q) (xs.flatMap encFJob) (encStt F.st)++(Wc++(Ac++(Dc++(acs.flatten++(dcs.flatten++(Qc++jcs.flatten))))))/\
  OwnT encWkr 129 7 wa wn wk F.ws Wc/\OwnT encP 102 1 aa an ak ap Ac/\OwnT encP 105 1 da dn dk dp Dc/\Obs ArR ap F.ar acs/\Obs DqR dp F.dq dcs/\InjR q F.q Qc/\Obs JobM xs F.jobs jcs/\xs.length=64
theorem JobM.fields {x:FJob} {s:JS} {c:Chunk} (h:JobM x s c):x.added=s.added/\x.running=s.running/\x.band=s.band/\x.tasks.n=s.tasks.length:=by
  rcases h with ⟨rfl,rfl,_⟩|⟨ha,ta,tn,tk,tl,b,T,M,rfl,_,hT,_,hV,_⟩
  · exact ⟨rfl,rfl,rfl,rfl⟩
  · exact ⟨ha.symm,rfl,rfl,(by have h1:=congrArg List.length hV;rw [List.length_map] at h1;rw [<-h1];exact hT.len.symm)⟩
theorem f_idle {p q:Nat} {c:Cfg} {wa aa da:Option Addr} {wn wk an ak dn dk:Nat} {mid post:List Value} {ws:List Wkr} {ap:List Nat} {ar:List AS} {Wc Ac:Chunk} {acs F0:List Chunk} (hOw:OwnT encWkr 129 7 wa wn wk ws Wc) (hOa:OwnT encP 102 1 aa an ak ap Ac) (hAs:Obs ArR ap ar acs) (x ph:Int) (hx:0<=x/\x<ws.length) (hal_:ar.length=ws.length) (hS:Sat W w ((Tri p 101 (preF c wa wn wk aa an ak da dn dk q) mid post)::Wc::Ac::acs.flatten::F0)):
  Calls prog 70 #[Pt p 0,I x,I ph] w fun e w'=>∃Wc':Chunk,e= .returned (.tuple #[])/\OwnT encWkr 129 7 wa wn wk (ws.set x.toNat ⟨ph,0,0,0,0,0,(ar.getD x.toNat default).high⟩) Wc'/\Sat W w' ((Tri p 101 (preF c wa wn wk aa an ak da dn dk q) mid post)::Wc'::Ac::acs.flatten::F0):=by
 have C0:=hOw.ll;have A0:=hOa.ll;have s0:=hAs.1
 refine callsK 22 func70 rfl ?_
 obtain ⟨d0,e0,f0,g0,h0,i0,z0⟩:=OwnT.elem hOa x
 obtain ⟨j0,a1,b1,k0,c1,l0,m0⟩:=OwnT.elem hOw x
 refine drawE [13,16] [(3,⟨p,8,none⟩, .slice wa wn wk),(9,⟨p,9,none⟩, .slice aa an ak),(12,⟨e0,f0+(x).toNat*1,none⟩,Pt d0 0)] [(true,[0,1,2,4,5,6,7,8,10]),(true,[3]),(true,[9]),(true,[11]),(true,[12]),(false,[13]),(true,[14]),(true,[15]),(false,[16])] rfl kr ⟨.inr (cell_up hS 0 rfl (k:=8) tri_pre rfl), .inr (cell_up hS 0 rfl (k:=9) tri_pre rfl), .inr ((h0.up 2 rfl).cell hS (k:=0) rfl),trivial⟩ ?_
 have n0:=hS.drew
 refine wU [0,1,2,4,5,6,7,8,10]<|wLd (.slice wa wn wk) 0 isAgg92<|wLd (.slice aa an ak) 1 isAgg93<|wI i0<|wLd (Pt d0 0) 2 isAgg102<|wO rfl ?_
 obtain ⟨b0,o0,p0,c0,q0⟩:=Obs.get hAs g0
 have r0:=(n0.pick 3 rfl)
 refine cZ (ar_high q0 (Sat.flat1 (Sat.openN (A:=[]) x.toNat c0 r0))) ?_
 rintro _ _ ⟨rfl,t0⟩
 have u0:=t0.unflat1
 have v0:=(u0.picks [1,1])
 have a0:=Sat.shutN (d:=o0) (A:=[]) x.toNat c0 v0
 rw [set_same c0] at a0
 exact nilO ⟨⟨.inr (cell_up a0 1 rfl (k:=8) tri_pre rfl), .inr (cell_up a0 1 rfl (k:=9) tri_pre rfl),dI,trivial⟩,(wU [14]<|wI l0<|wO rfl<|sStF a0 hOw m0 2 (x).toNat 0 j0 (⟨ph,0,0,0,0,0,(b0).high⟩:Wkr) k0 (.agg #[I ph,I 0,I 0,I 0,I 0,I 0,I ((b0).high)]) [I ph,I 0,I 0,I 0,I 0,I 0,I ((b0).high)] sizeOf129 fun _ _ w0 x0=>nilO ⟨dA,(wN<|ret0n rfl<|⟨_,rfl,by rw [getD_some p0];exact w0,(x0.picks [3,3,3])⟩)⟩)⟩
theorem f_take {p:Nat} {F:FS} {M:Chunk} {F0:List Chunk} (hR:FarmR p F M) {j:JS} {K:Int} (x:Int) (r:Ref) (hx:0<=x/\x<F.ws.length) (hal_:F.ar.length=F.ws.length) (hr:0<=r.job/\r.job<64) (hj:F.jobs[r.job.toNat]?=some j) (ha:j.added=true) (hBW:BWf j.B K) (hst:0<=F.st.starts/\F.st.starts<4611686018427387904) (hS:Sat W w (M::H::F0)):
  Calls prog 137 #[Pt p 0,I x, .agg #[I r.job,I r.task]] w fun e w'=>∃M':Chunk,e= .returned (.tuple #[])/\FarmR p (takeF F x r) M'/\Sat W w' (M'::H::F0):=by
 obtain ⟨wa,aa,da,wn,wk,an,ak,dn,dk,q,xs,ap,dp,Wc,Ac,Dc,Qc,B0,C0,J0,rfl,E0,D0,M0,K0,N0,hQ,L0,I0⟩:=hR
 have hS:Sat W _ ((Tri p 101 (preF F.cfg wa wn wk aa an ak da dn dk q) (xs.flatMap encFJob) (encStt F.st))::Wc::Ac::Dc::B0.flatten::C0.flatten::Qc::J0.flatten::H::F0):=Sat.perm hS (by simp [Value.cells])
 have W0:=E0.ll;have S0:=D0.ll;have U0:=M0.ll;have O0:=K0.1;have P0:=N0.1;have Q0:=L0.1
 obtain ⟨f2,h0⟩:=at_some I0 (k:=(r.job.toNat)) om
 obtain ⟨a0,g2,l0,m0,t0⟩:=Obs.get L0 h0
 obtain rfl:a0=j:=Option.some.inj (l0.symm.trans hj)
 obtain ⟨h2,i2,j2,k2,o0,e0,u0,rfl,rfl,i0,v0,p0,w0⟩:=t0.open ha
 have x0:=(hS.pick 7 rfl)
 have y0:=Sat.openN (A:=[]) (r.job.toNat) m0 x0
 have z0:Sat W _ (e0::u0::(J0.eraseIdx (r.job.toNat)).flatten::(Tri p 101 (preF F.cfg wa wn wk aa an ak da dn dk q) (xs.flatMap encFJob) (encStt F.st))::Wc::Ac::Dc::B0.flatten::C0.flatten::Qc::H::F0):=Sat.perm y0 (by simp [Value.cells])
 have H0:=i0.ll;have A0:=congrArg List.length p0;rw [List.length_map] at A0
 refine callsK 48 func137 rfl<|jCO 2 rfl<|sBx z0 [I r.job,I r.task] fun c0 _ f0=>jOC 3 rfl<|drawE [10] [(2,⟨c0,0,none⟩,I r.job),(7,⟨p,12+(r.job.toNat)*5+4,none⟩,Pt o0 0),(9,⟨c0,1,none⟩,I r.task)] [(true,[0,1,3,4,8]),(true,[2]),(true,[5]),(true,[6]),(true,[7]),(true,[9]),(false,[10]),(true,[11]),(true,[12]),(true,[13]),(true,[14,15])] rfl kr ⟨cI f0 0, .inr (cell_up f0 4 rfl (k:=4) (tri_el (sz:=5) (n0:=12) fR h0) rfl),cI f0 0,trivial⟩ ?_
 have a1:=f0.drew
 refine wU [0,1,3,4,8]<|wLd (I r.job) 0 isAgg3<|wY (.pointer (some ⟨p,12+(r.job.toNat)*5,none⟩)) rfl (fun w _=>Y_idxA (b:=p) (off:=12) r.job (r.job.toNat) runUnderlying99 sizeOf98)<|wU [6]<|wLd (Pt o0 0) 1 isAgg96<|wLd (I r.task) 2 isAgg3<|wO rfl ?_
 have b1:=(a1.pick 2 rfl)
 refine cZ (r_start w0 hBW r.task b1.flat1) ?_
 rintro _ _ ⟨j0,rfl,c1,d1⟩
 have b0:=d1.unflat1
 refine nilO ⟨⟨cI b0 1,dI,dI,trivial⟩,?_⟩
 refine wU [11]<|wU [12]<|wU [13]<|wU [14,15]<|wN<|jXC 2 rfl ?_
 obtain ⟨q0,e1,f1,g1,h1,i1,n2⟩:=OwnT.elem D0 x
 obtain ⟨j1,o2,q2,k1,r2,l1,m1⟩:=OwnT.elem E0 x
 refine drawE [14,17] [(3,⟨p,8,none⟩, .slice wa wn wk),(5,⟨c0,0,none⟩,I r.job),(5,⟨c0,1,none⟩,I r.task),(10,⟨p,9,none⟩, .slice aa an ak),(13,⟨e1,f1+(x).toNat*1,none⟩,Pt q0 0)] [(true,[0,1,2,4,6,7,8,9,11]),(true,[3]),(true,[5]),(true,[10]),(true,[12]),(true,[13]),(false,[14]),(true,[15]),(true,[16]),(false,[17])] rfl kr ⟨.inr (cell_up b0 4 rfl (k:=8) tri_pre rfl),cI b0 1,cI b0 1, .inr (cell_up b0 4 rfl (k:=9) tri_pre rfl), .inr ((h1.up 6 rfl).cell b0 (k:=0) rfl),trivial⟩ ?_
 have n1:=b0.drew
 refine wU [0,1,2,4,6,7,8,9,11]<|wLd (.slice wa wn wk) 0 isAgg92<|wY (.agg #[I r.job,I r.task]) rfl (fun w hF=>Y_loadF rfl (isAgg61 w) (sizeOf61 w) kr rfl ⟨hF 1 _ _ rfl,hF 2 _ _ rfl,trivial⟩)<|wLd (.slice aa an ak) 3 isAgg93<|wI i1<|wLd (Pt q0 0) 4 isAgg102<|wO rfl ?_
 obtain ⟨g0,o1,q1,k0,r1⟩:=Obs.get K0 g1
 have s1:=(n1.pick 8 rfl)
 refine cZ (ar_high r1 (Sat.flat1 (Sat.openN (A:=[]) x.toNat k0 s1))) ?_
 rintro _ _ ⟨rfl,u1⟩
 have v1:=u1.unflat1
 have w1:=(v1.picks [1,1])
 have d0:=Sat.shutN (d:=o1) (A:=[]) x.toNat k0 w1
 rw [set_same k0] at d0
 refine nilO ⟨⟨.inr (cell_up d0 5 rfl (k:=8) tri_pre rfl),cI d0 2,cI d0 2, .inr (cell_up d0 5 rfl (k:=9) tri_pre rfl),dI,trivial⟩,?_⟩
 refine wU [15]<|wI l1<|wO rfl<|sStF d0 E0 m1 6 (x).toNat 0 j1 (⟨1,r.job,r.task,(startB a0.B r.task).2.1,0,0,(g0).high⟩:Wkr) k1 (.agg #[I 1,I r.job,I r.task,I ((startB a0.B r.task).2.1),I 0,I 0,I ((g0).high)]) [I 1,I r.job,I r.task,I ((startB a0.B r.task).2.1),I 0,I 0,I ((g0).high)] sizeOf129 fun _ r0 x1 s0=>nilO ⟨dA,?_⟩
 refine wN<|jXO 6 rfl<|sMp s0 (ptr_up 5 rfl (tri_post (k:=332) (tri_len (sz:=5) (m:=12) fR I0))) 0 (I F.st.starts)<|sAdd F.st.starts 1<|pu3<|sTpost s0 5 332 0 rfl (I (F.st.starts+1)) [I (F.st.starts+1)] [I (F.st.starts+1),I F.st.commits,I F.st.drops,I F.st.crashes,I F.st.steals,I F.st.helps,I F.st.spills,I F.st.queued,I F.st.held,I F.st.cells] (tri_len (sz:=5) (m:=12) fR I0) sizeOf3 fun _ y1=>nilO<|ret0n rfl ?_
 have z1:=(y1.picks [4,2,4])
 have a2:Sat W _ ((e0++j0)::(J0.eraseIdx (r.job.toNat)).flatten::B0.flatten::[(c0, .cells #[I r.job,I r.task] 61 (0,0))]::(Tri p 101 (preF F.cfg wa wn wk aa an ak da dn dk q) (xs.flatMap encFJob) [I (F.st.starts+1),I F.st.commits,I F.st.drops,I F.st.crashes,I F.st.steals,I F.st.helps,I F.st.spills,I F.st.queued,I F.st.held,I F.st.cells])::r0::Ac::Dc::C0.flatten::Qc::H::F0):=Sat.perm (show Sat W _ (e0::j0::(J0.eraseIdx (r.job.toNat)).flatten::B0.flatten::[(c0, .cells #[I r.job,I r.task] 61 (0,0))]::(Tri p 101 (preF F.cfg wa wn wk aa an ak da dn dk q) (xs.flatMap encFJob) [I (F.st.starts+1),I F.st.commits,I F.st.drops,I F.st.crashes,I F.st.steals,I F.st.helps,I F.st.spills,I F.st.queued,I F.st.held,I F.st.cells])::r0::Ac::Dc::C0.flatten::Qc::H::F0) from z1) (by simp [Value.cells])
 have b2:=Sat.shutN (d:=e0++j0) (A:=[]) (r.job.toNat) m0 a2
 have c2:=Obs.set L0 h0 (JobM.mk (s:={a0 with B:=(startB a0.B r.task).1}) ha i0 v0 p0 c1)
 have d2:=((b2.picks [8,8,3,8,8,8,8]).dropAt 8 rfl)
 have e2:=(d2.merge8)
 have he:takeF F x r=(⟨F.cfg,(F.ws.set ((x).toNat) (⟨1,r.job,r.task,(startB a0.B r.task).2.1,0,0,(g0).high⟩:Wkr)),F.ar,F.dq,F.q,(F.jobs.set (r.job.toNat) ({a0 with B:=(startB a0.B r.task).1})),(⟨(F.st.starts+1),F.st.commits,F.st.drops,F.st.crashes,F.st.steals,F.st.helps,F.st.spills,F.st.queued,F.st.held,F.st.cells⟩:Stt)⟩:FS):=by unfold takeF jobAt;rw [getD_some l0,getD_some q1]
 exact ⟨_,rfl,by rw [he];exact ⟨_,_,_,_,_,_,_,_,_,_,_,_,_,_,_,_,_,_,_,_,rfl,x1,D0,M0,K0,N0,hQ,c2,I0⟩,e2⟩
theorem f_zero {p q:Nat} {c:Cfg} {wa aa da:Option Addr} {wn wk an ak dn dk:Nat} {mid post:List Value} {F0:List Chunk} (h0:0<wn/\wn<=64) (hS:Sat W w ((Tri p 101 (preF c wa wn wk aa an ak da dn dk q) mid post)::F0)):
  Calls prog 56 #[Pt p 0] w fun e w'=>e= .returned (.bool false)/\Sat W w' ((Tri p 101 (preF c wa wn wk aa an ak da dn dk q) mid post)::F0):=by
 exact callsK 13 func56 rfl<|jCO 13 rfl<|gY<|sMp hS (ptr_up 0 rfl tri_pre) 8 (.slice wa wn wk)<|jOR 7 rfl<|retT [.bool (((wn:Int):Int)==0)]<|⟨rB (by simp;omega),hS⟩
theorem f_choice {p q:Nat} {c:Cfg} {wa aa da:Option Addr} {wn wk an ak dn dk:Nat} {mid post:List Value} {F0:List Chunk} (x i:Int) (n:Nat) (hn:n=wn) (h0:0<wn/\wn<=64) (hi:0<=i/\i<=64) (hS:Sat W w ((Tri p 101 (preF c wa wn wk aa an ak da dn dk q) mid post)::F0)):
  Calls prog 83 #[Pt p 0,I x,I i] w fun e w'=>e= .returned (I (choiceI n x i))/\Sat W w' ((Tri p 101 (preF c wa wn wk aa an ak da dn dk q) mid post)::F0):=by
 have b0:-(wn:Int)<x.tmod wn:=Int.lt_tmod_of_pos _ om;have c0:x.tmod wn<(wn:Int):=Int.tmod_lt_of_pos _ om
 exact callsK 27 func83 rfl<|jCO 10 rfl<|sMp hS (ptr_up 0 rfl tri_pre) 8 (.slice wa wn wk)<|jOO 8 rfl<|sRem x (wn:Int)<|jOC 10 rfl<|CD ((x.tmod (wn:Int))<0) (fun a0=>jCO 6 rfl<|sAdd (x.tmod (wn:Int)) i<|pu1<|sRem ((x.tmod (wn:Int))+i) (wn:Int)<|jOR 4 rfl<|retT [I (((x.tmod (wn:Int))+i).tmod (wn:Int))]<|⟨congrArg (fun z=>Ending.returned (I z)) (by unfold choiceI;rw [hn];first|rw [if_pos om]|rw [if_neg om]),hS⟩) fun a0=>jCO 3 rfl<|sAdd (x.tmod (wn:Int)) (wn:Int)<|jOO 7 rfl<|sAdd ((x.tmod (wn:Int))+(wn:Int)) i<|pu1<|sRem (((x.tmod (wn:Int))+(wn:Int))+i) (wn:Int)<|jOR 4 rfl<|retT [I ((((x.tmod (wn:Int))+(wn:Int))+i).tmod (wn:Int))]<|⟨congrArg (fun z=>Ending.returned (I z)) (by unfold choiceI;rw [hn];first|rw [if_pos om]|rw [if_neg om]),hS⟩
theorem f_load {p q:Nat} {c:Cfg} {wa aa da:Option Addr} {wn wk an ak dn dk:Nat} {post:List Value} {F0:List Chunk} {xs:List FJob} {jobs:List JS} {jcs:List Chunk} (hJs:Obs JobM xs jobs jcs) (hxl:xs.length=64) (hjt:∀j∈jobs,j.tasks.length<=4096) (hS:Sat W w ((Tri p 101 (preF c wa wn wk aa an ak da dn dk q) (xs.flatMap encFJob) post)::F0)):
  Calls prog 58 #[Pt p 0] w fun e w'=>e= .returned (I (loadL jobs))/\Sat W w' ((Tri p 101 (preF c wa wn wk aa an ak da dn dk q) (xs.flatMap encFJob) post)::F0):=by
 have r0:=hJs.1
 refine callsK 27 func58 rfl<|jCC 17 rfl<|loopF [0] (γ:=Nat×Int) (fun ⟨i,ln⟩ R=>⟨[(4,I (i:Int)),(3,I ln)],R,64-i,i<=64/\(ln=loadL (jobs.take i))/\(0<=ln/\ln<=4096*i)⟩) (0,0) ⟨hS,om,by simp [loadL],om⟩ ?_
 rintro ⟨i,ln⟩ ρ _ ⟨b0,hi,l0,s0⟩
 refine jCC 7 rfl<|CD ((i:Int)<64) (fun h0=>jCR 12 rfl<|retT [I ln]<|⟨congrArg (fun z=>Ending.returned (I z)) (by rw [l0,List.take_of_length_le om]),b0⟩) fun h0=>jCO 10 rfl ?_
 obtain ⟨a0,c0⟩:=at_some hxl (k:=i) om
 obtain ⟨i0,m0,d0,o0,j0⟩:=Obs.get hJs c0;obtain ⟨p0,g0,q0,e0⟩:=j0.fields
 have k0:=hjt i0 (List.mem_of_getElem? d0);rw [<-e0] at k0
 exact sIdxA (b:=p) (off:=12) (i:Int) i runUnderlying99 sizeOf98<|pu1<|sMp b0 (ptr_up 0 rfl (tri_el (sz:=5) (n0:=12) fR c0)) 1 (.bool a0.running)<|jOC 2 rfl<|CB a0.running (fun f0=>jCO 5 rfl<|sAdd (i:Int) 1<|jOI 2 rfl<|⟨(i+1,ln),od,alB,b0,om,(by rw [loadL_take d0,<-l0,<-g0,<-e0];simp [f0]),od⟩) fun f0=>jCO 6 rfl<|sIdxA (b:=p) (off:=12) (i:Int) i runUnderlying99 sizeOf98<|pu1<|sMp b0 (ptr_up 0 rfl (tri_el (sz:=5) (n0:=12) fR c0)) 3 (.slice a0.tasks.a a0.tasks.n a0.tasks.k)<|pu1<|sAdd ln (a0.tasks.n:Int)<|jOO 6 rfl<|sAdd (i:Int) 1<|jOI 2 rfl<|⟨(i+1,(ln+(a0.tasks.n:Int))),od,alB,b0,om,(by rw [loadL_take d0,<-l0,<-g0,<-e0];simp [f0]),od⟩
end Go.Proofs.YtkadmghedmodbaaGreat
