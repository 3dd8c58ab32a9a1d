import Derived.Test.YtkadmghedmodbaaGreatR3P2Fi
set_option linter.all false
namespace Go.Proofs.YtkadmghedmodbaaGreat
open Go Go.E Go.Proofs.Tryz
set_option linter.all false
set_option maxRecDepth 100000
set_option maxHeartbeats 2000000
variable {W w:World} {H:Chunk} {F:List Chunk}
theorem b_entry {p:Nat} {a:Option Addr} {n k:Nat} {es:List BEnt} {c:Chunk} {d:Int} (hO:OwnT encBEnt 175 4 a n k es c) (i:Int) (hS:Sat W w ([(p, .cells #[.slice a n k,I d] 172 (0,0))]::c::F)):
  Calls prog 170 #[Pt p 0,I i] w fun e w'=>Sat W w' ([(p, .cells #[.slice a n k,I d] 172 (0,0))]::c::F)/\((¬(0<=i/\i<n)/\e= .returned (.pointer none))\/((0<=i/\i<n)/\∃(x:BEnt) (b o:Nat),e= .returned (.pointer (some ⟨b,o+i.toNat*4,none⟩))/\es[i.toNat]?=some x/\a=some ⟨b,o,none⟩)):=by
 have g0:=hO.ll
 exact callsK 26 func170 rfl<|jCO 15 rfl<|sD 11 (i<0) (fun a0=>jOR 18 rfl<|retT [.pointer none]<|⟨hS, .inl ⟨om,rfl⟩⟩) fun a0=>gOC hS 10 [0] rfl<|cD (i>=(n:Int)) (fun b0=>jCR 7 rfl<|retT [.pointer none]<|⟨hS, .inl ⟨om,rfl⟩⟩) fun b0=>gCO hS 9 [0] rfl<|sIO hO i (i).toNat fun _ c0 d0 e0 _ f0=>jOR 4 rfl<|retT [.pointer (some ⟨c0,d0+(i).toNat*4,none⟩)]<|⟨hS, .inr ⟨om,_,_,_,rfl,e0,f0⟩⟩
theorem b_held {p:Nat} {a:Option Addr} {n k:Nat} {es:List BEnt} {c:Chunk} {d:Int} (hO:OwnT encBEnt 175 4 a n k es c) (i m:Int) (hS:Sat W w ([(p, .cells #[.slice a n k,I d] 172 (0,0))]::c::F)):
  Calls prog 111 #[Pt p 0,I i,I m] w fun e w'=>Sat W w' ([(p, .cells #[.slice a n k,I d] 172 (0,0))]::c::F)/\((¬(0<=i/\i<n)/\e= .returned (.tuple #[.pointer none,I 16]))\/((0<=i/\i<n)/\∃x:BEnt,es[i.toNat]?=some x/\¬(x.state=3/\x.attempt=m)/\e= .returned (.tuple #[.pointer none,I 20]))\/((0<=i/\i<n)/\∃(x:BEnt) (b o:Nat),e= .returned (.tuple #[.pointer (some ⟨b,o+i.toNat*4,none⟩),I 0])/\es[i.toNat]?=some x/\a=some ⟨b,o,none⟩/\x.state=3/\x.attempt=m)):=by
 have l0:=hO.ll
 refine callsK 28 func111 rfl<|jCO 10 rfl ?_
 have g0:=(hS.picks [1,1])
 refine cZ (b_entry hO i g0) ?_
 rintro _ _ ⟨a0,(⟨b0,rfl⟩|⟨b0,c0,h0,i0,rfl,d0,e0⟩)⟩
 ·exact jOR 19 rfl<|retT [.pointer none,I 16]<|⟨a0, .inl ⟨b0,rfl⟩⟩
 have f0:=OwnT.ptr hO e0 d0
 exact jOO 19 rfl<|sMp a0 (f0.up 1 rfl) 0 (I c0.state)<|pu2<|SN 19 c0.state 3 (fun j0=>jOR 18 rfl<|retT [.pointer none,I 20]<|⟨a0, .inr (.inl ⟨b0,_,d0,om,rfl⟩)⟩) fun j0=>pu3<|gY<|sMp a0 (f0.up 1 rfl) 1 (I c0.attempt)<|jOC 5 rfl<|CN c0.attempt m (fun k0=>jCR 8 rfl<|retT [.pointer none,I 20]<|⟨a0, .inr (.inl ⟨b0,_,d0,om,rfl⟩)⟩) fun k0=>jCR 10 rfl<|retT [.pointer (some ⟨h0,i0+i.toNat*4,none⟩),I 0]<|⟨a0, .inr (.inr ⟨b0,_,_,_,rfl,d0,e0,om⟩)⟩
theorem b_start {p:Nat} {B:BS} {K:Int} {M:Chunk} (hB:BoardR p B M) (hW:BWf B K) (i:Int) (hS:Sat W w (M::H::F)):
  Calls prog 176 #[Pt p 0,I i] w fun e w'=>∃M':Chunk,e= .returned (.tuple #[I (startB B i).2.1,I (startB B i).2.2])/\BoardR p ((startB B i).1) M'/\Sat W w' (M'::H::F):=by
 obtain ⟨a,n,k,es,c,G,rfl,hO,hD,hE⟩:=hB
 have hS:Sat W _ ([(p, .cells #[.slice a n k,I (doneOf B)] 172 (0,0))]::c::G::H::F):=Sat.perm hS (by simp)
 have x0:=hO.ll;have v0:=entsOf_len hE;have t0:=hW.ls;have u0:=hW.la;have y0:=hW.n0
 refine callsK 24 func176 rfl<|jCO 10 rfl ?_
 have h0:=(hS.picks [1,1])
 refine cZ (b_entry hO i h0) ?_
 rintro _ _ ⟨c0,(⟨i0,rfl⟩|⟨i0,a0,_,_,rfl,b0,d0⟩)⟩
 · exact jOR 19 rfl<|retT [I 0,I 16]<|(by have j0:Sat W _ (([(p, .cells #[.slice a n k,I (doneOf B)] 172 (0,0))]++(c++G))::H::F):=Sat.perm c0 (by simp);have s0:¬inB B i:=(by unfold inB;omega);have he:startB B i=(B,0,16):=(by unfold startB;rw [if_neg s0]);exact ⟨_,by rw [he];rfl,by rw [he];exact ⟨_,_,_,es,c,G,rfl,hO,hD,hE⟩,j0⟩)
 have k0:=OwnT.ptr hO d0 b0
 refine jOO 19 rfl<|sMp c0 (k0.up 1 rfl) 0 (I a0.state)<|jOC 3 rfl<|CN a0.state 2 (fun l0=>jCR 8 rfl<|retT [I 0,I 20]<|(by have o0:=entAt hE b0;have r0:inB B i:=(by unfold inB;omega);have m0:Sat W _ (([(p, .cells #[.slice a n k,I (doneOf B)] 172 (0,0))]++(c++G))::H::F):=Sat.perm c0 (by simp);have he:startB B i=(B,0,20):=(by unfold startB;rw [if_pos r0,if_neg (by rw [stAt_nat _ om];omega)]);exact ⟨_,by rw [he];rfl,by rw [he];exact ⟨_,_,_,es,c,G,rfl,hO,hD,hE⟩,m0⟩)) fun l0=>jCO 7 rfl<|sStF c0 hO d0 1 i.toNat 0 a0 (⟨3,a0.attempt,a0.pending,a0.next⟩:BEnt) b0 (I 3) [I 3] sizeOf3 fun _ e0 f0 g0=>jOO 7 rfl<|sMp g0 ((OwnT.ptr f0 d0 (set_at (y:=(⟨3,a0.attempt,a0.pending,a0.next⟩:BEnt)) b0)).up 1 rfl) 1 (I a0.attempt)<|jOR 5 rfl<|retT [I a0.attempt,I 0] ?_
 have o0:=entAt hE b0
 have r0:inB B i:=by unfold inB;omega
 have q0:Sat W _ (([(p, .cells #[.slice a n k,I (doneOf B)] 172 (0,0))]++(e0++G))::H::F):=Sat.perm g0 (by simp)
 have he:startB B i=(⟨B.deps,B.st.set i.toNat 3,B.att⟩,B.att.getD i.toNat 0,0):=by unfold startB;rw [if_pos r0,if_pos (by rw [stAt_nat _ om];omega)]
 have p0:=ents_state (x':=(⟨3,a0.attempt,a0.pending,a0.next⟩:BEnt)) (y:=3) t0 u0 hE b0 om om rfl o0.2.2.1 rfl rfl
 rw [set_self] at p0
 refine ⟨_,by rw [he];exact congrArg (fun z=>Ending.returned (.tuple #[I z,I 0])) o0.2.2.1,by rw [he];exact ⟨_,_,_,_,e0,G,by rw [p0.2],f0,ok_set hD b0 rfl,p0.1⟩,q0⟩
theorem b_return {p:Nat} {B:BS} {K:Int} {M:Chunk} (hB:BoardR p B M) (hW:BWf B K) (i:Int) (m:Int) (hK:K<=4611686018427387904) (hS:Sat W w (M::H::F)):
  Calls prog 63 #[Pt p 0,I i,I m] w fun e w'=>∃M':Chunk,e= .returned (I (heldC B i m))/\BoardR p (retB B i m) M'/\Sat W w' (M'::H::F):=by
 obtain ⟨a,n,k,es,c,G,rfl,hO,hD,hE⟩:=hB
 have hS:Sat W _ ([(p, .cells #[.slice a n k,I (doneOf B)] 172 (0,0))]::c::G::H::F):=Sat.perm hS (by simp)
 have C0:=hO.ll;have A0:=entsOf_len hE;have x0:=hW.ls;have y0:=hW.la;have D0:=hW.n0
 refine callsK 29 func63 rfl<|jCO 10 rfl ?_
 have k0:=(hS.picks [1,1])
 refine cZ (b_held hO i m k0) ?_
 rintro _ _ ⟨d0,(⟨e0,rfl⟩|⟨e0,a0,b0,l0,rfl⟩|⟨e0,a0,_,_,rfl,b0,c0,l0⟩)⟩
 · exact jOR 23 rfl<|retT [I 16]<|(by have m0:Sat W _ (([(p, .cells #[.slice a n k,I (doneOf B)] 172 (0,0))]++(c++G))::H::F):=Sat.perm d0 (by simp);have w0:¬inB B i:=(by unfold inB;omega);have he:heldC B i m=16:=(by unfold heldC;rw [if_neg w0]);have hr:retB B i m=B:=(by unfold retB;rw [he,if_neg (by decide)]);exact ⟨_,by rw [he];rfl,by rw [hr];exact ⟨_,_,_,es,c,G,rfl,hO,hD,hE⟩,m0⟩)
 · exact jOR 23 rfl<|retT [I 20]<|(by have t0:=entAt hE b0;have p0:inB B i:=(by unfold inB;omega);have o0:Sat W _ (([(p, .cells #[.slice a n k,I (doneOf B)] 172 (0,0))]++(c++G))::H::F):=Sat.perm d0 (by simp);have he:heldC B i m=20:=(by unfold heldC;rw [if_pos p0,if_neg (by rw [stAt_nat _ om];omega)]);have hr:retB B i m=B:=(by unfold retB;rw [he,if_neg (by decide)]);exact ⟨_,by rw [he];rfl,by rw [hr];exact ⟨_,_,_,es,c,G,rfl,hO,hD,hE⟩,o0⟩)
 have v0:=OwnT.ptr hO c0 b0
 refine jOO 22 rfl<|sStF d0 hO c0 1 i.toNat 0 a0 (⟨2,a0.attempt,a0.pending,a0.next⟩:BEnt) b0 (I 2) [I 2] sizeOf3 fun _ _ f0 g0=>jOC 3 rfl ?_
 have u0:=entAt hE b0;have z0:=hW.att _ (getD_mem (q:=i.toNat) (s:=B.att) om)
 refine jCO 4 rfl ?_
 have h0:=set_at (y:=(⟨2,a0.attempt,a0.pending,a0.next⟩:BEnt)) b0
 refine sMp g0 ((OwnT.ptr f0 c0 h0).up 1 rfl) 1 (I a0.attempt)<|sAdd a0.attempt 1<|pu2<|sStF g0 f0 c0 1 i.toNat 1 (⟨2,a0.attempt,a0.pending,a0.next⟩:BEnt) (⟨2,(a0.attempt+1),a0.pending,a0.next⟩:BEnt) h0 (I (a0.attempt+1)) [I (a0.attempt+1)] sizeOf3 fun _ i0 j0 q0=>?_
 rw [List.set_set] at j0
 refine jOR 8 rfl<|retT [I 0] ?_
 have t0:=entAt hE b0
 have p0:inB B i:=by unfold inB;omega
 have r0:Sat W _ (([(p, .cells #[.slice a n k,I (doneOf B)] 172 (0,0))]++(i0++G))::H::F):=Sat.perm q0 (by simp)
 have he:heldC B i m=0:=by unfold heldC;rw [if_pos p0,if_pos (by rw [stAt_nat _ om];omega)]
 have hr:retB B i m=⟨B.deps,B.st.set i.toNat 2,B.att.set i.toNat (m+1)⟩:=by unfold retB;rw [if_pos he]
 have s0:=ents_state (x':=(⟨2,(a0.attempt+1),a0.pending,a0.next⟩:BEnt)) (y:=2) (z:=m+1) x0 y0 hE b0 om om rfl (by dsimp only;omega) rfl rfl
 exact ⟨_,by rw [he];rfl,by rw [hr];exact ⟨_,_,_,_,i0,G,by rw [s0.2],j0,ok_set hD b0 rfl,s0.1⟩,r0⟩
theorem st_out {s:List Int} {i:Int} (h:¬(0<=i/\i<(s.length:Int))):stAt s i=0:=by
  unfold stAt
  split
  · rw [List.getD_eq_getElem?_getD,List.getElem?_eq_none (by omega)];rfl
  · rfl
theorem b_state {p:Nat} {B:BS} {K:Int} {M:Chunk} (hB:BoardR p B M) (hW:BWf B K) (i:Int) (hS:Sat W w (M::H::F)):
  Calls prog 147 #[Pt p 0,I i] w fun e w'=>e= .returned (I (stAt B.st i))/\Sat W w' (M::H::F):=by
 obtain ⟨a,n,k,es,c,G,rfl,hO,hD,hE⟩:=hB
 have hS:Sat W _ ([(p, .cells #[.slice a n k,I (doneOf B)] 172 (0,0))]::c::G::H::F):=Sat.perm hS (by simp)
 have l0:=hO.ll;have j0:=entsOf_len hE;have m0:=hW.ls;have o0:=hW.la;have p0:=hW.n0
 refine callsK 15 func147 rfl<|jCO 9 rfl ?_
 have d0:=(hS.picks [1,1])
 refine cZ (b_entry hO i d0) ?_
 rintro _ _ ⟨a0,(⟨e0,rfl⟩|⟨e0,b0,_,_,rfl,c0,f0⟩)⟩
 ·exact jOR 18 rfl<|retT [I 0]<|(by have g0:Sat W _ (([(p, .cells #[.slice a n k,I (doneOf B)] 172 (0,0))]++(c++G))::H::F):=Sat.perm a0 (by simp);exact ⟨by rw [st_out om];rfl,g0⟩)
 have h0:=OwnT.ptr hO f0 c0
 exact jOO 18 rfl<|sMp a0 (h0.up 1 rfl) 0 (I b0.state)<|jOR 4 rfl<|retT [I b0.state]<|(by have i0:Sat W _ (([(p, .cells #[.slice a n k,I (doneOf B)] 172 (0,0))]++(c++G))::H::F):=Sat.perm a0 (by simp);exact ⟨by rw [stAt_nat _ om,<-(entAt hE c0).2.1];rfl,i0⟩)
theorem b_done {p:Nat} {B:BS} {K:Int} {M:Chunk} (hB:BoardR p B M) (hW:BWf B K) (hS:Sat W w (M::H::F)):
  Calls prog 116 #[Pt p 0] w fun e w'=>e= .returned (I (doneOf B))/\Sat W w' (M::H::F):=by
 obtain ⟨a,n,k,es,c,G,rfl,hO,hD,hE⟩:=hB
 have hS:Sat W _ ([(p, .cells #[.slice a n k,I (doneOf B)] 172 (0,0))]::c::G::H::F):=Sat.perm hS (by simp)
 have d0:=hO.ll;have b0:=entsOf_len hE;have e0:=hW.ls;have f0:=hW.la;have g0:=hW.n0
 exact callsK 9 func116 rfl<|gCR hS 25 [0] rfl<|retT [I (doneOf B)]<|(by have a0:Sat W _ (([(p, .cells #[.slice a n k,I (doneOf B)] 172 (0,0))]++(c++G))::H::F):=Sat.perm hS (by simp);exact ⟨rfl,a0⟩)
theorem b_total {p:Nat} {B:BS} {K:Int} {M:Chunk} (hB:BoardR p B M) (hW:BWf B K) (hS:Sat W w (M::H::F)):
  Calls prog 117 #[Pt p 0] w fun e w'=>e= .returned (I (B.deps.length:Int))/\Sat W w' (M::H::F):=by
 obtain ⟨a,n,k,es,c,G,rfl,hO,hD,hE⟩:=hB
 have hS:Sat W _ ([(p, .cells #[.slice a n k,I (doneOf B)] 172 (0,0))]::c::G::H::F):=Sat.perm hS (by simp)
 have d0:=hO.ll;have b0:=entsOf_len hE;have e0:=hW.ls;have f0:=hW.la;have g0:=hW.n0
 exact callsK 10 func117 rfl<|gCR hS 26 [0] rfl<|retT [I (n:Int)]<|(by have a0:Sat W _ (([(p, .cells #[.slice a n k,I (doneOf B)] 172 (0,0))]++(c++G))::H::F):=Sat.perm hS (by simp);exact ⟨by rw [show B.deps.length=n by omega];rfl,a0⟩)
theorem s_nan (x:Int) (hS:Sat W w (H::F)):
    Ro prog 208 #[.int .i64 x] (.bool false) W w (H::F):=by
  exact callsK 6 func208 rfl<|jCR 14 rfl<|retT [.bool ((x:Int)!=x)]<|⟨rB (by simp),hS⟩
theorem s_less (x:Int) (y:Int) (hS:Sat W w (H::F)):
    Ro prog 196 #[.int .i64 x, .int .i64 y] (.bool (decide (x<y))) W w (H::F):=by
  exact callsK 17 func196 rfl<|jCO 8 rfl<|cS (s_nan x hS.flat) fun b0 a0=>jOR 14 rfl<|retT [.bool (decide (x<y))]<|⟨rfl,a0⟩
theorem s_len64 {cs:List Chunk} (x:Int) (hx:0<=x/\x<18446744073709551616) (hS:Sat W w cs):
  Calls prog 200 #[.int .u64 x] w fun e w'=>∃r:Int,e= .returned (I r)/\(0<=r/\r<=400)/\Sat W w' cs:=by
 refine callsK 25 func200 rfl<|jCC 12 rfl<|CD (x>=4294967296) (fun i0=>jCC 9 rfl<|CD (x>=65536) (fun j0=>jCC 9 rfl<|CD (x>=256) (fun k0=>jCO 6 rfl<|stepY (.int .u8 (x%256)) rfl rfl (Y_conv (k:= .u64) (a:=x) underlying231 underlying5 (wrap_u8 _) rfl kr)<|sStrIdx (k:= .u8) (x%256) underlying9 fun a0 _=>stepY (I a0) rfl rfl (Y_conv (k:= .u8) (a:=a0) underlying5 underlying3 (wrapIn_i64 _ om) rfl kr)<|sAdd 0 a0<|jOR 4 rfl<|retT [I (0+a0)]<|⟨_,rfl,om,hS⟩) fun k0=>jCO 3 rfl<|stepY (.int .u64 (x/256)) rfl rfl (Y_shr .u64 .u64 x 8 256 rfl kr kr (by decide) (by decide))<|jOO 13 rfl<|stepY (.int .u8 ((x/256)%256)) rfl rfl (Y_conv (k:= .u64) (a:=(x/256)) underlying231 underlying5 (wrap_u8 _) rfl kr)<|sStrIdx (k:= .u8) ((x/256)%256) underlying9 fun b0 _=>stepY (I b0) rfl rfl (Y_conv (k:= .u8) (a:=b0) underlying5 underlying3 (wrapIn_i64 _ om) rfl kr)<|sAdd 8 b0<|jOR 4 rfl<|retT [I (8+b0)]<|⟨_,rfl,om,hS⟩) fun j0=>jCO 3 rfl<|stepY (.int .u64 (x/65536)) rfl rfl (Y_shr .u64 .u64 x 16 65536 rfl kr kr (by decide) (by decide))<|jOC 16 rfl<|CD ((x/65536)>=256) (fun l0=>jCO 6 rfl<|stepY (.int .u8 ((x/65536)%256)) rfl rfl (Y_conv (k:= .u64) (a:=(x/65536)) underlying231 underlying5 (wrap_u8 _) rfl kr)<|sStrIdx (k:= .u8) ((x/65536)%256) underlying9 fun c0 _=>stepY (I c0) rfl rfl (Y_conv (k:= .u8) (a:=c0) underlying5 underlying3 (wrapIn_i64 _ om) rfl kr)<|sAdd 16 c0<|jOR 4 rfl<|retT [I (16+c0)]<|⟨_,rfl,om,hS⟩) fun l0=>jCO 3 rfl<|stepY (.int .u64 ((x/65536)/256)) rfl rfl (Y_shr .u64 .u64 (x/65536) 8 256 rfl kr kr (by decide) (by decide))<|jOO 13 rfl<|stepY (.int .u8 (((x/65536)/256)%256)) rfl rfl (Y_conv (k:= .u64) (a:=((x/65536)/256)) underlying231 underlying5 (wrap_u8 _) rfl kr)<|sStrIdx (k:= .u8) (((x/65536)/256)%256) underlying9 fun d0 _=>stepY (I d0) rfl rfl (Y_conv (k:= .u8) (a:=d0) underlying5 underlying3 (wrapIn_i64 _ om) rfl kr)<|sAdd 24 d0<|jOR 4 rfl<|retT [I (24+d0)]<|⟨_,rfl,om,hS⟩) fun i0=>?_
 exact jCO 3 rfl<|stepY (.int .u64 (x/4294967296)) rfl rfl (Y_shr .u64 .u64 x 32 4294967296 rfl kr kr (by decide) (by decide))<|jOC 14 rfl<|CD ((x/4294967296)>=65536) (fun m0=>jCC 9 rfl<|CD ((x/4294967296)>=256) (fun n0=>jCO 6 rfl<|stepY (.int .u8 ((x/4294967296)%256)) rfl rfl (Y_conv (k:= .u64) (a:=(x/4294967296)) underlying231 underlying5 (wrap_u8 _) rfl kr)<|sStrIdx (k:= .u8) ((x/4294967296)%256) underlying9 fun e0 _=>stepY (I e0) rfl rfl (Y_conv (k:= .u8) (a:=e0) underlying5 underlying3 (wrapIn_i64 _ om) rfl kr)<|sAdd 32 e0<|jOR 4 rfl<|retT [I (32+e0)]<|⟨_,rfl,om,hS⟩) fun n0=>jCO 3 rfl<|stepY (.int .u64 ((x/4294967296)/256)) rfl rfl (Y_shr .u64 .u64 (x/4294967296) 8 256 rfl kr kr (by decide) (by decide))<|jOO 13 rfl<|stepY (.int .u8 (((x/4294967296)/256)%256)) rfl rfl (Y_conv (k:= .u64) (a:=((x/4294967296)/256)) underlying231 underlying5 (wrap_u8 _) rfl kr)<|sStrIdx (k:= .u8) (((x/4294967296)/256)%256) underlying9 fun f0 _=>stepY (I f0) rfl rfl (Y_conv (k:= .u8) (a:=f0) underlying5 underlying3 (wrapIn_i64 _ om) rfl kr)<|sAdd 40 f0<|jOR 4 rfl<|retT [I (40+f0)]<|⟨_,rfl,om,hS⟩) fun m0=>jCO 3 rfl<|stepY (.int .u64 ((x/4294967296)/65536)) rfl rfl (Y_shr .u64 .u64 (x/4294967296) 16 65536 rfl kr kr (by decide) (by decide))<|jOC 16 rfl<|CD (((x/4294967296)/65536)>=256) (fun o0=>jCO 6 rfl<|stepY (.int .u8 (((x/4294967296)/65536)%256)) rfl rfl (Y_conv (k:= .u64) (a:=((x/4294967296)/65536)) underlying231 underlying5 (wrap_u8 _) rfl kr)<|sStrIdx (k:= .u8) (((x/4294967296)/65536)%256) underlying9 fun g0 _=>stepY (I g0) rfl rfl (Y_conv (k:= .u8) (a:=g0) underlying5 underlying3 (wrapIn_i64 _ om) rfl kr)<|sAdd 48 g0<|jOR 4 rfl<|retT [I (48+g0)]<|⟨_,rfl,om,hS⟩) fun o0=>jCO 3 rfl<|stepY (.int .u64 (((x/4294967296)/65536)/256)) rfl rfl (Y_shr .u64 .u64 ((x/4294967296)/65536) 8 256 rfl kr kr (by decide) (by decide))<|jOO 13 rfl<|stepY (.int .u8 ((((x/4294967296)/65536)/256)%256)) rfl rfl (Y_conv (k:= .u64) (a:=(((x/4294967296)/65536)/256)) underlying231 underlying5 (wrap_u8 _) rfl kr)<|sStrIdx (k:= .u8) ((((x/4294967296)/65536)/256)%256) underlying9 fun h0 _=>stepY (I h0) rfl rfl (Y_conv (k:= .u8) (a:=h0) underlying5 underlying3 (wrapIn_i64 _ om) rfl kr)<|sAdd 56 h0<|jOR 4 rfl<|retT [I (56+h0)]<|⟨_,rfl,om,hS⟩
theorem s_len {cs:List Chunk} (x:Int) (hx:0<=x/\x<18446744073709551616) (hS:Sat W w cs):
    Calls prog 181 #[.int .u64 x] w fun e w'=>∃r:Int,e= .returned (.int .i64 r)/\(0<=r/\r<=400)/\Sat W w' cs:=by
  refine callsK 8 func181 rfl<|jCO 12 rfl<|cZ (s_len64 x (by omega) hS) ?_
  rintro _ d0 ⟨c0,rfl,b0,a0⟩
  exact jOR 4 rfl<|retT [.int .i64 c0]<|⟨_,rfl,by omega,a0⟩
theorem s_ins (ax:Option Addr) (nx kx:Nat) (x:List Int) (a:Int) (b:Int) (hx:RdT Go.E.encI 1 [H] ax nx kx x) (hs:∀(q:Nat) (u v:Int),x[q]?=some u->x[q+1]?=some v->u<=v) (hab:a=0/\b=nx) (hS:Sat W w (H::F)):
  Ro prog 190 #[.slice ax nx kx,I a,I b] (.tuple #[]) W w (H::F):=by
 have p0:=hx.ll
 obtain ⟨rfl,rfl⟩:=hab
 refine callsK 49 func190 rfl<|jCC 8 rfl<|loopF [0,1,2] (γ:=Nat) (fun j R=>⟨[(6,I (j:Int))],R,(max nx 1)-j,j<=max nx 1/\(1<=j)⟩) 1 ⟨hS,om,om⟩ ?_
 rintro j ρ _ ⟨a0,hj,u0⟩
 refine jCC 8 rfl<|CD ((j:Int)<(nx:Int)) (fun f0=>jCR 4 rfl<|ret0n rfl<|⟨rfl,a0⟩) fun f0=>jCC 11 rfl<|loopM 1<|roundK<|jCC 2 rfl<|bC (((j:Int):Int)>0) (fun d0=>drawF a0 [13] (fn) [0,1,2,3,4,5,6,8,9,10,11,7,12,13,14] fun _ g0=>wV 4<|wFix 19 _ false (decide_eq_false d0)<|wV 9<|wO rfl<|pu1<|nA<|wV 1<|wN<|jXO 10 rfl<|sAdd (j:Int) 1<|jOI 2 rfl<|⟨j+1,od,alB,g0,om,om⟩) fun d0=>?_
 obtain ⟨b0,q0,r0,e0,h0,i0⟩:=RdT.eN hx j
 obtain ⟨c0,s0,t0,j0,k0,l0⟩:=RdT.elem hx ((j:Int)-1)
 refine drawF a0 [13] (fq 7 0 (h0.up 0 rfl)<|fq 12 0 (k0.up 0 rfl)<|fn) [0,1,2,3,4,5,6,8,9,10,11,7,12,13,14] fun _ m0=>wV 4<|wFix 19 _ true (decide_eq_true d0)<|wV 2<|wI i0<|wV 2<|wSub (j:Int) 1<|wI l0<|wL 0<|wL 1<|wO rfl<|gY<|cS (s_less b0 c0 m0.flat) fun _ n0=>nA<|wV 1<|wN<|jXC 1 rfl ?_
 have o0:¬((b0:Int)<c0):=by have h:=hs (j-1) c0 b0 (by rw [show j-1=((j:Int)-1).toNat by omega];exact j0) (by rw [show j-1+1=j by omega];exact e0);omega
 exact cF _ (decide_eq_false o0)<|jCO 8 rfl<|sAdd (j:Int) 1<|jOI 2 rfl<|⟨j+1,od,alB,n0,om,om⟩
theorem s_pdq (ax:Option Addr) (nx kx:Nat) (x:List Int) (a:Int) (b:Int) (m:Int) (hx:RdT Go.E.encI 1 [H] ax nx kx x) (hs:∀(q:Nat) (u v:Int),x[q]?=some u->x[q+1]?=some v->u<=v) (hab:a=0/\b=nx) (hn:nx<=12) (hS:Sat W w (H::F)):
  Ro prog 180 #[.slice ax nx kx,I a,I b,I m] (.tuple #[]) W w (H::F):=by
 have c0:=hx.ll
 refine callsK 134 func180 rfl<|jCC 11 rfl<|loopM 1<|roundK<|jCO 5 rfl<|sSub b a<|jOC 10 rfl ?_
 have a0:((b-a):Int)<=12:=by omega
 exact cT _ (decide_eq_true a0)<|jCO 5 rfl<|cS (s_ins ax nx kx x a b (hx.fl 0) hs om hS.flat) fun _ b0=>jOR 7 rfl<|ret0 rfl<|⟨rfl,b0⟩
theorem s_sort (ax:Option Addr) (nx kx:Nat) (x:List Int) (hx:RdT Go.E.encI 1 [H] ax nx kx x) (hs:∀(q:Nat) (u v:Int),x[q]?=some u->x[q+1]?=some v->u<=v) (hn:nx<=12) (hS:Sat W w (H::F)):
  Ro prog 142 #[.slice ax nx kx] (.tuple #[]) W w (H::F):=by
 have d0:=hx.ll
 refine callsK 11 func142 rfl<|jCO 11 rfl<|stepY (.int .u64 ((nx:Int)%18446744073709551616)) rfl rfl (Y_conv (k:= .i64) (a:=(nx:Int)) underlying3 underlying215 (wrap_u64 _) rfl kr)<|cZ (s_len ((nx:Int)%18446744073709551616) om hS) ?_
 rintro _ _ ⟨a0,rfl,_,b0⟩
 exact cS (s_pdq ax nx kx x 0 (nx:Int) a0 (hx.fl 0) hs om om b0.flat) fun _ c0=>nilO<|ret0n rfl<|⟨rfl,c0⟩
theorem b_ready {p:Nat} {B:BS} {K:Int} {M:Chunk} (hB:BoardR p B M) (hW:BWf B K) (hS:Sat W w (M::H::F)):
  Calls prog 54 #[Pt p 0] w fun e w'=>∃(az:Option Addr) (nz kz:Nat) (Z M':Chunk),e= .returned (.slice az nz kz)/\RdT Go.E.encI 1 [Z] az nz kz (idxOf 2 0 B.st)/\BoardR p B M'/\Sat W w' (Z::M'::H::F):=by
 obtain ⟨a,n,k,es,c,G,rfl,hO,hD,hE⟩:=hB
 have hS:Sat W _ ([(p, .cells #[.slice a n k,I (doneOf B)] 172 (0,0))]::c::G::H::F):=Sat.perm hS (by simp)
 have A0:=hO.ll;have y0:=entsOf_len hE;have B0:=hW.ls;have C0:=hW.la;have D0:=hW.n0
 refine callsK 27 func54 rfl<|gCC hS 32 [0] rfl<|loopF [11,12] (γ:=Nat×(List Int)×SO) (fun ⟨i,zs,t0,l0,u0,f0⟩ R=>⟨[(13,I (i:Int)),(3, .slice t0 l0 u0)],f0::R,n-i,i<=n/\(zs=idxOf 2 0 (B.st.take i))/\(zs.length<=i)/\OwnT Go.E.encI 3 1 t0 l0 u0 zs f0⟩) (0,[],none,0,0,[]) ⟨(Sat.nilc hS),om,rfl,by simp,(OwnT.nil (enc:=Go.E.encI) (E:=3) (sz:=1) fR)⟩ ?_
 rintro ⟨i,zs,t0,l0,u0,f0⟩ ρ _ ⟨a0,hi,hz,E0,e0⟩
 have v0:=e0.ll
 exact jCC 6 rfl<|CD ((i:Int)<(n:Int)) (fun g0=>jCR 12 rfl<|retT [.slice t0 l0 u0]<|(by have h0:Sat W _ (f0::([(p, .cells #[.slice a n k,I (doneOf B)] 172 (0,0))]++(c++G))::H::F):=Sat.perm a0 (by simp);have x0:zs=idxOf 2 0 B.st:=(by rw [hz,List.take_of_length_le om]);have w0:=(e0.rdAt (cs:=[f0]) 0 rfl);rw [x0] at w0;exact ⟨_,_,_,_,_,rfl,w0,⟨_,_,_,es,c,G,rfl,hO,hD,hE⟩,h0⟩)) fun g0=>jCO 7 rfl<|sIO hO (i:Int) i fun b0 _ _ d0 i0 _=>sMA a0 (i0.up 2 rfl) 0 (encBEnt b0)<|sAlloc a0 zeroValue175 fun _ _ j0=>pu1<|sTk j0 0 rfl (encBEnt b0) fun _ c0=>gOC c0 9 [0] rfl<|CE b0.state 2 (fun k0=>jCO 4 rfl<|sAdd (i:Int) 1<|jOI 2 rfl<|⟨(i+1,zs,t0,l0,u0,f0),od,alB,(c0.dropAt 0 rfl),om,(idx_n hz om (by have h:=(entAt hE d0).2.1;omega)),(by first|omega|(simp;omega)),e0⟩) fun k0=>jCO 3 rfl<|sBK c0 #[I (i:Int)] 3 fun _ _ m0=>sApp (nb:=8) m0 e0 2 (RdT.blk (enc:=Go.E.encI) (sz:=1) (xs:=[(i:Int)]) fR 1 0 rfl rfl rfl om) underlying22 (i:=Tryz.t3) kr fR fun o0 p0 q0 _ r0 s0=>jOO 5 rfl<|sAdd (i:Int) 1<|jOI 2 rfl<|⟨(i+1,(zs++[(i:Int)]),o0,(l0+1),p0,q0),od,alB,(s0.drops [0,0]),om,(idx_y hz om (by have h:=(entAt hE d0).2.1;omega)),(by first|omega|(simp;omega)),r0⟩
theorem com_start {es:List BEnt} {B:BS} {K:Int} {i:Nat} {x x':BEnt} (hW:BWf B K) (h:es.map BEnt.v=entsOf B) (hx:es[i]?=some x) (h1:x'.state=4) (h2:x'.attempt=x.attempt) (h3:x'.pending=x.pending) (h4:x'.next=x.next):
  (es.set i x').map BEnt.v=(List.range B.deps.length).map (entC B (B.st.set i 4) ((nextOf 0 B.deps i).take 0)):=by
 obtain ⟨hi,e1,e2,e3,e4⟩:=entAt h hx
 have a0:=hW.ls
 refine ents_set (f:=entV B) h (fun q hq b0=>?_) (fun _=>?_)
 ·simp only [entV,entC,List.take_zero,List.not_mem_nil,if_false,getD_set];rw [if_neg om]
 ·simp only [BEnt.v,entC,List.take_zero,List.not_mem_nil,if_false,getD_set,h1,h2,h3,h4,e2,e3,e4];rw [if_pos ⟨trivial,om⟩]
theorem pend_get {es:List BEnt} {B:BS} {K:Int} {i j:Nat} {z:Int} {y:BEnt} (hW:BWf B K) (hi:i<B.deps.length) (h3:B.st.getD i 0=3)
  (h:es.map BEnt.v=(List.range B.deps.length).map (entC B (B.st.set i 4) ((nextOf 0 B.deps i).take j))) (hz:(nextOf 0 B.deps i)[j]?=some z) (hy:es[z.toNat]?=some y):0<=y.pending-1/\y.pending<=4096:=by
 have h1:=(com_step (y':=⟨if y.pending-1=0 then 2 else y.state,y.attempt,y.pending-1,y.next⟩) hW hi h3 h hz hy rfl rfl rfl rfl).2
 obtain ⟨q,b0,hq,a0⟩:=nx_mem.1 (List.mem_of_getElem? hz)
 have hd:B.deps[z.toNat]?=some (B.deps.getD z.toNat []):=by simp [List.getD_eq_getElem?_getD,show z.toNat<B.deps.length by omega]
 have h4:=asc_len om (hW.asc _ _ hd)
 have h5:pendOf (B.st.set i 4) (B.deps.getD z.toNat [])<=((B.deps.getD z.toNat []).length:Nat):=by unfold pendOf;have:=List.length_filter_le (fun x=>decide (stAt (B.st.set i 4) x≠4)) (B.deps.getD z.toNat []);omega
 have h6:0<=pendOf (B.st.set i 4) (B.deps.getD z.toNat []):=by unfold pendOf;omega
 have:=hW.n0
 omega
theorem b_commit {p:Nat} {B:BS} {K:Int} {M:Chunk} (hB:BoardR p B M) (hW:BWf B K) (i:Int) (m:Int) (hn12:B.deps.length<=12) (hS:Sat W w (M::H::F)):
  Calls prog 174 #[Pt p 0,I i,I m] w fun e w'=>∃(az:Option Addr) (nz kz:Nat) (Z M':Chunk),e= .returned (.tuple #[.slice az nz kz,I (heldC B i m)])/\RdT Go.E.encI 1 [Z] az nz kz ((comB B i m).2)/\BoardR p (comB B i m).1 M'/\Sat W w' (Z::M'::H::F):=by
 obtain ⟨a,n,k,es,c,G,rfl,hO,hD,hE⟩:=hB
 have hS:Sat W _ ([(p, .cells #[.slice a n k,I (doneOf B)] 172 (0,0))]::c::G::H::F):=Sat.perm hS (by simp)
 have b1:=hO.ll;have Z0:=entsOf_len hE;have d1:=hW.ls;have l1:=hW.la;have x1:=hW.n0
 refine callsK 72 func174 rfl<|jCO 11 rfl ?_
 have v0:=(hS.picks [1,1])
 refine cZ (b_held hO i m v0) ?_
 rintro _ _ ⟨g0,(⟨l0,rfl⟩|⟨l0,b0,d0,w0,rfl⟩|⟨l0,b0,_,_,rfl,d0,h0,w0⟩)⟩
 · exact jOR 24 rfl<|retT [nS,I 16]<|(by have V0:¬inB B i:=(by unfold inB;omega);have he:heldC B i m=16:=(by unfold heldC;rw [if_neg V0]);have hr:comB B i m=(B,[]):=(by unfold comB;rw [he,if_neg (by decide)]);have x0:Sat W _ (([]:Chunk)::([(p, .cells #[.slice a n k,I (doneOf B)] 172 (0,0))]++(c++G))::H::F):=Sat.perm g0 (by simp);exact ⟨_,_,_,[],_,by rw [he];rfl,by rw [hr];exact rN,by rw [hr];exact ⟨_,_,_,es,c,G,rfl,hO,hD,hE⟩,x0⟩)
 · exact jOR 24 rfl<|retT [nS,I 20]<|(by have L0:=entAt hE d0;have M0:inB B i:=(by unfold inB;omega);have he:heldC B i m=20:=(by unfold heldC;rw [if_pos M0,if_neg (by rw [stAt_nat _ om];omega)]);have hr:comB B i m=(B,[]):=(by unfold comB;rw [he,if_neg (by decide)]);have y0:Sat W _ (([]:Chunk)::([(p, .cells #[.slice a n k,I (doneOf B)] 172 (0,0))]++(c++G))::H::F):=Sat.perm g0 (by simp);exact ⟨_,_,_,[],_,by rw [he];rfl,by rw [hr];exact rN,by rw [hr];exact ⟨_,_,_,es,c,G,rfl,hO,hD,hE⟩,y0⟩)
 have a2:=OwnT.ptr hO h0 d0
 refine jOC 18 rfl ?_
 have L0:=entAt hE d0;have M0:inB B i:=by unfold inB;omega
 have A0:B.st.getD i.toNat 0=3:=by omega
 have G0:i.toNat<B.deps.length:=by omega
 have D0:=hD b0 (List.mem_of_getElem? d0);have y1:=D0.next.ll
 have K0:=nx_asc (i:=(i.toNat:Int)) (D:=B.deps) (k:=0) (a:=-1) om;have O0:=asc_len om K0;rw [Nat.zero_add] at K0 O0
 have Y0:0<=doneOf B/\doneOf B<=4096:=by unfold doneOf;have:=List.length_filter_le (fun x=>decide (x=(4:Int))) B.st;omega
 refine jCO 4 rfl<|sStF g0 hO h0 1 i.toNat 0 b0 (⟨4,b0.attempt,b0.pending,b0.next⟩:BEnt) d0 (I 4) [I 4] sizeOf3 fun _ z0 m0 o0=>gOO o0 8 [0] rfl<|sAdd (doneOf B) 1<|pu2<|sT o0 0 1 (I ((doneOf B)+1)) [I ((doneOf B)+1)] #[.slice a n k,I ((doneOf B)+1)] sizeOf3 fun _ p0=>jOO 13 rfl<|sMp p0 ((OwnT.ptr m0 h0 (set_at (y:=(⟨4,b0.attempt,b0.pending,b0.next⟩:BEnt)) d0)).up 1 rfl) 3 (.slice b0.next.a b0.next.n b0.next.k)<|jOC 5 rfl<|loopF [37,38,0] (γ:=Nat×(List BEnt)×Chunk×(List Int)×SO) (fun ⟨j,C0,c1,zs,az,nz,kz,cz⟩ R=>⟨[(39,I (j:Int)),(10, .slice az nz kz)],cz::[(p, .cells #[.slice a n k,I (doneOf B+1)] 172 (0,0))]::c1::R,b0.next.n-j,j<=b0.next.n/\OwnT encBEnt 175 4 a n k C0 c1/\(∀z∈C0,BEnt.Ok [G] z)/\C0.map BEnt.v=(List.range B.deps.length).map (entC B (B.st.set i.toNat 4) ((nextOf 0 B.deps i.toNat).take j))/\OwnT Go.E.encI 3 1 az nz kz zs cz/\zs=((nextOf 0 B.deps i.toNat).take j).filter (fun z=>decide (pendOf (B.st.set i.toNat 4) (B.deps.getD z.toNat [])=0))⟩) (0,(es.set i.toNat (⟨4,b0.attempt,b0.pending,b0.next⟩:BEnt)),z0,[],none,0,0,[]) ⟨(Sat.nilc p0),om,m0,(ok_set hD d0 rfl),(com_start hW hE d0 rfl rfl rfl rfl),OwnT.nil fR,(by simp)⟩ ?_
 rintro ⟨j,C0,c1,zs,az,nz,kz,cz⟩ ρ _ ⟨f0,hj,H0,J0,F0,B0,hz⟩
 refine jCC 6 rfl<|CD ((j:Int)<(b0.next.n:Int)) (fun e1=>jCC 6 rfl<|(by have N0:=B0.len;have U0:=B0.le;have W0:zs.length<=12:=(by rw [hz];have h1:=List.length_filter_le (fun z=>decide (pendOf (B.st.set i.toNat 4) (B.deps.getD z.toNat [])=0)) ((nextOf 0 B.deps i.toNat).take j);simp only [List.length_take] at h1;omega);refine jCO 2 rfl<|cS (s_sort az nz kz zs (RdT.flat (B0.rdAt 0 (by rfl))) (by rw [hz];exact asc_sorted (asc_filter (Int.le_refl _) (asc_pre (m:=(nextOf 0 B.deps i.toNat).drop j) (by rw [List.take_append_drop];exact K0)))) om f0.flat) fun _ f1=>jOR 10 rfl<|retT [.slice az nz kz,I 0] ?_;have he:heldC B i m=0:=(by unfold heldC;rw [if_pos M0,if_pos (by rw [stAt_nat _ om];omega)]);have hr:comB B i m=(⟨B.deps,markB (B.st.set i.toNat 4) B.deps,B.att⟩,rdyB (B.st.set i.toNat 4) B.deps):=(by unfold comB;rw [if_pos he]);have I0:(nextOf 0 B.deps i.toNat).take j=(nextOf 0 B.deps i.toNat):=List.take_of_length_le (by rw [<-L0.2.2.2.2];omega);rw [I0] at F0 hz;rw [com_rdy hW G0 A0] at hz;have R0:=com_ents hW G0 A0 F0;have g1:Sat W _ (cz::([(p, .cells #[.slice a n k,I (doneOf B+1)] 172 (0,0))]++(c1++G))::H::F):=Sat.perm f1 (by simp);have Q0:=B0.rdAt (cs:=[cz]) 0 rfl;rw [hz] at Q0;exact ⟨_,_,_,cz,_,by rw [he];rfl,by rw [hr];exact Q0,by rw [hr];exact ⟨_,_,_,C0,c1,G,by rw [com_done hW G0 A0],H0,J0,R0⟩,g1⟩)) fun e1=>?_
 refine jCO 6 rfl<|sIN D0.next j fun c0 _ _ q0 i1=>sMp f0 (i1.up 3 rfl) 0 (I c0)<|jOC 4 rfl ?_
 have E0:=q0;rw [L0.2.2.2.2] at E0
 have C1:=asc_mem K0 c0 (List.mem_of_getElem? E0)
 have P0:=congrArg List.length F0;simp only [List.length_map,List.length_range] at P0
 have T0:=H0.ll;have U0:=B0.le;have N0:=B0.len
 have X0:zs.length<=4096:=by rw [hz];have h1:=List.length_filter_le (fun z=>decide (pendOf (B.st.set i.toNat 4) (B.deps.getD z.toNat [])=0)) ((nextOf 0 B.deps i.toNat).take j);simp only [List.length_take] at h1;omega
 exact gCO f0 6 [1] rfl<|sIO H0 c0 (c0).toNat fun a0 _ _ e0 j1 i0=>jOC 4 rfl<|(by have B1:=pend_get hW G0 A0 F0 E0 e0;have A1:=(J0 a0 (List.mem_of_getElem? e0)).next;exact jCO 4 rfl<|sMp f0 (j1.up 2 rfl) 2 (I a0.pending)<|sSub a0.pending 1<|pu2<|sStF f0 H0 i0 2 (c0).toNat 2 a0 (⟨a0.state,a0.attempt,(a0.pending-1),a0.next⟩:BEnt) e0 (I (a0.pending-1)) [I (a0.pending-1)] sizeOf3 fun _ k1 j0 k0=>jOO 7 rfl<|(by have r0:=set_at (y:=(⟨a0.state,a0.attempt,(a0.pending-1),a0.next⟩:BEnt)) e0;exact sMp k0 ((OwnT.ptr j0 i0 r0).up 2 rfl) 2 (I (a0.pending-1))<|jOC 3 rfl<|CE (a0.pending-1) 0 (fun m1=>jCO 4 rfl<|sAdd (j:Int) 1<|jOI 2 rfl<|(by have s0:=com_step (y':=(⟨a0.state,a0.attempt,(a0.pending-1),a0.next⟩:BEnt)) hW G0 A0 F0 E0 e0 rfl rfl rfl (by dsimp only;rw [if_neg om]);exact ⟨(j+1,(C0.set ((c0).toNat) (⟨a0.state,a0.attempt,(a0.pending-1),a0.next⟩:BEnt)),k1,zs,az,nz,kz,cz),od,alB,k0,om,j0,(ok_set J0 e0 rfl),s0.1,B0,(by rw [take_succ_at E0,List.filter_append,<-hz];simp only [List.filter_cons,List.filter_nil,s0.2];rw [if_neg (by simp;omega)];simp)⟩)) fun m1=>jCO 5 rfl<|sStF k0 j0 i0 2 (c0).toNat 0 (⟨a0.state,a0.attempt,(a0.pending-1),a0.next⟩:BEnt) (⟨2,a0.attempt,(a0.pending-1),a0.next⟩:BEnt) r0 (I 2) [I 2] sizeOf3 fun _ n1 t0 o1=>(by rw [List.set_set] at t0;exact jOO 5 rfl<|sBK o1 #[I c0] 3 fun _ _ q1=>sApp (nb:=8) q1 B0 1 (RdT.blk (enc:=Go.E.encI) (sz:=1) (xs:=[c0]) fR 1 0 rfl rfl rfl om) underlying22 (i:=Tryz.t3) kr fR fun r1 s1 t1 _ u1 v1=>jOO 5 rfl<|sAdd (j:Int) 1<|jOI 2 rfl<|(by have w1:=(v1.dropAt 0 rfl);have u0:=com_step (y':=(⟨2,a0.attempt,(a0.pending-1),a0.next⟩:BEnt)) hW G0 A0 F0 E0 e0 rfl rfl rfl (by dsimp only;rw [if_pos om]);exact ⟨(j+1,(C0.set ((c0).toNat) (⟨2,a0.attempt,(a0.pending-1),a0.next⟩:BEnt)),n1,(zs++[c0]),r1,(nz+1),s1,t1),od,alB,w1,om,t0,(ok_set J0 e0 rfl),u0.1,u1,(by rw [take_succ_at E0,List.filter_append,<-hz];simp only [List.filter_cons,List.filter_nil,u0.2];rw [if_pos (by simp;omega)])⟩))))
end Go.Proofs.YtkadmghedmodbaaGreat

namespace Go.Proofs.YtkadmghedmodbaaGreat
open Go Go.E Go.Proofs.Tryz
set_option linter.all false
set_option maxRecDepth 100000
set_option maxHeartbeats 2000000
variable {W w:World} {H:Chunk} {F:List Chunk}
theorem nextOf_len:∀(k:Nat) (D:List (List Int)) (j:Int),(nextOf k D j).length<=D.length
  |_,[],_=>by simp [nextOf]
  |k,d::D,j=>by
    have:=nextOf_len (k+1) D j
    simp only [nextOf,List.length_append,List.length_cons]
    split<;>simp<;>omega
theorem nx_short {es:List BEnt} {l:List Task} {n i q:Nat} {e:List Int} {x:BEnt} (h:es.map BEnt.v=(List.range n).map (entN l (i+1) ((l.map (·.deps.l)).take i++[e]))) (hx:es[q]?=some x) (hi:i<4096):x.next.l.length<=4096:=by
  have h1:=(ent_at h hx).2
  have h2:=congrArg BEntV.next h1
  have h3:=nextOf_len 0 ((l.map (·.deps.l)).take i++[e]) q
  have h4:x.next.l=nextOf 0 ((l.map (·.deps.l)).take i++[e]) q:=by simp only [BEnt.v,entN] at h2;rw [h2];split<;>rfl
  rw [h4];simp at h3;omega
theorem b_new (al:Option Addr) (nl kl:Nat) (l:List Task) (hl:RdT encTask 9 [H] al nl kl l) (dl:∀z∈l,Task.Ok [H] z) (hS:Sat W w (H::F)):
  Calls prog 51 #[.slice al nl kl] w fun e w'=>(validC l≠0/\e= .returned (.tuple #[.pointer none,I (validC l)])/\Sat W w' (H::F))\/(validC l=0/\∃(p:Nat) (M:Chunk),e= .returned (.tuple #[Pt p 0,I 0])/\BoardR p (newB l) M/\Sat W w' (M::H::F)):=by
 have L0:=hl.ll
 refine callsK 95 func51 rfl<|jCO 13 rfl<|sE 15 (nl:Int) 0 (fun k2=>jOR 15 rfl<|retT [.pointer none,I 5]<| .inl ⟨by rw [validC_lim om];decide,by rw [validC_lim om];rfl,hS⟩) fun k2=>jOC 6 rfl<|cD ((nl:Int)>4096) (fun l2=>jCR 8 rfl<|retT [.pointer none,I 5]<| .inl ⟨by rw [validC_lim om];decide,by rw [validC_lim om];rfl,hS⟩) fun l2=>jCC 11 rfl<|loopF [0,20,21] (γ:=Nat) (fun i R=>⟨[(22,I (i:Int))],R,nl-i,i<=nl/\(tasksOK 0 (l.take i)=true)/\(0<nl/\nl<=4096)⟩) 0 ⟨hS,om,by simp [tasksOK],om⟩ ?_
 rintro i ρ _ ⟨x0,hi,H0,P0⟩
 refine jCC 6 rfl<|cD ((i:Int)<(nl:Int)) (fun m2=>jCO 7 rfl<|sIN hl i fun j0 _ _ l0 n2=>sMA x0 (n2.up 0 rfl) 0 (encTask j0)<|sAlloc x0 zeroValue51 fun _ _ o2=>pu1<|sTk o2 0 rfl (encTask j0) fun _ l1=>gOO l1 6 [900] rfl<|cS (b_valid j0 (i:Int) ⟨(RdT.flat ((dl j0 (List.mem_of_getElem? l0)).deps.up 1 (by rfl)))⟩ l1.flat) fun _ m1=>jOC 3 rfl<|cBn (taskOK (i:Int) j0) (fun y0=>jCO 4 rfl<|sAdd (i:Int) 1<|jOI 2 rfl<|⟨i+1,od,alB,(m1.dropAt 0 rfl),om,(by rw [tasksOK_take l0,H0];simpa using y0),om⟩) fun y0=>jCR 12 rfl<|retT [.pointer none,I 1]<|(by have r2:=(m1.dropAt 0 rfl);have I0:=validC_bad om om (tasksOK_no l0 (by simpa using y0));exact .inl ⟨by rw [I0];decide,by rw [I0];rfl,r2⟩)) fun m2=>jCC 6 rfl ?_
 have hV:tasksOK 0 l=true:=by rw [<-List.take_of_length_le (i:=i) (l:=l) om];exact H0
 refine jCO 3 rfl<|sMake (kl:= .i64) (kc:= .i64) (enc:=encBEnt) (sz:=4) (nb:=48) x0 ⟨0,0,0,⟨none,0,0,[]⟩⟩ nl (nl:Int) (rfl:(nl:Int)=(nl:Int)) underlying170 (i:=Tryz.t175) kr fR fun m0 n1 _ s2 t2=>pu1<|sBx t2 [.slice (At m0 0) nl nl,I 0] fun e0 _ u2=>jOC 12 rfl ?_
 have v2:Sat W _ ([(e0, .cells #[.slice (At m0 0) nl nl,I 0] 172 (0,0))]::n1::(List.replicate nl ([]:Chunk)).flatten::H::F):=Sat.perm u2 (by simp)
 refine loopF [37,38,6] (γ:=Nat×(Option Addr)×Nat×(List BEnt)×Chunk×(List Chunk)) (fun ⟨i,ae,ke,es,c,cs⟩ R=>⟨[(39,I (i:Int))],[(e0, .cells #[.slice ae nl ke,I 0] 172 (0,0))]::c::cs.flatten::R,nl-i,i<=nl/\OwnT encBEnt 175 4 ae nl ke es c/\Nx es cs/\es.map BEnt.v=(List.range nl).map (entN l i ((l.map (·.deps.l)).take i))⟩) (0,(At m0 0),nl,(List.replicate nl ⟨0,0,0,⟨none,0,0,[]⟩⟩),n1,(List.replicate nl [])) ⟨v2,om,s2,Nx.rep _ _ rfl,(by rw [List.take_zero];exact ents_init l nl _ rfl)⟩ ?_
 rintro ⟨i,ae,ke,es,c,cs⟩ ρ _ ⟨z0,hi,hO,hN,hE⟩
 have R0:=hO.ll
 refine jCC 6 rfl<|CD ((i:Int)<(nl:Int)) (fun w2=>jCR 13 rfl<|retT [Pt e0 0,I 0]<|(by obtain rfl:nl=i:=(by omega);have J0:=ents_new om hE;have x2:Sat W _ (([(e0, .cells #[.slice ae nl ke,I 0] 172 (0,0))]++(c++cs.flatten))::H::F):=Sat.perm z0 (by simp);exact .inr ⟨validC_ok om om hV,_,_,rfl,⟨_,_,_,es,c,cs.flatten,by rw [done_new],hO,hN.ok,J0⟩,x2⟩)) fun w2=>jCO 7 rfl<|sIN hl i fun a0 _ _ f0 y2=>sMA z0 (y2.up 3 rfl) 0 (encTask a0)<|sAlloc z0 zeroValue51 fun _ _ z2=>pu1<|sTk z2 0 rfl (encTask a0) fun _ o1=>nilO ?_
 have hA:=taskOK_asc (tasksOK_at hV f0)
 have S0:=(dl a0 (List.mem_of_getElem? f0)).deps.len;have Q0:=(dl a0 (List.mem_of_getElem? f0)).deps.le
 refine gXO o1 8 [1] rfl<|sIO hO (i:Int) i fun b0 _ _ i0 _ k0=>jOO 8 rfl<|sStF o1 hO k0 2 i 0 b0 (⟨2,b0.attempt,b0.pending,b0.next⟩:BEnt) i0 (I 2) [I 2] sizeOf3 fun _ _ q1 r1=>gOO r1 10 [0] rfl ?_
 have s1:=set_at (y:=(⟨2,b0.attempt,b0.pending,b0.next⟩:BEnt)) i0
 have x4:=OwnT.ptr q1 k0 s1
 refine sStF r1 q1 k0 2 i 2 (⟨2,b0.attempt,b0.pending,b0.next⟩:BEnt) (⟨2,b0.attempt,(a0.deps.n:Int),b0.next⟩:BEnt) s1 (I (a0.deps.n:Int)) [I (a0.deps.n:Int)] sizeOf3 fun _ a3 n0 o0=>?_
 rw [List.set_set] at n0
 refine jOO 8 rfl ?_
 have t1:=set_at (y:=(⟨2,b0.attempt,(a0.deps.n:Int),b0.next⟩:BEnt)) i0
 refine sMp o0 ((OwnT.ptr n0 k0 t1).up 2 rfl) 2 (I (a0.deps.n:Int))<|jOC 3 rfl<|cD ((a0.deps.n:Int)>0) (fun c3=>?_) (fun c3=>?_)
 rotate_left
 ·refine gCC o0 11 [0] rfl<|loopF [68,69,7,6,39,37,38] (γ:=Nat×(List BEnt)×Chunk×(List Chunk)) (fun ⟨j,B0,c1,A0⟩ R=>⟨[(70,I (j:Int))],[(e0, .cells #[.slice ae nl ke,I 0] 172 (0,0))]::c1::A0.flatten::R,a0.deps.n-j,j<=a0.deps.n/\OwnT encBEnt 175 4 ae nl ke B0 c1/\Nx B0 A0/\B0.map BEnt.v=(List.range nl).map (entN l (i+1) ((l.map (·.deps.l)).take i++[a0.deps.l.take j]))⟩) (0,(es.set i (⟨2,b0.attempt,(a0.deps.n:Int),b0.next⟩:BEnt)),a3,cs) ⟨(o0.dropAt 0 rfl),om,n0,(Nx.keep hN i0 rfl),(ents_open hE f0 i0 (by simp only [st0];first|rw [if_pos om]|rw [if_neg om]) rfl (by dsimp only;omega) rfl)⟩ ?_
  rintro ⟨j,B0,c1,A0⟩ ρ _ ⟨a1,hj,C0,E0,D0⟩
  have G0:=C0.le;have F0:=C0.len
  refine jCC 6 rfl<|CD ((j:Int)<(a0.deps.n:Int)) (fun e3=>jCO 7 rfl<|sAdd (i:Int) 1<|jOI 2 rfl<|(by rw [show j=a0.deps.l.length by omega] at D0;exact ⟨(i+1,ae,ke,B0,c1,A0),od,alB,a1,om,C0,E0,ents_done D0 f0⟩)) fun e3=>jCO 6 rfl<|sII (dl a0 (List.mem_of_getElem? f0)).deps (j:Int) fun g0 _ _ b1 f3=>?_
  rw [Int.toNat_natCast] at b1
  refine sMp a1 (f3.up 3 rfl) 0 (I g0)<|jOC 3 rfl ?_
  have K0:=asc_mem hA g0 (List.mem_of_getElem? b1)
  obtain ⟨c0,_,_,p0,_,_,_⟩:=OwnT.elem C0 g0
  obtain ⟨g3,u1,d1⟩:=E0.get p0
  have M0:=d1.le;have N0:=d1.len
  have v1:=Sat.openN (A:=[[(e0, .cells #[.slice ae nl ke,I 0] 172 (0,0))],c1]) g0.toNat u1 a1
  change Sat _ _ (g3::[(e0, .cells #[.slice ae nl ke,I 0] 172 (0,0))]::c1::(A0.eraseIdx g0.toNat).flatten::H::F) at v1
  have O0:c0.next.l.length<=4096:=nx_short D0 p0 om
  obtain ⟨h3,c5,d5,w1,x1,y1,i3⟩:=OwnT.elem C0 g0
  obtain rfl:c0=h3:=Option.some.inj (p0.symm.trans w1)
  exact drawF v1 [14,15,18] (fb 3 1 0 1<|fb 8 1 0 1<|fq 12 3 (x1.up 2 rfl)<|fn) [0,1,2,4,5,6,7,9,13,3,8,10,11,12,14,15,16,17,18] fun _ j3=>wV 9<|wL 0<|wL 1<|wI y1<|wV 1<|wL 2<|wO rfl<|sBK j3 #[I (i:Int)] 3 fun _ _ q0=>nilO ⟨⟨cI q0 2,cI q0 2, .inr ((x1.up 3 rfl).cell q0 (k:=3) rfl),trivial⟩,(wO rfl<|sApp (nb:=8) q0 d1 1 (RdT.blk (enc:=Go.E.encI) (sz:=1) (xs:=[(i:Int)]) fR 1 0 rfl rfl rfl om) underlying22 (i:=Tryz.t3) kr fR fun r0 s0 e1 _ k3 z1=>nZ z1 [2,2]<|wI y1<|wV 1<|wO rfl<|sStF z1 C0 i3 3 (g0).toNat 3 c0 (⟨c0.state,c0.attempt,c0.pending,⟨r0,(c0.next.n+1),s0,(c0.next.l++[(i:Int)])⟩⟩:BEnt) w1 (.slice r0 (c0.next.n+1) s0) [.slice r0 (c0.next.n+1) s0] sizeOf22 fun _ f1 l3 m3=>nA<|wN<|(by have n3:=(m3.dropAt 0 rfl);have a2:=Sat.shutN (d:=e1) (A:=[[(e0, .cells #[.slice ae nl ke,I 0] 172 (0,0))],f1]) g0.toNat u1 n3;change Sat _ _ ([(e0, .cells #[.slice ae nl ke,I 0] 172 (0,0))]::f1::(A0.set g0.toNat e1).flatten::H::F) at a2;exact jXO 3 rfl<|sAdd (j:Int) 1<|jOI 2 rfl<|⟨(j+1,(B0.set ((g0).toNat) (⟨c0.state,c0.attempt,c0.pending,⟨r0,(c0.next.n+1),s0,(c0.next.l++[(i:Int)])⟩⟩:BEnt)),f1,(A0.set g0.toNat e1)),od,alB,a2,om,l3,(E0.set k3),(ents_dep D0 f0 b1 hA p0 rfl rfl rfl rfl)⟩))⟩
 refine jCO 4 rfl<|sStF o0 n0 k0 2 i 0 (⟨2,b0.attempt,(a0.deps.n:Int),b0.next⟩:BEnt) (⟨1,b0.attempt,(a0.deps.n:Int),b0.next⟩:BEnt) t1 (I 1) [I 1] sizeOf3 fun _ o3 b2 c2=>?_
 rw [List.set_set] at b2
 refine gOC c2 11 [0] rfl<|loopF [68,69,7,6,39,37,38] (γ:=Nat×(List BEnt)×Chunk×(List Chunk)) (fun ⟨j,B0,c1,A0⟩ R=>⟨[(70,I (j:Int))],[(e0, .cells #[.slice ae nl ke,I 0] 172 (0,0))]::c1::A0.flatten::R,a0.deps.n-j,j<=a0.deps.n/\OwnT encBEnt 175 4 ae nl ke B0 c1/\Nx B0 A0/\B0.map BEnt.v=(List.range nl).map (entN l (i+1) ((l.map (·.deps.l)).take i++[a0.deps.l.take j]))⟩) (0,(es.set i (⟨1,b0.attempt,(a0.deps.n:Int),b0.next⟩:BEnt)),o3,cs) ⟨(c2.dropAt 0 rfl),om,b2,(Nx.keep hN i0 rfl),(ents_open hE f0 i0 (by simp only [st0];first|rw [if_pos om]|rw [if_neg om]) rfl (by dsimp only;omega) rfl)⟩ ?_
 rintro ⟨j,B0,c1,A0⟩ ρ _ ⟨g1,hj,C0,E0,D0⟩
 have G0:=C0.le;have F0:=C0.len
 refine jCC 6 rfl<|CD ((j:Int)<(a0.deps.n:Int)) (fun r3=>jCO 7 rfl<|sAdd (i:Int) 1<|jOI 2 rfl<|(by rw [show j=a0.deps.l.length by omega] at D0;exact ⟨(i+1,ae,ke,B0,c1,A0),od,alB,g1,om,C0,E0,ents_done D0 f0⟩)) fun r3=>jCO 6 rfl<|sII (dl a0 (List.mem_of_getElem? f0)).deps (j:Int) fun h0 _ _ h1 s3=>?_
 rw [Int.toNat_natCast] at h1
 refine sMp g1 (s3.up 3 rfl) 0 (I h0)<|jOC 3 rfl ?_
 have K0:=asc_mem hA h0 (List.mem_of_getElem? h1)
 obtain ⟨d0,_,_,t0,_,_,_⟩:=OwnT.elem C0 h0
 obtain ⟨u3,d2,i1⟩:=E0.get t0
 have M0:=i1.le;have N0:=i1.len
 have e2:=Sat.openN (A:=[[(e0, .cells #[.slice ae nl ke,I 0] 172 (0,0))],c1]) h0.toNat d2 g1
 change Sat _ _ (u3::[(e0, .cells #[.slice ae nl ke,I 0] 172 (0,0))]::c1::(A0.eraseIdx h0.toNat).flatten::H::F) at e2
 have O0:d0.next.l.length<=4096:=nx_short D0 t0 om
 obtain ⟨v3,m5,n5,f2,g2,h2,w3⟩:=OwnT.elem C0 h0
 obtain rfl:d0=v3:=Option.some.inj (t0.symm.trans f2)
 exact drawF e2 [14,15,18] (fb 3 1 0 1<|fb 8 1 0 1<|fq 12 3 (g2.up 2 rfl)<|fn) [0,1,2,4,5,6,7,9,13,3,8,10,11,12,14,15,16,17,18] fun _ x3=>wV 9<|wL 0<|wL 1<|wI h2<|wV 1<|wL 2<|wO rfl<|sBK x3 #[I (i:Int)] 3 fun _ _ u0=>nilO ⟨⟨cI u0 2,cI u0 2, .inr ((g2.up 3 rfl).cell u0 (k:=3) rfl),trivial⟩,(wO rfl<|sApp (nb:=8) u0 i1 1 (RdT.blk (enc:=Go.E.encI) (sz:=1) (xs:=[(i:Int)]) fR 1 0 rfl rfl rfl om) underlying22 (i:=Tryz.t3) kr fR fun v0 w0 j1 _ y3 i2=>nZ i2 [2,2]<|wI h2<|wV 1<|wO rfl<|sStF i2 C0 w3 3 (h0).toNat 3 d0 (⟨d0.state,d0.attempt,d0.pending,⟨v0,(d0.next.n+1),w0,(d0.next.l++[(i:Int)])⟩⟩:BEnt) f2 (.slice v0 (d0.next.n+1) w0) [.slice v0 (d0.next.n+1) w0] sizeOf22 fun _ k1 z3 a4=>nA<|wN<|(by have b4:=(a4.dropAt 0 rfl);have j2:=Sat.shutN (d:=j1) (A:=[[(e0, .cells #[.slice ae nl ke,I 0] 172 (0,0))],k1]) h0.toNat d2 b4;change Sat _ _ ([(e0, .cells #[.slice ae nl ke,I 0] 172 (0,0))]::k1::(A0.set h0.toNat j1).flatten::H::F) at j2;exact jXO 3 rfl<|sAdd (j:Int) 1<|jOI 2 rfl<|⟨(j+1,(B0.set ((h0).toNat) (⟨d0.state,d0.attempt,d0.pending,⟨v0,(d0.next.n+1),w0,(d0.next.l++[(i:Int)])⟩⟩:BEnt)),k1,(A0.set h0.toNat j1)),od,alB,j2,om,z3,(E0.set y3),(ents_dep D0 f0 h1 hA t0 rfl rfl rfl rfl)⟩))⟩
theorem map_zero {α:Type} (l:List α):l.map (fun _=>(0:Int))=List.replicate l.length 0:=by
  induction l with
  |nil=>rfl
  |cons x l ih=>rw [List.map_cons,ih,List.length_cons,List.replicate_succ]
theorem st_step {l:List Task} {ss:List Int} {n i:Nat} {t:Task} {y:Int} (ht:l[i]?=some t) (h:ss=(l.take i).map (fun t=>st0 t.deps.l)++List.replicate (n-i) 0) (hi:i<n) (hy:y=st0 t.deps.l):
    ss.set i y=(l.take (i+1)).map (fun t=>st0 t.deps.l)++List.replicate (n-(i+1)) 0:=by
  rw [h,hy];exact set_rep (f:=fun t:Task=>st0 t.deps.l) ht hi
theorem r25_new (al:Option Addr) (nl kl:Nat) (l:List Task) (hl:RdT encTask 9 [H] al nl kl l) (dl:∀z∈l,Task.Ok [H] z) (hS:Sat W w (H::F)):
  Calls prog 57 #[.slice al nl kl] w fun e w'=>(validC l≠0/\e= .returned (.tuple #[.pointer none,I (validC l)])/\Sat W w' (H::F))\/(validC l=0/\∃(p:Nat) (M:Chunk),e= .returned (.tuple #[Pt p 0,I 0])/\RefR p (newB l) M/\Sat W w' (M::H::F)):=by
 have N0:=hl.le;have J0:=hl.len
 refine callsK 62 func57 rfl<|jCO 10 rfl<|cS (r25_valid al nl kl l (hl.fl 0) (fun z hz=>(dl z hz).of_mem (mF 0)) hS.flat) fun _ k0=>jOC 9 rfl<|CN (validC l) 0 (fun h0=>jCR 9 rfl<|retT [.pointer none,I (validC l)]<| .inl ⟨h0,rfl,k0⟩) fun h0=>jCC 2 rfl<|cutF k0 0 [0] (γ:=Nat×(Option Addr)×Nat×(Option Addr)×Nat×Chunk×Chunk) (fun ⟨p,sa,ks,aa,ka,cs,ca⟩ R=>⟨[(5,Pt p 0)],[(p, .cells #[nS, .slice sa nl ks, .slice aa nl ka] 179 (0,0))]::cs::ca::R,0,OwnT Go.E.encI 3 1 sa nl ks (List.replicate nl 0) cs/\OwnT Go.E.encI 3 1 aa nl ka (List.replicate nl 0) ca⟩) ?_ ?_
 ·have G0:validC l=0:=h0
  have K0:=validC_zero G0
  refine drawG k0 [2,5,7] (fn) (pS [0,1,3,4]<| .fk 2 5 (.ef 5<|pS [6]<| .ef 7<|pS [8]<| .fin) (.ef 2<|pS [6]<| .ef 7<|pS [8]<| .fin)) fun _ r0=>qV 4<|qF ?_ ?_
  rotate_left
  ·exact qO rfl<|sMake (kl:= .i64) (kc:= .i64) (enc:=Go.E.encI) (sz:=1) (nb:=8) r0 0 nl (nl:Int) (rfl:(nl:Int)=(nl:Int)) underlying22 (i:=Tryz.t3) kr fR fun l0 z0 _ a1 b1=>nA<|qO rfl<|sMake (kl:= .i64) (kc:= .i64) (enc:=Go.E.encI) (sz:=1) (nb:=8) b1 0 nl (nl:Int) (rfl:(nl:Int)=(nl:Int)) underlying22 (i:=Tryz.t3) kr fR fun m0 c1 _ d1 e1=>nA<|qV 1<|qO rfl<|sBx e1 [nS, .slice (At m0 0) nl nl, .slice (At l0 0) nl nl] fun f1 _ g1=>nA<|qV 1<|qN<|jXI 0 rfl<|⟨(f1,(At m0 0),nl,(At l0 0),nl,c1,z0),alB,g1,d1,a1⟩
  exact qO rfl<|sMake (kl:= .i64) (kc:= .i64) (enc:=Go.E.encI) (sz:=1) (nb:=8) r0 0 nl (nl:Int) (rfl:(nl:Int)=(nl:Int)) underlying22 (i:=Tryz.t3) kr fR fun n0 h1 _ i1 j1=>nA<|qO rfl<|sMake (kl:= .i64) (kc:= .i64) (enc:=Go.E.encI) (sz:=1) (nb:=8) j1 0 nl (nl:Int) (rfl:(nl:Int)=(nl:Int)) underlying22 (i:=Tryz.t3) kr fR fun o0 k1 _ l1 m1=>nA<|qV 1<|qO rfl<|sBx m1 [nS, .slice (At n0 0) nl nl, .slice (At o0 0) nl nl] fun n1 _ o1=>nA<|qV 1<|qN<|jXI 0 rfl<|⟨(n1,(At n0 0),nl,(At o0 0),nl,h1,k1),alB,(o1.picks [2,1]),i1,l1⟩
 rintro ⟨p,sa,ks,aa,ka,cs,ca⟩ ρ _ ⟨r1,M0,L0⟩
 refine jCC 2 rfl ?_
 have G0:validC l=0:=h0
 have K0:=validC_zero G0
 refine jCC 5 rfl ?_
 have s1:Sat W _ ([(p, .cells #[nS, .slice sa nl ks, .slice aa nl ka] 179 (0,0))]::([]:Chunk)::([]:Chunk)::cs::ca::H::F):=Sat.perm r1 (by simp)
 refine loopF [0,5] (γ:=Nat×(Option Addr)×Nat×Nat×(List Task)×Chunk×Chunk×(List Int)×Chunk) (fun ⟨i,E0,nt,kt,ts,ct,G,ss,C0⟩ R=>⟨[(6,I (i:Int))],[(p, .cells #[.slice E0 nt kt, .slice sa nl ks, .slice aa nl ka] 179 (0,0))]::ct::G::C0::R,nl-i,i<=nl/\OwnT encTask 51 9 E0 nt kt ts ct/\(∀z∈ts,Task.Ok [G] z)/\OwnT Go.E.encI 3 1 sa nl ks ss C0/\ts.map (·.deps.l)=(l.map (·.deps.l)).take i/\ss=(l.take i).map (fun t=>st0 t.deps.l)++List.replicate (nl-i) 0⟩) (0,none,0,0,[],[],[],(List.replicate nl 0),cs) ⟨s1,om,OwnT.nil fR,(fun z hz=>by cases hz),M0,(by simp),(by simp)⟩ ?_
 rintro ⟨i,E0,nt,kt,ts,ct,G,ss,C0⟩ ρ _ ⟨p0,hi,F0,H0,A0,D0,B0⟩
 have T0:=F0.ll;have S0:=A0.ll;have I0:=congrArg List.length D0;simp only [List.length_map,List.length_take] at I0
 refine jCC 9 rfl<|CD ((i:Int)<(nl:Int)) (fun t1=>jCR 13 rfl<|retT [Pt p 0,I 0]<|(by obtain rfl:nl=i:=(by omega);have u1:Sat W _ (([(p, .cells #[.slice E0 nt kt, .slice sa nl ks, .slice aa nl ka] 179 (0,0))]++(ct++(G++(C0++ca))))::H::F):=Sat.perm p0 (by simp);rw [List.take_of_length_le (by simp;omega)] at D0;rw [List.take_of_length_le om] at B0;exact .inr ⟨G0,_,_,rfl,⟨_,_,_,ts,_,_,_,_,_,_,ct,G,C0,ca,rfl,F0,H0,(by rw [show (newB l).st=ss by rw [B0];simp [newB]];exact A0),(by rw [show (newB l).att=List.replicate nl 0 by simp only [newB];rw [map_zero,J0]];exact L0),D0⟩,u1⟩)) fun t1=>jCO 8 rfl<|sIN hl i fun a0 _ _ b0 v1=>sMA p0 (v1.up 5 rfl) 0 (encTask a0)<|sAlloc p0 zeroValue51 fun _ _ w1=>sTk w1 0 rfl (encTask a0) fun _ s0=>nilO ?_
 have Q0:=asc_len om (taskOK_asc (tasksOK_at K0.2.2 b0));have U0:=(dl a0 (List.mem_of_getElem? b0)).deps.len;have R0:=(dl a0 (List.mem_of_getElem? b0)).deps.le
 refine gXO s0 5 [0] rfl<|sApp (nb:=8) (Sat.nilc s0) (OwnT.nil (enc:=Go.E.encI) (E:=3) (sz:=1) fR) 0 ((dl a0 (List.mem_of_getElem? b0)).deps.up 7 rfl) underlying22 (i:=Tryz.t3) kr fR fun f0 g0 e0 _ t0 z1=>pu1<|tWk z1 1 rfl 6 (.slice f0 (0+a0.deps.n) g0) fun _ a2=>jOC 3 rfl<|drawF a2 [6,7,10] (fb 4 2 0 1<|fb 5 1 0 9<|fn) [0,1,2,3,4,5,6,7,8,9,10] fun _ b2=>wV 4<|wL 0<|wG 1 9<|wO rfl<|sBK b2 (encTask {a0 with deps:=⟨f0,(0+a0.deps.n),g0,[]⟩}).toArray 51 fun _ _ u0=>nZ u0 [3]<|wO rfl<|sApp (nb:=88) u0 F0 4 (RdT.blk (enc:=encTask) (sz:=9) (xs:=[({a0 with deps:=⟨f0,(0+a0.deps.n),g0,([]++a0.deps.l)⟩}:Task)]) fR 1 0 rfl rfl rfl om) underlying45 (i:=Tryz.t51) kr fR fun c0 d0 i0 _ v0 c2=>nA<|wV 2<|wO rfl<|sT c2 3 0 (.slice c0 (nt+1) d0) [.slice c0 (nt+1) d0] #[.slice c0 (nt+1) d0, .slice sa nl ks, .slice aa nl ka] sizeOf45 fun _ w0=>nA<|wN<|gXO w0 8 [3] rfl<|sIO A0 (i:Int) i fun d2 _ _ e2 _ f2=>sStF w0 A0 f2 6 i 0 d2 1 e2 (I 1) [I 1] sizeOf3 fun _ x0 q0 j0=>gOC j0 10 [2] rfl<|cE (((0+a0.deps.n):Nat):Int) 0 (fun g2=>?_) (fun g2=>?_)
 rotate_left
 ·refine jCO 5 rfl<|sAdd (i:Int) 1<|jOI 2 rfl ?_
  have h2:=((j0.picks [4,4]).drops [2,3])
  have i2:Sat W _ ([(p, .cells #[.slice c0 (nt+1) d0, .slice sa nl ks, .slice aa nl ka] 179 (0,0))]::i0::(e0++G)::x0::ca::H::F):=Sat.perm h2 (by simp)
  exact ⟨(i+1,c0,(nt+1),d0,(ts++[({a0 with deps:=⟨f0,(0+a0.deps.n),g0,([]++a0.deps.l)⟩}:Task)]),i0,(e0++G),(ss.set i 1),x0),od,alB,i2,om,v0,(by
    intro z hz
    rcases List.mem_append.1 hz with h|h
    ·exact (H0 z h).of_mem mS
    ·simp only [List.mem_singleton] at h;subst h;exact ⟨(t0.rdAt (cs:=[e0]) 0 rfl).of_mem mS⟩),q0,(by rw [List.map_append,D0,take_succ_at (x:=a0.deps.l) (by simp [b0])];simp),(by first|exact st_step b0 B0 om (by simp only [st0];rw [if_neg om])|(rw [List.set_set];exact st_step b0 B0 om (by simp only [st0];rw [if_pos om])))⟩
 refine gCO j0 6 [3] rfl<|sIO q0 (i:Int) i fun j2 _ _ k2 _ l2=>sStF j0 q0 l2 6 i 0 j2 2 k2 (I 2) [I 2] sizeOf3 fun _ y0 m2 n2=>jOO 5 rfl<|sAdd (i:Int) 1<|jOI 2 rfl ?_
 have o2:=((n2.picks [4,4]).drops [2,3])
 have q2:Sat W _ ([(p, .cells #[.slice c0 (nt+1) d0, .slice sa nl ks, .slice aa nl ka] 179 (0,0))]::i0::(e0++G)::y0::ca::H::F):=Sat.perm o2 (by simp)
 exact ⟨(i+1,c0,(nt+1),d0,(ts++[({a0 with deps:=⟨f0,(0+a0.deps.n),g0,([]++a0.deps.l)⟩}:Task)]),i0,(e0++G),((ss.set i 1).set i 2),y0),od,alB,q2,om,v0,(by
   intro z hz
   rcases List.mem_append.1 hz with h|h
   ·exact (H0 z h).of_mem mS
   ·simp only [List.mem_singleton] at h;subst h;exact ⟨(t0.rdAt (cs:=[e0]) 0 rfl).of_mem mS⟩),m2,(by rw [List.map_append,D0,take_succ_at (x:=a0.deps.l) (by simp [b0])];simp),(by first|exact st_step b0 B0 om (by simp only [st0];rw [if_neg om])|(rw [List.set_set];exact st_step b0 B0 om (by simp only [st0];rw [if_pos om])))⟩
structure PW where
  phase:Int
  heldJob:Int
  heldTask:Int
  attempt:Int
  row:Int
  a:Nat
  d:Nat
instance:Inhabited PW:=⟨⟨0,0,0,0,0,0,0⟩⟩
def encPW (x:PW):List Value:=[.int .i64 x.phase, .int .i64 x.heldJob, .int .i64 x.heldTask, .int .i64 x.attempt, .int .i64 x.row, .pointer (some ⟨x.a,0,none⟩), .pointer (some ⟨x.d,0,none⟩)]
structure Core where
  p:Int
  h:Int
  t:Int
  a:Int
  r:Int
def PW.core (x:PW):Core:=⟨x.phase,x.heldJob,x.heldTask,x.attempt,x.row⟩
def Wkr.core (v:Wkr):Core:=⟨v.phase,v.heldJob,v.heldTask,v.attempt,v.row⟩
def ptrV (b:Nat):Value:= .pointer (some ⟨b,0,none⟩)
def canc (s:JS):Bool:=!s.running&&decide (doneOf s.B<((s.tasks.length:Nat):Int))
def JobP (b:Nat) (s:JS) (c:Chunk):Prop:=∃(ta:Option Addr) (tn tk:Nat) (tl:List Task) (bb:Nat) (T M:Chunk),
  c=[(b, .cells #[.slice ta tn tk, .int .i64 s.band, .pointer (some ⟨bb,0,none⟩), .bool (canc s)] 117 (0,0))]++(T++M)/\RdT encTask 9 [T] ta tn tk tl/\(∀z∈tl,Task.Ok [T] z)/\tl.map Task.v=s.tasks/\BoardR bb s.B M/\s.added=true/\(s.running=true->doneOf s.B<((s.tasks.length:Nat):Int))
def kvJ (jm:List (Int×Nat)):List (Int×Value):=jm.map fun x=>(x.1,ptrV x.2)
structure JobsP (jobs:List JS) (jm:List (Int×Nat)) (jcs:List Chunk):Prop where
  o:Obs JobP (jm.map (·.2)) (jm.map fun x=>jobs.getD x.1.toNat default) jcs
  nd:(jm.map (·.1)).Nodup
  k:∀i,i∈jm.map (·.1)↔0<=i/\i<64/\(jobs.getD i.toNat default).added=true
  l:jobs.length=64
theorem kv_get {jm:List (Int×Nat)} {n:Nat} {k:Int} {b:Nat} (hn:(jm.map (·.1)).Nodup) (h:jm[n]?=some (k,b)):iget (kvJ jm) k=some (ptrV b):=by
 induction jm generalizing n with
 |nil=>cases h
 |cons q jm ih=>
  rw [List.map_cons,List.nodup_cons] at hn
  cases n with
  |zero=>
   obtain rfl:q=(k,b):=by simpa using h
   simp [iget,kvJ]
  |succ n=>
   have h1:jm[n]?=some (k,b):=by simpa using h
   have h2:=ih hn.2 h1
   have h3:q.1≠k:=fun e=>hn.1 (by rw [e];exact List.mem_map.2 ⟨_,List.mem_of_getElem? h1,rfl⟩)
   unfold iget kvJ at*
   rw [List.map_cons,List.find?_cons]
   have h4:(q.1==k)=false:=by simpa using h3
   simp only [h4];exact h2
theorem kv_none {jm:List (Int×Nat)} {k:Int} (h:k∉jm.map (·.1)):iget (kvJ jm) k=none:=by
  unfold iget kvJ
  rw [List.find?_eq_none.2]
  · rfl
  · exact (by intro q hq;obtain ⟨x,hx,rfl⟩:=List.mem_map.1 hq;have:x.1≠k:=fun e=>h (List.mem_map.2 ⟨x,hx,e⟩);simpa using this)
theorem JobsP.get {jobs:List JS} {jm:List (Int×Nat)} {jcs:List Chunk} {k:Int} {j:JS} (h:JobsP jobs jm jcs) (hk:0<=k/\k<64) (hj:jobs[k.toNat]?=some j) (ha:j.added=true):
  ∃(n b:Nat) (c:Chunk),jm[n]?=some (k,b)/\jcs[n]?=some c/\JobP b j c/\iget (kvJ jm) k=some (ptrV b):=by
 have e:jobs.getD k.toNat default=j:=getD_some hj
 obtain ⟨x,hx,c0⟩:=List.mem_map.1 ((h.k k).2 ⟨hk.1,hk.2,by rw [e];exact ha⟩)
 obtain ⟨n,hn⟩:=List.getElem?_of_mem hx
 have hb:(jm.map (·.2))[n]?=some x.2:=by rw [List.getElem?_map,hn];rfl
 obtain ⟨s,c,hs,hc,hR⟩:=h.o.get hb
 rw [List.getElem?_map,hn] at hs
 obtain rfl:=Option.some.inj hs
 have b0:x=(k,x.2):=by rw [<-c0]
 exact ⟨n,x.2,c,by rw [hn,<-b0],hc,(by have a0:JobP x.2 (jobs.getD x.1.toNat default) c:=hR;rw [show x.1.toNat=k.toNat by rw [<-c0],e] at a0;exact a0),kv_get h.nd (n:=n) (by rw [hn,<-b0])⟩
theorem JobsP.no {jobs:List JS} {jm:List (Int×Nat)} {jcs:List Chunk} {k:Int} (h:JobsP jobs jm jcs) (hk:¬(0<=k/\k<64/\(jobs.getD k.toNat default).added=true)):iget (kvJ jm) k=none:=kv_none fun hm=>hk ((h.k k).1 hm)
theorem getD_set' {α:Type} {l:List α} {i k:Nat} {x d:α} (h:i<l.length):(l.set i x).getD k d=if i=k then x else l.getD k d:=by
  rw [List.getD_eq_getElem?_getD,List.getElem?_set,List.getD_eq_getElem?_getD]
  split
  · rfl
  · rfl
theorem JobsP.set {jobs:List JS} {jm:List (Int×Nat)} {jcs:List Chunk} {k:Int} {n b:Nat} {j2:JS} {c2:Chunk} (h:JobsP jobs jm jcs) (hk:0<=k/\k<64) (hn:jm[n]?=some (k,b)) (hR:JobP b j2 c2) (ha:j2.added=true):
  JobsP (jobs.set k.toNat j2) jm (jcs.set n c2):=by
 have hl:=h.l
 have hb:(jm.map (·.2))[n]?=some b:=by rw [List.getElem?_map,hn];rfl
 have a0:∀i,i∈jm.map (·.1)->0<=i/\i<64:=fun i hi=>⟨((h.k i).1 hi).1,((h.k i).1 hi).2.1⟩
 have e:(jm.map fun x=>(jobs.set k.toNat j2).getD x.1.toNat default)=(jm.map fun x=>jobs.getD x.1.toNat default).set n j2:=by
  apply List.ext_getElem?
  intro i
  rw [List.getElem?_map,List.getElem?_set,List.length_map]
  by_cases hi:n=i
  · exact (by subst hi;have b0:=(List.getElem?_eq_some_iff.1 hn).1;rw [if_pos rfl,if_pos b0,hn];simp only [Option.map_some];rw [getD_set' om,if_pos rfl])
  ·rw [if_neg hi,List.getElem?_map]
   cases hx:jm[i]? with
   |none=>rfl
   |some x=>
    simp only [Option.map_some]
    rw [getD_set' om,if_neg]
    intro q
    have c0:=a0 x.1 (List.mem_map.2 ⟨x,List.mem_of_getElem? hx,rfl⟩)
    have q2:k=x.1:=by omega
    have h1:(jm.map (·.1))[n]?=some k:=by rw [List.getElem?_map,hn];rfl
    have h2:(jm.map (·.1))[i]?=some k:=by rw [List.getElem?_map,hx,q2];rfl
    exact hi ((List.getElem?_inj ((List.getElem?_eq_some_iff.1 h1).1) h.nd).1 (h1.trans h2.symm))
 refine ⟨by rw [e];exact h.o.set hb hR,h.nd,?_,by rw [List.length_set];exact h.l⟩
 intro i
 rw [h.k i]
 constructor
 ·rintro ⟨h1,h2,h3⟩
  refine ⟨h1,h2,?_⟩
  rw [getD_set' om]
  split
  ·exact ha
  ·exact h3
 ·rintro ⟨h1,h2,h3⟩
  refine ⟨h1,h2,?_⟩
  rw [getD_set' om] at h3
  split at h3
  · exact (by rename_i q;have q2:k=i:=(by omega);have h4:k∈jm.map (·.1):=List.mem_map.2 ⟨_,List.mem_of_getElem? hn,rfl⟩;rw [<-q2];exact ((h.k k).1 h4).2.2)
  ·exact h3
theorem JobP.open {b:Nat} {s:JS} {c:Chunk} (h:JobP b s c):∃(ta:Option Addr) (tn tk:Nat) (tl:List Task) (bb:Nat) (T M:Chunk),
  c=[(b, .cells #[.slice ta tn tk, .int .i64 s.band, .pointer (some ⟨bb,0,none⟩), .bool (canc s)] 117 (0,0))]++(T++M)/\RdT encTask 9 [T] ta tn tk tl/\(∀z∈tl,Task.Ok [T] z)/\tl.map Task.v=s.tasks/\BoardR bb s.B M/\s.added=true/\(s.running=true->doneOf s.B<(s.tasks.length:Int)):=h
theorem JobP.mk {b:Nat} {s:JS} {ta:Option Addr} {tn tk:Nat} {tl:List Task} {bb:Nat} {T M:Chunk} {cn:Bool} (hT:RdT encTask 9 [T] ta tn tk tl) (hD:∀z∈tl,Task.Ok [T] z) (hV:tl.map Task.v=s.tasks) (hB:BoardR bb s.B M) (ha:s.added=true) (hr:s.running=true->doneOf s.B<(s.tasks.length:Int)) (hc:cn=canc s):
    JobP b s ([(b, .cells #[.slice ta tn tk, .int .i64 s.band, .pointer (some ⟨bb,0,none⟩), .bool cn] 117 (0,0))]++(T++M)):=by subst hc;exact ⟨_,_,_,_,_,_,_,rfl,hT,hD,hV,hB,ha,hr⟩
def preP (c:Cfg) (wb wo wn wk q m:Nat):List Value:=[.int .i64 c.workers, .int .i64 c.tileW, .int .i64 c.tileH, .int .i64 c.arena, .int .i64 c.deque, .int .i64 c.tasks, .int .i64 c.cells, .int .i64 c.jobs, .slice (some ⟨wb,wo,none⟩) wn wk, .pointer (some ⟨q,0,none⟩), .map (some m)]
def FarmP (p:Nat) (F:FS) (M:Chunk):Prop:=∃(wb wo wn wk q m:Nat) (xs:List PW) (jm:List (Int×Nat)) (Wc Qc Jc:Chunk) (acs dcs jcs:List Chunk),
  M=Tri p 83 (preP F.cfg wb wo wn wk q m) (([]:List Ref).flatMap encRef) (encStt F.st)++(Wc++(acs.flatten++(dcs.flatten++(Qc++(Jc++jcs.flatten)))))/\
  OwnT encPW 91 7 (some ⟨wb,wo,none⟩) wn wk xs Wc/\xs.map PW.core=F.ws.map Wkr.core/\Obs PaR (xs.map (·.a)) F.ar acs/\Obs DqP (xs.map (·.d)) F.dq dcs/\InjP q F.q Qc/\MapI m (kvJ jm) Jc/\JobsP F.jobs jm jcs
theorem core_at {xs:List PW} {ws:List Wkr} {k:Nat} {x:PW} (h:xs.map PW.core=ws.map Wkr.core) (hx:xs[k]?=some x):∃v,ws[k]?=some v/\x.phase=v.phase/\x.heldJob=v.heldJob/\x.heldTask=v.heldTask/\x.attempt=v.attempt/\x.row=v.row:=by
  have h1:(ws.map Wkr.core)[k]?=some x.core:=by rw [<-h,List.getElem?_map,hx];rfl
  rw [List.getElem?_map] at h1
  cases hv:ws[k]? with
  |none=>rw [hv] at h1;cases h1
  |some v=>
    rw [hv] at h1
    obtain ⟨e1,e2,e3,e4,e5⟩:=Core.mk.inj (Option.some.inj h1)
    exact ⟨v,rfl,e1.symm,e2.symm,e3.symm,e4.symm,e5.symm⟩
theorem core_set {xs:List PW} {ws:List Wkr} {k:Nat} {x':PW} {v':Wkr} (h:xs.map PW.core=ws.map Wkr.core) (e:x'.core=v'.core):(xs.set k x').map PW.core=(ws.set k v').map Wkr.core:=by
  rw [List.map_set,List.map_set,h,e]
theorem map_setA {xs:List PW} {k:Nat} {x x':PW} (hx:xs[k]?=some x) (e:x'.a=x.a):(xs.set k x').map (·.a)=xs.map (·.a):=by
  rw [List.map_set,e];exact set_same (by rw [List.getElem?_map,hx];rfl)
theorem map_setD {xs:List PW} {k:Nat} {x x':PW} (hx:xs[k]?=some x) (e:x'.d=x.d):(xs.set k x').map (·.d)=xs.map (·.d):=by
  rw [List.map_set,e];exact set_same (by rw [List.getElem?_map,hx];rfl)
theorem core_len {xs:List PW} {ws:List Wkr} (h:xs.map PW.core=ws.map Wkr.core):xs.length=ws.length:=by simpa using congrArg List.length h
theorem map_at' {α β:Type} {f:α->β} {l:List α} {i:Nat} {x:α} (h:l[i]?=some x):(l.map f)[i]?=some (f x):=by rw [List.getElem?_map,h];rfl
theorem canc_t {s:JS} (h:canc s=true):s.running=false:=by
  unfold canc at h;cases hr:s.running
  · rfl
  · rw [hr] at h;simp at h
theorem canc_f {s:JS} (h:¬canc s=true) (hlt:doneOf s.B<(s.tasks.length:Int)):s.running=true:=by
  unfold canc at h;cases hr:s.running
  · rw [hr,decide_eq_true hlt] at h;exact absurd rfl h
  · rfl
theorem canc_run {s:JS} (h:s.running=true):canc s=false:=by unfold canc;rw [h];rfl
theorem canc_done {s:JS} (h:doneOf s.B=(s.tasks.length:Int)):canc s=false:=by unfold canc;rw [decide_eq_false (by omega),Bool.and_false]
theorem run_eq {s:JS} (h:¬canc s=true) (hr:s.running=true->doneOf s.B<(s.tasks.length:Int)) (hd:s.B.deps.length=s.tasks.length):decide (doneOf s.B<(s.B.deps.length:Int))=s.running:=by
  rw [hd]
  cases e:s.running
  · by_cases h2:doneOf s.B<(s.tasks.length:Int)
    · rw [canc_f h h2] at e;cases e
    · exact decide_eq_false h2
  · exact decide_eq_true (hr e)
theorem some_addr {b o b' o':Nat} (h:(some ⟨b,o,none⟩:Option Addr)=some ⟨b',o',none⟩):b=b'/\o=o':=by cases h;exact ⟨rfl,rfl⟩
theorem p_holds {b off:Nat} {x:PW} {c:Chunk} {F0:List Chunk} (hp:PtR [c] b off (encPW x)) (hS:Sat W w (c::F0)):
  Calls prog 76 #[.pointer (some ⟨b,off,none⟩)] w fun e w'=>e= .returned (.bool (decide (x.phase≠0/\x.phase≠4)))/\Sat W w' (c::F0):=by
 exact callsK 15 func76 rfl<|jCO 10 rfl<|sMp hS (hp.up 0 rfl) 0 (I x.phase)<|pu2<|sN 8 x.phase 0 (fun a0=>jOR 10 rfl<|retT [.bool false]<|⟨rB ((decide_eq_false (p:=x.phase≠0/\x.phase≠4) om).symm),hS⟩) fun a0=>pu3<|gY<|sMp hS (hp.up 0 rfl) 0 (I x.phase)<|jOR 6 rfl<|retT [.bool ((x.phase:Int)!=4)]<|⟨rB (by rw [Bool.eq_iff_iff];simp only [decide_eq_true_eq,bne_iff_ne,ne_eq];omega),hS⟩
theorem p_rest {wb wo wn wk k:Nat} {xs:List PW} {x:PW} {ar:List AS} {Wc:Chunk} {acs F0:List Chunk} (hOw:OwnT encPW 91 7 (some ⟨wb,wo,none⟩) wn wk xs Wc) (hAs:Obs PaR (xs.map (·.a)) ar acs) (hx:xs[k]?=some x) (ph:Int) (hS:Sat W w (Wc::acs.flatten::F0)):
  Calls prog 65 #[.pointer (some ⟨wb,wo+k*7,none⟩),I ph] w fun e w'=>∃(Wc':Chunk) (acs':List Chunk),e= .returned (.tuple #[])/\OwnT encPW 91 7 (some ⟨wb,wo,none⟩) wn wk (xs.set k (⟨ph,0,0,0,0,x.a,x.d⟩:PW)) Wc'/\Obs PaR (xs.map (·.a)) (ar.set k (resetA (ar.getD k default))) acs'/\Sat W w' (Wc'::acs'.flatten::F0):=by
 have hp:=OwnT.ptr hOw rfl hx
 refine callsK 23 func65 rfl<|jCO 6 rfl<|sStF hS hOw rfl 0 k 0 x (⟨ph,x.heldJob,x.heldTask,x.attempt,x.row,x.a,x.d⟩:PW) hx (I ph) [I ph] sizeOf3 fun _ _ d0 j0=>jOO 8 rfl ?_
 have e0:=set_at (y:=(⟨ph,x.heldJob,x.heldTask,x.attempt,x.row,x.a,x.d⟩:PW)) hx
 have c1:=OwnT.ptr d0 rfl e0
 refine sStF j0 d0 rfl 0 k 1 (⟨ph,x.heldJob,x.heldTask,x.attempt,x.row,x.a,x.d⟩:PW) (⟨ph,0,0,x.attempt,x.row,x.a,x.d⟩:PW) e0 (.agg #[I 0,I 0]) [I 0,I 0] sizeOf61 fun _ _ a0 k0=>?_
 rw [List.set_set] at a0
 refine jOO 7 rfl ?_
 have f0:=set_at (y:=(⟨ph,0,0,x.attempt,x.row,x.a,x.d⟩:PW)) hx
 have f1:=OwnT.ptr a0 rfl f0
 refine sStF k0 a0 rfl 0 k 3 (⟨ph,0,0,x.attempt,x.row,x.a,x.d⟩:PW) (⟨ph,0,0,0,x.row,x.a,x.d⟩:PW) f0 (I 0) [I 0] sizeOf3 fun _ _ b0 l0=>?_
 rw [List.set_set] at b0
 refine jOO 7 rfl ?_
 have g0:=set_at (y:=(⟨ph,0,0,0,x.row,x.a,x.d⟩:PW)) hx
 have i1:=OwnT.ptr b0 rfl g0
 refine sStF l0 b0 rfl 0 k 4 (⟨ph,0,0,0,x.row,x.a,x.d⟩:PW) (⟨ph,0,0,0,0,x.a,x.d⟩:PW) g0 (I 0) [I 0] sizeOf3 fun _ _ c0 h0=>?_
 rw [List.set_set] at c0
 refine jOO 6 rfl<|sMp h0 ((OwnT.ptr c0 rfl (set_at (y:=(⟨ph,0,0,0,0,x.a,x.d⟩:PW)) hx)).up 0 rfl) 5 (.pointer (some ⟨x.a,0,none⟩)) ?_
 obtain ⟨l1,m1,o0,i0,p0⟩:=Obs.get hAs (map_at' hx)
 have q0:=(h0.pick 1 rfl)
 refine cZ (pa_reset p0 (Sat.flat1 (Sat.openN (A:=[]) k i0 q0))) ?_
 rintro _ _ ⟨s0,rfl,t0,u0⟩
 have v0:=u0.unflat1
 have w0:=(v0.picks [1,1])
 have x0:=Sat.shutN (d:=s0) (A:=[]) k i0 w0
 exact nilO<|ret0n rfl<|⟨_,_,rfl,c0,by rw [getD_some o0];exact (Obs.set hAs (map_at' hx) t0),(x0.pick 1 rfl)⟩
theorem p_running {b:Nat} {s:JS} {c:Chunk} {K:Int} {F0:List Chunk} (hJ:JobP b s c) (hBW:BWf s.B K) (hdl:s.B.deps.length=s.tasks.length) (hS:Sat W w (c::F0)):
  Calls prog 71 #[Pt b 0] w fun e w'=>e= .returned (.bool s.running)/\Sat W w' (c::F0):=by
 obtain ⟨ta,tn,tk,tl,bb,T,M,rfl,hT,hD,hV,hB,ha,hr⟩:=hJ.open
 have c0:Sat W _ ([(b, .cells #[.slice ta tn tk,I s.band,Pt bb 0, .bool (canc s)] 117 (0,0))]::T::M::F0):=Sat.perm hS (by simp)
 refine callsK 21 func71 rfl<|jCC 6 rfl<|bD ((canc s)=true) (fun a0=>drawF c0 [10,15] (fb 3 0 3 1<|fn) [0,1,2,3,4,5,6,7,8,11,12,13,9,14,10,15,16,17,18] fun _ b0=>wV 3<|wL 0<|wV 2<|wFix 8 _ false (congrArg Bool.not a0)<|wV 8<|wO rfl<|pu1<|nZ b0 [0]<|wO rfl<|pu1<|nZ b0 [0]<|wV 3<|wN<|jXR 2 rfl<|retT [.bool false]<|(by have f0:Sat W _ (([(b, .cells #[.slice ta tn tk,I s.band,Pt bb 0, .bool (canc s)] 117 (0,0))]++(T++M))::F0):=Sat.perm (show Sat W _ ([(b, .cells #[.slice ta tn tk,I s.band,Pt bb 0, .bool (canc s)] 117 (0,0))]::T::M::F0) from b0) (by simp);exact ⟨rB ((canc_t a0).symm),f0⟩)) fun a0=>drawF c0 [10,15] (fb 3 0 3 1<|fb 9 0 2 1<|fb 14 0 2 1<|fn) [0,1,2,3,4,5,6,7,8,11,12,13,9,14,10,15,16,17,18] fun _ g0=>wV 3<|wL 0<|wV 2<|wFix 8 _ true (congrArg Bool.not (Bool.eq_false_iff.2 a0))<|wV 6<|wL 1<|wL 2<|wO rfl<|gY ?_
 have h0:=(g0.pick 2 rfl)
 refine cZ (b_done hB hBW h0.flat1) ?_
 rintro _ _ ⟨rfl,i0⟩
 have d0:=i0.unflat1
 refine nZ d0 [1,1]<|wO rfl<|gY<|cZ (b_total hB hBW d0.flat1) ?_
 rintro _ _ ⟨rfl,j0⟩
 have e0:=j0.unflat1
 exact nZ e0 [1]<|wV 1<|wV 2<|wN<|jXR 2 rfl<|retT [.bool (decide ((doneOf s.B)<(s.B.deps.length:Int)))]<|(by have k0:=(e0.picks [2,2]);have l0:Sat W _ (([(b, .cells #[.slice ta tn tk,I s.band,Pt bb 0, .bool (canc s)] 117 (0,0))]++(T++M))::F0):=Sat.perm (show Sat W _ ([(b, .cells #[.slice ta tn tk,I s.band,Pt bb 0, .bool (canc s)] 117 (0,0))]::T::M::F0) from k0) (by simp);exact ⟨rB (run_eq a0 hr hdl),l0⟩)
theorem pf_worker {p:Nat} {F:FS} {M:Chunk} {F0:List Chunk} (hR:FarmP p F M) (x:Int) (hS:Sat W w (M::H::F0)):
  Calls prog 61 #[Pt p 0,I x] w fun e w'=>e= .returned (.bool (decide (0<=x/\x<(F.ws.length:Int))))/\Sat W w' (M::H::F0):=by
 obtain ⟨wb,wo,wn,wk,q,m,xs,jm,Wc,Qc,Jc,f0,g0,m0,rfl,e0,k0,h0,i0,hQ,hM,j0⟩:=hR
 have a0:Sat W _ ((Tri p 83 (preP F.cfg wb wo wn wk q m) (([]:List Ref).flatMap encRef) (encStt F.st))::Wc::f0.flatten::g0.flatten::Qc::Jc::m0.flatten::H::F0):=Sat.perm hS (by simp)
 have p0:=e0.ll;have n0:=core_len k0;have c0:=h0.1;have d0:=i0.1;rw [List.length_map] at c0 d0;have l0:=j0.l
 exact callsK 20 func61 rfl<|jCO 14 rfl<|SD 11 (x>=0) (fun b0=>jOR 12 rfl<|retT [.bool false]<|⟨rB ((decide_eq_false (p:=0<=x/\x<(F.ws.length:Int)) om).symm),(a0.merge7)⟩) fun b0=>pu4<|gY<|sMp a0 (ptr_up 0 rfl tri_pre) 8 (.slice (some ⟨wb,wo,none⟩) wn wk)<|jOR 7 rfl<|retT [.bool (decide (x<(wn:Int)))]<|⟨rB (by rw [Bool.eq_iff_iff];simp only [decide_eq_true_eq];omega),(a0.merge7)⟩
theorem p_empty {p q wb wo wn wk m:Nat} {c:Cfg} {mid post:List Value} {F0:List Chunk} (h0:0<wn/\wn<=9223372036854775807) (hS:Sat W w ((Tri p 83 (preP c wb wo wn wk q m) mid post)::F0)):
    Calls prog 50 #[.pointer (some ⟨p,0,none⟩)] w fun e w'=>e= .returned (.bool false)/\Sat W w' ((Tri p 83 (preP c wb wo wn wk q m) mid post)::F0):=by
  exact callsK 13 func50 rfl<|jCO 13 rfl<|gY<|sMp hS (ptr_up 0 rfl tri_pre) 8 (.slice (some ⟨wb,wo,none⟩) wn wk)<|jOR 7 rfl<|retT [.bool (((wn:Int):Int)==0)]<|⟨rB (by simp;omega),hS⟩
end Go.Proofs.YtkadmghedmodbaaGreat

namespace Go.Proofs.YtkadmghedmodbaaGreat
open Go Go.E Go.Proofs.Tryz
set_option linter.all false
set_option maxRecDepth 100000
set_option maxHeartbeats 2000000
variable {W w:World} {H:Chunk} {F:List Chunk}
theorem done_same {s:List Int} {k:Nat} {y:Int} (h:s.getD k 0≠4) (hy:y≠4):((s.set k y).filter fun x=>decide (x=4)).length=(s.filter fun x=>decide (x=4)).length:=by
  by_cases hk:k<s.length
  · exact (by have h1:=count_set (s:=s) (k:=k) (y:=y) hk;rw [if_neg h,if_neg hy] at h1;omega)
  · rw [List.set_eq_of_length_le (by omega)]
theorem start_done {B:BS} {i:Int}:doneOf (startB B i).1=doneOf B:=by
  unfold startB
  split
  · rename_i hi
    split
    · exact (by rename_i h2;unfold doneOf;dsimp only;rw [done_same (by rw [stAt_nat _ hi.1] at h2;omega) (by decide)])
    · rfl
  · rfl
theorem ret_done {B:BS} {i a:Int}:doneOf (retB B i a)=doneOf B:=by
  unfold retB
  split
  · exact (by rename_i h;have hz:=heldC_zero h;unfold doneOf;dsimp only;rw [done_same (by have:=hz.2.1;rw [stAt_nat _ hz.1.1] at this;omega) (by decide)])
  · rfl
def seqL (n:Nat) (c:Int):List Int:=(List.range n).map fun i=>choiceI ((n:Nat):Int) c ((i:Nat):Int)
theorem seq_len {n:Nat} {c:Int}:(seqL n c).length=n:=by unfold seqL;simp
theorem seq_at {n i:Nat} {c x:Int} (h:(seqL n c)[i]?=some x):x=choiceI (n:Int) c (i:Int):=by
  unfold seqL at h
  rw [List.getElem?_map] at h
  cases hr:(List.range n)[i]? with
  |none=>rw [hr] at h;cases h
  |some y=>
    rw [hr] at h
    have hy:y=i:=(by obtain ⟨h1,h2⟩:=List.getElem?_eq_some_iff.1 hr;rw [List.getElem_range] at h2;exact h2.symm)
    subst hy;exact (Option.some.inj h).symm
theorem seq_step {n i:Nat} {c v:Int} {zs:List Int} (hz:zs=(seqL n c).take i++List.replicate (n-i) 0) (hi:i<n) (hv:v=choiceI (n:Int) c (i:Int)):zs.set i v=(seqL n c).take (i+1)++List.replicate (n-(i+1)) 0:=by
 have hl:((seqL n c).take i).length=i:=by rw [List.length_take,seq_len];omega
 have hx:(seqL n c)[i]?=some v:=(by unfold seqL;rw [List.getElem?_map,List.getElem?_eq_getElem (by simpa using hi),List.getElem_range,hv];rfl)
 rw [hz,List.set_append_right _ _ om,hl,Nat.sub_self,take_succ_at hx,List.append_assoc]
 obtain ⟨m,hm⟩:∃m,n-i=m+1:=⟨n-i-1,om⟩
 rw [hm,show n-(i+1)=m by omega,List.replicate_succ,List.set_cons_zero];rfl
theorem busy_at {F:FS} {x:Int} {v:Wkr} {j:JS} (hv:F.ws[x.toNat]?=some v) (hh:Holds v) (hj:F.jobs[v.heldJob.toNat]?=some j):busyW F (wAt F x)=j.running:=by
  unfold busyW wAt jobAt;rw [getD_some hv,getD_some hj,decide_eq_true (show v.phase=1\/v.phase=2\/v.phase=3 from hh),Bool.true_and]
theorem busy_not {F:FS} {x:Int} {v:Wkr} (hv:F.ws[x.toNat]?=some v) (hh:¬Holds v):busyW F (wAt F x)=false:=by
  unfold busyW wAt;rw [getD_some hv,decide_eq_false (show ¬(v.phase=1\/v.phase=2\/v.phase=3) from hh),Bool.false_and]
theorem pf_start {p:Nat} {F:FS} {M:Chunk} {F0:List Chunk} (hR:FarmP p F M) {j:JS} {K:Int} (x:Int) (r:Ref) (hx:0<=x/\x<F.ws.length) (hr:0<=r.job/\r.job<64) (hj:F.jobs[r.job.toNat]?=some j) (ha:j.added=true) (hBW:BWf j.B K) (hst:0<=F.st.starts/\F.st.starts<4611686018427387904) (hS:Sat W w (M::H::F0)):
  Calls prog 126 #[Pt p 0,I x, .agg #[I r.job,I r.task]] w fun e w'=>∃M':Chunk,e= .returned (.tuple #[])/\FarmP p (takeF F x r) M'/\Sat W w' (M'::H::F0):=by
 obtain ⟨wb,wo,wn,wk,q,m,xs,jm,Wc,Qc,Jc,L0,M0,O0,rfl,D0,H0,J0,K0,hQ,hM,E0⟩:=hR
 have v0:Sat W _ ((Tri p 83 (preP F.cfg wb wo wn wk q m) (([]:List Ref).flatMap encRef) (encStt F.st))::Wc::L0.flatten::M0.flatten::Qc::Jc::O0.flatten::H::F0):=Sat.perm hS (by simp)
 have R0:=D0.ll;have P0:=core_len H0;have G0:=J0.1;have I0:=K0.1;rw [List.length_map] at G0 I0;have N0:=E0.l
 obtain ⟨j0,e0,y1,w0,k0,x0,y0⟩:=JobsP.get E0 (k:=r.job) ⟨om,om⟩ hj ha
 obtain ⟨z0,a1,b1,z1,f0,c1,a2,rfl,g0,d1,l0,e1,_,f1⟩:=x0.open
 have g1:=(v0.pick 6 rfl)
 have h1:=Sat.openN (A:=[]) j0 k0 g1
 have i1:=h1.split3
 have C0:=g0.ll;have A0:=congrArg List.length l0;rw [List.length_map] at A0
 refine callsK 54 func126 rfl<|jCO 2 rfl<|sBx i1 [I r.job,I r.task] fun m0 _ c0=>jOC 3 rfl<|drawE [6,12] [(3,⟨p,10,none⟩, .map (some m)),(5,⟨m0,0,none⟩,I r.job),(11,⟨m0,1,none⟩,I r.task),(9,⟨e0,2,none⟩,Pt f0 0)] [(true,[0,1,2,4,10]),(true,[3]),(true,[5]),(true,[11]),(false,[6]),(true,[7,8]),(true,[9]),(false,[12]),(true,[13]),(true,[14]),(true,[15]),(true,[16,17])] rfl kr ⟨.inr (cell_up c0 5 rfl (k:=10) tri_pre rfl),cI c0 0,cI c0 0,cI c0 1,trivial⟩ ?_
 have d0:=c0.drew
 refine wU [0,1,2,4,10]<|wLd (.map (some m)) 0 isAgg80<|wLd (I r.job) 1 isAgg3<|wLd (I r.task) 2 isAgg3<|wO rfl<|stepY (Pt e0 0) rfl rfl (Y_iget (k:=r.job) d0 10 hM (by rw [y0];rfl) runUnderlying80 runUnderlying3 zeroValue110)<|nilO ⟨⟨dI,dI,cI d0 0,cI d0 1,trivial⟩,?_⟩
 refine wU [7,8]<|wLd (Pt f0 0) 3 isAgg111<|wO rfl ?_
 have j1:=(d0.pick 3 rfl)
 refine cZ (b_start e1 hBW r.task j1.flat1) ?_
 rintro _ _ ⟨k1,rfl,l1,m1⟩
 have n0:=m1.unflat1
 refine nilO ⟨dA,?_⟩
 refine wU [13]<|wU [14]<|wU [15]<|wU [16,17]<|wN<|jXO 6 rfl<|sMp n0 (ptr_up 5 rfl tri_pre) 8 (.slice (some ⟨wb,wo,none⟩) wn wk)<|pu1<|sIO D0 x (x).toNat fun a0 _ _ b0 _ n1=>?_
 obtain ⟨rfl,rfl⟩:=some_addr n1
 obtain ⟨g2,h2,i2,k2,l2,m2,n2⟩:=core_at H0 b0
 refine jOO 8 rfl<|sStF n0 D0 rfl 6 (x).toNat 0 a0 (⟨1,a0.heldJob,a0.heldTask,a0.attempt,a0.row,a0.a,a0.d⟩:PW) b0 (I 1) [I 1] sizeOf3 fun _ _ o0 p0=>gOO p0 8 [201] rfl ?_
 have q0:=set_at (y:=(⟨1,a0.heldJob,a0.heldTask,a0.attempt,a0.row,a0.a,a0.d⟩:PW)) b0
 have r2:=OwnT.ptr o0 rfl q0
 refine sStF p0 o0 rfl 6 (x).toNat 1 (⟨1,a0.heldJob,a0.heldTask,a0.attempt,a0.row,a0.a,a0.d⟩:PW) (⟨1,r.job,r.task,a0.attempt,a0.row,a0.a,a0.d⟩:PW) q0 (.agg #[I r.job,I r.task]) [I r.job,I r.task] sizeOf61 fun _ _ h0 o1=>?_
 rw [List.set_set] at h0
 refine jOO 8 rfl ?_
 have r0:=set_at (y:=(⟨1,r.job,r.task,a0.attempt,a0.row,a0.a,a0.d⟩:PW)) b0
 have u2:=OwnT.ptr h0 rfl r0
 refine sStF o1 h0 rfl 6 (x).toNat 3 (⟨1,r.job,r.task,a0.attempt,a0.row,a0.a,a0.d⟩:PW) (⟨1,r.job,r.task,(startB j.B r.task).2.1,a0.row,a0.a,a0.d⟩:PW) r0 (I ((startB j.B r.task).2.1)) [I ((startB j.B r.task).2.1)] sizeOf3 fun _ _ i0 q1=>?_
 rw [List.set_set] at i0
 refine jOO 7 rfl ?_
 have s0:=set_at (y:=(⟨1,r.job,r.task,(startB j.B r.task).2.1,a0.row,a0.a,a0.d⟩:PW)) b0
 have x2:=OwnT.ptr i0 rfl s0
 refine sStF q1 i0 rfl 6 (x).toNat 4 (⟨1,r.job,r.task,(startB j.B r.task).2.1,a0.row,a0.a,a0.d⟩:PW) (⟨1,r.job,r.task,(startB j.B r.task).2.1,0,a0.a,a0.d⟩:PW) s0 (I 0) [I 0] sizeOf3 fun _ _ t0 u0=>?_
 rw [List.set_set] at t0
 refine jOO 7 rfl<|sMp u0 (ptr_up 5 rfl (tri_post (k:=11) (tri_len (sz:=2) (m:=11) fR (rfl:([]:List Ref).length=0)))) 0 (I F.st.starts)<|sAdd F.st.starts 1<|pu3<|sTpost u0 5 11 0 rfl (I (F.st.starts+1)) [I (F.st.starts+1)] [I (F.st.starts+1),I F.st.commits,I F.st.drops,I F.st.crashes,I F.st.steals,I F.st.helps,I F.st.spills,I F.st.queued,I F.st.held,I F.st.cells] (tri_len (sz:=2) (m:=11) fR (rfl:([]:List Ref).length=0)) sizeOf3 fun _ r1=>nilO<|ret0n rfl ?_
 have s1:=(r1.picks [4,1,4,4])
 have t1:=s1.merge3
 have u1:=Sat.shutN (d:=([(e0, .cells #[.slice z0 a1 b1,I j.band,Pt f0 0, .bool (canc j)] 117 (0,0))]++(c1++k1))) (A:=[]) j0 k0 t1
 have v1:=JobsP.set E0 (k:=r.job) (j2:={j with B:=(startB j.B r.task).1}) ⟨om,om⟩ w0 (JobP.mk (s:={j with B:=(startB j.B r.task).1}) (cn:=(canc j)) g0 d1 l0 l1 ha (fun h=>by rw [show ({j with B:=(startB j.B r.task).1}:JS).B=(startB j.B r.task).1 from rfl,start_done];exact f1 h) (by unfold canc;dsimp only;rw [start_done])) ha
 have w1:=((u1.picks [7,7,7,7,7,7]).dropAt 7 rfl)
 have x1:=(w1.merge7)
 have he:takeF F x r=(⟨F.cfg,(F.ws.set x.toNat ⟨1,r.job,r.task,(startB j.B r.task).2.1,0,0,(F.ar.getD x.toNat default).high⟩),F.ar,F.dq,F.q,(F.jobs.set r.job.toNat ({j with B:=(startB j.B r.task).1})),(⟨(F.st.starts+1),F.st.commits,F.st.drops,F.st.crashes,F.st.steals,F.st.helps,F.st.spills,F.st.queued,F.st.held,F.st.cells⟩:Stt)⟩:FS):=by unfold takeF jobAt;rw [getD_some hj]
 exact ⟨_,rfl,by rw [he];exact ⟨_,_,_,_,_,_,_,_,_,_,_,_,_,_,rfl,t0,(core_set H0 rfl),(by rw [map_setA (x':=(⟨1,r.job,r.task,(startB j.B r.task).2.1,0,a0.a,a0.d⟩:PW)) b0 rfl];exact J0),(by rw [map_setD (x':=(⟨1,r.job,r.task,(startB j.B r.task).2.1,0,a0.a,a0.d⟩:PW)) b0 rfl];exact K0),hQ,hM,v1⟩,x1⟩
theorem pf_drop {p:Nat} {F:FS} {M:Chunk} {F0:List Chunk} (hR:FarmP p F M) {v0:Wkr} (x:Int) (hx:0<=x/\x<F.ws.length) (hv0:F.ws[x.toNat]?=some v0) (hst:0<=F.st.drops/\F.st.drops<4611686018427387904) (hS:Sat W w (M::H::F0)):
  Calls prog 77 #[Pt p 0,I x] w fun e w'=>∃M':Chunk,e= .returned (.agg (encEvt ⟨9,x,0,0,v0.heldJob,v0.heldTask,0⟩).toArray)/\FarmP p (dropF F x) M'/\Sat W w' (M'::H::F0):=by
 obtain ⟨wb,wo,wn,wk,q,m,xs,jm,Wc,Qc,Jc,H0,I0,K0,rfl,z0,B0,D0,E0,hQ,hM,G0⟩:=hR
 have i0:Sat W _ ((Tri p 83 (preP F.cfg wb wo wn wk q m) (([]:List Ref).flatMap encRef) (encStt F.st))::Wc::H0.flatten::I0.flatten::Qc::Jc::K0.flatten::H::F0):=Sat.perm hS (by simp)
 have N0:=z0.ll;have L0:=core_len B0;have A0:=D0.1;have C0:=E0.1;rw [List.length_map] at A0 C0;have J0:=G0.l
 refine callsK 31 func77 rfl<|jCO 2 rfl<|sAlloc i0 zeroValue63 fun _ _ c0=>jOO 7 rfl<|sMp c0 (ptr_up 1 rfl tri_pre) 8 (.slice (some ⟨wb,wo,none⟩) wn wk)<|pu1<|sIO z0 x (x).toNat fun a0 _ _ b0 j0 k0=>?_
 obtain ⟨rfl,rfl⟩:=some_addr k0
 obtain ⟨l0,m0,n0,d0,e0,o0,p0⟩:=core_at B0 b0
 have y0:l0=v0:=Option.some.inj (m0.symm.trans hv0);rw [y0] at n0 d0 e0 o0 p0
 refine jOO 9 rfl<|sMA c0 (j0.up 2 rfl) 1 [I a0.heldJob,I a0.heldTask]<|pu1<|sAlloc c0 zeroValue63 fun _ _ q0=>sTk q0 0 rfl [I 9,I x,I 0,I 0,I a0.heldJob,I a0.heldTask,I 0] fun _ f0=>jOO 8 rfl<|sMp f0 (ptr_up 2 rfl (tri_post (k:=11) (tri_len (sz:=2) (m:=11) fR (rfl:([]:List Ref).length=0)))) 2 (I F.st.drops)<|sAdd F.st.drops 1<|pu3<|sTpost f0 2 11 2 rfl (I (F.st.drops+1)) [I (F.st.drops+1)] [I F.st.starts,I F.st.commits,I (F.st.drops+1),I F.st.crashes,I F.st.steals,I F.st.helps,I F.st.spills,I F.st.queued,I F.st.held,I F.st.cells] (tri_len (sz:=2) (m:=11) fR (rfl:([]:List Ref).length=0)) sizeOf3 fun _ r0=>jOO 5 rfl ?_
 have s0:=(r0.picks [4,4])
 refine cZ (p_rest z0 D0 b0 0 s0) ?_
 rintro _ _ ⟨_,_,rfl,t0,u0,g0⟩
 refine gOO g0 5 [702] rfl<|sTk g0 3 rfl [I 9,I x,I 0,I 0,I a0.heldJob,I a0.heldTask,I 0] fun _ h0=>jOR 3 rfl<|retN (vs:=[.agg #[I 9,I x,I 0,I 0,I a0.heldJob,I a0.heldTask,I 0]]) rfl (.cons (.cell _ _ _ _ kr (lvA h0 3 0 [I 9,I x,I 0,I 0,I a0.heldJob,I a0.heldTask,I 0] (isAgg63 _) (sizeOf63 _) rfl rfl rfl)) .nil) ?_
 have w0:=((h0.pick 4 rfl).drops [3,3])
 have x0:=(w0.merge7)
 have he:dropF F x=(⟨F.cfg,(F.ws.set x.toNat ⟨0,0,0,0,0,0,(F.ar.getD x.toNat default).high⟩),(F.ar.set (x).toNat (resetA (F.ar.getD (x).toNat default))),F.dq,F.q,F.jobs,(⟨F.st.starts,F.st.commits,(F.st.drops+1),F.st.crashes,F.st.steals,F.st.helps,F.st.spills,F.st.queued,F.st.held,F.st.cells⟩:Stt)⟩:FS):=by unfold dropF clearF arAt;rfl
 exact ⟨_,by rw [d0,e0];rfl,by rw [he];exact ⟨_,_,_,_,_,_,_,_,_,_,_,_,_,_,rfl,t0,(core_set B0 rfl),(by rw [map_setA (x':=(⟨0,0,0,0,0,a0.a,a0.d⟩:PW)) b0 rfl];exact u0),(by rw [map_setD (x':=(⟨0,0,0,0,0,a0.a,a0.d⟩:PW)) b0 rfl];exact E0),hQ,hM,G0⟩,x0⟩
theorem pf_seq {p:Nat} {F:FS} {M:Chunk} {F0:List Chunk} (hR:FarmP p F M) (c:Int) (hn:1<=F.ws.length/\F.ws.length<=64) (hS:Sat W w (M::H::F0)):
  Calls prog 80 #[Pt p 0,I c] w fun e w'=>∃(az:Option Addr) (nz kz:Nat) (Z:Chunk),e= .returned (.slice az nz kz)/\OwnT Go.E.encI 3 1 az nz kz (seqL F.ws.length c) Z/\Sat W w' (Z::M::H::F0):=by
 obtain ⟨wb,wo,wn,wk,q,m,xs,jm,Wc,Qc,Jc,M0,N0,T0,rfl,L0,R0,O0,P0,hQ,hM,Q0⟩:=hR
 have a0:Sat W _ ((Tri p 83 (preP F.cfg wb wo wn wk q m) (([]:List Ref).flatMap encRef) (encStt F.st))::Wc::M0.flatten::N0.flatten::Qc::Jc::T0.flatten::H::F0):=Sat.perm hS (by simp)
 have Y0:=L0.ll;have U0:=core_len R0;have H0:=O0.1;have I0:=P0.1;rw [List.length_map] at H0 I0;have S0:=Q0.l
 have V0:-(wn:Int)<c.tmod wn:=Int.lt_tmod_of_pos _ om;have W0:c.tmod wn<(wn:Int):=Int.tmod_lt_of_pos _ om
 refine callsK 39 func80 rfl<|jCO 10 rfl<|sMp a0 (ptr_up 0 rfl tri_pre) 8 (.slice (some ⟨wb,wo,none⟩) wn wk)<|jOO 8 rfl<|sRem c (wn:Int)<|jOC 10 rfl<|CD ((c.tmod (wn:Int))<0) (fun d0=>jCO 5 rfl<|sMake (kl:= .i64) (kc:= .i64) (enc:=Go.E.encI) (sz:=1) (nb:=8) a0 0 wn (wn:Int) (rfl:(wn:Int)=(wn:Int)) underlying22 (i:=Tryz.t3) kr fR fun e0 f0 _ g0 h0=>jOC 12 rfl<|loopF [5,6,25] (γ:=Nat×(List Int)×SO) (fun ⟨i,zs,x0,B0,A0,C0⟩ R=>⟨[(26,I (i:Int)),(7, .slice x0 B0 A0)],C0::R,wn-i,i<=wn/\(zs=(seqL wn c).take i++List.replicate (wn-i) 0)/\(zs.length=wn)/\OwnT Go.E.encI 3 1 x0 B0 A0 zs C0⟩) (0,(List.replicate wn 0),(At e0 0),wn,wn,f0) ⟨h0,om,(by simp),(by simp),g0⟩<|(by rintro ⟨i,zs,x0,B0,A0,C0⟩ ρ _ ⟨b0,hi,hz,K0,k0⟩;have G0:=k0.len;have E0:=k0.le;exact jCC 6 rfl<|CD ((i:Int)<(wn:Int)) (fun i0=>jCR 12 rfl<|retT [.slice x0 B0 A0]<|(by have J0:zs=seqL F.ws.length c:=(by rw [hz,List.take_of_length_le (by rw [seq_len];omega),show wn-i=0 by omega,show F.ws.length=wn by omega];simp);have D0:=k0;rw [J0] at D0;have j0:=(b0.picks [7,7,7,7,7,7,7]);exact ⟨_,_,_,_,rfl,D0,((j0.merge7).pick 1 rfl)⟩)) fun i0=>jCO 15 rfl<|sAdd (c.tmod (wn:Int)) (i:Int)<|pu1<|sRem ((c.tmod (wn:Int))+(i:Int)) (wn:Int)<|sIO k0 (i:Int) i fun l0 _ _ m0 _ n0=>sStF b0 k0 n0 0 i 0 l0 (((c.tmod (wn:Int))+(i:Int)).tmod (wn:Int)) m0 (I (((c.tmod (wn:Int))+(i:Int)).tmod (wn:Int))) [I (((c.tmod (wn:Int))+(i:Int)).tmod (wn:Int))] sizeOf3 fun _ o0 p0 q0=>jOO 4 rfl<|sAdd (i:Int) 1<|jOI 2 rfl<|⟨(i+1,(zs.set i (((c.tmod (wn:Int))+(i:Int)).tmod (wn:Int))),x0,B0,A0,o0),od,alB,q0,om,(seq_step hz om (by unfold choiceI;first|rw [if_pos om]|rw [if_neg om])),(by rw [List.length_set];exact K0),p0⟩)) fun d0=>?_
 refine jCO 3 rfl<|sAdd (c.tmod (wn:Int)) (wn:Int)<|jOO 6 rfl<|sMake (kl:= .i64) (kc:= .i64) (enc:=Go.E.encI) (sz:=1) (nb:=8) a0 0 wn (wn:Int) (rfl:(wn:Int)=(wn:Int)) underlying22 (i:=Tryz.t3) kr fR fun r0 s0 _ t0 u0=>jOC 12 rfl<|loopF [5,6,25] (γ:=Nat×(List Int)×SO) (fun ⟨i,zs,x0,B0,A0,C0⟩ R=>⟨[(26,I (i:Int)),(7, .slice x0 B0 A0)],C0::R,wn-i,i<=wn/\(zs=(seqL wn c).take i++List.replicate (wn-i) 0)/\(zs.length=wn)/\OwnT Go.E.encI 3 1 x0 B0 A0 zs C0⟩) (0,(List.replicate wn 0),(At r0 0),wn,wn,s0) ⟨u0,om,(by simp),(by simp),t0⟩ ?_
 rintro ⟨i,zs,x0,B0,A0,C0⟩ ρ _ ⟨c0,hi,hz,K0,k0⟩
 have G0:=k0.len;have E0:=k0.le
 exact jCC 6 rfl<|CD ((i:Int)<(wn:Int)) (fun v0=>jCR 12 rfl<|retT [.slice x0 B0 A0]<|(by have J0:zs=seqL F.ws.length c:=(by rw [hz,List.take_of_length_le (by rw [seq_len];omega),show wn-i=0 by omega,show F.ws.length=wn by omega];simp);have D0:=k0;rw [J0] at D0;have w0:=(c0.picks [7,7,7,7,7,7,7]);exact ⟨_,_,_,_,rfl,D0,((w0.merge7).pick 1 rfl)⟩)) fun v0=>jCO 15 rfl<|sAdd ((c.tmod (wn:Int))+(wn:Int)) (i:Int)<|pu1<|sRem (((c.tmod (wn:Int))+(wn:Int))+(i:Int)) (wn:Int)<|sIO k0 (i:Int) i fun y0 _ _ z0 _ a1=>sStF c0 k0 a1 0 i 0 y0 ((((c.tmod (wn:Int))+(wn:Int))+(i:Int)).tmod (wn:Int)) z0 (I ((((c.tmod (wn:Int))+(wn:Int))+(i:Int)).tmod (wn:Int))) [I ((((c.tmod (wn:Int))+(wn:Int))+(i:Int)).tmod (wn:Int))] sizeOf3 fun _ b1 c1 d1=>jOO 4 rfl<|sAdd (i:Int) 1<|jOI 2 rfl<|⟨(i+1,(zs.set i ((((c.tmod (wn:Int))+(wn:Int))+(i:Int)).tmod (wn:Int))),x0,B0,A0,b1),od,alB,d1,om,(seq_step hz om (by unfold choiceI;first|rw [if_pos om]|rw [if_neg om])),(by rw [List.length_set];exact K0),c1⟩
theorem pf_busy_h {p:Nat} {F:FS} {M:Chunk} {F0:List Chunk} (hR:FarmP p F M) {K:Int} (hF:FI F K) {v0:Wkr} (x:Int) (hx:0<=x/\x<F.ws.length) (hv0:F.ws[x.toNat]?=some v0) (hh:Holds v0) (hS:Sat W w (M::H::F0)):
  Calls prog 62 #[Pt p 0,I x] w fun e w'=>e= .returned (.bool (busyW F (wAt F x)))/\Sat W w' (M::H::F0):=by
 obtain ⟨wb,wo,wn,wk,q,m,xs,jm,Wc,Qc,Jc,N0,O0,T0,rfl,E0,K0,P0,Q0,hQ,hM,J0⟩:=hR
 have m0:Sat W _ ((Tri p 83 (preP F.cfg wb wo wn wk q m) (([]:List Ref).flatMap encRef) (encStt F.st))::Wc::N0.flatten::O0.flatten::Qc::Jc::T0.flatten::H::F0):=Sat.perm hS (by simp)
 have A1:=E0.ll;have W0:=core_len K0;have G0:=P0.1;have H0:=Q0.1;rw [List.length_map] at G0 H0;have S0:=J0.l
 obtain ⟨j,hj,ha,hz⟩:=hF.h.h _ _ hv0 hh;have L0:=hF.fw.j j (List.mem_of_getElem? hj);obtain ⟨I0,R0,U0,V0⟩:=L0.b ha;have X0:=L0.n;have M0:=hF.fw.w v0 (List.mem_of_getElem? hv0);have Y0:=M0.h;have v1:=M0.r;have Z0:=held_lt I0 hz;have o1:v0.phase=1\/v0.phase=2\/v0.phase=3:=hh
 obtain ⟨g0,h0,w1,x1,e0,n0,o0⟩:=JobsP.get J0 (k:=v0.heldJob) ⟨om,om⟩ hj ha
 obtain ⟨p0,q0,r0,y1,s0,t0,u0,rfl,f0,w0,i0,x0,_,y0⟩:=n0.open
 have z0:=(m0.pick 6 rfl)
 have a1:=Sat.openN (A:=[]) g0 e0 z0
 have b0:=a1.split3
 have D0:=f0.ll;have A0:=congrArg List.length i0;rw [List.length_map] at A0
 refine callsK 27 func62 rfl<|jCO 10 rfl<|sMp b0 (ptr_up 4 rfl tri_pre) 8 (.slice (some ⟨wb,wo,none⟩) wn wk)<|pu1<|sIO E0 x (x).toNat fun a0 _ _ b1 c0 c1=>?_
 obtain ⟨rfl,rfl⟩:=some_addr c1
 obtain ⟨d1,e1,f1,j0,g1,h1,i1⟩:=core_at K0 b1
 have B0:d1=v0:=Option.some.inj (e1.symm.trans hv0);rw [B0] at f1 j0 g1 h1 i1
 refine jOC 4 rfl<|bC (a0.phase≠0/\a0.phase≠4) (fun k0=>drawF b0 [1,12,13] (fn) [0,1,2,3,4,5,7,8,9,10,6,11,12,13,14,15] fun _ j1=>wV 1<|wO rfl<|(by have k1:=(j1.pick 5 rfl);refine cZ (p_holds (x:=a0) c0 k1) ?_;rintro _ _ ⟨rfl,_⟩;exact nA<|wV 1<|wFix 14 _ false (decide_eq_false k0)<|wV 9<|wO rfl<|pu1<|nA<|wO rfl<|pu1<|nA<|wV 2<|wN<|jXR 2 rfl<|retT [.bool false]<|(by omega))) fun k0=>?_
 refine drawE [1,12,13] [(6,⟨p,10,none⟩, .map (some m)),(11,⟨wb,wo+(x).toNat*7+1+0,none⟩,I a0.heldJob)] [(true,[0]),(false,[1]),(true,[2]),(true,[3,4,5,7,8,9,10]),(true,[6]),(true,[11]),(false,[12]),(false,[13]),(true,[14,15])] rfl kr ⟨.inr (cell_up b0 4 rfl (k:=10) tri_pre rfl), .inr ((c0.up 5 rfl).cell b0 (k:=1) rfl),trivial⟩ ?_
 have l1:=b0.drew
 refine wU [0]<|wO rfl ?_
 have m1:=(l1.pick 5 rfl)
 refine cZ (p_holds (x:=a0) c0 m1) ?_
 rintro _ _ ⟨rfl,d0⟩
 refine nilO ⟨⟨.inr (cell_up d0 5 rfl (k:=10) tri_pre rfl), .inr ((c0.up 0 rfl).cell d0 (k:=1) rfl),trivial⟩,?_⟩
 refine wU [2]<|wFix 14 _ true (decide_eq_true k0)<|wU [3,4,5,7,8,9,10]<|wLd (.map (some m)) 0 isAgg80<|wLd (I a0.heldJob) 1 isAgg3<|wO rfl<|gY<|stepY (Pt h0 0) rfl rfl (Y_iget (k:=a0.heldJob) d0 9 hM (by rw [j0,o0];rfl) runUnderlying80 runUnderlying3 zeroValue110)<|nilO ⟨dA,?_⟩
 refine wO rfl<|gY ?_
 have n1:=(d0.picks [3,3,3])
 refine cZ (p_running (s:=j) (JobP.mk (s:=j) f0 w0 i0 x0 ha y0 rfl) I0 R0 n1.merge3) ?_
 rintro _ _ ⟨rfl,q1⟩
 have r1:=q1.split3
 exact nilO ⟨dA,(wU [14,15]<|wN<|jXR 2 rfl<|retT [.bool j.running]<|(by have s1:=(r1.picks [4,3,3,3]);have t1:=s1.merge3;have l0:=Sat.shutN (d:=([(h0, .cells #[.slice p0 q0 r0,I j.band,Pt s0 0, .bool (canc j)] 117 (0,0))]++(t0++u0))) (A:=[]) g0 e0 t1;rw [set_same e0] at l0;have u1:=(l0.picks [6,6,6,6,5,6]);exact ⟨rB ((busy_at hv0 hh hj).symm),(u1.merge7)⟩))⟩
theorem pf_busy_n {p:Nat} {F:FS} {M:Chunk} {F0:List Chunk} (hR:FarmP p F M) {K:Int} (hF:FI F K) {v0:Wkr} (x:Int) (hx:0<=x/\x<F.ws.length) (hv0:F.ws[x.toNat]?=some v0) (hh:¬Holds v0) (hS:Sat W w (M::H::F0)):
  Calls prog 62 #[Pt p 0,I x] w fun e w'=>e= .returned (.bool (busyW F (wAt F x)))/\Sat W w' (M::H::F0):=by
 obtain ⟨wb,wo,wn,wk,q,m,xs,jm,Wc,Qc,Jc,x0,y0,D0,rfl,s0,w0,z0,A0,hQ,hM,B0⟩:=hR
 have b0:Sat W _ ((Tri p 83 (preP F.cfg wb wo wn wk q m) (([]:List Ref).flatMap encRef) (encStt F.st))::Wc::x0.flatten::y0.flatten::Qc::Jc::D0.flatten::H::F0):=Sat.perm hS (by simp)
 have I0:=s0.ll;have E0:=core_len w0;have t0:=z0.1;have u0:=A0.1;rw [List.length_map] at t0 u0;have C0:=B0.l
 have G0:=hF.idle hv0 hh
 refine callsK 27 func62 rfl<|jCO 10 rfl<|sMp b0 (ptr_up 0 rfl tri_pre) 8 (.slice (some ⟨wb,wo,none⟩) wn wk)<|pu1<|sIO s0 x (x).toNat fun a0 _ _ c0 d0 e0=>?_
 obtain ⟨rfl,rfl⟩:=some_addr e0
 obtain ⟨f0,g0,h0,i0,j0,k0,l0⟩:=core_at w0 c0
 have r0:f0=v0:=Option.some.inj (g0.symm.trans hv0);rw [r0] at h0 i0 j0 k0 l0
 refine jOC 4 rfl ?_
 have m0:¬(a0.phase≠0/\a0.phase≠4):=om
 refine drawF b0 [1,12,13] (fn) [0,1,2,3,4,5,7,8,9,10,6,11,12,13,14,15] fun _ n0=>wV 1<|wO rfl ?_
 have o0:=(n0.pick 1 rfl)
 refine cZ (p_holds (x:=a0) d0 o0) ?_
 rintro _ _ ⟨rfl,p0⟩
 exact nA<|wV 1<|wFix 14 _ false (decide_eq_false m0)<|wV 9<|wO rfl<|pu1<|nA<|wO rfl<|pu1<|nA<|wV 2<|wN<|jXR 2 rfl<|retT [.bool false]<|(by have q0:=(p0.pick 1 rfl);exact ⟨rB ((busy_not hv0 hh).symm),(q0.merge7)⟩)
theorem pf_busy {W w:World} {p:Nat} {F:FS} {M H:Chunk} {F0:List Chunk} (hR:FarmP p F M) {K:Int} (hF:FI F K) (x:Int) (hx:0<=x/\x<F.ws.length) (hS:Sat W w (M::H::F0)):
    Calls prog 62 #[.pointer (some ⟨p,0,none⟩), .int .i64 x] w fun e w'=>e= .returned (.bool (busyW F (wAt F x)))/\Sat W w' (M::H::F0):=by
  by_cases hh:Holds (wAt F x)
  · exact pf_busy_h hR hF x hx (hF.fw.wmem hx) hh hS
  · exact pf_busy_n hR hF x hx (hF.fw.wmem hx) hh hS
end Go.Proofs.YtkadmghedmodbaaGreat
