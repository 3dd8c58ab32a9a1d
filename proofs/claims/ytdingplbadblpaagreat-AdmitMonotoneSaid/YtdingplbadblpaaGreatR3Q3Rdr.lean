import Derived.WalkKit
import Derived.Deep.Quiet
import Derived.KernelRfl
import Derived.Laws.BytesString
import Derived.Laws.Shifts
import Derived.Laws.IdiomStrings
import Derived.OpenShut
import Derived.Test.YtdingplbadblpaaGreatProg
import Derived.Test.YtdingplbadblpaaGreatR3Q3Ab
namespace Go.Proofs.YtdingplbadblpaaGreat
open Go Go.E Go.Proofs.Tryz
set_option linter.all false
set_option maxRecDepth 100000
set_option maxHeartbeats 2000000
variable {W w:World} {H:Chunk} {F:List Chunk}
theorem rdr_number (W w:World) (p:Nat) (H fp:Chunk) (F:List Chunk) (r:List Int) (b:Bool) (hI:RdrR 136 H p r b fp) (hS:Sat W w (fp::H::F)):
  Calls prog 121 #[Pt p 0] w fun e w'=>∃(v:Int) (r':List Int) (b':Bool),e= .returned (I v)/\Got encN WfI r b v r' b'/\WfI v/\∃fp':Chunk,RdrR 136 H p r' b' fp'/\Sat W w' (fp'::H::F):=by
 obtain ⟨a,n,k,rfl,hR,hB⟩:=hI
 have hle:=hR.le;have hll:=hR.len
 refine callsA 55 func121 rfl<|sR<|pu1<|zQ<|pu3<|sL hS 0 1 (.bool b) (isAgg4 _)<|pu1 ?_
 cases b
 rotate_left
 ·refine pu7<|zC<|pu3<|sT hS 0 1 (.bool true) [.bool true] #[.slice a n k, .bool true] sizeOf4 fun _ r0=>zS<|pu1<|zR<|retT [I 0] ?_
  exact ⟨0,r,true,rfl,Got.fail 0 (by first|exact .inl rfl|(right;omega)),by unfold WfI;omega,_,⟨_,_,_,rfl,hR,hB⟩,r0⟩
 refine pu3<|gY<|sL hS 0 0 (.slice a n k) (isAgg74 _)<|pu3<|nT<|cD ((n:Int)<8) (fun s0=>?_) (fun s0=>?_)
 ·refine sR<|pu3<|sT hS 0 1 (.bool true) [.bool true] #[.slice a n k, .bool true] sizeOf4 fun _ t0=>zS<|pu1<|zR<|retT [I 0] ?_
  exact ⟨0,r,true,rfl,Got.fail 0 (by first|exact .inl rfl|(right;omega)),by unfold WfI;omega,_,⟨_,_,_,rfl,hR,hB⟩,t0⟩
 refine kS<|pu1<|zQ<|pu3<|sL hS 0 0 (.slice a n k) (isAgg74 _)<|sSl none (some 8) 0 8 runUnderlying74 sizeOf5 rfl ⟨by decide,rfl⟩ om om ?_ (a:=a) (len:=n) (cap:=k)
 have i0:=hR.part (lo:=0) (hi:=8) om om
 refine pu2<|nT<|blockE<|loopN 9<|roundS<|sR<|pu1<|nT<|seqE<|cTt<|kT<|seqE<|blockE<|sR<|sIdx i0 0 runUnderlying74 sizeOf5 fun a0 _ _ u0 v0=>?_
 have j0:r[0]?=some a0:=by have h:=u0;first|exact h|(simp only [List.drop_zero] at h;rw [List.getElem?_take] at h;simpa using h)
 have hb_x_5:=hB.1 a0 (List.mem_of_getElem? j0)
 refine sLp hS (v0.up 1 rfl) 0 (.int .u8 a0) (isAgg5 _)<|pu1<|nT<|rE<|pu1<|stepY (.int .u64 ((0:Int)*256)) rfl rfl (Y_shl .u64 .u64 0 8 256 _ rfl kr kr (by decide) (by decide) (wrapIn_u64 _ om))<|pu1<|stepY (.int .u64 a0) rfl rfl (Y_conv (k:= .u8) (a:=a0) underlying5 underlying159 (wrapIn_u64 _ om) rfl kr)<|stepY (.int .u64 (((0:Int)*256)+a0)) rfl rfl (Y_orLow ((0:Int)*256) a0 rfl kr kr om om om)<|pu1<|nB<|rE<|pu2<|nT<|roundS<|sR<|pu1<|nT<|seqE<|cTt<|kT<|seqE<|blockE<|sR<|sIdx i0 1 runUnderlying74 sizeOf5 fun b0 _ _ w0 x0=>?_
 have k0:r[1]?=some b0:=by have h:=w0;first|exact h|(simp only [List.drop_zero] at h;rw [List.getElem?_take] at h;simpa using h)
 have hb_x_11:=hB.1 b0 (List.mem_of_getElem? k0)
 refine sLp hS (x0.up 1 rfl) 0 (.int .u8 b0) (isAgg5 _)<|pu1<|nT<|rE<|pu1<|stepY (.int .u64 ((((0:Int)*256)+a0)*256)) rfl rfl (Y_shl .u64 .u64 (((0:Int)*256)+a0) 8 256 _ rfl kr kr (by decide) (by decide) (wrapIn_u64 _ om))<|pu1<|stepY (.int .u64 b0) rfl rfl (Y_conv (k:= .u8) (a:=b0) underlying5 underlying159 (wrapIn_u64 _ om) rfl kr)<|stepY (.int .u64 (((((0:Int)*256)+a0)*256)+b0)) rfl rfl (Y_orLow ((((0:Int)*256)+a0)*256) b0 rfl kr kr om om om)<|pu1<|nB<|rE<|pu2<|nT<|roundS<|sR<|pu1<|nT<|seqE<|cTt<|kT<|seqE<|blockE<|sR<|sIdx i0 2 runUnderlying74 sizeOf5 fun c0 _ _ y0 z0=>?_
 have l0:r[2]?=some c0:=by have h:=y0;first|exact h|(simp only [List.drop_zero] at h;rw [List.getElem?_take] at h;simpa using h)
 have hb_x_17:=hB.1 c0 (List.mem_of_getElem? l0)
 refine sLp hS (z0.up 1 rfl) 0 (.int .u8 c0) (isAgg5 _)<|pu1<|nT<|rE<|pu1<|stepY (.int .u64 ((((((0:Int)*256)+a0)*256)+b0)*256)) rfl rfl (Y_shl .u64 .u64 (((((0:Int)*256)+a0)*256)+b0) 8 256 _ rfl kr kr (by decide) (by decide) (wrapIn_u64 _ om))<|pu1<|stepY (.int .u64 c0) rfl rfl (Y_conv (k:= .u8) (a:=c0) underlying5 underlying159 (wrapIn_u64 _ om) rfl kr)<|stepY (.int .u64 (((((((0:Int)*256)+a0)*256)+b0)*256)+c0)) rfl rfl (Y_orLow ((((((0:Int)*256)+a0)*256)+b0)*256) c0 rfl kr kr om om om)<|pu1<|nB<|rE<|pu2<|nT<|roundS<|sR<|pu1<|nT<|seqE<|cTt<|kT<|seqE<|blockE<|sR ?_
 refine sIdx i0 3 runUnderlying74 sizeOf5 fun d0 _ _ a1 b1=>?_
 have m0:r[3]?=some d0:=by have h:=a1;first|exact h|(simp only [List.drop_zero] at h;rw [List.getElem?_take] at h;simpa using h)
 have hb_x_23:=hB.1 d0 (List.mem_of_getElem? m0)
 refine sLp hS (b1.up 1 rfl) 0 (.int .u8 d0) (isAgg5 _)<|pu1<|nT<|rE<|pu1<|stepY (.int .u64 ((((((((0:Int)*256)+a0)*256)+b0)*256)+c0)*256)) rfl rfl (Y_shl .u64 .u64 (((((((0:Int)*256)+a0)*256)+b0)*256)+c0) 8 256 _ rfl kr kr (by decide) (by decide) (wrapIn_u64 _ om))<|pu1<|stepY (.int .u64 d0) rfl rfl (Y_conv (k:= .u8) (a:=d0) underlying5 underlying159 (wrapIn_u64 _ om) rfl kr)<|stepY (.int .u64 (((((((((0:Int)*256)+a0)*256)+b0)*256)+c0)*256)+d0)) rfl rfl (Y_orLow ((((((((0:Int)*256)+a0)*256)+b0)*256)+c0)*256) d0 rfl kr kr om om om)<|pu1<|nB<|rE<|pu2<|nT<|roundS ?_
 refine sR<|pu1<|nT<|seqE<|cTt<|kT<|seqE<|blockE<|sR<|sIdx i0 4 runUnderlying74 sizeOf5 fun e0 _ _ c1 d1=>?_
 have n0:r[4]?=some e0:=by have h:=c1;first|exact h|(simp only [List.drop_zero] at h;rw [List.getElem?_take] at h;simpa using h)
 have hb_x_29:=hB.1 e0 (List.mem_of_getElem? n0)
 refine sLp hS (d1.up 1 rfl) 0 (.int .u8 e0) (isAgg5 _)<|pu1<|nT<|rE<|pu1<|stepY (.int .u64 ((((((((((0:Int)*256)+a0)*256)+b0)*256)+c0)*256)+d0)*256)) rfl rfl (Y_shl .u64 .u64 (((((((((0:Int)*256)+a0)*256)+b0)*256)+c0)*256)+d0) 8 256 _ rfl kr kr (by decide) (by decide) (wrapIn_u64 _ om))<|pu1<|stepY (.int .u64 e0) rfl rfl (Y_conv (k:= .u8) (a:=e0) underlying5 underlying159 (wrapIn_u64 _ om) rfl kr)<|stepY (.int .u64 (((((((((((0:Int)*256)+a0)*256)+b0)*256)+c0)*256)+d0)*256)+e0)) rfl rfl (Y_orLow ((((((((((0:Int)*256)+a0)*256)+b0)*256)+c0)*256)+d0)*256) e0 rfl kr kr om om om) ?_
 refine pu1<|nB<|rE<|pu2<|nT<|roundS<|sR<|pu1<|nT<|seqE<|cTt<|kT<|seqE<|blockE<|sR<|sIdx i0 5 runUnderlying74 sizeOf5 fun f0 _ _ e1 f1=>?_
 have o0:r[5]?=some f0:=by have h:=e1;first|exact h|(simp only [List.drop_zero] at h;rw [List.getElem?_take] at h;simpa using h)
 have hb_x_35:=hB.1 f0 (List.mem_of_getElem? o0)
 refine sLp hS (f1.up 1 rfl) 0 (.int .u8 f0) (isAgg5 _)<|pu1<|nT<|rE<|pu1<|stepY (.int .u64 ((((((((((((0:Int)*256)+a0)*256)+b0)*256)+c0)*256)+d0)*256)+e0)*256)) rfl rfl (Y_shl .u64 .u64 (((((((((((0:Int)*256)+a0)*256)+b0)*256)+c0)*256)+d0)*256)+e0) 8 256 _ rfl kr kr (by decide) (by decide) (wrapIn_u64 _ om))<|pu1<|stepY (.int .u64 f0) rfl rfl (Y_conv (k:= .u8) (a:=f0) underlying5 underlying159 (wrapIn_u64 _ om) rfl kr) ?_
 refine stepY (.int .u64 (((((((((((((0:Int)*256)+a0)*256)+b0)*256)+c0)*256)+d0)*256)+e0)*256)+f0)) rfl rfl (Y_orLow ((((((((((((0:Int)*256)+a0)*256)+b0)*256)+c0)*256)+d0)*256)+e0)*256) f0 rfl kr kr om om om)<|pu1<|nB<|rE<|pu2<|nT<|roundS<|sR<|pu1<|nT<|seqE<|cTt<|kT<|seqE<|blockE<|sR<|sIdx i0 6 runUnderlying74 sizeOf5 fun g0 _ _ g1 h1=>?_
 have p0:r[6]?=some g0:=by have h:=g1;first|exact h|(simp only [List.drop_zero] at h;rw [List.getElem?_take] at h;simpa using h)
 have hb_x_41:=hB.1 g0 (List.mem_of_getElem? p0)
 refine sLp hS (h1.up 1 rfl) 0 (.int .u8 g0) (isAgg5 _)<|pu1<|nT<|rE<|pu1<|stepY (.int .u64 ((((((((((((((0:Int)*256)+a0)*256)+b0)*256)+c0)*256)+d0)*256)+e0)*256)+f0)*256)) rfl rfl (Y_shl .u64 .u64 (((((((((((((0:Int)*256)+a0)*256)+b0)*256)+c0)*256)+d0)*256)+e0)*256)+f0) 8 256 _ rfl kr kr (by decide) (by decide) (wrapIn_u64 _ om))<|pu1<|stepY (.int .u64 g0) rfl rfl (Y_conv (k:= .u8) (a:=g0) underlying5 underlying159 (wrapIn_u64 _ om) rfl kr) ?_
 refine stepY (.int .u64 (((((((((((((((0:Int)*256)+a0)*256)+b0)*256)+c0)*256)+d0)*256)+e0)*256)+f0)*256)+g0)) rfl rfl (Y_orLow ((((((((((((((0:Int)*256)+a0)*256)+b0)*256)+c0)*256)+d0)*256)+e0)*256)+f0)*256) g0 rfl kr kr om om om)<|pu1<|nB<|rE<|pu2<|nT<|roundS<|sR<|pu1<|nT<|seqE<|cTt<|kT<|seqE<|blockE<|sR<|sIdx i0 7 runUnderlying74 sizeOf5 fun h0 _ _ i1 j1=>?_
 have q0:r[7]?=some h0:=by have h:=i1;first|exact h|(simp only [List.drop_zero] at h;rw [List.getElem?_take] at h;simpa using h)
 have hb_x_47:=hB.1 h0 (List.mem_of_getElem? q0)
 refine sLp hS (j1.up 1 rfl) 0 (.int .u8 h0) (isAgg5 _)<|pu1<|nT<|rE<|pu1<|stepY (.int .u64 ((((((((((((((((0:Int)*256)+a0)*256)+b0)*256)+c0)*256)+d0)*256)+e0)*256)+f0)*256)+g0)*256)) rfl rfl (Y_shl .u64 .u64 (((((((((((((((0:Int)*256)+a0)*256)+b0)*256)+c0)*256)+d0)*256)+e0)*256)+f0)*256)+g0) 8 256 _ rfl kr kr (by decide) (by decide) (wrapIn_u64 _ om))<|pu1<|stepY (.int .u64 h0) rfl rfl (Y_conv (k:= .u8) (a:=h0) underlying5 underlying159 (wrapIn_u64 _ om) rfl kr) ?_
 refine stepY (.int .u64 (((((((((((((((((0:Int)*256)+a0)*256)+b0)*256)+c0)*256)+d0)*256)+e0)*256)+f0)*256)+g0)*256)+h0)) rfl rfl (Y_orLow ((((((((((((((((0:Int)*256)+a0)*256)+b0)*256)+c0)*256)+d0)*256)+e0)*256)+f0)*256)+g0)*256) h0 rfl kr kr om om om)<|pu1<|nB<|rE<|pu2<|nT<|roundS<|sR<|pu1<|nT<|seqE<|cFf<|exitE<|xB<|tN<|sR<|pu4<|sL hS 0 0 (.slice a n k) (isAgg74 _)<|sSl (some 8) none 8 n runUnderlying74 sizeOf5 ⟨by decide,rfl⟩ rfl om om ?_ (a:=a) (len:=n) (cap:=k)
 have k1:=hR.part (lo:=8) (hi:=n) om om
 refine pu2<|sT hS 0 0 (.slice (partAddr a k 8 1) (n-8) (k-8)) [.slice (partAddr a k 8 1) (n-8) (k-8)] #[.slice (partAddr a k 8 1) (n-8) (k-8), .bool false] sizeOf74 fun _ l1=>zQ<|pu1<|stepY (I (IntKind.i64.wrap (((((((((((((((((0:Int)*256)+a0)*256)+b0)*256)+c0)*256)+d0)*256)+e0)*256)+f0)*256)+g0)*256)+h0))) rfl rfl (Y_conv (k:= .u64) (a:=(((((((((((((((((0:Int)*256)+a0)*256)+b0)*256)+c0)*256)+d0)*256)+e0)*256)+f0)*256)+g0)*256)+h0)) underlying159 underlying2 (rfl) rfl kr)<|pu1 ?_
 refine stepY (I (IntKind.i64.wrap (((((((((((((((((0:Int)*256)+a0)*256)+b0)*256)+c0)*256)+d0)*256)+e0)*256)+f0)*256)+g0)*256)+h0))) rfl rfl (Y_conv (k:= .u64) (a:=(((((((((((((((((0:Int)*256)+a0)*256)+b0)*256)+c0)*256)+d0)*256)+e0)*256)+f0)*256)+g0)*256)+h0)) underlying159 underlying2 (rfl) rfl kr)<|pu1<|nT ?_
 have m1:((IntKind.i64.wrap (((((((((((((((((0:Int)*256)+a0)*256)+b0)*256)+c0)*256)+d0)*256)+e0)*256)+f0)*256)+g0)*256)+h0)):Int)=(IntKind.i64.wrap (((((((((((((((((0:Int)*256)+a0)*256)+b0)*256)+c0)*256)+d0)*256)+e0)*256)+f0)*256)+g0)*256)+h0)):=rfl
 refine cF _ (bne_eq_false_iff_eq.2 m1)<|kS<|pu1<|stepY (I (IntKind.i64.wrap (((((((((((((((((0:Int)*256)+a0)*256)+b0)*256)+c0)*256)+d0)*256)+e0)*256)+f0)*256)+g0)*256)+h0))) rfl rfl (Y_conv (k:= .u64) (a:=(((((((((((((((((0:Int)*256)+a0)*256)+b0)*256)+c0)*256)+d0)*256)+e0)*256)+f0)*256)+g0)*256)+h0)) underlying159 underlying2 (rfl) rfl kr)<|pu1<|zE<|retT [I (IntKind.i64.wrap (((((((((((((((((0:Int)*256)+a0)*256)+b0)*256)+c0)*256)+d0)*256)+e0)*256)+f0)*256)+g0)*256)+h0))] ?_
 have hd:=dec8 hb_x_5 hb_x_11 hb_x_17 hb_x_23 hb_x_29 hb_x_35 hb_x_41 hb_x_47 (((((((((((((((((0:Int)*256)+a0)*256)+b0)*256)+c0)*256)+d0)*256)+e0)*256)+f0)*256)+g0)*256)+h0) om
 have hR2:=k1
 rw [List.take_of_length_le (by simp;omega)] at hR2
 exact ⟨_,r.drop 8,false,rfl,Got.read (take8 j0 k0 l0 m0 n0 o0 p0 q0) hd.1 hd.2,hd.2,_,⟨_,_,_,rfl,hR2,fun x hx=>hB.1 x (List.mem_of_mem_drop hx),by have:=hB.2;simp;omega⟩,l1⟩
theorem rdr_count_1 (W w:World) (p:Nat) (H fp:Chunk) (F:List Chunk) (r:List Int) (b:Bool) (hI:RdrR 136 H p r b fp) (hS:Sat W w (fp::H::F)):
  Calls prog 122 #[Pt p 0,I 1] w fun e w'=>∃(v:Int) (r':List Int) (b':Bool),e= .returned (I v)/\GotC 1 r b v r' b'/\∃fp':Chunk,RdrR 136 H p r' b' fp'/\Sat W w' (fp'::H::F):=by
 refine callsA 26 func122 rfl<|sR<|pu1<|zS<|pu1 ?_
 have k0:=(hS.picks [1,1])
 refine sF #[Pt p 0] call121 (Calls.mono (rdr_number W _ _ _ _ _ _ _ hI k0) ?_)
 rintro _ _ ⟨e0,g0,j0,rfl,h0,l0,_,m0,f0⟩
 refine ⟨_,rfl,?_⟩
 refine pu1<|nT<|seqE<|seqE ?_
 obtain ⟨b0,a0,c0,rfl,d0,i0⟩:=m0
 have hll_a_11:=d0.len;have hle_a_11:=d0.le
 refine rE<|pu3<|sD 10 (e0<0) (fun n0=>?_) (fun n0=>?_)
 ·refine pu11<|zC<|pu3<|sT f0 0 1 (.bool true) [.bool true] #[.slice b0 a0 c0, .bool true] sizeOf4 fun _ o0=>zS<|pu1<|zR<|retT [I 0] ?_
  have p0:RdrR 136 H p g0 true [(p, .cells #[.slice b0 a0 c0, .bool true] 136 (0,0))]:=⟨_,_,_,rfl,d0,i0⟩
  have ht:((a0:Int)).tdiv 8=(a0:Int)/8:=Int.tdiv_eq_ediv_of_nonneg om
  simp only [ht] at*
  exact ⟨0,_,_,rfl,GotC.bad h0 (by first|(left;omega)|(right;omega)),_,p0,o0⟩
 refine pu4<|gY<|sL f0 0 0 (.slice b0 a0 c0) (isAgg74 _)<|pu3<|gY<|sQuo (a0:Int) 8<|pu2<|nT<|cD (e0>((a0:Int).tdiv 8)) (fun q0=>?_) (fun q0=>?_)
 rotate_left
 ·refine kS<|pu2<|zE<|retT [I e0] ?_
  have r0:RdrR 136 H p g0 j0 [(p, .cells #[.slice b0 a0 c0, .bool j0] 136 (0,0))]:=⟨_,_,_,rfl,d0,i0⟩
  have ht:((a0:Int)).tdiv 8=(a0:Int)/8:=Int.tdiv_eq_ediv_of_nonneg om
  simp only [ht] at*
  exact ⟨e0,_,_,rfl,GotC.good h0 l0 om om,_,r0,f0⟩
 refine sR<|pu3<|sT f0 0 1 (.bool true) [.bool true] #[.slice b0 a0 c0, .bool true] sizeOf4 fun _ s0=>zS<|pu1<|zR<|retT [I 0] ?_
 have t0:RdrR 136 H p g0 true [(p, .cells #[.slice b0 a0 c0, .bool true] 136 (0,0))]:=⟨_,_,_,rfl,d0,i0⟩
 have ht:((a0:Int)).tdiv 8=(a0:Int)/8:=Int.tdiv_eq_ediv_of_nonneg om
 simp only [ht] at*
 exact ⟨0,_,_,rfl,GotC.bad h0 (by first|(left;omega)|(right;omega)),_,t0,s0⟩
theorem rdr_count_2 (W w:World) (p:Nat) (H fp:Chunk) (F:List Chunk) (r:List Int) (b:Bool) (hI:RdrR 136 H p r b fp) (hS:Sat W w (fp::H::F)):
  Calls prog 122 #[Pt p 0,I 2] w fun e w'=>∃(v:Int) (r':List Int) (b':Bool),e= .returned (I v)/\GotC 2 r b v r' b'/\∃fp':Chunk,RdrR 136 H p r' b' fp'/\Sat W w' (fp'::H::F):=by
 refine callsA 26 func122 rfl<|sR<|pu1<|zS<|pu1 ?_
 have k0:=(hS.picks [1,1])
 refine sF #[Pt p 0] call121 (Calls.mono (rdr_number W _ _ _ _ _ _ _ hI k0) ?_)
 rintro _ _ ⟨e0,g0,j0,rfl,h0,l0,_,m0,f0⟩
 refine ⟨_,rfl,?_⟩
 refine pu1<|nT<|seqE<|seqE ?_
 obtain ⟨b0,a0,c0,rfl,d0,i0⟩:=m0
 have hll_a_11:=d0.len;have hle_a_11:=d0.le
 refine rE<|pu3<|sD 10 (e0<0) (fun n0=>?_) (fun n0=>?_)
 ·refine pu11<|zC<|pu3<|sT f0 0 1 (.bool true) [.bool true] #[.slice b0 a0 c0, .bool true] sizeOf4 fun _ o0=>zS<|pu1<|zR<|retT [I 0] ?_
  have p0:RdrR 136 H p g0 true [(p, .cells #[.slice b0 a0 c0, .bool true] 136 (0,0))]:=⟨_,_,_,rfl,d0,i0⟩
  have ht:((a0:Int)).tdiv 16=(a0:Int)/16:=Int.tdiv_eq_ediv_of_nonneg om
  simp only [ht] at*
  exact ⟨0,_,_,rfl,GotC.bad h0 (by first|(left;omega)|(right;omega)),_,p0,o0⟩
 refine pu4<|gY<|sL f0 0 0 (.slice b0 a0 c0) (isAgg74 _)<|pu3<|gY<|sQuo (a0:Int) 16<|pu2<|nT<|cD (e0>((a0:Int).tdiv 16)) (fun q0=>?_) (fun q0=>?_)
 rotate_left
 ·refine kS<|pu2<|zE<|retT [I e0] ?_
  have r0:RdrR 136 H p g0 j0 [(p, .cells #[.slice b0 a0 c0, .bool j0] 136 (0,0))]:=⟨_,_,_,rfl,d0,i0⟩
  have ht:((a0:Int)).tdiv 16=(a0:Int)/16:=Int.tdiv_eq_ediv_of_nonneg om
  simp only [ht] at*
  exact ⟨e0,_,_,rfl,GotC.good h0 l0 om om,_,r0,f0⟩
 refine sR<|pu3<|sT f0 0 1 (.bool true) [.bool true] #[.slice b0 a0 c0, .bool true] sizeOf4 fun _ s0=>zS<|pu1<|zR<|retT [I 0] ?_
 have t0:RdrR 136 H p g0 true [(p, .cells #[.slice b0 a0 c0, .bool true] 136 (0,0))]:=⟨_,_,_,rfl,d0,i0⟩
 have ht:((a0:Int)).tdiv 16=(a0:Int)/16:=Int.tdiv_eq_ediv_of_nonneg om
 simp only [ht] at*
 exact ⟨0,_,_,rfl,GotC.bad h0 (by first|(left;omega)|(right;omega)),_,t0,s0⟩
theorem rdr_count_4 (W w:World) (p:Nat) (H fp:Chunk) (F:List Chunk) (r:List Int) (b:Bool) (hI:RdrR 136 H p r b fp) (hS:Sat W w (fp::H::F)):
  Calls prog 122 #[Pt p 0,I 4] w fun e w'=>∃(v:Int) (r':List Int) (b':Bool),e= .returned (I v)/\GotC 4 r b v r' b'/\∃fp':Chunk,RdrR 136 H p r' b' fp'/\Sat W w' (fp'::H::F):=by
 refine callsA 26 func122 rfl<|sR<|pu1<|zS<|pu1 ?_
 have k0:=(hS.picks [1,1])
 refine sF #[Pt p 0] call121 (Calls.mono (rdr_number W _ _ _ _ _ _ _ hI k0) ?_)
 rintro _ _ ⟨e0,g0,j0,rfl,h0,l0,_,m0,f0⟩
 refine ⟨_,rfl,?_⟩
 refine pu1<|nT<|seqE<|seqE ?_
 obtain ⟨b0,a0,c0,rfl,d0,i0⟩:=m0
 have hll_a_11:=d0.len;have hle_a_11:=d0.le
 refine rE<|pu3<|sD 10 (e0<0) (fun n0=>?_) (fun n0=>?_)
 ·refine pu11<|zC<|pu3<|sT f0 0 1 (.bool true) [.bool true] #[.slice b0 a0 c0, .bool true] sizeOf4 fun _ o0=>zS<|pu1<|zR<|retT [I 0] ?_
  have p0:RdrR 136 H p g0 true [(p, .cells #[.slice b0 a0 c0, .bool true] 136 (0,0))]:=⟨_,_,_,rfl,d0,i0⟩
  have ht:((a0:Int)).tdiv 32=(a0:Int)/32:=Int.tdiv_eq_ediv_of_nonneg om
  simp only [ht] at*
  exact ⟨0,_,_,rfl,GotC.bad h0 (by first|(left;omega)|(right;omega)),_,p0,o0⟩
 refine pu4<|gY<|sL f0 0 0 (.slice b0 a0 c0) (isAgg74 _)<|pu3<|gY<|sQuo (a0:Int) 32<|pu2<|nT<|cD (e0>((a0:Int).tdiv 32)) (fun q0=>?_) (fun q0=>?_)
 rotate_left
 ·refine kS<|pu2<|zE<|retT [I e0] ?_
  have r0:RdrR 136 H p g0 j0 [(p, .cells #[.slice b0 a0 c0, .bool j0] 136 (0,0))]:=⟨_,_,_,rfl,d0,i0⟩
  have ht:((a0:Int)).tdiv 32=(a0:Int)/32:=Int.tdiv_eq_ediv_of_nonneg om
  simp only [ht] at*
  exact ⟨e0,_,_,rfl,GotC.good h0 l0 om om,_,r0,f0⟩
 refine sR<|pu3<|sT f0 0 1 (.bool true) [.bool true] #[.slice b0 a0 c0, .bool true] sizeOf4 fun _ s0=>zS<|pu1<|zR<|retT [I 0] ?_
 have t0:RdrR 136 H p g0 true [(p, .cells #[.slice b0 a0 c0, .bool true] 136 (0,0))]:=⟨_,_,_,rfl,d0,i0⟩
 have ht:((a0:Int)).tdiv 32=(a0:Int)/32:=Int.tdiv_eq_ediv_of_nonneg om
 simp only [ht] at*
 exact ⟨0,_,_,rfl,GotC.bad h0 (by first|(left;omega)|(right;omega)),_,t0,s0⟩
theorem rdr_count_18 (W w:World) (p:Nat) (H fp:Chunk) (F:List Chunk) (r:List Int) (b:Bool) (hI:RdrR 136 H p r b fp) (hS:Sat W w (fp::H::F)):
  Calls prog 122 #[Pt p 0,I 18] w fun e w'=>∃(v:Int) (r':List Int) (b':Bool),e= .returned (I v)/\GotC 18 r b v r' b'/\∃fp':Chunk,RdrR 136 H p r' b' fp'/\Sat W w' (fp'::H::F):=by
 refine callsA 26 func122 rfl<|sR<|pu1<|zS<|pu1 ?_
 have k0:=(hS.picks [1,1])
 refine sF #[Pt p 0] call121 (Calls.mono (rdr_number W _ _ _ _ _ _ _ hI k0) ?_)
 rintro _ _ ⟨e0,g0,j0,rfl,h0,l0,_,m0,f0⟩
 refine ⟨_,rfl,?_⟩
 refine pu1<|nT<|seqE<|seqE ?_
 obtain ⟨b0,a0,c0,rfl,d0,i0⟩:=m0
 have hll_a_11:=d0.len;have hle_a_11:=d0.le
 refine rE<|pu3<|sD 10 (e0<0) (fun n0=>?_) (fun n0=>?_)
 ·refine pu11<|zC<|pu3<|sT f0 0 1 (.bool true) [.bool true] #[.slice b0 a0 c0, .bool true] sizeOf4 fun _ o0=>zS<|pu1<|zR<|retT [I 0] ?_
  have p0:RdrR 136 H p g0 true [(p, .cells #[.slice b0 a0 c0, .bool true] 136 (0,0))]:=⟨_,_,_,rfl,d0,i0⟩
  have ht:((a0:Int)).tdiv 144=(a0:Int)/144:=Int.tdiv_eq_ediv_of_nonneg om
  simp only [ht] at*
  exact ⟨0,_,_,rfl,GotC.bad h0 (by first|(left;omega)|(right;omega)),_,p0,o0⟩
 refine pu4<|gY<|sL f0 0 0 (.slice b0 a0 c0) (isAgg74 _)<|pu3<|gY<|sQuo (a0:Int) 144<|pu2<|nT<|cD (e0>((a0:Int).tdiv 144)) (fun q0=>?_) (fun q0=>?_)
 rotate_left
 ·refine kS<|pu2<|zE<|retT [I e0] ?_
  have r0:RdrR 136 H p g0 j0 [(p, .cells #[.slice b0 a0 c0, .bool j0] 136 (0,0))]:=⟨_,_,_,rfl,d0,i0⟩
  have ht:((a0:Int)).tdiv 144=(a0:Int)/144:=Int.tdiv_eq_ediv_of_nonneg om
  simp only [ht] at*
  exact ⟨e0,_,_,rfl,GotC.good h0 l0 om om,_,r0,f0⟩
 refine sR<|pu3<|sT f0 0 1 (.bool true) [.bool true] #[.slice b0 a0 c0, .bool true] sizeOf4 fun _ s0=>zS<|pu1<|zR<|retT [I 0] ?_
 have t0:RdrR 136 H p g0 true [(p, .cells #[.slice b0 a0 c0, .bool true] 136 (0,0))]:=⟨_,_,_,rfl,d0,i0⟩
 have ht:((a0:Int)).tdiv 144=(a0:Int)/144:=Int.tdiv_eq_ediv_of_nonneg om
 simp only [ht] at*
 exact ⟨0,_,_,rfl,GotC.bad h0 (by first|(left;omega)|(right;omega)),_,t0,s0⟩
theorem rdr_numbers (W w:World) (p:Nat) (H fp:Chunk) (F:List Chunk) (r:List Int) (b:Bool) (hI:RdrR 136 H p r b fp) (hS:Sat W w (fp::H::F)):
  Calls prog 125 #[Pt p 0] w fun e w'=>∃(a:Option Addr) (n k:Nat) (xs:List Int) (G:Chunk) (r':List Int) (b':Bool),e= .returned (.slice a n k)/\RdT Go.E.encI 1 [G] a n k xs/\Got (encL encN) (wfL WfI) r b xs r' b'/\∃fp':Chunk,RdrR 136 H p r' b' fp'/\Sat W w' (fp'::G::H::F):=by
 refine callsA 15 func125 rfl<|sR<|pu1<|zS<|pu1<|zQ<|pu1 ?_
 have h0:=(hS.picks [1,1])
 refine sF #[Pt p 0,I 1] call122 (Calls.mono (rdr_count_1 W _ _ _ _ _ _ _ hI h0) ?_)
 rintro _ _ ⟨a0,b0,c0,rfl,e0,i0,f0,j0⟩
 refine ⟨_,rfl,?_⟩
 have hrng_v_4:=e0.rng;have hcap_v_4:=(by obtain ⟨_,_,_,_,_,_,h⟩:=f0;exact h:b0.length<=262144)
 refine pu1<|nT<|blockE ?_
 have k0:=Sat.nilc j0
 have l0:=OwnT.nil (enc:=Go.E.encI) (E:=3) (sz:=1) fR
 have m0:=k0.pick 1 rfl
 refine loopA (γ:=Nat×(List Int)×(Option Addr)×Nat×Nat×Chunk×(List Int)×Bool×Chunk) (fun ⟨i,xs,a,n,k,c,r',b',fp'⟩=>[(0,Pt p 0),(3, .slice a n k),(5,I a0),(6,I (i:Int))]) (fun ⟨i,xs,a,n,k,c,r',b',fp'⟩ w=>Sat W w (fp'::c::H::F)/\(i:Int)<=a0/\Got (encF encN) (wfN WfI i) b0 c0 xs r' b'/\RdrR 136 H p r' b' fp'/\OwnT Go.E.encI 3 1 a n k xs c/\n=i) (fun ⟨i,xs,a,n,k,c,r',b',fp'⟩=>a0.toNat-i) (0,[],none,0,0,[],b0,c0,i0) ⟨m0,om,Got.none _ _,f0,l0,rfl⟩ ?_
 rintro ⟨i,xs,a,n,k,c,r',b',fp'⟩ ρ _ ⟨g0,hi,hG,hI',hO,hn⟩
 refine sR<|pu1<|nT<|seqE<|cD ((i:Int)<a0) (fun n0=>?_) (fun n0=>?_)
 rotate_left
 ·refine exitE<|xB<|tN<|sR<|pu2<|zE<|retT [.slice a n k] ?_
  have hZ:Got (encF encN) (wfN WfI a0.toNat) b0 c0 xs r' b':=by rw [show a0.toNat=i from by omega];exact hG
  exact ⟨a,n,k,xs,c,r',b',rfl,(hO.rd (fun p hp=>by simp [hp])),Got.list encN_ge e0 hZ,_,hI',g0⟩
 refine kT<|seqE<|blockE<|rE<|pu2 ?_
 have o0:=(g0.picks [2,1])
 refine sF #[Pt p 0] call121 (Calls.mono (rdr_number W _ _ _ _ _ _ _ hI' o0) ?_)
 rintro _ _ ⟨d0,p0,q0,rfl,r0,_,s0,t0,u0⟩
 refine ⟨_,rfl,?_⟩
 refine sBS u0 #[I d0] runUnderlying22 sizeOf3 zeroValue3 fun _ _ v0=>sApp (nb:=8) v0 hO 3 (RdT.blk (enc:=Go.E.encI) (sz:=1) (xs:=[d0]) fR 1 0 rfl rfl rfl om) underlying22 (i:=Tryz.t3) kr fR fun w0 x0 y0 _ z0 a1=>pu1<|nB<|rE<|sAdd (i:Int) 1<|pu1<|nT ?_
 have b1:=((a1.picks [3,2]).dropAt 2 rfl)
 have hX:=hG.snoc pfI r0
 exact ⟨(i+1,(xs++[d0]),w0,(n+1),x0,y0,p0,q0,s0),by dsimp only;omega,alA,b1,om,by first|exact hX|simpa using hX,t0,z0,om⟩
theorem rdr_taps (W w:World) (p:Nat) (H fp:Chunk) (F:List Chunk) (r:List Int) (b:Bool) (hI:RdrR 136 H p r b fp) (hS:Sat W w (fp::H::F)):
  Calls prog 157 #[Pt p 0] w fun e w'=>∃(a:Option Addr) (n k:Nat) (xs:List Tap) (G:Chunk) (r':List Int) (b':Bool),e= .returned (.slice a n k)/\RdT encTap 2 [G] a n k xs/\(∀z∈xs,Tap.Ok [G] z)/\Got (encL nTap) (wfL wfTap) r b (xs.map Tap.v) r' b'/\∃fp':Chunk,RdrR 136 H p r' b' fp'/\Sat W w' (fp'::G::H::F):=by
 refine callsA 25 func157 rfl<|sR<|pu1<|zS<|pu1<|zQ<|pu1 ?_
 have y0:=(hS.picks [1,1])
 refine sF #[Pt p 0,I 2] call122 (Calls.mono (rdr_count_2 W _ _ _ _ _ _ _ hI y0) ?_)
 rintro _ _ ⟨b0,i0,k0,rfl,l0,z0,q0,a1⟩
 refine ⟨_,rfl,?_⟩
 have hrng_v_4:=l0.rng;have hcap_v_4:=(by obtain ⟨_,_,_,_,_,_,h⟩:=q0;exact h:i0.length<=262144)
 refine pu1<|nT<|blockE ?_
 have b1:=Sat.nilc a1
 have c1:=OwnT.nil (enc:=encTap) (E:=123) (sz:=2) fR
 have d1:=Sat.nilc b1
 have e1:=d1.pick 2 rfl
 refine loopA (γ:=Nat×(List Tap)×(Option Addr)×Nat×Nat×Chunk×Chunk×(List Int)×Bool×Chunk) (fun ⟨i,xs,a,n,k,c,G,r',b',fp'⟩=>[(0,Pt p 0),(3, .slice a n k),(6,I b0),(7,I (i:Int))]) (fun ⟨i,xs,a,n,k,c,G,r',b',fp'⟩ w=>Sat W w (fp'::c::G::H::F)/\(i:Int)<=b0/\Got (encF nTap) (wfN wfTap i) i0 k0 (xs.map Tap.v) r' b'/\RdrR 136 H p r' b' fp'/\OwnT encTap 123 2 a n k xs c/\n=i/\(∀z∈xs,Tap.Ok [G] z)) (fun ⟨i,xs,a,n,k,c,G,r',b',fp'⟩=>b0.toNat-i) (0,[],none,0,0,[],[],i0,k0,z0) ⟨e1,om,Got.none _ _,q0,c1,rfl,(by intro z hz;cases hz)⟩ ?_
 rintro ⟨i,xs,a,n,k,c,G,r',b',fp'⟩ ρ _ ⟨r0,hi,hG,hI',hO,hn,hD⟩
 refine sR<|pu1<|nT<|seqE<|cD ((i:Int)<b0) (fun f1=>?_) (fun f1=>?_)
 rotate_left
 ·refine exitE<|xB<|tN<|sR<|pu2<|zE<|retT [.slice a n k] ?_
  have g1:Sat W _ (fp'::(c++G)::H::F):=Sat.perm r0 (by simp)
  have hZ:Got (encF nTap) (wfN wfTap b0.toNat) i0 k0 (xs.map Tap.v) r' b':=by rw [show b0.toNat=i from by omega];exact hG
  exact ⟨a,n,k,xs,(c++G),r',b',rfl,(hO.rd (fun p hp=>by simp [hp])),(fun z hz=>(hD z hz).of_mem mS),Got.list nTap_ge l0 hZ,_,hI',g1⟩
 refine kT<|seqE<|blockE<|sR<|pu1 ?_
 have h1:=(r0.picks [3,1])
 refine sF #[Pt p 0] call121 (Calls.mono (rdr_number W _ _ _ _ _ _ _ hI' h1) ?_)
 rintro _ _ ⟨a0,_,_,rfl,s0,_,_,i1,j1⟩
 refine ⟨_,rfl,?_⟩
 refine pu1<|sAlloc j1 zeroValue123 fun _ _ k1=>?_
 refine sT k1 0 0 (.agg #[I a0,nS]) [I a0,nS] #[I a0,nS] sizeOf123 fun _ l1=>zS<|pu1 ?_
 have m1:=(l1.picks [2,2])
 refine sF #[Pt p 0] call125 (Calls.mono (rdr_numbers W _ _ _ _ _ _ _ i1 m1) ?_)
 rintro _ _ ⟨c0,d0,e0,m0,n0,o0,t0,rfl,n1,u0,_,o1,q1⟩
 refine ⟨_,rfl,?_⟩
 refine pu1<|sT q1 3 1 (.slice c0 d0 e0) [.slice c0 d0 e0] #[I a0, .slice c0 d0 e0] sizeOf22 fun _ v0=>zS<|pu1<|lA v0 3 0 2 (isAgg123 _) (sizeOf123 _)<|sBS v0 #[I a0, .slice c0 d0 e0] runUnderlying35 sizeOf123 zeroValue123 fun _ _ r1=>sApp (nb:=32) r1 hO 5 (RdT.blk (enc:=encTap) (sz:=2) (xs:=[(⟨a0,⟨c0,d0,e0,m0⟩⟩:Tap)]) fR 1 0 rfl rfl rfl om) underlying35 (i:=Tryz.t123) kr fR fun s1 t1 w0 _ u1 v1=>pu1<|nT<|seqE ?_
 have p0:=(v1.pick 1 rfl)
 obtain ⟨f0,g0,h0,rfl,j0,x0⟩:=o1
 have hll_a_58:=j0.len;have hle_a_58:=j0.le
 refine rE<|pu3<|sL p0 0 1 (.bool t0) (isAgg4 _)<|nT ?_
 cases t0
 rotate_left
 ·refine cTt<|sR<|pu1<|zB<|tR<|tK<|retT [nS] ?_
  have w1:RdrR 136 H p o0 true [(p, .cells #[.slice f0 g0 h0, .bool true] 136 (0,0))]:=⟨_,_,_,rfl,j0,x0⟩
  have hX:=hG.snoc pfTap (Got.tap s0 u0)
  have x1:=(p0.drops [1,1,2,2,2])
  have y1:Sat W _ ([(p, .cells #[.slice f0 g0 h0, .bool true] 136 (0,0))]::[]::H::F):=Sat.perm x1 (by simp)
  exact ⟨none,0,0,[],[],_,_,rfl,RdT.nil (enc:=encTap) (sz:=2) fR _,(fun z hz=>by cases hz),Got.list nTap_ge l0 (hX.stop (n:=b0.toNat) om ([]:List TapV)),_,w1,y1⟩
 refine cFf<|skipE<|bN<|tN<|rE<|sAdd (i:Int) 1<|pu1<|nT ?_
 have z1:RdrR 136 H p o0 false [(p, .cells #[.slice f0 g0 h0, .bool false] 136 (0,0))]:=⟨_,_,_,rfl,j0,x0⟩
 have a2:=((p0.picks [6,3,6,3]).drops [4,5])
 have hX:=hG.snoc pfTap (Got.tap s0 u0)
 have b2:=(Sat.perm (cs':=[(p, .cells #[.slice f0 g0 h0, .bool false] 136 (0,0))]::w0::(n0++G)::H::F) a2 (by simp))
 have hD2:∀z∈xs++[(⟨a0,⟨c0,d0,e0,m0⟩⟩:Tap)],Tap.Ok [(n0++G)] z:=by
  intro z hz
  rcases List.mem_append.1 hz with h|h
  ·exact (hD z h).of_mem mS
  ·simp only [List.mem_singleton] at h;subst h;exact ⟨n1.of_mem mS⟩
 exact ⟨(i+1,(xs++[(⟨a0,⟨c0,d0,e0,m0⟩⟩:Tap)]),s1,(n+1),t1,w0,(n0++G),o0,false,[(p, .cells #[.slice f0 g0 h0, .bool false] 136 (0,0))]),by dsimp only;omega,alA,b2,om,by simpa [Tap.v] using hX,z1,u1,om,hD2⟩
theorem rdr_ops (W w:World) (p:Nat) (H fp:Chunk) (F:List Chunk) (r:List Int) (b:Bool) (hI:RdrR 136 H p r b fp) (hS:Sat W w (fp::H::F)):
  Calls prog 158 #[Pt p 0] w fun e w'=>∃(a:Option Addr) (n k:Nat) (xs:List POp) (G:Chunk) (r':List Int) (b':Bool),e= .returned (.slice a n k)/\RdT encPOp 2 [G] a n k xs/\Got (encL nOp) (wfL wfOp) r b xs r' b'/\∃fp':Chunk,RdrR 136 H p r' b' fp'/\Sat W w' (fp'::G::H::F):=by
 refine callsA 21 func158 rfl<|sR<|pu1<|zS<|pu1<|zQ<|pu1 ?_
 have j0:=(hS.picks [1,1])
 refine sF #[Pt p 0,I 2] call122 (Calls.mono (rdr_count_2 W _ _ _ _ _ _ _ hI j0) ?_)
 rintro _ _ ⟨b0,d0,e0,rfl,f0,k0,g0,l0⟩
 refine ⟨_,rfl,?_⟩
 have hrng_v_4:=f0.rng;have hcap_v_4:=(by obtain ⟨_,_,_,_,_,_,h⟩:=g0;exact h:d0.length<=262144)
 refine pu1<|nT<|blockE ?_
 have m0:=Sat.nilc l0
 have n0:=OwnT.nil (enc:=encPOp) (E:=92) (sz:=2) fR
 have o0:=m0.pick 1 rfl
 refine loopA (γ:=Nat×(List POp)×(Option Addr)×Nat×Nat×Chunk×(List Int)×Bool×Chunk) (fun ⟨i,xs,a,n,k,c,r',b',fp'⟩=>[(0,Pt p 0),(3, .slice a n k),(6,I b0),(7,I (i:Int))]) (fun ⟨i,xs,a,n,k,c,r',b',fp'⟩ w=>Sat W w (fp'::c::H::F)/\(i:Int)<=b0/\Got (encF nOp) (wfN wfOp i) d0 e0 xs r' b'/\RdrR 136 H p r' b' fp'/\OwnT encPOp 92 2 a n k xs c/\n=i) (fun ⟨i,xs,a,n,k,c,r',b',fp'⟩=>b0.toNat-i) (0,[],none,0,0,[],d0,e0,k0) ⟨o0,om,Got.none _ _,g0,n0,rfl⟩ ?_
 rintro ⟨i,xs,a,n,k,c,r',b',fp'⟩ ρ _ ⟨h0,hi,hG,hI',hO,hn⟩
 refine sR<|pu1<|nT<|seqE<|cD ((i:Int)<b0) (fun p0=>?_) (fun p0=>?_)
 rotate_left
 ·refine exitE<|xB<|tN<|sR<|pu2<|zE<|retT [.slice a n k] ?_
  have hZ:Got (encF nOp) (wfN wfOp b0.toNat) d0 e0 xs r' b':=by rw [show b0.toNat=i from by omega];exact hG
  exact ⟨a,n,k,xs,c,r',b',rfl,(hO.rd (fun p hp=>by simp [hp])),Got.list nOp_ge f0 hZ,_,hI',h0⟩
 refine kT<|seqE<|blockE<|sR<|pu1 ?_
 have q0:=(h0.picks [2,1])
 refine sF #[Pt p 0] call121 (Calls.mono (rdr_number W _ _ _ _ _ _ _ hI' q0) ?_)
 rintro _ _ ⟨a0,_,_,rfl,r0,_,_,s0,t0⟩
 refine ⟨_,rfl,?_⟩
 refine pu1<|sAlloc t0 zeroValue92 fun _ _ u0=>?_
 refine sT u0 0 0 (.agg #[I a0,I 0]) [I a0,I 0] #[I a0,I 0] sizeOf92 fun _ v0=>zS<|pu1 ?_
 have w0:=(v0.picks [2,2])
 refine sF #[Pt p 0] call121 (Calls.mono (rdr_number W _ _ _ _ _ _ _ s0 w0) ?_)
 rintro _ _ ⟨c0,x0,y0,rfl,z0,_,a1,b1,c1⟩
 refine ⟨_,rfl,?_⟩
 refine pu1<|sT c1 2 1 (I c0) [I c0] #[I a0,I c0] sizeOf3 fun _ i0=>nT<|rE<|pu1<|lA i0 2 0 2 (isAgg92 _) (sizeOf92 _)<|sBS i0 #[I a0,I c0] runUnderlying36 sizeOf92 zeroValue92 fun _ _ d1=>sApp (nb:=16) d1 hO 4 (RdT.blk (enc:=encPOp) (sz:=2) (xs:=[(⟨a0,c0⟩:POp)]) fR 1 0 rfl rfl rfl om) underlying36 (i:=Tryz.t92) kr fR fun e1 f1 g1 _ h1 i1=>pu1<|nB<|rE<|sAdd (i:Int) 1<|pu1<|nT ?_
 have j1:=((i1.picks [4,2]).drops [2,3])
 have hX:=hG.snoc pfOp (Got.op r0 z0)
 exact ⟨(i+1,(xs++[(⟨a0,c0⟩:POp)]),e1,(n+1),f1,g1,x0,y0,a1),by dsimp only;omega,alA,j1,om,by first|exact hX|simpa using hX,b1,h1,om⟩
end Go.Proofs.YtdingplbadblpaaGreat

namespace Go.Proofs.YtdingplbadblpaaGreat
open Go Go.E Go.Proofs.Tryz
set_option linter.all false
set_option maxRecDepth 100000
set_option maxHeartbeats 2000000
variable {W w:World} {H:Chunk} {F:List Chunk}
theorem take3 {l:List Int} {x0 x1 x2:Int} (h0:l[0]?=some x0) (h1:l[1]?=some x1) (h2:l[2]?=some x2):l=[x0,x1,x2]++l.drop 3:=by
  match l with
  |[]=>simp at h0
  |[_]=>simp at h1
  |[_,_]=>simp at h2
  |a::b::c::l=>simp at h0 h1 h2;simp [*]
structure DecR (x:List Int) (j:JobV) (c:Int):Prop where
  ok:c=0->wfJob j/\x.length<=262144/\x=[84,70,1]++bytesOf (nJob j)
  bad:c≠0->j=⟨[],[],[],0⟩/\c=(if 262144<x.length then 5 else 4)
  all:x.length<=262144->∀j0,wfJob j0->x=[84,70,1]++bytesOf (nJob j0)->c=0
theorem DecR.big {x:List Int} (h:262144<x.length):DecR x (Job.v ⟨⟨none,0,0,[]⟩,⟨none,0,0,[]⟩,⟨none,0,0,[]⟩,0⟩) 5:=
  ⟨fun h=>by omega,fun _=>⟨rfl,by rw [if_pos h]⟩,fun h2=>by omega⟩
theorem DecR.head {x:List Int} (h:x.length<=262144) (hn:x.length<3\/(∃q,x[0]?=some q/\q≠84)\/(∃q,x[1]?=some q/\q≠70)\/(∃q,x[2]?=some q/\q≠1)):DecR x (Job.v ⟨⟨none,0,0,[]⟩,⟨none,0,0,[]⟩,⟨none,0,0,[]⟩,0⟩) 4:=by
  refine ⟨fun h=>by omega,fun _=>⟨rfl,by rw [if_neg (by omega)]⟩,fun _ j0 _ e=>?_⟩
  subst e
  rcases hn with h|⟨q,h,h2⟩|⟨q,h,h2⟩|⟨q,h,h2⟩<;>simp at h<;>omega
theorem DecR.fail {x r:List Int} {b:Bool} {j:JobV} (h:x.length<=262144) (hx:x=[84,70,1]++x.drop 3) (hG:Got nJob wfJob (x.drop 3) false j r b) (hb:b=true\/0<r.length):DecR x (Job.v ⟨⟨none,0,0,[]⟩,⟨none,0,0,[]⟩,⟨none,0,0,[]⟩,0⟩) 4:=by
  refine ⟨fun h=>by omega,fun _=>⟨rfl,by rw [if_neg (by omega)]⟩,fun _ j0 hw e=>?_⟩
  exfalso
  have e2:x.drop 3=bytesOf (nJob j0)++[]:=by rw [e];simp
  have h1:=hG.cmp rfl j0 [] hw e2
  rcases hb with h2|h2
  · rw [h1] at h2;cases h2
  · obtain ⟨_,hw2,e3⟩:=hG.snd h1
    rw [e2] at e3
    have:=(pfJob _ _ _ _ hw hw2 e3).2
    subst this;simp at h2
theorem DecR.good {x r:List Int} {b:Bool} {j:JobV} (h:x.length<=262144) (hx:x=[84,70,1]++x.drop 3) (hG:Got nJob wfJob (x.drop 3) false j r b) (hb:b=false) (hr:r=[]):DecR x j 0:=by
  obtain ⟨_,hw,e⟩:=hG.snd hb
  refine ⟨fun _=>⟨hw,h,?_⟩,fun h=>absurd rfl h,fun _ _ _ _=>rfl⟩
  rw [hr,List.append_nil] at e
  rw [<-e];exact hx
theorem DecR.same {x:List Int} {j j':JobV} {c c':Int} (h:DecR x j c) (h':DecR x j' c'):j=j'/\c=c':=by
  by_cases e:c=0
  · obtain ⟨h1,h2,h3⟩:=h.ok e
    have e':=h'.all h2 j h1 h3
    obtain ⟨h4,_,h5⟩:=h'.ok e'
    rw [h3] at h5
    exact ⟨((pfJob j j' [] [] h1 h4 (by simpa using h5)).1),by omega⟩
  · by_cases e':c'=0
    · obtain ⟨h1,h2,h3⟩:=h'.ok e'
      exact absurd (h.all h2 j' h1 h3) e
    · obtain ⟨h1,h2⟩:=h.bad e
      obtain ⟨h3,h4⟩:=h'.bad e'
      exact ⟨by rw [h1,h3],by rw [h2,h4]⟩
theorem rdr_plane (W w:World) (p:Nat) (H fp:Chunk) (F:List Chunk) (r:List Int) (b:Bool) (hI:RdrR 136 H p r b fp) (hS:Sat W w (fp::H::F)):
  Calls prog 123 #[Pt p 0] w fun e w'=>∃(q:Plane) (G:Chunk) (r':List Int) (b':Bool),e= .returned (.agg (encPlane q).toArray)/\Plane.Ok [G] q/\Got nPlane wfPlane r b q.v r' b'/\∃fp':Chunk,RdrR 136 H p r' b' fp'/\Sat W w' (fp'::G::H::F):=by
 refine callsA 17 func123 rfl<|sR<|sAlloc hS zeroValue87 fun _ _ i0=>zS<|sAlloc i0 zeroValue87 fun _ _ j0=>zS<|pu1 ?_
 have k0:=(j0.picks [3,3])
 refine sF #[Pt p 0] call121 (Calls.mono (rdr_number W _ _ _ _ _ _ _ hI k0) ?_)
 rintro _ _ ⟨a0,_,_,rfl,l0,_,_,m0,n0⟩
 refine ⟨_,rfl,?_⟩
 refine pu1<|tW n0 2 0 (I a0) sizeOf3 fun _ o0=>zS<|pu1 ?_
 have p0:=(o0.picks [1,1])
 refine sF #[Pt p 0] call121 (Calls.mono (rdr_number W _ _ _ _ _ _ _ m0 p0) ?_)
 rintro _ _ ⟨b0,_,_,rfl,q0,_,_,r0,s0⟩
 refine ⟨_,rfl,?_⟩
 refine pu1<|tW s0 2 1 (I b0) sizeOf3 fun _ t0=>zS<|pu1 ?_
 have u0:=(t0.picks [1,1])
 refine sF #[Pt p 0] call121 (Calls.mono (rdr_number W _ _ _ _ _ _ _ r0 u0) ?_)
 rintro _ _ ⟨c0,_,_,rfl,v0,_,_,w0,x0⟩
 refine ⟨_,rfl,?_⟩
 refine pu1<|tW x0 2 2 (I c0) sizeOf3 fun _ y0=>zS<|pu1 ?_
 have z0:=(y0.picks [1,1])
 refine sF #[Pt p 0] call125 (Calls.mono (rdr_numbers W _ _ _ _ _ _ _ w0 z0) ?_)
 rintro _ _ ⟨d0,e0,f0,a1,b1,_,_,rfl,c1,d1,e1,f1,g1⟩
 refine ⟨_,rfl,?_⟩
 refine pu1<|tW g1 3 3 (.slice d0 e0 f0) sizeOf22 fun _ g0=>zS<|lA g0 3 0 4 (isAgg87 _) (sizeOf87 _)<|sT g0 4 0 (.agg #[I a0,I b0,I c0, .slice d0 e0 f0]) [I a0,I b0,I c0, .slice d0 e0 f0] #[I a0,I b0,I c0, .slice d0 e0 f0] sizeOf87 fun _ h0=>zE<|retN (vs:=[.agg #[I a0,I b0,I c0, .slice d0 e0 f0]]) rfl (.cons (.cell _ _ _ _ kr (lvA h0 4 0 [I a0,I b0,I c0, .slice d0 e0 f0] (isAgg87 _) (sizeOf87 _) rfl rfl rfl)) .nil) ?_
 have h1:=(h0.drops [3,3])
 have i1:=(Sat.perm (cs':=e1::(b1)::H::F) h1 (by simp))
 exact ⟨(⟨a0,b0,c0,⟨d0,e0,f0,a1⟩⟩:Plane),_,_,_,rfl,⟨c1.of_mem mS⟩,(Got.plane l0 q0 v0 d1),_,f1,i1⟩
theorem rdr_stage (W w:World) (p:Nat) (H fp:Chunk) (F:List Chunk) (r:List Int) (b:Bool) (hI:RdrR 136 H p r b fp) (hS:Sat W w (fp::H::F)):
  Calls prog 124 #[Pt p 0] w fun e w'=>∃(q:Stage) (G:Chunk) (r':List Int) (b':Bool),e= .returned (.agg (encStage q).toArray)/\Stage.Ok [G] q/\Got nStage wfStage r b q.v r' b'/\∃fp':Chunk,RdrR 136 H p r' b' fp'/\Sat W w' (fp'::G::H::F):=by
 refine callsA 68 func124 rfl ?_
 refine sR ?_
 refine sAlloc hS zeroValue38 ?_
 intro l1 _ t1
 refine zS ?_
 refine sAlloc t1 zeroValue38 ?_
 intro m1 _ u1
 refine zS<|pu1 ?_
 have v1:=(u1.picks [3,3])
 refine sF #[Pt p 0] call121 (Calls.mono (rdr_number W _ _ _ _ _ _ _ hI v1) ?_)
 rintro _ _ ⟨a0,_,_,rfl,w1,_,_,x1,y1⟩
 refine ⟨_,rfl,?_⟩
 refine pu1 ?_
 refine tW y1 2 0 (I a0) sizeOf3 ?_
 intro _ z1
 refine zS<|pu1 ?_
 have a2:=(z1.picks [1,1])
 refine sF #[Pt p 0] call121 (Calls.mono (rdr_number W _ _ _ _ _ _ _ x1 a2) ?_)
 rintro _ _ ⟨b0,_,_,rfl,b2,_,_,c2,d2⟩
 refine ⟨_,rfl,?_⟩
 refine pu1 ?_
 refine tW d2 2 1 (I b0) sizeOf3 ?_
 intro _ e2
 refine zS<|pu1 ?_
 have f2:=(e2.picks [1,1])
 refine sF #[Pt p 0] call121 (Calls.mono (rdr_number W _ _ _ _ _ _ _ c2 f2) ?_)
 rintro _ _ ⟨c0,g2,h2,rfl,i2,_,_,j2,k2⟩
 refine ⟨_,rfl,?_⟩
 refine pu1 ?_
 refine tW k2 2 2 (I c0) sizeOf3 ?_
 intro _ l2
 refine nT ?_
 refine cutA (γ:=Bool×(List Int)×Bool×Chunk) (fun ⟨bar,rb,bb,fpb⟩=>[(0,Pt p 0),(2,Pt l1 0),(3,Pt m1 0)]) (fun ⟨bar,rb,bb,fpb⟩ w=>Sat W w (fpb::[(m1, .cells #[I a0,I b0,I c0, .bool bar,I 0,I 0,I 0,I 0,nS,nS,nS,I 0,I 0,nS,nS,I 0,nS,I 0] 38 (0,0))]::[(l1, .cells #[I 0,I 0,I 0, .bool false,I 0,I 0,I 0,I 0,nS,nS,nS,I 0,I 0,nS,nS,I 0,nS,I 0] 38 (0,0))]::H::F)/\Got encBo wfBo g2 h2 bar rb bb/\RdrR 136 H p rb bb fpb) ?_ ?_
 ·refine sR<|pu1 ?_
  have m2:=(l2.picks [1,1])
  refine sF #[Pt p 0] call121 (Calls.mono (rdr_number W _ _ _ _ _ _ _ j2 m2) ?_)
  rintro _ _ ⟨n1,d1,o1,rfl,e1,_,q1,f1,g1⟩
  refine ⟨_,rfl,?_⟩
  refine nT<|blockE<|sR<|pu2<|nT ?_
  refine cE n1 0 (fun n2=>?_) (fun n2=>?_)
  ·refine skipE<|bN<|tN ?_
   exact ⟨(false,d1,o1,q1),alA,(g1.picks [3,3,2]),Got.bool false e1 (by simp only [nBool,if_true,if_false,Bool.false_eq_true];omega),f1⟩
  refine sR<|pu2<|nT ?_
  refine cE n1 1 (fun q2=>?_) (fun q2=>?_)
  ·refine rE<|pu1 ?_
   refine tW g1 2 3 (.bool true) sizeOf4 ?_
   intro _ r2
   refine nB ?_
   exact ⟨(true,d1,o1,q1),alA,(r2.picks [3,3,2]),Got.bool true e1 (by simp only [nBool,if_true,if_false,Bool.false_eq_true];omega),f1⟩
  obtain ⟨h1,i1,j1,rfl,k1,t2⟩:=f1
  have hll_a_59:=k1.len;have hle_a_59:=k1.le
  refine rE<|pu3 ?_
  refine sT g1 0 1 (.bool true) [.bool true] #[.slice h1 i1 j1, .bool true] sizeOf4 ?_
  intro _ u2
  refine nB ?_
  have v2:RdrR 136 H p d1 true [(p, .cells #[.slice h1 i1 j1, .bool true] 136 (0,0))]:=⟨_,_,_,rfl,k1,t2⟩
  exact ⟨(false,d1,true,[(p, .cells #[.slice h1 i1 j1, .bool true] 136 (0,0))]),alA,(u2.picks [3,3,2]),Got.boolbad false e1 om om,v2⟩
 rintro ⟨bar,rb,bb,fpb⟩ ρ _ ⟨x2,hGb,hIb⟩
 refine sR<|pu1 ?_
 have y2:=(x2.picks [3,1])
 refine sF #[Pt p 0] call121 (Calls.mono (rdr_number W _ _ _ _ _ _ _ hIb y2) ?_)
 rintro _ _ ⟨d0,_,_,rfl,z2,_,_,a3,b3⟩
 refine ⟨_,rfl,?_⟩
 refine pu2 ?_
 refine tW b3 2 4 (I d0) sizeOf3 ?_
 intro _ c3
 refine zS<|pu1 ?_
 have d3:=(c3.picks [1,1])
 refine sF #[Pt p 0] call121 (Calls.mono (rdr_number W _ _ _ _ _ _ _ a3 d3) ?_)
 rintro _ _ ⟨e0,_,_,rfl,e3,_,_,f3,g3⟩
 refine ⟨_,rfl,?_⟩
 refine pu2 ?_
 refine tW g3 2 5 (I e0) sizeOf3 ?_
 intro _ h3
 refine zS<|pu1 ?_
 have i3:=(h3.picks [1,1])
 refine sF #[Pt p 0] call121 (Calls.mono (rdr_number W _ _ _ _ _ _ _ f3 i3) ?_)
 rintro _ _ ⟨f0,_,_,rfl,j3,_,_,k3,l3⟩
 refine ⟨_,rfl,?_⟩
 refine pu1 ?_
 refine tW l3 2 6 (I f0) sizeOf3 ?_
 intro _ m3
 refine zS<|pu1 ?_
 have n3:=(m3.picks [1,1])
 refine sF #[Pt p 0] call121 (Calls.mono (rdr_number W _ _ _ _ _ _ _ k3 n3) ?_)
 rintro _ _ ⟨g0,_,_,rfl,o3,_,_,p3,q3⟩
 refine ⟨_,rfl,?_⟩
 refine pu1 ?_
 refine tW q3 2 7 (I g0) sizeOf3 ?_
 intro _ r3
 refine zS<|pu1 ?_
 have s3:=(r3.picks [1,1])
 refine sF #[Pt p 0] call125 (Calls.mono (rdr_numbers W _ _ _ _ _ _ _ p3 s3) ?_)
 rintro _ _ ⟨h0,i0,j0,t3,u3,_,_,rfl,v3,w3,_,x3,y3⟩
 refine ⟨_,rfl,?_⟩
 refine pu1 ?_
 refine tW y3 3 8 (.slice h0 i0 j0) sizeOf22 ?_
 intro _ z3
 refine zS<|pu1 ?_
 have a4:=(z3.picks [2,1])
 refine sF #[Pt p 0] call125 (Calls.mono (rdr_numbers W _ _ _ _ _ _ _ x3 a4) ?_)
 rintro _ _ ⟨k0,l0,m0,b4,c4,_,_,rfl,d4,e4,_,f4,g4⟩
 refine ⟨_,rfl,?_⟩
 refine pu1 ?_
 refine tW g4 4 9 (.slice k0 l0 m0) sizeOf22 ?_
 intro _ h4
 refine zS<|pu1 ?_
 have i4:=(h4.picks [2,1])
 refine sF #[Pt p 0] call125 (Calls.mono (rdr_numbers W _ _ _ _ _ _ _ f4 i4) ?_)
 rintro _ _ ⟨n0,o0,p0,j4,k4,_,_,rfl,l4,m4,_,n4,o4⟩
 refine ⟨_,rfl,?_⟩
 refine pu1 ?_
 refine tW o4 5 10 (.slice n0 o0 p0) sizeOf22 ?_
 intro _ p4
 refine zS<|pu1 ?_
 have q4:=(p4.picks [2,1])
 refine sF #[Pt p 0] call121 (Calls.mono (rdr_number W _ _ _ _ _ _ _ n4 q4) ?_)
 rintro _ _ ⟨q0,_,_,rfl,r4,_,_,s4,t4⟩
 refine ⟨_,rfl,?_⟩
 refine pu1 ?_
 refine tW t4 5 11 (I q0) sizeOf3 ?_
 intro _ u4
 refine zS<|pu1 ?_
 have v4:=(u4.picks [1,1])
 refine sF #[Pt p 0] call121 (Calls.mono (rdr_number W _ _ _ _ _ _ _ s4 v4) ?_)
 rintro _ _ ⟨r0,_,_,rfl,w4,_,_,x4,y4⟩
 refine ⟨_,rfl,?_⟩
 refine pu1 ?_
 refine tW y4 5 12 (I r0) sizeOf3 ?_
 intro _ z4
 refine zS<|pu1 ?_
 have a5:=(z4.picks [1,1])
 refine sF #[Pt p 0] call157 (Calls.mono (rdr_taps W _ _ _ _ _ _ _ x4 a5) ?_)
 rintro _ _ ⟨s0,t0,u0,b5,c5,_,_,rfl,d5,e5,f5,_,g5,h5⟩
 refine ⟨_,rfl,?_⟩
 refine pu1 ?_
 refine tW h5 6 13 (.slice s0 t0 u0) sizeOf35 ?_
 intro _ i5
 refine zS<|pu1 ?_
 have j5:=(i5.picks [2,1])
 refine sF #[Pt p 0] call157 (Calls.mono (rdr_taps W _ _ _ _ _ _ _ g5 j5) ?_)
 rintro _ _ ⟨v0,w0,x0,k5,l5,_,_,rfl,m5,n5,o5,_,p5,q5⟩
 refine ⟨_,rfl,?_⟩
 refine pu1 ?_
 refine tW q5 7 14 (.slice v0 w0 x0) sizeOf35 ?_
 intro _ r5
 refine zS<|pu1 ?_
 have s5:=(r5.picks [2,1])
 refine sF #[Pt p 0] call121 (Calls.mono (rdr_number W _ _ _ _ _ _ _ p5 s5) ?_)
 rintro _ _ ⟨y0,_,_,rfl,t5,_,_,u5,v5⟩
 refine ⟨_,rfl,?_⟩
 refine pu1 ?_
 refine tW v5 7 15 (I y0) sizeOf3 ?_
 intro _ w5
 refine zS<|pu1 ?_
 have x5:=(w5.picks [1,1])
 refine sF #[Pt p 0] call158 (Calls.mono (rdr_ops W _ _ _ _ _ _ _ u5 x5) ?_)
 rintro _ _ ⟨z0,a1,b1,y5,z5,_,_,rfl,a6,b6,_,c6,d6⟩
 refine ⟨_,rfl,?_⟩
 refine pu1 ?_
 refine tW d6 8 16 (.slice z0 a1 b1) sizeOf36 ?_
 intro _ e6
 refine zS<|pu1 ?_
 have f6:=(e6.picks [2,1])
 refine sF #[Pt p 0] call121 (Calls.mono (rdr_number W _ _ _ _ _ _ _ c6 f6) ?_)
 rintro _ _ ⟨c1,_,_,rfl,g6,_,h6,i6,j6⟩
 refine ⟨_,rfl,?_⟩
 refine pu1 ?_
 refine tW j6 8 17 (I c1) sizeOf3 ?_
 intro _ r1
 refine zS ?_
 refine lA r1 8 0 18 (isAgg38 _) (sizeOf38 _) ?_
 refine sT r1 9 0 (.agg #[I a0,I b0,I c0, .bool bar,I d0,I e0,I f0,I g0, .slice h0 i0 j0, .slice k0 l0 m0, .slice n0 o0 p0,I q0,I r0, .slice s0 t0 u0, .slice v0 w0 x0,I y0, .slice z0 a1 b1,I c1]) [I a0,I b0,I c0, .bool bar,I d0,I e0,I f0,I g0, .slice h0 i0 j0, .slice k0 l0 m0, .slice n0 o0 p0,I q0,I r0, .slice s0 t0 u0, .slice v0 w0 x0,I y0, .slice z0 a1 b1,I c1] #[I a0,I b0,I c0, .bool bar,I d0,I e0,I f0,I g0, .slice h0 i0 j0, .slice k0 l0 m0, .slice n0 o0 p0,I q0,I r0, .slice s0 t0 u0, .slice v0 w0 x0,I y0, .slice z0 a1 b1,I c1] sizeOf38 ?_
 intro _ s1
 refine zE<|retN (vs:=[.agg #[I a0,I b0,I c0, .bool bar,I d0,I e0,I f0,I g0, .slice h0 i0 j0, .slice k0 l0 m0, .slice n0 o0 p0,I q0,I r0, .slice s0 t0 u0, .slice v0 w0 x0,I y0, .slice z0 a1 b1,I c1]]) rfl (.cons (.cell _ _ _ _ kr (lvA s1 9 0 [I a0,I b0,I c0, .bool bar,I d0,I e0,I f0,I g0, .slice h0 i0 j0, .slice k0 l0 m0, .slice n0 o0 p0,I q0,I r0, .slice s0 t0 u0, .slice v0 w0 x0,I y0, .slice z0 a1 b1,I c1] (isAgg38 _) (sizeOf38 _) rfl rfl rfl)) .nil) ?_
 have k6:=((s1.picks [2,3,4,5,6,7,6]).drops [8,8])
 have l6:=(Sat.perm (cs':=h6::(u3++c4++k4++c5++l5++z5)::H::F) k6 (by simp))
 exact ⟨(⟨a0,b0,c0,bar,d0,e0,f0,g0,⟨h0,i0,j0,t3⟩,⟨k0,l0,m0,b4⟩,⟨n0,o0,p0,j4⟩,q0,r0,⟨s0,t0,u0,b5⟩,⟨v0,w0,x0,k5⟩,y0,⟨z0,a1,b1,y5⟩,c1⟩:Stage),_,_,_,rfl,⟨v3.of_mem mS,d4.of_mem mS,l4.of_mem mS,d5.of_mem mS,(fun z hz=>(e5 z hz).of_mem mS),m5.of_mem mS,(fun z hz=>(n5 z hz).of_mem mS),a6.of_mem mS⟩,(Got.stage w1 b2 i2 hGb z2 e3 j3 o3 w3 e4 m4 r4 w4 f5 o5 t5 b6 g6),_,i6,l6⟩
theorem rdr_job (W w:World) (p:Nat) (H fp:Chunk) (F:List Chunk) (r:List Int) (b:Bool) (hI:RdrR 136 H p r b fp) (hS:Sat W w (fp::H::F)):
  Calls prog 81 #[Pt p 0] w fun e w'=>∃(q:Job) (G:Chunk) (r':List Int) (b':Bool),e= .returned (.agg (encJob q).toArray)/\Job.Ok [G] q/\Got nJob wfJob r b q.v r' b'/\∃fp':Chunk,RdrR 136 H p r' b' fp'/\Sat W w' (fp'::G::H::F):=by
 refine callsA 45 func81 rfl<|sR<|sAlloc hS zeroValue28 fun c0 _ e2=>zS<|sAlloc e2 zeroValue28 fun b0 _ f2=>zS<|pu1 ?_
 have g2:=(f2.picks [3,3])
 refine sF #[Pt p 0] call121 (Calls.mono (rdr_number W _ _ _ _ _ _ _ hI g2) ?_)
 rintro _ _ ⟨a0,h2,i2,rfl,a1,_,_,j2,k2⟩
 refine ⟨_,rfl,?_⟩
 refine pu1<|tW k2 2 3 (I a0) sizeOf3 fun _ l2=>nT<|cutA (γ:=(List Plane)×(Option Addr)×Nat×Nat×Chunk×(List Int)×Bool×Chunk) (fun ⟨xsAc,aAc,nAc,kAc,GAc,rAc,bAc,fpAc⟩=>[(0,Pt p 0),(2,Pt c0 0),(3,Pt b0 0)]) (fun ⟨xsAc,aAc,nAc,kAc,GAc,rAc,bAc,fpAc⟩ w=>Sat W w (GAc::fpAc::H::[(b0, .cells #[.slice aAc nAc kAc,nS,nS,I a0] 28 (0,0))]::[(c0, .cells #[nS,nS,nS,I 0] 28 (0,0))]::F)/\Got (encL nPlane) (wfL wfPlane) h2 i2 (xsAc.map Plane.v) rAc bAc/\RdrR 136 H p rAc bAc fpAc/\RdT encPlane 4 [GAc] aAc nAc kAc xsAc/\(∀z∈xsAc,Plane.Ok [GAc] z)) ?_ ?_
 ·refine sR<|pu1 ?_
  have m2:=(l2.picks [1,1])
  refine sF #[Pt p 0,I 4] call122 (Calls.mono (rdr_count_4 W _ _ _ _ _ _ _ j2 m2) ?_)
  rintro _ _ ⟨d0,o0,b1,rfl,c1,n2,n1,o2⟩
  refine ⟨_,rfl,?_⟩
  have hrng_v_22:=c1.rng;have hcap_v_22:=(by obtain ⟨_,_,_,_,_,_,h⟩:=n1;exact h:o0.length<=262144)
  refine pu1<|nT<|blockE ?_
  have q2:=Sat.nilc o2
  have r2:=OwnT.nil (enc:=encPlane) (E:=87) (sz:=4) fR
  refine loopA (γ:=Nat×(List Plane)×(Option Addr)×Nat×Nat×Chunk×Chunk×(List Int)×Bool×Chunk) (fun ⟨iA,xsA,aA,nA,kA,cA,GA,rA,bA,fpA⟩=>[(0,Pt p 0),(2,Pt c0 0),(3,Pt b0 0),(8,I d0),(9,I (iA:Int))]) (fun ⟨iA,xsA,aA,nA,kA,cA,GA,rA,bA,fpA⟩ w=>Sat W w (GA::cA::fpA::H::[(b0, .cells #[.slice aA nA kA,nS,nS,I a0] 28 (0,0))]::[(c0, .cells #[nS,nS,nS,I 0] 28 (0,0))]::F)/\(iA:Int)<=d0/\Got (encF nPlane) (wfN wfPlane iA) o0 b1 (xsA.map Plane.v) rA bA/\RdrR 136 H p rA bA fpA/\OwnT encPlane 87 4 aA nA kA xsA cA/\nA=iA/\(∀z∈xsA,Plane.Ok [GA] z)) (fun ⟨iA,xsA,aA,nA,kA,cA,GA,rA,bA,fpA⟩=>d0.toNat-iA) (0,[],none,0,0,[],[],o0,b1,n2) ⟨(Sat.nilc q2),om,Got.none _ _,n1,r2,rfl,(by intro z hz;cases hz)⟩ ?_
  rintro ⟨iA,xsA,aA,nA,kA,cA,GA,rA,bA,fpA⟩ ρ _ ⟨d1,hiA,hGA,hIA,hOA,hnA,hDA⟩
  refine sR<|pu1<|nT<|seqE<|cD ((iA:Int)<d0) (fun t2=>?_) (fun t2=>?_)
  rotate_left
  ·refine exitE<|xB<|tN ?_
   have u2:Sat W _ ((GA++cA)::(fpA::H::[(b0, .cells #[.slice aA nA kA,nS,nS,I a0] 28 (0,0))]::[(c0, .cells #[nS,nS,nS,I 0] 28 (0,0))]::F)):=Sat.perm (show Sat W _ (GA::cA::fpA::H::[(b0, .cells #[.slice aA nA kA,nS,nS,I a0] 28 (0,0))]::[(c0, .cells #[nS,nS,nS,I 0] 28 (0,0))]::F) from d1) (by simp)
   have hZ:Got (encF nPlane) (wfN wfPlane d0.toNat) o0 b1 (xsA.map Plane.v) rA bA:=by rw [show d0.toNat=iA from by omega];exact hGA
   exact ⟨(xsA,aA,nA,kA,(GA++cA),rA,bA,fpA),alA,u2,Got.list nPlane_ge c1 hZ,hIA,(hOA.rd (fun p hp=>by simp [hp])),(fun z hz=>(hDA z hz).of_mem mS)⟩
  refine kT<|seqE<|blockE<|seqE<|drawE [3,4,5,7] [(1,⟨b0,0,none⟩, .slice aA nA kA)] [(true,[0,2]),(true,[1]),(false,[3]),(false,[4]),(false,[5]),(true,[6]),(false,[7])] rfl kr ⟨cI d1 4,trivial⟩ ?_
  have v2:=d1.drew
  refine wU [0,2]<|wLd (.slice aA nA kA) 0 isAgg25<|wO rfl ?_
  have w2:=(v2.picks [3,3])
  refine sF #[Pt p 0] call123 (Calls.mono (rdr_plane W _ _ _ _ _ _ _ hIA w2) ?_)
  rintro _ _ ⟨p0,q0,e1,o1,rfl,x2,q1,_,y2,r1⟩
  refine ⟨_,rfl,?_⟩
  refine nilO ⟨⟨cI r1 5,trivial⟩,?_⟩
  refine wO rfl<|sBS r1 (encPlane p0).toArray runUnderlying25 sizeOf87 zeroValue87 fun _ _ s1=>nilO ⟨⟨cI s1 6,trivial⟩,?_⟩
  refine wO rfl<|sApp (nb:=48) s1 hOA 5 (RdT.blk (enc:=encPlane) (sz:=4) (xs:=[p0]) fR 1 0 rfl rfl rfl om) underlying25 (i:=Tryz.t87) kr fR fun r0 s0 f1 _ z2 a3=>nilO ⟨dA,?_⟩
  refine wU [6]<|wO rfl<|tW a3 6 0 (.slice r0 (nA+1) s0) sizeOf25 fun _ b3=>nilO ⟨dA,?_⟩
  refine wN<|tN<|seqE ?_
  have g1:=(b3.pick 1 rfl)
  obtain ⟨i0,j0,k0,rfl,t0,t1⟩:=y2
  have hll_a_57:=t0.len;have hle_a_57:=t0.le
  refine rE<|pu3<|sL g1 0 1 (.bool o1) (isAgg4 _)<|nT ?_
  cases o1
  rotate_left
  ·refine cTt<|sR<|pu1<|sT g1 7 0 (.agg #[nS,nS,nS,I 0]) [nS,nS,nS,I 0] #[nS,nS,nS,I 0] sizeOf28 fun _ u1=>zB<|tR<|tK<|retN (vs:=[.agg #[nS,nS,nS,I 0]]) rfl (.cons (.cell _ _ _ _ kr (lvA u1 7 0 [nS,nS,nS,I 0] (isAgg28 _) (sizeOf28 _) rfl rfl rfl)) .nil) ?_
   have c3:RdrR 136 H p e1 true [(p, .cells #[.slice i0 j0 k0, .bool true] 136 (0,0))]:=⟨_,_,_,rfl,t0,t1⟩
   have hX:=hGA.snoc pfPlane q1
   have d3:=(u1.drops [1,1,2,2,2,2])
   have hZ:=Got.list nPlane_ge c1 (hX.stop (n:=d0.toNat) om [])
   have e3:Sat W _ ([(p, .cells #[.slice i0 j0 k0, .bool true] 136 (0,0))]::[]::H::F):=Sat.perm d3 (by simp)
   have hgot:=Got.job a1 hZ (Got.dead _ []) (Got.dead _ [])
   exact ⟨(⟨⟨none,0,0,[]⟩,⟨none,0,0,[]⟩,⟨none,0,0,[]⟩,0⟩:Job),[],_,true,rfl,⟨RdT.nil (enc:=encPlane) (sz:=4) fR _,(fun z hz=>by cases hz),RdT.nil (enc:=encStage) (sz:=18) fR _,(fun z hz=>by cases hz),RdT.nil (enc:=Go.E.encI) (sz:=1) fR _⟩,hgot.any _,_,c3,e3⟩
  refine cFf<|skipE<|bN<|tN<|rE<|sAdd (iA:Int) 1<|pu1<|nT ?_
  have f3:RdrR 136 H p e1 false [(p, .cells #[.slice i0 j0 k0, .bool false] 136 (0,0))]:=⟨_,_,_,rfl,t0,t1⟩
  have hX:=hGA.snoc pfPlane q1
  have g3:=((g1.picks [5,5,4]).dropAt 4 rfl)
  have h3:=(Sat.perm (cs':=(q0++GA)::(f1::[(p, .cells #[.slice i0 j0 k0, .bool false] 136 (0,0))]::H::[(b0, .cells #[.slice r0 (nA+1) s0,nS,nS,I a0] 28 (0,0))]::[(c0, .cells #[nS,nS,nS,I 0] 28 (0,0))]::F)) (show Sat W _ (q0::GA::f1::[(p, .cells #[.slice i0 j0 k0, .bool false] 136 (0,0))]::H::[(b0, .cells #[.slice r0 (nA+1) s0,nS,nS,I a0] 28 (0,0))]::[(c0, .cells #[nS,nS,nS,I 0] 28 (0,0))]::F) from g3) (by simp))
  have hD2:∀z∈xsA++[p0],Plane.Ok [(q0++GA)] z:=by
   intro z hz
   rcases List.mem_append.1 hz with h|h
   ·exact (hDA z h).of_mem mS
   ·simp only [List.mem_singleton] at h;subst h;exact x2.of_mem mS
  exact ⟨(iA+1,(xsA++[p0]),r0,(nA+1),s0,f1,(q0++GA),e1,false,[(p, .cells #[.slice i0 j0 k0, .bool false] 136 (0,0))]),by dsimp only;omega,alA,h3,om,by first|simpa [Plane.v] using hX|simpa using hX,f3,z2,om,hD2⟩
 rintro ⟨xsAc,aAc,nAc,kAc,GAc,rAc,bAc,fpAc⟩ ρ _ ⟨i3,hLAc,hIAc,hRAc,hDAc⟩
 refine cutA (γ:=(List Stage)×(Option Addr)×Nat×Nat×Chunk×(List Int)×Bool×Chunk) (fun ⟨xsBc,aBc,nBc,kBc,GBc,rBc,bBc,fpBc⟩=>[(0,Pt p 0),(2,Pt c0 0),(3,Pt b0 0)]) (fun ⟨xsBc,aBc,nBc,kBc,GBc,rBc,bBc,fpBc⟩ w=>Sat W w (GBc::GAc::fpBc::H::[(b0, .cells #[.slice aAc nAc kAc, .slice aBc nBc kBc,nS,I a0] 28 (0,0))]::[(c0, .cells #[nS,nS,nS,I 0] 28 (0,0))]::F)/\Got (encL nStage) (wfL wfStage) rAc bAc (xsBc.map Stage.v) rBc bBc/\RdrR 136 H p rBc bBc fpBc/\RdT encStage 18 [GBc] aBc nBc kBc xsBc/\(∀z∈xsBc,Stage.Ok [GBc] z)) ?_ ?_
 rotate_left
 ·rintro ⟨xsBc,aBc,nBc,kBc,GBc,rBc,bBc,fpBc⟩ ρ _ ⟨j3,hLBc,hIBc,hRBc,hDBc⟩
  refine sR<|pu1 ?_
  have k3:=(j3.picks [3,3])
  refine sF #[Pt p 0] call125 (Calls.mono (rdr_numbers W _ _ _ _ _ _ _ hIBc k3) ?_)
  rintro _ _ ⟨e0,f0,g0,l3,m3,_,_,rfl,n3,o3,p3,q3,r3⟩
  refine ⟨_,rfl,?_⟩
  refine pu1<|tW r3 5 2 (.slice e0 f0 g0) sizeOf22 fun _ v1=>zS<|lA v1 5 0 4 (isAgg28 _) (sizeOf28 _)<|sT v1 6 0 (.agg #[.slice aAc nAc kAc, .slice aBc nBc kBc, .slice e0 f0 g0,I a0]) [.slice aAc nAc kAc, .slice aBc nBc kBc, .slice e0 f0 g0,I a0] #[.slice aAc nAc kAc, .slice aBc nBc kBc, .slice e0 f0 g0,I a0] sizeOf28 fun _ w1=>zE<|retN (vs:=[.agg #[.slice aAc nAc kAc, .slice aBc nBc kBc, .slice e0 f0 g0,I a0]]) rfl (.cons (.cell _ _ _ _ kr (lvA w1 6 0 [.slice aAc nAc kAc, .slice aBc nBc kBc, .slice e0 f0 g0,I a0] (isAgg28 _) (sizeOf28 _) rfl rfl rfl)) .nil) ?_
  have s3:=((w1.picks [3,4,2]).drops [5,5])
  have t3:=(Sat.perm (cs':=p3::(GAc++GBc++m3)::H::F) s3 (by simp))
  have hgot:=Got.job a1 hLAc hLBc o3
  exact ⟨(⟨⟨aAc,nAc,kAc,xsAc⟩,⟨aBc,nBc,kBc,xsBc⟩,⟨e0,f0,g0,l3⟩,a0⟩:Job),_,_,_,rfl,⟨hRAc.of_mem mS,(fun z hz=>(hDAc z hz).of_mem mS),hRBc.of_mem mS,(fun z hz=>(hDBc z hz).of_mem mS),n3.of_mem mS⟩,hgot,_,q3,t3⟩
 refine sR<|pu1 ?_
 have u3:=(i3.picks [2,2])
 refine sF #[Pt p 0,I 18] call122 (Calls.mono (rdr_count_18 W _ _ _ _ _ _ _ hIAc u3) ?_)
 rintro _ _ ⟨h0,u0,h1,rfl,i1,v3,x1,w3⟩
 refine ⟨_,rfl,?_⟩
 have hrng_v_77:=i1.rng;have hcap_v_77:=(by obtain ⟨_,_,_,_,_,_,h⟩:=x1;exact h:u0.length<=262144)
 refine pu1<|nT<|blockE ?_
 have x3:=Sat.nilc w3
 have y3:=OwnT.nil (enc:=encStage) (E:=38) (sz:=18) fR
 refine loopA (γ:=Nat×(List Stage)×(Option Addr)×Nat×Nat×Chunk×Chunk×(List Int)×Bool×Chunk) (fun ⟨iB,xsB,aB,nB,kB,cB,GB,rB,bB,fpB⟩=>[(0,Pt p 0),(2,Pt c0 0),(3,Pt b0 0),(25,I h0),(26,I (iB:Int))]) (fun ⟨iB,xsB,aB,nB,kB,cB,GB,rB,bB,fpB⟩ w=>Sat W w (GB::cB::fpB::H::GAc::[(b0, .cells #[.slice aAc nAc kAc, .slice aB nB kB,nS,I a0] 28 (0,0))]::[(c0, .cells #[nS,nS,nS,I 0] 28 (0,0))]::F)/\(iB:Int)<=h0/\Got (encF nStage) (wfN wfStage iB) u0 h1 (xsB.map Stage.v) rB bB/\RdrR 136 H p rB bB fpB/\OwnT encStage 38 18 aB nB kB xsB cB/\nB=iB/\(∀z∈xsB,Stage.Ok [GB] z)) (fun ⟨iB,xsB,aB,nB,kB,cB,GB,rB,bB,fpB⟩=>h0.toNat-iB) (0,[],none,0,0,[],[],u0,h1,v3) ⟨(Sat.nilc x3),om,Got.none _ _,x1,y3,rfl,(by intro z hz;cases hz)⟩ ?_
 rintro ⟨iB,xsB,aB,nB,kB,cB,GB,rB,bB,fpB⟩ ρ _ ⟨j1,hiB,hGB,hIB,hOB,hnB,hDB⟩
 refine sR<|pu1<|nT<|seqE<|cD ((iB:Int)<h0) (fun a4=>?_) (fun a4=>?_)
 rotate_left
 ·refine exitE<|xB<|tN ?_
  have b4:=(j1.picks [4,2,2])
  have c4:Sat W _ ((GB++cB)::(GAc::fpB::H::[(b0, .cells #[.slice aAc nAc kAc, .slice aB nB kB,nS,I a0] 28 (0,0))]::[(c0, .cells #[nS,nS,nS,I 0] 28 (0,0))]::F)):=Sat.perm (show Sat W _ (GB::cB::GAc::fpB::H::[(b0, .cells #[.slice aAc nAc kAc, .slice aB nB kB,nS,I a0] 28 (0,0))]::[(c0, .cells #[nS,nS,nS,I 0] 28 (0,0))]::F) from b4) (by simp)
  have hZ:Got (encF nStage) (wfN wfStage h0.toNat) u0 h1 (xsB.map Stage.v) rB bB:=by rw [show h0.toNat=iB from by omega];exact hGB
  exact ⟨(xsB,aB,nB,kB,(GB++cB),rB,bB,fpB),alA,c4,Got.list nStage_ge i1 hZ,hIB,(hOB.rd (fun p hp=>by simp [hp])),(fun z hz=>(hDB z hz).of_mem mS)⟩
 refine kT<|seqE<|blockE<|seqE<|drawE [3,4,5,7] [(1,⟨b0,1,none⟩, .slice aB nB kB)] [(true,[0,2]),(true,[1]),(false,[3]),(false,[4]),(false,[5]),(true,[6]),(false,[7])] rfl kr ⟨cI j1 5,trivial⟩ ?_
 have d4:=j1.drew
 refine wU [0,2]<|wLd (.slice aB nB kB) 0 isAgg26<|wO rfl ?_
 have e4:=(d4.picks [3,3])
 refine sF #[Pt p 0] call124 (Calls.mono (rdr_stage W _ _ _ _ _ _ _ hIB e4) ?_)
 rintro _ _ ⟨v0,w0,k1,y1,rfl,f4,z1,_,g4,a2⟩
 refine ⟨_,rfl,?_⟩
 refine nilO ⟨⟨cI a2 6,trivial⟩,?_⟩
 refine wO rfl<|sBS a2 (encStage v0).toArray runUnderlying26 sizeOf38 zeroValue38 fun _ _ b2=>nilO ⟨⟨cI b2 7,trivial⟩,?_⟩
 refine wO rfl<|sApp (nb:=240) b2 hOB 5 (RdT.blk (enc:=encStage) (sz:=18) (xs:=[v0]) fR 1 0 rfl rfl rfl om) underlying26 (i:=Tryz.t38) kr fR fun x0 y0 l1 _ h4 i4=>nilO ⟨dA,?_⟩
 refine wU [6]<|wO rfl<|tW i4 7 1 (.slice x0 (nB+1) y0) sizeOf26 fun _ j4=>nilO ⟨dA,?_⟩
 refine wN<|tN<|seqE ?_
 have m1:=(j4.pick 1 rfl)
 obtain ⟨l0,m0,n0,rfl,z0,c2⟩:=g4
 have hll_a_112:=z0.len;have hle_a_112:=z0.le
 refine rE<|pu3<|sL m1 0 1 (.bool y1) (isAgg4 _)<|nT ?_
 cases y1
 rotate_left
 ·refine cTt<|sR<|pu1<|sT m1 8 0 (.agg #[nS,nS,nS,I 0]) [nS,nS,nS,I 0] #[nS,nS,nS,I 0] sizeOf28 fun _ d2=>zB<|tR<|tK<|retN (vs:=[.agg #[nS,nS,nS,I 0]]) rfl (.cons (.cell _ _ _ _ kr (lvA d2 8 0 [nS,nS,nS,I 0] (isAgg28 _) (sizeOf28 _) rfl rfl rfl)) .nil) ?_
  have k4:RdrR 136 H p k1 true [(p, .cells #[.slice l0 m0 n0, .bool true] 136 (0,0))]:=⟨_,_,_,rfl,z0,c2⟩
  have hX:=hGB.snoc pfStage z1
  have l4:=(d2.drops [1,1,2,2,2,2,2])
  have hZ:=Got.list nStage_ge i1 (hX.stop (n:=h0.toNat) om [])
  have m4:Sat W _ ([(p, .cells #[.slice l0 m0 n0, .bool true] 136 (0,0))]::[]::H::F):=Sat.perm l4 (by simp)
  exact ⟨(⟨⟨none,0,0,[]⟩,⟨none,0,0,[]⟩,⟨none,0,0,[]⟩,0⟩:Job),[],_,true,rfl,⟨RdT.nil (enc:=encPlane) (sz:=4) fR _,(fun z hz=>by cases hz),RdT.nil (enc:=encStage) (sz:=18) fR _,(fun z hz=>by cases hz),RdT.nil (enc:=Go.E.encI) (sz:=1) fR _⟩,(Got.job a1 hLAc hZ (Got.dead _ [])).any _,_,k4,m4⟩
 refine cFf<|skipE<|bN<|tN<|rE<|sAdd (iB:Int) 1<|pu1<|nT ?_
 have n4:RdrR 136 H p k1 false [(p, .cells #[.slice l0 m0 n0, .bool false] 136 (0,0))]:=⟨_,_,_,rfl,z0,c2⟩
 have hX:=hGB.snoc pfStage z1
 have o4:=((m1.picks [5,5,4]).dropAt 4 rfl)
 have p4:=(Sat.perm (cs':=(w0++GB)::(l1::[(p, .cells #[.slice l0 m0 n0, .bool false] 136 (0,0))]::H::GAc::[(b0, .cells #[.slice aAc nAc kAc, .slice x0 (nB+1) y0,nS,I a0] 28 (0,0))]::[(c0, .cells #[nS,nS,nS,I 0] 28 (0,0))]::F)) (show Sat W _ (w0::GB::l1::[(p, .cells #[.slice l0 m0 n0, .bool false] 136 (0,0))]::H::GAc::[(b0, .cells #[.slice aAc nAc kAc, .slice x0 (nB+1) y0,nS,I a0] 28 (0,0))]::[(c0, .cells #[nS,nS,nS,I 0] 28 (0,0))]::F) from o4) (by simp))
 have hD2:∀z∈xsB++[v0],Stage.Ok [(w0++GB)] z:=by
  intro z hz
  rcases List.mem_append.1 hz with h|h
  ·exact (hDB z h).of_mem mS
  ·simp only [List.mem_singleton] at h;subst h;exact f4.of_mem mS
 exact ⟨(iB+1,(xsB++[v0]),x0,(nB+1),y0,l1,(w0++GB),k1,false,[(p, .cells #[.slice l0 m0 n0, .bool false] 136 (0,0))]),by dsimp only;omega,alA,p4,om,by first|simpa [Stage.v] using hX|simpa using hX,n4,h4,om,hD2⟩
theorem codec_decode (W w:World) (H:Chunk) (F:List Chunk) (a:Option Addr) (n k:Nat) (x:List Int) (hx:RdT encB 1 [H] a n k x) (hB:Bytes x) (hS:Sat W w (H::F)):
  Calls prog 39 #[.slice a n k] w fun e w'=>∃(q:Job) (G:Chunk) (c:Int),e= .returned (.tuple #[.agg (encJob q).toArray,I c])/\Job.Ok [G] q/\DecR x q.v c/\Sat W w' (G::H::F):=by
 have hle:=hx.le;have hll:=hx.len
 refine callsA 52 func39 rfl<|sR<|sAlloc hS zeroValue28 fun _ _ a0=>pu1<|zQ<|pu3<|nT<|cD ((n:Int)>262144) (fun a1=>?_) (fun a1=>?_)
 ·refine sR<|pu1<|sT a0 0 0 (.agg #[nS,nS,nS,I 0]) [nS,nS,nS,I 0] #[nS,nS,nS,I 0] sizeOf28 fun _ o0=>pu1<|zR<|retN (vs:=[.agg #[nS,nS,nS,I 0],I 5]) rfl (.cons (.cell _ _ _ _ kr (lvA o0 0 0 [nS,nS,nS,I 0] (isAgg28 _) (sizeOf28 _) rfl rfl rfl)) (.cons (.tmp _ _ kr) .nil)) ?_
  have b1:=(o0.dropAt 0 rfl)
  have h2:Sat W _ ([]::H::F):=Sat.nilc b1
  exact ⟨(⟨⟨none,0,0,[]⟩,⟨none,0,0,[]⟩,⟨none,0,0,[]⟩,0⟩:Job),[],5,rfl,⟨RdT.nil (enc:=encPlane) (sz:=4) fR _,(fun z hz=>by cases hz),RdT.nil (enc:=encStage) (sz:=18) fR _,(fun z hz=>by cases hz),RdT.nil (enc:=Go.E.encI) (sz:=1) fR _⟩,DecR.big om,h2⟩
 refine kT<|seqE<|sR<|pu4<|sD 13 ((n:Int)<3) (fun c1=>?_) (fun c1=>?_)
 ·refine pu16<|pu1<|zC<|pu1<|sT a0 0 0 (.agg #[nS,nS,nS,I 0]) [nS,nS,nS,I 0] #[nS,nS,nS,I 0] sizeOf28 fun _ p0=>pu1<|zR<|retN (vs:=[.agg #[nS,nS,nS,I 0],I 4]) rfl (.cons (.cell _ _ _ _ kr (lvA p0 0 0 [nS,nS,nS,I 0] (isAgg28 _) (sizeOf28 _) rfl rfl rfl)) (.cons (.tmp _ _ kr) .nil)) ?_
  have d1:=(p0.dropAt 0 rfl)
  have h2:Sat W _ ([]::H::F):=Sat.nilc d1
  exact ⟨(⟨⟨none,0,0,[]⟩,⟨none,0,0,[]⟩,⟨none,0,0,[]⟩,0⟩:Job),[],4,rfl,⟨RdT.nil (enc:=encPlane) (sz:=4) fR _,(fun z hz=>by cases hz),RdT.nil (enc:=encStage) (sz:=18) fR _,(fun z hz=>by cases hz),RdT.nil (enc:=Go.E.encI) (sz:=1) fR _⟩,DecR.head om (.inl om),h2⟩
 refine pu1<|gY<|sIdx hx 0 runUnderlying74 sizeOf5 fun j0 _ _ q0 e1=>gY<|sLp a0 (e1.up 1 rfl) 0 (.int .u8 j0) (isAgg5 _)<|pu3<|sN 19 j0 84 (fun f1=>?_) (fun f1=>?_)
 rotate_left
 ·refine pu11<|zC<|pu1<|sT a0 0 0 (.agg #[nS,nS,nS,I 0]) [nS,nS,nS,I 0] #[nS,nS,nS,I 0] sizeOf28 fun _ r0=>pu1<|zR<|retN (vs:=[.agg #[nS,nS,nS,I 0],I 4]) rfl (.cons (.cell _ _ _ _ kr (lvA r0 0 0 [nS,nS,nS,I 0] (isAgg28 _) (sizeOf28 _) rfl rfl rfl)) (.cons (.tmp _ _ kr) .nil)) ?_
  have g1:=(r0.dropAt 0 rfl)
  have h2:Sat W _ ([]::H::F):=Sat.nilc g1
  exact ⟨(⟨⟨none,0,0,[]⟩,⟨none,0,0,[]⟩,⟨none,0,0,[]⟩,0⟩:Job),[],4,rfl,⟨RdT.nil (enc:=encPlane) (sz:=4) fR _,(fun z hz=>by cases hz),RdT.nil (enc:=encStage) (sz:=18) fR _,(fun z hz=>by cases hz),RdT.nil (enc:=Go.E.encI) (sz:=1) fR _⟩,DecR.head om (.inr (.inl ⟨_,q0,om⟩)),h2⟩
 refine pu1<|gY<|sIdx hx 1 runUnderlying74 sizeOf5 fun k0 _ _ s0 h1=>gY<|sLp a0 (h1.up 1 rfl) 0 (.int .u8 k0) (isAgg5 _)<|pu3<|sN 25 k0 70 (fun i1=>?_) (fun i1=>?_)
 rotate_left
 ·refine pu5<|zC<|pu1<|sT a0 0 0 (.agg #[nS,nS,nS,I 0]) [nS,nS,nS,I 0] #[nS,nS,nS,I 0] sizeOf28 fun _ t0=>pu1<|zR<|retN (vs:=[.agg #[nS,nS,nS,I 0],I 4]) rfl (.cons (.cell _ _ _ _ kr (lvA t0 0 0 [nS,nS,nS,I 0] (isAgg28 _) (sizeOf28 _) rfl rfl rfl)) (.cons (.tmp _ _ kr) .nil)) ?_
  have j1:=(t0.dropAt 0 rfl)
  have h2:Sat W _ ([]::H::F):=Sat.nilc j1
  exact ⟨(⟨⟨none,0,0,[]⟩,⟨none,0,0,[]⟩,⟨none,0,0,[]⟩,0⟩:Job),[],4,rfl,⟨RdT.nil (enc:=encPlane) (sz:=4) fR _,(fun z hz=>by cases hz),RdT.nil (enc:=encStage) (sz:=18) fR _,(fun z hz=>by cases hz),RdT.nil (enc:=Go.E.encI) (sz:=1) fR _⟩,DecR.head om (.inr (.inr (.inl ⟨_,s0,om⟩))),h2⟩
 refine pu1<|gY<|sIdx hx 2 runUnderlying74 sizeOf5 fun l0 _ _ u0 k1=>gY<|sLp a0 (k1.up 1 rfl) 0 (.int .u8 l0) (isAgg5 _)<|pu2<|nT<|cN l0 1 (fun l1=>?_) (fun l1=>?_)
 rotate_left
 ·refine sR<|pu1<|sT a0 0 0 (.agg #[nS,nS,nS,I 0]) [nS,nS,nS,I 0] #[nS,nS,nS,I 0] sizeOf28 fun _ v0=>pu1<|zR<|retN (vs:=[.agg #[nS,nS,nS,I 0],I 4]) rfl (.cons (.cell _ _ _ _ kr (lvA v0 0 0 [nS,nS,nS,I 0] (isAgg28 _) (sizeOf28 _) rfl rfl rfl)) (.cons (.tmp _ _ kr) .nil)) ?_
  have m1:=(v0.dropAt 0 rfl)
  have h2:Sat W _ ([]::H::F):=Sat.nilc m1
  exact ⟨(⟨⟨none,0,0,[]⟩,⟨none,0,0,[]⟩,⟨none,0,0,[]⟩,0⟩:Job),[],4,rfl,⟨RdT.nil (enc:=encPlane) (sz:=4) fR _,(fun z hz=>by cases hz),RdT.nil (enc:=encStage) (sz:=18) fR _,(fun z hz=>by cases hz),RdT.nil (enc:=Go.E.encI) (sz:=1) fR _⟩,DecR.head om (.inr (.inr (.inr ⟨_,u0,om⟩))),h2⟩
 refine kS<|pu1<|sSl (some 3) none 3 n runUnderlying74 sizeOf5 ⟨by decide,rfl⟩ rfl om om ?_ (a:=a) (len:=n) (cap:=k)
 have n1:=hx.part (lo:=3) (hi:=n) om om
 refine pu1<|sBox a0 (.agg #[.slice (partAddr a k 3 1) (n-3) (k-3), .bool false]) #[.slice (partAddr a k 3 1) (n-3) (k-3), .bool false] fun b0 _ o1=>pu1<|nT<|seqE ?_
 have q1:j0=84:=by omega
 have r1:k0=70:=by omega
 have s1:l0=1:=by omega
 have hx3:x=[84,70,1]++x.drop 3:=by
  have h:=take3 q0 s0 u0
  rw [q1,r1,s1] at h;exact h
 have hR2:=n1
 rw [List.take_of_length_le (by simp;omega)] at hR2
 have hI0:RdrR 136 H b0 (x.drop 3) false [(b0, .cells #[.slice (partAddr a k 3 1) (n-3) (k-3), .bool false] 136 (0,0))]:=⟨_,_,_,rfl,hR2,(fun y hy=>hB y (List.mem_of_mem_drop hy)),by simp;omega⟩
 refine rE<|pu1 ?_
 have t1:=(o1.picks [2,1])
 refine sF #[Pt b0 0] call81 (Calls.mono (rdr_job W _ _ _ _ _ _ _ hI0 t1) ?_)
 rintro _ _ ⟨c0,_,g0,w0,rfl,u1,m0,_,v1,w1⟩
 refine ⟨_,rfl,?_⟩
 refine sAlloc w1 zeroValue28 fun _ _ x1=>?_
 refine sT x1 0 0 (.agg (encJob c0).toArray) (encJob c0) (encJob c0).toArray sizeOf28 fun _ y1=>nT<|seqE<|seqE ?_
 have d0:=(y1.pick 1 rfl)
 obtain ⟨h0,e0,i0,rfl,f0,n0⟩:=v1
 have hll_a_53:=f0.len;have hle_a_53:=f0.le
 refine rE<|pu3<|sL d0 0 1 (.bool w0) (isAgg4 _)<|pu1 ?_
 cases w0
 rotate_left
 ·refine pu7<|zC<|pu1<|sT d0 4 0 (.agg #[nS,nS,nS,I 0]) [nS,nS,nS,I 0] #[nS,nS,nS,I 0] sizeOf28 fun _ x0=>pu1<|zR<|retN (vs:=[.agg #[nS,nS,nS,I 0],I 4]) rfl (.cons (.cell _ _ _ _ kr (lvA x0 4 0 [nS,nS,nS,I 0] (isAgg28 _) (sizeOf28 _) rfl rfl rfl)) (.cons (.tmp _ _ kr) .nil)) ?_
  have a3:RdrR 136 H b0 g0 true [(b0, .cells #[.slice h0 e0 i0, .bool true] 136 (0,0))]:=⟨_,_,_,rfl,f0,n0⟩
  have hgot:=m0
  have z1:=(x0.drops [0,0,0,1])
  have h2:Sat W _ ([]::H::F):=Sat.nilc z1
  exact ⟨(⟨⟨none,0,0,[]⟩,⟨none,0,0,[]⟩,⟨none,0,0,[]⟩,0⟩:Job),[],4,rfl,⟨RdT.nil (enc:=encPlane) (sz:=4) fR _,(fun z hz=>by cases hz),RdT.nil (enc:=encStage) (sz:=18) fR _,(fun z hz=>by cases hz),RdT.nil (enc:=Go.E.encI) (sz:=1) fR _⟩,DecR.fail om hx3 hgot (by first|(left;rfl)|(right;omega)),h2⟩
 refine pu3<|gY<|sL d0 0 0 (.slice h0 e0 i0) (isAgg74 _)<|pu3<|nT<|cD ((e0:Int)>0) (fun a2=>?_) (fun a2=>?_)
 rotate_left
 ·refine kS<|lA d0 1 0 4 (isAgg28 _) (sizeOf28 _)<|sT d0 4 0 (.agg (encJob c0).toArray) (encJob c0) (encJob c0).toArray sizeOf28 fun _ y0=>pu1<|zE<|retN (vs:=[.agg (encJob c0).toArray,I 0]) rfl (.cons (.cell _ _ _ _ kr (lvA y0 4 0 (encJob c0) (isAgg28 _) (sizeOf28 _) rfl rfl rfl)) (.cons (.tmp _ _ kr) .nil)) ?_
  have c3:RdrR 136 H b0 g0 false [(b0, .cells #[.slice h0 e0 i0, .bool false] 136 (0,0))]:=⟨_,_,_,rfl,f0,n0⟩
  have hgot:=m0
  have hr0:g0=[]:=List.eq_nil_of_length_eq_zero om
  exact ⟨c0,_,0,rfl,u1,DecR.good om hx3 hgot rfl hr0,(y0.drops [0,0,2])⟩
 refine sR<|pu1<|sT d0 4 0 (.agg #[nS,nS,nS,I 0]) [nS,nS,nS,I 0] #[nS,nS,nS,I 0] sizeOf28 fun _ z0=>pu1<|zR<|retN (vs:=[.agg #[nS,nS,nS,I 0],I 4]) rfl (.cons (.cell _ _ _ _ kr (lvA z0 4 0 [nS,nS,nS,I 0] (isAgg28 _) (sizeOf28 _) rfl rfl rfl)) (.cons (.tmp _ _ kr) .nil)) ?_
 have e3:RdrR 136 H b0 g0 false [(b0, .cells #[.slice h0 e0 i0, .bool false] 136 (0,0))]:=⟨_,_,_,rfl,f0,n0⟩
 have hgot:=m0
 have c2:=(z0.drops [0,0,0,1])
 have h2:Sat W _ ([]::H::F):=Sat.nilc c2
 exact ⟨(⟨⟨none,0,0,[]⟩,⟨none,0,0,[]⟩,⟨none,0,0,[]⟩,0⟩:Job),[],4,rfl,⟨RdT.nil (enc:=encPlane) (sz:=4) fR _,(fun z hz=>by cases hz),RdT.nil (enc:=encStage) (sz:=18) fR _,(fun z hz=>by cases hz),RdT.nil (enc:=Go.E.encI) (sz:=1) fR _⟩,DecR.fail om hx3 hgot (by first|(left;rfl)|(right;omega)),h2⟩
theorem eqvn34 (w:World) (a0 a1 b0 b1:Int):∀x y,((do eqGuard .neq 34 x y (.agg #[.int .i64 a0, .int .i64 a1]) (.agg #[.int .i64 b0, .int .i64 b1]);binOp .neq 34 (.agg #[.int .i64 a0, .int .i64 a1]) (.agg #[.int .i64 b0, .int .i64 b1])):Sem Value).run prog w= .ok (.bool (!((a0==b0)&&(a1==b1)))) w:=by
  intro x y
  simp [go_sem,run_eqGuard_agg,run_neq_struct,run_equalIn_agg]
  by_cases h0:a0=b0<;>by_cases h1:a1=b1<;>simp [*]
theorem eqve34 (w:World) (a0 a1 b0 b1:Int):∀x y,((do eqGuard .eql 34 x y (.agg #[.int .i64 a0, .int .i64 a1]) (.agg #[.int .i64 b0, .int .i64 b1]);binOp .eql 34 (.agg #[.int .i64 a0, .int .i64 a1]) (.agg #[.int .i64 b0, .int .i64 b1])):Sem Value).run prog w= .ok (.bool ((a0==b0)&&(a1==b1))) w:=by
  intro x y
  simp [go_sem,run_eqGuard_agg,run_eql_struct,run_equalIn_agg]
  by_cases h0:a0=b0<;>by_cases h1:a1=b1<;>simp [*]
end Go.Proofs.YtdingplbadblpaaGreat
