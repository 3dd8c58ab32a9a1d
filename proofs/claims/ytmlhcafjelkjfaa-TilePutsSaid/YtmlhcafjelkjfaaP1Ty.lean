import Derived.Test.YtmlhcafjelkjfaaP1Ab
import Derived.WalkKit
import Derived.Deep.Quiet
import Derived.KernelRfl
import Derived.Laws.BytesString
import Derived.Laws.Shifts
import Derived.Laws.IdiomStrings
import Derived.Test.YtmlhcafjelkjfaaProg
import Derived.Laws.IdiomRangeMap
import Derived.Test.YtmlhcafjelkjfaaP1CkS
import Derived.Test.YtmlhcafjelkjfaaP1Tu
import Derived.Test.YtmlhcafjelkjfaaP1Tv
namespace Go.Proofs.Ytmlhcafjelkjfaa
open Go Go.E Go.Proofs.Try
set_option linter.all false
set_option maxRecDepth 100000
set_option maxHeartbeats 2000000
variable {W w:World} {H:Chunk} {F:List Chunk}
def mrgB (l:List (List Int)) (bins:Int):List Int×Int:=if (mrgT l).2=0 then (if ((mrgT l).1.length:Int)=bins then ((mrgT l).1,0) else ([],8)) else ([],(mrgT l).2)
theorem addF_len {n:Nat}:∀(l:List (List Int)) (a:List Int),a.length=n->(∀z∈l,z.length=n)->(l.foldl addL a).length=n
  |[],_,ha,_=>ha
  |z::l,a,ha,h=>addF_len l (addL a z) (addL_ln ha (h z (List.mem_cons_self ..))) fun y hy=>h y (List.mem_cons_of_mem _ hy)
theorem mrgB_eq (l:List (List Int)) (bins:Int):mrgB l bins=if mrgC l=0 then (if mrgN l=bins then (mrgV l,0) else ([],8)) else ([],mrgC l):=by
 unfold mrgB mrgT
 by_cases h:mrgC l=0
 ·rw [if_pos h,if_pos rfl,if_pos h]
  have hl:((mrgV l).length:Int)=mrgN l:=by
   unfold mrgC at h
   split at h
   ·omega
   ·rename_i h0
    split at h
    ·rename_i h1
     have h2:∀z∈l,z.length=(mrgN l).toNat:=fun z hz=>by have:=of_decide_eq_true (List.all_eq_true.1 h1.2 z hz);omega
     have h3:=addF_len l (List.replicate (mrgN l).toNat 0) List.length_replicate h2
     show (((l.foldl addL (List.replicate (mrgN l).toNat 0)).length:Nat):Int)=mrgN l
     rw [h3];omega
    ·omega
  dsimp only
  rw [hl]
 ·rw [if_neg h,if_neg h,if_neg h]
theorem cmp_n {s:StageV} {part:Int} {r:Rct} {p q own:PlaneV} {l:List (List Int)} {c:Int} (h:cmpC s part p q own=c) (hc:¬c=0):cmpT s part r p q own l=([],c):=by unfold cmpT;rw [if_neg (by omega),h]
theorem cmp_1 {s:StageV} {part:Int} {r:Rct} {p q own:PlaneV} {l:List (List Int)} (h:cmpC s part p q own=0) (h1:part=1):cmpT s part r p q own l=(partV p s.bins r,partC p s.bins r):=by unfold cmpT;rw [if_pos h,if_pos h1]
theorem cmp_2 {s:StageV} {part:Int} {r:Rct} {p q own:PlaneV} {l:List (List Int)} (h:cmpC s part p q own=0) (h2:part=2):cmpT s part r p q own l=mrgB l s.bins:=by unfold cmpT;rw [if_pos h,if_neg (by omega),if_pos h2,mrgB_eq]
theorem cmp_0 {s:StageV} {part:Int} {r:Rct} {p q own:PlaneV} {l:List (List Int)} (h:cmpC s part p q own=0) (h1:¬part=1) (h2:¬part=2):cmpT s part r p q own l=if (tilT s p q own r).2=0 then ((tilT s p q own r).1.pix,0) else ([],(tilT s p q own r).2):=by unfold cmpT;rw [if_pos h,if_neg h1,if_neg h2]
theorem cmpC_k {s:StageV} {part:Int} {p q own:PlaneV} (h:cmpC s part p q own=0):belongP s.kind part/\planeOK p=true/\(twoP s->planeOK q=true)/\(s.kind=5->planeOK own=true/\own.w=p.w/\own.h=p.h)/\(ofV s (shpOf p) (shpOf q)).2=0:=by
  unfold cmpC at h
  split at h
  · rename_i k;exact ⟨k.1,k.2.1,k.2.2.1,k.2.2.2,h⟩
  · omega
section
variable {own:PlaneV} {r:Rct}
theorem at_in {x y:Int} (hx:0<=x/\x<own.w) (hy:0<=y/\y<own.h):atV own x y=pixAt own x y:=if_neg (by omega)
theorem at_no {x y:Int} (h:x<0\/y<0):atV own x y=0:=if_pos (by omega)
theorem left_mix {n:Nat} (hn:(n:Int)=r.y1-r.y0):mixN (fun j=>atV own (r.x0-1) (r.y0+(j:Int))) (fun _=>0) n n=leftV own r:=by rw [mix_n];unfold leftV tabN;rw [show (r.y1-r.y0).toNat=n by omega]
theorem left_no (h:r.x0<=0):List.replicate (r.y1-r.y0).toNat 0=leftV own r:=tab_zero fun _ _=>at_no (by omega)
theorem top_no (h:r.y0<=0):List.replicate (r.x1-r.x0).toNat 0=topV own r:=tab_zero fun _ _=>at_no (by omega)
theorem top_cp {m:Nat} (hr:rIn r own.w own.h) (hl:(own.pix.length:Int)=own.w*own.h) (hy:0<r.y0) (hm:(r.x1-r.x0).toNat<=m) (h0:0<=(r.y0-1)*own.w+r.x0):
  (List.replicate (r.x1-r.x0).toNat (0:Int)).take 0++((own.pix.drop ((r.y0-1)*own.w+r.x0).toNat).take m).take (r.x1-r.x0).toNat++(List.replicate (r.x1-r.x0).toNat (0:Int)).drop (0+(r.x1-r.x0).toNat)=topV own r:=by
 obtain ⟨n,hn⟩:∃n:Nat,n=(r.x1-r.x0).toNat:=⟨_,rfl⟩
 obtain ⟨s,hs⟩:∃s:Nat,s=((r.y0-1)*own.w+r.x0).toNat:=⟨_,rfl⟩
 rw [<-hn,<-hs]
 rw [List.take_zero,List.nil_append,Nat.zero_add,List.drop_of_length_le (show (List.replicate n (0:Int)).length<=n by rw [List.length_replicate];omega),List.append_nil,List.take_take,Nat.min_eq_left om]
 unfold rIn at hr
 have hb:(r.y0-1)*own.w+own.w<=own.w*own.h:=by
  have:=Int.mul_le_mul_of_nonneg_right (show r.y0<=own.h by omega) (show 0<=own.w by omega)
  have h2:(r.y0-1)*own.w+own.w=r.y0*own.w:=by rw [Int.sub_mul,Int.one_mul];omega
  rw [Int.mul_comm own.w own.h];omega
 apply List.ext_getElem?
 intro k
 unfold topV
 rw [show (r.x1-r.x0).toNat=n by omega]
 by_cases hk:k<n
 ·rw [List.getElem?_take_of_lt hk,List.getElem?_drop,List.getElem?_map,List.getElem?_range hk,Option.map_some,at_in om om]
  unfold pixAt
  rw [List.getD_eq_getElem?_getD,show ((r.y0-1)*own.w+(r.x0+(k:Int))).toNat=s+k by omega,List.getElem?_eq_getElem om];rfl
 ·rw [List.getElem?_eq_none (by rw [List.length_take];omega),List.getElem?_eq_none (by rw [List.length_map,List.length_range];omega)]
end
theorem p21_belongs (k:Int) (m:Int) (hS:Sat W w (H::F)):
  Ro prog 46 #[I k,I m] (.bool (decide (belongP k m))) W w (H::F):=by
 refine callsA 15 func46 rfl<|sR<|pu1<|zQ<|pu2<|nT<|cE k 4 (fun a0=>?_) (fun a0=>?_)
 rotate_left
 ·exact kS<|pu3<|zE<|retT [.bool ((m:Int)==0)]<|⟨rB (by rw [Bool.eq_iff_iff,decide_eq_true_eq,beq_iff_eq];unfold belongP;omega),hS⟩
 refine sR<|pu3<|sE 9 m 1 (fun b0=>?_) (fun b0=>?_)
 ·exact pu4<|zR<|retT [.bool true]<|⟨rB (decide_eq_true (by unfold belongP;omega)).symm,hS⟩
 exact pu4<|zR<|retT [.bool ((m:Int)==2)]<|⟨rB (by rw [Bool.eq_iff_iff,decide_eq_true_eq,beq_iff_eq];unfold belongP;omega),hS⟩
theorem p21_shape (p:Plane) (hp:Plane.Ok [H] p) (hS:Sat W w (H::F)):
  Ro prog 48 #[.agg (encPlane p).toArray] (.agg #[I p.w,I p.h,I p.max_]) W w (H::F):=by
 have hl_p_pix:=hp.pix.le;have hn_p_pix:=hp.pix.len
 exact callsA 10 func48 rfl<|sR<|sBox hS (.agg (encPlane p).toArray) (encPlane p).toArray fun _ _ c0=>sAlloc c0 zeroValue77 fun _ _ a0=>zS<|pu1<|sL a0 1 0 (I p.w) (isAgg3 _)<|pu1<|sL a0 1 1 (I p.h) (isAgg3 _)<|pu1<|sL a0 1 2 (I p.max_) (isAgg3 _)<|pu1<|sTl a0 0 [I p.w,I p.h,I p.max_] sizeOf77 fun _ b0=>zE<|retN (vs:=[.agg #[I p.w,I p.h,I p.max_]]) rfl (.cons (.cell _ _ _ _ kr (lvA b0 0 0 [I p.w,I p.h,I p.max_] (isAgg77 _) (sizeOf77 _) rfl rfl rfl)) .nil)<|⟨rfl,(b0.drops [0,0])⟩
theorem p21_whole (p:Plane) (hp:Plane.Ok [H] p) (hS:Sat W w (H::F)):
  Ro prog 21 #[.agg (encPlane p).toArray] (.agg #[I 0,I 0,I p.w,I p.h]) W w (H::F):=by
 have hl_p_pix:=hp.pix.le;have hn_p_pix:=hp.pix.len
 exact callsA 8 func21 rfl<|sR<|sBox hS (.agg (encPlane p).toArray) (encPlane p).toArray fun _ _ c0=>sAlloc c0 zeroValue24 fun _ _ a0=>zS<|pu1<|sL a0 1 0 (I p.w) (isAgg3 _)<|pu1<|sL a0 1 1 (I p.h) (isAgg3 _)<|pu1<|sTl a0 0 [I 0,I 0,I p.w,I p.h] sizeOf24 fun _ b0=>zE<|retN (vs:=[.agg #[I 0,I 0,I p.w,I p.h]]) rfl (.cons (.cell _ _ _ _ kr (lvA b0 0 0 [I 0,I 0,I p.w,I p.h] (isAgg24 _) (sizeOf24 _) rfl rfl rfl)) .nil)<|⟨rfl,(b0.drops [0,0])⟩
theorem p21_check (s0:Stage) (m:Int) (p:Plane) (u0:Plane) (own:Plane) (two:Bool) (hs0:Stage.Ok [H] s0) (hp:Plane.Ok [H] p) (hu0:Plane.Ok [H] u0) (hown:Plane.Ok [H] own) (ht:two=true↔twoP s0.v) (hS:Sat W w (H::F)):
  Ro prog 39 #[.agg (encStage s0).toArray,I m, .agg (encPlane p).toArray, .agg (encPlane u0).toArray, .agg (encPlane own).toArray, .bool two] (I (cmpC s0.v m p.v u0.v own.v)) W w (H::F):=by
 have hl_s0_weights:=hs0.weights.le;have hn_s0_weights:=hs0.weights.len
 have hl_s0_row:=hs0.row.le;have hn_s0_row:=hs0.row.len
 have hl_s0_col:=hs0.col.le;have hn_s0_col:=hs0.col.len
 have hl_s0_x:=hs0.x.le;have hn_s0_x:=hs0.x.len
 have hl_s0_y:=hs0.y.le;have hn_s0_y:=hs0.y.len
 have hl_s0_ops:=hs0.ops.le;have hn_s0_ops:=hs0.ops.len
 have hl_p_pix:=hp.pix.le;have hn_p_pix:=hp.pix.len
 have hl_u0_pix:=hu0.pix.le;have hn_u0_pix:=hu0.pix.len
 have hl_own_pix:=hown.pix.le;have hn_own_pix:=hown.pix.len
 refine callsA 65 func39 rfl<|sR<|sBox hS (.agg (encStage s0).toArray) (encStage s0).toArray fun f0 _ c1=>sBox c1 (.agg (encPlane p).toArray) (encPlane p).toArray fun k0 _ d1=>sBox d1 (.agg (encPlane u0).toArray) (encPlane u0).toArray fun l0 _ e1=>sBox e1 (.agg (encPlane own).toArray) (encPlane own).toArray fun t0 _ z0=>pu1<|nT ?_
 refine cutA (γ:=Unit) (fun _=>[(6,Pt f0 0),(8,Pt k0 0),(9,Pt l0 0),(10,Pt t0 0)]) (fun _ w=>Sat W w ([(t0, .cells (encPlane own).toArray 28 (0,0))]::[(l0, .cells (encPlane u0).toArray 28 (0,0))]::[(k0, .cells (encPlane p).toArray 28 (0,0))]::[(f0, .cells (encStage s0).toArray 59 (0,0))]::H::F)/\(belongP s0.v.kind m/\planeOK p.v=true/\(twoP s0.v->planeOK u0.v=true))) ?_ ?_
 ·refine sR<|pu1<|sL z0 3 0 (I s0.kind) (isAgg3 _)<|pu1<|cR call46 (p21_belongs s0.kind m z0.flat) fun _ v0=>pu2<|sDn 20 (belongP s0.kind m) (fun o0=>?_) (fun o0=>?_)
  rotate_left
  ·refine pu12<|zC<|pu1<|zR<|retT [I 1] ?_
   exact ⟨by rw [show cmpC s0.v m p.v u0.v own.v=1 from by unfold cmpC;exact if_neg (fun h=>o0 h.1)];rfl,(v0.drops [0,0,0,0])⟩
  refine gY<|lA v0 2 0 4 (isAgg28 _) (sizeOf28 _)<|gY<|cR call18 (p4_valid p ⟨(RdT.flat (hp.pix.up 4 (by rfl)))⟩ v0.flat) fun _ p0=>pu3<|sBn 25 (planeOK p.v) (fun q0=>?_) (fun q0=>?_)
  rotate_left
  ·refine pu7<|zC<|pu1<|zR<|retT [I 1] ?_
   exact ⟨by rw [show cmpC s0.v m p.v u0.v own.v=1 from by unfold cmpC;exact if_neg (fun h=>q0 h.2.1)];rfl,(p0.drops [0,0,0,0])⟩
  refine pu2<|sB 27 two (fun w0=>?_) (fun w0=>?_)
  rotate_left
  ·exact pu5<|nT<|cFf<|kT<|⟨(),alA,p0,⟨o0,q0,fun e=>absurd (ht.2 e) w0⟩⟩
  refine gY<|lA p0 1 0 4 (isAgg28 _) (sizeOf28 _)<|gY<|cR call18 (p4_valid u0 ⟨(RdT.flat (hu0.pix.up 4 (by rfl)))⟩ p0.flat) fun _ a1=>pu3<|nT<|cBn (planeOK u0.v) (fun x0=>?_) (fun x0=>?_)
  ·exact kT<|⟨(),alA,a1,⟨o0,q0,fun _=>x0⟩⟩
  refine sR<|pu1<|zR<|retT [I 1] ?_
  exact ⟨by rw [show cmpC s0.v m p.v u0.v own.v=1 from by unfold cmpC;exact if_neg (fun h=>x0 (h.2.2.1 (ht.1 w0)))];rfl,(a1.drops [0,0,0,0])⟩
 rintro _ ρ _ ⟨r0,hP⟩
 refine cutA (γ:=Unit) (fun _=>[(6,Pt f0 0),(8,Pt k0 0),(9,Pt l0 0)]) (fun _ w=>Sat W w ([(t0, .cells (encPlane own).toArray 28 (0,0))]::[(l0, .cells (encPlane u0).toArray 28 (0,0))]::[(k0, .cells (encPlane p).toArray 28 (0,0))]::[(f0, .cells (encStage s0).toArray 59 (0,0))]::H::F)/\cmpC s0.v m p.v u0.v own.v=(ofV s0.v (shpOf p.v) (shpOf u0.v)).2) ?_ ?_
 ·refine sR<|pu1<|sL r0 3 0 (I s0.kind) (isAgg3 _)<|pu2<|sE 36 s0.kind 5 (fun n0=>?_) (fun n0=>?_)
  rotate_left
  ·exact pu16<|pu2<|nT<|cFf<|kT<|⟨(),alA,r0,(by unfold cmpC;rw [if_pos ⟨hP.1,hP.2.1,hP.2.2,fun e=>absurd e n0⟩])⟩
  refine gY<|lA r0 0 0 4 (isAgg28 _) (sizeOf28 _)<|gY<|cR call18 (p4_valid own ⟨(RdT.flat (hown.pix.up 4 (by rfl)))⟩ r0.flat) fun _ m0=>pu2<|sBn 40 (planeOK own.v) (fun y0=>?_) (fun y0=>?_)
  rotate_left
  ·refine pu14<|zC<|pu1<|zR<|retT [I 1] ?_
   exact ⟨by rw [show cmpC s0.v m p.v u0.v own.v=1 from by unfold cmpC;exact if_neg (fun h=>y0 (h.2.2.2 n0).1)];rfl,(m0.drops [0,0,0,0])⟩
  refine pu1<|gY<|sL m0 0 0 (I own.w) (isAgg3 _)<|pu1<|gY<|sL m0 2 0 (I p.w) (isAgg3 _)<|pu3<|sN 47 own.w p.w (fun j1=>?_) (fun j1=>?_)
  rotate_left
  ·refine pu7<|zC<|pu1<|zR<|retT [I 1] ?_
   exact ⟨by rw [show cmpC s0.v m p.v u0.v own.v=1 from by unfold cmpC;exact if_neg (fun h=>by have h2:=h.2.2.2 n0;simp only [Plane.v] at h2;omega)];rfl,(m0.drops [0,0,0,0])⟩
  refine pu1<|gY<|sL m0 0 1 (I own.h) (isAgg3 _)<|pu1<|gY<|sL m0 2 1 (I p.h) (isAgg3 _)<|pu3<|nT<|cN own.h p.h (fun l1=>?_) (fun l1=>?_)
  ·refine kT ?_
   exact ⟨(),alA,m0,(by unfold cmpC;rw [if_pos ⟨hP.1,hP.2.1,hP.2.2,fun _=>⟨y0,by simp only [Plane.v];omega,by simp only [Plane.v];omega⟩⟩])⟩
  refine sR<|pu1<|zR<|retT [I 1] ?_
  exact ⟨by rw [show cmpC s0.v m p.v u0.v own.v=1 from by unfold cmpC;exact if_neg (fun h=>by have h2:=h.2.2.2 n0;simp only [Plane.v] at h2;omega)];rfl,(m0.drops [0,0,0,0])⟩
 rintro _ ρ _ ⟨a0,hC⟩
 refine seqE ?_
 refine drawP [2,4,5,9,10] [(0,⟨f0,0,none⟩,I s0.kind),(0,⟨f0,1,none⟩,I s0.a),(0,⟨f0,2,none⟩,I s0.b),(0,⟨f0,3,none⟩, .bool s0.barrier),(0,⟨f0,4,none⟩,I s0.edgePolicy),(0,⟨f0,5,none⟩,I s0.edgeFill),(0,⟨f0,6,none⟩,I s0.kW),(0,⟨f0,7,none⟩,I s0.kH),(0,⟨f0,8,none⟩, .slice s0.weights.a s0.weights.n s0.weights.k),(0,⟨f0,9,none⟩, .slice s0.row.a s0.row.n s0.row.k),(0,⟨f0,10,none⟩, .slice s0.col.a s0.col.n s0.col.k),(0,⟨f0,11,none⟩,I s0.shift),(0,⟨f0,12,none⟩,I s0.shift2),(0,⟨f0,13,none⟩, .slice s0.x.a s0.x.n s0.x.k),(0,⟨f0,14,none⟩, .slice s0.y.a s0.y.n s0.y.k),(0,⟨f0,15,none⟩,I s0.bins),(0,⟨f0,16,none⟩, .slice s0.ops.a s0.ops.n s0.ops.k),(0,⟨f0,17,none⟩,I s0.max_),(1,⟨k0,0,none⟩,I p.w),(1,⟨k0,1,none⟩,I p.h),(1,⟨k0,2,none⟩,I p.max_),(1,⟨k0,3,none⟩, .slice p.pix.a p.pix.n p.pix.k),(3,⟨l0,0,none⟩,I u0.w),(3,⟨l0,1,none⟩,I u0.h),(3,⟨l0,2,none⟩,I u0.max_),(3,⟨l0,3,none⟩, .slice u0.pix.a u0.pix.n u0.pix.k)] (Plan.sts [0]<|Plan.sts [1]<|Plan.sts [3]<| .fk 2 9 (.fk 4 9 (.fk 5 9 (Plan.sts [6]<|Plan.sts [7]<|Plan.sts [8]<| .ef 9<| .ef 10<|Plan.sts [11]<| .fin) (.ef 5<|Plan.sts [6]<|Plan.sts [7]<|Plan.sts [8]<| .ef 10<|Plan.sts [11]<| .fin)) (.ef 4<| .ef 5<|Plan.sts [6]<|Plan.sts [7]<|Plan.sts [8]<| .ef 10<|Plan.sts [11]<| .fin)) (.ef 2<| .ef 4<| .ef 5<|Plan.sts [6]<|Plan.sts [7]<|Plan.sts [8]<| .ef 10<|Plan.sts [11]<| .fin)) rfl kr ⟨cI a0 3,cI a0 3,cI a0 3,cI a0 3,cI a0 3,cI a0 3,cI a0 3,cI a0 3,cI a0 3,cI a0 3,cI a0 3,cI a0 3,cI a0 3,cI a0 3,cI a0 3,cI a0 3,cI a0 3,cI a0 3,cI a0 2,cI a0 2,cI a0 2,cI a0 2,cI a0 1,cI a0 1,cI a0 1,cI a0 1,trivial⟩ ?_
 have b1:=a0.drew
 refine qY (.agg (encStage s0).toArray) rfl (fun w hF=>Y_loadF rfl (isAgg59 w) (sizeOf59 w) kr rfl ⟨hF 0 _ _ rfl,hF 1 _ _ rfl,hF 2 _ _ rfl,hF 3 _ _ rfl,hF 4 _ _ rfl,hF 5 _ _ rfl,hF 6 _ _ rfl,hF 7 _ _ rfl,hF 8 _ _ rfl,hF 9 _ _ rfl,hF 10 _ _ rfl,hF 11 _ _ rfl,hF 12 _ _ rfl,hF 13 _ _ rfl,hF 14 _ _ rfl,hF 15 _ _ rfl,hF 16 _ _ rfl,hF 17 _ _ rfl,trivial⟩)<|qY (.agg (encPlane p).toArray) rfl (fun w hF=>Y_loadF rfl (isAgg28 w) (sizeOf28 w) kr rfl ⟨hF 18 _ _ rfl,hF 19 _ _ rfl,hF 20 _ _ rfl,hF 21 _ _ rfl,trivial⟩) ?_
 refine qY (.agg (encPlane u0).toArray) rfl (fun w hF=>Y_loadF rfl (isAgg28 w) (sizeOf28 w) kr rfl ⟨hF 22 _ _ rfl,hF 23 _ _ rfl,hF 24 _ _ rfl,hF 25 _ _ rfl,trivial⟩)<|qF ?_ ?_
 rotate_left
 ·refine qO rfl<|sAlloc b1 zeroValue77 fun _ _ b0=>nilO ⟨⟨cI b0 4,cI b0 4,cI b0 4,cI b0 4,cI b0 4,cI b0 4,cI b0 4,cI b0 4,cI b0 4,cI b0 4,cI b0 4,cI b0 4,cI b0 4,cI b0 4,cI b0 4,cI b0 4,cI b0 4,cI b0 4,cI b0 3,cI b0 3,cI b0 3,cI b0 3,cI b0 2,cI b0 2,cI b0 2,cI b0 2,trivial⟩,?_⟩
  refine qO rfl<|cR call48 (p21_shape p ⟨(RdT.flat (hp.pix.up 5 (by rfl)))⟩ b0.flat) fun _ d0=>nilO ⟨⟨cI d0 4,cI d0 4,cI d0 4,cI d0 4,cI d0 4,cI d0 4,cI d0 4,cI d0 4,cI d0 4,cI d0 4,cI d0 4,cI d0 4,cI d0 4,cI d0 4,cI d0 4,cI d0 4,cI d0 4,cI d0 4,dI,dI,dI,dI,cI d0 2,cI d0 2,cI d0 2,cI d0 2,trivial⟩,?_⟩
  refine qO rfl<|cR call48 (p21_shape u0 ⟨(RdT.flat (hu0.pix.up 5 (by rfl)))⟩ d0.flat) fun _ h0=>nilO ⟨⟨cI h0 4,cI h0 4,cI h0 4,cI h0 4,cI h0 4,cI h0 4,cI h0 4,cI h0 4,cI h0 4,cI h0 4,cI h0 4,cI h0 4,cI h0 4,cI h0 4,cI h0 4,cI h0 4,cI h0 4,cI h0 4,dI,dI,dI,dI,dI,dI,dI,dI,trivial⟩,?_⟩
  refine qO rfl<|cR call47 (p15_of s0 (⟨p.w,p.h,p.max_⟩:Shape) (⟨u0.w,u0.h,u0.max_⟩:Shape) (hs0.of_mem (mem_flat1 5 (by rfl))) h0.flat) fun _ n1=>nilO ⟨dA,?_⟩
  refine qU [6]<|qU [7]<|qU [8]<|qO rfl<|sTl n1 0 [I ((ofV s0.v (⟨p.w,p.h,p.max_⟩:Shape) (⟨u0.w,u0.h,u0.max_⟩:Shape)).1.w),I ((ofV s0.v (⟨p.w,p.h,p.max_⟩:Shape) (⟨u0.w,u0.h,u0.max_⟩:Shape)).1.h),I ((ofV s0.v (⟨p.w,p.h,p.max_⟩:Shape) (⟨u0.w,u0.h,u0.max_⟩:Shape)).1.max_)] sizeOf77 fun _ o1=>nilO ⟨dA,?_⟩
  exact qU [11]<|qN<|tN<|sR<|pu2<|zE<|retT [I ((ofV s0.v (⟨p.w,p.h,p.max_⟩:Shape) (⟨u0.w,u0.h,u0.max_⟩:Shape)).2)]<|⟨by rw [hC];rfl,(o1.drops [0,0,0,0,0])⟩
 refine qO rfl<|cR call48 (p21_shape p ⟨(RdT.flat (hp.pix.up 4 (by rfl)))⟩ b1.flat) fun _ c0=>nilO ⟨⟨cI c0 3,cI c0 3,cI c0 3,cI c0 3,cI c0 3,cI c0 3,cI c0 3,cI c0 3,cI c0 3,cI c0 3,cI c0 3,cI c0 3,cI c0 3,cI c0 3,cI c0 3,cI c0 3,cI c0 3,cI c0 3,dI,dI,dI,dI,cI c0 1,cI c0 1,cI c0 1,cI c0 1,trivial⟩,?_⟩
 refine qF ?_ ?_
 rotate_left
 ·refine qO rfl<|sAlloc c0 zeroValue77 fun _ _ e0=>nilO ⟨⟨cI e0 4,cI e0 4,cI e0 4,cI e0 4,cI e0 4,cI e0 4,cI e0 4,cI e0 4,cI e0 4,cI e0 4,cI e0 4,cI e0 4,cI e0 4,cI e0 4,cI e0 4,cI e0 4,cI e0 4,cI e0 4,dI,dI,dI,dI,cI e0 2,cI e0 2,cI e0 2,cI e0 2,trivial⟩,?_⟩
  refine qO rfl<|cR call48 (p21_shape u0 ⟨(RdT.flat (hu0.pix.up 5 (by rfl)))⟩ e0.flat) fun _ i0=>nilO ⟨⟨cI i0 4,cI i0 4,cI i0 4,cI i0 4,cI i0 4,cI i0 4,cI i0 4,cI i0 4,cI i0 4,cI i0 4,cI i0 4,cI i0 4,cI i0 4,cI i0 4,cI i0 4,cI i0 4,cI i0 4,cI i0 4,dI,dI,dI,dI,dI,dI,dI,dI,trivial⟩,?_⟩
  refine qO rfl<|cR call47 (p15_of s0 (⟨p.w,p.h,p.max_⟩:Shape) (⟨u0.w,u0.h,u0.max_⟩:Shape) (hs0.of_mem (mem_flat1 5 (by rfl))) i0.flat) fun _ r1=>nilO ⟨dA,?_⟩
  refine qU [6]<|qU [7]<|qU [8]<|qO rfl<|sTl r1 0 [I ((ofV s0.v (⟨p.w,p.h,p.max_⟩:Shape) (⟨u0.w,u0.h,u0.max_⟩:Shape)).1.w),I ((ofV s0.v (⟨p.w,p.h,p.max_⟩:Shape) (⟨u0.w,u0.h,u0.max_⟩:Shape)).1.h),I ((ofV s0.v (⟨p.w,p.h,p.max_⟩:Shape) (⟨u0.w,u0.h,u0.max_⟩:Shape)).1.max_)] sizeOf77 fun _ s1=>nilO ⟨dA,?_⟩
  exact qU [11]<|qN<|tN<|sR<|pu2<|zE<|retT [I ((ofV s0.v (⟨p.w,p.h,p.max_⟩:Shape) (⟨u0.w,u0.h,u0.max_⟩:Shape)).2)]<|⟨by rw [hC];rfl,(s1.drops [0,0,0,0,0])⟩
 refine qO rfl<|cR call48 (p21_shape u0 ⟨(RdT.flat (hu0.pix.up 4 (by rfl)))⟩ c0.flat) fun _ g0=>nilO ⟨⟨cI g0 3,cI g0 3,cI g0 3,cI g0 3,cI g0 3,cI g0 3,cI g0 3,cI g0 3,cI g0 3,cI g0 3,cI g0 3,cI g0 3,cI g0 3,cI g0 3,cI g0 3,cI g0 3,cI g0 3,cI g0 3,dI,dI,dI,dI,dI,dI,dI,dI,trivial⟩,?_⟩
 refine qF ?_ ?_
 ·refine qO rfl<|cR call47 (p15_of s0 (⟨p.w,p.h,p.max_⟩:Shape) (⟨u0.w,u0.h,u0.max_⟩:Shape) (hs0.of_mem (mem_flat1 4 (by rfl))) g0.flat) fun _ u1=>nilO ⟨dA,?_⟩
  refine qU [6]<|qU [7]<|qU [8]<|qO rfl<|sAlloc u1 zeroValue77 fun _ _ v1=>nilO ⟨dA,?_⟩
  refine qO rfl<|sTl v1 0 [I ((ofV s0.v (⟨p.w,p.h,p.max_⟩:Shape) (⟨u0.w,u0.h,u0.max_⟩:Shape)).1.w),I ((ofV s0.v (⟨p.w,p.h,p.max_⟩:Shape) (⟨u0.w,u0.h,u0.max_⟩:Shape)).1.h),I ((ofV s0.v (⟨p.w,p.h,p.max_⟩:Shape) (⟨u0.w,u0.h,u0.max_⟩:Shape)).1.max_)] sizeOf77 fun _ w1=>nilO ⟨dA,?_⟩
  exact qU [11]<|qN<|tN<|sR<|pu2<|zE<|retT [I ((ofV s0.v (⟨p.w,p.h,p.max_⟩:Shape) (⟨u0.w,u0.h,u0.max_⟩:Shape)).2)]<|⟨by rw [hC];rfl,(w1.drops [0,0,0,0,0])⟩
 refine qO rfl<|sAlloc g0 zeroValue77 fun _ _ j0=>nilO ⟨⟨cI j0 4,cI j0 4,cI j0 4,cI j0 4,cI j0 4,cI j0 4,cI j0 4,cI j0 4,cI j0 4,cI j0 4,cI j0 4,cI j0 4,cI j0 4,cI j0 4,cI j0 4,cI j0 4,cI j0 4,cI j0 4,dI,dI,dI,dI,dI,dI,dI,dI,trivial⟩,?_⟩
 refine qO rfl<|cR call47 (p15_of s0 (⟨p.w,p.h,p.max_⟩:Shape) (⟨u0.w,u0.h,u0.max_⟩:Shape) (hs0.of_mem (mem_flat1 5 (by rfl))) j0.flat) fun _ y1=>nilO ⟨dA,?_⟩
 refine qU [6]<|qU [7]<|qU [8]<|qO rfl<|sTl y1 0 [I ((ofV s0.v (⟨p.w,p.h,p.max_⟩:Shape) (⟨u0.w,u0.h,u0.max_⟩:Shape)).1.w),I ((ofV s0.v (⟨p.w,p.h,p.max_⟩:Shape) (⟨u0.w,u0.h,u0.max_⟩:Shape)).1.h),I ((ofV s0.v (⟨p.w,p.h,p.max_⟩:Shape) (⟨u0.w,u0.h,u0.max_⟩:Shape)).1.max_)] sizeOf77 fun _ z1=>nilO ⟨dA,?_⟩
 exact qU [11]<|qN<|tN<|sR<|pu2<|zE<|retT [I ((ofV s0.v (⟨p.w,p.h,p.max_⟩:Shape) (⟨u0.w,u0.h,u0.max_⟩:Shape)).2)]<|⟨by rw [hC];rfl,(z1.drops [0,0,0,0,0])⟩
theorem p21_merged (al:Option Addr) (nl kl:Nat) (l:List IL) (bins:Int) (hl:RdT encIL 1 [H] al nl kl l) (dl:∀z∈l,IL.Ok [H] z) (hS:Sat W w (H::F)):
  Calls prog 41 #[.slice al nl kl,I bins] w fun e w'=>∃(az:Option Addr) (nz kz:Nat) (zs:List Int) (c:Int) (G:Chunk),e= .returned (.tuple #[.slice az nz kz,I c])/\RdT Go.E.encI 1 [G] az nz kz zs/\(zs,c)=mrgB (l.map (fun z=>z.l.l)) bins/\Sat W w' (G::H::F):=by
 have hl_l:=hl.le;have hn_l:=hl.len
 refine callsA 21 func41 rfl<|sR<|pu2<|zS<|pu1<|cX call50 (p12_merge al nl kl l (RdT.flat (hl.up 0 (by rfl))) (fun z hz=>(dl z hz).of_mem (mem_flat1 0 (by rfl))) hS.flat) ?_
 rintro _ _ ⟨g0,d0,h0,c0,a0,_,rfl,e0,b0,i0⟩
 have f0:=i0.unflat1
 have hn_az_9:=e0.len;have hl_az_9:=e0.le
 refine pu5<|zQ<|pu2<|nT<|cN a0 0 (fun j0=>?_) (fun j0=>?_)
 rotate_left
 ·refine sR<|pu3<|zR<|retT [nS,I a0] ?_
  have hm1:(mrgT (l.map (fun z=>z.l.l))).1=c0:=(congrArg Prod.fst b0).symm;have hm2:(mrgT (l.map (fun z=>z.l.l))).2=a0:=(congrArg Prod.snd b0).symm
  have k0:=(f0.dropAt 0 rfl)
  have l0:Sat W _ ([]::H::F):=Sat.nilc k0
  exact ⟨none,0,0,[],a0,_,rfl,RdT.nil (enc:=Go.E.encI) (sz:=1) fR [[]],(by unfold mrgB;rw [if_neg om,hm2]),l0⟩
 refine kT<|seqE<|sR<|pu4<|nT<|cN (d0:Int) bins (fun m0=>?_) (fun m0=>?_)
 ·refine kS<|pu3<|zE<|retT [.slice g0 d0 h0,I 0] ?_
  have hm1:(mrgT (l.map (fun z=>z.l.l))).1=c0:=(congrArg Prod.fst b0).symm;have hm2:(mrgT (l.map (fun z=>z.l.l))).2=a0:=(congrArg Prod.snd b0).symm
  exact ⟨g0,d0,h0,c0,0,_,rfl,e0,(by unfold mrgB;rw [if_pos om,if_pos (by rw [hm1];omega),hm1]),f0⟩
 refine sR<|pu2<|zR<|retT [nS,I 8] ?_
 have hm1:(mrgT (l.map (fun z=>z.l.l))).1=c0:=(congrArg Prod.fst b0).symm;have hm2:(mrgT (l.map (fun z=>z.l.l))).2=a0:=(congrArg Prod.snd b0).symm
 have n0:=(f0.dropAt 0 rfl)
 have o0:Sat W _ ([]::H::F):=Sat.nilc n0
 exact ⟨none,0,0,[],8,_,rfl,RdT.nil (enc:=Go.E.encI) (sz:=1) fR [[]],(by unfold mrgB;rw [if_pos om,if_neg (by rw [hm1];omega)]),o0⟩
theorem p21_sums (r:Rct) (p:Plane) (own:Plane) (hp:Plane.Ok [H] p) (hown:Plane.Ok [H] own) (hpo:planeOK p.v=true) (how:planeOK own.v=true) (hsw:own.w=p.w/\own.h=p.h) (hS:Sat W w (H::F)):
  Calls prog 54 #[.agg (encRct r).toArray, .agg (encPlane p).toArray, .agg (encPlane own).toArray] w fun e w'=>∃(q:Plane) (c:Int) (G:Chunk),e= .returned (.tuple #[.agg (encPlane q).toArray,I c])/\q.Ok [G]/\(q.v,c)=sumT p.v own.v r/\Sat W w' (G::H::F):=by
 have hl_p_pix:=hp.pix.le;have hn_p_pix:=hp.pix.len
 have hl_own_pix:=hown.pix.le;have hn_own_pix:=hown.pix.len
 refine callsA 108 func54 rfl<|sR<|sBox hS (.agg (encRct r).toArray) (encRct r).toArray fun i0 _ f2=>sBox f2 (.agg (encPlane p).toArray) (encPlane p).toArray fun o0 _ g2=>sBox g2 (.agg (encPlane own).toArray) (encPlane own).toArray fun p0 _ i2=>sAlloc i2 zeroValue28 fun q0 _ l0=>pu1<|nT<|cutA (γ:=Unit) (fun _=>[(3,Pt i0 0),(4,Pt o0 0),(5,Pt p0 0),(6,Pt q0 0)]) (fun _ w=>Sat W w ([(q0, .cells #[I 0,I 0,I 0,nS] 28 (0,0))]::[(p0, .cells (encPlane own).toArray 28 (0,0))]::[(o0, .cells (encPlane p).toArray 28 (0,0))]::[(i0, .cells (encRct r).toArray 24 (0,0))]::H::F)/\rIn r own.w own.h) ?_ ?_
 ·refine seqE<|drawP [1,3,4,5,6] [(0,⟨i0,0,none⟩,I r.x0),(0,⟨i0,1,none⟩,I r.y0),(0,⟨i0,2,none⟩,I r.x1),(0,⟨i0,3,none⟩,I r.y1)] (Plan.sts [0]<| .ef 1<|Plan.sts [2]<| .fk 3 4 (.ef 4<| .ef 5<| .ef 6<|Plan.sts [7]<|Plan.sts [8]<| .fin) (.fk 3 5 (.ef 5<| .ef 6<|Plan.sts [7]<|Plan.sts [8]<| .fin) (.ef 3<| .ef 6<|Plan.sts [7]<|Plan.sts [8]<| .fin))) rfl kr ⟨cI l0 3,cI l0 3,cI l0 3,cI l0 3,trivial⟩ ?_
  have j2:=l0.drew
  refine qY (.agg (encRct r).toArray) rfl (fun w hF=>Y_loadF rfl (isAgg24 w) (sizeOf24 w) kr rfl ⟨hF 0 _ _ rfl,hF 1 _ _ rfl,hF 2 _ _ rfl,hF 3 _ _ rfl,trivial⟩)<|qO rfl<|cR call19 (p2_empty r j2.flat) fun _ c0=>nilO ⟨dA,?_⟩
  refine qU [2]<|qF ?_ ?_
  ·rcases Classical.em (r.x0=0/\r.y0=0/\r.x1=0/\r.y1=0) with m0|m0
   ·refine qFix 14 _ true (decide_eq_true m0)<|qO rfl<|pu1<|nilO ⟨dA,?_⟩
    refine qO rfl<|pu1<|nilO ⟨dA,?_⟩
    refine qO rfl<|pu1<|nilO ⟨dA,?_⟩
    refine qO rfl<|pu1<|nilO ⟨dA,?_⟩
    refine qU [7]<|qU [8]<|qN<|tN<|cTt<|sR<|pu1<|sTl c0 0 [I 0,I 0,I 0,nS] sizeOf28 fun _ k1=>pu1<|zR<|retC k1 0 [I 0,I 0,I 0,nS] (I 8) (isAgg28 _) (sizeOf28 _) ?_
    have hsz:=(plane_sz hpo).1;unfold sizeP at hsz;simp only [Plane.v] at hsz
    have k2:=(k1.drops [0,0,0,0])
    have l2:Sat W _ ([]::H::F):=Sat.nilc k2
    exact ⟨(⟨0,0,0,⟨none,0,0,[]⟩⟩:Plane),8,_,rfl,⟨RdT.nil (enc:=Go.E.encI) (sz:=1) fR [[]]⟩,(by unfold sumT;rw [if_neg (fun h=>by have h2:=(ins_in om om).2 (show rIn r own.w own.h by rw [hsw.1,hsw.2];exact h);exact h2.1 m0)];rfl),l2⟩
   refine qFix 14 _ false (decide_eq_false m0)<|qO rfl<|gY<|lA c0 3 0 4 (isAgg24 _) (sizeOf24 _)<|nilO ⟨dA,?_⟩
   refine qO rfl<|gY<|lA c0 1 0 4 (isAgg28 _) (sizeOf28 _)<|nilO ⟨dA,?_⟩
   refine qO rfl<|gY<|cR call21 (p21_whole own ⟨(RdT.flat (hown.pix.up 4 (by rfl)))⟩ c0.flat) fun _ m2=>nilO ⟨dA,?_⟩
   refine qO rfl<|gY<|cR call20 (p2_inside r (⟨0,0,own.w,own.h⟩:Rct) m2.flat) fun _ l1=>nilO ⟨dA,?_⟩
   refine qU [7]<|qU [8]<|qN<|tN<|cDn (insP r (⟨0,0,own.w,own.h⟩:Rct)) (fun u0=>?_) (fun u0=>?_)
   ·exact kT<|⟨(),alA,l1,(by have hsz:=(plane_sz hpo).1;unfold sizeP at hsz;simp only [Plane.v] at hsz;exact (ins_in om om).1 ⟨m0,u0⟩)⟩
   refine sR<|pu1<|sTl l1 0 [I 0,I 0,I 0,nS] sizeOf28 fun _ m1=>pu1<|zR<|retC m1 0 [I 0,I 0,I 0,nS] (I 8) (isAgg28 _) (sizeOf28 _) ?_
   have hsz:=(plane_sz hpo).1;unfold sizeP at hsz;simp only [Plane.v] at hsz
   have n2:=(m1.drops [0,0,0,0])
   have o2:Sat W _ ([]::H::F):=Sat.nilc n2
   exact ⟨(⟨0,0,0,⟨none,0,0,[]⟩⟩:Plane),8,_,rfl,⟨RdT.nil (enc:=Go.E.encI) (sz:=1) fR [[]]⟩,(by unfold sumT;rw [if_neg (fun h=>by have h2:=(ins_in om om).2 (show rIn r own.w own.h by rw [hsw.1,hsw.2];exact h);exact u0 h2.2)];rfl),o2⟩
  rcases Classical.em (r.x0=0/\r.y0=0/\r.x1=0/\r.y1=0) with j0|j0
  ·refine qFix 14 _ true (decide_eq_true j0)<|qO rfl<|pu1<|nilO ⟨dA,?_⟩
   refine qF ?_ ?_
   rotate_left
   ·refine qO rfl<|pu1<|nilO ⟨dA,?_⟩
    refine qO rfl<|pu1<|nilO ⟨dA,?_⟩
    refine qO rfl<|pu1<|nilO ⟨dA,?_⟩
    refine qU [7]<|qU [8]<|qN<|tN<|cTt<|sR<|pu1<|sTl c0 0 [I 0,I 0,I 0,nS] sizeOf28 fun _ n1=>pu1<|zR<|retC n1 0 [I 0,I 0,I 0,nS] (I 8) (isAgg28 _) (sizeOf28 _) ?_
    have hsz:=(plane_sz hpo).1;unfold sizeP at hsz;simp only [Plane.v] at hsz
    have q2:=(n1.drops [0,0,0,0])
    have r2:Sat W _ ([]::H::F):=Sat.nilc q2
    exact ⟨(⟨0,0,0,⟨none,0,0,[]⟩⟩:Plane),8,_,rfl,⟨RdT.nil (enc:=Go.E.encI) (sz:=1) fR [[]]⟩,(by unfold sumT;rw [if_neg (fun h=>by have h2:=(ins_in om om).2 (show rIn r own.w own.h by rw [hsw.1,hsw.2];exact h);exact h2.1 j0)];rfl),r2⟩
   refine qO rfl<|pu1<|nilO ⟨dA,?_⟩
   refine qO rfl<|pu1<|nilO ⟨dA,?_⟩
   refine qO rfl<|pu1<|nilO ⟨dA,?_⟩
   refine qU [7]<|qU [8]<|qN<|tN<|cTt<|sR<|pu1<|sTl c0 0 [I 0,I 0,I 0,nS] sizeOf28 fun _ o1=>pu1<|zR<|retC o1 0 [I 0,I 0,I 0,nS] (I 8) (isAgg28 _) (sizeOf28 _) ?_
   have hsz:=(plane_sz hpo).1;unfold sizeP at hsz;simp only [Plane.v] at hsz
   have s2:=(o1.drops [0,0,0,0])
   have t2:Sat W _ ([]::H::F):=Sat.nilc s2
   exact ⟨(⟨0,0,0,⟨none,0,0,[]⟩⟩:Plane),8,_,rfl,⟨RdT.nil (enc:=Go.E.encI) (sz:=1) fR [[]]⟩,(by unfold sumT;rw [if_neg (fun h=>by have h2:=(ins_in om om).2 (show rIn r own.w own.h by rw [hsw.1,hsw.2];exact h);exact h2.1 j0)];rfl),t2⟩
  refine qFix 14 _ false (decide_eq_false j0)<|qO rfl<|gY<|lA c0 1 0 4 (isAgg28 _) (sizeOf28 _)<|nilO ⟨dA,?_⟩
  refine qF ?_ ?_
  rotate_left
  ·refine qO rfl<|gY<|cR call21 (p21_whole own ⟨(RdT.flat (hown.pix.up 4 (by rfl)))⟩ c0.flat) fun _ q1=>nilO ⟨dA,?_⟩
   refine qO rfl<|gY<|lA q1 3 0 4 (isAgg24 _) (sizeOf24 _)<|nilO ⟨dA,?_⟩
   refine qO rfl<|gY<|cR call20 (p2_inside r (⟨0,0,own.w,own.h⟩:Rct) q1.flat) fun _ r1=>nilO ⟨dA,?_⟩
   refine qU [7]<|qU [8]<|qN<|tN<|cDn (insP r (⟨0,0,own.w,own.h⟩:Rct)) (fun v0=>?_) (fun v0=>?_)
   ·exact kT<|⟨(),alA,r1,(by have hsz:=(plane_sz hpo).1;unfold sizeP at hsz;simp only [Plane.v] at hsz;exact (ins_in om om).1 ⟨j0,v0⟩)⟩
   refine sR<|pu1<|sTl r1 0 [I 0,I 0,I 0,nS] sizeOf28 fun _ s1=>pu1<|zR<|retC s1 0 [I 0,I 0,I 0,nS] (I 8) (isAgg28 _) (sizeOf28 _) ?_
   have hsz:=(plane_sz hpo).1;unfold sizeP at hsz;simp only [Plane.v] at hsz
   have u2:=(s1.drops [0,0,0,0])
   have v2:Sat W _ ([]::H::F):=Sat.nilc u2
   exact ⟨(⟨0,0,0,⟨none,0,0,[]⟩⟩:Plane),8,_,rfl,⟨RdT.nil (enc:=Go.E.encI) (sz:=1) fR [[]]⟩,(by unfold sumT;rw [if_neg (fun h=>by have h2:=(ins_in om om).2 (show rIn r own.w own.h by rw [hsw.1,hsw.2];exact h);exact v0 h2.2)];rfl),v2⟩
  refine qO rfl<|gY<|lA c0 3 0 4 (isAgg24 _) (sizeOf24 _)<|nilO ⟨dA,?_⟩
  refine qO rfl<|gY<|cR call21 (p21_whole own ⟨(RdT.flat (hown.pix.up 4 (by rfl)))⟩ c0.flat) fun _ w2=>nilO ⟨dA,?_⟩
  refine qO rfl<|gY<|cR call20 (p2_inside r (⟨0,0,own.w,own.h⟩:Rct) w2.flat) fun _ t1=>nilO ⟨dA,?_⟩
  refine qU [7]<|qU [8]<|qN<|tN<|cDn (insP r (⟨0,0,own.w,own.h⟩:Rct)) (fun w0=>?_) (fun w0=>?_)
  ·exact kT<|⟨(),alA,t1,(by have hsz:=(plane_sz hpo).1;unfold sizeP at hsz;simp only [Plane.v] at hsz;exact (ins_in om om).1 ⟨j0,w0⟩)⟩
  refine sR<|pu1<|sTl t1 0 [I 0,I 0,I 0,nS] sizeOf28 fun _ u1=>pu1<|zR<|retC u1 0 [I 0,I 0,I 0,nS] (I 8) (isAgg28 _) (sizeOf28 _) ?_
  have hsz:=(plane_sz hpo).1;unfold sizeP at hsz;simp only [Plane.v] at hsz
  have x2:=(u1.drops [0,0,0,0])
  have y2:Sat W _ ([]::H::F):=Sat.nilc x2
  exact ⟨(⟨0,0,0,⟨none,0,0,[]⟩⟩:Plane),8,_,rfl,⟨RdT.nil (enc:=Go.E.encI) (sz:=1) fR [[]]⟩,(by unfold sumT;rw [if_neg (fun h=>by have h2:=(ins_in om om).2 (show rIn r own.w own.h by rw [hsw.1,hsw.2];exact h);exact w0 h2.2)];rfl),y2⟩
 rintro _ ρ _ ⟨z0,hro⟩
 refine seqE ?_
 have hsz:=(plane_sz hpo).1;unfold sizeP at hsz;simp only [Plane.v] at hsz;have hri:rIn r p.w p.h:=by rw [<-hsw.1,<-hsw.2];exact hro
 have hri0:=hri;unfold rIn at hri0
 obtain ⟨Wn,hW⟩:∃k:Nat,r.x1-r.x0=(k:Int):=⟨_,(Int.toNat_of_nonneg om).symm⟩;obtain ⟨Hn,hH⟩:∃k:Nat,r.y1-r.y0=(k:Int):=⟨_,(Int.toNat_of_nonneg om).symm⟩
 have hWb:1<=Wn/\Wn<=128/\1<=Hn/\Hn<=128:=om;have hWH:Hn*Wn<=4096:=by have h1:=rIn_area hri (by first|omega|assumption);rw [hW,hH] at h1;have h2:((Hn*Wn:Nat):Int)=(Wn:Int)*(Hn:Int):=(by push_cast;rw [Int.mul_comm]);omega
 have hWi:(r.x1-r.x0)*(r.y1-r.y0)=((Hn*Wn:Nat):Int):=by rw [hW,hH];push_cast;rw [Int.mul_comm]
 have hpl:own.v.pix.length=own.pix.n:=hn_own_pix;have hps:=(plane_sz how).2.1;simp only [Plane.v] at hps
 refine rE<|pu1<|sL z0 3 3 (I r.y1) (isAgg3 _)<|pu1<|sL z0 3 1 (I r.y0) (isAgg3 _)<|sSub r.y1 r.y0<|sMake (kl:= .i64) (kc:= .i64) (enc:=Go.E.encI) (sz:=1) (nb:=8) z0 0 ((r.y1-r.y0)).toNat (r.y1-r.y0) (om:(r.y1-r.y0)=((((r.y1-r.y0)).toNat:Nat):Int)) underlying22 (i:=Try.t3) kr fR fun a1 z2 _ b1 c1=>pu1<|zS<|pu1<|sL c1 4 2 (I r.x1) (isAgg3 _)<|pu1<|sL c1 4 0 (I r.x0) (isAgg3 _)<|sSub r.x1 r.x0<|sMake (kl:= .i64) (kc:= .i64) (enc:=Go.E.encI) (sz:=1) (nb:=8) c1 0 ((r.x1-r.x0)).toNat (r.x1-r.x0) (om:(r.x1-r.x0)=((((r.x1-r.x0)).toNat:Nat):Int)) underlying22 (i:=Try.t3) kr fR fun n0 a3 _ r0 b0=>?_
 refine pu1<|zS<|pu1<|zQ<|pu1<|sL b0 5 0 (I r.x0) (isAgg3 _)<|pu1<|nT<|cD (r.x0>0) (fun d1=>?_) (fun d1=>?_)
 rotate_left
 ·refine kT<|seqE<|sR<|pu1<|sL b0 5 1 (I r.y0) (isAgg3 _)<|pu1<|nT<|cD (r.y0>0) (fun b3=>?_) (fun b3=>?_)
  rotate_left
  ·refine kT<|seqE<|sR<|pu1<|sL b0 5 0 (I r.x0) (isAgg3 _)<|pu2<|sFix 81 _ false (decide_eq_false d1)<|pu4<|nT<|cFf<|kS<|lA b0 4 0 4 (isAgg28 _) (sizeOf28 _)<|lA b0 5 0 4 (isAgg24 _) (sizeOf24 _)<|pu3<|cX call70 (p13_tile p r (At a1 0) (((r.y1-r.y0)).toNat) (((r.y1-r.y0)).toNat) (List.replicate ((r.y1-r.y0)).toNat 0) (At n0 0) (((r.x1-r.x0)).toNat) (((r.x1-r.x0)).toNat) (List.replicate ((r.x1-r.x0)).toNat 0) 0 ⟨(RdT.flat (hp.pix.up 6 (by rfl)))⟩ (RdT.flat (b1.rdAt 1 (by rfl))) (RdT.flat (r0.rdAt 0 (by rfl))) b0.flat) ?_
   rintro _ _ ⟨e0,v1,_,rfl,e1,c3,d3⟩
   have e3:=d3.unflat1
   have hn_q_151_pix:=e1.pix.len;have hl_q_151_pix:=e1.pix.le
   refine pu2<|sTl e3 3 (encPlane e0) sizeOf28 fun _ w1=>pu1<|zE<|retC w1 3 (encPlane e0) (I v1) (isAgg28 _) (sizeOf28 _) ?_
   have hL:(List.replicate ((r.y1-r.y0)).toNat 0)=leftV own.v r:=left_no om
   have hT:(List.replicate ((r.x1-r.x0)).toNat 0)=topV own.v r:=top_no om
   have hK:0=atV own.v (r.x0-1) (r.y0-1):=(at_no om).symm
   exact ⟨(⟨e0.w,e0.h,e0.max_,⟨e0.pix.a,e0.pix.n,e0.pix.k,e0.pix.l⟩⟩:Plane),v1,_,rfl,⟨e1.pix⟩,(by unfold sumT;rw [if_pos (show rIn r p.v.w p.v.h from hri),<-hL,<-hT,<-hK];exact c3),(w1.drops [1,1,1,1,1,1])⟩
  have hix:=pl_ix how (x:=r.x1-1) (y:=r.y0-1) (by simp only [Plane.v];omega) (by simp only [Plane.v];omega);rw [hpl] at hix;simp only [Plane.v] at hix
  refine rE<|pu2<|sL b0 3 3 (.slice own.pix.a own.pix.n own.pix.k) (isAgg22 _)<|pu1<|sL b0 5 1 (I r.y0) (isAgg3 _)<|sSub r.y0 1<|pu1<|sL b0 3 0 (I own.w) (isAgg3 _)<|sMul (r.y0-1) own.w<|pu1<|sL b0 5 0 (I r.x0) (isAgg3 _)<|sAdd ((r.y0-1)*own.w) r.x0<|sSl (some (((r.y0-1)*own.w)+r.x0)) none (((((r.y0-1)*own.w)+r.x0)).toNat) own.pix.n runUnderlying22 sizeOf3 ⟨om,om⟩ rfl om om ?_ (a:=own.pix.a) (len:=own.pix.n) (cap:=own.pix.k)
  refine sCopyR (N:=_) (d:=((r.x1-r.x0)).toNat) (cap':=((r.x1-r.x0)).toNat) b0 r0 ((hown.pix.part (lo:=((((r.y0-1)*own.w)+r.x0)).toNat) (hi:=own.pix.n) om om).up 6 rfl) 0 0 (((r.x1-r.x0)).toNat) om (by first|exact Nat.min_eq_right om|exact Nat.min_eq_left om) (partAddr_zero (fun q h=>⟨_,_,(Option.some.inj h).symm⟩)).symm runUnderlying22 sizeOf3 (fun z v hv=>by simp only [Go.E.encI,List.mem_singleton] at hv;subst hv;rfl) fun _ _ h3 s0=>zQ<|pu1<|sL s0 5 0 (I r.x0) (isAgg3 _)<|pu2<|sFix 81 _ false (decide_eq_false d1)<|pu4<|nT<|cFf<|kS<|lA s0 4 0 4 (isAgg28 _) (sizeOf28 _)<|lA s0 5 0 4 (isAgg24 _) (sizeOf24 _)<|pu3 ?_
  refine cX call70 (p13_tile p r (At a1 0) (((r.y1-r.y0)).toNat) (((r.y1-r.y0)).toNat) (List.replicate ((r.y1-r.y0)).toNat 0) (At n0 0) (((r.x1-r.x0)).toNat) (((r.x1-r.x0)).toNat) ((List.replicate ((r.x1-r.x0)).toNat 0).take 0++((own.pix.l.drop (((((r.y0-1)*own.w)+r.x0)).toNat)).take (own.pix.n-(((((r.y0-1)*own.w)+r.x0)).toNat))).take (((r.x1-r.x0)).toNat)++(List.replicate ((r.x1-r.x0)).toNat 0).drop (0+(((r.x1-r.x0)).toNat))) 0 ⟨(RdT.flat (hp.pix.up 6 (by rfl)))⟩ (RdT.flat (b1.rdAt 1 (by rfl))) (RdT.flat (h3.rdAt 0 (by rfl))) s0.flat) ?_
  rintro _ _ ⟨f0,z1,_,rfl,f1,i3,j3⟩
  have k3:=j3.unflat1
  have hn_q_140_pix:=f1.pix.len;have hl_q_140_pix:=f1.pix.le
  refine pu2<|sTl k3 3 (encPlane f0) sizeOf28 fun _ a2=>pu1<|zE<|retC a2 3 (encPlane f0) (I z1) (isAgg28 _) (sizeOf28 _) ?_
  have hL:(List.replicate ((r.y1-r.y0)).toNat 0)=leftV own.v r:=left_no om
  have hT:((List.replicate ((r.x1-r.x0)).toNat 0).take 0++((own.pix.l.drop (((((r.y0-1)*own.w)+r.x0)).toNat)).take (own.pix.n-(((((r.y0-1)*own.w)+r.x0)).toNat))).take (((r.x1-r.x0)).toNat)++(List.replicate ((r.x1-r.x0)).toNat 0).drop (0+(((r.x1-r.x0)).toNat)))=topV own.v r:=(by exact top_cp (own:=own.v) hro (by simp only [Plane.v];omega) om om (by simp only [Plane.v];omega))
  have hK:0=atV own.v (r.x0-1) (r.y0-1):=(at_no om).symm
  exact ⟨(⟨f0.w,f0.h,f0.max_,⟨f0.pix.a,f0.pix.n,f0.pix.k,f0.pix.l⟩⟩:Plane),z1,_,rfl,⟨f1.pix⟩,(by unfold sumT;rw [if_pos (show rIn r p.v.w p.v.h from hri),<-hL,<-hT,<-hK];exact i3),(a2.drops [1,1,1,1,1,1])⟩
 refine sR<|pu3<|nT<|blockE ?_
 have m3:=(b0.pick 1 rfl)
 refine loopA (γ:=Nat×(List Int)×(Option Addr)×Nat×Nat×Chunk) (fun ⟨i,zs,azs,nzs,kzs,czs⟩=>[(3,Pt i0 0),(4,Pt o0 0),(5,Pt p0 0),(6,Pt q0 0),(9, .slice (At n0 0) (((r.x1-r.x0)).toNat) (((r.x1-r.x0)).toNat)),(10,I 0),(38,I ((((r.y1-r.y0)).toNat:Nat):Int)),(39,I (i:Int)),(8, .slice azs nzs kzs)]) (fun ⟨i,zs,azs,nzs,kzs,czs⟩ w=>Sat W w (czs::a3::[(q0, .cells #[I 0,I 0,I 0,nS] 28 (0,0))]::[(p0, .cells (encPlane own).toArray 28 (0,0))]::[(o0, .cells (encPlane p).toArray 28 (0,0))]::[(i0, .cells (encRct r).toArray 24 (0,0))]::H::F)/\i<=((r.y1-r.y0)).toNat/\(zs=mixN (fun j=>atV own.v (r.x0-1) (r.y0+(j:Int))) (fun _=>0) i Hn)/\OwnT Go.E.encI 3 1 azs nzs kzs zs czs) (fun ⟨i,zs,azs,nzs,kzs,czs⟩=>(((r.y1-r.y0)).toNat)-i) (0,(List.replicate ((r.y1-r.y0)).toNat 0),(At a1 0),((r.y1-r.y0)).toNat,((r.y1-r.y0)).toNat,z2) ⟨m3,om,(by rw [show (r.y1-r.y0).toNat=Hn by omega,mix_0];exact tab_zero (fun _ _=>rfl)),b1⟩ ?_
 rintro ⟨i,zs,azs,nzs,kzs,czs⟩ ρ _ ⟨a0,hi,hE,hOzs⟩
 have hn_zs:=hOzs.len;have hl_zs:=hOzs.le
 have hzl:zs.length=Hn:=by rw [hE];exact mix_len _ _ _ _
 refine sR<|pu1<|nT<|seqE<|cD ((i:Int)<((((r.y1-r.y0)).toNat:Nat):Int)) (fun n3=>?_) (fun n3=>?_)
 ·refine kT<|seqE<|blockE<|sR<|pu2<|nT ?_
  have hix:=pl_ix how (x:=r.x0-1) (y:=r.y0+(i:Int)) (by simp only [Plane.v];omega) (by simp only [Plane.v];omega);rw [hpl] at hix;simp only [Plane.v] at hix
  refine rE<|pu3<|sL a0 3 3 (.slice own.pix.a own.pix.n own.pix.k) (isAgg22 _)<|pu1<|sL a0 5 1 (I r.y0) (isAgg3 _)<|pu1<|sAdd r.y0 (i:Int)<|pu1<|sL a0 3 0 (I own.w) (isAgg3 _)<|sMul (r.y0+(i:Int)) own.w<|pu1<|sL a0 5 0 (I r.x0) (isAgg3 _)<|sAdd ((r.y0+(i:Int))*own.w) r.x0<|sSub (((r.y0+(i:Int))*own.w)+r.x0) 1<|sIdx hown.pix ((((r.y0+(i:Int))*own.w)+r.x0)-1) runUnderlying22 sizeOf3 fun k0 _ _ o3 p3=>?_
  have hat:atV own.v (r.x0-1) ((r.y0+(i:Int)))=k0:=by
   rw [at_in (by simp only [Plane.v];omega) (by simp only [Plane.v];omega)];refine pixAt_eq ?_
   rw [<-o3];simp only [Plane.v];congr 1;omega
  exact sLp a0 (p3.up 6 rfl) 0 (I k0) (isAgg3 _)<|sIdxO hOzs (i:Int) i runUnderlying22 sizeOf3 fun q3 _ _ r3 _ s3=>sStF a0 hOzs s3 0 i 0 q3 k0 r3 (I k0) [I k0] sizeOf3 fun _ u3 v3 w3=>nB<|rE<|sAdd (i:Int) 1<|pu1<|nT<|⟨(i+1,(zs.set i k0),azs,nzs,kzs,u3),od,alA,w3,om,(by rw [hE];exact mix_set hat.symm),v3⟩
 refine exitE<|xB<|tN<|seqE<|sR<|pu1<|sL a0 5 1 (I r.y0) (isAgg3 _)<|pu1<|nT<|cD (r.y0>0) (fun g1=>?_) (fun g1=>?_)
 rotate_left
 ·refine kT<|seqE<|sR<|pu1<|sL a0 5 0 (I r.x0) (isAgg3 _)<|pu2 ?_
  have x3:(r.x0:Int)>0:=om
  refine sFix 81 _ true (decide_eq_true x3)<|pu1<|gY<|sL a0 5 1 (I r.y0) (isAgg3 _)<|pu2<|nT<|cF _ (decide_eq_false g1)<|kS<|lA a0 4 0 4 (isAgg28 _) (sizeOf28 _)<|lA a0 5 0 4 (isAgg24 _) (sizeOf24 _)<|pu3<|cX call70 (p13_tile p r azs nzs kzs zs (At n0 0) (((r.x1-r.x0)).toNat) (((r.x1-r.x0)).toNat) (List.replicate ((r.x1-r.x0)).toNat 0) 0 ⟨(RdT.flat (hp.pix.up 6 (by rfl)))⟩ (RdT.flat (hOzs.rdAt 0 (by rfl))) (RdT.flat (r0.rdAt 1 (by rfl))) a0.flat) ?_
  rintro _ _ ⟨g0,b2,_,rfl,i1,y3,z3⟩
  have a4:=z3.unflat1
  have hn_q_123_pix:=i1.pix.len;have hl_q_123_pix:=i1.pix.le
  refine pu2<|sTl a4 3 (encPlane g0) sizeOf28 fun _ c2=>pu1<|zE<|retC c2 3 (encPlane g0) (I b2) (isAgg28 _) (sizeOf28 _) ?_
  have hL:zs=leftV own.v r:=(by rw [hE,show i=Hn by omega];exact left_mix om)
  have hT:(List.replicate ((r.x1-r.x0)).toNat 0)=topV own.v r:=top_no om
  have hK:0=atV own.v (r.x0-1) (r.y0-1):=(at_no om).symm
  exact ⟨(⟨g0.w,g0.h,g0.max_,⟨g0.pix.a,g0.pix.n,g0.pix.k,g0.pix.l⟩⟩:Plane),b2,_,rfl,⟨i1.pix⟩,(by unfold sumT;rw [if_pos (show rIn r p.v.w p.v.h from hri),<-hL,<-hT,<-hK];exact y3),(c2.drops [1,1,1,1,1,1])⟩
 have hix:=pl_ix how (x:=r.x1-1) (y:=r.y0-1) (by simp only [Plane.v];omega) (by simp only [Plane.v];omega);rw [hpl] at hix;simp only [Plane.v] at hix
 refine rE<|pu2<|sL a0 3 3 (.slice own.pix.a own.pix.n own.pix.k) (isAgg22 _)<|pu1<|sL a0 5 1 (I r.y0) (isAgg3 _)<|sSub r.y0 1<|pu1<|sL a0 3 0 (I own.w) (isAgg3 _)<|sMul (r.y0-1) own.w<|pu1<|sL a0 5 0 (I r.x0) (isAgg3 _)<|sAdd ((r.y0-1)*own.w) r.x0<|sSl (some (((r.y0-1)*own.w)+r.x0)) none (((((r.y0-1)*own.w)+r.x0)).toNat) own.pix.n runUnderlying22 sizeOf3 ⟨om,om⟩ rfl om om ?_ (a:=own.pix.a) (len:=own.pix.n) (cap:=own.pix.k)
 refine sCopyR (N:=_) (d:=((r.x1-r.x0)).toNat) (cap':=((r.x1-r.x0)).toNat) a0 r0 ((hown.pix.part (lo:=((((r.y0-1)*own.w)+r.x0)).toNat) (hi:=own.pix.n) om om).up 6 rfl) 1 0 (((r.x1-r.x0)).toNat) om (by first|exact Nat.min_eq_right om|exact Nat.min_eq_left om) (partAddr_zero (fun q h=>⟨_,_,(Option.some.inj h).symm⟩)).symm runUnderlying22 sizeOf3 (fun z v hv=>by simp only [Go.E.encI,List.mem_singleton] at hv;subst hv;rfl) fun _ _ d4 d0=>zQ<|pu1<|sL d0 5 0 (I r.x0) (isAgg3 _)<|pu2 ?_
 have e4:(r.x0:Int)>0:=om
 refine sFix 81 _ true (decide_eq_true e4)<|pu1<|gY<|sL d0 5 1 (I r.y0) (isAgg3 _)<|pu2<|nT<|cT _ (decide_eq_true g1) ?_
 have hix:=pl_ix how (x:=r.x0-1) (y:=r.y0-1) (by simp only [Plane.v];omega) (by simp only [Plane.v];omega);rw [hpl] at hix;simp only [Plane.v] at hix
 refine rE<|pu1<|sL d0 3 3 (.slice own.pix.a own.pix.n own.pix.k) (isAgg22 _)<|pu1<|sL d0 5 1 (I r.y0) (isAgg3 _)<|sSub r.y0 1<|pu1<|sL d0 3 0 (I own.w) (isAgg3 _)<|sMul (r.y0-1) own.w<|pu1<|sL d0 5 0 (I r.x0) (isAgg3 _)<|sAdd ((r.y0-1)*own.w) r.x0<|sSub (((r.y0-1)*own.w)+r.x0) 1<|sIdx hown.pix ((((r.y0-1)*own.w)+r.x0)-1) runUnderlying22 sizeOf3 fun t0 _ _ f4 g4=>?_
 have hat:atV own.v (r.x0-1) (r.y0-1)=t0:=by
  rw [at_in (by simp only [Plane.v];omega) (by simp only [Plane.v];omega)];refine pixAt_eq ?_
  rw [<-f4];simp only [Plane.v];congr 1;omega
 refine sLp d0 (g4.up 6 rfl) 0 (I t0) (isAgg3 _)<|pu1<|zS<|lA d0 4 0 4 (isAgg28 _) (sizeOf28 _)<|lA d0 5 0 4 (isAgg24 _) (sizeOf24 _)<|pu3<|cX call70 (p13_tile p r azs nzs kzs zs (At n0 0) (((r.x1-r.x0)).toNat) (((r.x1-r.x0)).toNat) ((List.replicate ((r.x1-r.x0)).toNat 0).take 0++((own.pix.l.drop (((((r.y0-1)*own.w)+r.x0)).toNat)).take (own.pix.n-(((((r.y0-1)*own.w)+r.x0)).toNat))).take (((r.x1-r.x0)).toNat)++(List.replicate ((r.x1-r.x0)).toNat 0).drop (0+(((r.x1-r.x0)).toNat))) t0 ⟨(RdT.flat (hp.pix.up 6 (by rfl)))⟩ (RdT.flat (hOzs.rdAt 0 (by rfl))) (RdT.flat (d4.rdAt 1 (by rfl))) d0.flat) ?_
 rintro _ _ ⟨h0,d2,_,rfl,j1,h4,i4⟩
 have j4:=i4.unflat1
 have hn_q_111_pix:=j1.pix.len;have hl_q_111_pix:=j1.pix.le
 refine pu2<|sTl j4 3 (encPlane h0) sizeOf28 fun _ e2=>pu1<|zE<|retC e2 3 (encPlane h0) (I d2) (isAgg28 _) (sizeOf28 _) ?_
 have hL:zs=leftV own.v r:=(by rw [hE,show i=Hn by omega];exact left_mix om)
 have hT:((List.replicate ((r.x1-r.x0)).toNat 0).take 0++((own.pix.l.drop (((((r.y0-1)*own.w)+r.x0)).toNat)).take (own.pix.n-(((((r.y0-1)*own.w)+r.x0)).toNat))).take (((r.x1-r.x0)).toNat)++(List.replicate ((r.x1-r.x0)).toNat 0).drop (0+(((r.x1-r.x0)).toNat)))=topV own.v r:=(by exact top_cp (own:=own.v) hro (by simp only [Plane.v];omega) om om (by simp only [Plane.v];omega))
 have hK:t0=atV own.v (r.x0-1) (r.y0-1):=hat.symm
 exact ⟨(⟨h0.w,h0.h,h0.max_,⟨h0.pix.a,h0.pix.n,h0.pix.k,h0.pix.l⟩⟩:Plane),d2,_,rfl,⟨j1.pix⟩,(by unfold sumT;rw [if_pos (show rIn r p.v.w p.v.h from hri),<-hL,<-hT,<-hK];exact h4),(e2.drops [1,1,1,1,1,1])⟩
theorem p21_pixels (s0:Stage) (r:Rct) (p:Plane) (u0:Plane) (own:Plane) (two:Bool) (hs0:Stage.Ok [H] s0) (hp:Plane.Ok [H] p) (hu0:Plane.Ok [H] u0) (hown:Plane.Ok [H] own) (htw:two=true↔twoP s0.v) (hkk:(1<=s0.kind/\s0.kind<=6)/\¬s0.kind=4) (hpo:planeOK p.v=true) (h5:s0.kind=5->planeOK own.v=true/\own.w=p.w/\own.h=p.h) (hS:Sat W w (H::F)):
  Calls prog 42 #[.agg (encStage s0).toArray, .agg (encRct r).toArray, .agg (encPlane p).toArray, .agg (encPlane u0).toArray, .agg (encPlane own).toArray, .bool two] w fun e w'=>∃(q:Plane) (c:Int) (G:Chunk),e= .returned (.tuple #[.agg (encPlane q).toArray,I c])/\q.Ok [G]/\(q.v,c)=tilT s0.v p.v u0.v own.v r/\Sat W w' (G::H::F):=by
 have hl_s0_weights:=hs0.weights.le;have hn_s0_weights:=hs0.weights.len
 have hl_s0_row:=hs0.row.le;have hn_s0_row:=hs0.row.len
 have hl_s0_col:=hs0.col.le;have hn_s0_col:=hs0.col.len
 have hl_s0_x:=hs0.x.le;have hn_s0_x:=hs0.x.len
 have hl_s0_y:=hs0.y.le;have hn_s0_y:=hs0.y.len
 have hl_s0_ops:=hs0.ops.le;have hn_s0_ops:=hs0.ops.len
 have hl_p_pix:=hp.pix.le;have hn_p_pix:=hp.pix.len
 have hl_u0_pix:=hu0.pix.le;have hn_u0_pix:=hu0.pix.len
 have hl_own_pix:=hown.pix.le;have hn_own_pix:=hown.pix.len
 refine callsA 95 func42 rfl<|sR<|sBox hS (.agg (encStage s0).toArray) (encStage s0).toArray fun _ _ y0=>sBox y0 (.agg (encRct r).toArray) (encRct r).toArray fun _ _ z0=>sBox z0 (.agg (encPlane p).toArray) (encPlane p).toArray fun _ _ a1=>sBox a1 (.agg (encPlane u0).toArray) (encPlane u0).toArray fun _ _ b1=>sBox b1 (.agg (encPlane own).toArray) (encPlane own).toArray fun _ _ c1=>sAlloc c1 zeroValue28 fun _ _ a0=>pu1<|zQ<|pu1<|sL a0 5 0 (I s0.kind) (isAgg3 _)<|nT<|blockE<|sR<|pu2<|nT<|cE s0.kind 1 (fun d1=>?_) (fun d1=>?_)
 ·refine sR<|lA a0 3 0 4 (isAgg28 _) (sizeOf28 _)<|pu1<|lA a0 5 4 2 (isAgg55 _) (sizeOf55 _)<|pu1<|sL a0 5 6 (I s0.kW) (isAgg3 _)<|pu1<|sL a0 5 7 (I s0.kH) (isAgg3 _)<|pu1<|sL a0 5 8 (.slice s0.weights.a s0.weights.n s0.weights.k) (isAgg22 _)<|pu1<|sL a0 5 11 (I s0.shift) (isAgg3 _)<|pu1<|sL a0 5 17 (I s0.max_) (isAgg3 _)<|lA a0 4 0 4 (isAgg24 _) (sizeOf24 _)<|cX call51 (p9_tile p (⟨s0.edgePolicy,s0.edgeFill⟩:Edge) s0.kW s0.kH s0.weights.a s0.weights.n s0.weights.k s0.weights.l s0.shift s0.max_ r ⟨(RdT.flat (hp.pix.up 6 (by rfl)))⟩ (RdT.flat (hs0.weights.up 6 (by rfl))) a0.flat) ?_
  rintro _ _ ⟨b0,l0,_,rfl,g0,e1,f1⟩
  have g1:=f1.unflat1
  have hn_q_23_pix:=g0.pix.len;have hl_q_23_pix:=g0.pix.le
  refine pu2<|sTl g1 1 (encPlane b0) sizeOf28 fun _ m0=>pu1<|zB<|retC m0 1 (encPlane b0) (I l0) (isAgg28 _) (sizeOf28 _) ?_
  exact ⟨(⟨b0.w,b0.h,b0.max_,⟨b0.pix.a,b0.pix.n,b0.pix.k,b0.pix.l⟩⟩:Plane),l0,_,rfl,⟨g0.pix⟩,(by unfold tilT kerT;rw [if_neg (show ¬s0.v.kind=5 by simp only [Stage.v];omega),if_pos (show s0.v.kind=1 by simp only [Stage.v];omega)];exact e1),(m0.drops [1,1,1,1,1,1])⟩
 refine sR<|pu2<|nT<|cE s0.kind 2 (fun i1=>?_) (fun i1=>?_)
 ·refine sR<|lA a0 3 0 4 (isAgg28 _) (sizeOf28 _)<|pu1<|lA a0 5 4 2 (isAgg55 _) (sizeOf55 _)<|pu1<|sL a0 5 9 (.slice s0.row.a s0.row.n s0.row.k) (isAgg22 _)<|pu1<|sL a0 5 10 (.slice s0.col.a s0.col.n s0.col.k) (isAgg22 _)<|pu1<|sL a0 5 11 (I s0.shift) (isAgg3 _)<|pu1<|sL a0 5 12 (I s0.shift2) (isAgg3 _)<|pu1<|sL a0 5 17 (I s0.max_) (isAgg3 _)<|lA a0 4 0 4 (isAgg24 _) (sizeOf24 _) ?_
  refine cX call52 (p10_tile p (⟨s0.edgePolicy,s0.edgeFill⟩:Edge) s0.row.a s0.row.n s0.row.k s0.row.l s0.col.a s0.col.n s0.col.k s0.col.l s0.shift s0.shift2 s0.max_ r ⟨(RdT.flat (hp.pix.up 6 (by rfl)))⟩ (RdT.flat (hs0.row.up 6 (by rfl))) (RdT.flat (hs0.col.up 6 (by rfl))) a0.flat) ?_
  rintro _ _ ⟨c0,n0,_,rfl,h0,j1,k1⟩
  have l1:=k1.unflat1
  have hn_q_35_pix:=h0.pix.len;have hl_q_35_pix:=h0.pix.le
  refine pu2<|sTl l1 1 (encPlane c0) sizeOf28 fun _ o0=>pu1<|zB<|retC o0 1 (encPlane c0) (I n0) (isAgg28 _) (sizeOf28 _) ?_
  exact ⟨(⟨c0.w,c0.h,c0.max_,⟨c0.pix.a,c0.pix.n,c0.pix.k,c0.pix.l⟩⟩:Plane),n0,_,rfl,⟨h0.pix⟩,(by unfold tilT kerT;rw [if_neg (show ¬s0.v.kind=5 by simp only [Stage.v];omega),if_neg (show ¬s0.v.kind=1 by simp only [Stage.v];omega),if_pos (show s0.v.kind=2 by simp only [Stage.v];omega)];exact j1),(o0.drops [1,1,1,1,1,1])⟩
 refine sR<|pu2<|nT<|cE s0.kind 3 (fun n1=>?_) (fun n1=>?_)
 ·refine sR<|lA a0 3 0 4 (isAgg28 _) (sizeOf28 _)<|pu1<|lA a0 5 4 2 (isAgg55 _) (sizeOf55 _)<|pu1<|sL a0 5 13 (.slice s0.x.a s0.x.n s0.x.k) (isAgg56 _)<|pu1<|sL a0 5 14 (.slice s0.y.a s0.y.n s0.y.k) (isAgg56 _)<|pu1<|sL a0 5 11 (I s0.shift) (isAgg3 _)<|pu1<|sL a0 5 12 (I s0.shift2) (isAgg3 _)<|pu1<|sL a0 5 17 (I s0.max_) (isAgg3 _)<|lA a0 4 0 4 (isAgg24 _) (sizeOf24 _) ?_
  refine cX call53 (p11_tile p (⟨s0.edgePolicy,s0.edgeFill⟩:Edge) s0.x.a s0.x.n s0.x.k s0.x.l s0.y.a s0.y.n s0.y.k s0.y.l s0.shift s0.shift2 s0.max_ r ⟨(RdT.flat (hp.pix.up 6 (by rfl)))⟩ (RdT.flat (hs0.x.up 6 (by rfl))) (fun z hz=>(hs0.xD z hz).of_mem (mem_flat1 6 (by rfl))) (RdT.flat (hs0.y.up 6 (by rfl))) (fun z hz=>(hs0.yD z hz).of_mem (mem_flat1 6 (by rfl))) a0.flat) ?_
  rintro _ _ ⟨d0,p0,_,rfl,i0,o1,q1⟩
  have r1:=q1.unflat1
  have hn_q_47_pix:=i0.pix.len;have hl_q_47_pix:=i0.pix.le
  refine pu2<|sTl r1 1 (encPlane d0) sizeOf28 fun _ q0=>pu1<|zB<|retC q0 1 (encPlane d0) (I p0) (isAgg28 _) (sizeOf28 _) ?_
  exact ⟨(⟨d0.w,d0.h,d0.max_,⟨d0.pix.a,d0.pix.n,d0.pix.k,d0.pix.l⟩⟩:Plane),p0,_,rfl,⟨i0.pix⟩,(by unfold tilT kerT;rw [if_neg (show ¬s0.v.kind=5 by simp only [Stage.v];omega),if_neg (show ¬s0.v.kind=1 by simp only [Stage.v];omega),if_neg (show ¬s0.v.kind=2 by simp only [Stage.v];omega),if_pos (show s0.v.kind=3 by simp only [Stage.v];omega)];exact o1),(q0.drops [1,1,1,1,1,1])⟩
 refine sR<|pu2<|nT<|cE s0.kind 5 (fun t1=>?_) (fun t1=>?_)
 ·refine seqE ?_
  obtain ⟨how,hsw⟩:=h5 om
  refine rE<|lA a0 4 0 4 (isAgg24 _) (sizeOf24 _)<|lA a0 3 0 4 (isAgg28 _) (sizeOf28 _)<|lA a0 1 0 4 (isAgg28 _) (sizeOf28 _)<|cX call54 (p21_sums r p own ⟨(RdT.flat (hp.pix.up 6 (by rfl)))⟩ ⟨(RdT.flat (hown.pix.up 6 (by rfl)))⟩ hpo how hsw a0.flat) ?_
  rintro _ _ ⟨e0,r0,_,rfl,j0,u1,v1⟩
  have w1:=v1.unflat1
  have hn_q_59_pix:=j0.pix.len;have hl_q_59_pix:=j0.pix.le
  refine pu2<|sTl w1 1 (encPlane e0) sizeOf28 fun _ t0=>pu1<|zB<|retC t0 1 (encPlane e0) (I r0) (isAgg28 _) (sizeOf28 _) ?_
  exact ⟨(⟨e0.w,e0.h,e0.max_,⟨e0.pix.a,e0.pix.n,e0.pix.k,e0.pix.l⟩⟩:Plane),r0,_,rfl,⟨j0.pix⟩,(by unfold tilT;rw [if_pos (show s0.v.kind=5 by simp only [Stage.v];omega)];exact u1),(t0.drops [1,1,1,1,1,1])⟩
 refine sR<|pu2<|nT<|cE s0.kind 6 (fun y1=>?_) (fun y1=>?_)
 rotate_left
 ·refine skipE<|bN<|tN<|sR<|pu1<|sTl a0 0 [I 0,I 0,I 0,nS] sizeOf28 fun _ v0=>pu1<|zE<|retC v0 0 [I 0,I 0,I 0,nS] (I 1) (isAgg28 _) (sizeOf28 _) ?_
  have z1:=(v0.drops [0,0,0,0,0,0])
  have a2:Sat W _ ([]::H::F):=Sat.nilc z1
  exact ⟨(⟨0,0,0,⟨none,0,0,[]⟩⟩:Plane),1,_,rfl,⟨RdT.nil (enc:=Go.E.encI) (sz:=1) fR [[]]⟩,(by exfalso;omega),a2⟩
 refine sR<|lA a0 3 0 4 (isAgg28 _) (sizeOf28 _)<|lA a0 2 0 4 (isAgg28 _) (sizeOf28 _)<|pu2<|sL a0 5 16 (.slice s0.ops.a s0.ops.n s0.ops.k) (isAgg57 _)<|pu1<|sL a0 5 17 (I s0.max_) (isAgg3 _)<|lA a0 4 0 4 (isAgg24 _) (sizeOf24 _)<|cX call55 (p14_tile p u0 two s0.ops.a s0.ops.n s0.ops.k s0.ops.l s0.max_ r ⟨(RdT.flat (hp.pix.up 6 (by rfl)))⟩ ⟨(RdT.flat (hu0.pix.up 6 (by rfl)))⟩ (RdT.flat (hs0.ops.up 6 (by rfl))) a0.flat) ?_
 rintro _ _ ⟨f0,w0,_,rfl,k0,b2,c2⟩
 have d2:=c2.unflat1
 have hn_q_71_pix:=k0.pix.len;have hl_q_71_pix:=k0.pix.le
 refine pu2<|sTl d2 1 (encPlane f0) sizeOf28 fun _ x0=>pu1<|zB<|retC x0 1 (encPlane f0) (I w0) (isAgg28 _) (sizeOf28 _) ?_
 have hdt:two=decide (twoP s0.v):=by rw [Bool.eq_iff_iff,decide_eq_true_eq];exact htw
 exact ⟨(⟨f0.w,f0.h,f0.max_,⟨f0.pix.a,f0.pix.n,f0.pix.k,f0.pix.l⟩⟩:Plane),w0,_,rfl,⟨k0.pix⟩,(by unfold tilT kerT;rw [if_neg (show ¬s0.v.kind=5 by simp only [Stage.v];omega),if_neg (show ¬s0.v.kind=1 by simp only [Stage.v];omega),if_neg (show ¬s0.v.kind=2 by simp only [Stage.v];omega),if_neg (show ¬s0.v.kind=3 by simp only [Stage.v];omega),<-hdt];exact b2),(x0.drops [1,1,1,1,1,1])⟩
theorem p21_compute (s0:Stage) (t:Task) (p:Plane) (u0:Plane) (own:Plane) (al:Option Addr) (nl kl:Nat) (l:List IL) (hs0:Stage.Ok [H] s0) (ht:Task.Ok [H] t) (hp:Plane.Ok [H] p) (hu0:Plane.Ok [H] u0) (hown:Plane.Ok [H] own) (hl:RdT encIL 1 [H] al nl kl l) (dl:∀z∈l,IL.Ok [H] z) (hS:Sat W w (H::F)):
  Calls prog 30 #[.agg (encStage s0).toArray, .agg (encTask t).toArray, .agg (encPlane p).toArray, .agg (encPlane u0).toArray, .agg (encPlane own).toArray, .slice al nl kl] w fun e w'=>∃(az:Option Addr) (nz kz:Nat) (zs:List Int) (c:Int) (G:Chunk),e= .returned (.tuple #[.slice az nz kz,I c])/\RdT Go.E.encI 1 [G] az nz kz zs/\(zs,c)=cmpT s0.v t.part (⟨t.rectX0,t.rectY0,t.rectX1,t.rectY1⟩:Rct) p.v (if twoP s0.v then u0.v else zPl) own.v (l.map (fun z=>z.l.l))/\Sat W w' (G::H::F):=by
 have hl_s0_weights:=hs0.weights.le;have hn_s0_weights:=hs0.weights.len
 have hl_s0_row:=hs0.row.le;have hn_s0_row:=hs0.row.len
 have hl_s0_col:=hs0.col.le;have hn_s0_col:=hs0.col.len
 have hl_s0_x:=hs0.x.le;have hn_s0_x:=hs0.x.len
 have hl_s0_y:=hs0.y.le;have hn_s0_y:=hs0.y.len
 have hl_s0_ops:=hs0.ops.le;have hn_s0_ops:=hs0.ops.len
 have hl_t_deps:=ht.deps.le;have hn_t_deps:=ht.deps.len
 have hl_p_pix:=hp.pix.le;have hn_p_pix:=hp.pix.len
 have hl_u0_pix:=hu0.pix.le;have hn_u0_pix:=hu0.pix.len
 have hl_own_pix:=hown.pix.le;have hn_own_pix:=hown.pix.len
 have hl_l:=hl.le;have hn_l:=hl.len
 refine callsA 72 func30 rfl<|sR<|sBox hS (.agg (encStage s0).toArray) (encStage s0).toArray fun j0 _ c1=>sBox c1 (.agg (encTask t).toArray) (encTask t).toArray fun k0 _ d1=>sBox d1 (.agg (encPlane p).toArray) (encPlane p).toArray fun l0 _ e1=>sBox e1 (.agg (encPlane u0).toArray) (encPlane u0).toArray fun m0 _ f1=>sBox f1 (.agg (encPlane own).toArray) (encPlane own).toArray fun n0 _ o0=>pu2<|zS<|lA o0 4 0 18 (isAgg59 _) (sizeOf59 _)<|cX call38 (p15_sources s0 (hs0.of_mem (mem_flat1 5 (by rfl))) o0.flat) ?_
 rintro _ _ ⟨_,d0,_,g1,rfl,p0,h1⟩
 have q0:=h1.unflat1
 have hn_az_19:=p0.len;have hl_az_19:=p0.le
 have q2:1<=(srcs s0.v).length/\(srcs s0.v).length<=2:=srcs_len _
 refine pu3<|nT<|cutA (γ:=Plane) (fun u9=>[(5, .slice al nl kl),(6,Pt j0 0),(7,Pt k0 0),(8,Pt l0 0),(9,Pt m0 0),(10,Pt n0 0),(14, .bool (((d0:Int):Int)==2))]) (fun u9 w=>Sat W w (g1::[(n0, .cells (encPlane own).toArray 28 (0,0))]::[(m0, .cells (encPlane u9).toArray 28 (0,0))]::[(l0, .cells (encPlane p).toArray 28 (0,0))]::[(k0, .cells (encTask t).toArray 33 (0,0))]::[(j0, .cells (encStage s0).toArray 59 (0,0))]::H::F)/\u9.v=(if twoP s0.v then u0.v else zPl)/\Plane.Ok [H] u9) ?_ ?_
 ·refine sR<|pu2<|nT<|cEn (d0:Int) 2 (fun i1=>?_) (fun i1=>?_)
  ·exact kT<|⟨u0,alA,q0,(if_pos (srcs_two.1 om)).symm,hu0⟩
  refine rE<|pu1<|sTl q0 2 [I 0,I 0,I 0,nS] sizeOf28 fun _ j1=>nT ?_
  exact ⟨(⟨0,0,0,⟨none,0,0,[]⟩⟩:Plane),alA,j1,(if_neg (fun e=>by have:=srcs_two.2 e;omega)).symm,⟨RdT.nil (enc:=Go.E.encI) (sz:=1) fR _⟩⟩
 rintro u9 ρ _ ⟨c0,hu9,ho9⟩
 refine seqE<|seqE ?_
 have hn9:=ho9.pix.len;have hl9:=ho9.pix.le;have htw:(((d0:Int):Int)==2)=true↔twoP s0.v:=by rw [<-srcs_two];simp only [beq_iff_eq];omega
 refine rE<|lA c0 5 0 18 (isAgg59 _) (sizeOf59 _)<|pu1<|sL c0 4 1 (I t.part) (isAgg3 _)<|lA c0 3 0 4 (isAgg28 _) (sizeOf28 _)<|lA c0 2 0 4 (isAgg28 _) (sizeOf28 _)<|lA c0 1 0 4 (isAgg28 _) (sizeOf28 _)<|pu1<|cR call39 (p21_check s0 t.part p u9 own (((d0:Int):Int)==2) (hs0.of_mem (mem_flat1 6 (by rfl))) ⟨(RdT.flat (hp.pix.up 6 (by rfl)))⟩ ⟨(RdT.flat (ho9.pix.up 6 (by rfl)))⟩ ⟨(RdT.flat (hown.pix.up 6 (by rfl)))⟩ htw c0.flat) fun _ a0=>pu1<|zS<|pu2<|nT<|cN (cmpC s0.v t.part p.v u9.v own.v) 0 (fun k1=>?_) (fun k1=>?_)
 rotate_left
 ·refine sR<|pu3<|zR<|retT [nS,I (cmpC s0.v t.part p.v u9.v own.v)] ?_
  have l1:=(a0.drops [0,0,0,0,0,0])
  have m1:Sat W _ ([]::H::F):=Sat.nilc l1
  exact ⟨none,0,0,[],(cmpC s0.v t.part p.v u9.v own.v),_,rfl,RdT.nil (enc:=Go.E.encI) (sz:=1) fR [[]],(by rw [<-hu9];exact (cmp_n rfl om).symm),m1⟩
 refine kT<|seqE<|seqE ?_
 have hc0:cmpC s0.v t.part p.v u9.v own.v=0:=om;have hck:=cmpC_k hc0
 refine rE<|pu1<|sL a0 4 1 (I t.part) (isAgg3 _)<|nT<|blockE<|sR<|pu2<|nT<|cE t.part 1 (fun n1=>?_) (fun n1=>?_)
 ·refine sR<|lA a0 3 0 4 (isAgg28 _) (sizeOf28 _)<|pu1<|sL a0 5 15 (I s0.bins) (isAgg3 _)<|pu1<|lA a0 4 2 4 (isAgg24 _) (sizeOf24 _)<|cX call40 (p12_partial p s0.bins (⟨t.rectX0,t.rectY0,t.rectX1,t.rectY1⟩:Rct) ⟨(RdT.flat (hp.pix.up 6 (by rfl)))⟩ a0.flat) ?_
  rintro _ _ ⟨r0,t0,v0,o1,w0,_,rfl,f0,q1,r1⟩
  have s1:=r1.unflat1
  have hn_az_43:=f0.len;have hl_az_43:=f0.le
  exact pu4<|zB<|retT [.slice r0 t0 v0,I w0]<|⟨r0,t0,v0,o1,w0,_,rfl,f0,(by rw [<-hu9,cmp_1 hc0 om];exact q1),(s1.drops [1,1,1,1,1,1])⟩
 refine sR<|pu2<|nT<|cE t.part 2 (fun u1=>?_) (fun u1=>?_)
 ·refine sR<|pu2<|sL a0 5 15 (I s0.bins) (isAgg3 _)<|cX call41 (p21_merged al nl kl l s0.bins (RdT.flat (hl.up 6 (by rfl))) (fun z hz=>(dl z hz).of_mem (mem_flat1 6 (by rfl))) a0.flat) ?_
  rintro _ _ ⟨x0,y0,z0,v1,a1,_,rfl,g0,w1,x1⟩
  have y1:=x1.unflat1
  have hn_az_57:=g0.len;have hl_az_57:=g0.le
  exact pu4<|zB<|retT [.slice x0 y0 z0,I a1]<|⟨x0,y0,z0,v1,a1,_,rfl,g0,(by rw [<-hu9,cmp_2 hc0 om];exact w1),(y1.drops [1,1,1,1,1,1])⟩
 refine skipE<|bN<|tN<|seqE ?_
 have hkk:(1<=s0.kind/\s0.kind<=6)/\¬s0.kind=4:=by
  have hf:=of_kind hck.2.2.2.2;unfold fieldsP at hf;simp only [Stage.v] at hf;have hb:=hck.1;unfold belongP at hb;simp only [Stage.v] at hb;omega
 refine rE<|lA a0 5 0 18 (isAgg59 _) (sizeOf59 _)<|pu1<|lA a0 4 2 4 (isAgg24 _) (sizeOf24 _)<|lA a0 3 0 4 (isAgg28 _) (sizeOf28 _)<|lA a0 2 0 4 (isAgg28 _) (sizeOf28 _)<|lA a0 1 0 4 (isAgg28 _) (sizeOf28 _)<|pu1<|cX call42 (p21_pixels s0 (⟨t.rectX0,t.rectY0,t.rectX1,t.rectY1⟩:Rct) p u9 own (((d0:Int):Int)==2) (hs0.of_mem (mem_flat1 6 (by rfl))) ⟨(RdT.flat (hp.pix.up 6 (by rfl)))⟩ ⟨(RdT.flat (ho9.pix.up 6 (by rfl)))⟩ ⟨(RdT.flat (hown.pix.up 6 (by rfl)))⟩ htw hkk hck.2.1 hck.2.2.2.1 a0.flat) ?_
 rintro _ _ ⟨b0,e0,_,rfl,h0,b1,a2⟩
 have b2:=a2.unflat1
 have hn_q_65_pix:=h0.pix.len;have hl_q_65_pix:=h0.pix.le
 refine pu3<|sAlloc b2 zeroValue28 fun _ _ c2=>sTl c2 0 (encPlane b0) sizeOf28 fun _ i0=>pu1<|zQ<|pu2<|nT<|cN e0 0 (fun d2=>?_) (fun d2=>?_)
 rotate_left
 ·refine sR<|pu3<|zR<|retT [nS,I e0] ?_
  have e2:=(i0.drops [0,0,0,0,0,0,0,0])
  have f2:Sat W _ ([]::H::F):=Sat.nilc e2
  exact ⟨none,0,0,[],e0,_,rfl,RdT.nil (enc:=Go.E.encI) (sz:=1) fR [[]],(by rw [<-hu9,cmp_0 hc0 om om,<-b1];exact (if_neg (show ¬e0=0 by omega)).symm),f2⟩
 refine kS<|pu1<|sL i0 0 3 (.slice b0.pix.a b0.pix.n b0.pix.k) (isAgg22 _)<|pu2<|zE<|retT [.slice b0.pix.a b0.pix.n b0.pix.k,I 0] ?_
 exact ⟨b0.pix.a,b0.pix.n,b0.pix.k,b0.pix.l,0,_,rfl,h0.pix,(by rw [<-hu9,cmp_0 hc0 om om,<-b1];exact (if_pos (show e0=0 by omega)).symm),(i0.drops [0,1,1,1,1,1,1])⟩
end Go.Proofs.Ytmlhcafjelkjfaa
