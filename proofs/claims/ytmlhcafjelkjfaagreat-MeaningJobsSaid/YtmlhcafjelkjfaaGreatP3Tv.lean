import Derived.Test.YtmlhcafjelkjfaaGreatP3Ab
import Derived.WalkKit
import Derived.Deep.Quiet
import Derived.KernelRfl
import Derived.Laws.BytesString
import Derived.Laws.Shifts
import Derived.Laws.IdiomStrings
import Derived.Test.YtmlhcafjelkjfaaGreatProg
import Derived.Laws.IdiomRangeMap
import Derived.Test.YtmlhcafjelkjfaaGreatP3Gr2
import Derived.Test.YtmlhcafjelkjfaaGreatP3Tu
import Derived.Test.YtmlhcafjelkjfaaGreatP3Tr
namespace Go.Proofs.YtmlhcafjelkjfaaGreat
open Go Go.E Go.Proofs.Tryz
set_option linter.all false
set_option maxRecDepth 100000
set_option maxHeartbeats 2000000
variable {W w:World} {H:Chunk} {F:List Chunk}
theorem rd_nil {α:Type} {enc:α->List Value} {sz n k:Nat} {cs:List Chunk} {a:Option Addr} {xs:List α} (h:RdT enc sz cs a n k xs) (ha:a=none):xs=[]:=by
  have h1:=h.len
  by_cases hn:0<n
  · exact absurd ha (rd_some h hn)
  · cases xs with
    |nil=>rfl
    |cons x l=>simp at h1;omega
theorem srcs_a (s:StageV):s.a∈srcs s:=by unfold srcs;split<;>simp
theorem srcs_b {s:StageV} (h:twoP s):s.b∈srcs s:=by unfold srcs;rw [if_pos h];simp
theorem chk_all {j:JobV} (h:chkCode j=0):(∀s∈j.stages,∀x∈srcs s,0<=x/\x<(j.inputs.length:Int)+j.stages.length)/\∀x∈j.outputs,0<=x/\x<(j.inputs.length:Int)+j.stages.length:=by
  unfold chkCode at h
  split at h
  · split at h
    · split at h
      · rename_i h3
        split at h
        · rename_i h4
          unfold inR at h3 h4
          simp only [List.all_eq_true,decide_eq_true_eq] at h3 h4
          exact ⟨h3,h4⟩
        · omega
      · omega
    · omega
  · omega
section
variable {s:StageV} {p q:PlaneV}
theorem stg_1 (h:¬(planeOK p=true/\(twoP s->planeOK q=true))):stgT s p q=(zPl,1):=by unfold stgT;rw [if_neg h]
variable (h:planeOK p=true/\(twoP s->planeOK q=true))
include h
theorem stg_c (hc:¬(ofV s (shpOf p) (shpOf q)).2=0):stgT s p q=(zPl,(ofV s (shpOf p) (shpOf q)).2):=by unfold stgT;rw [if_pos h,if_neg hc]
variable (hc:(ofV s (shpOf p) (shpOf q)).2=0)
include hc
theorem stg_k1 (k:s.kind=1):stgT s p q=convT p s.edgePolicy s.edgeFill s.kW s.kH s.weights s.shift s.max_ ⟨0,0,(ofV s (shpOf p) (shpOf q)).1.w,(ofV s (shpOf p) (shpOf q)).1.h⟩:=by
  unfold stgT;rw [if_pos h,if_pos hc,if_neg (by omega),if_neg (by omega),if_pos k]
theorem stg_k2 (k:s.kind=2):stgT s p q=sepT p s.edgePolicy s.edgeFill s.row s.col s.shift s.shift2 s.max_ ⟨0,0,(ofV s (shpOf p) (shpOf q)).1.w,(ofV s (shpOf p) (shpOf q)).1.h⟩:=by
  unfold stgT;rw [if_pos h,if_pos hc,if_neg (by omega),if_neg (by omega),if_neg (by omega),if_pos k]
theorem stg_k3 (k:s.kind=3):stgT s p q=resT p s.edgePolicy s.edgeFill s.x s.y s.shift s.shift2 s.max_ ⟨0,0,(ofV s (shpOf p) (shpOf q)).1.w,(ofV s (shpOf p) (shpOf q)).1.h⟩:=by
  unfold stgT;rw [if_pos h,if_pos hc,if_neg (by omega),if_neg (by omega),if_neg (by omega),if_neg (by omega),if_pos k]
theorem stg_k4 (k:s.kind=4):stgT s p q=histT p s.bins:=by unfold stgT;rw [if_pos h,if_pos hc,if_pos k]
theorem stg_k5 (k:s.kind=5):stgT s p q=itgW p:=by unfold stgT;rw [if_pos h,if_pos hc,if_neg (by omega),if_pos k]
theorem stg_k6 (k:s.kind=6):stgT s p q=pwT p q (decide (twoP s)) s.ops s.max_ ⟨0,0,(ofV s (shpOf p) (shpOf q)).1.w,(ofV s (shpOf p) (shpOf q)).1.h⟩:=by
  unfold stgT;rw [if_pos h,if_pos hc,if_neg (by omega),if_neg (by omega),if_neg (by omega),if_neg (by omega),if_neg (by omega)]
end
theorem of_kind {s:StageV} {x y:Shape} (h:(ofV s x y).2=0):fieldsP s:=by
  unfold ofV at h
  split at h
  · assumption
  · simp at h
theorem plAt_map {zs:List Plane} {n:Int} {x:Plane} (h:zs[n.toNat]?=some x):plAt (zs.map Plane.v) n=x.v:=by unfold plAt;rw [List.getElem?_map,h];rfl
theorem stgAt_map {ss:List Stage} {ni n:Int} {x:Stage} (h:ss[(n-ni).toNat]?=some x):stgAt (ss.map Stage.v) ni n=x.v:=by unfold stgAt;rw [List.getElem?_map,h];rfl
theorem q_clone (ax : Option Addr) (nx kx : Nat) (x : List Int) (hx : RdT Go.E.encI 1 [H] ax nx kx x) (hnx : nx <= 100000) (hS : Sat W w (H :: F)) :
  Calls prog 115 #[.slice ax nx kx] w fun e w' => ∃ (az : Option Addr) (nz kz : Nat) (zs : List Int) (G : Chunk), e = .returned (.slice az nz kz) /\ RdT Go.E.encI 1 [G] az nz kz zs /\ zs = x /\ Sat W w' (G :: H :: F) := by
 have hl_x := hx.le; have hn_x := hx.len
 refine callsA 8 func115 rfl <| sR <| pu1 <| zQ <| pu1 <| stepY (.bool (decide (ax = none))) rfl rfl (Y_eqS rfl kr kr (eqvs22 _ ax nx kx)) <| nT <| cD (ax = none) (fun c0 => ?_) (fun c0 => ?_)
 ·refine sR <| pu1 <| zR <| retT [nS] ?_
  have d0 : Sat W _ ([] :: H :: F) := Sat.nilc hS
  exact ⟨none, 0, 0, [], _, rfl, RdT.nil (enc := Go.E.encI) (sz := 1) fR [[]], (rd_nil hx ‹_›).symm, d0⟩
 exact kS <| sBS hS #[] runUnderlying22 sizeOf3 zeroValue3 fun e0 _ f0 => pu1 <| sApp (nb := 8) f0 (OwnT.blk (enc := Go.E.encI) (sz := 1) (b := e0) (c := #[]) (E := 3) (xs := []) fR 0 rfl rfl rfl om) 0 (hx.up 1 rfl) underlying22 (i := Tryz.t3) kr fR fun a0 b0 h0 _ i0 j0 => pu1 <| zE <| retT [.slice a0 (0 + nx) b0] <| ⟨a0, (0 + nx), b0, ([] ++ x), _, rfl, (i0.rdAt (cs := [h0]) 0 rfl), (by simp), j0⟩
theorem p18_dup (p:Plane) (hp:Plane.Ok [H] p) (hnx:p.pix.n<=100000) (hS:Sat W w (H::F)):
  Calls prog 85 #[.agg (encPlane p).toArray] w fun e w'=>∃(q:Plane) (G:Chunk),e= .returned (.agg (encPlane q).toArray)/\q.Ok [G]/\q.v=p.v/\Sat W w' (G::H::F):=by
 have hl_p_pix:=hp.pix.le;have hn_p_pix:=hp.pix.len
 refine callsA 8 func85 rfl<|sR<|sBox hS (.agg (encPlane p).toArray) (encPlane p).toArray fun _ _ h0=>sAlloc h0 zeroValue38 fun _ _ e0=>zS<|pu1<|sL e0 1 3 (.slice p.pix.a p.pix.n p.pix.k) (isAgg22 _)<|cX call115 (q_clone p.pix.a p.pix.n p.pix.k p.pix.l (RdT.flat (hp.pix.up 2 (by rfl))) (od) e0.flat) ?_
 rintro _ _ ⟨a0,b0,c0,i0,_,rfl,d0,j0,k0⟩
 have l0:=k0.unflat1
 have hn_az_15:=d0.len;have hl_az_15:=d0.le
 exact pu1<|tW l0 2 3 (.slice a0 b0 c0) sizeOf22 fun _ f0=>zS<|lA f0 2 0 4 (isAgg38 _) (sizeOf38 _)<|sTl f0 1 [I p.w,I p.h,I p.max_, .slice a0 b0 c0] sizeOf38 fun _ g0=>zE<|retN (vs:=[.agg #[I p.w,I p.h,I p.max_, .slice a0 b0 c0]]) rfl (.cons (.cell _ _ _ _ kr (lvA g0 1 0 [I p.w,I p.h,I p.max_, .slice a0 b0 c0] (isAgg38 _) (sizeOf38 _) rfl rfl rfl)) .nil)<|⟨(⟨p.w,p.h,p.max_,⟨a0,b0,c0,i0⟩⟩:Plane),_,rfl,⟨d0⟩,(by rw [show p.v=⟨p.w,p.h,p.max_,p.pix.l⟩ from rfl,<-j0];rfl),(g0.drops [1,1])⟩
theorem p18_shape (p:Plane) (hp:Plane.Ok [H] p) (hS:Sat W w (H::F)):
  Ro prog 88 #[.agg (encPlane p).toArray] (.agg #[I p.w,I p.h,I p.max_]) W w (H::F):=by
 have hl_p_pix:=hp.pix.le;have hn_p_pix:=hp.pix.len
 exact callsA 10 func88 rfl<|sR<|sBox hS (.agg (encPlane p).toArray) (encPlane p).toArray fun _ _ c0=>sAlloc c0 zeroValue65 fun _ _ a0=>zS<|pu1<|sL a0 1 0 (I p.w) (isAgg3 _)<|pu1<|sL a0 1 1 (I p.h) (isAgg3 _)<|pu1<|sL a0 1 2 (I p.max_) (isAgg3 _)<|pu1<|sTl a0 0 [I p.w,I p.h,I p.max_] sizeOf65 fun _ b0=>zE<|retN (vs:=[.agg #[I p.w,I p.h,I p.max_]]) rfl (.cons (.cell _ _ _ _ kr (lvA b0 0 0 [I p.w,I p.h,I p.max_] (isAgg65 _) (sizeOf65 _) rfl rfl rfl)) .nil)<|⟨rfl,(b0.drops [0,0])⟩
theorem p18_stage (s0:Stage) (p:Plane) (u0:Plane) (hs0:Stage.Ok [H] s0) (hp:Plane.Ok [H] p) (hu0:Plane.Ok [H] u0) (hS:Sat W w (H::F)):
  Calls prog 40 #[.agg (encStage s0).toArray, .agg (encPlane p).toArray, .agg (encPlane u0).toArray] w fun e w'=>∃(q:Plane) (c:Int) (G:Chunk),e= .returned (.tuple #[.agg (encPlane q).toArray,I c])/\q.Ok [G]/\(q.v,c)=stgT s0.v p.v (if twoP s0.v then u0.v else zPl)/\Sat W w' (G::H::F):=by
 have hl_s0_weights:=hs0.weights.le;have hn_s0_weights:=hs0.weights.len
 have hl_s0_row:=hs0.row.le;have hn_s0_row:=hs0.row.len
 have hl_s0_col:=hs0.col.le;have hn_s0_col:=hs0.col.len
 have hl_s0_x:=hs0.x.le;have hn_s0_x:=hs0.x.len
 have hl_s0_y:=hs0.y.le;have hn_s0_y:=hs0.y.len
 have hl_s0_ops:=hs0.ops.le;have hn_s0_ops:=hs0.ops.len
 have hl_p_pix:=hp.pix.le;have hn_p_pix:=hp.pix.len
 have hl_u0_pix:=hu0.pix.le;have hn_u0_pix:=hu0.pix.len
 refine callsA 136 func40 rfl<|sR<|sBox hS (.agg (encStage s0).toArray) (encStage s0).toArray fun d0 _ f2=>sBox f2 (.agg (encPlane p).toArray) (encPlane p).toArray fun l0 _ g2=>sBox g2 (.agg (encPlane u0).toArray) (encPlane u0).toArray fun m0 _ h2=>sAlloc h2 zeroValue38 fun x0 _ j1=>pu1<|zS<|lA j1 3 0 18 (isAgg53 _) (sizeOf53 _)<|cX call59 (p15_sources s0 (hs0.of_mem (mem_flat1 4 (by rfl))) j1.flat) ?_
 rintro _ _ ⟨_,w0,_,b1,rfl,k1,i2⟩
 have l1:=i2.unflat1
 have hn_az_16:=k1.len;have hl_az_16:=k1.le
 have t4:1<=(srcs s0.v).length/\(srcs s0.v).length<=2:=srcs_len _
 refine pu3<|nT<|cutA (γ:=Plane) (fun u9=>[(3,Pt d0 0),(4,Pt l0 0),(5,Pt m0 0),(6,Pt x0 0),(8, .bool (((w0:Int):Int)==2))]) (fun u9 w=>Sat W w (b1::[(x0, .cells #[I 0,I 0,I 0,nS] 38 (0,0))]::[(m0, .cells (encPlane u9).toArray 38 (0,0))]::[(l0, .cells (encPlane p).toArray 38 (0,0))]::[(d0, .cells (encStage s0).toArray 53 (0,0))]::H::F)/\u9.v=(if twoP s0.v then u0.v else zPl)/\Plane.Ok [H] u9) ?_ ?_
 ·refine sR<|pu2<|nT<|cEn (w0:Int) 2 (fun j2=>?_) (fun j2=>?_)
  ·exact kT<|⟨u0,alA,l1,(if_pos (srcs_two.1 om)).symm,hu0⟩
  refine rE<|pu1<|sTl l1 2 [I 0,I 0,I 0,nS] sizeOf38 fun _ k2=>nT ?_
  exact ⟨(⟨0,0,0,⟨none,0,0,[]⟩⟩:Plane),alA,k2,(if_neg (fun e=>by have:=srcs_two.2 e;omega)).symm,⟨RdT.nil (enc:=Go.E.encI) (sz:=1) fR _⟩⟩
 rintro u9 ρ _ ⟨m1,hu9,ho9⟩
 refine cutA (γ:=Unit) (fun _=>[(3,Pt d0 0),(4,Pt l0 0),(5,Pt m0 0),(6,Pt x0 0),(8, .bool (((w0:Int):Int)==2))]) (fun _ w=>Sat W w (b1::[(x0, .cells #[I 0,I 0,I 0,nS] 38 (0,0))]::[(m0, .cells (encPlane u9).toArray 38 (0,0))]::[(l0, .cells (encPlane p).toArray 38 (0,0))]::[(d0, .cells (encStage s0).toArray 53 (0,0))]::H::F)/\(planeOK p.v=true/\(twoP s0.v->planeOK u9.v=true))) ?_ ?_
 ·refine seqE ?_
  have hn9:=ho9.pix.len;have hl9:=ho9.pix.le
  refine rE<|lA m1 3 0 4 (isAgg38 _) (sizeOf38 _)<|cR call64 (p4_valid p ⟨(RdT.flat (hp.pix.up 5 (by rfl)))⟩ m1.flat) fun _ y0=>pu2<|sBn 22 (planeOK p.v) (fun z0=>?_) (fun z0=>?_)
  rotate_left
  ·refine pu7<|zC<|pu1<|sTl y0 1 [I 0,I 0,I 0,nS] sizeOf38 fun _ n1=>pu1<|zR<|retC n1 1 [I 0,I 0,I 0,nS] (I 1) (isAgg38 _) (sizeOf38 _) ?_
   have l2:=(n1.drops [0,0,0,0,0])
   have m2:Sat W _ ([]::H::F):=Sat.nilc l2
   exact ⟨(⟨0,0,0,⟨none,0,0,[]⟩⟩:Plane),1,_,rfl,⟨RdT.nil (enc:=Go.E.encI) (sz:=1) fR [[]]⟩,(by rw [<-hu9,stg_1 (fun h=>z0 h.1)];rfl),m2⟩
  refine pu2<|sE 24 (w0:Int) 2 (fun n2=>?_) (fun n2=>?_)
  rotate_left
  ·refine pu5<|nT<|cFf<|kT ?_
   exact ⟨(),alA,y0,⟨z0,fun e=>by exfalso;have:=srcs_two.2 e;omega⟩⟩
  refine gY<|lA y0 2 0 4 (isAgg38 _) (sizeOf38 _)<|gY<|cR call64 (p4_valid u9 ⟨(RdT.flat (ho9.pix.up 5 (by rfl)))⟩ y0.flat) fun _ o1=>pu3<|nT<|cBn (planeOK u9.v) (fun c1=>?_) (fun c1=>?_)
  ·exact kT<|⟨(),alA,o1,⟨z0,fun _=>c1⟩⟩
  refine sR<|pu1<|sTl o1 1 [I 0,I 0,I 0,nS] sizeOf38 fun _ p1=>pu1<|zR<|retC p1 1 [I 0,I 0,I 0,nS] (I 1) (isAgg38 _) (sizeOf38 _) ?_
  have o2:=(p1.drops [0,0,0,0,0])
  have p2:Sat W _ ([]::H::F):=Sat.nilc o2
  exact ⟨(⟨0,0,0,⟨none,0,0,[]⟩⟩:Plane),1,_,rfl,⟨RdT.nil (enc:=Go.E.encI) (sz:=1) fR [[]]⟩,(by rw [<-hu9,stg_1 (fun h=>c1 (h.2 (srcs_two.1 om)))];rfl),p2⟩
 rintro _ ρ _ ⟨b0,hP⟩
 refine cutA (γ:=Nat) (fun b9=>[(3,Pt d0 0),(4,Pt l0 0),(5,Pt m0 0),(6,Pt x0 0),(8, .bool (((w0:Int):Int)==2)),(9,Pt b9 0),(10,I ((ofV s0.v (⟨p.w,p.h,p.max_⟩:Shape) (⟨u9.w,u9.h,u9.max_⟩:Shape)).2))]) (fun b9 w=>Sat W w ([(b9, .cells #[I ((ofV s0.v (⟨p.w,p.h,p.max_⟩:Shape) (⟨u9.w,u9.h,u9.max_⟩:Shape)).1.w),I ((ofV s0.v (⟨p.w,p.h,p.max_⟩:Shape) (⟨u9.w,u9.h,u9.max_⟩:Shape)).1.h),I ((ofV s0.v (⟨p.w,p.h,p.max_⟩:Shape) (⟨u9.w,u9.h,u9.max_⟩:Shape)).1.max_)] 65 (0,0))]::b1::[(x0, .cells #[I 0,I 0,I 0,nS] 38 (0,0))]::[(m0, .cells (encPlane u9).toArray 38 (0,0))]::[(l0, .cells (encPlane p).toArray 38 (0,0))]::[(d0, .cells (encStage s0).toArray 53 (0,0))]::H::F)) ?_ ?_
 rotate_left
 ·rintro b9 ρ _ a1
  refine seqE<|sR<|pu2<|nT<|cN ((ofV s0.v (⟨p.w,p.h,p.max_⟩:Shape) (⟨u9.w,u9.h,u9.max_⟩:Shape)).2) 0 (fun n0=>?_) (fun n0=>?_)
  rotate_left
  ·refine sR<|pu2<|sTl a1 2 [I 0,I 0,I 0,nS] sizeOf38 fun _ q1=>pu1<|zR<|retC q1 2 [I 0,I 0,I 0,nS] (I ((ofV s0.v (⟨p.w,p.h,p.max_⟩:Shape) (⟨u9.w,u9.h,u9.max_⟩:Shape)).2)) (isAgg38 _) (sizeOf38 _) ?_
   have q2:=(q1.drops [0,0,0,0,0,0])
   have r2:Sat W _ ([]::H::F):=Sat.nilc q2
   exact ⟨(⟨0,0,0,⟨none,0,0,[]⟩⟩:Plane),((ofV s0.v (⟨p.w,p.h,p.max_⟩:Shape) (⟨u9.w,u9.h,u9.max_⟩:Shape)).2),_,rfl,⟨RdT.nil (enc:=Go.E.encI) (sz:=1) fR [[]]⟩,(by rw [<-hu9,stg_c hP (show ¬(ofV s0.v (shpOf p.v) (shpOf u9.v)).2=0 from n0)];rfl),r2⟩
  refine kS<|pu1<|sL a1 0 0 (I ((ofV s0.v (⟨p.w,p.h,p.max_⟩:Shape) (⟨u9.w,u9.h,u9.max_⟩:Shape)).1.w)) (isAgg3 _)<|pu1<|sL a1 0 1 (I ((ofV s0.v (⟨p.w,p.h,p.max_⟩:Shape) (⟨u9.w,u9.h,u9.max_⟩:Shape)).1.h)) (isAgg3 _)<|pu1<|sAlloc a1 zeroValue45 fun _ _ s2=>sTl s2 0 [I 0,I 0,I ((ofV s0.v (⟨p.w,p.h,p.max_⟩:Shape) (⟨u9.w,u9.h,u9.max_⟩:Shape)).1.w),I ((ofV s0.v (⟨p.w,p.h,p.max_⟩:Shape) (⟨u9.w,u9.h,u9.max_⟩:Shape)).1.h)] sizeOf45 fun _ a0=>zQ<|pu1<|sL a0 6 0 (I s0.kind) (isAgg3 _)<|nT<|blockE<|sR<|pu2<|nT<|cE s0.kind 1 (fun t2=>?_) (fun t2=>?_)
  ·refine sR<|lA a0 5 0 4 (isAgg38 _) (sizeOf38 _)<|pu1<|lA a0 6 4 2 (isAgg49 _) (sizeOf49 _)<|pu1<|sL a0 6 6 (I s0.kW) (isAgg3 _)<|pu1<|sL a0 6 7 (I s0.kH) (isAgg3 _)<|pu1<|sL a0 6 8 (.slice s0.weights.a s0.weights.n s0.weights.k) (isAgg22 _)<|pu1<|sL a0 6 11 (I s0.shift) (isAgg3 _)<|pu1<|sL a0 6 17 (I s0.max_) (isAgg3 _)<|lA a0 0 0 4 (isAgg45 _) (sizeOf45 _) ?_
   refine cX call89 (p9_tile p (⟨s0.edgePolicy,s0.edgeFill⟩:Edge) s0.kW s0.kH s0.weights.a s0.weights.n s0.weights.k s0.weights.l s0.shift s0.max_ (⟨0,0,(ofV s0.v (⟨p.w,p.h,p.max_⟩:Shape) (⟨u9.w,u9.h,u9.max_⟩:Shape)).1.w,(ofV s0.v (⟨p.w,p.h,p.max_⟩:Shape) (⟨u9.w,u9.h,u9.max_⟩:Shape)).1.h⟩:Rct) ⟨(RdT.flat (hp.pix.up 7 (by rfl)))⟩ (RdT.flat (hs0.weights.up 7 (by rfl))) a0.flat) ?_
   rintro _ _ ⟨o0,r1,_,rfl,d1,u2,v2⟩
   have w2:=v2.unflat1
   have hn_q_106_pix:=d1.pix.len;have hl_q_106_pix:=d1.pix.le
   refine pu2<|sTl w2 4 (encPlane o0) sizeOf38 fun _ s1=>pu1<|zB<|retC s1 4 (encPlane o0) (I r1) (isAgg38 _) (sizeOf38 _) ?_
   exact ⟨(⟨o0.w,o0.h,o0.max_,⟨o0.pix.a,o0.pix.n,o0.pix.k,o0.pix.l⟩⟩:Plane),r1,_,rfl,⟨d1.pix⟩,(by rw [<-hu9,stg_k1 hP (show (ofV s0.v (shpOf p.v) (shpOf u9.v)).2=0 from n0) (show s0.v.kind=1 by simp only [Stage.v];omega)];exact u2),(s1.drops [1,1,1,1,1,1,1])⟩
  refine sR<|pu2<|nT<|cE s0.kind 2 (fun y2=>?_) (fun y2=>?_)
  ·refine sR<|lA a0 5 0 4 (isAgg38 _) (sizeOf38 _)<|pu1<|lA a0 6 4 2 (isAgg49 _) (sizeOf49 _)<|pu1<|sL a0 6 9 (.slice s0.row.a s0.row.n s0.row.k) (isAgg22 _)<|pu1<|sL a0 6 10 (.slice s0.col.a s0.col.n s0.col.k) (isAgg22 _)<|pu1<|sL a0 6 11 (I s0.shift) (isAgg3 _)<|pu1<|sL a0 6 12 (I s0.shift2) (isAgg3 _)<|pu1<|sL a0 6 17 (I s0.max_) (isAgg3 _)<|lA a0 0 0 4 (isAgg45 _) (sizeOf45 _) ?_
   refine cX call90 (p10_tile p (⟨s0.edgePolicy,s0.edgeFill⟩:Edge) s0.row.a s0.row.n s0.row.k s0.row.l s0.col.a s0.col.n s0.col.k s0.col.l s0.shift s0.shift2 s0.max_ (⟨0,0,(ofV s0.v (⟨p.w,p.h,p.max_⟩:Shape) (⟨u9.w,u9.h,u9.max_⟩:Shape)).1.w,(ofV s0.v (⟨p.w,p.h,p.max_⟩:Shape) (⟨u9.w,u9.h,u9.max_⟩:Shape)).1.h⟩:Rct) ⟨(RdT.flat (hp.pix.up 7 (by rfl)))⟩ (RdT.flat (hs0.row.up 7 (by rfl))) (RdT.flat (hs0.col.up 7 (by rfl))) a0.flat) ?_
   rintro _ _ ⟨p0,t1,_,rfl,e1,z2,a3⟩
   have b3:=a3.unflat1
   have hn_q_118_pix:=e1.pix.len;have hl_q_118_pix:=e1.pix.le
   refine pu2<|sTl b3 4 (encPlane p0) sizeOf38 fun _ u1=>pu1<|zB<|retC u1 4 (encPlane p0) (I t1) (isAgg38 _) (sizeOf38 _) ?_
   exact ⟨(⟨p0.w,p0.h,p0.max_,⟨p0.pix.a,p0.pix.n,p0.pix.k,p0.pix.l⟩⟩:Plane),t1,_,rfl,⟨e1.pix⟩,(by rw [<-hu9,stg_k2 hP (show (ofV s0.v (shpOf p.v) (shpOf u9.v)).2=0 from n0) (show s0.v.kind=2 by simp only [Stage.v];omega)];exact z2),(u1.drops [1,1,1,1,1,1,1])⟩
  refine sR<|pu2<|nT<|cE s0.kind 3 (fun d3=>?_) (fun d3=>?_)
  ·refine sR<|lA a0 5 0 4 (isAgg38 _) (sizeOf38 _)<|pu1<|lA a0 6 4 2 (isAgg49 _) (sizeOf49 _)<|pu1<|sL a0 6 13 (.slice s0.x.a s0.x.n s0.x.k) (isAgg50 _)<|pu1<|sL a0 6 14 (.slice s0.y.a s0.y.n s0.y.k) (isAgg50 _)<|pu1<|sL a0 6 11 (I s0.shift) (isAgg3 _)<|pu1<|sL a0 6 12 (I s0.shift2) (isAgg3 _)<|pu1<|sL a0 6 17 (I s0.max_) (isAgg3 _)<|lA a0 0 0 4 (isAgg45 _) (sizeOf45 _) ?_
   refine cX call91 (p11_tile p (⟨s0.edgePolicy,s0.edgeFill⟩:Edge) s0.x.a s0.x.n s0.x.k s0.x.l s0.y.a s0.y.n s0.y.k s0.y.l s0.shift s0.shift2 s0.max_ (⟨0,0,(ofV s0.v (⟨p.w,p.h,p.max_⟩:Shape) (⟨u9.w,u9.h,u9.max_⟩:Shape)).1.w,(ofV s0.v (⟨p.w,p.h,p.max_⟩:Shape) (⟨u9.w,u9.h,u9.max_⟩:Shape)).1.h⟩:Rct) ⟨(RdT.flat (hp.pix.up 7 (by rfl)))⟩ (RdT.flat (hs0.x.up 7 (by rfl))) (fun z hz=>(hs0.xD z hz).of_mem (mem_flat1 7 (by rfl))) (RdT.flat (hs0.y.up 7 (by rfl))) (fun z hz=>(hs0.yD z hz).of_mem (mem_flat1 7 (by rfl))) a0.flat) ?_
   rintro _ _ ⟨q0,v1,_,rfl,f1,e3,f3⟩
   have g3:=f3.unflat1
   have hn_q_130_pix:=f1.pix.len;have hl_q_130_pix:=f1.pix.le
   refine pu2<|sTl g3 4 (encPlane q0) sizeOf38 fun _ w1=>pu1<|zB<|retC w1 4 (encPlane q0) (I v1) (isAgg38 _) (sizeOf38 _) ?_
   exact ⟨(⟨q0.w,q0.h,q0.max_,⟨q0.pix.a,q0.pix.n,q0.pix.k,q0.pix.l⟩⟩:Plane),v1,_,rfl,⟨f1.pix⟩,(by rw [<-hu9,stg_k3 hP (show (ofV s0.v (shpOf p.v) (shpOf u9.v)).2=0 from n0) (show s0.v.kind=3 by simp only [Stage.v];omega)];exact e3),(w1.drops [1,1,1,1,1,1,1])⟩
  refine sR<|pu2<|nT<|cE s0.kind 4 (fun i3=>?_) (fun i3=>?_)
  ·refine sR<|lA a0 5 0 4 (isAgg38 _) (sizeOf38 _)<|pu1<|sL a0 6 15 (I s0.bins) (isAgg3 _)<|cX call92 (p12_whole p s0.bins ⟨(RdT.flat (hp.pix.up 7 (by rfl)))⟩ a0.flat) ?_
   rintro _ _ ⟨r0,x1,_,rfl,g1,j3,k3⟩
   have l3:=k3.unflat1
   have hn_q_142_pix:=g1.pix.len;have hl_q_142_pix:=g1.pix.le
   refine pu2<|sTl l3 4 (encPlane r0) sizeOf38 fun _ y1=>pu1<|zB<|retC y1 4 (encPlane r0) (I x1) (isAgg38 _) (sizeOf38 _) ?_
   exact ⟨(⟨r0.w,r0.h,r0.max_,⟨r0.pix.a,r0.pix.n,r0.pix.k,r0.pix.l⟩⟩:Plane),x1,_,rfl,⟨g1.pix⟩,(by rw [<-hu9,stg_k4 hP (show (ofV s0.v (shpOf p.v) (shpOf u9.v)).2=0 from n0) (show s0.v.kind=4 by simp only [Stage.v];omega)];exact j3),(y1.drops [1,1,1,1,1,1,1])⟩
  refine sR<|pu2<|nT<|cE s0.kind 5 (fun n3=>?_) (fun n3=>?_)
  ·refine sR<|lA a0 5 0 4 (isAgg38 _) (sizeOf38 _)<|cX call93 (p13_whole p ⟨(RdT.flat (hp.pix.up 7 (by rfl)))⟩ a0.flat) ?_
   rintro _ _ ⟨t0,z1,_,rfl,h1,o3,p3⟩
   have q3:=p3.unflat1
   have hn_q_154_pix:=h1.pix.len;have hl_q_154_pix:=h1.pix.le
   refine pu2<|sTl q3 4 (encPlane t0) sizeOf38 fun _ a2=>pu1<|zB<|retC a2 4 (encPlane t0) (I z1) (isAgg38 _) (sizeOf38 _) ?_
   exact ⟨(⟨t0.w,t0.h,t0.max_,⟨t0.pix.a,t0.pix.n,t0.pix.k,t0.pix.l⟩⟩:Plane),z1,_,rfl,⟨h1.pix⟩,(by rw [<-hu9,stg_k5 hP (show (ofV s0.v (shpOf p.v) (shpOf u9.v)).2=0 from n0) (show s0.v.kind=5 by simp only [Stage.v];omega)];exact o3),(a2.drops [1,1,1,1,1,1,1])⟩
  refine sR<|pu2<|nT<|cE s0.kind 6 (fun s3=>?_) (fun s3=>?_)
  rotate_left
  ·refine skipE<|bN<|tN<|sR<|pu1<|sTl a0 3 [I 0,I 0,I 0,nS] sizeOf38 fun _ b2=>pu1<|zE<|retC b2 3 [I 0,I 0,I 0,nS] (I 1) (isAgg38 _) (sizeOf38 _) ?_
   have t3:=(b2.drops [0,0,0,0,0,0,0])
   have u3:Sat W _ ([]::H::F):=Sat.nilc t3
   exact ⟨(⟨0,0,0,⟨none,0,0,[]⟩⟩:Plane),1,_,rfl,⟨RdT.nil (enc:=Go.E.encI) (sz:=1) fR [[]]⟩,(by exfalso;have hf:=of_kind (show (ofV s0.v (shpOf p.v) (shpOf u9.v)).2=0 from n0);unfold fieldsP at hf;simp only [Stage.v] at hf;omega),u3⟩
  refine sR<|lA a0 5 0 4 (isAgg38 _) (sizeOf38 _)<|lA a0 4 0 4 (isAgg38 _) (sizeOf38 _)<|pu2<|sL a0 6 16 (.slice s0.ops.a s0.ops.n s0.ops.k) (isAgg51 _)<|pu1<|sL a0 6 17 (I s0.max_) (isAgg3 _)<|lA a0 0 0 4 (isAgg45 _) (sizeOf45 _)<|cX call94 (p14_tile p u9 (((w0:Int):Int)==2) s0.ops.a s0.ops.n s0.ops.k s0.ops.l s0.max_ (⟨0,0,(ofV s0.v (⟨p.w,p.h,p.max_⟩:Shape) (⟨u9.w,u9.h,u9.max_⟩:Shape)).1.w,(ofV s0.v (⟨p.w,p.h,p.max_⟩:Shape) (⟨u9.w,u9.h,u9.max_⟩:Shape)).1.h⟩:Rct) ⟨(RdT.flat (hp.pix.up 7 (by rfl)))⟩ ⟨(RdT.flat (ho9.pix.up 7 (by rfl)))⟩ (RdT.flat (hs0.ops.up 7 (by rfl))) a0.flat) ?_
  rintro _ _ ⟨v0,c2,_,rfl,i1,v3,w3⟩
  have x3:=w3.unflat1
  have hn_q_166_pix:=i1.pix.len;have hl_q_166_pix:=i1.pix.le
  refine pu2<|sTl x3 4 (encPlane v0) sizeOf38 fun _ d2=>pu1<|zB<|retC d2 4 (encPlane v0) (I c2) (isAgg38 _) (sizeOf38 _) ?_
  have hdt:(((w0:Int):Int)==2)=decide (twoP s0.v):=by rw [Bool.eq_iff_iff,decide_eq_true_eq,<-srcs_two];simp only [beq_iff_eq];omega
  exact ⟨(⟨v0.w,v0.h,v0.max_,⟨v0.pix.a,v0.pix.n,v0.pix.k,v0.pix.l⟩⟩:Plane),c2,_,rfl,⟨i1.pix⟩,(by rw [<-hu9,stg_k6 hP (show (ofV s0.v (shpOf p.v) (shpOf u9.v)).2=0 from n0) (show s0.v.kind=6 by simp only [Stage.v];omega),<-hdt];exact v3),(d2.drops [1,1,1,1,1,1,1])⟩
 refine drawP [2,4,5,9,10] [(0,⟨d0,0,none⟩,I s0.kind),(0,⟨d0,1,none⟩,I s0.a),(0,⟨d0,2,none⟩,I s0.b),(0,⟨d0,3,none⟩, .bool s0.barrier),(0,⟨d0,4,none⟩,I s0.edgePolicy),(0,⟨d0,5,none⟩,I s0.edgeFill),(0,⟨d0,6,none⟩,I s0.kW),(0,⟨d0,7,none⟩,I s0.kH),(0,⟨d0,8,none⟩, .slice s0.weights.a s0.weights.n s0.weights.k),(0,⟨d0,9,none⟩, .slice s0.row.a s0.row.n s0.row.k),(0,⟨d0,10,none⟩, .slice s0.col.a s0.col.n s0.col.k),(0,⟨d0,11,none⟩,I s0.shift),(0,⟨d0,12,none⟩,I s0.shift2),(0,⟨d0,13,none⟩, .slice s0.x.a s0.x.n s0.x.k),(0,⟨d0,14,none⟩, .slice s0.y.a s0.y.n s0.y.k),(0,⟨d0,15,none⟩,I s0.bins),(0,⟨d0,16,none⟩, .slice s0.ops.a s0.ops.n s0.ops.k),(0,⟨d0,17,none⟩,I s0.max_),(1,⟨l0,0,none⟩,I p.w),(1,⟨l0,1,none⟩,I p.h),(1,⟨l0,2,none⟩,I p.max_),(1,⟨l0,3,none⟩, .slice p.pix.a p.pix.n p.pix.k),(3,⟨m0,0,none⟩,I u9.w),(3,⟨m0,1,none⟩,I u9.h),(3,⟨m0,2,none⟩,I u9.max_),(3,⟨m0,3,none⟩, .slice u9.pix.a u9.pix.n u9.pix.k)] (Plan.sts [0]<|Plan.sts [1]<|Plan.sts [3]<| .fk 2 9 (.fk 4 9 (.fk 5 9 (Plan.sts [6]<|Plan.sts [7]<|Plan.sts [8]<| .ef 9<| .ef 10<|Plan.sts [11]<| .fin) (.ef 5<|Plan.sts [6]<|Plan.sts [7]<|Plan.sts [8]<| .ef 10<|Plan.sts [11]<| .fin)) (.ef 4<| .ef 5<|Plan.sts [6]<|Plan.sts [7]<|Plan.sts [8]<| .ef 10<|Plan.sts [11]<| .fin)) (.ef 2<| .ef 4<| .ef 5<|Plan.sts [6]<|Plan.sts [7]<|Plan.sts [8]<| .ef 10<|Plan.sts [11]<| .fin)) rfl kr ⟨cI b0 4,cI b0 4,cI b0 4,cI b0 4,cI b0 4,cI b0 4,cI b0 4,cI b0 4,cI b0 4,cI b0 4,cI b0 4,cI b0 4,cI b0 4,cI b0 4,cI b0 4,cI b0 4,cI b0 4,cI b0 4,cI b0 3,cI b0 3,cI b0 3,cI b0 3,cI b0 2,cI b0 2,cI b0 2,cI b0 2,trivial⟩ ?_
 have e2:=b0.drew
 refine qY (.agg (encStage s0).toArray) rfl (fun w hF=>Y_loadF rfl (isAgg53 w) (sizeOf53 w) kr rfl ⟨hF 0 _ _ rfl,hF 1 _ _ rfl,hF 2 _ _ rfl,hF 3 _ _ rfl,hF 4 _ _ rfl,hF 5 _ _ rfl,hF 6 _ _ rfl,hF 7 _ _ rfl,hF 8 _ _ rfl,hF 9 _ _ rfl,hF 10 _ _ rfl,hF 11 _ _ rfl,hF 12 _ _ rfl,hF 13 _ _ rfl,hF 14 _ _ rfl,hF 15 _ _ rfl,hF 16 _ _ rfl,hF 17 _ _ rfl,trivial⟩)<|qY (.agg (encPlane p).toArray) rfl (fun w hF=>Y_loadF rfl (isAgg38 w) (sizeOf38 w) kr rfl ⟨hF 18 _ _ rfl,hF 19 _ _ rfl,hF 20 _ _ rfl,hF 21 _ _ rfl,trivial⟩) ?_
 refine qY (.agg (encPlane u9).toArray) rfl (fun w hF=>Y_loadF rfl (isAgg38 w) (sizeOf38 w) kr rfl ⟨hF 22 _ _ rfl,hF 23 _ _ rfl,hF 24 _ _ rfl,hF 25 _ _ rfl,trivial⟩)<|qF ?_ ?_
 rotate_left
 ·refine qO rfl<|sAlloc e2 zeroValue65 fun z3 _ c0=>nilO ⟨⟨cI c0 5,cI c0 5,cI c0 5,cI c0 5,cI c0 5,cI c0 5,cI c0 5,cI c0 5,cI c0 5,cI c0 5,cI c0 5,cI c0 5,cI c0 5,cI c0 5,cI c0 5,cI c0 5,cI c0 5,cI c0 5,cI c0 4,cI c0 4,cI c0 4,cI c0 4,cI c0 3,cI c0 3,cI c0 3,cI c0 3,trivial⟩,?_⟩
  refine qO rfl<|cR call88 (p18_shape p ⟨(RdT.flat (hp.pix.up 6 (by rfl)))⟩ c0.flat) fun _ f0=>nilO ⟨⟨cI f0 5,cI f0 5,cI f0 5,cI f0 5,cI f0 5,cI f0 5,cI f0 5,cI f0 5,cI f0 5,cI f0 5,cI f0 5,cI f0 5,cI f0 5,cI f0 5,cI f0 5,cI f0 5,cI f0 5,cI f0 5,dI,dI,dI,dI,cI f0 3,cI f0 3,cI f0 3,cI f0 3,trivial⟩,?_⟩
  refine qO rfl<|cR call88 (p18_shape u9 ⟨(RdT.flat (ho9.pix.up 6 (by rfl)))⟩ f0.flat) fun _ i0=>nilO ⟨⟨cI i0 5,cI i0 5,cI i0 5,cI i0 5,cI i0 5,cI i0 5,cI i0 5,cI i0 5,cI i0 5,cI i0 5,cI i0 5,cI i0 5,cI i0 5,cI i0 5,cI i0 5,cI i0 5,cI i0 5,cI i0 5,dI,dI,dI,dI,dI,dI,dI,dI,trivial⟩,?_⟩
  refine qO rfl<|cR call87 (p15_of s0 (⟨p.w,p.h,p.max_⟩:Shape) (⟨u9.w,u9.h,u9.max_⟩:Shape) (hs0.of_mem (mem_flat1 6 (by rfl))) i0.flat) fun _ a4=>nilO ⟨dA,?_⟩
  refine qU [6]<|qU [7]<|qU [8]<|qO rfl<|sTl a4 0 [I ((ofV s0.v (⟨p.w,p.h,p.max_⟩:Shape) (⟨u9.w,u9.h,u9.max_⟩:Shape)).1.w),I ((ofV s0.v (⟨p.w,p.h,p.max_⟩:Shape) (⟨u9.w,u9.h,u9.max_⟩:Shape)).1.h),I ((ofV s0.v (⟨p.w,p.h,p.max_⟩:Shape) (⟨u9.w,u9.h,u9.max_⟩:Shape)).1.max_)] sizeOf65 fun _ b4=>nilO ⟨dA,?_⟩
  exact qU [11]<|qN<|tN<|⟨z3,alA,b4⟩
 refine qO rfl<|cR call88 (p18_shape p ⟨(RdT.flat (hp.pix.up 5 (by rfl)))⟩ e2.flat) fun _ e0=>nilO ⟨⟨cI e0 4,cI e0 4,cI e0 4,cI e0 4,cI e0 4,cI e0 4,cI e0 4,cI e0 4,cI e0 4,cI e0 4,cI e0 4,cI e0 4,cI e0 4,cI e0 4,cI e0 4,cI e0 4,cI e0 4,cI e0 4,dI,dI,dI,dI,cI e0 2,cI e0 2,cI e0 2,cI e0 2,trivial⟩,?_⟩
 refine qF ?_ ?_
 rotate_left
 ·refine qO rfl<|sAlloc e0 zeroValue65 fun c4 _ g0=>nilO ⟨⟨cI g0 5,cI g0 5,cI g0 5,cI g0 5,cI g0 5,cI g0 5,cI g0 5,cI g0 5,cI g0 5,cI g0 5,cI g0 5,cI g0 5,cI g0 5,cI g0 5,cI g0 5,cI g0 5,cI g0 5,cI g0 5,dI,dI,dI,dI,cI g0 3,cI g0 3,cI g0 3,cI g0 3,trivial⟩,?_⟩
  refine qO rfl<|cR call88 (p18_shape u9 ⟨(RdT.flat (ho9.pix.up 6 (by rfl)))⟩ g0.flat) fun _ j0=>nilO ⟨⟨cI j0 5,cI j0 5,cI j0 5,cI j0 5,cI j0 5,cI j0 5,cI j0 5,cI j0 5,cI j0 5,cI j0 5,cI j0 5,cI j0 5,cI j0 5,cI j0 5,cI j0 5,cI j0 5,cI j0 5,cI j0 5,dI,dI,dI,dI,dI,dI,dI,dI,trivial⟩,?_⟩
  refine qO rfl<|cR call87 (p15_of s0 (⟨p.w,p.h,p.max_⟩:Shape) (⟨u9.w,u9.h,u9.max_⟩:Shape) (hs0.of_mem (mem_flat1 6 (by rfl))) j0.flat) fun _ d4=>nilO ⟨dA,?_⟩
  refine qU [6]<|qU [7]<|qU [8]<|qO rfl<|sTl d4 0 [I ((ofV s0.v (⟨p.w,p.h,p.max_⟩:Shape) (⟨u9.w,u9.h,u9.max_⟩:Shape)).1.w),I ((ofV s0.v (⟨p.w,p.h,p.max_⟩:Shape) (⟨u9.w,u9.h,u9.max_⟩:Shape)).1.h),I ((ofV s0.v (⟨p.w,p.h,p.max_⟩:Shape) (⟨u9.w,u9.h,u9.max_⟩:Shape)).1.max_)] sizeOf65 fun _ e4=>nilO ⟨dA,?_⟩
  exact qU [11]<|qN<|tN<|⟨c4,alA,e4⟩
 refine qO rfl<|cR call88 (p18_shape u9 ⟨(RdT.flat (ho9.pix.up 5 (by rfl)))⟩ e0.flat) fun _ h0=>nilO ⟨⟨cI h0 4,cI h0 4,cI h0 4,cI h0 4,cI h0 4,cI h0 4,cI h0 4,cI h0 4,cI h0 4,cI h0 4,cI h0 4,cI h0 4,cI h0 4,cI h0 4,cI h0 4,cI h0 4,cI h0 4,cI h0 4,dI,dI,dI,dI,dI,dI,dI,dI,trivial⟩,?_⟩
 refine qF ?_ ?_
 ·refine qO rfl<|cR call87 (p15_of s0 (⟨p.w,p.h,p.max_⟩:Shape) (⟨u9.w,u9.h,u9.max_⟩:Shape) (hs0.of_mem (mem_flat1 5 (by rfl))) h0.flat) fun _ f4=>nilO ⟨dA,?_⟩
  refine qU [6]<|qU [7]<|qU [8]<|qO rfl<|sAlloc f4 zeroValue65 fun g4 _ h4=>nilO ⟨dA,?_⟩
  refine qO rfl<|sTl h4 0 [I ((ofV s0.v (⟨p.w,p.h,p.max_⟩:Shape) (⟨u9.w,u9.h,u9.max_⟩:Shape)).1.w),I ((ofV s0.v (⟨p.w,p.h,p.max_⟩:Shape) (⟨u9.w,u9.h,u9.max_⟩:Shape)).1.h),I ((ofV s0.v (⟨p.w,p.h,p.max_⟩:Shape) (⟨u9.w,u9.h,u9.max_⟩:Shape)).1.max_)] sizeOf65 fun _ i4=>nilO ⟨dA,?_⟩
  exact qU [11]<|qN<|tN<|⟨g4,alA,i4⟩
 refine qO rfl<|sAlloc h0 zeroValue65 fun j4 _ k0=>nilO ⟨⟨cI k0 5,cI k0 5,cI k0 5,cI k0 5,cI k0 5,cI k0 5,cI k0 5,cI k0 5,cI k0 5,cI k0 5,cI k0 5,cI k0 5,cI k0 5,cI k0 5,cI k0 5,cI k0 5,cI k0 5,cI k0 5,dI,dI,dI,dI,dI,dI,dI,dI,trivial⟩,?_⟩
 refine qO rfl<|cR call87 (p15_of s0 (⟨p.w,p.h,p.max_⟩:Shape) (⟨u9.w,u9.h,u9.max_⟩:Shape) (hs0.of_mem (mem_flat1 6 (by rfl))) k0.flat) fun _ k4=>nilO ⟨dA,?_⟩
 refine qU [6]<|qU [7]<|qU [8]<|qO rfl<|sTl k4 0 [I ((ofV s0.v (⟨p.w,p.h,p.max_⟩:Shape) (⟨u9.w,u9.h,u9.max_⟩:Shape)).1.w),I ((ofV s0.v (⟨p.w,p.h,p.max_⟩:Shape) (⟨u9.w,u9.h,u9.max_⟩:Shape)).1.h),I ((ofV s0.v (⟨p.w,p.h,p.max_⟩:Shape) (⟨u9.w,u9.h,u9.max_⟩:Shape)).1.max_)] sizeOf65 fun _ l4=>nilO ⟨dA,?_⟩
 exact qU [11]<|qN<|tN<|⟨j4,alA,l4⟩
theorem p18_of (p:Job) (hp:Job.Ok [H] p) (hb:p.inputs.n<=1000000/\p.stages.n<=1000000/\p.outputs.n<=1000000) (hS:Sat W w (H::F)):
  Calls prog 35 #[.agg (encJob p).toArray] w fun e w'=>∃(az:Option Addr) (nz kz:Nat) (zs:List Plane) (c:Int) (G:Chunk),e= .returned (.tuple #[.slice az nz kz,I c])/\RdT encPlane 4 [G] az nz kz zs/\(∀z∈zs,Plane.Ok [G] z)/\(zs.map Plane.v,c)=(meanV p.v,(shpV p.v).2.2)/\Sat W w' (G::H::F):=by
 have hl_p_inputs:=hp.inputs.le;have hn_p_inputs:=hp.inputs.len
 have hl_p_stages:=hp.stages.le;have hn_p_stages:=hp.stages.len
 have hl_p_outputs:=hp.outputs.le;have hn_p_outputs:=hp.outputs.len
 have hmi:(p.inputs.l.map Plane.v).length=p.inputs.n:=by simp [hn_p_inputs]
 have hms:(p.stages.l.map Stage.v).length=p.stages.n:=by simp [hn_p_stages]
 refine callsA 102 func35 rfl ?_
 refine sR ?_
 refine sBox hS (.agg (encJob p).toArray) (encJob p).toArray ?_
 intro c0 _ k1
 refine pu2<|zQ ?_
 refine lA k1 0 0 4 (isAgg28 _) (sizeOf28 _) ?_
 refine cR call83 (p17_check p (hp.of_mem (mem_flat1 1 (by rfl))) (od) k1.flat) ?_
 intro _ v0
 refine pu5<|zS<|pu2<|nT ?_
 refine cN ((shpV p.v).2.2) 0 (fun s1=>?_) (fun s1=>?_)
 rotate_left
 ·refine sR<|pu3<|zR<|retT [nS,I ((shpV p.v).2.2)] ?_
  have t1:=(v0.dropAt 0 rfl)
  have u1:Sat W _ ([]::H::F):=Sat.nilc t1
  exact ⟨none,0,0,[],((shpV p.v).2.2),_,rfl,RdT.nil (enc:=encPlane) (sz:=4) fR [[]],(fun z hz=>by cases hz),(by unfold meanV;rw [if_neg om];rfl),u1⟩
 refine kS ?_
 refine lA v0 0 0 4 (isAgg28 _) (sizeOf28 _) ?_
 refine cX call84 (p17_order p (hp.of_mem (mem_flat1 1 (by rfl))) (od) v0.flat) ?_
 rintro _ _ ⟨l1,q0,m1,d0,rfl,w0,v1⟩
 have r0:=v1.unflat1
 have hn_az_11:=w0.len;have hl_az_11:=w0.le
 refine pu5<|zQ<|pu2<|nT ?_
 refine cN ((ordV p.v).2) 0 (fun w1=>?_) (fun w1=>?_)
 rotate_left
 ·refine sR<|pu3<|zR<|retT [nS,I ((ordV p.v).2)] ?_
  have x1:=(r0.drops [0,0])
  have y1:Sat W _ ([]::H::F):=Sat.nilc x1
  exact ⟨none,0,0,[],((ordV p.v).2),_,rfl,RdT.nil (enc:=encPlane) (sz:=4) fR [[]],(fun z hz=>by cases hz),(by exfalso;have h:=(shp_ok (show (shpV p.v).2.2=0 by omega)).od;omega),y1⟩
 refine kT<|seqE ?_
 have hz0:(shpV p.v).2.2=0:=om;have hso:=shp_ok hz0;have hnn:=hso.nn;have hall:=chk_all hso.ch;have hrng:=hso.rng;have hln:=hso.ln
 have hvi:p.v.inputs.length=p.inputs.n:=hmi;have hvs:p.v.stages.length=p.stages.n:=hms;rw [hvi,hvs] at hnn hall hrng;rw [hvs] at hln
 refine rE<|pu1 ?_
 refine sL r0 1 0 (.slice p.inputs.a p.inputs.n p.inputs.k) (isAgg25 _) ?_
 refine pu2<|zS<|pu2 ?_
 refine sL r0 1 1 (.slice p.stages.a p.stages.n p.stages.k) (isAgg26 _) ?_
 refine pu1 ?_
 refine sAdd (p.inputs.n:Int) (p.stages.n:Int) ?_
 refine sMake (kl:= .i64) (kc:= .i64) (enc:=encPlane) (sz:=4) (nb:=48) r0 ⟨0,0,0,⟨none,0,0,[]⟩⟩ (((p.inputs.n:Int)+(p.stages.n:Int))).toNat ((p.inputs.n:Int)+(p.stages.n:Int)) (om:((p.inputs.n:Int)+(p.stages.n:Int))=(((((p.inputs.n:Int)+(p.stages.n:Int))).toNat:Nat):Int)) underlying25 (i:=Tryz.t38) kr fR ?_
 intro z1 a2 _ b2 c2
 refine pu1<|nT<|seqE<|seqE ?_
 have n1:=Sat.nilc c2
 refine rE<|pu1 ?_
 refine sL n1 3 0 (.slice p.inputs.a p.inputs.n p.inputs.k) (isAgg25 _) ?_
 refine pu2<|nT<|blockE ?_
 have d2:=(n1.pick 1 rfl)
 have e2:=(d2.pick 1 rfl)
 refine loopA (γ:=Nat×(List Plane)×(Option Addr)×Nat×Nat×Chunk×Chunk) (fun ⟨i,zs,azs,nzs,kzs,czs,Gzs⟩=>[(1,Pt c0 0),(6, .slice l1 q0 m1),(8,I (p.inputs.n:Int)),(45, .slice p.inputs.a p.inputs.n p.inputs.k),(46,I (p.inputs.n:Int)),(47,I (i:Int)),(9, .slice azs nzs kzs)]) (fun ⟨i,zs,azs,nzs,kzs,czs,Gzs⟩ w=>Sat W w (Gzs::czs::d0::[(c0, .cells (encJob p).toArray 28 (0,0))]::H::F)/\i<=p.inputs.n/\(zs.length=(p.inputs.n+p.stages.n))/\(zs.map Plane.v=(p.inputs.l.take i).map Plane.v++List.replicate ((p.inputs.n+p.stages.n)-i) zPl)/\OwnT encPlane 38 4 azs nzs kzs zs czs/\(∀z∈zs,Plane.Ok [Gzs] z)) (fun ⟨i,zs,azs,nzs,kzs,czs,Gzs⟩=>p.inputs.n-i) (0,(List.replicate (((p.inputs.n:Int)+(p.stages.n:Int))).toNat ⟨0,0,0,⟨none,0,0,[]⟩⟩),(At z1 0),(((p.inputs.n:Int)+(p.stages.n:Int))).toNat,(((p.inputs.n:Int)+(p.stages.n:Int))).toNat,a2,[]) ⟨e2,om,(by rw [List.length_replicate];omega),(by rw [List.map_replicate,show ((p.inputs.n:Int)+(p.stages.n:Int)).toNat=(p.inputs.n+p.stages.n) by omega];rfl),b2,(fun z hz=>by rw [List.eq_of_mem_replicate hz];exact ⟨RdT.nil (enc:=Go.E.encI) (sz:=1) fR _⟩)⟩ ?_
 rintro ⟨i,zs,azs,nzs,kzs,czs,Gzs⟩ ρ _ ⟨x0,hi,hml,hmv,hOzs,hDzs⟩
 have hn_zs:=hOzs.len;have hl_zs:=hOzs.le
 refine sR<|pu1<|nT<|seqE ?_
 refine cD ((i:Int)<(p.inputs.n:Int)) (fun f2=>?_) (fun f2=>?_)
 ·refine kT<|seqE<|blockE<|sR<|pu1 ?_
  refine sIdx hp.inputs (i:Int) runUnderlying25 sizeOf38 ?_
  intro h0 _ _ l0 g2
  rw [Int.toNat_natCast] at l0
  have hpn:=plane_sz (shp_in hz0 (map_at (f:=Plane.v) l0)).1
  have hpn2:h0.pix.n<=100000:=by have h:=hpn.2.1;have h2:=hpn.1;unfold sizeP at h2;simp only [Plane.v] at h h2;have h3:=(hp.inputsD h0 (List.mem_of_getElem? l0)).pix.len;omega
  refine sLpA x0 (g2.up 4 rfl) 0 (encPlane h0) (isAgg38 _) (sizeOf38 _) ?_
  refine sAlloc x0 zeroValue38 ?_
  intro _ _ i2
  refine pu1 ?_
  refine sTl i2 0 (encPlane h0) sizeOf38 ?_
  intro _ o1
  refine nT<|rE<|pu2 ?_
  refine lA o1 0 0 4 (isAgg38 _) (sizeOf38 _) ?_
  refine cX call85 (p18_dup h0 ⟨(RdT.flat ((hp.inputsD h0 (List.mem_of_getElem? l0)).pix.up 5 (by rfl)))⟩ (od) o1.flat) ?_
  rintro _ _ ⟨s0,y0,rfl,z0,j2,k2⟩
  have l2:=k2.unflat1
  have hn_q_41_pix:=z0.pix.len;have hl_q_41_pix:=z0.pix.le
  refine sIdxO hOzs (i:Int) i runUnderlying25 sizeOf38 ?_
  intro m2 _ _ n2 _ o2
  refine sStF l2 hOzs o2 3 i 0 m2 s0 n2 (.agg (encPlane s0).toArray) (encPlane s0) sizeOf38 ?_
  intro _ a1 p2 q2
  refine nB<|rE ?_
  refine sAdd (i:Int) 1 ?_
  refine pu1<|nT ?_
  have r2:=(q2.dropAt 1 rfl)
  exact ⟨(i+1,(zs.set i s0),azs,nzs,kzs,a1,(y0++Gzs)),od,alA,(Sat.perm (cs':=(y0++Gzs)::(a1::d0::[(c0, .cells (encJob p).toArray 28 (0,0))]::H::F)) (show Sat W _ (y0::Gzs::a1::d0::[(c0, .cells (encJob p).toArray 28 (0,0))]::H::F) from r2) (by simp)),om,(by rw [List.length_set];exact hml),(by rw [List.map_set,hmv,fill_setG (by rw [List.length_map,List.length_take];omega) om,List.take_add_one,l0,Option.toList_some,List.map_append,j2];rfl),p2,(mem_set (fun z hz=>(hDzs z hz).of_mem mS) (z0.of_mem mS))⟩
 refine exitE<|xB<|tN<|seqE<|sR<|pu3<|nT<|blockE ?_
 have t2:=(x0.pick 1 rfl)
 have u2:=(t2.pick 1 rfl)
 refine loopA (γ:=Nat×(List Plane)×(Option Addr)×Nat×Nat×Chunk×Chunk) (fun ⟨i,zt,azt,nzt,kzt,czt,Gzt⟩=>[(1,Pt c0 0),(8,I (p.inputs.n:Int)),(58, .slice l1 q0 m1),(59,I (q0:Int)),(60,I (i:Int)),(9, .slice azt nzt kzt)]) (fun ⟨i,zt,azt,nzt,kzt,czt,Gzt⟩ w=>Sat W w (Gzt::czt::d0::[(c0, .cells (encJob p).toArray 28 (0,0))]::H::F)/\i<=p.stages.n/\(zt.length=(p.inputs.n+p.stages.n))/\(zt.map Plane.v=meanG (p.inputs.n:Int) (p.stages.l.map Stage.v) ((ordV p.v).1.take i) (meanI p.v))/\OwnT encPlane 38 4 azt nzt kzt zt czt/\(∀z∈zt,Plane.Ok [Gzt] z)) (fun ⟨i,zt,azt,nzt,kzt,czt,Gzt⟩=>p.stages.n-i) (0,zs,azs,nzs,kzs,czs,Gzs) ⟨u2,om,hml,(by rw [hmv,show i=p.inputs.n by omega,List.take_of_length_le om,show (p.inputs.n+p.stages.n)-p.inputs.n=p.stages.n by omega];unfold meanI;rw [hvs];rfl),hOzs,hDzs⟩ ?_
 rintro ⟨i,zt,azt,nzt,kzt,czt,Gzt⟩ ρ _ ⟨m0,hi,hml2,hmv2,hOzt,hDzt⟩
 have hn_zt:=hOzt.len;have hl_zt:=hOzt.le
 refine sR<|pu1<|nT<|seqE ?_
 refine cD ((i:Int)<(q0:Int)) (fun v2=>?_) (fun v2=>?_)
 rotate_left
 ·refine exitE<|xB<|tN<|sR<|pu3<|zE<|retT [.slice azt nzt kzt,I 0] ?_
  have w2:=(m0.drops [2,2])
  have x2:Sat W _ ((Gzt++czt)::H::F):=Sat.perm w2 (by simp)
  exact ⟨azt,nzt,kzt,zt,0,_,rfl,(hOzt.rd mS),(fun z hz=>(hDzt z hz).of_mem mS),(by rw [hmv2,show i=p.stages.n by omega,List.take_of_length_le om,show (shpV p.v).2.2=0 from hz0];unfold meanV;rw [if_pos hz0,hvi];rfl),x2⟩
 refine kT<|seqE<|blockE<|sR ?_
 refine sIdxO w0 (i:Int) i runUnderlying22 sizeOf3 ?_
 intro b0 _ _ n0 y2 _
 have hnr:=hrng b0 (List.mem_of_getElem? n0)
 refine sLp m0 (y2.up 2 rfl) 0 (I b0) (isAgg3 _) ?_
 refine pu1<|zS<|pu1 ?_
 refine sL m0 3 1 (.slice p.stages.a p.stages.n p.stages.k) (isAgg26 _) ?_
 refine pu2 ?_
 refine sSub b0 (p.inputs.n:Int) ?_
 refine sIdx hp.stages (b0-(p.inputs.n:Int)) runUnderlying26 sizeOf53 ?_
 intro a0 _ _ o0 z2
 have hst:=stgAt_map (ni:=(p.inputs.n:Int)) o0;have hsm:a0.v∈p.v.stages:=List.mem_map_of_mem (List.mem_of_getElem? o0);have hsa:=hall.1 _ hsm _ (srcs_a _);simp only [Stage.v] at hsa
 refine sLpA m0 (z2.up 4 rfl) 0 (encStage a0) (isAgg53 _) (sizeOf53 _) ?_
 refine sAlloc m0 zeroValue53 ?_
 intro _ _ a3
 refine sTl a3 0 (encStage a0) sizeOf53 ?_
 intro _ b1
 refine zS<|pu2 ?_
 refine sL b1 0 1 (I a0.a) (isAgg3 _) ?_
 refine sIdxO hOzt a0.a (a0.a).toNat runUnderlying25 sizeOf38 ?_
 intro i0 _ _ t0 b3 _
 refine sLpA b1 (b3.up 2 rfl) 0 (encPlane i0) (isAgg38 _) (sizeOf38 _) ?_
 refine pu1 ?_
 refine sAlloc b1 zeroValue38 ?_
 intro _ _ c3
 refine sAlloc c3 zeroValue38 ?_
 intro _ _ d3
 refine sTl d3 1 (encPlane i0) sizeOf38 ?_
 intro _ e3
 refine sTl e3 0 [I 0,I 0,I 0,nS] sizeOf38 ?_
 intro _ p1
 refine zQ ?_
 refine lA p1 2 0 18 (isAgg53 _) (sizeOf53 _) ?_
 refine cX call59 (p15_sources a0 ((hp.stagesD a0 (List.mem_of_getElem? o0)).of_mem (mem_flat1 7 (by rfl))) p1.flat) ?_
 rintro _ _ ⟨_,f3,_,_,rfl,q1,g3⟩
 have e0:=g3.unflat1
 have hn_az_98:=q1.len;have hl_az_98:=q1.le
 have x5:1<=(srcs a0.v).length/\(srcs a0.v).length<=2:=srcs_len _
 refine pu2<|nT ?_
 refine cE (f3:Int) 2 (fun i3=>?_) (fun i3=>?_)
 rotate_left
 ·refine kS ?_
  refine lA e0 3 0 18 (isAgg53 _) (sizeOf53 _) ?_
  refine lA e0 2 0 4 (isAgg38 _) (sizeOf38 _) ?_
  refine lA e0 1 0 4 (isAgg38 _) (sizeOf38 _) ?_
  refine cX call40 (p18_stage a0 i0 (⟨0,0,0,⟨none,0,0,[]⟩⟩:Plane) ((hp.stagesD a0 (List.mem_of_getElem? o0)).of_mem (mem_flat1 8 (by rfl))) ⟨(RdT.flat ((hDzt i0 (List.mem_of_getElem? t0)).pix.up 4 (by rfl)))⟩ ⟨(RdT.nil (enc:=Go.E.encI) (sz:=1) fR _)⟩ e0.flat) ?_
  rintro _ _ ⟨f0,j0,c1,rfl,d1,j3,k3⟩
  have l3:=k3.unflat1
  have hn_q_144_pix:=d1.pix.len;have hl_q_144_pix:=d1.pix.le
  refine pu3 ?_
  refine sAlloc l3 zeroValue38 ?_
  intro _ _ m3
  refine sTl m3 0 (encPlane f0) sizeOf38 ?_
  intro _ e1
  refine pu1<|nT<|seqE<|seqE ?_
  have htw:¬twoP a0.v:=fun e=>by have:=srcs_two.2 e;omega
  have hms2:meanS (p.inputs.n:Int) (p.stages.l.map Stage.v) b0 (zt.map Plane.v)=(f0.v,j0):=by
   unfold meanS
   rw [hst,show a0.v.a=a0.a from rfl,plAt_map t0,show srcB a0.v (zt.map Plane.v)=(if twoP a0.v then (⟨0,0,0,⟨none,0,0,[]⟩⟩:Plane).v else zPl) from ?_]
   ·exact j3.symm
   ·unfold srcB;rw [if_neg htw,if_neg htw]
  have hmi2:=(mean_at hz0 i om).step hz0 n0;rw [hvi] at hmi2;have hm9:meanG (p.inputs.n:Int) (p.stages.l.map Stage.v) ((ordV p.v).1.take i) (meanI p.v)=zt.map Plane.v:=hmv2.symm
  have hc9:j0=0:=by have h:=hmi2.1;rw [show meanG (p.inputs.n:Int) p.v.stages ((ordV p.v).1.take i) (meanI p.v)=zt.map Plane.v from hm9,show meanS (p.inputs.n:Int) p.v.stages b0 (zt.map Plane.v)=(f0.v,j0) from hms2] at h;exact h
  refine rE<|pu2<|nT ?_
  refine cN j0 0 (fun n3=>?_) (fun n3=>?_)
  rotate_left
  ·refine sR<|pu3<|zE<|tR<|tK<|tR<|tK<|retT [nS,I j0] ?_
   have o3:=(e1.drops [0,0,0,0,0,0,0,0,0,0])
   have p3:Sat W _ ([]::H::F):=Sat.nilc o3
   exact ⟨none,0,0,[],j0,_,rfl,RdT.nil (enc:=encPlane) (sz:=4) fR [[]],(fun z hz=>by cases hz),(by exfalso;omega),p3⟩
  refine kT<|rE<|pu2 ?_
  refine lA e1 0 0 4 (isAgg38 _) (sizeOf38 _) ?_
  refine sIdxO hOzt b0 (b0).toNat runUnderlying25 sizeOf38 ?_
  intro q3 _ _ r3 _ s3
  refine sStF e1 hOzt s3 7 (b0).toNat 0 q3 f0 r3 (.agg (encPlane f0).toArray) (encPlane f0) sizeOf38 ?_
  intro _ f1 t3 u3
  refine nB<|rE ?_
  refine sAdd (i:Int) 1 ?_
  refine pu1<|nT ?_
  have v3:=(u3.drops [0,1,1,1,1])
  exact ⟨(i+1,(zt.set ((b0).toNat) f0),azt,nzt,kzt,f1,(c1++Gzt)),od,alA,(Sat.perm (cs':=(c1++Gzt)::(f1::d0::[(c0, .cells (encJob p).toArray 28 (0,0))]::H::F)) (show Sat W _ (c1::Gzt::f1::d0::[(c0, .cells (encJob p).toArray 28 (0,0))]::H::F) from v3) (by simp)),om,(by rw [List.length_set];exact hml2),(by rw [List.map_set,hmv2,meanG_succ n0,<-hmv2,hms2]),t3,(mem_set (fun z hz=>(hDzt z hz).of_mem mS) (d1.of_mem mS))⟩
 have htw:=(srcs_two (s:=a0.v)).1 om;have hsb:=hall.1 _ hsm _ (srcs_b htw);simp only [Stage.v] at hsb
 refine rE<|pu2 ?_
 refine sL e0 3 2 (I a0.b) (isAgg3 _) ?_
 refine sIdxO hOzt a0.b (a0.b).toNat runUnderlying25 sizeOf38 ?_
 intro p0 _ _ r1 x3 _
 refine sLpA e0 (x3.up 5 rfl) 0 (encPlane p0) (isAgg38 _) (sizeOf38 _) ?_
 refine sTl e0 1 (encPlane p0) sizeOf38 ?_
 intro _ u0
 refine zS ?_
 refine lA u0 3 0 18 (isAgg53 _) (sizeOf53 _) ?_
 refine lA u0 2 0 4 (isAgg38 _) (sizeOf38 _) ?_
 refine lA u0 1 0 4 (isAgg38 _) (sizeOf38 _) ?_
 refine cX call40 (p18_stage a0 i0 p0 ((hp.stagesD a0 (List.mem_of_getElem? o0)).of_mem (mem_flat1 8 (by rfl))) ⟨(RdT.flat ((hDzt i0 (List.mem_of_getElem? t0)).pix.up 4 (by rfl)))⟩ ⟨(RdT.flat ((hDzt p0 (List.mem_of_getElem? r1)).pix.up 4 (by rfl)))⟩ u0.flat) ?_
 rintro _ _ ⟨g0,k0,g1,rfl,h1,y3,z3⟩
 have a4:=z3.unflat1
 have hn_q_116_pix:=h1.pix.len;have hl_q_116_pix:=h1.pix.le
 refine pu3 ?_
 refine sAlloc a4 zeroValue38 ?_
 intro _ _ b4
 refine sTl b4 0 (encPlane g0) sizeOf38 ?_
 intro _ i1
 refine pu1<|nT<|seqE<|seqE ?_
 have hms2:meanS (p.inputs.n:Int) (p.stages.l.map Stage.v) b0 (zt.map Plane.v)=(g0.v,k0):=by
  unfold meanS
  rw [hst,show a0.v.a=a0.a from rfl,plAt_map t0,show srcB a0.v (zt.map Plane.v)=(if twoP a0.v then p0.v else zPl) from ?_]
  ·exact y3.symm
  ·unfold srcB;rw [if_pos htw,if_pos htw,show a0.v.b=a0.b from rfl,plAt_map r1]
 have hmi2:=(mean_at hz0 i om).step hz0 n0;rw [hvi] at hmi2;have hm9:meanG (p.inputs.n:Int) (p.stages.l.map Stage.v) ((ordV p.v).1.take i) (meanI p.v)=zt.map Plane.v:=hmv2.symm
 have hc9:k0=0:=by have h:=hmi2.1;rw [show meanG (p.inputs.n:Int) p.v.stages ((ordV p.v).1.take i) (meanI p.v)=zt.map Plane.v from hm9,show meanS (p.inputs.n:Int) p.v.stages b0 (zt.map Plane.v)=(g0.v,k0) from hms2] at h;exact h
 refine rE<|pu2<|nT ?_
 refine cN k0 0 (fun c4=>?_) (fun c4=>?_)
 rotate_left
 ·refine sR<|pu3<|zE<|tR<|tK<|tR<|tK<|retT [nS,I k0] ?_
  have d4:=(i1.drops [0,0,0,0,0,0,0,0,0,0])
  have e4:Sat W _ ([]::H::F):=Sat.nilc d4
  exact ⟨none,0,0,[],k0,_,rfl,RdT.nil (enc:=encPlane) (sz:=4) fR [[]],(fun z hz=>by cases hz),(by exfalso;omega),e4⟩
 refine kT<|rE<|pu2 ?_
 refine lA i1 0 0 4 (isAgg38 _) (sizeOf38 _) ?_
 refine sIdxO hOzt b0 (b0).toNat runUnderlying25 sizeOf38 ?_
 intro f4 _ _ g4 _ h4
 refine sStF i1 hOzt h4 7 (b0).toNat 0 f4 g0 g4 (.agg (encPlane g0).toArray) (encPlane g0) sizeOf38 ?_
 intro _ j1 i4 j4
 refine nB<|rE ?_
 refine sAdd (i:Int) 1 ?_
 refine pu1<|nT ?_
 have k4:=(j4.drops [0,1,1,1,1])
 exact ⟨(i+1,(zt.set ((b0).toNat) g0),azt,nzt,kzt,j1,(g1++Gzt)),od,alA,(Sat.perm (cs':=(g1++Gzt)::(j1::d0::[(c0, .cells (encJob p).toArray 28 (0,0))]::H::F)) (show Sat W _ (g1::Gzt::j1::d0::[(c0, .cells (encJob p).toArray 28 (0,0))]::H::F) from k4) (by simp)),om,(by rw [List.length_set];exact hml2),(by rw [List.map_set,hmv2,meanG_succ n0,<-hmv2,hms2]),i4,(mem_set (fun z hz=>(hDzt z hz).of_mem mS) (h1.of_mem mS))⟩
theorem p18_outputs (p:Job) (hp:Job.Ok [H] p) (hb:p.inputs.n<=1000000/\p.stages.n<=1000000/\p.outputs.n<=1000000) (hS:Sat W w (H::F)):
  Calls prog 36 #[.agg (encJob p).toArray] w fun e w'=>∃(az:Option Addr) (nz kz:Nat) (zs:List Plane) (c:Int) (G:Chunk),e= .returned (.tuple #[.slice az nz kz,I c])/\RdT encPlane 4 [G] az nz kz zs/\(∀z∈zs,Plane.Ok [G] z)/\(zs.map Plane.v,c)=(outV p.v,(shpV p.v).2.2)/\Sat W w' (G::H::F):=by
 have hl_p_inputs:=hp.inputs.le;have hn_p_inputs:=hp.inputs.len
 have hl_p_stages:=hp.stages.le;have hn_p_stages:=hp.stages.len
 have hl_p_outputs:=hp.outputs.le;have hn_p_outputs:=hp.outputs.len
 have hmi:(p.inputs.l.map Plane.v).length=p.inputs.n:=by simp [hn_p_inputs]
 have hms:(p.stages.l.map Stage.v).length=p.stages.n:=by simp [hn_p_stages]
 refine callsA 39 func36 rfl<|sR<|sBox hS (.agg (encJob p).toArray) (encJob p).toArray fun d0 _ p0=>pu2<|zS<|lA p0 0 0 4 (isAgg28 _) (sizeOf28 _)<|cX call35 (p18_of p (hp.of_mem (mem_flat1 1 (by rfl))) (od) p0.flat) ?_
 rintro _ _ ⟨s0,t0,u0,v0,e0,f0,rfl,g0,q0,h0,w0⟩
 have i0:=w0.unflat1
 have hn_az_12:=g0.len;have hl_az_12:=g0.le
 refine pu5<|zQ<|pu2<|nT<|cN e0 0 (fun x0=>?_) (fun x0=>?_)
 rotate_left
 ·refine sR<|pu3<|zR<|retT [nS,I e0] ?_
  have y0:=(i0.drops [0,0])
  have z0:Sat W _ ([]::H::F):=Sat.nilc y0
  exact ⟨none,0,0,[],e0,_,rfl,RdT.nil (enc:=encPlane) (sz:=4) fR [[]],(fun z hz=>by cases hz),(by have h:=congrArg Prod.snd h0;dsimp only at h;rw [<-h];unfold outV;rw [if_neg om];rfl),z0⟩
 refine kT<|seqE ?_
 have hz0:(shpV p.v).2.2=0:=by have h:=congrArg Prod.snd h0;dsimp only at h;omega
 have hmn:=congrArg Prod.fst h0;dsimp only at hmn;have hmo:=mean_ok hz0;have hall:=(chk_all (shp_ok hz0).ch).2;have hvi:p.v.inputs.length=p.inputs.n:=hmi;have hvs:p.v.stages.length=p.stages.n:=hms;rw [hvi,hvs] at hall hmo;have hxl:v0.length=p.inputs.n+p.stages.n:=by rw [<-List.length_map (f:=Plane.v),hmn];exact hmo.1
 refine rE<|pu1<|sL i0 1 2 (.slice p.outputs.a p.outputs.n p.outputs.k) (isAgg22 _)<|pu1<|sMake (kl:= .i64) (kc:= .i64) (enc:=encPlane) (sz:=4) (nb:=48) i0 ⟨0,0,0,⟨none,0,0,[]⟩⟩ p.outputs.n (p.outputs.n:Int) (rfl:(p.outputs.n:Int)=(p.outputs.n:Int)) underlying25 (i:=Tryz.t38) kr fR fun a1 b1 _ c1 d1=>pu1<|nT<|seqE<|seqE ?_
 have r0:=Sat.nilc d1
 refine rE<|pu1<|sL r0 3 2 (.slice p.outputs.a p.outputs.n p.outputs.k) (isAgg22 _)<|pu2<|nT<|blockE ?_
 have e1:=(r0.pick 1 rfl)
 have f1:=(e1.pick 1 rfl)
 refine loopA (γ:=Nat×(List Plane)×(Option Addr)×Nat×Nat×Chunk×Chunk) (fun ⟨i,zs,azs,nzs,kzs,czs,Gzs⟩=>[(4, .slice s0 t0 u0),(22, .slice p.outputs.a p.outputs.n p.outputs.k),(23,I (p.outputs.n:Int)),(24,I (i:Int)),(6, .slice azs nzs kzs)]) (fun ⟨i,zs,azs,nzs,kzs,czs,Gzs⟩ w=>Sat W w (Gzs::czs::f0::[(d0, .cells (encJob p).toArray 28 (0,0))]::H::F)/\i<=p.outputs.n/\(zs.length=p.outputs.n)/\(zs.map Plane.v=(p.outputs.l.take i).map (plAt (meanV p.v))++List.replicate (p.outputs.n-i) zPl)/\OwnT encPlane 38 4 azs nzs kzs zs czs/\(∀z∈zs,Plane.Ok [Gzs] z)) (fun ⟨i,zs,azs,nzs,kzs,czs,Gzs⟩=>p.outputs.n-i) (0,(List.replicate p.outputs.n ⟨0,0,0,⟨none,0,0,[]⟩⟩),(At a1 0),p.outputs.n,p.outputs.n,b1,[]) ⟨f1,om,(by rw [List.length_replicate]),(by rw [List.map_replicate];rfl),c1,(fun z hz=>by rw [List.eq_of_mem_replicate hz];exact ⟨RdT.nil (enc:=Go.E.encI) (sz:=1) fR _⟩)⟩ ?_
 rintro ⟨i,zs,azs,nzs,kzs,czs,Gzs⟩ ρ _ ⟨b0,hi,hml,hmv,hOzs,hDzs⟩
 have hn_zs:=hOzs.len;have hl_zs:=hOzs.le
 refine sR<|pu1<|nT<|seqE<|cD ((i:Int)<(p.outputs.n:Int)) (fun g1=>?_) (fun g1=>?_)
 rotate_left
 ·refine exitE<|xB<|tN<|sR<|pu3<|zE<|retT [.slice azs nzs kzs,I 0] ?_
  have h1:=(b0.drops [2,2])
  have i1:Sat W _ ((Gzs++czs)::H::F):=Sat.perm h1 (by simp)
  exact ⟨azs,nzs,kzs,zs,0,_,rfl,(hOzs.rd mS),(fun z hz=>(hDzs z hz).of_mem mS),(by rw [hmv,show i=p.outputs.n by omega,List.take_of_length_le om,Nat.sub_self,List.replicate_zero,List.append_nil,hz0];unfold outV;rw [if_pos hz0];rfl),i1⟩
 refine kT<|seqE<|blockE<|sR<|pu1<|sIdx hp.outputs (i:Int) runUnderlying22 sizeOf3 fun j0 _ _ k0 j1=>?_
 rw [Int.toNat_natCast] at k0
 have hor:=hall j0 (List.mem_of_getElem? k0)
 refine sLp b0 (j1.up 4 rfl) 0 (I j0) (isAgg3 _)<|pu2<|nT<|rE<|pu4<|sIdx g0 j0 runUnderlying25 sizeOf38 fun a0 _ _ l0 k1=>?_
 have hpv:=plAt_map l0;rw [hmn] at hpv;have hpz:=plane_sz (hmo.2 _ hor.1 hor.2).1;rw [hpv] at hpz
 have hpn2:a0.pix.n<=100000:=by have h:=hpz.2.1;have h2:=hpz.1;unfold sizeP at h2;simp only [Plane.v] at h h2;have h3:=(q0 a0 (List.mem_of_getElem? l0)).pix.len;omega
 refine sLpA b0 (k1.up 2 rfl) 0 (encPlane a0) (isAgg38 _) (sizeOf38 _)<|cX call85 (p18_dup a0 ⟨(RdT.flat ((q0 a0 (List.mem_of_getElem? l0)).pix.up 2 (by rfl)))⟩ (od) b0.flat) ?_
 rintro _ _ ⟨c0,m0,rfl,n0,l1,m1⟩
 have n1:=m1.unflat1
 have hn_q_42_pix:=n0.pix.len;have hl_q_42_pix:=n0.pix.le
 refine sIdxO hOzs (i:Int) i runUnderlying25 sizeOf38 fun o1 _ _ p1 _ q1=>sStF n1 hOzs q1 2 i 0 o1 c0 p1 (.agg (encPlane c0).toArray) (encPlane c0) sizeOf38 fun _ o0 r1 s1=>nB<|rE<|sAdd (i:Int) 1<|pu1<|nT ?_
 exact ⟨(i+1,(zs.set i c0),azs,nzs,kzs,o0,(m0++Gzs)),od,alA,(Sat.perm (cs':=(m0++Gzs)::(o0::f0::[(d0, .cells (encJob p).toArray 28 (0,0))]::H::F)) (show Sat W _ (m0::Gzs::o0::f0::[(d0, .cells (encJob p).toArray 28 (0,0))]::H::F) from s1) (by simp)),om,(by rw [List.length_set];exact hml),(by rw [List.map_set,hmv,fill_setG (by rw [List.length_map,List.length_take];omega) om,List.take_add_one,k0,Option.toList_some,List.map_append,l1,<-hpv];rfl),r1,(mem_set (fun z hz=>(hDzs z hz).of_mem mS) (n0.of_mem mS))⟩
end Go.Proofs.YtmlhcafjelkjfaaGreat
