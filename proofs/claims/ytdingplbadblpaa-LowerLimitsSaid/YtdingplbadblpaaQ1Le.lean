import Derived.Test.YtdingplbadblpaaQ1Ab
import Derived.WalkKit
import Derived.Deep.Quiet
import Derived.KernelRfl
import Derived.Laws.BytesString
import Derived.Laws.Shifts
import Derived.Laws.IdiomStrings
import Derived.Test.YtdingplbadblpaaProg
import Derived.Shelf.SortG.Plain
import Derived.Shelf.SortG.SortNone
import Derived.Shelf.SlicesG.CompactI
import Derived.Test.YtdingplbadblpaaQ1Ld
namespace Go.Proofs.Ytdingplbadblpaa
open Go Go.E Go.Proofs.Try
set_option linter.all false
set_option maxRecDepth 100000
set_option maxHeartbeats 2000000
variable {W w:World} {H:Chunk} {F:List Chunk}
theorem p20_task {b:Nat} {x:LayM} (hx:LayM.Ok [H] x) {a:Option Addr} {n k:Nat} {ds:List Int} {D:Chunk} (hO:OwnT Go.E.encI 3 1 a n k ds D) (nd part:Int) (r:Rct) (hg:LayG x.L) (hx2:x.jobStages.n=x.jobStages.l.length) (hnd:nd∈x.L.od) (hr:inP r) (hnn:n<=1000000) (hS:Sat W w (D::[(b, .cells (encLayM x).toArray 51 (0,0))]::H::F)):
  Calls prog 19 #[Pt b 0,I nd,I part, .agg (encRct r).toArray, .slice a n k] w fun e w'=>∃(t:Task) (Z:Chunk),e= .returned (.agg (encTask t).toArray)/\Task.Ok [Z] t/\t.v=x.L.task nd part r ds/\Sat W w' (Z::[(b, .cells (encLayM x).toArray 51 (0,0))]::H::F):=by
 have hl_x_jobInputs:=hx.jobInputs.le;have hn_x_jobInputs:=hx.jobInputs.len
 have hl_x_jobStages:=hx.jobStages.le;have hn_x_jobStages:=hx.jobStages.len
 have hl_x_jobOutputs:=hx.jobOutputs.le;have hn_x_jobOutputs:=hx.jobOutputs.len
 have hl_x_order:=hx.order.le;have hn_x_order:=hx.order.len
 have hl_x_shapes:=hx.shapes.le;have hn_x_shapes:=hx.shapes.len
 have hl_x_first:=hx.first.le;have hn_x_first:=hx.first.len
 have hl_x_count:=hx.count.le;have hn_x_count:=hx.count.len
 have hgn:1<=(x.jobInputs.n:Int)/\(x.jobInputs.n:Int)+(x.jobStages.n:Int)<=16:=by have h:=hg.ni;simp only [LayM.L,List.length_map] at h;omega
 have hgs:(x.shapes.n:Int)=(x.jobInputs.n:Int)+(x.jobStages.n:Int):=by have h:=hg.len;simp only [LayM.L,List.length_map] at h;omega
 have htl:tileP x.tw x.th:=hg.tl;unfold tileP at htl
 have hr_hnd:(x.jobInputs.n:Int)<=nd/\nd<(x.jobInputs.n:Int)+(x.jobStages.n:Int):=by have h:=hg.rng nd hnd;simp only [LayM.L,List.length_map] at h;omega
 have hr0:=hr;unfold inP at hr0
 refine callsA 46 func19 rfl<|sR<|sBox hS (.agg (encRct r).toArray) (encRct r).toArray fun g0 _ z1=>sAlloc z1 zeroValue60 fun _ _ a2=>zS<|pu2 ?_
 have b2:=(a2.pick 3 rfl)
 refine cX call10 (p20_stage (hx.of_mem (mem_flat1 3 (by rfl))) nd om om b2.flat1) ?_
 rintro _ _ ⟨a0,rfl,a1,c2⟩
 have d2:=c2.unflat1
 have hok_q_11:=hx.jobStagesD a0 (List.mem_of_getElem? a1);have hst_q_11:=lay_st a1
 refine sAlloc d2 zeroValue33 fun b0 _ e2=>?_
 refine sT e2 0 0 (.agg (encStage a0).toArray) (encStage a0) (encStage a0).toArray sizeOf33 fun _ f2=>nilO ?_
 have hsr:=hg.src hnd a0.a (by rw [hst_q_11];exact a_src _);simp only [LayM.L,List.length_map] at hsr
 refine tN<|sR<|pu1 ?_
 have g2:=(f2.pick 4 rfl)
 refine cX call34 (Go.E.own_sort Try.laySort hO g2 om) ?_
 rintro _ _ ⟨_,rfl,b1,n0⟩
 refine nT<|seqE<|drawP [4,11,12] [(2,⟨g0,0,none⟩,I r.x0),(2,⟨g0,1,none⟩,I r.y0),(2,⟨g0,2,none⟩,I r.x1),(2,⟨g0,3,none⟩,I r.y1),(6,⟨g0,3,none⟩,I r.y1),(8,⟨g0,1,none⟩,I r.y0)] (Plan.sts [0,1,3,5,7]<|Plan.sts [2]<|Plan.sts [6]<|Plan.sts [8]<|Plan.sts [9]<| .fk 4 11 (Plan.sts [10]<| .ef 11<| .ef 12<| .fin) (.ef 4<|Plan.sts [10]<| .ef 12<| .fin)) rfl kr ⟨cI n0 4,cI n0 4,cI n0 4,cI n0 4,cI n0 4,cI n0 4,trivial⟩ ?_
 have c1:=n0.drew
 refine qU [0,1,3,5,7]<|qY (.agg (encRct r).toArray) rfl (fun w hF=>Y_loadF rfl (isAgg58 w) (sizeOf58 w) kr rfl ⟨hF 0 _ _ rfl,hF 1 _ _ rfl,hF 2 _ _ rfl,hF 3 _ _ rfl,trivial⟩)<|qLd (I r.y1) 4 isAgg3<|qLd (I r.y0) 5 isAgg3<|qSub r.y1 r.y0<|qF ?_ ?_
 ·refine qO rfl<|cX call35 (Go.E.own_comp Try.layComp b1 c1) ?_
  rintro _ _ ⟨h0,d1,rfl,e1,o0⟩
  refine nilO ⟨⟨cI o0 4,cI o0 4,cI o0 4,cI o0 4,cI o0 4,cI o0 4,trivial⟩,?_⟩
  refine qU [10]<|qO rfl<|sAlloc o0 zeroValue60 fun _ _ p0=>nilO ⟨⟨cI p0 5,cI p0 5,cI p0 5,cI p0 5,cI p0 5,cI p0 5,trivial⟩,?_⟩
  refine qO rfl<|sTw p0 0 [I nd,I part,I r.x0,I r.y0,I r.x1,I r.y1, .slice a h0 k,I (r.y1-r.y0),I 0] sizeOf60 fun _ c0=>nilO ⟨dA,?_⟩
  refine qN<|tN<|seqE<|sR<|pu2<|nT<|cE part 2 (fun s0=>?_) (fun s0=>?_)
  rotate_left
  ·refine kT<|seqE ?_
   obtain ⟨j0,f1,g1,h2,i2,j2⟩:=RdT.elem hx.shapes a0.a
   refine drawE [11,13] [(0,⟨b0,0,none⟩,I a0.kind),(0,⟨b0,1,none⟩,I a0.a),(0,⟨b0,2,none⟩,I a0.b),(0,⟨b0,3,none⟩, .bool a0.barrier),(0,⟨b0,4,none⟩,I a0.edgePolicy),(0,⟨b0,5,none⟩,I a0.edgeFill),(0,⟨b0,6,none⟩,I a0.kW),(0,⟨b0,7,none⟩,I a0.kH),(0,⟨b0,8,none⟩, .slice a0.weights.a a0.weights.n a0.weights.k),(0,⟨b0,9,none⟩, .slice a0.row.a a0.row.n a0.row.k),(0,⟨b0,10,none⟩, .slice a0.col.a a0.col.n a0.col.k),(0,⟨b0,11,none⟩,I a0.shift),(0,⟨b0,12,none⟩,I a0.shift2),(0,⟨b0,13,none⟩, .slice a0.x.a a0.x.n a0.x.k),(0,⟨b0,14,none⟩, .slice a0.y.a a0.y.n a0.y.k),(0,⟨b0,15,none⟩,I a0.bins),(0,⟨b0,16,none⟩, .slice a0.ops.a a0.ops.n a0.ops.k),(0,⟨b0,17,none⟩,I a0.max_),(4,⟨b,7,none⟩, .slice x.shapes.a x.shapes.n x.shapes.k),(6,⟨b0,1,none⟩,I a0.a),(9,⟨f1,g1+1,none⟩,I j0.h),(10,⟨g0,0,none⟩,I r.x0),(10,⟨g0,1,none⟩,I r.y0),(10,⟨g0,2,none⟩,I r.x1),(10,⟨g0,3,none⟩,I r.y1)] [(true,[1,2,3,5]),(true,[0]),(true,[4]),(true,[6]),(true,[7]),(true,[8]),(true,[9]),(true,[10]),(false,[11]),(true,[12]),(false,[13])] rfl kr ⟨cI c0 2,cI c0 2,cI c0 2,cI c0 2,cI c0 2,cI c0 2,cI c0 2,cI c0 2,cI c0 2,cI c0 2,cI c0 2,cI c0 2,cI c0 2,cI c0 2,cI c0 2,cI c0 2,cI c0 2,cI c0 2,cI c0 3,cI c0 2, .inr ((i2.up 6 rfl).cell c0 (k:=1) rfl),cI c0 5,cI c0 5,cI c0 5,cI c0 5,trivial⟩ ?_
   have k2:=c0.drew
   refine wU [1,2,3,5]<|wY (.agg (encStage a0).toArray) rfl (fun w hF=>Y_loadF rfl (isAgg33 w) (sizeOf33 w) kr rfl ⟨hF 0 _ _ rfl,hF 1 _ _ rfl,hF 2 _ _ rfl,hF 3 _ _ rfl,hF 4 _ _ rfl,hF 5 _ _ rfl,hF 6 _ _ rfl,hF 7 _ _ rfl,hF 8 _ _ rfl,hF 9 _ _ rfl,hF 10 _ _ rfl,hF 11 _ _ rfl,hF 12 _ _ rfl,hF 13 _ _ rfl,hF 14 _ _ rfl,hF 15 _ _ rfl,hF 16 _ _ rfl,hF 17 _ _ rfl,trivial⟩)<|wLd (.slice x.shapes.a x.shapes.n x.shapes.k) 18 isAgg49<|wLd (I a0.a) 19 isAgg3<|wY (.pointer (some ⟨f1,g1,none⟩)) rfl (fun w _=>Y_idx (a:=x.shapes.a) (i:=a0.a) (len:=x.shapes.n) (cap:=x.shapes.k) rfl runUnderlying49 sizeOf54 kr kr j2)<|wU [8]<|wLd (I j0.h) 20 isAgg3 ?_
   refine wY (.agg (encRct r).toArray) rfl (fun w hF=>Y_loadF rfl (isAgg58 w) (sizeOf58 w) kr rfl ⟨hF 21 _ _ rfl,hF 22 _ _ rfl,hF 23 _ _ rfl,hF 24 _ _ rfl,trivial⟩)<|wO rfl<|cR call26 (p20_bytes a0 j0.h r (hok_q_11.of_mem (mem_flat1 6 (by rfl))) (by have h:=hg.byt hnd;rw [hst_q_11] at h;exact h) hr k2.flat) fun _ t0=>nilO ⟨⟨dI,dI,dI,dI,dI,dI,dI,dI,dI,dI,dI,dI,dI,dI,dI,dI,dI,dI,cI t0 3,cI t0 2,dI,dI,dI,dI,dI,trivial⟩,?_⟩
   refine wU [12]<|wO rfl<|tW t0 0 8 (I (bytV a0.v j0.h r)) sizeOf3 fun _ h1=>nilO ⟨dA,?_⟩
   refine wN<|tN<|sR<|lA h1 0 0 9 (isAgg60 _) (sizeOf60 _)<|sTw h1 4 [I nd,I part,I r.x0,I r.y0,I r.x1,I r.y1, .slice a h0 k,I (r.y1-r.y0),I (bytV a0.v j0.h r)] sizeOf60 fun _ i1=>zE<|retN (vs:=[.agg #[I nd,I part,I r.x0,I r.y0,I r.x1,I r.y1, .slice a h0 k,I (r.y1-r.y0),I (bytV a0.v j0.h r)]]) rfl (.cons (.cell _ _ _ _ kr (lvA i1 4 0 [I nd,I part,I r.x0,I r.y0,I r.x1,I r.y1, .slice a h0 k,I (r.y1-r.y0),I (bytV a0.v j0.h r)] (isAgg60 _) (sizeOf60 _) rfl rfl rfl)) .nil) ?_
   have l2:=(i1.drops [0,1,2,2])
   have hv:Task.v (⟨nd,part,r.x0,r.y0,r.x1,r.y1,⟨a,h0,k,(Go.Lib.compact (ds.mergeSort fun x y=>decide (x<=y)))⟩,(r.y1-r.y0),(bytV a0.v j0.h r)⟩:Task)=x.L.task nd part r ds:=by unfold Lay.task;rw [hst_q_11,show shpAt x.L.sh a0.v.a=j0 from shp_at' h2,<-canon_sort,if_neg s0];rfl
   exact ⟨(⟨nd,part,r.x0,r.y0,r.x1,r.y1,⟨a,h0,k,(Go.Lib.compact (ds.mergeSort fun x y=>decide (x<=y)))⟩,(r.y1-r.y0),(bytV a0.v j0.h r)⟩:Task),_,rfl,⟨(e1.rdAt (cs:=[d1]) 0 rfl)⟩,hv,l2⟩
  refine rE<|pu1<|tW c0 0 7 (I 1) sizeOf3 fun _ e0=>nT<|seqE ?_
  obtain ⟨k0,j1,k1,m2,n2,o2⟩:=RdT.elem hx.shapes a0.a
  refine drawE [11,13] [(0,⟨b0,0,none⟩,I a0.kind),(0,⟨b0,1,none⟩,I a0.a),(0,⟨b0,2,none⟩,I a0.b),(0,⟨b0,3,none⟩, .bool a0.barrier),(0,⟨b0,4,none⟩,I a0.edgePolicy),(0,⟨b0,5,none⟩,I a0.edgeFill),(0,⟨b0,6,none⟩,I a0.kW),(0,⟨b0,7,none⟩,I a0.kH),(0,⟨b0,8,none⟩, .slice a0.weights.a a0.weights.n a0.weights.k),(0,⟨b0,9,none⟩, .slice a0.row.a a0.row.n a0.row.k),(0,⟨b0,10,none⟩, .slice a0.col.a a0.col.n a0.col.k),(0,⟨b0,11,none⟩,I a0.shift),(0,⟨b0,12,none⟩,I a0.shift2),(0,⟨b0,13,none⟩, .slice a0.x.a a0.x.n a0.x.k),(0,⟨b0,14,none⟩, .slice a0.y.a a0.y.n a0.y.k),(0,⟨b0,15,none⟩,I a0.bins),(0,⟨b0,16,none⟩, .slice a0.ops.a a0.ops.n a0.ops.k),(0,⟨b0,17,none⟩,I a0.max_),(4,⟨b,7,none⟩, .slice x.shapes.a x.shapes.n x.shapes.k),(6,⟨b0,1,none⟩,I a0.a),(9,⟨j1,k1+1,none⟩,I k0.h),(10,⟨g0,0,none⟩,I r.x0),(10,⟨g0,1,none⟩,I r.y0),(10,⟨g0,2,none⟩,I r.x1),(10,⟨g0,3,none⟩,I r.y1)] [(true,[1,2,3,5]),(true,[0]),(true,[4]),(true,[6]),(true,[7]),(true,[8]),(true,[9]),(true,[10]),(false,[11]),(true,[12]),(false,[13])] rfl kr ⟨cI e0 2,cI e0 2,cI e0 2,cI e0 2,cI e0 2,cI e0 2,cI e0 2,cI e0 2,cI e0 2,cI e0 2,cI e0 2,cI e0 2,cI e0 2,cI e0 2,cI e0 2,cI e0 2,cI e0 2,cI e0 2,cI e0 3,cI e0 2, .inr ((n2.up 6 rfl).cell e0 (k:=1) rfl),cI e0 5,cI e0 5,cI e0 5,cI e0 5,trivial⟩ ?_
  have p2:=e0.drew
  refine wU [1,2,3,5]<|wY (.agg (encStage a0).toArray) rfl (fun w hF=>Y_loadF rfl (isAgg33 w) (sizeOf33 w) kr rfl ⟨hF 0 _ _ rfl,hF 1 _ _ rfl,hF 2 _ _ rfl,hF 3 _ _ rfl,hF 4 _ _ rfl,hF 5 _ _ rfl,hF 6 _ _ rfl,hF 7 _ _ rfl,hF 8 _ _ rfl,hF 9 _ _ rfl,hF 10 _ _ rfl,hF 11 _ _ rfl,hF 12 _ _ rfl,hF 13 _ _ rfl,hF 14 _ _ rfl,hF 15 _ _ rfl,hF 16 _ _ rfl,hF 17 _ _ rfl,trivial⟩)<|wLd (.slice x.shapes.a x.shapes.n x.shapes.k) 18 isAgg49<|wLd (I a0.a) 19 isAgg3<|wY (.pointer (some ⟨j1,k1,none⟩)) rfl (fun w _=>Y_idx (a:=x.shapes.a) (i:=a0.a) (len:=x.shapes.n) (cap:=x.shapes.k) rfl runUnderlying49 sizeOf54 kr kr o2)<|wU [8]<|wLd (I k0.h) 20 isAgg3 ?_
  refine wY (.agg (encRct r).toArray) rfl (fun w hF=>Y_loadF rfl (isAgg58 w) (sizeOf58 w) kr rfl ⟨hF 21 _ _ rfl,hF 22 _ _ rfl,hF 23 _ _ rfl,hF 24 _ _ rfl,trivial⟩)<|wO rfl<|cR call26 (p20_bytes a0 k0.h r (hok_q_11.of_mem (mem_flat1 6 (by rfl))) (by have h:=hg.byt hnd;rw [hst_q_11] at h;exact h) hr p2.flat) fun _ u0=>nilO ⟨⟨dI,dI,dI,dI,dI,dI,dI,dI,dI,dI,dI,dI,dI,dI,dI,dI,dI,dI,cI u0 3,cI u0 2,dI,dI,dI,dI,dI,trivial⟩,?_⟩
  refine wU [12]<|wO rfl<|tW u0 0 8 (I (bytV a0.v k0.h r)) sizeOf3 fun _ l1=>nilO ⟨dA,?_⟩
  refine wN<|tN<|sR<|lA l1 0 0 9 (isAgg60 _) (sizeOf60 _)<|sTw l1 4 [I nd,I part,I r.x0,I r.y0,I r.x1,I r.y1, .slice a h0 k,I 1,I (bytV a0.v k0.h r)] sizeOf60 fun _ m1=>zE<|retN (vs:=[.agg #[I nd,I part,I r.x0,I r.y0,I r.x1,I r.y1, .slice a h0 k,I 1,I (bytV a0.v k0.h r)]]) rfl (.cons (.cell _ _ _ _ kr (lvA m1 4 0 [I nd,I part,I r.x0,I r.y0,I r.x1,I r.y1, .slice a h0 k,I 1,I (bytV a0.v k0.h r)] (isAgg60 _) (sizeOf60 _) rfl rfl rfl)) .nil) ?_
  have q2:=(m1.drops [0,1,2,2])
  have hv:Task.v (⟨nd,part,r.x0,r.y0,r.x1,r.y1,⟨a,h0,k,(Go.Lib.compact (ds.mergeSort fun x y=>decide (x<=y)))⟩,1,(bytV a0.v k0.h r)⟩:Task)=x.L.task nd part r ds:=by unfold Lay.task;rw [hst_q_11,show shpAt x.L.sh a0.v.a=k0 from shp_at' m2,<-canon_sort,if_pos s0];rfl
  exact ⟨(⟨nd,part,r.x0,r.y0,r.x1,r.y1,⟨a,h0,k,(Go.Lib.compact (ds.mergeSort fun x y=>decide (x<=y)))⟩,1,(bytV a0.v k0.h r)⟩:Task),_,rfl,⟨(e1.rdAt (cs:=[d1]) 0 rfl)⟩,hv,q2⟩
 refine qO rfl<|sAlloc c1 zeroValue60 fun _ _ q0=>nilO ⟨⟨cI q0 5,cI q0 5,cI q0 5,cI q0 5,cI q0 5,cI q0 5,trivial⟩,?_⟩
 refine qO rfl ?_
 have r2:=(q0.pick 1 rfl)
 refine cX call35 (Go.E.own_comp Try.layComp b1 r2) ?_
 rintro _ _ ⟨i0,n1,rfl,o1,r0⟩
 refine nilO ⟨⟨cI r0 5,cI r0 5,cI r0 5,cI r0 5,cI r0 5,cI r0 5,trivial⟩,?_⟩
 refine qU [10]<|qO rfl<|sTw r0 1 [I nd,I part,I r.x0,I r.y0,I r.x1,I r.y1, .slice a i0 k,I (r.y1-r.y0),I 0] sizeOf60 fun _ d0=>nilO ⟨dA,?_⟩
 refine qN<|tN<|seqE<|sR<|pu2<|nT<|cE part 2 (fun v0=>?_) (fun v0=>?_)
 ·refine rE<|pu1<|tW d0 1 7 (I 1) sizeOf3 fun _ f0=>nT<|seqE ?_
  obtain ⟨l0,p1,q1,s2,t2,u2⟩:=RdT.elem hx.shapes a0.a
  refine drawE [11,13] [(0,⟨b0,0,none⟩,I a0.kind),(0,⟨b0,1,none⟩,I a0.a),(0,⟨b0,2,none⟩,I a0.b),(0,⟨b0,3,none⟩, .bool a0.barrier),(0,⟨b0,4,none⟩,I a0.edgePolicy),(0,⟨b0,5,none⟩,I a0.edgeFill),(0,⟨b0,6,none⟩,I a0.kW),(0,⟨b0,7,none⟩,I a0.kH),(0,⟨b0,8,none⟩, .slice a0.weights.a a0.weights.n a0.weights.k),(0,⟨b0,9,none⟩, .slice a0.row.a a0.row.n a0.row.k),(0,⟨b0,10,none⟩, .slice a0.col.a a0.col.n a0.col.k),(0,⟨b0,11,none⟩,I a0.shift),(0,⟨b0,12,none⟩,I a0.shift2),(0,⟨b0,13,none⟩, .slice a0.x.a a0.x.n a0.x.k),(0,⟨b0,14,none⟩, .slice a0.y.a a0.y.n a0.y.k),(0,⟨b0,15,none⟩,I a0.bins),(0,⟨b0,16,none⟩, .slice a0.ops.a a0.ops.n a0.ops.k),(0,⟨b0,17,none⟩,I a0.max_),(4,⟨b,7,none⟩, .slice x.shapes.a x.shapes.n x.shapes.k),(6,⟨b0,1,none⟩,I a0.a),(9,⟨p1,q1+1,none⟩,I l0.h),(10,⟨g0,0,none⟩,I r.x0),(10,⟨g0,1,none⟩,I r.y0),(10,⟨g0,2,none⟩,I r.x1),(10,⟨g0,3,none⟩,I r.y1)] [(true,[1,2,3,5]),(true,[0]),(true,[4]),(true,[6]),(true,[7]),(true,[8]),(true,[9]),(true,[10]),(false,[11]),(true,[12]),(false,[13])] rfl kr ⟨cI f0 2,cI f0 2,cI f0 2,cI f0 2,cI f0 2,cI f0 2,cI f0 2,cI f0 2,cI f0 2,cI f0 2,cI f0 2,cI f0 2,cI f0 2,cI f0 2,cI f0 2,cI f0 2,cI f0 2,cI f0 2,cI f0 3,cI f0 2, .inr ((t2.up 6 rfl).cell f0 (k:=1) rfl),cI f0 5,cI f0 5,cI f0 5,cI f0 5,trivial⟩ ?_
  have v2:=f0.drew
  refine wU [1,2,3,5]<|wY (.agg (encStage a0).toArray) rfl (fun w hF=>Y_loadF rfl (isAgg33 w) (sizeOf33 w) kr rfl ⟨hF 0 _ _ rfl,hF 1 _ _ rfl,hF 2 _ _ rfl,hF 3 _ _ rfl,hF 4 _ _ rfl,hF 5 _ _ rfl,hF 6 _ _ rfl,hF 7 _ _ rfl,hF 8 _ _ rfl,hF 9 _ _ rfl,hF 10 _ _ rfl,hF 11 _ _ rfl,hF 12 _ _ rfl,hF 13 _ _ rfl,hF 14 _ _ rfl,hF 15 _ _ rfl,hF 16 _ _ rfl,hF 17 _ _ rfl,trivial⟩)<|wLd (.slice x.shapes.a x.shapes.n x.shapes.k) 18 isAgg49<|wLd (I a0.a) 19 isAgg3<|wY (.pointer (some ⟨p1,q1,none⟩)) rfl (fun w _=>Y_idx (a:=x.shapes.a) (i:=a0.a) (len:=x.shapes.n) (cap:=x.shapes.k) rfl runUnderlying49 sizeOf54 kr kr u2)<|wU [8]<|wLd (I l0.h) 20 isAgg3 ?_
  refine wY (.agg (encRct r).toArray) rfl (fun w hF=>Y_loadF rfl (isAgg58 w) (sizeOf58 w) kr rfl ⟨hF 21 _ _ rfl,hF 22 _ _ rfl,hF 23 _ _ rfl,hF 24 _ _ rfl,trivial⟩)<|wO rfl<|cR call26 (p20_bytes a0 l0.h r (hok_q_11.of_mem (mem_flat1 6 (by rfl))) (by have h:=hg.byt hnd;rw [hst_q_11] at h;exact h) hr v2.flat) fun _ w0=>nilO ⟨⟨dI,dI,dI,dI,dI,dI,dI,dI,dI,dI,dI,dI,dI,dI,dI,dI,dI,dI,cI w0 3,cI w0 2,dI,dI,dI,dI,dI,trivial⟩,?_⟩
  refine wU [12]<|wO rfl<|tW w0 1 8 (I (bytV a0.v l0.h r)) sizeOf3 fun _ r1=>nilO ⟨dA,?_⟩
  refine wN<|tN<|sR<|lA r1 1 0 9 (isAgg60 _) (sizeOf60 _)<|sTw r1 4 [I nd,I part,I r.x0,I r.y0,I r.x1,I r.y1, .slice a i0 k,I 1,I (bytV a0.v l0.h r)] sizeOf60 fun _ s1=>zE<|retN (vs:=[.agg #[I nd,I part,I r.x0,I r.y0,I r.x1,I r.y1, .slice a i0 k,I 1,I (bytV a0.v l0.h r)]]) rfl (.cons (.cell _ _ _ _ kr (lvA s1 4 0 [I nd,I part,I r.x0,I r.y0,I r.x1,I r.y1, .slice a i0 k,I 1,I (bytV a0.v l0.h r)] (isAgg60 _) (sizeOf60 _) rfl rfl rfl)) .nil) ?_
  have w2:=(s1.drops [1,1,2,2])
  have hv:Task.v (⟨nd,part,r.x0,r.y0,r.x1,r.y1,⟨a,i0,k,(Go.Lib.compact (ds.mergeSort fun x y=>decide (x<=y)))⟩,1,(bytV a0.v l0.h r)⟩:Task)=x.L.task nd part r ds:=by unfold Lay.task;rw [hst_q_11,show shpAt x.L.sh a0.v.a=l0 from shp_at' s2,<-canon_sort,if_pos v0];rfl
  exact ⟨(⟨nd,part,r.x0,r.y0,r.x1,r.y1,⟨a,i0,k,(Go.Lib.compact (ds.mergeSort fun x y=>decide (x<=y)))⟩,1,(bytV a0.v l0.h r)⟩:Task),_,rfl,⟨(o1.rdAt (cs:=[n1]) 0 rfl)⟩,hv,w2⟩
 refine kT<|seqE ?_
 obtain ⟨m0,t1,u1,x2,y2,z2⟩:=RdT.elem hx.shapes a0.a
 refine drawE [11,13] [(0,⟨b0,0,none⟩,I a0.kind),(0,⟨b0,1,none⟩,I a0.a),(0,⟨b0,2,none⟩,I a0.b),(0,⟨b0,3,none⟩, .bool a0.barrier),(0,⟨b0,4,none⟩,I a0.edgePolicy),(0,⟨b0,5,none⟩,I a0.edgeFill),(0,⟨b0,6,none⟩,I a0.kW),(0,⟨b0,7,none⟩,I a0.kH),(0,⟨b0,8,none⟩, .slice a0.weights.a a0.weights.n a0.weights.k),(0,⟨b0,9,none⟩, .slice a0.row.a a0.row.n a0.row.k),(0,⟨b0,10,none⟩, .slice a0.col.a a0.col.n a0.col.k),(0,⟨b0,11,none⟩,I a0.shift),(0,⟨b0,12,none⟩,I a0.shift2),(0,⟨b0,13,none⟩, .slice a0.x.a a0.x.n a0.x.k),(0,⟨b0,14,none⟩, .slice a0.y.a a0.y.n a0.y.k),(0,⟨b0,15,none⟩,I a0.bins),(0,⟨b0,16,none⟩, .slice a0.ops.a a0.ops.n a0.ops.k),(0,⟨b0,17,none⟩,I a0.max_),(4,⟨b,7,none⟩, .slice x.shapes.a x.shapes.n x.shapes.k),(6,⟨b0,1,none⟩,I a0.a),(9,⟨t1,u1+1,none⟩,I m0.h),(10,⟨g0,0,none⟩,I r.x0),(10,⟨g0,1,none⟩,I r.y0),(10,⟨g0,2,none⟩,I r.x1),(10,⟨g0,3,none⟩,I r.y1)] [(true,[1,2,3,5]),(true,[0]),(true,[4]),(true,[6]),(true,[7]),(true,[8]),(true,[9]),(true,[10]),(false,[11]),(true,[12]),(false,[13])] rfl kr ⟨cI d0 2,cI d0 2,cI d0 2,cI d0 2,cI d0 2,cI d0 2,cI d0 2,cI d0 2,cI d0 2,cI d0 2,cI d0 2,cI d0 2,cI d0 2,cI d0 2,cI d0 2,cI d0 2,cI d0 2,cI d0 2,cI d0 3,cI d0 2, .inr ((y2.up 6 rfl).cell d0 (k:=1) rfl),cI d0 5,cI d0 5,cI d0 5,cI d0 5,trivial⟩ ?_
 have a3:=d0.drew
 refine wU [1,2,3,5]<|wY (.agg (encStage a0).toArray) rfl (fun w hF=>Y_loadF rfl (isAgg33 w) (sizeOf33 w) kr rfl ⟨hF 0 _ _ rfl,hF 1 _ _ rfl,hF 2 _ _ rfl,hF 3 _ _ rfl,hF 4 _ _ rfl,hF 5 _ _ rfl,hF 6 _ _ rfl,hF 7 _ _ rfl,hF 8 _ _ rfl,hF 9 _ _ rfl,hF 10 _ _ rfl,hF 11 _ _ rfl,hF 12 _ _ rfl,hF 13 _ _ rfl,hF 14 _ _ rfl,hF 15 _ _ rfl,hF 16 _ _ rfl,hF 17 _ _ rfl,trivial⟩)<|wLd (.slice x.shapes.a x.shapes.n x.shapes.k) 18 isAgg49<|wLd (I a0.a) 19 isAgg3<|wY (.pointer (some ⟨t1,u1,none⟩)) rfl (fun w _=>Y_idx (a:=x.shapes.a) (i:=a0.a) (len:=x.shapes.n) (cap:=x.shapes.k) rfl runUnderlying49 sizeOf54 kr kr z2)<|wU [8]<|wLd (I m0.h) 20 isAgg3 ?_
 refine wY (.agg (encRct r).toArray) rfl (fun w hF=>Y_loadF rfl (isAgg58 w) (sizeOf58 w) kr rfl ⟨hF 21 _ _ rfl,hF 22 _ _ rfl,hF 23 _ _ rfl,hF 24 _ _ rfl,trivial⟩)<|wO rfl<|cR call26 (p20_bytes a0 m0.h r (hok_q_11.of_mem (mem_flat1 6 (by rfl))) (by have h:=hg.byt hnd;rw [hst_q_11] at h;exact h) hr a3.flat) fun _ z0=>nilO ⟨⟨dI,dI,dI,dI,dI,dI,dI,dI,dI,dI,dI,dI,dI,dI,dI,dI,dI,dI,cI z0 3,cI z0 2,dI,dI,dI,dI,dI,trivial⟩,?_⟩
 refine wU [12]<|wO rfl<|tW z0 1 8 (I (bytV a0.v m0.h r)) sizeOf3 fun _ v1=>nilO ⟨dA,?_⟩
 refine wN<|tN<|sR<|lA v1 1 0 9 (isAgg60 _) (sizeOf60 _)<|sTw v1 4 [I nd,I part,I r.x0,I r.y0,I r.x1,I r.y1, .slice a i0 k,I (r.y1-r.y0),I (bytV a0.v m0.h r)] sizeOf60 fun _ w1=>zE<|retN (vs:=[.agg #[I nd,I part,I r.x0,I r.y0,I r.x1,I r.y1, .slice a i0 k,I (r.y1-r.y0),I (bytV a0.v m0.h r)]]) rfl (.cons (.cell _ _ _ _ kr (lvA w1 4 0 [I nd,I part,I r.x0,I r.y0,I r.x1,I r.y1, .slice a i0 k,I (r.y1-r.y0),I (bytV a0.v m0.h r)] (isAgg60 _) (sizeOf60 _) rfl rfl rfl)) .nil) ?_
 have b3:=(w1.drops [1,1,2,2])
 have hv:Task.v (⟨nd,part,r.x0,r.y0,r.x1,r.y1,⟨a,i0,k,(Go.Lib.compact (ds.mergeSort fun x y=>decide (x<=y)))⟩,(r.y1-r.y0),(bytV a0.v m0.h r)⟩:Task)=x.L.task nd part r ds:=by unfold Lay.task;rw [hst_q_11,show shpAt x.L.sh a0.v.a=m0 from shp_at' x2,<-canon_sort,if_neg v0];rfl
 exact ⟨(⟨nd,part,r.x0,r.y0,r.x1,r.y1,⟨a,i0,k,(Go.Lib.compact (ds.mergeSort fun x y=>decide (x<=y)))⟩,(r.y1-r.y0),(bytV a0.v m0.h r)⟩:Task),_,rfl,⟨(o1.rdAt (cs:=[n1]) 0 rfl)⟩,hv,b3⟩
theorem p20_tasks {b:Nat} {x:LayM} (hx:LayM.Ok [H] x) (nd:Int) (hg:LayG x.L) (hx2:x.jobStages.n=x.jobStages.l.length) (hW:LayW x) (hnd:nd∈x.L.od) (htt:x.L.total<=4096) (hS:Sat W w ([(b, .cells (encLayM x).toArray 51 (0,0))]::H::F)):
  Calls prog 9 #[Pt b 0,I nd] w fun e w'=>∃(az:Option Addr) (nz kz:Nat) (zs:List Task) (Z G:Chunk),e= .returned (.slice az nz kz)/\OwnT encTask 60 9 az nz kz zs Z/\(∀z∈zs,Task.Ok [G] z)/\zs.map Task.v=x.L.tasks nd/\Sat W w' (Z::G::[(b, .cells (encLayM x).toArray 51 (0,0))]::H::F):=by
 have hl_x_jobInputs:=hx.jobInputs.le;have hn_x_jobInputs:=hx.jobInputs.len
 have hl_x_jobStages:=hx.jobStages.le;have hn_x_jobStages:=hx.jobStages.len
 have hl_x_jobOutputs:=hx.jobOutputs.le;have hn_x_jobOutputs:=hx.jobOutputs.len
 have hl_x_order:=hx.order.le;have hn_x_order:=hx.order.len
 have hl_x_shapes:=hx.shapes.le;have hn_x_shapes:=hx.shapes.len
 have hl_x_first:=hx.first.le;have hn_x_first:=hx.first.len
 have hl_x_count:=hx.count.le;have hn_x_count:=hx.count.len
 have hgn:1<=(x.jobInputs.n:Int)/\(x.jobInputs.n:Int)+(x.jobStages.n:Int)<=16:=by have h:=hg.ni;simp only [LayM.L,List.length_map] at h;omega
 have hgs:(x.shapes.n:Int)=(x.jobInputs.n:Int)+(x.jobStages.n:Int):=by have h:=hg.len;simp only [LayM.L,List.length_map] at h;omega
 have htl:tileP x.tw x.th:=hg.tl;unfold tileP at htl
 have hr_hnd:(x.jobInputs.n:Int)<=nd/\nd<(x.jobInputs.n:Int)+(x.jobStages.n:Int):=by have h:=hg.rng nd hnd;simp only [LayM.L,List.length_map] at h;omega
 have hfi:fineP (x.L.cut nd).w (x.L.cut nd).h x.tw x.th:=hg.fine hnd
 have hgr:=hg.grid hnd;have hcb:=hg.cntb hnd;have hfb:=hg.firstb hnd;have hcs:=hg.cutsz hnd;have htb:=hg.totb;unfold szP at hcs
 have hb1:=(List.getElem?_eq_some_iff.1 (hW nd hnd).1).1
 obtain ⟨nx,hnx⟩:∃z,z=(colsN (x.L.cut nd).w (x.L.cut nd).h x.tw x.th):=⟨_,rfl⟩;obtain ⟨ny,hny⟩:∃z,z=(rowsN (x.L.cut nd).w (x.L.cut nd).h x.tw x.th):=⟨_,rfl⟩;obtain ⟨fr,hfr⟩:∃z,z=x.L.first nd:=⟨_,rfl⟩
 have hnx2:x.L.nx nd=nx:=by rw [hnx];rfl
 have hny2:x.L.ny nd=ny:=by rw [hny];rfl
 rw [hnx2,hny2] at hgr;rw [<-hfr] at hfb
 refine callsA 132 func9 rfl<|sR<|pu1<|zS<|pu2<|cX call10 (p20_stage (hx.of_mem (mem_flat1 0 (by rfl))) nd om om hS.flat1) ?_
 rintro _ _ ⟨a0,rfl,x3,o4⟩
 have p4:=o4.unflat1
 have hok_q_4:=hx.jobStagesD a0 (List.mem_of_getElem? x3);have hst_q_4:=lay_st x3
 refine sAlloc p4 zeroValue33 fun d0 _ q4=>?_
 refine sT q4 0 0 (.agg (encStage a0).toArray) (encStage a0) (encStage a0).toArray sizeOf33 fun _ r4=>nilO ?_
 have hsq:∀y∈srcs a0.v,0<=y/\y<x.L.ni+(x.L.ss.length:Int)/\(y<x.L.ni\/y∈x.L.od):=fun y hy=>hg.src hnd y (by rw [hst_q_4];exact hy)
 refine tN<|sR<|pu2 ?_
 have s4:=(r4.pick 1 rfl)
 refine cX call15 (p20_cut (hx.of_mem (mem_flat1 1 (by rfl))) nd hg hx2 hnd s4.flat1) ?_
 rintro _ _ ⟨rfl,t4⟩
 refine sAlloc (Sat.unflat1 t4) zeroValue54 fun c0 _ v4=>?_
 refine sTw v4 0 [I ((x.L.cut nd).w),I ((x.L.cut nd).h),I ((x.L.cut nd).max_)] sizeOf54 fun _ t0=>nT<|seqE<|drawE [12] [(1,⟨c0,0,none⟩,I ((x.L.cut nd).w)),(3,⟨c0,1,none⟩,I ((x.L.cut nd).h)),(7,⟨b,4,none⟩,I x.tw),(11,⟨b,5,none⟩,I x.th)] [(true,[0,2,4,5,6,8,9,10]),(true,[1]),(true,[3]),(true,[7]),(true,[11]),(false,[12]),(true,[13]),(true,[14]),(true,[15]),(true,[16,17])] rfl kr ⟨cI t0 0,cI t0 0,cI t0 1,cI t0 1,trivial⟩ ?_
 have w4:=t0.drew
 refine wU [0,2,4,5,6,8,9,10]<|wLd (I ((x.L.cut nd).w)) 0 isAgg3<|wLd (I ((x.L.cut nd).h)) 1 isAgg3<|wLd (I x.tw) 2 isAgg3<|wLd (I x.th) 3 isAgg3<|wO rfl<|cR call16 (p5_count ((x.L.cut nd).w) ((x.L.cut nd).h) x.tw x.th w4.flat) fun _ u0=>?_
 rw [<-hnx,<-hny]
 refine nilO ⟨dA,?_⟩
 refine wU [13]<|wU [14]<|wU [15]<|wU [16,17]<|wN<|tN<|sR<|pu3<|sL u0 1 8 (.slice x.first.a x.first.n x.first.k) (isAgg23 _)<|pu1<|sIdx hx.first nd runUnderlying23 sizeOf3 fun b0 _ _ x4 y4=>?_
 have hf1:fr=b0:=hfr.trans (Option.some.inj ((hW nd hnd).1.symm.trans x4))
 refine sLp u0 (y4.up 3 rfl) 0 (I b0) (isAgg3 _)<|pu1<|zS<|pu1<|zQ<|pu1<|sL u0 2 0 (I a0.kind) (isAgg3 _)<|pu1<|nT<|cE a0.kind 4 (fun e0=>?_) (fun e0=>?_)
 rotate_left
 ·refine kS<|pu1<|zQ<|pu2<|sMul nx ny<|pu1<|nT<|blockE ?_
  have z4:=Sat.nilc u0
  have a5:=OwnT.nil (enc:=encTask) (E:=60) (sz:=9) fR
  refine loopA (γ:=Nat×(List Task)×(Option Addr)×Nat×Nat×Chunk×Chunk) (fun ⟨i,zs,azs,nzs,kzs,czs,Gzs⟩=>[(0,Pt b 0),(1,I nd),(5,Pt d0 0),(6,Pt c0 0),(7,I nx),(8,I ny),(9,I b0),(10,I 0),(51,I (nx*ny)),(52,I (i:Int)),(11, .slice azs nzs kzs)]) (fun ⟨i,zs,azs,nzs,kzs,czs,Gzs⟩ w=>Sat W w (Gzs::czs::[(c0, .cells #[I ((x.L.cut nd).w),I ((x.L.cut nd).h),I ((x.L.cut nd).max_)] 54 (0,0))]::[(b, .cells (encLayM x).toArray 51 (0,0))]::[(d0, .cells (encStage a0).toArray 33 (0,0))]::H::F)/\i<=(nx*ny).toNat/\(zs.map Task.v=(uptoV i).map (x.L.tileT nd))/\(zs.length=i)/\OwnT encTask 60 9 azs nzs kzs zs czs/\(∀z∈zs,Task.Ok [Gzs] z)) (fun ⟨i,zs,azs,nzs,kzs,czs,Gzs⟩=>((nx*ny).toNat)-i) (0,[],none,0,0,[],[]) ⟨(Sat.nilc z4),om,by rfl,by rfl,a5,(by intro z hz;cases hz)⟩ ?_
  rintro ⟨i,zs,azs,nzs,kzs,czs,Gzs⟩ ρ _ ⟨g0,hi,hE,hzl,hOzs,hDzs⟩
  have hn_zs:=hOzs.len;have hl_zs:=hOzs.le
  refine sR<|pu1<|nT<|seqE<|cD ((i:Int)<(nx*ny)) (fun c5=>?_) (fun c5=>?_)
  rotate_left
  ·refine exitE<|xB<|tN<|seqE<|seqE ?_
   have hi9:i=(nx*ny).toNat:=by omega
   refine rE<|pu1<|sL g0 4 0 (I a0.kind) (isAgg3 _)<|pu1<|nT ?_
   have d5:¬((a0.kind:Int)=4):=e0
   refine cF _ (beq_eq_false_iff_ne.2 d5)<|kS<|pu2<|zE<|retT [.slice azs nzs kzs] ?_
   have e5:=((g0.pick 1 rfl).drops [2,3])
   have hz:zs.map Task.v=x.L.tasks nd:=by unfold Lay.tasks;rw [hst_q_4,if_neg (show ¬a0.v.kind=4 from e0),hnx2,hny2,List.append_nil,hE,hi9]
   exact ⟨_,_,_,_,_,_,rfl,hOzs,hDzs,hz,e5⟩
  refine kT<|seqE<|blockE<|sR<|pu2<|nT<|seqE<|drawP [13,17,18] [(1,⟨c0,0,none⟩,I ((x.L.cut nd).w)),(3,⟨c0,1,none⟩,I ((x.L.cut nd).h)),(7,⟨b,4,none⟩,I x.tw),(11,⟨b,5,none⟩,I x.th)] (Plan.sts [0,2,4,5,6,8,9,10,12]<|Plan.sts [1]<|Plan.sts [3]<|Plan.sts [7]<|Plan.sts [11]<| .fk 13 17 (Plan.sts [14]<|Plan.sts [15]<|Plan.sts [16]<| .ef 17<| .ef 18<|Plan.sts [19]<| .fin) (.ef 13<|Plan.sts [14]<|Plan.sts [15]<|Plan.sts [16]<| .ef 18<|Plan.sts [19]<| .fin)) rfl kr ⟨cI g0 2,cI g0 2,cI g0 3,cI g0 3,trivial⟩ ?_
  have y3:=g0.drew
  refine qU [0,2,4,5,6,8,9,10,12]<|qLd (I ((x.L.cut nd).w)) 0 isAgg3<|qLd (I ((x.L.cut nd).h)) 1 isAgg3<|qLd (I x.tw) 2 isAgg3<|qLd (I x.th) 3 isAgg3<|qF ?_ ?_
  ·refine qO rfl<|cR call17 (p5_tile ((x.L.cut nd).w) ((x.L.cut nd).h) x.tw x.th (i:Int) hfi ⟨om,by rw [<-hnx,<-hny];omega⟩ y3.flat) ?_
   intro _ f5
   refine nilO ⟨dA,?_⟩
   refine qU [14]<|qU [15]<|qU [16]<|qO rfl<|sAlloc f5 zeroValue58 fun g5 _ h5=>nilO ⟨dA,?_⟩
   refine qO rfl<|sTw h5 0 [I ((tileV ((x.L.cut nd).w) ((x.L.cut nd).h) x.tw x.th (i:Int)).x0),I ((tileV ((x.L.cut nd).w) ((x.L.cut nd).h) x.tw x.th (i:Int)).y0),I ((tileV ((x.L.cut nd).w) ((x.L.cut nd).h) x.tw x.th (i:Int)).x1),I ((tileV ((x.L.cut nd).w) ((x.L.cut nd).h) x.tw x.th (i:Int)).y1)] sizeOf58 fun i5 j5=>nilO ⟨dA,?_⟩
   refine qU [19]<|qN ?_
   obtain ⟨r,hr⟩:∃z:Rct,z=(tileV (x.L.cut nd).w (x.L.cut nd).h x.tw x.th (i:Int)):=⟨_,rfl⟩
   have z1:Sat W i5 ([(g5, .cells (encRct r).toArray 58 (0,0))]::Gzs::czs::[(c0, .cells #[I ((x.L.cut nd).w),I ((x.L.cut nd).h),I ((x.L.cut nd).max_)] 54 (0,0))]::[(b, .cells (encLayM x).toArray 51 (0,0))]::[(d0, .cells (encStage a0).toArray 33 (0,0))]::H::F):=by rw [hr];exact j5
   have hin:inP r:=by rw [hr];exact (tile_in hfi om (by rw [<-hnx,<-hny];omega)).1
   have hrt:x.L.tile nd (i:Int)=r:=by rw [hr];rfl
   refine tN<|sR<|pu1<|lA z1 5 0 18 (isAgg33 _) (sizeOf33 _)<|lA z1 0 0 4 (isAgg58 _) (sizeOf58 _) ?_
   have k5:=(z1.pick 4 rfl)
   refine cX call18 (p20_needs (hx.of_mem (mem_flat1 5 (by rfl))) (q:=a0) (hok_q_4.of_mem (mem_flat1 5 (by rfl))) r hg hx2 hW hsq k5.flat1) ?_
   rintro _ _ ⟨_,_,_,_,rfl,l0,l5⟩
   have h0:=l5.unflat2;have hn_az_381:=l0.len;have hl_az_381:=l0.le
   have hnl_az_381:=flat_len2 (s:=a0.v) (r:=r) hg (srcs a0.v) (fun y hy=>(hsq y hy).2.2);have hnm_az_381:=srcs_len a0.v;unfold Lay.needs at hn_az_381
   refine pu1<|zQ<|pu1<|sL h0 6 0 (I a0.kind) (isAgg3 _)<|pu1<|nT<|cE a0.kind 5 (fun m0=>?_) (fun m0=>?_)
   rotate_left
   ·refine kT<|rE<|pu4<|lA h0 2 0 4 (isAgg58 _) (sizeOf58 _)<|pu1 ?_
    have m5:=(h0.picks [1,1])
    refine cX call19 (p20_task (hx.of_mem (mem_flat1 5 (by rfl))) l0 nd 0 r hg hx2 hnd hin om m5.flat2) ?_
    rintro _ _ ⟨b1,a2,rfl,n5,o5,p5⟩
    refine sBS (Sat.unflat2 p5) (encTask b1).toArray runUnderlying38 sizeOf60 zeroValue60 fun _ _ r5=>sApp (nb:=88) r5 hOzs 5 (RdT.blk (enc:=encTask) (sz:=9) (xs:=[b1]) fR 1 0 rfl rfl rfl om) underlying38 (i:=Try.t60) kr fR fun s5 t5 b2 _ u5 v5=>pu1<|nilO ?_
    have how:x.L.own nd (i:Int)=[]:=by unfold Lay.own;rw [hst_q_4,if_neg (show ¬a0.v.kind=5 from m0)]
    have hpt:x.L.part nd=0:=by unfold Lay.part;rw [hst_q_4,if_neg (show ¬a0.v.kind=4 from e0)]
    have htv:b1.v=x.L.tileT nd (i:Int):=by rw [o5];unfold Lay.tileT;rw [hrt,hpt,hst_q_4,how];first|rfl|simp only [List.append_assoc,List.append_nil,List.nil_append]
    refine bN<|tN<|rE<|sAdd (i:Int) 1<|pu1<|nT ?_
    have w5:=((v5.picks [6,6,6,4]).drops [4,5])
    exact ⟨(i+1,(zs++[b1]),s5,(nzs+1),t5,b2,(a2++Gzs)),od,alA,(Sat.perm (cs':=(a2++Gzs)::(b2::[(c0, .cells #[I ((x.L.cut nd).w),I ((x.L.cut nd).h),I ((x.L.cut nd).max_)] 54 (0,0))]::[(b, .cells (encLayM x).toArray 51 (0,0))]::[(d0, .cells (encStage a0).toArray 33 (0,0))]::H::F)) (show Sat W _ (a2::Gzs::b2::[(c0, .cells #[I ((x.L.cut nd).w),I ((x.L.cut nd).h),I ((x.L.cut nd).max_)] 54 (0,0))]::[(b, .cells (encLayM x).toArray 51 (0,0))]::[(d0, .cells (encStage a0).toArray 33 (0,0))]::H::F) from w5) (by simp)),om,(by rw [List.map_append,hE,upto_map_snoc];simp only [List.map_cons,List.map_nil];rw [htv]),(by simp;omega),u5,(by
      intro z hz
      rcases List.mem_append.1 hz with h|h
      ·exact (hDzs z h).of_mem mS
      ·simp only [List.mem_singleton] at h;subst h;exact (n5.of_mem mS))⟩
   refine seqE<|seqE ?_
   have htm:((i:Int)).tmod nx=(i:Int)%nx:=Int.tmod_eq_emod_of_nonneg om
   refine rE<|pu2<|sRem (i:Int) nx<|pu1<|nT<|cD (((i:Int).tmod nx)>0) (fun y5=>?_) (fun y5=>?_)
   rotate_left
   ·refine kS<|pu3<|nT<|cD ((i:Int)>=nx) (fun z5=>?_) (fun z5=>?_)
    rotate_left
    ·refine kT<|rE<|pu4<|lA h0 2 0 4 (isAgg58 _) (sizeOf58 _)<|pu1 ?_
     have a6:=(h0.picks [1,1])
     refine cX call19 (p20_task (hx.of_mem (mem_flat1 5 (by rfl))) l0 nd 0 r hg hx2 hnd hin om a6.flat2) ?_
     rintro _ _ ⟨c1,c2,rfl,b6,c6,d6⟩
     refine sBS (Sat.unflat2 d6) (encTask c1).toArray runUnderlying38 sizeOf60 zeroValue60 fun _ _ f6=>sApp (nb:=88) f6 hOzs 5 (RdT.blk (enc:=encTask) (sz:=9) (xs:=[c1]) fR 1 0 rfl rfl rfl om) underlying38 (i:=Try.t60) kr fR fun g6 h6 d2 _ i6 j6=>pu1<|nilO ?_
     have how:x.L.own nd (i:Int)=([]:List Int)++([]:List Int):=by unfold Lay.own;rw [hst_q_4,if_pos (show a0.v.kind=5 from m0),hnx2,<-hfr,hf1,if_neg (by rw [<-htm];omega),if_neg om]
     have hpt:x.L.part nd=0:=by unfold Lay.part;rw [hst_q_4,if_neg (show ¬a0.v.kind=4 from e0)]
     have htv:c1.v=x.L.tileT nd (i:Int):=by rw [c6];unfold Lay.tileT;rw [hrt,hpt,hst_q_4,how];first|rfl|simp only [List.append_assoc,List.append_nil,List.nil_append]
     refine bN<|tN<|rE<|sAdd (i:Int) 1<|pu1<|nT ?_
     have k6:=((j6.picks [6,6,6,4]).drops [4,5])
     exact ⟨(i+1,(zs++[c1]),g6,(nzs+1),h6,d2,(c2++Gzs)),od,alA,(Sat.perm (cs':=(c2++Gzs)::(d2::[(c0, .cells #[I ((x.L.cut nd).w),I ((x.L.cut nd).h),I ((x.L.cut nd).max_)] 54 (0,0))]::[(b, .cells (encLayM x).toArray 51 (0,0))]::[(d0, .cells (encStage a0).toArray 33 (0,0))]::H::F)) (show Sat W _ (c2::Gzs::d2::[(c0, .cells #[I ((x.L.cut nd).w),I ((x.L.cut nd).h),I ((x.L.cut nd).max_)] 54 (0,0))]::[(b, .cells (encLayM x).toArray 51 (0,0))]::[(d0, .cells (encStage a0).toArray 33 (0,0))]::H::F) from k6) (by simp)),om,(by rw [List.map_append,hE,upto_map_snoc];simp only [List.map_cons,List.map_nil];rw [htv]),(by simp;omega),i6,(by
       intro z hz
       rcases List.mem_append.1 hz with h|h
       ·exact (hDzs z h).of_mem mS
       ·simp only [List.mem_singleton] at h;subst h;exact (b6.of_mem mS))⟩
    refine rE<|pu3<|sAdd b0 (i:Int)<|pu1<|sSub (b0+(i:Int)) nx<|sBS h0 #[I ((b0+(i:Int))-nx)] runUnderlying23 sizeOf3 zeroValue3 fun _ _ m6=>sApp (nb:=8) m6 l0 1 (RdT.blk (enc:=Go.E.encI) (sz:=1) (xs:=[((b0+(i:Int))-nx)]) fR 1 0 rfl rfl rfl om) underlying23 (i:=Try.t3) kr fR fun _ _ _ _ n6 z3=>pu1<|nT<|rE<|pu4<|lA z3 3 0 4 (isAgg58 _) (sizeOf58 _)<|pu1 ?_
    have o6:=(z3.picks [2,2])
    refine cX call19 (p20_task (hx.of_mem (mem_flat1 6 (by rfl))) n6 nd 0 r hg hx2 hnd hin om o6.flat2) ?_
    rintro _ _ ⟨d1,e2,rfl,p6,q6,r6⟩
    refine sBS (Sat.unflat2 r6) (encTask d1).toArray runUnderlying38 sizeOf60 zeroValue60 fun _ _ t6=>sApp (nb:=88) t6 hOzs 6 (RdT.blk (enc:=encTask) (sz:=9) (xs:=[d1]) fR 1 0 rfl rfl rfl om) underlying38 (i:=Try.t60) kr fR fun u6 v6 f2 _ w6 x6=>pu1<|nilO ?_
    have how:x.L.own nd (i:Int)=([]:List Int)++[b0+(i:Int)-nx]:=by unfold Lay.own;rw [hst_q_4,if_pos (show a0.v.kind=5 from m0),hnx2,<-hfr,hf1,if_neg (by rw [<-htm];omega),if_pos om]
    have hpt:x.L.part nd=0:=by unfold Lay.part;rw [hst_q_4,if_neg (show ¬a0.v.kind=4 from e0)]
    have htv:d1.v=x.L.tileT nd (i:Int):=by rw [q6];unfold Lay.tileT;rw [hrt,hpt,hst_q_4,how];first|rfl|simp only [List.append_assoc,List.append_nil,List.nil_append]
    refine bN<|tN<|rE<|sAdd (i:Int) 1<|pu1<|nT ?_
    have y6:=((x6.picks [7,7,7,4]).drops [4,5,5])
    exact ⟨(i+1,(zs++[d1]),u6,(nzs+1),v6,f2,(e2++Gzs)),od,alA,(Sat.perm (cs':=(e2++Gzs)::(f2::[(c0, .cells #[I ((x.L.cut nd).w),I ((x.L.cut nd).h),I ((x.L.cut nd).max_)] 54 (0,0))]::[(b, .cells (encLayM x).toArray 51 (0,0))]::[(d0, .cells (encStage a0).toArray 33 (0,0))]::H::F)) (show Sat W _ (e2::Gzs::f2::[(c0, .cells #[I ((x.L.cut nd).w),I ((x.L.cut nd).h),I ((x.L.cut nd).max_)] 54 (0,0))]::[(b, .cells (encLayM x).toArray 51 (0,0))]::[(d0, .cells (encStage a0).toArray 33 (0,0))]::H::F) from y6) (by simp)),om,(by rw [List.map_append,hE,upto_map_snoc];simp only [List.map_cons,List.map_nil];rw [htv]),(by simp;omega),w6,(by
      intro z hz
      rcases List.mem_append.1 hz with h|h
      ·exact (hDzs z h).of_mem mS
      ·simp only [List.mem_singleton] at h;subst h;exact (p6.of_mem mS))⟩
   refine rE<|pu3<|sAdd b0 (i:Int)<|sSub (b0+(i:Int)) 1<|sBS h0 #[I ((b0+(i:Int))-1)] runUnderlying23 sizeOf3 zeroValue3 fun _ _ a7=>sApp (nb:=8) a7 l0 1 (RdT.blk (enc:=Go.E.encI) (sz:=1) (xs:=[((b0+(i:Int))-1)]) fR 1 0 rfl rfl rfl om) underlying23 (i:=Try.t3) kr fR fun _ _ _ _ a4 g2=>pu1<|zS<|pu3<|nT<|cD ((i:Int)>=nx) (fun b7=>?_) (fun b7=>?_)
   rotate_left
   ·refine kT<|rE<|pu4<|lA g2 3 0 4 (isAgg58 _) (sizeOf58 _)<|pu1 ?_
    have c7:=(g2.picks [2,2])
    refine cX call19 (p20_task (hx.of_mem (mem_flat1 6 (by rfl))) a4 nd 0 r hg hx2 hnd hin om c7.flat2) ?_
    rintro _ _ ⟨e1,h2,rfl,d7,e7,f7⟩
    refine sBS (Sat.unflat2 f7) (encTask e1).toArray runUnderlying38 sizeOf60 zeroValue60 fun _ _ h7=>sApp (nb:=88) h7 hOzs 6 (RdT.blk (enc:=encTask) (sz:=9) (xs:=[e1]) fR 1 0 rfl rfl rfl om) underlying38 (i:=Try.t60) kr fR fun i7 j7 i2 _ k7 l7=>pu1<|nilO ?_
    have how:x.L.own nd (i:Int)=[b0+(i:Int)-1]++([]:List Int):=by unfold Lay.own;rw [hst_q_4,if_pos (show a0.v.kind=5 from m0),hnx2,<-hfr,hf1,if_pos (by rw [<-htm];omega),if_neg om]
    have hpt:x.L.part nd=0:=by unfold Lay.part;rw [hst_q_4,if_neg (show ¬a0.v.kind=4 from e0)]
    have htv:e1.v=x.L.tileT nd (i:Int):=by rw [e7];unfold Lay.tileT;rw [hrt,hpt,hst_q_4,how];first|rfl|simp only [List.append_assoc,List.append_nil,List.nil_append]
    refine bN<|tN<|rE<|sAdd (i:Int) 1<|pu1<|nT ?_
    have m7:=((l7.picks [7,7,7,4]).drops [4,5,5])
    exact ⟨(i+1,(zs++[e1]),i7,(nzs+1),j7,i2,(h2++Gzs)),od,alA,(Sat.perm (cs':=(h2++Gzs)::(i2::[(c0, .cells #[I ((x.L.cut nd).w),I ((x.L.cut nd).h),I ((x.L.cut nd).max_)] 54 (0,0))]::[(b, .cells (encLayM x).toArray 51 (0,0))]::[(d0, .cells (encStage a0).toArray 33 (0,0))]::H::F)) (show Sat W _ (h2::Gzs::i2::[(c0, .cells #[I ((x.L.cut nd).w),I ((x.L.cut nd).h),I ((x.L.cut nd).max_)] 54 (0,0))]::[(b, .cells (encLayM x).toArray 51 (0,0))]::[(d0, .cells (encStage a0).toArray 33 (0,0))]::H::F) from m7) (by simp)),om,(by rw [List.map_append,hE,upto_map_snoc];simp only [List.map_cons,List.map_nil];rw [htv]),(by simp;omega),k7,(by
      intro z hz
      rcases List.mem_append.1 hz with h|h
      ·exact (hDzs z h).of_mem mS
      ·simp only [List.mem_singleton] at h;subst h;exact (d7.of_mem mS))⟩
   refine rE<|pu3<|sAdd b0 (i:Int)<|pu1<|sSub (b0+(i:Int)) nx<|sBS g2 #[I ((b0+(i:Int))-nx)] runUnderlying23 sizeOf3 zeroValue3 fun _ _ o7=>sApp (nb:=8) o7 a4 2 (RdT.blk (enc:=Go.E.encI) (sz:=1) (xs:=[((b0+(i:Int))-nx)]) fR 1 0 rfl rfl rfl om) underlying23 (i:=Try.t3) kr fR fun _ _ _ _ p7 b4=>pu1<|nT<|rE<|pu4<|lA b4 4 0 4 (isAgg58 _) (sizeOf58 _)<|pu1 ?_
   have q7:=(b4.picks [3,3])
   refine cX call19 (p20_task (hx.of_mem (mem_flat1 7 (by rfl))) p7 nd 0 r hg hx2 hnd hin om q7.flat2) ?_
   rintro _ _ ⟨f1,j2,rfl,r7,s7,t7⟩
   refine sBS (Sat.unflat2 t7) (encTask f1).toArray runUnderlying38 sizeOf60 zeroValue60 fun _ _ v7=>sApp (nb:=88) v7 hOzs 7 (RdT.blk (enc:=encTask) (sz:=9) (xs:=[f1]) fR 1 0 rfl rfl rfl om) underlying38 (i:=Try.t60) kr fR fun w7 x7 k2 _ y7 z7=>pu1<|nilO ?_
   have how:x.L.own nd (i:Int)=[b0+(i:Int)-1]++[b0+(i:Int)-nx]:=by unfold Lay.own;rw [hst_q_4,if_pos (show a0.v.kind=5 from m0),hnx2,<-hfr,hf1,if_pos (by rw [<-htm];omega),if_pos om]
   have hpt:x.L.part nd=0:=by unfold Lay.part;rw [hst_q_4,if_neg (show ¬a0.v.kind=4 from e0)]
   have htv:f1.v=x.L.tileT nd (i:Int):=by rw [s7];unfold Lay.tileT;rw [hrt,hpt,hst_q_4,how];first|rfl|simp only [List.append_assoc,List.append_nil,List.nil_append]
   refine bN<|tN<|rE<|sAdd (i:Int) 1<|pu1<|nT ?_
   have a8:=((z7.picks [8,8,8,4]).drops [4,5,5,5])
   exact ⟨(i+1,(zs++[f1]),w7,(nzs+1),x7,k2,(j2++Gzs)),od,alA,(Sat.perm (cs':=(j2++Gzs)::(k2::[(c0, .cells #[I ((x.L.cut nd).w),I ((x.L.cut nd).h),I ((x.L.cut nd).max_)] 54 (0,0))]::[(b, .cells (encLayM x).toArray 51 (0,0))]::[(d0, .cells (encStage a0).toArray 33 (0,0))]::H::F)) (show Sat W _ (j2::Gzs::k2::[(c0, .cells #[I ((x.L.cut nd).w),I ((x.L.cut nd).h),I ((x.L.cut nd).max_)] 54 (0,0))]::[(b, .cells (encLayM x).toArray 51 (0,0))]::[(d0, .cells (encStage a0).toArray 33 (0,0))]::H::F) from a8) (by simp)),om,(by rw [List.map_append,hE,upto_map_snoc];simp only [List.map_cons,List.map_nil];rw [htv]),(by simp;omega),y7,(by
     intro z hz
     rcases List.mem_append.1 hz with h|h
     ·exact (hDzs z h).of_mem mS
     ·simp only [List.mem_singleton] at h;subst h;exact (r7.of_mem mS))⟩
  refine qO rfl<|sAlloc y3 zeroValue58 fun c8 _ v0=>nilO ⟨⟨cI v0 3,cI v0 3,cI v0 4,cI v0 4,trivial⟩,?_⟩
  refine qO rfl<|cR call17 (p5_tile ((x.L.cut nd).w) ((x.L.cut nd).h) x.tw x.th (i:Int) hfi ⟨om,by rw [<-hnx,<-hny];omega⟩ v0.flat) ?_
  intro _ d8
  refine nilO ⟨dA,?_⟩
  refine qU [14]<|qU [15]<|qU [16]<|qO rfl<|sTw d8 0 [I ((tileV ((x.L.cut nd).w) ((x.L.cut nd).h) x.tw x.th (i:Int)).x0),I ((tileV ((x.L.cut nd).w) ((x.L.cut nd).h) x.tw x.th (i:Int)).y0),I ((tileV ((x.L.cut nd).w) ((x.L.cut nd).h) x.tw x.th (i:Int)).x1),I ((tileV ((x.L.cut nd).w) ((x.L.cut nd).h) x.tw x.th (i:Int)).y1)] sizeOf58 fun e8 f8=>nilO ⟨dA,?_⟩
  refine qU [19]<|qN ?_
  obtain ⟨r,hr⟩:∃z:Rct,z=(tileV (x.L.cut nd).w (x.L.cut nd).h x.tw x.th (i:Int)):=⟨_,rfl⟩
  have l2:Sat W e8 ([(c8, .cells (encRct r).toArray 58 (0,0))]::Gzs::czs::[(c0, .cells #[I ((x.L.cut nd).w),I ((x.L.cut nd).h),I ((x.L.cut nd).max_)] 54 (0,0))]::[(b, .cells (encLayM x).toArray 51 (0,0))]::[(d0, .cells (encStage a0).toArray 33 (0,0))]::H::F):=by rw [hr];exact f8
  have hin:inP r:=by rw [hr];exact (tile_in hfi om (by rw [<-hnx,<-hny];omega)).1
  have hrt:x.L.tile nd (i:Int)=r:=by rw [hr];rfl
  refine tN<|sR<|pu1<|lA l2 5 0 18 (isAgg33 _) (sizeOf33 _)<|lA l2 0 0 4 (isAgg58 _) (sizeOf58 _) ?_
  have g8:=(l2.pick 4 rfl)
  refine cX call18 (p20_needs (hx.of_mem (mem_flat1 5 (by rfl))) (q:=a0) (hok_q_4.of_mem (mem_flat1 5 (by rfl))) r hg hx2 hW hsq g8.flat1) ?_
  rintro _ _ ⟨_,_,_,_,rfl,n0,h8⟩
  have i0:=h8.unflat2;have hn_az_525:=n0.len;have hl_az_525:=n0.le
  have hnl_az_525:=flat_len2 (s:=a0.v) (r:=r) hg (srcs a0.v) (fun y hy=>(hsq y hy).2.2);have hnm_az_525:=srcs_len a0.v;unfold Lay.needs at hn_az_525
  refine pu1<|zQ<|pu1<|sL i0 6 0 (I a0.kind) (isAgg3 _)<|pu1<|nT<|cE a0.kind 5 (fun o0=>?_) (fun o0=>?_)
  rotate_left
  ·refine kT<|rE<|pu4<|lA i0 2 0 4 (isAgg58 _) (sizeOf58 _)<|pu1 ?_
   have i8:=(i0.picks [1,1])
   refine cX call19 (p20_task (hx.of_mem (mem_flat1 5 (by rfl))) n0 nd 0 r hg hx2 hnd hin om i8.flat2) ?_
   rintro _ _ ⟨g1,m2,rfl,j8,k8,l8⟩
   refine sBS (Sat.unflat2 l8) (encTask g1).toArray runUnderlying38 sizeOf60 zeroValue60 fun _ _ n8=>sApp (nb:=88) n8 hOzs 5 (RdT.blk (enc:=encTask) (sz:=9) (xs:=[g1]) fR 1 0 rfl rfl rfl om) underlying38 (i:=Try.t60) kr fR fun o8 p8 n2 _ q8 r8=>pu1<|nilO ?_
   have how:x.L.own nd (i:Int)=[]:=by unfold Lay.own;rw [hst_q_4,if_neg (show ¬a0.v.kind=5 from o0)]
   have hpt:x.L.part nd=0:=by unfold Lay.part;rw [hst_q_4,if_neg (show ¬a0.v.kind=4 from e0)]
   have htv:g1.v=x.L.tileT nd (i:Int):=by rw [k8];unfold Lay.tileT;rw [hrt,hpt,hst_q_4,how];first|rfl|simp only [List.append_assoc,List.append_nil,List.nil_append]
   refine bN<|tN<|rE<|sAdd (i:Int) 1<|pu1<|nT ?_
   have s8:=((r8.picks [6,6,6,4]).drops [4,5])
   exact ⟨(i+1,(zs++[g1]),o8,(nzs+1),p8,n2,(m2++Gzs)),od,alA,(Sat.perm (cs':=(m2++Gzs)::(n2::[(c0, .cells #[I ((x.L.cut nd).w),I ((x.L.cut nd).h),I ((x.L.cut nd).max_)] 54 (0,0))]::[(b, .cells (encLayM x).toArray 51 (0,0))]::[(d0, .cells (encStage a0).toArray 33 (0,0))]::H::F)) (show Sat W _ (m2::Gzs::n2::[(c0, .cells #[I ((x.L.cut nd).w),I ((x.L.cut nd).h),I ((x.L.cut nd).max_)] 54 (0,0))]::[(b, .cells (encLayM x).toArray 51 (0,0))]::[(d0, .cells (encStage a0).toArray 33 (0,0))]::H::F) from s8) (by simp)),om,(by rw [List.map_append,hE,upto_map_snoc];simp only [List.map_cons,List.map_nil];rw [htv]),(by simp;omega),q8,(by
     intro z hz
     rcases List.mem_append.1 hz with h|h
     ·exact (hDzs z h).of_mem mS
     ·simp only [List.mem_singleton] at h;subst h;exact (j8.of_mem mS))⟩
  refine seqE<|seqE ?_
  have htm:((i:Int)).tmod nx=(i:Int)%nx:=Int.tmod_eq_emod_of_nonneg om
  refine rE<|pu2<|sRem (i:Int) nx<|pu1<|nT<|cD (((i:Int).tmod nx)>0) (fun u8=>?_) (fun u8=>?_)
  rotate_left
  ·refine kS<|pu3<|nT<|cD ((i:Int)>=nx) (fun v8=>?_) (fun v8=>?_)
   rotate_left
   ·refine kT<|rE<|pu4<|lA i0 2 0 4 (isAgg58 _) (sizeOf58 _)<|pu1 ?_
    have w8:=(i0.picks [1,1])
    refine cX call19 (p20_task (hx.of_mem (mem_flat1 5 (by rfl))) n0 nd 0 r hg hx2 hnd hin om w8.flat2) ?_
    rintro _ _ ⟨h1,o2,rfl,x8,y8,z8⟩
    refine sBS (Sat.unflat2 z8) (encTask h1).toArray runUnderlying38 sizeOf60 zeroValue60 fun _ _ b9=>sApp (nb:=88) b9 hOzs 5 (RdT.blk (enc:=encTask) (sz:=9) (xs:=[h1]) fR 1 0 rfl rfl rfl om) underlying38 (i:=Try.t60) kr fR fun c9 d9 p2 _ e9 f9=>pu1<|nilO ?_
    have how:x.L.own nd (i:Int)=([]:List Int)++([]:List Int):=by unfold Lay.own;rw [hst_q_4,if_pos (show a0.v.kind=5 from o0),hnx2,<-hfr,hf1,if_neg (by rw [<-htm];omega),if_neg om]
    have hpt:x.L.part nd=0:=by unfold Lay.part;rw [hst_q_4,if_neg (show ¬a0.v.kind=4 from e0)]
    have htv:h1.v=x.L.tileT nd (i:Int):=by rw [y8];unfold Lay.tileT;rw [hrt,hpt,hst_q_4,how];first|rfl|simp only [List.append_assoc,List.append_nil,List.nil_append]
    refine bN<|tN<|rE<|sAdd (i:Int) 1<|pu1<|nT ?_
    have g9:=((f9.picks [6,6,6,4]).drops [4,5])
    exact ⟨(i+1,(zs++[h1]),c9,(nzs+1),d9,p2,(o2++Gzs)),od,alA,(Sat.perm (cs':=(o2++Gzs)::(p2::[(c0, .cells #[I ((x.L.cut nd).w),I ((x.L.cut nd).h),I ((x.L.cut nd).max_)] 54 (0,0))]::[(b, .cells (encLayM x).toArray 51 (0,0))]::[(d0, .cells (encStage a0).toArray 33 (0,0))]::H::F)) (show Sat W _ (o2::Gzs::p2::[(c0, .cells #[I ((x.L.cut nd).w),I ((x.L.cut nd).h),I ((x.L.cut nd).max_)] 54 (0,0))]::[(b, .cells (encLayM x).toArray 51 (0,0))]::[(d0, .cells (encStage a0).toArray 33 (0,0))]::H::F) from g9) (by simp)),om,(by rw [List.map_append,hE,upto_map_snoc];simp only [List.map_cons,List.map_nil];rw [htv]),(by simp;omega),e9,(by
      intro z hz
      rcases List.mem_append.1 hz with h|h
      ·exact (hDzs z h).of_mem mS
      ·simp only [List.mem_singleton] at h;subst h;exact (x8.of_mem mS))⟩
   refine rE<|pu3<|sAdd b0 (i:Int)<|pu1<|sSub (b0+(i:Int)) nx<|sBS i0 #[I ((b0+(i:Int))-nx)] runUnderlying23 sizeOf3 zeroValue3 fun _ _ i9=>sApp (nb:=8) i9 n0 1 (RdT.blk (enc:=Go.E.encI) (sz:=1) (xs:=[((b0+(i:Int))-nx)]) fR 1 0 rfl rfl rfl om) underlying23 (i:=Try.t3) kr fR fun _ _ _ _ j9 c4=>pu1<|nT<|rE<|pu4<|lA c4 3 0 4 (isAgg58 _) (sizeOf58 _)<|pu1 ?_
   have k9:=(c4.picks [2,2])
   refine cX call19 (p20_task (hx.of_mem (mem_flat1 6 (by rfl))) j9 nd 0 r hg hx2 hnd hin om k9.flat2) ?_
   rintro _ _ ⟨i1,q2,rfl,l9,m9,n9⟩
   refine sBS (Sat.unflat2 n9) (encTask i1).toArray runUnderlying38 sizeOf60 zeroValue60 fun _ _ p9=>sApp (nb:=88) p9 hOzs 6 (RdT.blk (enc:=encTask) (sz:=9) (xs:=[i1]) fR 1 0 rfl rfl rfl om) underlying38 (i:=Try.t60) kr fR fun q9 r9 r2 _ s9 t9=>pu1<|nilO ?_
   have how:x.L.own nd (i:Int)=([]:List Int)++[b0+(i:Int)-nx]:=by unfold Lay.own;rw [hst_q_4,if_pos (show a0.v.kind=5 from o0),hnx2,<-hfr,hf1,if_neg (by rw [<-htm];omega),if_pos om]
   have hpt:x.L.part nd=0:=by unfold Lay.part;rw [hst_q_4,if_neg (show ¬a0.v.kind=4 from e0)]
   have htv:i1.v=x.L.tileT nd (i:Int):=by rw [m9];unfold Lay.tileT;rw [hrt,hpt,hst_q_4,how];first|rfl|simp only [List.append_assoc,List.append_nil,List.nil_append]
   refine bN<|tN<|rE<|sAdd (i:Int) 1<|pu1<|nT ?_
   have u9:=((t9.picks [7,7,7,4]).drops [4,5,5])
   exact ⟨(i+1,(zs++[i1]),q9,(nzs+1),r9,r2,(q2++Gzs)),od,alA,(Sat.perm (cs':=(q2++Gzs)::(r2::[(c0, .cells #[I ((x.L.cut nd).w),I ((x.L.cut nd).h),I ((x.L.cut nd).max_)] 54 (0,0))]::[(b, .cells (encLayM x).toArray 51 (0,0))]::[(d0, .cells (encStage a0).toArray 33 (0,0))]::H::F)) (show Sat W _ (q2::Gzs::r2::[(c0, .cells #[I ((x.L.cut nd).w),I ((x.L.cut nd).h),I ((x.L.cut nd).max_)] 54 (0,0))]::[(b, .cells (encLayM x).toArray 51 (0,0))]::[(d0, .cells (encStage a0).toArray 33 (0,0))]::H::F) from u9) (by simp)),om,(by rw [List.map_append,hE,upto_map_snoc];simp only [List.map_cons,List.map_nil];rw [htv]),(by simp;omega),s9,(by
     intro z hz
     rcases List.mem_append.1 hz with h|h
     ·exact (hDzs z h).of_mem mS
     ·simp only [List.mem_singleton] at h;subst h;exact (l9.of_mem mS))⟩
  refine rE<|pu3<|sAdd b0 (i:Int)<|sSub (b0+(i:Int)) 1<|sBS i0 #[I ((b0+(i:Int))-1)] runUnderlying23 sizeOf3 zeroValue3 fun _ _ w9=>sApp (nb:=8) w9 n0 1 (RdT.blk (enc:=Go.E.encI) (sz:=1) (xs:=[((b0+(i:Int))-1)]) fR 1 0 rfl rfl rfl om) underlying23 (i:=Try.t3) kr fR fun _ _ _ _ d4 s2=>pu1<|zS<|pu3<|nT<|cD ((i:Int)>=nx) (fun x9=>?_) (fun x9=>?_)
  rotate_left
  ·refine kT<|rE<|pu4<|lA s2 3 0 4 (isAgg58 _) (sizeOf58 _)<|pu1 ?_
   have y9:=(s2.picks [2,2])
   refine cX call19 (p20_task (hx.of_mem (mem_flat1 6 (by rfl))) d4 nd 0 r hg hx2 hnd hin om y9.flat2) ?_
   rintro _ _ ⟨j1,t2,rfl,z9,aa,ba⟩
   refine sBS (Sat.unflat2 ba) (encTask j1).toArray runUnderlying38 sizeOf60 zeroValue60 fun _ _ da=>sApp (nb:=88) da hOzs 6 (RdT.blk (enc:=encTask) (sz:=9) (xs:=[j1]) fR 1 0 rfl rfl rfl om) underlying38 (i:=Try.t60) kr fR fun ea fa u2 _ ga ha=>pu1<|nilO ?_
   have how:x.L.own nd (i:Int)=[b0+(i:Int)-1]++([]:List Int):=by unfold Lay.own;rw [hst_q_4,if_pos (show a0.v.kind=5 from o0),hnx2,<-hfr,hf1,if_pos (by rw [<-htm];omega),if_neg om]
   have hpt:x.L.part nd=0:=by unfold Lay.part;rw [hst_q_4,if_neg (show ¬a0.v.kind=4 from e0)]
   have htv:j1.v=x.L.tileT nd (i:Int):=by rw [aa];unfold Lay.tileT;rw [hrt,hpt,hst_q_4,how];first|rfl|simp only [List.append_assoc,List.append_nil,List.nil_append]
   refine bN<|tN<|rE<|sAdd (i:Int) 1<|pu1<|nT ?_
   have ia:=((ha.picks [7,7,7,4]).drops [4,5,5])
   exact ⟨(i+1,(zs++[j1]),ea,(nzs+1),fa,u2,(t2++Gzs)),od,alA,(Sat.perm (cs':=(t2++Gzs)::(u2::[(c0, .cells #[I ((x.L.cut nd).w),I ((x.L.cut nd).h),I ((x.L.cut nd).max_)] 54 (0,0))]::[(b, .cells (encLayM x).toArray 51 (0,0))]::[(d0, .cells (encStage a0).toArray 33 (0,0))]::H::F)) (show Sat W _ (t2::Gzs::u2::[(c0, .cells #[I ((x.L.cut nd).w),I ((x.L.cut nd).h),I ((x.L.cut nd).max_)] 54 (0,0))]::[(b, .cells (encLayM x).toArray 51 (0,0))]::[(d0, .cells (encStage a0).toArray 33 (0,0))]::H::F) from ia) (by simp)),om,(by rw [List.map_append,hE,upto_map_snoc];simp only [List.map_cons,List.map_nil];rw [htv]),(by simp;omega),ga,(by
     intro z hz
     rcases List.mem_append.1 hz with h|h
     ·exact (hDzs z h).of_mem mS
     ·simp only [List.mem_singleton] at h;subst h;exact (z9.of_mem mS))⟩
  refine rE<|pu3<|sAdd b0 (i:Int)<|pu1<|sSub (b0+(i:Int)) nx<|sBS s2 #[I ((b0+(i:Int))-nx)] runUnderlying23 sizeOf3 zeroValue3 fun _ _ ka=>sApp (nb:=8) ka d4 2 (RdT.blk (enc:=Go.E.encI) (sz:=1) (xs:=[((b0+(i:Int))-nx)]) fR 1 0 rfl rfl rfl om) underlying23 (i:=Try.t3) kr fR fun _ _ _ _ la e4=>pu1<|nT<|rE<|pu4<|lA e4 4 0 4 (isAgg58 _) (sizeOf58 _)<|pu1 ?_
  have ma:=(e4.picks [3,3])
  refine cX call19 (p20_task (hx.of_mem (mem_flat1 7 (by rfl))) la nd 0 r hg hx2 hnd hin om ma.flat2) ?_
  rintro _ _ ⟨k1,v2,rfl,na,oa,pa⟩
  refine sBS (Sat.unflat2 pa) (encTask k1).toArray runUnderlying38 sizeOf60 zeroValue60 fun _ _ ra=>sApp (nb:=88) ra hOzs 7 (RdT.blk (enc:=encTask) (sz:=9) (xs:=[k1]) fR 1 0 rfl rfl rfl om) underlying38 (i:=Try.t60) kr fR fun sa ta w2 _ ua va=>pu1<|nilO ?_
  have how:x.L.own nd (i:Int)=[b0+(i:Int)-1]++[b0+(i:Int)-nx]:=by unfold Lay.own;rw [hst_q_4,if_pos (show a0.v.kind=5 from o0),hnx2,<-hfr,hf1,if_pos (by rw [<-htm];omega),if_pos om]
  have hpt:x.L.part nd=0:=by unfold Lay.part;rw [hst_q_4,if_neg (show ¬a0.v.kind=4 from e0)]
  have htv:k1.v=x.L.tileT nd (i:Int):=by rw [oa];unfold Lay.tileT;rw [hrt,hpt,hst_q_4,how];first|rfl|simp only [List.append_assoc,List.append_nil,List.nil_append]
  refine bN<|tN<|rE<|sAdd (i:Int) 1<|pu1<|nT ?_
  have wa:=((va.picks [8,8,8,4]).drops [4,5,5,5])
  exact ⟨(i+1,(zs++[k1]),sa,(nzs+1),ta,w2,(v2++Gzs)),od,alA,(Sat.perm (cs':=(v2++Gzs)::(w2::[(c0, .cells #[I ((x.L.cut nd).w),I ((x.L.cut nd).h),I ((x.L.cut nd).max_)] 54 (0,0))]::[(b, .cells (encLayM x).toArray 51 (0,0))]::[(d0, .cells (encStage a0).toArray 33 (0,0))]::H::F)) (show Sat W _ (v2::Gzs::w2::[(c0, .cells #[I ((x.L.cut nd).w),I ((x.L.cut nd).h),I ((x.L.cut nd).max_)] 54 (0,0))]::[(b, .cells (encLayM x).toArray 51 (0,0))]::[(d0, .cells (encStage a0).toArray 33 (0,0))]::H::F) from wa) (by simp)),om,(by rw [List.map_append,hE,upto_map_snoc];simp only [List.map_cons,List.map_nil];rw [htv]),(by simp;omega),ua,(by
    intro z hz
    rcases List.mem_append.1 hz with h|h
    ·exact (hDzs z h).of_mem mS
    ·simp only [List.mem_singleton] at h;subst h;exact (na.of_mem mS))⟩
 refine rE<|pu1<|zS<|pu1<|zQ<|pu2<|sMul nx ny<|pu1<|nT<|blockE ?_
 have ya:=Sat.nilc u0
 have za:=OwnT.nil (enc:=encTask) (E:=60) (sz:=9) fR
 refine loopA (γ:=Nat×(List Task)×(Option Addr)×Nat×Nat×Chunk×Chunk) (fun ⟨i,zs,azs,nzs,kzs,czs,Gzs⟩=>[(0,Pt b 0),(1,I nd),(5,Pt d0 0),(6,Pt c0 0),(7,I nx),(8,I ny),(9,I b0),(10,I 1),(51,I (nx*ny)),(52,I (i:Int)),(11, .slice azs nzs kzs)]) (fun ⟨i,zs,azs,nzs,kzs,czs,Gzs⟩ w=>Sat W w (Gzs::czs::[(c0, .cells #[I ((x.L.cut nd).w),I ((x.L.cut nd).h),I ((x.L.cut nd).max_)] 54 (0,0))]::[(b, .cells (encLayM x).toArray 51 (0,0))]::[(d0, .cells (encStage a0).toArray 33 (0,0))]::H::F)/\i<=(nx*ny).toNat/\(zs.map Task.v=(uptoV i).map (x.L.tileT nd))/\(zs.length=i)/\OwnT encTask 60 9 azs nzs kzs zs czs/\(∀z∈zs,Task.Ok [Gzs] z)) (fun ⟨i,zs,azs,nzs,kzs,czs,Gzs⟩=>((nx*ny).toNat)-i) (0,[],none,0,0,[],[]) ⟨(Sat.nilc ya),om,by rfl,by rfl,za,(by intro z hz;cases hz)⟩ ?_
 rintro ⟨i,zs,azs,nzs,kzs,czs,Gzs⟩ ρ _ ⟨f0,hi,hE,hzl,hOzs,hDzs⟩
 have hn_zs:=hOzs.len;have hl_zs:=hOzs.le
 refine sR<|pu1<|nT<|seqE<|cD ((i:Int)<(nx*ny)) (fun bb=>?_) (fun bb=>?_)
 rotate_left
 ·refine exitE<|xB<|tN<|seqE<|seqE ?_
  have hi9:i=(nx*ny).toNat:=by omega
  refine rE<|pu1<|sL f0 4 0 (I a0.kind) (isAgg3 _)<|pu1<|nT ?_
  have cb:(a0.kind:Int)=4:=e0
  refine cT _ (beq_iff_eq.2 cb)<|sR<|pu1<|sL f0 4 15 (I a0.bins) (isAgg3 _)<|pu1<|sAlloc f0 zeroValue58 fun l1 _ db=>?_
  refine sTw db 0 [I 0,I 0,I a0.bins,I 1] sizeOf58 fun _ w0=>nT ?_
  have hbk:=hg.byt hnd;rw [hst_q_4] at hbk;unfold bytOK at hbk;simp only [Stage.v] at hbk;have hin:inP (⟨0,0,a0.bins,1⟩:Rct):=by unfold inP;dsimp only;omega
  have hcn:x.L.cnt nd=nx*ny+1:=by unfold Lay.cnt;rw [hst_q_4,if_pos (show a0.v.kind=4 from e0),hnx2,hny2]
  refine drawE [10,11,12,13] [(3,⟨l1,0,none⟩,I 0),(3,⟨l1,1,none⟩,I 0),(3,⟨l1,2,none⟩,I a0.bins),(3,⟨l1,3,none⟩,I 1)] [(true,[0,1,2,4,5,6,7]),(true,[8]),(true,[9]),(true,[3]),(false,[10]),(false,[11]),(false,[12]),(false,[13]),(true,[14])] rfl kr ⟨cI w0 0,cI w0 0,cI w0 0,cI w0 0,trivial⟩ ?_
  have eb:=w0.drew
  refine wU [0,1,2,4,5,6,7]<|wMul nx ny<|wAdd b0 (nx*ny)<|wY (.agg #[I 0,I 0,I a0.bins,I 1]) rfl (fun w hF=>Y_loadF rfl (isAgg58 w) (sizeOf58 w) kr rfl ⟨hF 0 _ _ rfl,hF 1 _ _ rfl,hF 2 _ _ rfl,hF 3 _ _ rfl,trivial⟩)<|wO rfl ?_
  have fb:=Sat.nilc eb
  refine cX call20 (p20_between b0 (b0+(nx*ny)) (OwnT.nil (enc:=Go.E.encI) (E:=3) (sz:=1) fR) om fb) ?_
  rintro _ _ ⟨_,_,_,_,rfl,x2,z0⟩
  have hn_az_337:=x2.len;have hl_az_337:=x2.le;simp only [List.length_append,List.length_nil,btw_len] at hn_az_337
  refine nilO ⟨⟨cI z0 1,cI z0 1,cI z0 1,cI z0 1,trivial⟩,?_⟩
  refine wO rfl ?_
  have hb:=(z0.picks [5,1])
  refine cX call19 (p20_task (hx.of_mem (mem_flat1 5 (by rfl))) x2 nd 2 (⟨0,0,a0.bins,1⟩:Rct) hg hx2 hnd hin om hb.flat2) ?_
  rintro _ _ ⟨m1,f4,rfl,ib,jb,kb⟩
  have lb:=kb.unflat2
  refine nilO ⟨dA,?_⟩
  refine wO rfl<|sBS lb (encTask m1).toArray runUnderlying38 sizeOf60 zeroValue60 fun _ _ mb=>nilO ⟨dA,?_⟩
  refine wO rfl<|sApp (nb:=88) mb hOzs 5 (RdT.blk (enc:=encTask) (sz:=9) (xs:=[m1]) fR 1 0 rfl rfl rfl om) underlying38 (i:=Try.t60) kr fR fun ob pb g4 _ qb rb=>nilO ⟨dA,?_⟩
  refine wU [14]<|wN<|tN<|sR<|pu2<|zE<|retT [.slice ob (nzs+1) pb] ?_
  have sb:=((rb.picks [4,2,5]).drops [3,4,4,4])
  have tb:Sat W _ (g4::(f4++Gzs)::[(b, .cells (encLayM x).toArray 51 (0,0))]::H::F):=Sat.perm (show Sat W _ (g4::f4::Gzs::[(b, .cells (encLayM x).toArray 51 (0,0))]::H::F) from sb) (by simp)
  have hmt:m1.v=x.L.mergeT nd:=by rw [jb];unfold Lay.mergeT btwV;rw [hst_q_4,hnx2,hny2,<-hfr,hf1,show (b0+nx*ny-b0).toNat=(nx*ny).toNat by omega];rfl
  have hz:((zs++[m1])).map Task.v=x.L.tasks nd:=by unfold Lay.tasks;rw [hst_q_4,if_pos (show a0.v.kind=4 from e0),hnx2,hny2,List.map_append,hE,hi9];simp only [List.map_cons,List.map_nil];rw [hmt]
  exact ⟨_,_,_,_,_,_,rfl,qb,(fun z hz=>by
    rcases List.mem_append.1 hz with h|h
    ·exact (hDzs z h).of_mem mS
    ·simp only [List.mem_singleton] at h;subst h;exact ib.of_mem mS),hz,tb⟩
 refine kT<|seqE<|blockE<|sR<|pu2<|nT<|seqE<|drawP [13,17,18] [(1,⟨c0,0,none⟩,I ((x.L.cut nd).w)),(3,⟨c0,1,none⟩,I ((x.L.cut nd).h)),(7,⟨b,4,none⟩,I x.tw),(11,⟨b,5,none⟩,I x.th)] (Plan.sts [0,2,4,5,6,8,9,10,12]<|Plan.sts [1]<|Plan.sts [3]<|Plan.sts [7]<|Plan.sts [11]<| .fk 13 17 (Plan.sts [14]<|Plan.sts [15]<|Plan.sts [16]<| .ef 17<| .ef 18<|Plan.sts [19]<| .fin) (.ef 13<|Plan.sts [14]<|Plan.sts [15]<|Plan.sts [16]<| .ef 18<|Plan.sts [19]<| .fin)) rfl kr ⟨cI f0 2,cI f0 2,cI f0 3,cI f0 3,trivial⟩ ?_
 have h4:=f0.drew
 refine qU [0,2,4,5,6,8,9,10,12]<|qLd (I ((x.L.cut nd).w)) 0 isAgg3<|qLd (I ((x.L.cut nd).h)) 1 isAgg3<|qLd (I x.tw) 2 isAgg3<|qLd (I x.th) 3 isAgg3<|qF ?_ ?_
 ·refine qO rfl<|cR call17 (p5_tile ((x.L.cut nd).w) ((x.L.cut nd).h) x.tw x.th (i:Int) hfi ⟨om,by rw [<-hnx,<-hny];omega⟩ h4.flat) ?_
  intro _ ub
  refine nilO ⟨dA,?_⟩
  refine qU [14]<|qU [15]<|qU [16]<|qO rfl<|sAlloc ub zeroValue58 fun vb _ wb=>nilO ⟨dA,?_⟩
  refine qO rfl<|sTw wb 0 [I ((tileV ((x.L.cut nd).w) ((x.L.cut nd).h) x.tw x.th (i:Int)).x0),I ((tileV ((x.L.cut nd).w) ((x.L.cut nd).h) x.tw x.th (i:Int)).y0),I ((tileV ((x.L.cut nd).w) ((x.L.cut nd).h) x.tw x.th (i:Int)).x1),I ((tileV ((x.L.cut nd).w) ((x.L.cut nd).h) x.tw x.th (i:Int)).y1)] sizeOf58 fun xb yb=>nilO ⟨dA,?_⟩
  refine qU [19]<|qN ?_
  obtain ⟨r,hr⟩:∃z:Rct,z=(tileV (x.L.cut nd).w (x.L.cut nd).h x.tw x.th (i:Int)):=⟨_,rfl⟩
  have y2:Sat W xb ([(vb, .cells (encRct r).toArray 58 (0,0))]::Gzs::czs::[(c0, .cells #[I ((x.L.cut nd).w),I ((x.L.cut nd).h),I ((x.L.cut nd).max_)] 54 (0,0))]::[(b, .cells (encLayM x).toArray 51 (0,0))]::[(d0, .cells (encStage a0).toArray 33 (0,0))]::H::F):=by rw [hr];exact yb
  have hin:inP r:=by rw [hr];exact (tile_in hfi om (by rw [<-hnx,<-hny];omega)).1
  have hrt:x.L.tile nd (i:Int)=r:=by rw [hr];rfl
  refine tN<|sR<|pu1<|lA y2 5 0 18 (isAgg33 _) (sizeOf33 _)<|lA y2 0 0 4 (isAgg58 _) (sizeOf58 _) ?_
  have zb:=(y2.pick 4 rfl)
  refine cX call18 (p20_needs (hx.of_mem (mem_flat1 5 (by rfl))) (q:=a0) (hok_q_4.of_mem (mem_flat1 5 (by rfl))) r hg hx2 hW hsq zb.flat1) ?_
  rintro _ _ ⟨_,_,_,_,rfl,p0,ac⟩
  have j0:=ac.unflat2;have hn_az_50:=p0.len;have hl_az_50:=p0.le
  have hnl_az_50:=flat_len2 (s:=a0.v) (r:=r) hg (srcs a0.v) (fun y hy=>(hsq y hy).2.2);have hnm_az_50:=srcs_len a0.v;unfold Lay.needs at hn_az_50
  refine pu1<|zQ<|pu1<|sL j0 6 0 (I a0.kind) (isAgg3 _)<|pu1<|nT<|cE a0.kind 5 (fun q0=>?_) (fun q0=>?_)
  rotate_left
  ·refine kT<|rE<|pu4<|lA j0 2 0 4 (isAgg58 _) (sizeOf58 _)<|pu1 ?_
   have bc:=(j0.picks [1,1])
   refine cX call19 (p20_task (hx.of_mem (mem_flat1 5 (by rfl))) p0 nd 1 r hg hx2 hnd hin om bc.flat2) ?_
   rintro _ _ ⟨n1,z2,rfl,cc,dc,ec⟩
   refine sBS (Sat.unflat2 ec) (encTask n1).toArray runUnderlying38 sizeOf60 zeroValue60 fun _ _ gc=>sApp (nb:=88) gc hOzs 5 (RdT.blk (enc:=encTask) (sz:=9) (xs:=[n1]) fR 1 0 rfl rfl rfl om) underlying38 (i:=Try.t60) kr fR fun hc ic a3 _ jc kc=>pu1<|nilO ?_
   have how:x.L.own nd (i:Int)=[]:=by unfold Lay.own;rw [hst_q_4,if_neg (show ¬a0.v.kind=5 from q0)]
   have hpt:x.L.part nd=1:=by unfold Lay.part;rw [hst_q_4,if_pos (show a0.v.kind=4 from e0)]
   have htv:n1.v=x.L.tileT nd (i:Int):=by rw [dc];unfold Lay.tileT;rw [hrt,hpt,hst_q_4,how];first|rfl|simp only [List.append_assoc,List.append_nil,List.nil_append]
   refine bN<|tN<|rE<|sAdd (i:Int) 1<|pu1<|nT ?_
   have lc:=((kc.picks [6,6,6,4]).drops [4,5])
   exact ⟨(i+1,(zs++[n1]),hc,(nzs+1),ic,a3,(z2++Gzs)),od,alA,(Sat.perm (cs':=(z2++Gzs)::(a3::[(c0, .cells #[I ((x.L.cut nd).w),I ((x.L.cut nd).h),I ((x.L.cut nd).max_)] 54 (0,0))]::[(b, .cells (encLayM x).toArray 51 (0,0))]::[(d0, .cells (encStage a0).toArray 33 (0,0))]::H::F)) (show Sat W _ (z2::Gzs::a3::[(c0, .cells #[I ((x.L.cut nd).w),I ((x.L.cut nd).h),I ((x.L.cut nd).max_)] 54 (0,0))]::[(b, .cells (encLayM x).toArray 51 (0,0))]::[(d0, .cells (encStage a0).toArray 33 (0,0))]::H::F) from lc) (by simp)),om,(by rw [List.map_append,hE,upto_map_snoc];simp only [List.map_cons,List.map_nil];rw [htv]),(by simp;omega),jc,(by
     intro z hz
     rcases List.mem_append.1 hz with h|h
     ·exact (hDzs z h).of_mem mS
     ·simp only [List.mem_singleton] at h;subst h;exact (cc.of_mem mS))⟩
  refine seqE<|seqE ?_
  have htm:((i:Int)).tmod nx=(i:Int)%nx:=Int.tmod_eq_emod_of_nonneg om
  refine rE<|pu2<|sRem (i:Int) nx<|pu1<|nT<|cD (((i:Int).tmod nx)>0) (fun nc=>?_) (fun nc=>?_)
  rotate_left
  ·refine kS<|pu3<|nT<|cD ((i:Int)>=nx) (fun oc=>?_) (fun oc=>?_)
   rotate_left
   ·refine kT<|rE<|pu4<|lA j0 2 0 4 (isAgg58 _) (sizeOf58 _)<|pu1 ?_
    have pc:=(j0.picks [1,1])
    refine cX call19 (p20_task (hx.of_mem (mem_flat1 5 (by rfl))) p0 nd 1 r hg hx2 hnd hin om pc.flat2) ?_
    rintro _ _ ⟨o1,b3,rfl,qc,rc,sc⟩
    refine sBS (Sat.unflat2 sc) (encTask o1).toArray runUnderlying38 sizeOf60 zeroValue60 fun _ _ uc=>sApp (nb:=88) uc hOzs 5 (RdT.blk (enc:=encTask) (sz:=9) (xs:=[o1]) fR 1 0 rfl rfl rfl om) underlying38 (i:=Try.t60) kr fR fun vc wc c3 _ xc yc=>pu1<|nilO ?_
    have how:x.L.own nd (i:Int)=([]:List Int)++([]:List Int):=by unfold Lay.own;rw [hst_q_4,if_pos (show a0.v.kind=5 from q0),hnx2,<-hfr,hf1,if_neg (by rw [<-htm];omega),if_neg om]
    have hpt:x.L.part nd=1:=by unfold Lay.part;rw [hst_q_4,if_pos (show a0.v.kind=4 from e0)]
    have htv:o1.v=x.L.tileT nd (i:Int):=by rw [rc];unfold Lay.tileT;rw [hrt,hpt,hst_q_4,how];first|rfl|simp only [List.append_assoc,List.append_nil,List.nil_append]
    refine bN<|tN<|rE<|sAdd (i:Int) 1<|pu1<|nT ?_
    have zc:=((yc.picks [6,6,6,4]).drops [4,5])
    exact ⟨(i+1,(zs++[o1]),vc,(nzs+1),wc,c3,(b3++Gzs)),od,alA,(Sat.perm (cs':=(b3++Gzs)::(c3::[(c0, .cells #[I ((x.L.cut nd).w),I ((x.L.cut nd).h),I ((x.L.cut nd).max_)] 54 (0,0))]::[(b, .cells (encLayM x).toArray 51 (0,0))]::[(d0, .cells (encStage a0).toArray 33 (0,0))]::H::F)) (show Sat W _ (b3::Gzs::c3::[(c0, .cells #[I ((x.L.cut nd).w),I ((x.L.cut nd).h),I ((x.L.cut nd).max_)] 54 (0,0))]::[(b, .cells (encLayM x).toArray 51 (0,0))]::[(d0, .cells (encStage a0).toArray 33 (0,0))]::H::F) from zc) (by simp)),om,(by rw [List.map_append,hE,upto_map_snoc];simp only [List.map_cons,List.map_nil];rw [htv]),(by simp;omega),xc,(by
      intro z hz
      rcases List.mem_append.1 hz with h|h
      ·exact (hDzs z h).of_mem mS
      ·simp only [List.mem_singleton] at h;subst h;exact (qc.of_mem mS))⟩
   refine rE<|pu3<|sAdd b0 (i:Int)<|pu1<|sSub (b0+(i:Int)) nx<|sBS j0 #[I ((b0+(i:Int))-nx)] runUnderlying23 sizeOf3 zeroValue3 fun _ _ bd=>sApp (nb:=8) bd p0 1 (RdT.blk (enc:=Go.E.encI) (sz:=1) (xs:=[((b0+(i:Int))-nx)]) fR 1 0 rfl rfl rfl om) underlying23 (i:=Try.t3) kr fR fun _ _ _ _ cd i4=>pu1<|nT<|rE<|pu4<|lA i4 3 0 4 (isAgg58 _) (sizeOf58 _)<|pu1 ?_
   have dd:=(i4.picks [2,2])
   refine cX call19 (p20_task (hx.of_mem (mem_flat1 6 (by rfl))) cd nd 1 r hg hx2 hnd hin om dd.flat2) ?_
   rintro _ _ ⟨p1,d3,rfl,ed,fd,gd⟩
   refine sBS (Sat.unflat2 gd) (encTask p1).toArray runUnderlying38 sizeOf60 zeroValue60 fun _ _ jd=>sApp (nb:=88) jd hOzs 6 (RdT.blk (enc:=encTask) (sz:=9) (xs:=[p1]) fR 1 0 rfl rfl rfl om) underlying38 (i:=Try.t60) kr fR fun kd ld e3 _ md pd=>pu1<|nilO ?_
   have how:x.L.own nd (i:Int)=([]:List Int)++[b0+(i:Int)-nx]:=by unfold Lay.own;rw [hst_q_4,if_pos (show a0.v.kind=5 from q0),hnx2,<-hfr,hf1,if_neg (by rw [<-htm];omega),if_pos om]
   have hpt:x.L.part nd=1:=by unfold Lay.part;rw [hst_q_4,if_pos (show a0.v.kind=4 from e0)]
   have htv:p1.v=x.L.tileT nd (i:Int):=by rw [fd];unfold Lay.tileT;rw [hrt,hpt,hst_q_4,how];first|rfl|simp only [List.append_assoc,List.append_nil,List.nil_append]
   refine bN<|tN<|rE<|sAdd (i:Int) 1<|pu1<|nT ?_
   have qd:=((pd.picks [7,7,7,4]).drops [4,5,5])
   exact ⟨(i+1,(zs++[p1]),kd,(nzs+1),ld,e3,(d3++Gzs)),od,alA,(Sat.perm (cs':=(d3++Gzs)::(e3::[(c0, .cells #[I ((x.L.cut nd).w),I ((x.L.cut nd).h),I ((x.L.cut nd).max_)] 54 (0,0))]::[(b, .cells (encLayM x).toArray 51 (0,0))]::[(d0, .cells (encStage a0).toArray 33 (0,0))]::H::F)) (show Sat W _ (d3::Gzs::e3::[(c0, .cells #[I ((x.L.cut nd).w),I ((x.L.cut nd).h),I ((x.L.cut nd).max_)] 54 (0,0))]::[(b, .cells (encLayM x).toArray 51 (0,0))]::[(d0, .cells (encStage a0).toArray 33 (0,0))]::H::F) from qd) (by simp)),om,(by rw [List.map_append,hE,upto_map_snoc];simp only [List.map_cons,List.map_nil];rw [htv]),(by simp;omega),md,(by
     intro z hz
     rcases List.mem_append.1 hz with h|h
     ·exact (hDzs z h).of_mem mS
     ·simp only [List.mem_singleton] at h;subst h;exact (ed.of_mem mS))⟩
  refine rE<|pu3<|sAdd b0 (i:Int)<|sSub (b0+(i:Int)) 1<|sBS j0 #[I ((b0+(i:Int))-1)] runUnderlying23 sizeOf3 zeroValue3 fun _ _ sd=>sApp (nb:=8) sd p0 1 (RdT.blk (enc:=Go.E.encI) (sz:=1) (xs:=[((b0+(i:Int))-1)]) fR 1 0 rfl rfl rfl om) underlying23 (i:=Try.t3) kr fR fun _ _ _ _ j4 f3=>pu1<|zS<|pu3<|nT<|cD ((i:Int)>=nx) (fun td=>?_) (fun td=>?_)
  rotate_left
  ·refine kT<|rE<|pu4<|lA f3 3 0 4 (isAgg58 _) (sizeOf58 _)<|pu1 ?_
   have ud:=(f3.picks [2,2])
   refine cX call19 (p20_task (hx.of_mem (mem_flat1 6 (by rfl))) j4 nd 1 r hg hx2 hnd hin om ud.flat2) ?_
   rintro _ _ ⟨q1,g3,rfl,vd,wd,xd⟩
   refine sBS (Sat.unflat2 xd) (encTask q1).toArray runUnderlying38 sizeOf60 zeroValue60 fun _ _ zd=>sApp (nb:=88) zd hOzs 6 (RdT.blk (enc:=encTask) (sz:=9) (xs:=[q1]) fR 1 0 rfl rfl rfl om) underlying38 (i:=Try.t60) kr fR fun ae be h3 _ ce de=>pu1<|nilO ?_
   have how:x.L.own nd (i:Int)=[b0+(i:Int)-1]++([]:List Int):=by unfold Lay.own;rw [hst_q_4,if_pos (show a0.v.kind=5 from q0),hnx2,<-hfr,hf1,if_pos (by rw [<-htm];omega),if_neg om]
   have hpt:x.L.part nd=1:=by unfold Lay.part;rw [hst_q_4,if_pos (show a0.v.kind=4 from e0)]
   have htv:q1.v=x.L.tileT nd (i:Int):=by rw [wd];unfold Lay.tileT;rw [hrt,hpt,hst_q_4,how];first|rfl|simp only [List.append_assoc,List.append_nil,List.nil_append]
   refine bN<|tN<|rE<|sAdd (i:Int) 1<|pu1<|nT ?_
   have ee:=((de.picks [7,7,7,4]).drops [4,5,5])
   exact ⟨(i+1,(zs++[q1]),ae,(nzs+1),be,h3,(g3++Gzs)),od,alA,(Sat.perm (cs':=(g3++Gzs)::(h3::[(c0, .cells #[I ((x.L.cut nd).w),I ((x.L.cut nd).h),I ((x.L.cut nd).max_)] 54 (0,0))]::[(b, .cells (encLayM x).toArray 51 (0,0))]::[(d0, .cells (encStage a0).toArray 33 (0,0))]::H::F)) (show Sat W _ (g3::Gzs::h3::[(c0, .cells #[I ((x.L.cut nd).w),I ((x.L.cut nd).h),I ((x.L.cut nd).max_)] 54 (0,0))]::[(b, .cells (encLayM x).toArray 51 (0,0))]::[(d0, .cells (encStage a0).toArray 33 (0,0))]::H::F) from ee) (by simp)),om,(by rw [List.map_append,hE,upto_map_snoc];simp only [List.map_cons,List.map_nil];rw [htv]),(by simp;omega),ce,(by
     intro z hz
     rcases List.mem_append.1 hz with h|h
     ·exact (hDzs z h).of_mem mS
     ·simp only [List.mem_singleton] at h;subst h;exact (vd.of_mem mS))⟩
  refine rE<|pu3<|sAdd b0 (i:Int)<|pu1<|sSub (b0+(i:Int)) nx<|sBS f3 #[I ((b0+(i:Int))-nx)] runUnderlying23 sizeOf3 zeroValue3 fun _ _ ge=>sApp (nb:=8) ge j4 2 (RdT.blk (enc:=Go.E.encI) (sz:=1) (xs:=[((b0+(i:Int))-nx)]) fR 1 0 rfl rfl rfl om) underlying23 (i:=Try.t3) kr fR fun _ _ _ _ he k4=>pu1<|nT<|rE<|pu4<|lA k4 4 0 4 (isAgg58 _) (sizeOf58 _)<|pu1 ?_
  have ie:=(k4.picks [3,3])
  refine cX call19 (p20_task (hx.of_mem (mem_flat1 7 (by rfl))) he nd 1 r hg hx2 hnd hin om ie.flat2) ?_
  rintro _ _ ⟨r1,i3,rfl,je,ke,me⟩
  refine sBS (Sat.unflat2 me) (encTask r1).toArray runUnderlying38 sizeOf60 zeroValue60 fun _ _ oe=>sApp (nb:=88) oe hOzs 7 (RdT.blk (enc:=encTask) (sz:=9) (xs:=[r1]) fR 1 0 rfl rfl rfl om) underlying38 (i:=Try.t60) kr fR fun pe qe j3 _ re se=>pu1<|nilO ?_
  have how:x.L.own nd (i:Int)=[b0+(i:Int)-1]++[b0+(i:Int)-nx]:=by unfold Lay.own;rw [hst_q_4,if_pos (show a0.v.kind=5 from q0),hnx2,<-hfr,hf1,if_pos (by rw [<-htm];omega),if_pos om]
  have hpt:x.L.part nd=1:=by unfold Lay.part;rw [hst_q_4,if_pos (show a0.v.kind=4 from e0)]
  have htv:r1.v=x.L.tileT nd (i:Int):=by rw [ke];unfold Lay.tileT;rw [hrt,hpt,hst_q_4,how];first|rfl|simp only [List.append_assoc,List.append_nil,List.nil_append]
  refine bN<|tN<|rE<|sAdd (i:Int) 1<|pu1<|nT ?_
  have te:=((se.picks [8,8,8,4]).drops [4,5,5,5])
  exact ⟨(i+1,(zs++[r1]),pe,(nzs+1),qe,j3,(i3++Gzs)),od,alA,(Sat.perm (cs':=(i3++Gzs)::(j3::[(c0, .cells #[I ((x.L.cut nd).w),I ((x.L.cut nd).h),I ((x.L.cut nd).max_)] 54 (0,0))]::[(b, .cells (encLayM x).toArray 51 (0,0))]::[(d0, .cells (encStage a0).toArray 33 (0,0))]::H::F)) (show Sat W _ (i3::Gzs::j3::[(c0, .cells #[I ((x.L.cut nd).w),I ((x.L.cut nd).h),I ((x.L.cut nd).max_)] 54 (0,0))]::[(b, .cells (encLayM x).toArray 51 (0,0))]::[(d0, .cells (encStage a0).toArray 33 (0,0))]::H::F) from te) (by simp)),om,(by rw [List.map_append,hE,upto_map_snoc];simp only [List.map_cons,List.map_nil];rw [htv]),(by simp;omega),re,(by
    intro z hz
    rcases List.mem_append.1 hz with h|h
    ·exact (hDzs z h).of_mem mS
    ·simp only [List.mem_singleton] at h;subst h;exact (je.of_mem mS))⟩
 refine qO rfl<|sAlloc h4 zeroValue58 fun ve _ a1=>nilO ⟨⟨cI a1 3,cI a1 3,cI a1 4,cI a1 4,trivial⟩,?_⟩
 refine qO rfl<|cR call17 (p5_tile ((x.L.cut nd).w) ((x.L.cut nd).h) x.tw x.th (i:Int) hfi ⟨om,by rw [<-hnx,<-hny];omega⟩ a1.flat) ?_
 intro _ we
 refine nilO ⟨dA,?_⟩
 refine qU [14]<|qU [15]<|qU [16]<|qO rfl<|sTw we 0 [I ((tileV ((x.L.cut nd).w) ((x.L.cut nd).h) x.tw x.th (i:Int)).x0),I ((tileV ((x.L.cut nd).w) ((x.L.cut nd).h) x.tw x.th (i:Int)).y0),I ((tileV ((x.L.cut nd).w) ((x.L.cut nd).h) x.tw x.th (i:Int)).x1),I ((tileV ((x.L.cut nd).w) ((x.L.cut nd).h) x.tw x.th (i:Int)).y1)] sizeOf58 fun xe ye=>nilO ⟨dA,?_⟩
 refine qU [19]<|qN ?_
 obtain ⟨r,hr⟩:∃z:Rct,z=(tileV (x.L.cut nd).w (x.L.cut nd).h x.tw x.th (i:Int)):=⟨_,rfl⟩
 have k3:Sat W xe ([(ve, .cells (encRct r).toArray 58 (0,0))]::Gzs::czs::[(c0, .cells #[I ((x.L.cut nd).w),I ((x.L.cut nd).h),I ((x.L.cut nd).max_)] 54 (0,0))]::[(b, .cells (encLayM x).toArray 51 (0,0))]::[(d0, .cells (encStage a0).toArray 33 (0,0))]::H::F):=by rw [hr];exact ye
 have hin:inP r:=by rw [hr];exact (tile_in hfi om (by rw [<-hnx,<-hny];omega)).1
 have hrt:x.L.tile nd (i:Int)=r:=by rw [hr];rfl
 refine tN<|sR<|pu1<|lA k3 5 0 18 (isAgg33 _) (sizeOf33 _)<|lA k3 0 0 4 (isAgg58 _) (sizeOf58 _) ?_
 have ze:=(k3.pick 4 rfl)
 refine cX call18 (p20_needs (hx.of_mem (mem_flat1 5 (by rfl))) (q:=a0) (hok_q_4.of_mem (mem_flat1 5 (by rfl))) r hg hx2 hW hsq ze.flat1) ?_
 rintro _ _ ⟨_,_,_,_,rfl,r0,af⟩
 have k0:=af.unflat2;have hn_az_194:=r0.len;have hl_az_194:=r0.le
 have hnl_az_194:=flat_len2 (s:=a0.v) (r:=r) hg (srcs a0.v) (fun y hy=>(hsq y hy).2.2);have hnm_az_194:=srcs_len a0.v;unfold Lay.needs at hn_az_194
 refine pu1<|zQ<|pu1<|sL k0 6 0 (I a0.kind) (isAgg3 _)<|pu1<|nT<|cE a0.kind 5 (fun s0=>?_) (fun s0=>?_)
 rotate_left
 ·refine kT<|rE<|pu4<|lA k0 2 0 4 (isAgg58 _) (sizeOf58 _)<|pu1 ?_
  have bf:=(k0.picks [1,1])
  refine cX call19 (p20_task (hx.of_mem (mem_flat1 5 (by rfl))) r0 nd 1 r hg hx2 hnd hin om bf.flat2) ?_
  rintro _ _ ⟨s1,l3,rfl,cf,df,ff⟩
  refine sBS (Sat.unflat2 ff) (encTask s1).toArray runUnderlying38 sizeOf60 zeroValue60 fun _ _ hf=>sApp (nb:=88) hf hOzs 5 (RdT.blk (enc:=encTask) (sz:=9) (xs:=[s1]) fR 1 0 rfl rfl rfl om) underlying38 (i:=Try.t60) kr fR fun jf kf m3 _ lf mf=>pu1<|nilO ?_
  have how:x.L.own nd (i:Int)=[]:=by unfold Lay.own;rw [hst_q_4,if_neg (show ¬a0.v.kind=5 from s0)]
  have hpt:x.L.part nd=1:=by unfold Lay.part;rw [hst_q_4,if_pos (show a0.v.kind=4 from e0)]
  have htv:s1.v=x.L.tileT nd (i:Int):=by rw [df];unfold Lay.tileT;rw [hrt,hpt,hst_q_4,how];first|rfl|simp only [List.append_assoc,List.append_nil,List.nil_append]
  refine bN<|tN<|rE<|sAdd (i:Int) 1<|pu1<|nT ?_
  have nf:=((mf.picks [6,6,6,4]).drops [4,5])
  exact ⟨(i+1,(zs++[s1]),jf,(nzs+1),kf,m3,(l3++Gzs)),od,alA,(Sat.perm (cs':=(l3++Gzs)::(m3::[(c0, .cells #[I ((x.L.cut nd).w),I ((x.L.cut nd).h),I ((x.L.cut nd).max_)] 54 (0,0))]::[(b, .cells (encLayM x).toArray 51 (0,0))]::[(d0, .cells (encStage a0).toArray 33 (0,0))]::H::F)) (show Sat W _ (l3::Gzs::m3::[(c0, .cells #[I ((x.L.cut nd).w),I ((x.L.cut nd).h),I ((x.L.cut nd).max_)] 54 (0,0))]::[(b, .cells (encLayM x).toArray 51 (0,0))]::[(d0, .cells (encStage a0).toArray 33 (0,0))]::H::F) from nf) (by simp)),om,(by rw [List.map_append,hE,upto_map_snoc];simp only [List.map_cons,List.map_nil];rw [htv]),(by simp;omega),lf,(by
    intro z hz
    rcases List.mem_append.1 hz with h|h
    ·exact (hDzs z h).of_mem mS
    ·simp only [List.mem_singleton] at h;subst h;exact (cf.of_mem mS))⟩
 refine seqE<|seqE ?_
 have htm:((i:Int)).tmod nx=(i:Int)%nx:=Int.tmod_eq_emod_of_nonneg om
 refine rE<|pu2<|sRem (i:Int) nx<|pu1<|nT<|cD (((i:Int).tmod nx)>0) (fun qf=>?_) (fun qf=>?_)
 rotate_left
 ·refine kS<|pu3<|nT<|cD ((i:Int)>=nx) (fun rf=>?_) (fun rf=>?_)
  rotate_left
  ·refine kT<|rE<|pu4<|lA k0 2 0 4 (isAgg58 _) (sizeOf58 _)<|pu1 ?_
   have sf:=(k0.picks [1,1])
   refine cX call19 (p20_task (hx.of_mem (mem_flat1 5 (by rfl))) r0 nd 1 r hg hx2 hnd hin om sf.flat2) ?_
   rintro _ _ ⟨t1,n3,rfl,tf,uf,vf⟩
   refine sBS (Sat.unflat2 vf) (encTask t1).toArray runUnderlying38 sizeOf60 zeroValue60 fun _ _ xf=>sApp (nb:=88) xf hOzs 5 (RdT.blk (enc:=encTask) (sz:=9) (xs:=[t1]) fR 1 0 rfl rfl rfl om) underlying38 (i:=Try.t60) kr fR fun yf zf o3 _ ag bg=>pu1<|nilO ?_
   have how:x.L.own nd (i:Int)=([]:List Int)++([]:List Int):=by unfold Lay.own;rw [hst_q_4,if_pos (show a0.v.kind=5 from s0),hnx2,<-hfr,hf1,if_neg (by rw [<-htm];omega),if_neg om]
   have hpt:x.L.part nd=1:=by unfold Lay.part;rw [hst_q_4,if_pos (show a0.v.kind=4 from e0)]
   have htv:t1.v=x.L.tileT nd (i:Int):=by rw [uf];unfold Lay.tileT;rw [hrt,hpt,hst_q_4,how];first|rfl|simp only [List.append_assoc,List.append_nil,List.nil_append]
   refine bN<|tN<|rE<|sAdd (i:Int) 1<|pu1<|nT ?_
   have cg:=((bg.picks [6,6,6,4]).drops [4,5])
   exact ⟨(i+1,(zs++[t1]),yf,(nzs+1),zf,o3,(n3++Gzs)),od,alA,(Sat.perm (cs':=(n3++Gzs)::(o3::[(c0, .cells #[I ((x.L.cut nd).w),I ((x.L.cut nd).h),I ((x.L.cut nd).max_)] 54 (0,0))]::[(b, .cells (encLayM x).toArray 51 (0,0))]::[(d0, .cells (encStage a0).toArray 33 (0,0))]::H::F)) (show Sat W _ (n3::Gzs::o3::[(c0, .cells #[I ((x.L.cut nd).w),I ((x.L.cut nd).h),I ((x.L.cut nd).max_)] 54 (0,0))]::[(b, .cells (encLayM x).toArray 51 (0,0))]::[(d0, .cells (encStage a0).toArray 33 (0,0))]::H::F) from cg) (by simp)),om,(by rw [List.map_append,hE,upto_map_snoc];simp only [List.map_cons,List.map_nil];rw [htv]),(by simp;omega),ag,(by
     intro z hz
     rcases List.mem_append.1 hz with h|h
     ·exact (hDzs z h).of_mem mS
     ·simp only [List.mem_singleton] at h;subst h;exact (tf.of_mem mS))⟩
  refine rE<|pu3<|sAdd b0 (i:Int)<|pu1<|sSub (b0+(i:Int)) nx<|sBS k0 #[I ((b0+(i:Int))-nx)] runUnderlying23 sizeOf3 zeroValue3 fun _ _ eg=>sApp (nb:=8) eg r0 1 (RdT.blk (enc:=Go.E.encI) (sz:=1) (xs:=[((b0+(i:Int))-nx)]) fR 1 0 rfl rfl rfl om) underlying23 (i:=Try.t3) kr fR fun _ _ _ _ fg l4=>pu1<|nT<|rE<|pu4<|lA l4 3 0 4 (isAgg58 _) (sizeOf58 _)<|pu1 ?_
  have gg:=(l4.picks [2,2])
  refine cX call19 (p20_task (hx.of_mem (mem_flat1 6 (by rfl))) fg nd 1 r hg hx2 hnd hin om gg.flat2) ?_
  rintro _ _ ⟨u1,p3,rfl,ig,jg,kg⟩
  refine sBS (Sat.unflat2 kg) (encTask u1).toArray runUnderlying38 sizeOf60 zeroValue60 fun _ _ mg=>sApp (nb:=88) mg hOzs 6 (RdT.blk (enc:=encTask) (sz:=9) (xs:=[u1]) fR 1 0 rfl rfl rfl om) underlying38 (i:=Try.t60) kr fR fun ng og q3 _ pg qg=>pu1<|nilO ?_
  have how:x.L.own nd (i:Int)=([]:List Int)++[b0+(i:Int)-nx]:=by unfold Lay.own;rw [hst_q_4,if_pos (show a0.v.kind=5 from s0),hnx2,<-hfr,hf1,if_neg (by rw [<-htm];omega),if_pos om]
  have hpt:x.L.part nd=1:=by unfold Lay.part;rw [hst_q_4,if_pos (show a0.v.kind=4 from e0)]
  have htv:u1.v=x.L.tileT nd (i:Int):=by rw [jg];unfold Lay.tileT;rw [hrt,hpt,hst_q_4,how];first|rfl|simp only [List.append_assoc,List.append_nil,List.nil_append]
  refine bN<|tN<|rE<|sAdd (i:Int) 1<|pu1<|nT ?_
  have rg:=((qg.picks [7,7,7,4]).drops [4,5,5])
  exact ⟨(i+1,(zs++[u1]),ng,(nzs+1),og,q3,(p3++Gzs)),od,alA,(Sat.perm (cs':=(p3++Gzs)::(q3::[(c0, .cells #[I ((x.L.cut nd).w),I ((x.L.cut nd).h),I ((x.L.cut nd).max_)] 54 (0,0))]::[(b, .cells (encLayM x).toArray 51 (0,0))]::[(d0, .cells (encStage a0).toArray 33 (0,0))]::H::F)) (show Sat W _ (p3::Gzs::q3::[(c0, .cells #[I ((x.L.cut nd).w),I ((x.L.cut nd).h),I ((x.L.cut nd).max_)] 54 (0,0))]::[(b, .cells (encLayM x).toArray 51 (0,0))]::[(d0, .cells (encStage a0).toArray 33 (0,0))]::H::F) from rg) (by simp)),om,(by rw [List.map_append,hE,upto_map_snoc];simp only [List.map_cons,List.map_nil];rw [htv]),(by simp;omega),pg,(by
    intro z hz
    rcases List.mem_append.1 hz with h|h
    ·exact (hDzs z h).of_mem mS
    ·simp only [List.mem_singleton] at h;subst h;exact (ig.of_mem mS))⟩
 refine rE<|pu3<|sAdd b0 (i:Int)<|sSub (b0+(i:Int)) 1<|sBS k0 #[I ((b0+(i:Int))-1)] runUnderlying23 sizeOf3 zeroValue3 fun _ _ tg=>sApp (nb:=8) tg r0 1 (RdT.blk (enc:=Go.E.encI) (sz:=1) (xs:=[((b0+(i:Int))-1)]) fR 1 0 rfl rfl rfl om) underlying23 (i:=Try.t3) kr fR fun _ _ _ _ m4 r3=>pu1<|zS<|pu3<|nT<|cD ((i:Int)>=nx) (fun ug=>?_) (fun ug=>?_)
 rotate_left
 ·refine kT<|rE<|pu4<|lA r3 3 0 4 (isAgg58 _) (sizeOf58 _)<|pu1 ?_
  have vg:=(r3.picks [2,2])
  refine cX call19 (p20_task (hx.of_mem (mem_flat1 6 (by rfl))) m4 nd 1 r hg hx2 hnd hin om vg.flat2) ?_
  rintro _ _ ⟨v1,s3,rfl,wg,xg,yg⟩
  refine sBS (Sat.unflat2 yg) (encTask v1).toArray runUnderlying38 sizeOf60 zeroValue60 fun _ _ ah=>sApp (nb:=88) ah hOzs 6 (RdT.blk (enc:=encTask) (sz:=9) (xs:=[v1]) fR 1 0 rfl rfl rfl om) underlying38 (i:=Try.t60) kr fR fun bh ch u3 _ dh eh=>pu1<|nilO ?_
  have how:x.L.own nd (i:Int)=[b0+(i:Int)-1]++([]:List Int):=by unfold Lay.own;rw [hst_q_4,if_pos (show a0.v.kind=5 from s0),hnx2,<-hfr,hf1,if_pos (by rw [<-htm];omega),if_neg om]
  have hpt:x.L.part nd=1:=by unfold Lay.part;rw [hst_q_4,if_pos (show a0.v.kind=4 from e0)]
  have htv:v1.v=x.L.tileT nd (i:Int):=by rw [xg];unfold Lay.tileT;rw [hrt,hpt,hst_q_4,how];first|rfl|simp only [List.append_assoc,List.append_nil,List.nil_append]
  refine bN<|tN<|rE<|sAdd (i:Int) 1<|pu1<|nT ?_
  have fh:=((eh.picks [7,7,7,4]).drops [4,5,5])
  exact ⟨(i+1,(zs++[v1]),bh,(nzs+1),ch,u3,(s3++Gzs)),od,alA,(Sat.perm (cs':=(s3++Gzs)::(u3::[(c0, .cells #[I ((x.L.cut nd).w),I ((x.L.cut nd).h),I ((x.L.cut nd).max_)] 54 (0,0))]::[(b, .cells (encLayM x).toArray 51 (0,0))]::[(d0, .cells (encStage a0).toArray 33 (0,0))]::H::F)) (show Sat W _ (s3::Gzs::u3::[(c0, .cells #[I ((x.L.cut nd).w),I ((x.L.cut nd).h),I ((x.L.cut nd).max_)] 54 (0,0))]::[(b, .cells (encLayM x).toArray 51 (0,0))]::[(d0, .cells (encStage a0).toArray 33 (0,0))]::H::F) from fh) (by simp)),om,(by rw [List.map_append,hE,upto_map_snoc];simp only [List.map_cons,List.map_nil];rw [htv]),(by simp;omega),dh,(by
    intro z hz
    rcases List.mem_append.1 hz with h|h
    ·exact (hDzs z h).of_mem mS
    ·simp only [List.mem_singleton] at h;subst h;exact (wg.of_mem mS))⟩
 refine rE<|pu3<|sAdd b0 (i:Int)<|pu1<|sSub (b0+(i:Int)) nx<|sBS r3 #[I ((b0+(i:Int))-nx)] runUnderlying23 sizeOf3 zeroValue3 fun _ _ hh=>sApp (nb:=8) hh m4 2 (RdT.blk (enc:=Go.E.encI) (sz:=1) (xs:=[((b0+(i:Int))-nx)]) fR 1 0 rfl rfl rfl om) underlying23 (i:=Try.t3) kr fR fun _ _ _ _ ih n4=>pu1<|nT<|rE<|pu4<|lA n4 4 0 4 (isAgg58 _) (sizeOf58 _)<|pu1 ?_
 have jh:=(n4.picks [3,3])
 refine cX call19 (p20_task (hx.of_mem (mem_flat1 7 (by rfl))) ih nd 1 r hg hx2 hnd hin om jh.flat2) ?_
 rintro _ _ ⟨w1,v3,rfl,kh,lh,mh⟩
 refine sBS (Sat.unflat2 mh) (encTask w1).toArray runUnderlying38 sizeOf60 zeroValue60 fun _ _ oh=>sApp (nb:=88) oh hOzs 7 (RdT.blk (enc:=encTask) (sz:=9) (xs:=[w1]) fR 1 0 rfl rfl rfl om) underlying38 (i:=Try.t60) kr fR fun ph qh w3 _ rh sh=>pu1<|nilO ?_
 have how:x.L.own nd (i:Int)=[b0+(i:Int)-1]++[b0+(i:Int)-nx]:=by unfold Lay.own;rw [hst_q_4,if_pos (show a0.v.kind=5 from s0),hnx2,<-hfr,hf1,if_pos (by rw [<-htm];omega),if_pos om]
 have hpt:x.L.part nd=1:=by unfold Lay.part;rw [hst_q_4,if_pos (show a0.v.kind=4 from e0)]
 have htv:w1.v=x.L.tileT nd (i:Int):=by rw [lh];unfold Lay.tileT;rw [hrt,hpt,hst_q_4,how];first|rfl|simp only [List.append_assoc,List.append_nil,List.nil_append]
 refine bN<|tN<|rE<|sAdd (i:Int) 1<|pu1<|nT ?_
 have uh:=((sh.picks [8,8,8,4]).drops [4,5,5,5])
 exact ⟨(i+1,(zs++[w1]),ph,(nzs+1),qh,w3,(v3++Gzs)),od,alA,(Sat.perm (cs':=(v3++Gzs)::(w3::[(c0, .cells #[I ((x.L.cut nd).w),I ((x.L.cut nd).h),I ((x.L.cut nd).max_)] 54 (0,0))]::[(b, .cells (encLayM x).toArray 51 (0,0))]::[(d0, .cells (encStage a0).toArray 33 (0,0))]::H::F)) (show Sat W _ (v3::Gzs::w3::[(c0, .cells #[I ((x.L.cut nd).w),I ((x.L.cut nd).h),I ((x.L.cut nd).max_)] 54 (0,0))]::[(b, .cells (encLayM x).toArray 51 (0,0))]::[(d0, .cells (encStage a0).toArray 33 (0,0))]::H::F) from uh) (by simp)),om,(by rw [List.map_append,hE,upto_map_snoc];simp only [List.map_cons,List.map_nil];rw [htv]),(by simp;omega),rh,(by
   intro z hz
   rcases List.mem_append.1 hz with h|h
   ·exact (hDzs z h).of_mem mS
   ·simp only [List.mem_singleton] at h;subst h;exact (kh.of_mem mS))⟩
end Go.Proofs.Ytdingplbadblpaa
