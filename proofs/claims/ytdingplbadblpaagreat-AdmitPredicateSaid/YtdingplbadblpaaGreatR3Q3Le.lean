import Derived.WalkKit
import Derived.Deep.Quiet
import Derived.KernelRfl
import Derived.Laws.BytesString
import Derived.Laws.Shifts
import Derived.Laws.IdiomStrings
import Derived.OpenShut
import Derived.Test.YtdingplbadblpaaGreatProg
import Derived.Shelf.SortG.Plain
import Derived.Shelf.SortG.SortNone
import Derived.Shelf.SlicesG.CompactI
import Derived.Test.YtdingplbadblpaaGreatR3Q3TJob
import Derived.Test.YtdingplbadblpaaGreatR3Q3Ld
namespace Go.Proofs.YtdingplbadblpaaGreat
open Go Go.E Go.Proofs.Tryz
set_option linter.all false
set_option maxRecDepth 100000
set_option maxHeartbeats 2000000
variable {W w:World} {H:Chunk} {F:List Chunk}
theorem p20_task {b:Nat} {x:LayM} (hx:LayM.Ok [H] x) {a:Option Addr} {n k:Nat} {ds:List Int} {D:Chunk} (hO:OwnT Go.E.encI 3 1 a n k ds D) (nd part:Int) (r:Rct) (hg:LayG x.L) (hx2:x.jobStages.n=x.jobStages.l.length) (hnd:nd∈x.L.od) (hr:inP r) (hnn:n<=1000000) (hS:Sat W w (D::[(b, .cells (encLayM x).toArray 97 (0,0))]::H::F)):
  Calls prog 91 #[Pt b 0,I nd,I part, .agg (encRct r).toArray, .slice a n k] w fun e w'=>∃(t:Task) (Z:Chunk),e= .returned (.agg (encTask t).toArray)/\Task.Ok [Z] t/\t.v=x.L.task nd part r ds/\Sat W w' (Z::[(b, .cells (encLayM x).toArray 97 (0,0))]::H::F):=by
 have hl_x_jobInputs:=hx.jobInputs.le;have hn_x_jobInputs:=hx.jobInputs.len
 have hl_x_jobStages:=hx.jobStages.le;have hn_x_jobStages:=hx.jobStages.len
 have hl_x_jobOutputs:=hx.jobOutputs.le;have hn_x_jobOutputs:=hx.jobOutputs.len
 have hl_x_order:=hx.order.le;have hn_x_order:=hx.order.len
 have hl_x_shapes:=hx.shapes.le;have hn_x_shapes:=hx.shapes.len
 have hl_x_first:=hx.first.le;have hn_x_first:=hx.first.len
 have hl_x_count:=hx.count.le;have hn_x_count:=hx.count.len
 have hgn:1<=(x.jobInputs.n:Int)/\(x.jobInputs.n:Int)+(x.jobStages.n:Int)<=16:=by have h:=hg.ni;simp only [LayM.L,List.length_map] at h;omega
 have hgs:(x.shapes.n:Int)=(x.jobInputs.n:Int)+(x.jobStages.n:Int):=by have h:=hg.len;simp only [LayM.L,List.length_map] at h;omega
 have htl:tileP x.tw x.th:=hg.tl;unfold tileP at htl
 have hr_hnd:(x.jobInputs.n:Int)<=nd/\nd<(x.jobInputs.n:Int)+(x.jobStages.n:Int):=by have h:=hg.rng nd hnd;simp only [LayM.L,List.length_map] at h;omega
 have hr0:=hr;unfold inP at hr0
 refine callsA 46 func91 rfl<|sR<|sBox hS (.agg (encRct r).toArray) (encRct r).toArray fun g0 _ a2=>sAlloc a2 zeroValue46 fun _ _ b2=>zS<|pu2 ?_
 have c2:=(b2.pick 3 rfl)
 refine cX call60 (p20_stage (hx.of_mem (mem_flat1 3 (by rfl))) nd om om c2.flat1) ?_
 rintro _ _ ⟨a0,rfl,a1,d2⟩
 have e2:=d2.unflat1
 have hok_q_11:=hx.jobStagesD a0 (List.mem_of_getElem? a1);have hst_q_11:=lay_st a1
 refine sAlloc e2 zeroValue38 fun b0 _ f2=>?_
 refine sT f2 0 0 (.agg (encStage a0).toArray) (encStage a0) (encStage a0).toArray sizeOf38 fun _ g2=>nilO ?_
 have hsr:=hg.src hnd a0.a (by rw [hst_q_11];exact a_src _);simp only [LayM.L,List.length_map] at hsr
 refine tN<|sR<|pu1 ?_
 have h2:=(g2.pick 4 rfl)
 refine cX call134 (Go.E.own_sort Tryz.laySort hO h2 om) ?_
 rintro _ _ ⟨_,rfl,b1,n0⟩
 refine nT<|seqE<|drawP [4,11,12] [(2,⟨g0,0,none⟩,I r.x0),(2,⟨g0,1,none⟩,I r.y0),(2,⟨g0,2,none⟩,I r.x1),(2,⟨g0,3,none⟩,I r.y1),(6,⟨g0,3,none⟩,I r.y1),(8,⟨g0,1,none⟩,I r.y0)] (Plan.sts [0,1,3,5,7]<|Plan.sts [2]<|Plan.sts [6]<|Plan.sts [8]<|Plan.sts [9]<| .fk 4 11 (Plan.sts [10]<| .ef 11<| .ef 12<| .fin) (.ef 4<|Plan.sts [10]<| .ef 12<| .fin)) rfl kr ⟨cI n0 4,cI n0 4,cI n0 4,cI n0 4,cI n0 4,cI n0 4,trivial⟩ ?_
 have c1:=n0.drew
 refine qU [0,1,3,5,7]<|qY (.agg (encRct r).toArray) rfl (fun w hF=>Y_loadF rfl (isAgg44 w) (sizeOf44 w) kr rfl ⟨hF 0 _ _ rfl,hF 1 _ _ rfl,hF 2 _ _ rfl,hF 3 _ _ rfl,trivial⟩)<|qLd (I r.y1) 4 isAgg3<|qLd (I r.y0) 5 isAgg3<|qSub r.y1 r.y0<|qF ?_ ?_
 ·refine qO rfl<|cX call135 (Go.E.own_comp Tryz.layComp b1 c1) ?_
  rintro _ _ ⟨h0,d1,rfl,e1,o0⟩
  refine nilO ⟨⟨cI o0 4,cI o0 4,cI o0 4,cI o0 4,cI o0 4,cI o0 4,trivial⟩,?_⟩
  refine qU [10]<|qO rfl<|sAlloc o0 zeroValue46 fun _ _ p0=>nilO ⟨⟨cI p0 5,cI p0 5,cI p0 5,cI p0 5,cI p0 5,cI p0 5,trivial⟩,?_⟩
  refine qO rfl<|sT p0 0 0 (.agg #[I nd,I part,I r.x0,I r.y0,I r.x1,I r.y1, .slice a h0 k,I (r.y1-r.y0),I 0]) [I nd,I part,I r.x0,I r.y0,I r.x1,I r.y1, .slice a h0 k,I (r.y1-r.y0),I 0] #[I nd,I part,I r.x0,I r.y0,I r.x1,I r.y1, .slice a h0 k,I (r.y1-r.y0),I 0] sizeOf46 fun _ c0=>nilO ⟨dA,?_⟩
  refine qN<|tN<|seqE<|sR<|pu2<|nT<|cE part 2 (fun s0=>?_) (fun s0=>?_)
  rotate_left
  ·refine kT<|seqE ?_
   obtain ⟨j0,f1,g1,i2,j2,k2⟩:=RdT.elem hx.shapes a0.a
   refine drawE [11,13] [(0,⟨b0,0,none⟩,I a0.kind),(0,⟨b0,1,none⟩,I a0.a),(0,⟨b0,2,none⟩,I a0.b),(0,⟨b0,3,none⟩, .bool a0.barrier),(0,⟨b0,4,none⟩,I a0.edgePolicy),(0,⟨b0,5,none⟩,I a0.edgeFill),(0,⟨b0,6,none⟩,I a0.kW),(0,⟨b0,7,none⟩,I a0.kH),(0,⟨b0,8,none⟩, .slice a0.weights.a a0.weights.n a0.weights.k),(0,⟨b0,9,none⟩, .slice a0.row.a a0.row.n a0.row.k),(0,⟨b0,10,none⟩, .slice a0.col.a a0.col.n a0.col.k),(0,⟨b0,11,none⟩,I a0.shift),(0,⟨b0,12,none⟩,I a0.shift2),(0,⟨b0,13,none⟩, .slice a0.x.a a0.x.n a0.x.k),(0,⟨b0,14,none⟩, .slice a0.y.a a0.y.n a0.y.k),(0,⟨b0,15,none⟩,I a0.bins),(0,⟨b0,16,none⟩, .slice a0.ops.a a0.ops.n a0.ops.k),(0,⟨b0,17,none⟩,I a0.max_),(4,⟨b,7,none⟩, .slice x.shapes.a x.shapes.n x.shapes.k),(6,⟨b0,1,none⟩,I a0.a),(9,⟨f1,g1+1,none⟩,I j0.h),(10,⟨g0,0,none⟩,I r.x0),(10,⟨g0,1,none⟩,I r.y0),(10,⟨g0,2,none⟩,I r.x1),(10,⟨g0,3,none⟩,I r.y1)] [(true,[1,2,3,5]),(true,[0]),(true,[4]),(true,[6]),(true,[7]),(true,[8]),(true,[9]),(true,[10]),(false,[11]),(true,[12]),(false,[13])] rfl kr ⟨cI c0 2,cI c0 2,cI c0 2,cI c0 2,cI c0 2,cI c0 2,cI c0 2,cI c0 2,cI c0 2,cI c0 2,cI c0 2,cI c0 2,cI c0 2,cI c0 2,cI c0 2,cI c0 2,cI c0 2,cI c0 2,cI c0 3,cI c0 2, .inr ((j2.up 6 rfl).cell c0 (k:=1) rfl),cI c0 5,cI c0 5,cI c0 5,cI c0 5,trivial⟩ ?_
   have l2:=c0.drew
   refine wU [1,2,3,5]<|wY (.agg (encStage a0).toArray) rfl (fun w hF=>Y_loadF rfl (isAgg38 w) (sizeOf38 w) kr rfl ⟨hF 0 _ _ rfl,hF 1 _ _ rfl,hF 2 _ _ rfl,hF 3 _ _ rfl,hF 4 _ _ rfl,hF 5 _ _ rfl,hF 6 _ _ rfl,hF 7 _ _ rfl,hF 8 _ _ rfl,hF 9 _ _ rfl,hF 10 _ _ rfl,hF 11 _ _ rfl,hF 12 _ _ rfl,hF 13 _ _ rfl,hF 14 _ _ rfl,hF 15 _ _ rfl,hF 16 _ _ rfl,hF 17 _ _ rfl,trivial⟩)<|wLd (.slice x.shapes.a x.shapes.n x.shapes.k) 18 isAgg61<|wLd (I a0.a) 19 isAgg3<|wY (.pointer (some ⟨f1,g1,none⟩)) rfl (fun w _=>Y_idx (a:=x.shapes.a) (i:=a0.a) (len:=x.shapes.n) (cap:=x.shapes.k) rfl runUnderlying61 sizeOf54 kr kr k2)<|wU [8]<|wLd (I j0.h) 20 isAgg3 ?_
   refine wY (.agg (encRct r).toArray) rfl (fun w hF=>Y_loadF rfl (isAgg44 w) (sizeOf44 w) kr rfl ⟨hF 21 _ _ rfl,hF 22 _ _ rfl,hF 23 _ _ rfl,hF 24 _ _ rfl,trivial⟩)<|wO rfl<|cR call69 (p20_bytes a0 j0.h r ⟨(RdT.flat (hok_q_11.weights.up 6 (by rfl))),(RdT.flat (hok_q_11.row.up 6 (by rfl))),(RdT.flat (hok_q_11.col.up 6 (by rfl))),(RdT.flat (hok_q_11.x.up 6 (by rfl))),(fun z hz=>(hok_q_11.xD z hz).of_mem (mem_flat1 6 (by rfl))),(RdT.flat (hok_q_11.y.up 6 (by rfl))),(fun z hz=>(hok_q_11.yD z hz).of_mem (mem_flat1 6 (by rfl))),(RdT.flat (hok_q_11.ops.up 6 (by rfl)))⟩ (by have h:=hg.byt hnd;rw [hst_q_11] at h;exact h) hr l2.flat) fun _ t0=>?_
   refine nilO ⟨⟨dI,dI,dI,dI,dI,dI,dI,dI,dI,dI,dI,dI,dI,dI,dI,dI,dI,dI,cI t0 3,cI t0 2,dI,dI,dI,dI,dI,trivial⟩,?_⟩
   refine wU [12]<|wO rfl<|tW t0 0 8 (I (bytV a0.v j0.h r)) sizeOf3 fun _ h1=>nilO ⟨dA,?_⟩
   refine wN<|tN<|sR<|lA h1 0 0 9 (isAgg46 _) (sizeOf46 _)<|sT h1 4 0 (.agg #[I nd,I part,I r.x0,I r.y0,I r.x1,I r.y1, .slice a h0 k,I (r.y1-r.y0),I (bytV a0.v j0.h r)]) [I nd,I part,I r.x0,I r.y0,I r.x1,I r.y1, .slice a h0 k,I (r.y1-r.y0),I (bytV a0.v j0.h r)] #[I nd,I part,I r.x0,I r.y0,I r.x1,I r.y1, .slice a h0 k,I (r.y1-r.y0),I (bytV a0.v j0.h r)] sizeOf46 fun _ i1=>?_
   refine zE<|retN (vs:=[.agg #[I nd,I part,I r.x0,I r.y0,I r.x1,I r.y1, .slice a h0 k,I (r.y1-r.y0),I (bytV a0.v j0.h r)]]) rfl (.cons (.cell _ _ _ _ kr (lvA i1 4 0 [I nd,I part,I r.x0,I r.y0,I r.x1,I r.y1, .slice a h0 k,I (r.y1-r.y0),I (bytV a0.v j0.h r)] (isAgg46 _) (sizeOf46 _) rfl rfl rfl)) .nil) ?_
   have m2:=(i1.drops [0,1,2,2])
   have hv:Task.v (⟨nd,part,r.x0,r.y0,r.x1,r.y1,⟨a,h0,k,(Go.Lib.compact (ds.mergeSort fun x y=>decide (x<=y)))⟩,(r.y1-r.y0),(bytV a0.v j0.h r)⟩:Task)=x.L.task nd part r ds:=by unfold Lay.task;rw [hst_q_11,show shpAt x.L.sh a0.v.a=j0 from shp_at' i2,<-canon_sort,if_neg s0];rfl
   exact ⟨(⟨nd,part,r.x0,r.y0,r.x1,r.y1,⟨a,h0,k,(Go.Lib.compact (ds.mergeSort fun x y=>decide (x<=y)))⟩,(r.y1-r.y0),(bytV a0.v j0.h r)⟩:Task),_,rfl,⟨(e1.rdAt (cs:=[d1]) 0 rfl)⟩,hv,m2⟩
  refine rE<|pu1<|tW c0 0 7 (I 1) sizeOf3 fun _ e0=>nT<|seqE ?_
  obtain ⟨k0,j1,k1,n2,o2,q2⟩:=RdT.elem hx.shapes a0.a
  refine drawE [11,13] [(0,⟨b0,0,none⟩,I a0.kind),(0,⟨b0,1,none⟩,I a0.a),(0,⟨b0,2,none⟩,I a0.b),(0,⟨b0,3,none⟩, .bool a0.barrier),(0,⟨b0,4,none⟩,I a0.edgePolicy),(0,⟨b0,5,none⟩,I a0.edgeFill),(0,⟨b0,6,none⟩,I a0.kW),(0,⟨b0,7,none⟩,I a0.kH),(0,⟨b0,8,none⟩, .slice a0.weights.a a0.weights.n a0.weights.k),(0,⟨b0,9,none⟩, .slice a0.row.a a0.row.n a0.row.k),(0,⟨b0,10,none⟩, .slice a0.col.a a0.col.n a0.col.k),(0,⟨b0,11,none⟩,I a0.shift),(0,⟨b0,12,none⟩,I a0.shift2),(0,⟨b0,13,none⟩, .slice a0.x.a a0.x.n a0.x.k),(0,⟨b0,14,none⟩, .slice a0.y.a a0.y.n a0.y.k),(0,⟨b0,15,none⟩,I a0.bins),(0,⟨b0,16,none⟩, .slice a0.ops.a a0.ops.n a0.ops.k),(0,⟨b0,17,none⟩,I a0.max_),(4,⟨b,7,none⟩, .slice x.shapes.a x.shapes.n x.shapes.k),(6,⟨b0,1,none⟩,I a0.a),(9,⟨j1,k1+1,none⟩,I k0.h),(10,⟨g0,0,none⟩,I r.x0),(10,⟨g0,1,none⟩,I r.y0),(10,⟨g0,2,none⟩,I r.x1),(10,⟨g0,3,none⟩,I r.y1)] [(true,[1,2,3,5]),(true,[0]),(true,[4]),(true,[6]),(true,[7]),(true,[8]),(true,[9]),(true,[10]),(false,[11]),(true,[12]),(false,[13])] rfl kr ⟨cI e0 2,cI e0 2,cI e0 2,cI e0 2,cI e0 2,cI e0 2,cI e0 2,cI e0 2,cI e0 2,cI e0 2,cI e0 2,cI e0 2,cI e0 2,cI e0 2,cI e0 2,cI e0 2,cI e0 2,cI e0 2,cI e0 3,cI e0 2, .inr ((o2.up 6 rfl).cell e0 (k:=1) rfl),cI e0 5,cI e0 5,cI e0 5,cI e0 5,trivial⟩ ?_
  have r2:=e0.drew
  refine wU [1,2,3,5]<|wY (.agg (encStage a0).toArray) rfl (fun w hF=>Y_loadF rfl (isAgg38 w) (sizeOf38 w) kr rfl ⟨hF 0 _ _ rfl,hF 1 _ _ rfl,hF 2 _ _ rfl,hF 3 _ _ rfl,hF 4 _ _ rfl,hF 5 _ _ rfl,hF 6 _ _ rfl,hF 7 _ _ rfl,hF 8 _ _ rfl,hF 9 _ _ rfl,hF 10 _ _ rfl,hF 11 _ _ rfl,hF 12 _ _ rfl,hF 13 _ _ rfl,hF 14 _ _ rfl,hF 15 _ _ rfl,hF 16 _ _ rfl,hF 17 _ _ rfl,trivial⟩)<|wLd (.slice x.shapes.a x.shapes.n x.shapes.k) 18 isAgg61<|wLd (I a0.a) 19 isAgg3<|wY (.pointer (some ⟨j1,k1,none⟩)) rfl (fun w _=>Y_idx (a:=x.shapes.a) (i:=a0.a) (len:=x.shapes.n) (cap:=x.shapes.k) rfl runUnderlying61 sizeOf54 kr kr q2)<|wU [8]<|wLd (I k0.h) 20 isAgg3 ?_
  refine wY (.agg (encRct r).toArray) rfl (fun w hF=>Y_loadF rfl (isAgg44 w) (sizeOf44 w) kr rfl ⟨hF 21 _ _ rfl,hF 22 _ _ rfl,hF 23 _ _ rfl,hF 24 _ _ rfl,trivial⟩)<|wO rfl<|cR call69 (p20_bytes a0 k0.h r ⟨(RdT.flat (hok_q_11.weights.up 6 (by rfl))),(RdT.flat (hok_q_11.row.up 6 (by rfl))),(RdT.flat (hok_q_11.col.up 6 (by rfl))),(RdT.flat (hok_q_11.x.up 6 (by rfl))),(fun z hz=>(hok_q_11.xD z hz).of_mem (mem_flat1 6 (by rfl))),(RdT.flat (hok_q_11.y.up 6 (by rfl))),(fun z hz=>(hok_q_11.yD z hz).of_mem (mem_flat1 6 (by rfl))),(RdT.flat (hok_q_11.ops.up 6 (by rfl)))⟩ (by have h:=hg.byt hnd;rw [hst_q_11] at h;exact h) hr r2.flat) fun _ u0=>?_
  refine nilO ⟨⟨dI,dI,dI,dI,dI,dI,dI,dI,dI,dI,dI,dI,dI,dI,dI,dI,dI,dI,cI u0 3,cI u0 2,dI,dI,dI,dI,dI,trivial⟩,?_⟩
  refine wU [12]<|wO rfl<|tW u0 0 8 (I (bytV a0.v k0.h r)) sizeOf3 fun _ l1=>nilO ⟨dA,?_⟩
  refine wN<|tN<|sR<|lA l1 0 0 9 (isAgg46 _) (sizeOf46 _)<|sT l1 4 0 (.agg #[I nd,I part,I r.x0,I r.y0,I r.x1,I r.y1, .slice a h0 k,I 1,I (bytV a0.v k0.h r)]) [I nd,I part,I r.x0,I r.y0,I r.x1,I r.y1, .slice a h0 k,I 1,I (bytV a0.v k0.h r)] #[I nd,I part,I r.x0,I r.y0,I r.x1,I r.y1, .slice a h0 k,I 1,I (bytV a0.v k0.h r)] sizeOf46 fun _ m1=>zE<|retN (vs:=[.agg #[I nd,I part,I r.x0,I r.y0,I r.x1,I r.y1, .slice a h0 k,I 1,I (bytV a0.v k0.h r)]]) rfl (.cons (.cell _ _ _ _ kr (lvA m1 4 0 [I nd,I part,I r.x0,I r.y0,I r.x1,I r.y1, .slice a h0 k,I 1,I (bytV a0.v k0.h r)] (isAgg46 _) (sizeOf46 _) rfl rfl rfl)) .nil) ?_
  have s2:=(m1.drops [0,1,2,2])
  have hv:Task.v (⟨nd,part,r.x0,r.y0,r.x1,r.y1,⟨a,h0,k,(Go.Lib.compact (ds.mergeSort fun x y=>decide (x<=y)))⟩,1,(bytV a0.v k0.h r)⟩:Task)=x.L.task nd part r ds:=by unfold Lay.task;rw [hst_q_11,show shpAt x.L.sh a0.v.a=k0 from shp_at' n2,<-canon_sort,if_pos s0];rfl
  exact ⟨(⟨nd,part,r.x0,r.y0,r.x1,r.y1,⟨a,h0,k,(Go.Lib.compact (ds.mergeSort fun x y=>decide (x<=y)))⟩,1,(bytV a0.v k0.h r)⟩:Task),_,rfl,⟨(e1.rdAt (cs:=[d1]) 0 rfl)⟩,hv,s2⟩
 refine qO rfl<|sAlloc c1 zeroValue46 fun _ _ q0=>nilO ⟨⟨cI q0 5,cI q0 5,cI q0 5,cI q0 5,cI q0 5,cI q0 5,trivial⟩,?_⟩
 refine qO rfl ?_
 have t2:=(q0.pick 1 rfl)
 refine cX call135 (Go.E.own_comp Tryz.layComp b1 t2) ?_
 rintro _ _ ⟨i0,n1,rfl,o1,r0⟩
 refine nilO ⟨⟨cI r0 5,cI r0 5,cI r0 5,cI r0 5,cI r0 5,cI r0 5,trivial⟩,?_⟩
 refine qU [10]<|qO rfl<|sT r0 1 0 (.agg #[I nd,I part,I r.x0,I r.y0,I r.x1,I r.y1, .slice a i0 k,I (r.y1-r.y0),I 0]) [I nd,I part,I r.x0,I r.y0,I r.x1,I r.y1, .slice a i0 k,I (r.y1-r.y0),I 0] #[I nd,I part,I r.x0,I r.y0,I r.x1,I r.y1, .slice a i0 k,I (r.y1-r.y0),I 0] sizeOf46 fun _ d0=>nilO ⟨dA,?_⟩
 refine qN<|tN<|seqE<|sR<|pu2<|nT<|cE part 2 (fun v0=>?_) (fun v0=>?_)
 ·refine rE<|pu1<|tW d0 1 7 (I 1) sizeOf3 fun _ f0=>nT<|seqE ?_
  obtain ⟨l0,q1,r1,u2,v2,w2⟩:=RdT.elem hx.shapes a0.a
  refine drawE [11,13] [(0,⟨b0,0,none⟩,I a0.kind),(0,⟨b0,1,none⟩,I a0.a),(0,⟨b0,2,none⟩,I a0.b),(0,⟨b0,3,none⟩, .bool a0.barrier),(0,⟨b0,4,none⟩,I a0.edgePolicy),(0,⟨b0,5,none⟩,I a0.edgeFill),(0,⟨b0,6,none⟩,I a0.kW),(0,⟨b0,7,none⟩,I a0.kH),(0,⟨b0,8,none⟩, .slice a0.weights.a a0.weights.n a0.weights.k),(0,⟨b0,9,none⟩, .slice a0.row.a a0.row.n a0.row.k),(0,⟨b0,10,none⟩, .slice a0.col.a a0.col.n a0.col.k),(0,⟨b0,11,none⟩,I a0.shift),(0,⟨b0,12,none⟩,I a0.shift2),(0,⟨b0,13,none⟩, .slice a0.x.a a0.x.n a0.x.k),(0,⟨b0,14,none⟩, .slice a0.y.a a0.y.n a0.y.k),(0,⟨b0,15,none⟩,I a0.bins),(0,⟨b0,16,none⟩, .slice a0.ops.a a0.ops.n a0.ops.k),(0,⟨b0,17,none⟩,I a0.max_),(4,⟨b,7,none⟩, .slice x.shapes.a x.shapes.n x.shapes.k),(6,⟨b0,1,none⟩,I a0.a),(9,⟨q1,r1+1,none⟩,I l0.h),(10,⟨g0,0,none⟩,I r.x0),(10,⟨g0,1,none⟩,I r.y0),(10,⟨g0,2,none⟩,I r.x1),(10,⟨g0,3,none⟩,I r.y1)] [(true,[1,2,3,5]),(true,[0]),(true,[4]),(true,[6]),(true,[7]),(true,[8]),(true,[9]),(true,[10]),(false,[11]),(true,[12]),(false,[13])] rfl kr ⟨cI f0 2,cI f0 2,cI f0 2,cI f0 2,cI f0 2,cI f0 2,cI f0 2,cI f0 2,cI f0 2,cI f0 2,cI f0 2,cI f0 2,cI f0 2,cI f0 2,cI f0 2,cI f0 2,cI f0 2,cI f0 2,cI f0 3,cI f0 2, .inr ((v2.up 6 rfl).cell f0 (k:=1) rfl),cI f0 5,cI f0 5,cI f0 5,cI f0 5,trivial⟩ ?_
  have x2:=f0.drew
  refine wU [1,2,3,5]<|wY (.agg (encStage a0).toArray) rfl (fun w hF=>Y_loadF rfl (isAgg38 w) (sizeOf38 w) kr rfl ⟨hF 0 _ _ rfl,hF 1 _ _ rfl,hF 2 _ _ rfl,hF 3 _ _ rfl,hF 4 _ _ rfl,hF 5 _ _ rfl,hF 6 _ _ rfl,hF 7 _ _ rfl,hF 8 _ _ rfl,hF 9 _ _ rfl,hF 10 _ _ rfl,hF 11 _ _ rfl,hF 12 _ _ rfl,hF 13 _ _ rfl,hF 14 _ _ rfl,hF 15 _ _ rfl,hF 16 _ _ rfl,hF 17 _ _ rfl,trivial⟩)<|wLd (.slice x.shapes.a x.shapes.n x.shapes.k) 18 isAgg61<|wLd (I a0.a) 19 isAgg3<|wY (.pointer (some ⟨q1,r1,none⟩)) rfl (fun w _=>Y_idx (a:=x.shapes.a) (i:=a0.a) (len:=x.shapes.n) (cap:=x.shapes.k) rfl runUnderlying61 sizeOf54 kr kr w2)<|wU [8]<|wLd (I l0.h) 20 isAgg3 ?_
  refine wY (.agg (encRct r).toArray) rfl (fun w hF=>Y_loadF rfl (isAgg44 w) (sizeOf44 w) kr rfl ⟨hF 21 _ _ rfl,hF 22 _ _ rfl,hF 23 _ _ rfl,hF 24 _ _ rfl,trivial⟩)<|wO rfl<|cR call69 (p20_bytes a0 l0.h r ⟨(RdT.flat (hok_q_11.weights.up 6 (by rfl))),(RdT.flat (hok_q_11.row.up 6 (by rfl))),(RdT.flat (hok_q_11.col.up 6 (by rfl))),(RdT.flat (hok_q_11.x.up 6 (by rfl))),(fun z hz=>(hok_q_11.xD z hz).of_mem (mem_flat1 6 (by rfl))),(RdT.flat (hok_q_11.y.up 6 (by rfl))),(fun z hz=>(hok_q_11.yD z hz).of_mem (mem_flat1 6 (by rfl))),(RdT.flat (hok_q_11.ops.up 6 (by rfl)))⟩ (by have h:=hg.byt hnd;rw [hst_q_11] at h;exact h) hr x2.flat) fun _ w0=>?_
  refine nilO ⟨⟨dI,dI,dI,dI,dI,dI,dI,dI,dI,dI,dI,dI,dI,dI,dI,dI,dI,dI,cI w0 3,cI w0 2,dI,dI,dI,dI,dI,trivial⟩,?_⟩
  refine wU [12]<|wO rfl<|tW w0 1 8 (I (bytV a0.v l0.h r)) sizeOf3 fun _ s1=>nilO ⟨dA,?_⟩
  refine wN<|tN<|sR<|lA s1 1 0 9 (isAgg46 _) (sizeOf46 _)<|sT s1 4 0 (.agg #[I nd,I part,I r.x0,I r.y0,I r.x1,I r.y1, .slice a i0 k,I 1,I (bytV a0.v l0.h r)]) [I nd,I part,I r.x0,I r.y0,I r.x1,I r.y1, .slice a i0 k,I 1,I (bytV a0.v l0.h r)] #[I nd,I part,I r.x0,I r.y0,I r.x1,I r.y1, .slice a i0 k,I 1,I (bytV a0.v l0.h r)] sizeOf46 fun _ t1=>zE<|retN (vs:=[.agg #[I nd,I part,I r.x0,I r.y0,I r.x1,I r.y1, .slice a i0 k,I 1,I (bytV a0.v l0.h r)]]) rfl (.cons (.cell _ _ _ _ kr (lvA t1 4 0 [I nd,I part,I r.x0,I r.y0,I r.x1,I r.y1, .slice a i0 k,I 1,I (bytV a0.v l0.h r)] (isAgg46 _) (sizeOf46 _) rfl rfl rfl)) .nil) ?_
  have y2:=(t1.drops [1,1,2,2])
  have hv:Task.v (⟨nd,part,r.x0,r.y0,r.x1,r.y1,⟨a,i0,k,(Go.Lib.compact (ds.mergeSort fun x y=>decide (x<=y)))⟩,1,(bytV a0.v l0.h r)⟩:Task)=x.L.task nd part r ds:=by unfold Lay.task;rw [hst_q_11,show shpAt x.L.sh a0.v.a=l0 from shp_at' u2,<-canon_sort,if_pos v0];rfl
  exact ⟨(⟨nd,part,r.x0,r.y0,r.x1,r.y1,⟨a,i0,k,(Go.Lib.compact (ds.mergeSort fun x y=>decide (x<=y)))⟩,1,(bytV a0.v l0.h r)⟩:Task),_,rfl,⟨(o1.rdAt (cs:=[n1]) 0 rfl)⟩,hv,y2⟩
 refine kT<|seqE ?_
 obtain ⟨m0,u1,v1,z2,a3,b3⟩:=RdT.elem hx.shapes a0.a
 refine drawE [11,13] [(0,⟨b0,0,none⟩,I a0.kind),(0,⟨b0,1,none⟩,I a0.a),(0,⟨b0,2,none⟩,I a0.b),(0,⟨b0,3,none⟩, .bool a0.barrier),(0,⟨b0,4,none⟩,I a0.edgePolicy),(0,⟨b0,5,none⟩,I a0.edgeFill),(0,⟨b0,6,none⟩,I a0.kW),(0,⟨b0,7,none⟩,I a0.kH),(0,⟨b0,8,none⟩, .slice a0.weights.a a0.weights.n a0.weights.k),(0,⟨b0,9,none⟩, .slice a0.row.a a0.row.n a0.row.k),(0,⟨b0,10,none⟩, .slice a0.col.a a0.col.n a0.col.k),(0,⟨b0,11,none⟩,I a0.shift),(0,⟨b0,12,none⟩,I a0.shift2),(0,⟨b0,13,none⟩, .slice a0.x.a a0.x.n a0.x.k),(0,⟨b0,14,none⟩, .slice a0.y.a a0.y.n a0.y.k),(0,⟨b0,15,none⟩,I a0.bins),(0,⟨b0,16,none⟩, .slice a0.ops.a a0.ops.n a0.ops.k),(0,⟨b0,17,none⟩,I a0.max_),(4,⟨b,7,none⟩, .slice x.shapes.a x.shapes.n x.shapes.k),(6,⟨b0,1,none⟩,I a0.a),(9,⟨u1,v1+1,none⟩,I m0.h),(10,⟨g0,0,none⟩,I r.x0),(10,⟨g0,1,none⟩,I r.y0),(10,⟨g0,2,none⟩,I r.x1),(10,⟨g0,3,none⟩,I r.y1)] [(true,[1,2,3,5]),(true,[0]),(true,[4]),(true,[6]),(true,[7]),(true,[8]),(true,[9]),(true,[10]),(false,[11]),(true,[12]),(false,[13])] rfl kr ⟨cI d0 2,cI d0 2,cI d0 2,cI d0 2,cI d0 2,cI d0 2,cI d0 2,cI d0 2,cI d0 2,cI d0 2,cI d0 2,cI d0 2,cI d0 2,cI d0 2,cI d0 2,cI d0 2,cI d0 2,cI d0 2,cI d0 3,cI d0 2, .inr ((a3.up 6 rfl).cell d0 (k:=1) rfl),cI d0 5,cI d0 5,cI d0 5,cI d0 5,trivial⟩ ?_
 have c3:=d0.drew
 refine wU [1,2,3,5]<|wY (.agg (encStage a0).toArray) rfl (fun w hF=>Y_loadF rfl (isAgg38 w) (sizeOf38 w) kr rfl ⟨hF 0 _ _ rfl,hF 1 _ _ rfl,hF 2 _ _ rfl,hF 3 _ _ rfl,hF 4 _ _ rfl,hF 5 _ _ rfl,hF 6 _ _ rfl,hF 7 _ _ rfl,hF 8 _ _ rfl,hF 9 _ _ rfl,hF 10 _ _ rfl,hF 11 _ _ rfl,hF 12 _ _ rfl,hF 13 _ _ rfl,hF 14 _ _ rfl,hF 15 _ _ rfl,hF 16 _ _ rfl,hF 17 _ _ rfl,trivial⟩)<|wLd (.slice x.shapes.a x.shapes.n x.shapes.k) 18 isAgg61<|wLd (I a0.a) 19 isAgg3<|wY (.pointer (some ⟨u1,v1,none⟩)) rfl (fun w _=>Y_idx (a:=x.shapes.a) (i:=a0.a) (len:=x.shapes.n) (cap:=x.shapes.k) rfl runUnderlying61 sizeOf54 kr kr b3)<|wU [8]<|wLd (I m0.h) 20 isAgg3 ?_
 refine wY (.agg (encRct r).toArray) rfl (fun w hF=>Y_loadF rfl (isAgg44 w) (sizeOf44 w) kr rfl ⟨hF 21 _ _ rfl,hF 22 _ _ rfl,hF 23 _ _ rfl,hF 24 _ _ rfl,trivial⟩)<|wO rfl<|cR call69 (p20_bytes a0 m0.h r ⟨(RdT.flat (hok_q_11.weights.up 6 (by rfl))),(RdT.flat (hok_q_11.row.up 6 (by rfl))),(RdT.flat (hok_q_11.col.up 6 (by rfl))),(RdT.flat (hok_q_11.x.up 6 (by rfl))),(fun z hz=>(hok_q_11.xD z hz).of_mem (mem_flat1 6 (by rfl))),(RdT.flat (hok_q_11.y.up 6 (by rfl))),(fun z hz=>(hok_q_11.yD z hz).of_mem (mem_flat1 6 (by rfl))),(RdT.flat (hok_q_11.ops.up 6 (by rfl)))⟩ (by have h:=hg.byt hnd;rw [hst_q_11] at h;exact h) hr c3.flat) fun _ z0=>?_
 refine nilO ⟨⟨dI,dI,dI,dI,dI,dI,dI,dI,dI,dI,dI,dI,dI,dI,dI,dI,dI,dI,cI z0 3,cI z0 2,dI,dI,dI,dI,dI,trivial⟩,?_⟩
 refine wU [12]<|wO rfl<|tW z0 1 8 (I (bytV a0.v m0.h r)) sizeOf3 fun _ w1=>nilO ⟨dA,?_⟩
 refine wN<|tN<|sR<|lA w1 1 0 9 (isAgg46 _) (sizeOf46 _)<|sT w1 4 0 (.agg #[I nd,I part,I r.x0,I r.y0,I r.x1,I r.y1, .slice a i0 k,I (r.y1-r.y0),I (bytV a0.v m0.h r)]) [I nd,I part,I r.x0,I r.y0,I r.x1,I r.y1, .slice a i0 k,I (r.y1-r.y0),I (bytV a0.v m0.h r)] #[I nd,I part,I r.x0,I r.y0,I r.x1,I r.y1, .slice a i0 k,I (r.y1-r.y0),I (bytV a0.v m0.h r)] sizeOf46 fun _ z1=>?_
 refine zE<|retN (vs:=[.agg #[I nd,I part,I r.x0,I r.y0,I r.x1,I r.y1, .slice a i0 k,I (r.y1-r.y0),I (bytV a0.v m0.h r)]]) rfl (.cons (.cell _ _ _ _ kr (lvA z1 4 0 [I nd,I part,I r.x0,I r.y0,I r.x1,I r.y1, .slice a i0 k,I (r.y1-r.y0),I (bytV a0.v m0.h r)] (isAgg46 _) (sizeOf46 _) rfl rfl rfl)) .nil) ?_
 have d3:=(z1.drops [1,1,2,2])
 have hv:Task.v (⟨nd,part,r.x0,r.y0,r.x1,r.y1,⟨a,i0,k,(Go.Lib.compact (ds.mergeSort fun x y=>decide (x<=y)))⟩,(r.y1-r.y0),(bytV a0.v m0.h r)⟩:Task)=x.L.task nd part r ds:=by unfold Lay.task;rw [hst_q_11,show shpAt x.L.sh a0.v.a=m0 from shp_at' z2,<-canon_sort,if_neg v0];rfl
 exact ⟨(⟨nd,part,r.x0,r.y0,r.x1,r.y1,⟨a,i0,k,(Go.Lib.compact (ds.mergeSort fun x y=>decide (x<=y)))⟩,(r.y1-r.y0),(bytV a0.v m0.h r)⟩:Task),_,rfl,⟨(o1.rdAt (cs:=[n1]) 0 rfl)⟩,hv,d3⟩
theorem p20_tasks {b:Nat} {x:LayM} (hx:LayM.Ok [H] x) (nd:Int) (hg:LayG x.L) (hx2:x.jobStages.n=x.jobStages.l.length) (hW:LayW x) (hnd:nd∈x.L.od) (htt:x.L.total<=4096) (hS:Sat W w ([(b, .cells (encLayM x).toArray 97 (0,0))]::H::F)):
  Calls prog 47 #[Pt b 0,I nd] w fun e w'=>∃(az:Option Addr) (nz kz:Nat) (zs:List Task) (Z G:Chunk),e= .returned (.slice az nz kz)/\OwnT encTask 46 9 az nz kz zs Z/\(∀z∈zs,Task.Ok [G] z)/\zs.map Task.v=x.L.tasks nd/\Sat W w' (Z::G::[(b, .cells (encLayM x).toArray 97 (0,0))]::H::F):=by
 have hl_x_jobInputs:=hx.jobInputs.le;have hn_x_jobInputs:=hx.jobInputs.len
 have hl_x_jobStages:=hx.jobStages.le;have hn_x_jobStages:=hx.jobStages.len
 have hl_x_jobOutputs:=hx.jobOutputs.le;have hn_x_jobOutputs:=hx.jobOutputs.len
 have hl_x_order:=hx.order.le;have hn_x_order:=hx.order.len
 have hl_x_shapes:=hx.shapes.le;have hn_x_shapes:=hx.shapes.len
 have hl_x_first:=hx.first.le;have hn_x_first:=hx.first.len
 have hl_x_count:=hx.count.le;have hn_x_count:=hx.count.len
 have hgn:1<=(x.jobInputs.n:Int)/\(x.jobInputs.n:Int)+(x.jobStages.n:Int)<=16:=by have h:=hg.ni;simp only [LayM.L,List.length_map] at h;omega
 have hgs:(x.shapes.n:Int)=(x.jobInputs.n:Int)+(x.jobStages.n:Int):=by have h:=hg.len;simp only [LayM.L,List.length_map] at h;omega
 have htl:tileP x.tw x.th:=hg.tl;unfold tileP at htl
 have hr_hnd:(x.jobInputs.n:Int)<=nd/\nd<(x.jobInputs.n:Int)+(x.jobStages.n:Int):=by have h:=hg.rng nd hnd;simp only [LayM.L,List.length_map] at h;omega
 have hfi:fineP (x.L.cut nd).w (x.L.cut nd).h x.tw x.th:=hg.fine hnd
 have hgr:=hg.grid hnd;have hcb:=hg.cntb hnd;have hfb:=hg.firstb hnd;have hcs:=hg.cutsz hnd;have htb:=hg.totb;unfold szP at hcs
 have hb1:=(List.getElem?_eq_some_iff.1 (hW nd hnd).1).1
 obtain ⟨nx,hnx⟩:∃z,z=(colsN (x.L.cut nd).w (x.L.cut nd).h x.tw x.th):=⟨_,rfl⟩;obtain ⟨ny,hny⟩:∃z,z=(rowsN (x.L.cut nd).w (x.L.cut nd).h x.tw x.th):=⟨_,rfl⟩;obtain ⟨fr,hfr⟩:∃z,z=x.L.first nd:=⟨_,rfl⟩
 have hnx2:x.L.nx nd=nx:=by rw [hnx];rfl
 have hny2:x.L.ny nd=ny:=by rw [hny];rfl
 rw [hnx2,hny2] at hgr;rw [<-hfr] at hfb
 refine callsA 132 func47 rfl<|sR<|pu1<|zS<|pu2<|cX call60 (p20_stage (hx.of_mem (mem_flat1 0 (by rfl))) nd om om hS.flat1) ?_
 rintro _ _ ⟨a0,rfl,z3,q4⟩
 have r4:=q4.unflat1
 have hok_q_4:=hx.jobStagesD a0 (List.mem_of_getElem? z3);have hst_q_4:=lay_st z3
 refine sAlloc r4 zeroValue38 fun d0 _ s4=>?_
 refine sT s4 0 0 (.agg (encStage a0).toArray) (encStage a0) (encStage a0).toArray sizeOf38 fun _ t4=>nilO ?_
 have hsq:∀y∈srcs a0.v,0<=y/\y<x.L.ni+(x.L.ss.length:Int)/\(y<x.L.ni\/y∈x.L.od):=fun y hy=>hg.src hnd y (by rw [hst_q_4];exact hy)
 refine tN<|sR<|pu2 ?_
 have u4:=(t4.pick 1 rfl)
 refine cX call87 (p20_cut (hx.of_mem (mem_flat1 1 (by rfl))) nd hg hx2 hnd u4.flat1) ?_
 rintro _ _ ⟨rfl,v4⟩
 refine sAlloc (Sat.unflat1 v4) zeroValue54 fun c0 _ x4=>?_
 refine sT x4 0 0 (.agg #[I ((x.L.cut nd).w),I ((x.L.cut nd).h),I ((x.L.cut nd).max_)]) [I ((x.L.cut nd).w),I ((x.L.cut nd).h),I ((x.L.cut nd).max_)] #[I ((x.L.cut nd).w),I ((x.L.cut nd).h),I ((x.L.cut nd).max_)] sizeOf54 fun _ t0=>nT<|seqE<|drawE [12] [(1,⟨c0,0,none⟩,I ((x.L.cut nd).w)),(3,⟨c0,1,none⟩,I ((x.L.cut nd).h)),(7,⟨b,4,none⟩,I x.tw),(11,⟨b,5,none⟩,I x.th)] [(true,[0,2,4,5,6,8,9,10]),(true,[1]),(true,[3]),(true,[7]),(true,[11]),(false,[12]),(true,[13]),(true,[14]),(true,[15]),(true,[16,17])] rfl kr ⟨cI t0 0,cI t0 0,cI t0 1,cI t0 1,trivial⟩ ?_
 have y4:=t0.drew
 refine wU [0,2,4,5,6,8,9,10]<|wLd (I ((x.L.cut nd).w)) 0 isAgg3<|wLd (I ((x.L.cut nd).h)) 1 isAgg3<|wLd (I x.tw) 2 isAgg3<|wLd (I x.th) 3 isAgg3<|wO rfl<|cR call88 (p5_count ((x.L.cut nd).w) ((x.L.cut nd).h) x.tw x.th y4.flat) fun _ u0=>?_
 rw [<-hnx,<-hny]
 refine nilO ⟨dA,?_⟩
 refine wU [13]<|wU [14]<|wU [15]<|wU [16,17]<|wN<|tN<|sR<|pu3<|sL u0 1 8 (.slice x.first.a x.first.n x.first.k) (isAgg22 _)<|pu1<|sIdx hx.first nd runUnderlying22 sizeOf3 fun b0 _ _ z4 a5=>?_
 have hf1:fr=b0:=hfr.trans (Option.some.inj ((hW nd hnd).1.symm.trans z4))
 refine sLp u0 (a5.up 3 rfl) 0 (I b0) (isAgg3 _)<|pu1<|zS<|pu1<|zQ<|pu1<|sL u0 2 0 (I a0.kind) (isAgg3 _)<|pu1<|nT<|cE a0.kind 4 (fun e0=>?_) (fun e0=>?_)
 rotate_left
 ·refine kS<|pu1<|zQ<|pu2<|sMul nx ny<|pu1<|nT<|blockE ?_
  have b5:=Sat.nilc u0
  have c5:=OwnT.nil (enc:=encTask) (E:=46) (sz:=9) fR
  refine loopA (γ:=Nat×(List Task)×(Option Addr)×Nat×Nat×Chunk×Chunk) (fun ⟨i,zs,azs,nzs,kzs,czs,Gzs⟩=>[(0,Pt b 0),(1,I nd),(5,Pt d0 0),(6,Pt c0 0),(7,I nx),(8,I ny),(9,I b0),(10,I 0),(51,I (nx*ny)),(52,I (i:Int)),(11, .slice azs nzs kzs)]) (fun ⟨i,zs,azs,nzs,kzs,czs,Gzs⟩ w=>Sat W w (Gzs::czs::[(c0, .cells #[I ((x.L.cut nd).w),I ((x.L.cut nd).h),I ((x.L.cut nd).max_)] 54 (0,0))]::[(b, .cells (encLayM x).toArray 97 (0,0))]::[(d0, .cells (encStage a0).toArray 38 (0,0))]::H::F)/\i<=(nx*ny).toNat/\(zs.map Task.v=(uptoV i).map (x.L.tileT nd))/\(zs.length=i)/\OwnT encTask 46 9 azs nzs kzs zs czs/\(∀z∈zs,Task.Ok [Gzs] z)) (fun ⟨i,zs,azs,nzs,kzs,czs,Gzs⟩=>((nx*ny).toNat)-i) (0,[],none,0,0,[],[]) ⟨(Sat.nilc b5),om,by rfl,by rfl,c5,(by intro z hz;cases hz)⟩ ?_
  rintro ⟨i,zs,azs,nzs,kzs,czs,Gzs⟩ ρ _ ⟨g0,hi,hE,hzl,hOzs,hDzs⟩
  have hn_zs:=hOzs.len;have hl_zs:=hOzs.le
  refine sR<|pu1<|nT<|seqE<|cD ((i:Int)<(nx*ny)) (fun e5=>?_) (fun e5=>?_)
  rotate_left
  ·refine exitE<|xB<|tN<|seqE<|seqE ?_
   have hi9:i=(nx*ny).toNat:=by omega
   refine rE<|pu1<|sL g0 4 0 (I a0.kind) (isAgg3 _)<|pu1<|nT ?_
   have f5:¬((a0.kind:Int)=4):=e0
   refine cF _ (beq_eq_false_iff_ne.2 f5)<|kS<|pu2<|zE<|retT [.slice azs nzs kzs] ?_
   have g5:=((g0.pick 1 rfl).drops [2,3])
   have hz:zs.map Task.v=x.L.tasks nd:=by unfold Lay.tasks;rw [hst_q_4,if_neg (show ¬a0.v.kind=4 from e0),hnx2,hny2,List.append_nil,hE,hi9]
   exact ⟨_,_,_,_,_,_,rfl,hOzs,hDzs,hz,g5⟩
  refine kT<|seqE<|blockE<|sR<|pu2<|nT<|seqE<|drawP [13,17,18] [(1,⟨c0,0,none⟩,I ((x.L.cut nd).w)),(3,⟨c0,1,none⟩,I ((x.L.cut nd).h)),(7,⟨b,4,none⟩,I x.tw),(11,⟨b,5,none⟩,I x.th)] (Plan.sts [0,2,4,5,6,8,9,10,12]<|Plan.sts [1]<|Plan.sts [3]<|Plan.sts [7]<|Plan.sts [11]<| .fk 13 17 (Plan.sts [14]<|Plan.sts [15]<|Plan.sts [16]<| .ef 17<| .ef 18<|Plan.sts [19]<| .fin) (.ef 13<|Plan.sts [14]<|Plan.sts [15]<|Plan.sts [16]<| .ef 18<|Plan.sts [19]<| .fin)) rfl kr ⟨cI g0 2,cI g0 2,cI g0 3,cI g0 3,trivial⟩ ?_
  have a4:=g0.drew
  refine qU [0,2,4,5,6,8,9,10,12]<|qLd (I ((x.L.cut nd).w)) 0 isAgg3<|qLd (I ((x.L.cut nd).h)) 1 isAgg3<|qLd (I x.tw) 2 isAgg3<|qLd (I x.th) 3 isAgg3<|qF ?_ ?_
  ·refine qO rfl<|cR call89 (p5_tile ((x.L.cut nd).w) ((x.L.cut nd).h) x.tw x.th (i:Int) hfi ⟨om,by rw [<-hnx,<-hny];omega⟩ a4.flat) ?_
   intro _ h5
   refine nilO ⟨dA,?_⟩
   refine qU [14]<|qU [15]<|qU [16]<|qO rfl<|sAlloc h5 zeroValue44 fun i5 _ j5=>nilO ⟨dA,?_⟩
   refine qO rfl ?_
   refine sT j5 0 0 (.agg #[I ((tileV ((x.L.cut nd).w) ((x.L.cut nd).h) x.tw x.th (i:Int)).x0),I ((tileV ((x.L.cut nd).w) ((x.L.cut nd).h) x.tw x.th (i:Int)).y0),I ((tileV ((x.L.cut nd).w) ((x.L.cut nd).h) x.tw x.th (i:Int)).x1),I ((tileV ((x.L.cut nd).w) ((x.L.cut nd).h) x.tw x.th (i:Int)).y1)]) [I ((tileV ((x.L.cut nd).w) ((x.L.cut nd).h) x.tw x.th (i:Int)).x0),I ((tileV ((x.L.cut nd).w) ((x.L.cut nd).h) x.tw x.th (i:Int)).y0),I ((tileV ((x.L.cut nd).w) ((x.L.cut nd).h) x.tw x.th (i:Int)).x1),I ((tileV ((x.L.cut nd).w) ((x.L.cut nd).h) x.tw x.th (i:Int)).y1)] #[I ((tileV ((x.L.cut nd).w) ((x.L.cut nd).h) x.tw x.th (i:Int)).x0),I ((tileV ((x.L.cut nd).w) ((x.L.cut nd).h) x.tw x.th (i:Int)).y0),I ((tileV ((x.L.cut nd).w) ((x.L.cut nd).h) x.tw x.th (i:Int)).x1),I ((tileV ((x.L.cut nd).w) ((x.L.cut nd).h) x.tw x.th (i:Int)).y1)] sizeOf44 ?_
   intro k5 l5
   refine nilO ⟨dA,?_⟩
   refine qU [19]<|qN ?_
   obtain ⟨r,hr⟩:∃z:Rct,z=(tileV (x.L.cut nd).w (x.L.cut nd).h x.tw x.th (i:Int)):=⟨_,rfl⟩
   have a2:Sat W k5 ([(i5, .cells (encRct r).toArray 44 (0,0))]::Gzs::czs::[(c0, .cells #[I ((x.L.cut nd).w),I ((x.L.cut nd).h),I ((x.L.cut nd).max_)] 54 (0,0))]::[(b, .cells (encLayM x).toArray 97 (0,0))]::[(d0, .cells (encStage a0).toArray 38 (0,0))]::H::F):=by rw [hr];exact l5
   have hin:inP r:=by rw [hr];exact (tile_in hfi om (by rw [<-hnx,<-hny];omega)).1
   have hrt:x.L.tile nd (i:Int)=r:=by rw [hr];rfl
   refine tN<|sR<|pu1<|lA a2 5 0 18 (isAgg38 _) (sizeOf38 _)<|lA a2 0 0 4 (isAgg44 _) (sizeOf44 _) ?_
   have m5:=(a2.pick 4 rfl)
   refine cX call90 (p20_needs (hx.of_mem (mem_flat1 5 (by rfl))) (q:=a0) ⟨(RdT.flat (hok_q_4.weights.up 5 (by rfl))),(RdT.flat (hok_q_4.row.up 5 (by rfl))),(RdT.flat (hok_q_4.col.up 5 (by rfl))),(RdT.flat (hok_q_4.x.up 5 (by rfl))),(fun z hz=>(hok_q_4.xD z hz).of_mem (mem_flat1 5 (by rfl))),(RdT.flat (hok_q_4.y.up 5 (by rfl))),(fun z hz=>(hok_q_4.yD z hz).of_mem (mem_flat1 5 (by rfl))),(RdT.flat (hok_q_4.ops.up 5 (by rfl)))⟩ r hg hx2 hW hsq m5.flat1) ?_
   rintro _ _ ⟨_,_,_,_,rfl,l0,n5⟩
   have h0:=n5.unflat2;have hn_az_381:=l0.len;have hl_az_381:=l0.le
   have hnl_az_381:=flat_len2 (s:=a0.v) (r:=r) hg (srcs a0.v) (fun y hy=>(hsq y hy).2.2);have hnm_az_381:=srcs_len a0.v;unfold Lay.needs at hn_az_381
   refine pu1<|zQ<|pu1<|sL h0 6 0 (I a0.kind) (isAgg3 _)<|pu1<|nT<|cE a0.kind 5 (fun m0=>?_) (fun m0=>?_)
   rotate_left
   ·refine kT<|rE<|pu4<|lA h0 2 0 4 (isAgg44 _) (sizeOf44 _)<|pu1 ?_
    have o5:=(h0.picks [1,1])
    refine cX call91 (p20_task (hx.of_mem (mem_flat1 5 (by rfl))) l0 nd 0 r hg hx2 hnd hin om o5.flat2) ?_
    rintro _ _ ⟨b1,b2,rfl,p5,q5,r5⟩
    refine sBS (Sat.unflat2 r5) (encTask b1).toArray runUnderlying39 sizeOf46 zeroValue46 fun _ _ t5=>sApp (nb:=88) t5 hOzs 5 (RdT.blk (enc:=encTask) (sz:=9) (xs:=[b1]) fR 1 0 rfl rfl rfl om) underlying39 (i:=Tryz.t46) kr fR fun u5 v5 c2 _ w5 x5=>pu1<|nilO ?_
    have how:x.L.own nd (i:Int)=[]:=by unfold Lay.own;rw [hst_q_4,if_neg (show ¬a0.v.kind=5 from m0)]
    have hpt:x.L.part nd=0:=by unfold Lay.part;rw [hst_q_4,if_neg (show ¬a0.v.kind=4 from e0)]
    have htv:b1.v=x.L.tileT nd (i:Int):=by rw [q5];unfold Lay.tileT;rw [hrt,hpt,hst_q_4,how];first|rfl|simp only [List.append_assoc,List.append_nil,List.nil_append]
    refine bN<|tN<|rE<|sAdd (i:Int) 1<|pu1<|nT ?_
    have y5:=((x5.picks [6,6,6,4]).drops [4,5])
    exact ⟨(i+1,(zs++[b1]),u5,(nzs+1),v5,c2,(b2++Gzs)),od,alA,(Sat.perm (cs':=(b2++Gzs)::(c2::[(c0, .cells #[I ((x.L.cut nd).w),I ((x.L.cut nd).h),I ((x.L.cut nd).max_)] 54 (0,0))]::[(b, .cells (encLayM x).toArray 97 (0,0))]::[(d0, .cells (encStage a0).toArray 38 (0,0))]::H::F)) (show Sat W _ (b2::Gzs::c2::[(c0, .cells #[I ((x.L.cut nd).w),I ((x.L.cut nd).h),I ((x.L.cut nd).max_)] 54 (0,0))]::[(b, .cells (encLayM x).toArray 97 (0,0))]::[(d0, .cells (encStage a0).toArray 38 (0,0))]::H::F) from y5) (by simp)),om,(by rw [List.map_append,hE,upto_map_snoc];simp only [List.map_cons,List.map_nil];rw [htv]),(by simp;omega),w5,(by
      intro z hz
      rcases List.mem_append.1 hz with h|h
      ·exact (hDzs z h).of_mem mS
      ·simp only [List.mem_singleton] at h;subst h;exact (p5.of_mem mS))⟩
   refine seqE<|seqE ?_
   have htm:((i:Int)).tmod nx=(i:Int)%nx:=Int.tmod_eq_emod_of_nonneg om
   refine rE<|pu2<|sRem (i:Int) nx<|pu1<|nT<|cD (((i:Int).tmod nx)>0) (fun a6=>?_) (fun a6=>?_)
   rotate_left
   ·refine kS<|pu3<|nT<|cD ((i:Int)>=nx) (fun b6=>?_) (fun b6=>?_)
    rotate_left
    ·refine kT<|rE<|pu4<|lA h0 2 0 4 (isAgg44 _) (sizeOf44 _)<|pu1 ?_
     have c6:=(h0.picks [1,1])
     refine cX call91 (p20_task (hx.of_mem (mem_flat1 5 (by rfl))) l0 nd 0 r hg hx2 hnd hin om c6.flat2) ?_
     rintro _ _ ⟨c1,d2,rfl,d6,e6,f6⟩
     refine sBS (Sat.unflat2 f6) (encTask c1).toArray runUnderlying39 sizeOf46 zeroValue46 fun _ _ h6=>sApp (nb:=88) h6 hOzs 5 (RdT.blk (enc:=encTask) (sz:=9) (xs:=[c1]) fR 1 0 rfl rfl rfl om) underlying39 (i:=Tryz.t46) kr fR fun i6 j6 e2 _ k6 l6=>pu1<|nilO ?_
     have how:x.L.own nd (i:Int)=([]:List Int)++([]:List Int):=by unfold Lay.own;rw [hst_q_4,if_pos (show a0.v.kind=5 from m0),hnx2,<-hfr,hf1,if_neg (by rw [<-htm];omega),if_neg om]
     have hpt:x.L.part nd=0:=by unfold Lay.part;rw [hst_q_4,if_neg (show ¬a0.v.kind=4 from e0)]
     have htv:c1.v=x.L.tileT nd (i:Int):=by rw [e6];unfold Lay.tileT;rw [hrt,hpt,hst_q_4,how];first|rfl|simp only [List.append_assoc,List.append_nil,List.nil_append]
     refine bN<|tN<|rE<|sAdd (i:Int) 1<|pu1<|nT ?_
     have m6:=((l6.picks [6,6,6,4]).drops [4,5])
     exact ⟨(i+1,(zs++[c1]),i6,(nzs+1),j6,e2,(d2++Gzs)),od,alA,(Sat.perm (cs':=(d2++Gzs)::(e2::[(c0, .cells #[I ((x.L.cut nd).w),I ((x.L.cut nd).h),I ((x.L.cut nd).max_)] 54 (0,0))]::[(b, .cells (encLayM x).toArray 97 (0,0))]::[(d0, .cells (encStage a0).toArray 38 (0,0))]::H::F)) (show Sat W _ (d2::Gzs::e2::[(c0, .cells #[I ((x.L.cut nd).w),I ((x.L.cut nd).h),I ((x.L.cut nd).max_)] 54 (0,0))]::[(b, .cells (encLayM x).toArray 97 (0,0))]::[(d0, .cells (encStage a0).toArray 38 (0,0))]::H::F) from m6) (by simp)),om,(by rw [List.map_append,hE,upto_map_snoc];simp only [List.map_cons,List.map_nil];rw [htv]),(by simp;omega),k6,(by
       intro z hz
       rcases List.mem_append.1 hz with h|h
       ·exact (hDzs z h).of_mem mS
       ·simp only [List.mem_singleton] at h;subst h;exact (d6.of_mem mS))⟩
    refine rE<|pu3<|sAdd b0 (i:Int)<|pu1<|sSub (b0+(i:Int)) nx<|sBS h0 #[I ((b0+(i:Int))-nx)] runUnderlying22 sizeOf3 zeroValue3 fun _ _ o6=>sApp (nb:=8) o6 l0 1 (RdT.blk (enc:=Go.E.encI) (sz:=1) (xs:=[((b0+(i:Int))-nx)]) fR 1 0 rfl rfl rfl om) underlying22 (i:=Tryz.t3) kr fR fun _ _ _ _ p6 b4=>pu1<|nT<|rE<|pu4<|lA b4 3 0 4 (isAgg44 _) (sizeOf44 _)<|pu1 ?_
    have q6:=(b4.picks [2,2])
    refine cX call91 (p20_task (hx.of_mem (mem_flat1 6 (by rfl))) p6 nd 0 r hg hx2 hnd hin om q6.flat2) ?_
    rintro _ _ ⟨d1,f2,rfl,r6,s6,t6⟩
    refine sBS (Sat.unflat2 t6) (encTask d1).toArray runUnderlying39 sizeOf46 zeroValue46 fun _ _ v6=>sApp (nb:=88) v6 hOzs 6 (RdT.blk (enc:=encTask) (sz:=9) (xs:=[d1]) fR 1 0 rfl rfl rfl om) underlying39 (i:=Tryz.t46) kr fR fun w6 x6 g2 _ y6 z6=>pu1<|nilO ?_
    have how:x.L.own nd (i:Int)=([]:List Int)++[b0+(i:Int)-nx]:=by unfold Lay.own;rw [hst_q_4,if_pos (show a0.v.kind=5 from m0),hnx2,<-hfr,hf1,if_neg (by rw [<-htm];omega),if_pos om]
    have hpt:x.L.part nd=0:=by unfold Lay.part;rw [hst_q_4,if_neg (show ¬a0.v.kind=4 from e0)]
    have htv:d1.v=x.L.tileT nd (i:Int):=by rw [s6];unfold Lay.tileT;rw [hrt,hpt,hst_q_4,how];first|rfl|simp only [List.append_assoc,List.append_nil,List.nil_append]
    refine bN<|tN<|rE<|sAdd (i:Int) 1<|pu1<|nT ?_
    have a7:=((z6.picks [7,7,7,4]).drops [4,5,5])
    exact ⟨(i+1,(zs++[d1]),w6,(nzs+1),x6,g2,(f2++Gzs)),od,alA,(Sat.perm (cs':=(f2++Gzs)::(g2::[(c0, .cells #[I ((x.L.cut nd).w),I ((x.L.cut nd).h),I ((x.L.cut nd).max_)] 54 (0,0))]::[(b, .cells (encLayM x).toArray 97 (0,0))]::[(d0, .cells (encStage a0).toArray 38 (0,0))]::H::F)) (show Sat W _ (f2::Gzs::g2::[(c0, .cells #[I ((x.L.cut nd).w),I ((x.L.cut nd).h),I ((x.L.cut nd).max_)] 54 (0,0))]::[(b, .cells (encLayM x).toArray 97 (0,0))]::[(d0, .cells (encStage a0).toArray 38 (0,0))]::H::F) from a7) (by simp)),om,(by rw [List.map_append,hE,upto_map_snoc];simp only [List.map_cons,List.map_nil];rw [htv]),(by simp;omega),y6,(by
      intro z hz
      rcases List.mem_append.1 hz with h|h
      ·exact (hDzs z h).of_mem mS
      ·simp only [List.mem_singleton] at h;subst h;exact (r6.of_mem mS))⟩
   refine rE<|pu3<|sAdd b0 (i:Int)<|sSub (b0+(i:Int)) 1<|sBS h0 #[I ((b0+(i:Int))-1)] runUnderlying22 sizeOf3 zeroValue3 fun _ _ c7=>sApp (nb:=8) c7 l0 1 (RdT.blk (enc:=Go.E.encI) (sz:=1) (xs:=[((b0+(i:Int))-1)]) fR 1 0 rfl rfl rfl om) underlying22 (i:=Tryz.t3) kr fR fun _ _ _ _ c4 h2=>pu1<|zS<|pu3<|nT<|cD ((i:Int)>=nx) (fun d7=>?_) (fun d7=>?_)
   rotate_left
   ·refine kT<|rE<|pu4<|lA h2 3 0 4 (isAgg44 _) (sizeOf44 _)<|pu1 ?_
    have e7:=(h2.picks [2,2])
    refine cX call91 (p20_task (hx.of_mem (mem_flat1 6 (by rfl))) c4 nd 0 r hg hx2 hnd hin om e7.flat2) ?_
    rintro _ _ ⟨e1,i2,rfl,f7,g7,h7⟩
    refine sBS (Sat.unflat2 h7) (encTask e1).toArray runUnderlying39 sizeOf46 zeroValue46 fun _ _ j7=>sApp (nb:=88) j7 hOzs 6 (RdT.blk (enc:=encTask) (sz:=9) (xs:=[e1]) fR 1 0 rfl rfl rfl om) underlying39 (i:=Tryz.t46) kr fR fun k7 l7 j2 _ m7 n7=>pu1<|nilO ?_
    have how:x.L.own nd (i:Int)=[b0+(i:Int)-1]++([]:List Int):=by unfold Lay.own;rw [hst_q_4,if_pos (show a0.v.kind=5 from m0),hnx2,<-hfr,hf1,if_pos (by rw [<-htm];omega),if_neg om]
    have hpt:x.L.part nd=0:=by unfold Lay.part;rw [hst_q_4,if_neg (show ¬a0.v.kind=4 from e0)]
    have htv:e1.v=x.L.tileT nd (i:Int):=by rw [g7];unfold Lay.tileT;rw [hrt,hpt,hst_q_4,how];first|rfl|simp only [List.append_assoc,List.append_nil,List.nil_append]
    refine bN<|tN<|rE<|sAdd (i:Int) 1<|pu1<|nT ?_
    have o7:=((n7.picks [7,7,7,4]).drops [4,5,5])
    exact ⟨(i+1,(zs++[e1]),k7,(nzs+1),l7,j2,(i2++Gzs)),od,alA,(Sat.perm (cs':=(i2++Gzs)::(j2::[(c0, .cells #[I ((x.L.cut nd).w),I ((x.L.cut nd).h),I ((x.L.cut nd).max_)] 54 (0,0))]::[(b, .cells (encLayM x).toArray 97 (0,0))]::[(d0, .cells (encStage a0).toArray 38 (0,0))]::H::F)) (show Sat W _ (i2::Gzs::j2::[(c0, .cells #[I ((x.L.cut nd).w),I ((x.L.cut nd).h),I ((x.L.cut nd).max_)] 54 (0,0))]::[(b, .cells (encLayM x).toArray 97 (0,0))]::[(d0, .cells (encStage a0).toArray 38 (0,0))]::H::F) from o7) (by simp)),om,(by rw [List.map_append,hE,upto_map_snoc];simp only [List.map_cons,List.map_nil];rw [htv]),(by simp;omega),m7,(by
      intro z hz
      rcases List.mem_append.1 hz with h|h
      ·exact (hDzs z h).of_mem mS
      ·simp only [List.mem_singleton] at h;subst h;exact (f7.of_mem mS))⟩
   refine rE<|pu3<|sAdd b0 (i:Int)<|pu1<|sSub (b0+(i:Int)) nx<|sBS h2 #[I ((b0+(i:Int))-nx)] runUnderlying22 sizeOf3 zeroValue3 fun _ _ q7=>sApp (nb:=8) q7 c4 2 (RdT.blk (enc:=Go.E.encI) (sz:=1) (xs:=[((b0+(i:Int))-nx)]) fR 1 0 rfl rfl rfl om) underlying22 (i:=Tryz.t3) kr fR fun _ _ _ _ r7 d4=>pu1<|nT<|rE<|pu4<|lA d4 4 0 4 (isAgg44 _) (sizeOf44 _)<|pu1 ?_
   have s7:=(d4.picks [3,3])
   refine cX call91 (p20_task (hx.of_mem (mem_flat1 7 (by rfl))) r7 nd 0 r hg hx2 hnd hin om s7.flat2) ?_
   rintro _ _ ⟨f1,k2,rfl,t7,u7,v7⟩
   refine sBS (Sat.unflat2 v7) (encTask f1).toArray runUnderlying39 sizeOf46 zeroValue46 fun _ _ x7=>sApp (nb:=88) x7 hOzs 7 (RdT.blk (enc:=encTask) (sz:=9) (xs:=[f1]) fR 1 0 rfl rfl rfl om) underlying39 (i:=Tryz.t46) kr fR fun y7 z7 l2 _ a8 b8=>pu1<|nilO ?_
   have how:x.L.own nd (i:Int)=[b0+(i:Int)-1]++[b0+(i:Int)-nx]:=by unfold Lay.own;rw [hst_q_4,if_pos (show a0.v.kind=5 from m0),hnx2,<-hfr,hf1,if_pos (by rw [<-htm];omega),if_pos om]
   have hpt:x.L.part nd=0:=by unfold Lay.part;rw [hst_q_4,if_neg (show ¬a0.v.kind=4 from e0)]
   have htv:f1.v=x.L.tileT nd (i:Int):=by rw [u7];unfold Lay.tileT;rw [hrt,hpt,hst_q_4,how];first|rfl|simp only [List.append_assoc,List.append_nil,List.nil_append]
   refine bN<|tN<|rE<|sAdd (i:Int) 1<|pu1<|nT ?_
   have c8:=((b8.picks [8,8,8,4]).drops [4,5,5,5])
   exact ⟨(i+1,(zs++[f1]),y7,(nzs+1),z7,l2,(k2++Gzs)),od,alA,(Sat.perm (cs':=(k2++Gzs)::(l2::[(c0, .cells #[I ((x.L.cut nd).w),I ((x.L.cut nd).h),I ((x.L.cut nd).max_)] 54 (0,0))]::[(b, .cells (encLayM x).toArray 97 (0,0))]::[(d0, .cells (encStage a0).toArray 38 (0,0))]::H::F)) (show Sat W _ (k2::Gzs::l2::[(c0, .cells #[I ((x.L.cut nd).w),I ((x.L.cut nd).h),I ((x.L.cut nd).max_)] 54 (0,0))]::[(b, .cells (encLayM x).toArray 97 (0,0))]::[(d0, .cells (encStage a0).toArray 38 (0,0))]::H::F) from c8) (by simp)),om,(by rw [List.map_append,hE,upto_map_snoc];simp only [List.map_cons,List.map_nil];rw [htv]),(by simp;omega),a8,(by
     intro z hz
     rcases List.mem_append.1 hz with h|h
     ·exact (hDzs z h).of_mem mS
     ·simp only [List.mem_singleton] at h;subst h;exact (t7.of_mem mS))⟩
  refine qO rfl<|sAlloc a4 zeroValue44 fun e8 _ v0=>nilO ⟨⟨cI v0 3,cI v0 3,cI v0 4,cI v0 4,trivial⟩,?_⟩
  refine qO rfl<|cR call89 (p5_tile ((x.L.cut nd).w) ((x.L.cut nd).h) x.tw x.th (i:Int) hfi ⟨om,by rw [<-hnx,<-hny];omega⟩ v0.flat) ?_
  intro _ f8
  refine nilO ⟨dA,?_⟩
  refine qU [14]<|qU [15]<|qU [16]<|qO rfl ?_
  refine sT f8 0 0 (.agg #[I ((tileV ((x.L.cut nd).w) ((x.L.cut nd).h) x.tw x.th (i:Int)).x0),I ((tileV ((x.L.cut nd).w) ((x.L.cut nd).h) x.tw x.th (i:Int)).y0),I ((tileV ((x.L.cut nd).w) ((x.L.cut nd).h) x.tw x.th (i:Int)).x1),I ((tileV ((x.L.cut nd).w) ((x.L.cut nd).h) x.tw x.th (i:Int)).y1)]) [I ((tileV ((x.L.cut nd).w) ((x.L.cut nd).h) x.tw x.th (i:Int)).x0),I ((tileV ((x.L.cut nd).w) ((x.L.cut nd).h) x.tw x.th (i:Int)).y0),I ((tileV ((x.L.cut nd).w) ((x.L.cut nd).h) x.tw x.th (i:Int)).x1),I ((tileV ((x.L.cut nd).w) ((x.L.cut nd).h) x.tw x.th (i:Int)).y1)] #[I ((tileV ((x.L.cut nd).w) ((x.L.cut nd).h) x.tw x.th (i:Int)).x0),I ((tileV ((x.L.cut nd).w) ((x.L.cut nd).h) x.tw x.th (i:Int)).y0),I ((tileV ((x.L.cut nd).w) ((x.L.cut nd).h) x.tw x.th (i:Int)).x1),I ((tileV ((x.L.cut nd).w) ((x.L.cut nd).h) x.tw x.th (i:Int)).y1)] sizeOf44 ?_
  intro g8 h8
  refine nilO ⟨dA,?_⟩
  refine qU [19]<|qN ?_
  obtain ⟨r,hr⟩:∃z:Rct,z=(tileV (x.L.cut nd).w (x.L.cut nd).h x.tw x.th (i:Int)):=⟨_,rfl⟩
  have m2:Sat W g8 ([(e8, .cells (encRct r).toArray 44 (0,0))]::Gzs::czs::[(c0, .cells #[I ((x.L.cut nd).w),I ((x.L.cut nd).h),I ((x.L.cut nd).max_)] 54 (0,0))]::[(b, .cells (encLayM x).toArray 97 (0,0))]::[(d0, .cells (encStage a0).toArray 38 (0,0))]::H::F):=by rw [hr];exact h8
  have hin:inP r:=by rw [hr];exact (tile_in hfi om (by rw [<-hnx,<-hny];omega)).1
  have hrt:x.L.tile nd (i:Int)=r:=by rw [hr];rfl
  refine tN<|sR<|pu1<|lA m2 5 0 18 (isAgg38 _) (sizeOf38 _)<|lA m2 0 0 4 (isAgg44 _) (sizeOf44 _) ?_
  have i8:=(m2.pick 4 rfl)
  refine cX call90 (p20_needs (hx.of_mem (mem_flat1 5 (by rfl))) (q:=a0) ⟨(RdT.flat (hok_q_4.weights.up 5 (by rfl))),(RdT.flat (hok_q_4.row.up 5 (by rfl))),(RdT.flat (hok_q_4.col.up 5 (by rfl))),(RdT.flat (hok_q_4.x.up 5 (by rfl))),(fun z hz=>(hok_q_4.xD z hz).of_mem (mem_flat1 5 (by rfl))),(RdT.flat (hok_q_4.y.up 5 (by rfl))),(fun z hz=>(hok_q_4.yD z hz).of_mem (mem_flat1 5 (by rfl))),(RdT.flat (hok_q_4.ops.up 5 (by rfl)))⟩ r hg hx2 hW hsq i8.flat1) ?_
  rintro _ _ ⟨_,_,_,_,rfl,n0,j8⟩
  have i0:=j8.unflat2;have hn_az_525:=n0.len;have hl_az_525:=n0.le
  have hnl_az_525:=flat_len2 (s:=a0.v) (r:=r) hg (srcs a0.v) (fun y hy=>(hsq y hy).2.2);have hnm_az_525:=srcs_len a0.v;unfold Lay.needs at hn_az_525
  refine pu1<|zQ<|pu1<|sL i0 6 0 (I a0.kind) (isAgg3 _)<|pu1<|nT<|cE a0.kind 5 (fun o0=>?_) (fun o0=>?_)
  rotate_left
  ·refine kT<|rE<|pu4<|lA i0 2 0 4 (isAgg44 _) (sizeOf44 _)<|pu1 ?_
   have k8:=(i0.picks [1,1])
   refine cX call91 (p20_task (hx.of_mem (mem_flat1 5 (by rfl))) n0 nd 0 r hg hx2 hnd hin om k8.flat2) ?_
   rintro _ _ ⟨g1,n2,rfl,l8,m8,n8⟩
   refine sBS (Sat.unflat2 n8) (encTask g1).toArray runUnderlying39 sizeOf46 zeroValue46 fun _ _ p8=>sApp (nb:=88) p8 hOzs 5 (RdT.blk (enc:=encTask) (sz:=9) (xs:=[g1]) fR 1 0 rfl rfl rfl om) underlying39 (i:=Tryz.t46) kr fR fun q8 r8 o2 _ s8 t8=>pu1<|nilO ?_
   have how:x.L.own nd (i:Int)=[]:=by unfold Lay.own;rw [hst_q_4,if_neg (show ¬a0.v.kind=5 from o0)]
   have hpt:x.L.part nd=0:=by unfold Lay.part;rw [hst_q_4,if_neg (show ¬a0.v.kind=4 from e0)]
   have htv:g1.v=x.L.tileT nd (i:Int):=by rw [m8];unfold Lay.tileT;rw [hrt,hpt,hst_q_4,how];first|rfl|simp only [List.append_assoc,List.append_nil,List.nil_append]
   refine bN<|tN<|rE<|sAdd (i:Int) 1<|pu1<|nT ?_
   have u8:=((t8.picks [6,6,6,4]).drops [4,5])
   exact ⟨(i+1,(zs++[g1]),q8,(nzs+1),r8,o2,(n2++Gzs)),od,alA,(Sat.perm (cs':=(n2++Gzs)::(o2::[(c0, .cells #[I ((x.L.cut nd).w),I ((x.L.cut nd).h),I ((x.L.cut nd).max_)] 54 (0,0))]::[(b, .cells (encLayM x).toArray 97 (0,0))]::[(d0, .cells (encStage a0).toArray 38 (0,0))]::H::F)) (show Sat W _ (n2::Gzs::o2::[(c0, .cells #[I ((x.L.cut nd).w),I ((x.L.cut nd).h),I ((x.L.cut nd).max_)] 54 (0,0))]::[(b, .cells (encLayM x).toArray 97 (0,0))]::[(d0, .cells (encStage a0).toArray 38 (0,0))]::H::F) from u8) (by simp)),om,(by rw [List.map_append,hE,upto_map_snoc];simp only [List.map_cons,List.map_nil];rw [htv]),(by simp;omega),s8,(by
     intro z hz
     rcases List.mem_append.1 hz with h|h
     ·exact (hDzs z h).of_mem mS
     ·simp only [List.mem_singleton] at h;subst h;exact (l8.of_mem mS))⟩
  refine seqE<|seqE ?_
  have htm:((i:Int)).tmod nx=(i:Int)%nx:=Int.tmod_eq_emod_of_nonneg om
  refine rE<|pu2<|sRem (i:Int) nx<|pu1<|nT<|cD (((i:Int).tmod nx)>0) (fun w8=>?_) (fun w8=>?_)
  rotate_left
  ·refine kS<|pu3<|nT<|cD ((i:Int)>=nx) (fun x8=>?_) (fun x8=>?_)
   rotate_left
   ·refine kT<|rE<|pu4<|lA i0 2 0 4 (isAgg44 _) (sizeOf44 _)<|pu1 ?_
    have y8:=(i0.picks [1,1])
    refine cX call91 (p20_task (hx.of_mem (mem_flat1 5 (by rfl))) n0 nd 0 r hg hx2 hnd hin om y8.flat2) ?_
    rintro _ _ ⟨h1,q2,rfl,z8,a9,b9⟩
    refine sBS (Sat.unflat2 b9) (encTask h1).toArray runUnderlying39 sizeOf46 zeroValue46 fun _ _ d9=>sApp (nb:=88) d9 hOzs 5 (RdT.blk (enc:=encTask) (sz:=9) (xs:=[h1]) fR 1 0 rfl rfl rfl om) underlying39 (i:=Tryz.t46) kr fR fun e9 f9 r2 _ g9 h9=>pu1<|nilO ?_
    have how:x.L.own nd (i:Int)=([]:List Int)++([]:List Int):=by unfold Lay.own;rw [hst_q_4,if_pos (show a0.v.kind=5 from o0),hnx2,<-hfr,hf1,if_neg (by rw [<-htm];omega),if_neg om]
    have hpt:x.L.part nd=0:=by unfold Lay.part;rw [hst_q_4,if_neg (show ¬a0.v.kind=4 from e0)]
    have htv:h1.v=x.L.tileT nd (i:Int):=by rw [a9];unfold Lay.tileT;rw [hrt,hpt,hst_q_4,how];first|rfl|simp only [List.append_assoc,List.append_nil,List.nil_append]
    refine bN<|tN<|rE<|sAdd (i:Int) 1<|pu1<|nT ?_
    have i9:=((h9.picks [6,6,6,4]).drops [4,5])
    exact ⟨(i+1,(zs++[h1]),e9,(nzs+1),f9,r2,(q2++Gzs)),od,alA,(Sat.perm (cs':=(q2++Gzs)::(r2::[(c0, .cells #[I ((x.L.cut nd).w),I ((x.L.cut nd).h),I ((x.L.cut nd).max_)] 54 (0,0))]::[(b, .cells (encLayM x).toArray 97 (0,0))]::[(d0, .cells (encStage a0).toArray 38 (0,0))]::H::F)) (show Sat W _ (q2::Gzs::r2::[(c0, .cells #[I ((x.L.cut nd).w),I ((x.L.cut nd).h),I ((x.L.cut nd).max_)] 54 (0,0))]::[(b, .cells (encLayM x).toArray 97 (0,0))]::[(d0, .cells (encStage a0).toArray 38 (0,0))]::H::F) from i9) (by simp)),om,(by rw [List.map_append,hE,upto_map_snoc];simp only [List.map_cons,List.map_nil];rw [htv]),(by simp;omega),g9,(by
      intro z hz
      rcases List.mem_append.1 hz with h|h
      ·exact (hDzs z h).of_mem mS
      ·simp only [List.mem_singleton] at h;subst h;exact (z8.of_mem mS))⟩
   refine rE<|pu3<|sAdd b0 (i:Int)<|pu1<|sSub (b0+(i:Int)) nx<|sBS i0 #[I ((b0+(i:Int))-nx)] runUnderlying22 sizeOf3 zeroValue3 fun _ _ k9=>sApp (nb:=8) k9 n0 1 (RdT.blk (enc:=Go.E.encI) (sz:=1) (xs:=[((b0+(i:Int))-nx)]) fR 1 0 rfl rfl rfl om) underlying22 (i:=Tryz.t3) kr fR fun _ _ _ _ l9 e4=>pu1<|nT<|rE<|pu4<|lA e4 3 0 4 (isAgg44 _) (sizeOf44 _)<|pu1 ?_
   have m9:=(e4.picks [2,2])
   refine cX call91 (p20_task (hx.of_mem (mem_flat1 6 (by rfl))) l9 nd 0 r hg hx2 hnd hin om m9.flat2) ?_
   rintro _ _ ⟨i1,s2,rfl,n9,o9,p9⟩
   refine sBS (Sat.unflat2 p9) (encTask i1).toArray runUnderlying39 sizeOf46 zeroValue46 fun _ _ r9=>sApp (nb:=88) r9 hOzs 6 (RdT.blk (enc:=encTask) (sz:=9) (xs:=[i1]) fR 1 0 rfl rfl rfl om) underlying39 (i:=Tryz.t46) kr fR fun s9 t9 t2 _ u9 v9=>pu1<|nilO ?_
   have how:x.L.own nd (i:Int)=([]:List Int)++[b0+(i:Int)-nx]:=by unfold Lay.own;rw [hst_q_4,if_pos (show a0.v.kind=5 from o0),hnx2,<-hfr,hf1,if_neg (by rw [<-htm];omega),if_pos om]
   have hpt:x.L.part nd=0:=by unfold Lay.part;rw [hst_q_4,if_neg (show ¬a0.v.kind=4 from e0)]
   have htv:i1.v=x.L.tileT nd (i:Int):=by rw [o9];unfold Lay.tileT;rw [hrt,hpt,hst_q_4,how];first|rfl|simp only [List.append_assoc,List.append_nil,List.nil_append]
   refine bN<|tN<|rE<|sAdd (i:Int) 1<|pu1<|nT ?_
   have w9:=((v9.picks [7,7,7,4]).drops [4,5,5])
   exact ⟨(i+1,(zs++[i1]),s9,(nzs+1),t9,t2,(s2++Gzs)),od,alA,(Sat.perm (cs':=(s2++Gzs)::(t2::[(c0, .cells #[I ((x.L.cut nd).w),I ((x.L.cut nd).h),I ((x.L.cut nd).max_)] 54 (0,0))]::[(b, .cells (encLayM x).toArray 97 (0,0))]::[(d0, .cells (encStage a0).toArray 38 (0,0))]::H::F)) (show Sat W _ (s2::Gzs::t2::[(c0, .cells #[I ((x.L.cut nd).w),I ((x.L.cut nd).h),I ((x.L.cut nd).max_)] 54 (0,0))]::[(b, .cells (encLayM x).toArray 97 (0,0))]::[(d0, .cells (encStage a0).toArray 38 (0,0))]::H::F) from w9) (by simp)),om,(by rw [List.map_append,hE,upto_map_snoc];simp only [List.map_cons,List.map_nil];rw [htv]),(by simp;omega),u9,(by
     intro z hz
     rcases List.mem_append.1 hz with h|h
     ·exact (hDzs z h).of_mem mS
     ·simp only [List.mem_singleton] at h;subst h;exact (n9.of_mem mS))⟩
  refine rE<|pu3<|sAdd b0 (i:Int)<|sSub (b0+(i:Int)) 1<|sBS i0 #[I ((b0+(i:Int))-1)] runUnderlying22 sizeOf3 zeroValue3 fun _ _ y9=>sApp (nb:=8) y9 n0 1 (RdT.blk (enc:=Go.E.encI) (sz:=1) (xs:=[((b0+(i:Int))-1)]) fR 1 0 rfl rfl rfl om) underlying22 (i:=Tryz.t3) kr fR fun _ _ _ _ f4 u2=>pu1<|zS<|pu3<|nT<|cD ((i:Int)>=nx) (fun z9=>?_) (fun z9=>?_)
  rotate_left
  ·refine kT<|rE<|pu4<|lA u2 3 0 4 (isAgg44 _) (sizeOf44 _)<|pu1 ?_
   have aa:=(u2.picks [2,2])
   refine cX call91 (p20_task (hx.of_mem (mem_flat1 6 (by rfl))) f4 nd 0 r hg hx2 hnd hin om aa.flat2) ?_
   rintro _ _ ⟨j1,v2,rfl,ba,ca,da⟩
   refine sBS (Sat.unflat2 da) (encTask j1).toArray runUnderlying39 sizeOf46 zeroValue46 fun _ _ fa=>sApp (nb:=88) fa hOzs 6 (RdT.blk (enc:=encTask) (sz:=9) (xs:=[j1]) fR 1 0 rfl rfl rfl om) underlying39 (i:=Tryz.t46) kr fR fun ga ha w2 _ ia ja=>pu1<|nilO ?_
   have how:x.L.own nd (i:Int)=[b0+(i:Int)-1]++([]:List Int):=by unfold Lay.own;rw [hst_q_4,if_pos (show a0.v.kind=5 from o0),hnx2,<-hfr,hf1,if_pos (by rw [<-htm];omega),if_neg om]
   have hpt:x.L.part nd=0:=by unfold Lay.part;rw [hst_q_4,if_neg (show ¬a0.v.kind=4 from e0)]
   have htv:j1.v=x.L.tileT nd (i:Int):=by rw [ca];unfold Lay.tileT;rw [hrt,hpt,hst_q_4,how];first|rfl|simp only [List.append_assoc,List.append_nil,List.nil_append]
   refine bN<|tN<|rE<|sAdd (i:Int) 1<|pu1<|nT ?_
   have ka:=((ja.picks [7,7,7,4]).drops [4,5,5])
   exact ⟨(i+1,(zs++[j1]),ga,(nzs+1),ha,w2,(v2++Gzs)),od,alA,(Sat.perm (cs':=(v2++Gzs)::(w2::[(c0, .cells #[I ((x.L.cut nd).w),I ((x.L.cut nd).h),I ((x.L.cut nd).max_)] 54 (0,0))]::[(b, .cells (encLayM x).toArray 97 (0,0))]::[(d0, .cells (encStage a0).toArray 38 (0,0))]::H::F)) (show Sat W _ (v2::Gzs::w2::[(c0, .cells #[I ((x.L.cut nd).w),I ((x.L.cut nd).h),I ((x.L.cut nd).max_)] 54 (0,0))]::[(b, .cells (encLayM x).toArray 97 (0,0))]::[(d0, .cells (encStage a0).toArray 38 (0,0))]::H::F) from ka) (by simp)),om,(by rw [List.map_append,hE,upto_map_snoc];simp only [List.map_cons,List.map_nil];rw [htv]),(by simp;omega),ia,(by
     intro z hz
     rcases List.mem_append.1 hz with h|h
     ·exact (hDzs z h).of_mem mS
     ·simp only [List.mem_singleton] at h;subst h;exact (ba.of_mem mS))⟩
  refine rE<|pu3<|sAdd b0 (i:Int)<|pu1<|sSub (b0+(i:Int)) nx<|sBS u2 #[I ((b0+(i:Int))-nx)] runUnderlying22 sizeOf3 zeroValue3 fun _ _ ma=>sApp (nb:=8) ma f4 2 (RdT.blk (enc:=Go.E.encI) (sz:=1) (xs:=[((b0+(i:Int))-nx)]) fR 1 0 rfl rfl rfl om) underlying22 (i:=Tryz.t3) kr fR fun _ _ _ _ na g4=>pu1<|nT<|rE<|pu4<|lA g4 4 0 4 (isAgg44 _) (sizeOf44 _)<|pu1 ?_
  have oa:=(g4.picks [3,3])
  refine cX call91 (p20_task (hx.of_mem (mem_flat1 7 (by rfl))) na nd 0 r hg hx2 hnd hin om oa.flat2) ?_
  rintro _ _ ⟨k1,x2,rfl,pa,qa,ra⟩
  refine sBS (Sat.unflat2 ra) (encTask k1).toArray runUnderlying39 sizeOf46 zeroValue46 fun _ _ ta=>sApp (nb:=88) ta hOzs 7 (RdT.blk (enc:=encTask) (sz:=9) (xs:=[k1]) fR 1 0 rfl rfl rfl om) underlying39 (i:=Tryz.t46) kr fR fun ua va y2 _ wa xa=>pu1<|nilO ?_
  have how:x.L.own nd (i:Int)=[b0+(i:Int)-1]++[b0+(i:Int)-nx]:=by unfold Lay.own;rw [hst_q_4,if_pos (show a0.v.kind=5 from o0),hnx2,<-hfr,hf1,if_pos (by rw [<-htm];omega),if_pos om]
  have hpt:x.L.part nd=0:=by unfold Lay.part;rw [hst_q_4,if_neg (show ¬a0.v.kind=4 from e0)]
  have htv:k1.v=x.L.tileT nd (i:Int):=by rw [qa];unfold Lay.tileT;rw [hrt,hpt,hst_q_4,how];first|rfl|simp only [List.append_assoc,List.append_nil,List.nil_append]
  refine bN<|tN<|rE<|sAdd (i:Int) 1<|pu1<|nT ?_
  have ya:=((xa.picks [8,8,8,4]).drops [4,5,5,5])
  exact ⟨(i+1,(zs++[k1]),ua,(nzs+1),va,y2,(x2++Gzs)),od,alA,(Sat.perm (cs':=(x2++Gzs)::(y2::[(c0, .cells #[I ((x.L.cut nd).w),I ((x.L.cut nd).h),I ((x.L.cut nd).max_)] 54 (0,0))]::[(b, .cells (encLayM x).toArray 97 (0,0))]::[(d0, .cells (encStage a0).toArray 38 (0,0))]::H::F)) (show Sat W _ (x2::Gzs::y2::[(c0, .cells #[I ((x.L.cut nd).w),I ((x.L.cut nd).h),I ((x.L.cut nd).max_)] 54 (0,0))]::[(b, .cells (encLayM x).toArray 97 (0,0))]::[(d0, .cells (encStage a0).toArray 38 (0,0))]::H::F) from ya) (by simp)),om,(by rw [List.map_append,hE,upto_map_snoc];simp only [List.map_cons,List.map_nil];rw [htv]),(by simp;omega),wa,(by
    intro z hz
    rcases List.mem_append.1 hz with h|h
    ·exact (hDzs z h).of_mem mS
    ·simp only [List.mem_singleton] at h;subst h;exact (pa.of_mem mS))⟩
 refine rE<|pu1<|zS<|pu1<|zQ<|pu2<|sMul nx ny<|pu1<|nT<|blockE ?_
 have ab:=Sat.nilc u0
 have bb:=OwnT.nil (enc:=encTask) (E:=46) (sz:=9) fR
 refine loopA (γ:=Nat×(List Task)×(Option Addr)×Nat×Nat×Chunk×Chunk) (fun ⟨i,zs,azs,nzs,kzs,czs,Gzs⟩=>[(0,Pt b 0),(1,I nd),(5,Pt d0 0),(6,Pt c0 0),(7,I nx),(8,I ny),(9,I b0),(10,I 1),(51,I (nx*ny)),(52,I (i:Int)),(11, .slice azs nzs kzs)]) (fun ⟨i,zs,azs,nzs,kzs,czs,Gzs⟩ w=>Sat W w (Gzs::czs::[(c0, .cells #[I ((x.L.cut nd).w),I ((x.L.cut nd).h),I ((x.L.cut nd).max_)] 54 (0,0))]::[(b, .cells (encLayM x).toArray 97 (0,0))]::[(d0, .cells (encStage a0).toArray 38 (0,0))]::H::F)/\i<=(nx*ny).toNat/\(zs.map Task.v=(uptoV i).map (x.L.tileT nd))/\(zs.length=i)/\OwnT encTask 46 9 azs nzs kzs zs czs/\(∀z∈zs,Task.Ok [Gzs] z)) (fun ⟨i,zs,azs,nzs,kzs,czs,Gzs⟩=>((nx*ny).toNat)-i) (0,[],none,0,0,[],[]) ⟨(Sat.nilc ab),om,by rfl,by rfl,bb,(by intro z hz;cases hz)⟩ ?_
 rintro ⟨i,zs,azs,nzs,kzs,czs,Gzs⟩ ρ _ ⟨f0,hi,hE,hzl,hOzs,hDzs⟩
 have hn_zs:=hOzs.len;have hl_zs:=hOzs.le
 refine sR<|pu1<|nT<|seqE<|cD ((i:Int)<(nx*ny)) (fun db=>?_) (fun db=>?_)
 rotate_left
 ·refine exitE<|xB<|tN<|seqE<|seqE ?_
  have hi9:i=(nx*ny).toNat:=by omega
  refine rE<|pu1<|sL f0 4 0 (I a0.kind) (isAgg3 _)<|pu1<|nT ?_
  have eb:(a0.kind:Int)=4:=e0
  refine cT _ (beq_iff_eq.2 eb)<|sR<|pu1<|sL f0 4 15 (I a0.bins) (isAgg3 _)<|pu1<|sAlloc f0 zeroValue44 fun l1 _ fb=>?_
  refine sT fb 0 0 (.agg #[I 0,I 0,I a0.bins,I 1]) [I 0,I 0,I a0.bins,I 1] #[I 0,I 0,I a0.bins,I 1] sizeOf44 fun _ w0=>nT ?_
  have hbk:=hg.byt hnd;rw [hst_q_4] at hbk;unfold bytOK at hbk;simp only [Stage.v] at hbk;have hin:inP (⟨0,0,a0.bins,1⟩:Rct):=by unfold inP;dsimp only;omega
  have hcn:x.L.cnt nd=nx*ny+1:=by unfold Lay.cnt;rw [hst_q_4,if_pos (show a0.v.kind=4 from e0),hnx2,hny2]
  refine drawE [10,11,12,13] [(3,⟨l1,0,none⟩,I 0),(3,⟨l1,1,none⟩,I 0),(3,⟨l1,2,none⟩,I a0.bins),(3,⟨l1,3,none⟩,I 1)] [(true,[0,1,2,4,5,6,7]),(true,[8]),(true,[9]),(true,[3]),(false,[10]),(false,[11]),(false,[12]),(false,[13]),(true,[14])] rfl kr ⟨cI w0 0,cI w0 0,cI w0 0,cI w0 0,trivial⟩ ?_
  have gb:=w0.drew
  refine wU [0,1,2,4,5,6,7]<|wMul nx ny<|wAdd b0 (nx*ny)<|wY (.agg #[I 0,I 0,I a0.bins,I 1]) rfl (fun w hF=>Y_loadF rfl (isAgg44 w) (sizeOf44 w) kr rfl ⟨hF 0 _ _ rfl,hF 1 _ _ rfl,hF 2 _ _ rfl,hF 3 _ _ rfl,trivial⟩)<|wO rfl ?_
  have hb:=Sat.nilc gb
  refine cX call92 (p20_between b0 (b0+(nx*ny)) (OwnT.nil (enc:=Go.E.encI) (E:=3) (sz:=1) fR) om hb) ?_
  rintro _ _ ⟨_,_,_,_,rfl,z2,z0⟩
  have hn_az_337:=z2.len;have hl_az_337:=z2.le;simp only [List.length_append,List.length_nil,btw_len] at hn_az_337
  refine nilO ⟨⟨cI z0 1,cI z0 1,cI z0 1,cI z0 1,trivial⟩,?_⟩
  refine wO rfl ?_
  have jb:=(z0.picks [5,1])
  refine cX call91 (p20_task (hx.of_mem (mem_flat1 5 (by rfl))) z2 nd 2 (⟨0,0,a0.bins,1⟩:Rct) hg hx2 hnd hin om jb.flat2) ?_
  rintro _ _ ⟨m1,h4,rfl,kb,lb,mb⟩
  have ob:=mb.unflat2
  refine nilO ⟨dA,?_⟩
  refine wO rfl<|sBS ob (encTask m1).toArray runUnderlying39 sizeOf46 zeroValue46 fun _ _ pb=>nilO ⟨dA,?_⟩
  refine wO rfl<|sApp (nb:=88) pb hOzs 5 (RdT.blk (enc:=encTask) (sz:=9) (xs:=[m1]) fR 1 0 rfl rfl rfl om) underlying39 (i:=Tryz.t46) kr fR fun qb rb i4 _ sb tb=>nilO ⟨dA,?_⟩
  refine wU [14]<|wN<|tN<|sR<|pu2<|zE<|retT [.slice qb (nzs+1) rb] ?_
  have ub:=((tb.picks [4,2,5]).drops [3,4,4,4])
  have vb:Sat W _ (i4::(h4++Gzs)::[(b, .cells (encLayM x).toArray 97 (0,0))]::H::F):=Sat.perm (show Sat W _ (i4::h4::Gzs::[(b, .cells (encLayM x).toArray 97 (0,0))]::H::F) from ub) (by simp)
  have hmt:m1.v=x.L.mergeT nd:=by rw [lb];unfold Lay.mergeT btwV;rw [hst_q_4,hnx2,hny2,<-hfr,hf1,show (b0+nx*ny-b0).toNat=(nx*ny).toNat by omega];rfl
  have hz:((zs++[m1])).map Task.v=x.L.tasks nd:=by unfold Lay.tasks;rw [hst_q_4,if_pos (show a0.v.kind=4 from e0),hnx2,hny2,List.map_append,hE,hi9];simp only [List.map_cons,List.map_nil];rw [hmt]
  exact ⟨_,_,_,_,_,_,rfl,sb,(fun z hz=>by
    rcases List.mem_append.1 hz with h|h
    ·exact (hDzs z h).of_mem mS
    ·simp only [List.mem_singleton] at h;subst h;exact kb.of_mem mS),hz,vb⟩
 refine kT<|seqE<|blockE<|sR<|pu2<|nT<|seqE<|drawP [13,17,18] [(1,⟨c0,0,none⟩,I ((x.L.cut nd).w)),(3,⟨c0,1,none⟩,I ((x.L.cut nd).h)),(7,⟨b,4,none⟩,I x.tw),(11,⟨b,5,none⟩,I x.th)] (Plan.sts [0,2,4,5,6,8,9,10,12]<|Plan.sts [1]<|Plan.sts [3]<|Plan.sts [7]<|Plan.sts [11]<| .fk 13 17 (Plan.sts [14]<|Plan.sts [15]<|Plan.sts [16]<| .ef 17<| .ef 18<|Plan.sts [19]<| .fin) (.ef 13<|Plan.sts [14]<|Plan.sts [15]<|Plan.sts [16]<| .ef 18<|Plan.sts [19]<| .fin)) rfl kr ⟨cI f0 2,cI f0 2,cI f0 3,cI f0 3,trivial⟩ ?_
 have j4:=f0.drew
 refine qU [0,2,4,5,6,8,9,10,12]<|qLd (I ((x.L.cut nd).w)) 0 isAgg3<|qLd (I ((x.L.cut nd).h)) 1 isAgg3<|qLd (I x.tw) 2 isAgg3<|qLd (I x.th) 3 isAgg3<|qF ?_ ?_
 ·refine qO rfl<|cR call89 (p5_tile ((x.L.cut nd).w) ((x.L.cut nd).h) x.tw x.th (i:Int) hfi ⟨om,by rw [<-hnx,<-hny];omega⟩ j4.flat) ?_
  intro _ wb
  refine nilO ⟨dA,?_⟩
  refine qU [14]<|qU [15]<|qU [16]<|qO rfl<|sAlloc wb zeroValue44 fun xb _ yb=>nilO ⟨dA,?_⟩
  refine qO rfl ?_
  refine sT yb 0 0 (.agg #[I ((tileV ((x.L.cut nd).w) ((x.L.cut nd).h) x.tw x.th (i:Int)).x0),I ((tileV ((x.L.cut nd).w) ((x.L.cut nd).h) x.tw x.th (i:Int)).y0),I ((tileV ((x.L.cut nd).w) ((x.L.cut nd).h) x.tw x.th (i:Int)).x1),I ((tileV ((x.L.cut nd).w) ((x.L.cut nd).h) x.tw x.th (i:Int)).y1)]) [I ((tileV ((x.L.cut nd).w) ((x.L.cut nd).h) x.tw x.th (i:Int)).x0),I ((tileV ((x.L.cut nd).w) ((x.L.cut nd).h) x.tw x.th (i:Int)).y0),I ((tileV ((x.L.cut nd).w) ((x.L.cut nd).h) x.tw x.th (i:Int)).x1),I ((tileV ((x.L.cut nd).w) ((x.L.cut nd).h) x.tw x.th (i:Int)).y1)] #[I ((tileV ((x.L.cut nd).w) ((x.L.cut nd).h) x.tw x.th (i:Int)).x0),I ((tileV ((x.L.cut nd).w) ((x.L.cut nd).h) x.tw x.th (i:Int)).y0),I ((tileV ((x.L.cut nd).w) ((x.L.cut nd).h) x.tw x.th (i:Int)).x1),I ((tileV ((x.L.cut nd).w) ((x.L.cut nd).h) x.tw x.th (i:Int)).y1)] sizeOf44 ?_
  intro zb ac
  refine nilO ⟨dA,?_⟩
  refine qU [19]<|qN ?_
  obtain ⟨r,hr⟩:∃z:Rct,z=(tileV (x.L.cut nd).w (x.L.cut nd).h x.tw x.th (i:Int)):=⟨_,rfl⟩
  have a3:Sat W zb ([(xb, .cells (encRct r).toArray 44 (0,0))]::Gzs::czs::[(c0, .cells #[I ((x.L.cut nd).w),I ((x.L.cut nd).h),I ((x.L.cut nd).max_)] 54 (0,0))]::[(b, .cells (encLayM x).toArray 97 (0,0))]::[(d0, .cells (encStage a0).toArray 38 (0,0))]::H::F):=by rw [hr];exact ac
  have hin:inP r:=by rw [hr];exact (tile_in hfi om (by rw [<-hnx,<-hny];omega)).1
  have hrt:x.L.tile nd (i:Int)=r:=by rw [hr];rfl
  refine tN<|sR<|pu1<|lA a3 5 0 18 (isAgg38 _) (sizeOf38 _)<|lA a3 0 0 4 (isAgg44 _) (sizeOf44 _) ?_
  have bc:=(a3.pick 4 rfl)
  refine cX call90 (p20_needs (hx.of_mem (mem_flat1 5 (by rfl))) (q:=a0) ⟨(RdT.flat (hok_q_4.weights.up 5 (by rfl))),(RdT.flat (hok_q_4.row.up 5 (by rfl))),(RdT.flat (hok_q_4.col.up 5 (by rfl))),(RdT.flat (hok_q_4.x.up 5 (by rfl))),(fun z hz=>(hok_q_4.xD z hz).of_mem (mem_flat1 5 (by rfl))),(RdT.flat (hok_q_4.y.up 5 (by rfl))),(fun z hz=>(hok_q_4.yD z hz).of_mem (mem_flat1 5 (by rfl))),(RdT.flat (hok_q_4.ops.up 5 (by rfl)))⟩ r hg hx2 hW hsq bc.flat1) ?_
  rintro _ _ ⟨_,_,_,_,rfl,p0,cc⟩
  have j0:=cc.unflat2;have hn_az_50:=p0.len;have hl_az_50:=p0.le
  have hnl_az_50:=flat_len2 (s:=a0.v) (r:=r) hg (srcs a0.v) (fun y hy=>(hsq y hy).2.2);have hnm_az_50:=srcs_len a0.v;unfold Lay.needs at hn_az_50
  refine pu1<|zQ<|pu1<|sL j0 6 0 (I a0.kind) (isAgg3 _)<|pu1<|nT<|cE a0.kind 5 (fun q0=>?_) (fun q0=>?_)
  rotate_left
  ·refine kT<|rE<|pu4<|lA j0 2 0 4 (isAgg44 _) (sizeOf44 _)<|pu1 ?_
   have dc:=(j0.picks [1,1])
   refine cX call91 (p20_task (hx.of_mem (mem_flat1 5 (by rfl))) p0 nd 1 r hg hx2 hnd hin om dc.flat2) ?_
   rintro _ _ ⟨n1,b3,rfl,ec,fc,gc⟩
   refine sBS (Sat.unflat2 gc) (encTask n1).toArray runUnderlying39 sizeOf46 zeroValue46 fun _ _ ic=>sApp (nb:=88) ic hOzs 5 (RdT.blk (enc:=encTask) (sz:=9) (xs:=[n1]) fR 1 0 rfl rfl rfl om) underlying39 (i:=Tryz.t46) kr fR fun jc kc c3 _ lc mc=>pu1<|nilO ?_
   have how:x.L.own nd (i:Int)=[]:=by unfold Lay.own;rw [hst_q_4,if_neg (show ¬a0.v.kind=5 from q0)]
   have hpt:x.L.part nd=1:=by unfold Lay.part;rw [hst_q_4,if_pos (show a0.v.kind=4 from e0)]
   have htv:n1.v=x.L.tileT nd (i:Int):=by rw [fc];unfold Lay.tileT;rw [hrt,hpt,hst_q_4,how];first|rfl|simp only [List.append_assoc,List.append_nil,List.nil_append]
   refine bN<|tN<|rE<|sAdd (i:Int) 1<|pu1<|nT ?_
   have nc:=((mc.picks [6,6,6,4]).drops [4,5])
   exact ⟨(i+1,(zs++[n1]),jc,(nzs+1),kc,c3,(b3++Gzs)),od,alA,(Sat.perm (cs':=(b3++Gzs)::(c3::[(c0, .cells #[I ((x.L.cut nd).w),I ((x.L.cut nd).h),I ((x.L.cut nd).max_)] 54 (0,0))]::[(b, .cells (encLayM x).toArray 97 (0,0))]::[(d0, .cells (encStage a0).toArray 38 (0,0))]::H::F)) (show Sat W _ (b3::Gzs::c3::[(c0, .cells #[I ((x.L.cut nd).w),I ((x.L.cut nd).h),I ((x.L.cut nd).max_)] 54 (0,0))]::[(b, .cells (encLayM x).toArray 97 (0,0))]::[(d0, .cells (encStage a0).toArray 38 (0,0))]::H::F) from nc) (by simp)),om,(by rw [List.map_append,hE,upto_map_snoc];simp only [List.map_cons,List.map_nil];rw [htv]),(by simp;omega),lc,(by
     intro z hz
     rcases List.mem_append.1 hz with h|h
     ·exact (hDzs z h).of_mem mS
     ·simp only [List.mem_singleton] at h;subst h;exact (ec.of_mem mS))⟩
  refine seqE<|seqE ?_
  have htm:((i:Int)).tmod nx=(i:Int)%nx:=Int.tmod_eq_emod_of_nonneg om
  refine rE<|pu2<|sRem (i:Int) nx<|pu1<|nT<|cD (((i:Int).tmod nx)>0) (fun pc=>?_) (fun pc=>?_)
  rotate_left
  ·refine kS<|pu3<|nT<|cD ((i:Int)>=nx) (fun qc=>?_) (fun qc=>?_)
   rotate_left
   ·refine kT<|rE<|pu4<|lA j0 2 0 4 (isAgg44 _) (sizeOf44 _)<|pu1 ?_
    have rc:=(j0.picks [1,1])
    refine cX call91 (p20_task (hx.of_mem (mem_flat1 5 (by rfl))) p0 nd 1 r hg hx2 hnd hin om rc.flat2) ?_
    rintro _ _ ⟨o1,d3,rfl,sc,tc,uc⟩
    refine sBS (Sat.unflat2 uc) (encTask o1).toArray runUnderlying39 sizeOf46 zeroValue46 fun _ _ wc=>sApp (nb:=88) wc hOzs 5 (RdT.blk (enc:=encTask) (sz:=9) (xs:=[o1]) fR 1 0 rfl rfl rfl om) underlying39 (i:=Tryz.t46) kr fR fun xc yc e3 _ zc ad=>pu1<|nilO ?_
    have how:x.L.own nd (i:Int)=([]:List Int)++([]:List Int):=by unfold Lay.own;rw [hst_q_4,if_pos (show a0.v.kind=5 from q0),hnx2,<-hfr,hf1,if_neg (by rw [<-htm];omega),if_neg om]
    have hpt:x.L.part nd=1:=by unfold Lay.part;rw [hst_q_4,if_pos (show a0.v.kind=4 from e0)]
    have htv:o1.v=x.L.tileT nd (i:Int):=by rw [tc];unfold Lay.tileT;rw [hrt,hpt,hst_q_4,how];first|rfl|simp only [List.append_assoc,List.append_nil,List.nil_append]
    refine bN<|tN<|rE<|sAdd (i:Int) 1<|pu1<|nT ?_
    have bd:=((ad.picks [6,6,6,4]).drops [4,5])
    exact ⟨(i+1,(zs++[o1]),xc,(nzs+1),yc,e3,(d3++Gzs)),od,alA,(Sat.perm (cs':=(d3++Gzs)::(e3::[(c0, .cells #[I ((x.L.cut nd).w),I ((x.L.cut nd).h),I ((x.L.cut nd).max_)] 54 (0,0))]::[(b, .cells (encLayM x).toArray 97 (0,0))]::[(d0, .cells (encStage a0).toArray 38 (0,0))]::H::F)) (show Sat W _ (d3::Gzs::e3::[(c0, .cells #[I ((x.L.cut nd).w),I ((x.L.cut nd).h),I ((x.L.cut nd).max_)] 54 (0,0))]::[(b, .cells (encLayM x).toArray 97 (0,0))]::[(d0, .cells (encStage a0).toArray 38 (0,0))]::H::F) from bd) (by simp)),om,(by rw [List.map_append,hE,upto_map_snoc];simp only [List.map_cons,List.map_nil];rw [htv]),(by simp;omega),zc,(by
      intro z hz
      rcases List.mem_append.1 hz with h|h
      ·exact (hDzs z h).of_mem mS
      ·simp only [List.mem_singleton] at h;subst h;exact (sc.of_mem mS))⟩
   refine rE<|pu3<|sAdd b0 (i:Int)<|pu1<|sSub (b0+(i:Int)) nx<|sBS j0 #[I ((b0+(i:Int))-nx)] runUnderlying22 sizeOf3 zeroValue3 fun _ _ dd=>sApp (nb:=8) dd p0 1 (RdT.blk (enc:=Go.E.encI) (sz:=1) (xs:=[((b0+(i:Int))-nx)]) fR 1 0 rfl rfl rfl om) underlying22 (i:=Tryz.t3) kr fR fun _ _ _ _ ed k4=>pu1<|nT<|rE<|pu4<|lA k4 3 0 4 (isAgg44 _) (sizeOf44 _)<|pu1 ?_
   have fd:=(k4.picks [2,2])
   refine cX call91 (p20_task (hx.of_mem (mem_flat1 6 (by rfl))) ed nd 1 r hg hx2 hnd hin om fd.flat2) ?_
   rintro _ _ ⟨q1,f3,rfl,gd,hd,jd⟩
   refine sBS (Sat.unflat2 jd) (encTask q1).toArray runUnderlying39 sizeOf46 zeroValue46 fun _ _ ld=>sApp (nb:=88) ld hOzs 6 (RdT.blk (enc:=encTask) (sz:=9) (xs:=[q1]) fR 1 0 rfl rfl rfl om) underlying39 (i:=Tryz.t46) kr fR fun md pd g3 _ qd rd=>pu1<|nilO ?_
   have how:x.L.own nd (i:Int)=([]:List Int)++[b0+(i:Int)-nx]:=by unfold Lay.own;rw [hst_q_4,if_pos (show a0.v.kind=5 from q0),hnx2,<-hfr,hf1,if_neg (by rw [<-htm];omega),if_pos om]
   have hpt:x.L.part nd=1:=by unfold Lay.part;rw [hst_q_4,if_pos (show a0.v.kind=4 from e0)]
   have htv:q1.v=x.L.tileT nd (i:Int):=by rw [hd];unfold Lay.tileT;rw [hrt,hpt,hst_q_4,how];first|rfl|simp only [List.append_assoc,List.append_nil,List.nil_append]
   refine bN<|tN<|rE<|sAdd (i:Int) 1<|pu1<|nT ?_
   have sd:=((rd.picks [7,7,7,4]).drops [4,5,5])
   exact ⟨(i+1,(zs++[q1]),md,(nzs+1),pd,g3,(f3++Gzs)),od,alA,(Sat.perm (cs':=(f3++Gzs)::(g3::[(c0, .cells #[I ((x.L.cut nd).w),I ((x.L.cut nd).h),I ((x.L.cut nd).max_)] 54 (0,0))]::[(b, .cells (encLayM x).toArray 97 (0,0))]::[(d0, .cells (encStage a0).toArray 38 (0,0))]::H::F)) (show Sat W _ (f3::Gzs::g3::[(c0, .cells #[I ((x.L.cut nd).w),I ((x.L.cut nd).h),I ((x.L.cut nd).max_)] 54 (0,0))]::[(b, .cells (encLayM x).toArray 97 (0,0))]::[(d0, .cells (encStage a0).toArray 38 (0,0))]::H::F) from sd) (by simp)),om,(by rw [List.map_append,hE,upto_map_snoc];simp only [List.map_cons,List.map_nil];rw [htv]),(by simp;omega),qd,(by
     intro z hz
     rcases List.mem_append.1 hz with h|h
     ·exact (hDzs z h).of_mem mS
     ·simp only [List.mem_singleton] at h;subst h;exact (gd.of_mem mS))⟩
  refine rE<|pu3<|sAdd b0 (i:Int)<|sSub (b0+(i:Int)) 1<|sBS j0 #[I ((b0+(i:Int))-1)] runUnderlying22 sizeOf3 zeroValue3 fun _ _ ud=>sApp (nb:=8) ud p0 1 (RdT.blk (enc:=Go.E.encI) (sz:=1) (xs:=[((b0+(i:Int))-1)]) fR 1 0 rfl rfl rfl om) underlying22 (i:=Tryz.t3) kr fR fun _ _ _ _ l4 h3=>pu1<|zS<|pu3<|nT<|cD ((i:Int)>=nx) (fun vd=>?_) (fun vd=>?_)
  rotate_left
  ·refine kT<|rE<|pu4<|lA h3 3 0 4 (isAgg44 _) (sizeOf44 _)<|pu1 ?_
   have wd:=(h3.picks [2,2])
   refine cX call91 (p20_task (hx.of_mem (mem_flat1 6 (by rfl))) l4 nd 1 r hg hx2 hnd hin om wd.flat2) ?_
   rintro _ _ ⟨r1,i3,rfl,xd,yd,zd⟩
   refine sBS (Sat.unflat2 zd) (encTask r1).toArray runUnderlying39 sizeOf46 zeroValue46 fun _ _ be=>sApp (nb:=88) be hOzs 6 (RdT.blk (enc:=encTask) (sz:=9) (xs:=[r1]) fR 1 0 rfl rfl rfl om) underlying39 (i:=Tryz.t46) kr fR fun ce de j3 _ ee fe=>pu1<|nilO ?_
   have how:x.L.own nd (i:Int)=[b0+(i:Int)-1]++([]:List Int):=by unfold Lay.own;rw [hst_q_4,if_pos (show a0.v.kind=5 from q0),hnx2,<-hfr,hf1,if_pos (by rw [<-htm];omega),if_neg om]
   have hpt:x.L.part nd=1:=by unfold Lay.part;rw [hst_q_4,if_pos (show a0.v.kind=4 from e0)]
   have htv:r1.v=x.L.tileT nd (i:Int):=by rw [yd];unfold Lay.tileT;rw [hrt,hpt,hst_q_4,how];first|rfl|simp only [List.append_assoc,List.append_nil,List.nil_append]
   refine bN<|tN<|rE<|sAdd (i:Int) 1<|pu1<|nT ?_
   have ge:=((fe.picks [7,7,7,4]).drops [4,5,5])
   exact ⟨(i+1,(zs++[r1]),ce,(nzs+1),de,j3,(i3++Gzs)),od,alA,(Sat.perm (cs':=(i3++Gzs)::(j3::[(c0, .cells #[I ((x.L.cut nd).w),I ((x.L.cut nd).h),I ((x.L.cut nd).max_)] 54 (0,0))]::[(b, .cells (encLayM x).toArray 97 (0,0))]::[(d0, .cells (encStage a0).toArray 38 (0,0))]::H::F)) (show Sat W _ (i3::Gzs::j3::[(c0, .cells #[I ((x.L.cut nd).w),I ((x.L.cut nd).h),I ((x.L.cut nd).max_)] 54 (0,0))]::[(b, .cells (encLayM x).toArray 97 (0,0))]::[(d0, .cells (encStage a0).toArray 38 (0,0))]::H::F) from ge) (by simp)),om,(by rw [List.map_append,hE,upto_map_snoc];simp only [List.map_cons,List.map_nil];rw [htv]),(by simp;omega),ee,(by
     intro z hz
     rcases List.mem_append.1 hz with h|h
     ·exact (hDzs z h).of_mem mS
     ·simp only [List.mem_singleton] at h;subst h;exact (xd.of_mem mS))⟩
  refine rE<|pu3<|sAdd b0 (i:Int)<|pu1<|sSub (b0+(i:Int)) nx<|sBS h3 #[I ((b0+(i:Int))-nx)] runUnderlying22 sizeOf3 zeroValue3 fun _ _ ie=>sApp (nb:=8) ie l4 2 (RdT.blk (enc:=Go.E.encI) (sz:=1) (xs:=[((b0+(i:Int))-nx)]) fR 1 0 rfl rfl rfl om) underlying22 (i:=Tryz.t3) kr fR fun _ _ _ _ je m4=>pu1<|nT<|rE<|pu4<|lA m4 4 0 4 (isAgg44 _) (sizeOf44 _)<|pu1 ?_
  have ke:=(m4.picks [3,3])
  refine cX call91 (p20_task (hx.of_mem (mem_flat1 7 (by rfl))) je nd 1 r hg hx2 hnd hin om ke.flat2) ?_
  rintro _ _ ⟨s1,k3,rfl,me,ne,oe⟩
  refine sBS (Sat.unflat2 oe) (encTask s1).toArray runUnderlying39 sizeOf46 zeroValue46 fun _ _ qe=>sApp (nb:=88) qe hOzs 7 (RdT.blk (enc:=encTask) (sz:=9) (xs:=[s1]) fR 1 0 rfl rfl rfl om) underlying39 (i:=Tryz.t46) kr fR fun re se l3 _ te ue=>pu1<|nilO ?_
  have how:x.L.own nd (i:Int)=[b0+(i:Int)-1]++[b0+(i:Int)-nx]:=by unfold Lay.own;rw [hst_q_4,if_pos (show a0.v.kind=5 from q0),hnx2,<-hfr,hf1,if_pos (by rw [<-htm];omega),if_pos om]
  have hpt:x.L.part nd=1:=by unfold Lay.part;rw [hst_q_4,if_pos (show a0.v.kind=4 from e0)]
  have htv:s1.v=x.L.tileT nd (i:Int):=by rw [ne];unfold Lay.tileT;rw [hrt,hpt,hst_q_4,how];first|rfl|simp only [List.append_assoc,List.append_nil,List.nil_append]
  refine bN<|tN<|rE<|sAdd (i:Int) 1<|pu1<|nT ?_
  have ve:=((ue.picks [8,8,8,4]).drops [4,5,5,5])
  exact ⟨(i+1,(zs++[s1]),re,(nzs+1),se,l3,(k3++Gzs)),od,alA,(Sat.perm (cs':=(k3++Gzs)::(l3::[(c0, .cells #[I ((x.L.cut nd).w),I ((x.L.cut nd).h),I ((x.L.cut nd).max_)] 54 (0,0))]::[(b, .cells (encLayM x).toArray 97 (0,0))]::[(d0, .cells (encStage a0).toArray 38 (0,0))]::H::F)) (show Sat W _ (k3::Gzs::l3::[(c0, .cells #[I ((x.L.cut nd).w),I ((x.L.cut nd).h),I ((x.L.cut nd).max_)] 54 (0,0))]::[(b, .cells (encLayM x).toArray 97 (0,0))]::[(d0, .cells (encStage a0).toArray 38 (0,0))]::H::F) from ve) (by simp)),om,(by rw [List.map_append,hE,upto_map_snoc];simp only [List.map_cons,List.map_nil];rw [htv]),(by simp;omega),te,(by
    intro z hz
    rcases List.mem_append.1 hz with h|h
    ·exact (hDzs z h).of_mem mS
    ·simp only [List.mem_singleton] at h;subst h;exact (me.of_mem mS))⟩
 refine qO rfl<|sAlloc j4 zeroValue44 fun xe _ a1=>nilO ⟨⟨cI a1 3,cI a1 3,cI a1 4,cI a1 4,trivial⟩,?_⟩
 refine qO rfl<|cR call89 (p5_tile ((x.L.cut nd).w) ((x.L.cut nd).h) x.tw x.th (i:Int) hfi ⟨om,by rw [<-hnx,<-hny];omega⟩ a1.flat) ?_
 intro _ ye
 refine nilO ⟨dA,?_⟩
 refine qU [14]<|qU [15]<|qU [16]<|qO rfl ?_
 refine sT ye 0 0 (.agg #[I ((tileV ((x.L.cut nd).w) ((x.L.cut nd).h) x.tw x.th (i:Int)).x0),I ((tileV ((x.L.cut nd).w) ((x.L.cut nd).h) x.tw x.th (i:Int)).y0),I ((tileV ((x.L.cut nd).w) ((x.L.cut nd).h) x.tw x.th (i:Int)).x1),I ((tileV ((x.L.cut nd).w) ((x.L.cut nd).h) x.tw x.th (i:Int)).y1)]) [I ((tileV ((x.L.cut nd).w) ((x.L.cut nd).h) x.tw x.th (i:Int)).x0),I ((tileV ((x.L.cut nd).w) ((x.L.cut nd).h) x.tw x.th (i:Int)).y0),I ((tileV ((x.L.cut nd).w) ((x.L.cut nd).h) x.tw x.th (i:Int)).x1),I ((tileV ((x.L.cut nd).w) ((x.L.cut nd).h) x.tw x.th (i:Int)).y1)] #[I ((tileV ((x.L.cut nd).w) ((x.L.cut nd).h) x.tw x.th (i:Int)).x0),I ((tileV ((x.L.cut nd).w) ((x.L.cut nd).h) x.tw x.th (i:Int)).y0),I ((tileV ((x.L.cut nd).w) ((x.L.cut nd).h) x.tw x.th (i:Int)).x1),I ((tileV ((x.L.cut nd).w) ((x.L.cut nd).h) x.tw x.th (i:Int)).y1)] sizeOf44 ?_
 intro ze af
 refine nilO ⟨dA,?_⟩
 refine qU [19]<|qN ?_
 obtain ⟨r,hr⟩:∃z:Rct,z=(tileV (x.L.cut nd).w (x.L.cut nd).h x.tw x.th (i:Int)):=⟨_,rfl⟩
 have m3:Sat W ze ([(xe, .cells (encRct r).toArray 44 (0,0))]::Gzs::czs::[(c0, .cells #[I ((x.L.cut nd).w),I ((x.L.cut nd).h),I ((x.L.cut nd).max_)] 54 (0,0))]::[(b, .cells (encLayM x).toArray 97 (0,0))]::[(d0, .cells (encStage a0).toArray 38 (0,0))]::H::F):=by rw [hr];exact af
 have hin:inP r:=by rw [hr];exact (tile_in hfi om (by rw [<-hnx,<-hny];omega)).1
 have hrt:x.L.tile nd (i:Int)=r:=by rw [hr];rfl
 refine tN<|sR<|pu1<|lA m3 5 0 18 (isAgg38 _) (sizeOf38 _)<|lA m3 0 0 4 (isAgg44 _) (sizeOf44 _) ?_
 have bf:=(m3.pick 4 rfl)
 refine cX call90 (p20_needs (hx.of_mem (mem_flat1 5 (by rfl))) (q:=a0) ⟨(RdT.flat (hok_q_4.weights.up 5 (by rfl))),(RdT.flat (hok_q_4.row.up 5 (by rfl))),(RdT.flat (hok_q_4.col.up 5 (by rfl))),(RdT.flat (hok_q_4.x.up 5 (by rfl))),(fun z hz=>(hok_q_4.xD z hz).of_mem (mem_flat1 5 (by rfl))),(RdT.flat (hok_q_4.y.up 5 (by rfl))),(fun z hz=>(hok_q_4.yD z hz).of_mem (mem_flat1 5 (by rfl))),(RdT.flat (hok_q_4.ops.up 5 (by rfl)))⟩ r hg hx2 hW hsq bf.flat1) ?_
 rintro _ _ ⟨_,_,_,_,rfl,r0,cf⟩
 have k0:=cf.unflat2;have hn_az_194:=r0.len;have hl_az_194:=r0.le
 have hnl_az_194:=flat_len2 (s:=a0.v) (r:=r) hg (srcs a0.v) (fun y hy=>(hsq y hy).2.2);have hnm_az_194:=srcs_len a0.v;unfold Lay.needs at hn_az_194
 refine pu1<|zQ<|pu1<|sL k0 6 0 (I a0.kind) (isAgg3 _)<|pu1<|nT<|cE a0.kind 5 (fun s0=>?_) (fun s0=>?_)
 rotate_left
 ·refine kT<|rE<|pu4<|lA k0 2 0 4 (isAgg44 _) (sizeOf44 _)<|pu1 ?_
  have df:=(k0.picks [1,1])
  refine cX call91 (p20_task (hx.of_mem (mem_flat1 5 (by rfl))) r0 nd 1 r hg hx2 hnd hin om df.flat2) ?_
  rintro _ _ ⟨t1,n3,rfl,ff,gf,hf⟩
  refine sBS (Sat.unflat2 hf) (encTask t1).toArray runUnderlying39 sizeOf46 zeroValue46 fun _ _ kf=>sApp (nb:=88) kf hOzs 5 (RdT.blk (enc:=encTask) (sz:=9) (xs:=[t1]) fR 1 0 rfl rfl rfl om) underlying39 (i:=Tryz.t46) kr fR fun lf mf o3 _ nf pf=>pu1<|nilO ?_
  have how:x.L.own nd (i:Int)=[]:=by unfold Lay.own;rw [hst_q_4,if_neg (show ¬a0.v.kind=5 from s0)]
  have hpt:x.L.part nd=1:=by unfold Lay.part;rw [hst_q_4,if_pos (show a0.v.kind=4 from e0)]
  have htv:t1.v=x.L.tileT nd (i:Int):=by rw [gf];unfold Lay.tileT;rw [hrt,hpt,hst_q_4,how];first|rfl|simp only [List.append_assoc,List.append_nil,List.nil_append]
  refine bN<|tN<|rE<|sAdd (i:Int) 1<|pu1<|nT ?_
  have qf:=((pf.picks [6,6,6,4]).drops [4,5])
  exact ⟨(i+1,(zs++[t1]),lf,(nzs+1),mf,o3,(n3++Gzs)),od,alA,(Sat.perm (cs':=(n3++Gzs)::(o3::[(c0, .cells #[I ((x.L.cut nd).w),I ((x.L.cut nd).h),I ((x.L.cut nd).max_)] 54 (0,0))]::[(b, .cells (encLayM x).toArray 97 (0,0))]::[(d0, .cells (encStage a0).toArray 38 (0,0))]::H::F)) (show Sat W _ (n3::Gzs::o3::[(c0, .cells #[I ((x.L.cut nd).w),I ((x.L.cut nd).h),I ((x.L.cut nd).max_)] 54 (0,0))]::[(b, .cells (encLayM x).toArray 97 (0,0))]::[(d0, .cells (encStage a0).toArray 38 (0,0))]::H::F) from qf) (by simp)),om,(by rw [List.map_append,hE,upto_map_snoc];simp only [List.map_cons,List.map_nil];rw [htv]),(by simp;omega),nf,(by
    intro z hz
    rcases List.mem_append.1 hz with h|h
    ·exact (hDzs z h).of_mem mS
    ·simp only [List.mem_singleton] at h;subst h;exact (ff.of_mem mS))⟩
 refine seqE<|seqE ?_
 have htm:((i:Int)).tmod nx=(i:Int)%nx:=Int.tmod_eq_emod_of_nonneg om
 refine rE<|pu2<|sRem (i:Int) nx<|pu1<|nT<|cD (((i:Int).tmod nx)>0) (fun sf=>?_) (fun sf=>?_)
 rotate_left
 ·refine kS<|pu3<|nT<|cD ((i:Int)>=nx) (fun tf=>?_) (fun tf=>?_)
  rotate_left
  ·refine kT<|rE<|pu4<|lA k0 2 0 4 (isAgg44 _) (sizeOf44 _)<|pu1 ?_
   have uf:=(k0.picks [1,1])
   refine cX call91 (p20_task (hx.of_mem (mem_flat1 5 (by rfl))) r0 nd 1 r hg hx2 hnd hin om uf.flat2) ?_
   rintro _ _ ⟨u1,p3,rfl,vf,wf,xf⟩
   refine sBS (Sat.unflat2 xf) (encTask u1).toArray runUnderlying39 sizeOf46 zeroValue46 fun _ _ zf=>sApp (nb:=88) zf hOzs 5 (RdT.blk (enc:=encTask) (sz:=9) (xs:=[u1]) fR 1 0 rfl rfl rfl om) underlying39 (i:=Tryz.t46) kr fR fun ag bg q3 _ cg dg=>pu1<|nilO ?_
   have how:x.L.own nd (i:Int)=([]:List Int)++([]:List Int):=by unfold Lay.own;rw [hst_q_4,if_pos (show a0.v.kind=5 from s0),hnx2,<-hfr,hf1,if_neg (by rw [<-htm];omega),if_neg om]
   have hpt:x.L.part nd=1:=by unfold Lay.part;rw [hst_q_4,if_pos (show a0.v.kind=4 from e0)]
   have htv:u1.v=x.L.tileT nd (i:Int):=by rw [wf];unfold Lay.tileT;rw [hrt,hpt,hst_q_4,how];first|rfl|simp only [List.append_assoc,List.append_nil,List.nil_append]
   refine bN<|tN<|rE<|sAdd (i:Int) 1<|pu1<|nT ?_
   have eg:=((dg.picks [6,6,6,4]).drops [4,5])
   exact ⟨(i+1,(zs++[u1]),ag,(nzs+1),bg,q3,(p3++Gzs)),od,alA,(Sat.perm (cs':=(p3++Gzs)::(q3::[(c0, .cells #[I ((x.L.cut nd).w),I ((x.L.cut nd).h),I ((x.L.cut nd).max_)] 54 (0,0))]::[(b, .cells (encLayM x).toArray 97 (0,0))]::[(d0, .cells (encStage a0).toArray 38 (0,0))]::H::F)) (show Sat W _ (p3::Gzs::q3::[(c0, .cells #[I ((x.L.cut nd).w),I ((x.L.cut nd).h),I ((x.L.cut nd).max_)] 54 (0,0))]::[(b, .cells (encLayM x).toArray 97 (0,0))]::[(d0, .cells (encStage a0).toArray 38 (0,0))]::H::F) from eg) (by simp)),om,(by rw [List.map_append,hE,upto_map_snoc];simp only [List.map_cons,List.map_nil];rw [htv]),(by simp;omega),cg,(by
     intro z hz
     rcases List.mem_append.1 hz with h|h
     ·exact (hDzs z h).of_mem mS
     ·simp only [List.mem_singleton] at h;subst h;exact (vf.of_mem mS))⟩
  refine rE<|pu3<|sAdd b0 (i:Int)<|pu1<|sSub (b0+(i:Int)) nx<|sBS k0 #[I ((b0+(i:Int))-nx)] runUnderlying22 sizeOf3 zeroValue3 fun _ _ gg=>sApp (nb:=8) gg r0 1 (RdT.blk (enc:=Go.E.encI) (sz:=1) (xs:=[((b0+(i:Int))-nx)]) fR 1 0 rfl rfl rfl om) underlying22 (i:=Tryz.t3) kr fR fun _ _ _ _ ig n4=>pu1<|nT<|rE<|pu4<|lA n4 3 0 4 (isAgg44 _) (sizeOf44 _)<|pu1 ?_
  have jg:=(n4.picks [2,2])
  refine cX call91 (p20_task (hx.of_mem (mem_flat1 6 (by rfl))) ig nd 1 r hg hx2 hnd hin om jg.flat2) ?_
  rintro _ _ ⟨v1,r3,rfl,kg,lg,mg⟩
  refine sBS (Sat.unflat2 mg) (encTask v1).toArray runUnderlying39 sizeOf46 zeroValue46 fun _ _ og=>sApp (nb:=88) og hOzs 6 (RdT.blk (enc:=encTask) (sz:=9) (xs:=[v1]) fR 1 0 rfl rfl rfl om) underlying39 (i:=Tryz.t46) kr fR fun pg qg s3 _ rg sg=>pu1<|nilO ?_
  have how:x.L.own nd (i:Int)=([]:List Int)++[b0+(i:Int)-nx]:=by unfold Lay.own;rw [hst_q_4,if_pos (show a0.v.kind=5 from s0),hnx2,<-hfr,hf1,if_neg (by rw [<-htm];omega),if_pos om]
  have hpt:x.L.part nd=1:=by unfold Lay.part;rw [hst_q_4,if_pos (show a0.v.kind=4 from e0)]
  have htv:v1.v=x.L.tileT nd (i:Int):=by rw [lg];unfold Lay.tileT;rw [hrt,hpt,hst_q_4,how];first|rfl|simp only [List.append_assoc,List.append_nil,List.nil_append]
  refine bN<|tN<|rE<|sAdd (i:Int) 1<|pu1<|nT ?_
  have tg:=((sg.picks [7,7,7,4]).drops [4,5,5])
  exact ⟨(i+1,(zs++[v1]),pg,(nzs+1),qg,s3,(r3++Gzs)),od,alA,(Sat.perm (cs':=(r3++Gzs)::(s3::[(c0, .cells #[I ((x.L.cut nd).w),I ((x.L.cut nd).h),I ((x.L.cut nd).max_)] 54 (0,0))]::[(b, .cells (encLayM x).toArray 97 (0,0))]::[(d0, .cells (encStage a0).toArray 38 (0,0))]::H::F)) (show Sat W _ (r3::Gzs::s3::[(c0, .cells #[I ((x.L.cut nd).w),I ((x.L.cut nd).h),I ((x.L.cut nd).max_)] 54 (0,0))]::[(b, .cells (encLayM x).toArray 97 (0,0))]::[(d0, .cells (encStage a0).toArray 38 (0,0))]::H::F) from tg) (by simp)),om,(by rw [List.map_append,hE,upto_map_snoc];simp only [List.map_cons,List.map_nil];rw [htv]),(by simp;omega),rg,(by
    intro z hz
    rcases List.mem_append.1 hz with h|h
    ·exact (hDzs z h).of_mem mS
    ·simp only [List.mem_singleton] at h;subst h;exact (kg.of_mem mS))⟩
 refine rE<|pu3<|sAdd b0 (i:Int)<|sSub (b0+(i:Int)) 1<|sBS k0 #[I ((b0+(i:Int))-1)] runUnderlying22 sizeOf3 zeroValue3 fun _ _ vg=>sApp (nb:=8) vg r0 1 (RdT.blk (enc:=Go.E.encI) (sz:=1) (xs:=[((b0+(i:Int))-1)]) fR 1 0 rfl rfl rfl om) underlying22 (i:=Tryz.t3) kr fR fun _ _ _ _ o4 u3=>pu1<|zS<|pu3<|nT<|cD ((i:Int)>=nx) (fun wg=>?_) (fun wg=>?_)
 rotate_left
 ·refine kT<|rE<|pu4<|lA u3 3 0 4 (isAgg44 _) (sizeOf44 _)<|pu1 ?_
  have xg:=(u3.picks [2,2])
  refine cX call91 (p20_task (hx.of_mem (mem_flat1 6 (by rfl))) o4 nd 1 r hg hx2 hnd hin om xg.flat2) ?_
  rintro _ _ ⟨w1,v3,rfl,yg,zg,ah⟩
  refine sBS (Sat.unflat2 ah) (encTask w1).toArray runUnderlying39 sizeOf46 zeroValue46 fun _ _ ch=>sApp (nb:=88) ch hOzs 6 (RdT.blk (enc:=encTask) (sz:=9) (xs:=[w1]) fR 1 0 rfl rfl rfl om) underlying39 (i:=Tryz.t46) kr fR fun dh eh w3 _ fh gh=>pu1<|nilO ?_
  have how:x.L.own nd (i:Int)=[b0+(i:Int)-1]++([]:List Int):=by unfold Lay.own;rw [hst_q_4,if_pos (show a0.v.kind=5 from s0),hnx2,<-hfr,hf1,if_pos (by rw [<-htm];omega),if_neg om]
  have hpt:x.L.part nd=1:=by unfold Lay.part;rw [hst_q_4,if_pos (show a0.v.kind=4 from e0)]
  have htv:w1.v=x.L.tileT nd (i:Int):=by rw [zg];unfold Lay.tileT;rw [hrt,hpt,hst_q_4,how];first|rfl|simp only [List.append_assoc,List.append_nil,List.nil_append]
  refine bN<|tN<|rE<|sAdd (i:Int) 1<|pu1<|nT ?_
  have hh:=((gh.picks [7,7,7,4]).drops [4,5,5])
  exact ⟨(i+1,(zs++[w1]),dh,(nzs+1),eh,w3,(v3++Gzs)),od,alA,(Sat.perm (cs':=(v3++Gzs)::(w3::[(c0, .cells #[I ((x.L.cut nd).w),I ((x.L.cut nd).h),I ((x.L.cut nd).max_)] 54 (0,0))]::[(b, .cells (encLayM x).toArray 97 (0,0))]::[(d0, .cells (encStage a0).toArray 38 (0,0))]::H::F)) (show Sat W _ (v3::Gzs::w3::[(c0, .cells #[I ((x.L.cut nd).w),I ((x.L.cut nd).h),I ((x.L.cut nd).max_)] 54 (0,0))]::[(b, .cells (encLayM x).toArray 97 (0,0))]::[(d0, .cells (encStage a0).toArray 38 (0,0))]::H::F) from hh) (by simp)),om,(by rw [List.map_append,hE,upto_map_snoc];simp only [List.map_cons,List.map_nil];rw [htv]),(by simp;omega),fh,(by
    intro z hz
    rcases List.mem_append.1 hz with h|h
    ·exact (hDzs z h).of_mem mS
    ·simp only [List.mem_singleton] at h;subst h;exact (yg.of_mem mS))⟩
 refine rE<|pu3<|sAdd b0 (i:Int)<|pu1<|sSub (b0+(i:Int)) nx<|sBS u3 #[I ((b0+(i:Int))-nx)] runUnderlying22 sizeOf3 zeroValue3 fun _ _ jh=>sApp (nb:=8) jh o4 2 (RdT.blk (enc:=Go.E.encI) (sz:=1) (xs:=[((b0+(i:Int))-nx)]) fR 1 0 rfl rfl rfl om) underlying22 (i:=Tryz.t3) kr fR fun _ _ _ _ kh p4=>pu1<|nT<|rE<|pu4<|lA p4 4 0 4 (isAgg44 _) (sizeOf44 _)<|pu1 ?_
 have lh:=(p4.picks [3,3])
 refine cX call91 (p20_task (hx.of_mem (mem_flat1 7 (by rfl))) kh nd 1 r hg hx2 hnd hin om lh.flat2) ?_
 rintro _ _ ⟨z1,x3,rfl,mh,nh,oh⟩
 refine sBS (Sat.unflat2 oh) (encTask z1).toArray runUnderlying39 sizeOf46 zeroValue46 fun _ _ qh=>sApp (nb:=88) qh hOzs 7 (RdT.blk (enc:=encTask) (sz:=9) (xs:=[z1]) fR 1 0 rfl rfl rfl om) underlying39 (i:=Tryz.t46) kr fR fun rh sh y3 _ uh vh=>pu1<|nilO ?_
 have how:x.L.own nd (i:Int)=[b0+(i:Int)-1]++[b0+(i:Int)-nx]:=by unfold Lay.own;rw [hst_q_4,if_pos (show a0.v.kind=5 from s0),hnx2,<-hfr,hf1,if_pos (by rw [<-htm];omega),if_pos om]
 have hpt:x.L.part nd=1:=by unfold Lay.part;rw [hst_q_4,if_pos (show a0.v.kind=4 from e0)]
 have htv:z1.v=x.L.tileT nd (i:Int):=by rw [nh];unfold Lay.tileT;rw [hrt,hpt,hst_q_4,how];first|rfl|simp only [List.append_assoc,List.append_nil,List.nil_append]
 refine bN<|tN<|rE<|sAdd (i:Int) 1<|pu1<|nT ?_
 have wh:=((vh.picks [8,8,8,4]).drops [4,5,5,5])
 exact ⟨(i+1,(zs++[z1]),rh,(nzs+1),sh,y3,(x3++Gzs)),od,alA,(Sat.perm (cs':=(x3++Gzs)::(y3::[(c0, .cells #[I ((x.L.cut nd).w),I ((x.L.cut nd).h),I ((x.L.cut nd).max_)] 54 (0,0))]::[(b, .cells (encLayM x).toArray 97 (0,0))]::[(d0, .cells (encStage a0).toArray 38 (0,0))]::H::F)) (show Sat W _ (x3::Gzs::y3::[(c0, .cells #[I ((x.L.cut nd).w),I ((x.L.cut nd).h),I ((x.L.cut nd).max_)] 54 (0,0))]::[(b, .cells (encLayM x).toArray 97 (0,0))]::[(d0, .cells (encStage a0).toArray 38 (0,0))]::H::F) from wh) (by simp)),om,(by rw [List.map_append,hE,upto_map_snoc];simp only [List.map_cons,List.map_nil];rw [htv]),(by simp;omega),uh,(by
   intro z hz
   rcases List.mem_append.1 hz with h|h
   ·exact (hDzs z h).of_mem mS
   ·simp only [List.mem_singleton] at h;subst h;exact (mh.of_mem mS))⟩
end Go.Proofs.YtdingplbadblpaaGreat
