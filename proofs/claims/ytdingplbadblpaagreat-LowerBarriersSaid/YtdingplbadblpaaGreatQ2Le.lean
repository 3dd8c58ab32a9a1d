import Derived.Test.YtdingplbadblpaaGreatQ2Ld
namespace Go.Proofs.YtdingplbadblpaaGreat
open Go Go.E Go.Proofs.Tryz
set_option linter.all false
set_option maxRecDepth 100000
set_option maxHeartbeats 2000000
variable {W w : World} {H : Chunk} {F : List Chunk}
theorem p20_task {b : Nat} {x : LayM} (hx : LayM.Ok [H] x) {a : Option Addr} {n k : Nat} {ds : List Int} {D : Chunk} (hO : OwnT Go.E.encI 3 1 a n k ds D) (nd part : Int) (r : Rct) (hg : LayG x.L) (hx2 : x.jobStages.n = x.jobStages.l.length) (hnd : nd ∈ x.L.od) (hr : inP r) (hnn : n <= 1000000) (hS : Sat W w (D :: [(b, .cells (encLayM x).toArray 97 (0, 0))] :: H :: F)) :
  Calls prog 91 #[Pt b 0, I nd, I part, .agg (encRct r).toArray, .slice a n k] w fun e w' => ∃ (t : Task) (Z : Chunk), e = .returned (.agg (encTask t).toArray) /\ Task.Ok [Z] t /\ t.v = x.L.task nd part r ds /\ Sat W w' (Z :: [(b, .cells (encLayM x).toArray 97 (0, 0))] :: H :: F) := by
 have hl_x_jobInputs := hx.jobInputs.le; have hn_x_jobInputs := hx.jobInputs.len
 have hl_x_jobStages := hx.jobStages.le; have hn_x_jobStages := hx.jobStages.len
 have hl_x_jobOutputs := hx.jobOutputs.le; have hn_x_jobOutputs := hx.jobOutputs.len
 have hl_x_order := hx.order.le; have hn_x_order := hx.order.len
 have hl_x_shapes := hx.shapes.le; have hn_x_shapes := hx.shapes.len
 have hl_x_first := hx.first.le; have hn_x_first := hx.first.len
 have hl_x_count := hx.count.le; have hn_x_count := hx.count.len
 have hgn : 1 <= (x.jobInputs.n : Int) /\ (x.jobInputs.n : Int) + (x.jobStages.n : Int) <= 16 := by have h := hg.ni; simp only [LayM.L, List.length_map] at h; omega
 have hgs : (x.shapes.n : Int) = (x.jobInputs.n : Int) + (x.jobStages.n : Int) := by have h := hg.len; simp only [LayM.L, List.length_map] at h; omega
 have htl : tileP x.tw x.th := hg.tl; unfold tileP at htl
 have hr_hnd : (x.jobInputs.n : Int) <= nd /\ nd < (x.jobInputs.n : Int) + (x.jobStages.n : Int) := by have h := hg.rng nd hnd; simp only [LayM.L, List.length_map] at h; omega
 have hr0 := hr; unfold inP at hr0
 refine callsA 46 func91 rfl <| sR <| sBox hS (.agg (encRct r).toArray) (encRct r).toArray fun g0 _ a2 => sAlloc a2 zeroValue46 fun _ _ b2 => zS <| pu2 ?_
 have c2 := (b2.pick 3 rfl)
 refine cX call60 (p20_stage (hx.of_mem (mem_flat1 3 (by rfl))) nd om om c2.flat1) ?_
 rintro _ _ ⟨a0, rfl, a1, d2⟩
 have e2 := d2.unflat1
 have hok_q_11 := hx.jobStagesD a0 (List.mem_of_getElem? a1); have hst_q_11 := lay_st a1
 refine sAlloc e2 zeroValue38 fun b0 _ f2 => ?_
 refine sT f2 0 0 (.agg (encStage a0).toArray) (encStage a0) (encStage a0).toArray sizeOf38 fun _ g2 => nilO ?_
 have hsr := hg.src hnd a0.a (by rw [hst_q_11]; exact a_src _); simp only [LayM.L, List.length_map] at hsr
 refine tN <| sR <| pu1 ?_
 have h2 := (g2.pick 4 rfl)
 refine cX call134 (Go.E.own_sort Tryz.laySort hO h2 om) ?_
 rintro _ _ ⟨_, rfl, b1, n0⟩
 refine nT <| seqE <| drawP [4, 11, 12] [(2, ⟨g0, 0, none⟩, I r.x0), (2, ⟨g0, 1, none⟩, I r.y0), (2, ⟨g0, 2, none⟩, I r.x1), (2, ⟨g0, 3, none⟩, I r.y1), (6, ⟨g0, 3, none⟩, I r.y1), (8, ⟨g0, 1, none⟩, I r.y0)] (Plan.sts [0, 1, 3, 5, 7] <| Plan.sts [2] <| Plan.sts [6] <| Plan.sts [8] <| Plan.sts [9] <| .fk 4 11 (Plan.sts [10] <| .ef 11 <| .ef 12 <| .fin) (.ef 4 <| Plan.sts [10] <| .ef 12 <| .fin)) rfl kr ⟨cI n0 4, cI n0 4, cI n0 4, cI n0 4, cI n0 4, cI n0 4, trivial⟩ ?_
 have c1 := n0.drew
 refine qU [0, 1, 3, 5, 7] <| qY (.agg (encRct r).toArray) rfl (fun w hF => Y_loadF rfl (isAgg44 w) (sizeOf44 w) kr rfl ⟨hF 0 _ _ rfl, hF 1 _ _ rfl, hF 2 _ _ rfl, hF 3 _ _ rfl, trivial⟩) <| qLd (I r.y1) 4 isAgg3 <| qLd (I r.y0) 5 isAgg3 <| qSub r.y1 r.y0 <| qF ?_ ?_
 ·refine qO rfl <| cX call135 (Go.E.own_comp Tryz.layComp b1 c1) ?_
  rintro _ _ ⟨h0, d1, rfl, e1, o0⟩
  refine nilO ⟨⟨cI o0 4, cI o0 4, cI o0 4, cI o0 4, cI o0 4, cI o0 4, trivial⟩, ?_⟩
  refine qU [10] <| qO rfl <| sAlloc o0 zeroValue46 fun _ _ p0 => nilO ⟨⟨cI p0 5, cI p0 5, cI p0 5, cI p0 5, cI p0 5, cI p0 5, trivial⟩, ?_⟩
  refine qO rfl <| sT p0 0 0 (.agg #[I nd, I part, I r.x0, I r.y0, I r.x1, I r.y1, .slice a h0 k, I (r.y1 - r.y0), I 0]) [I nd, I part, I r.x0, I r.y0, I r.x1, I r.y1, .slice a h0 k, I (r.y1 - r.y0), I 0] #[I nd, I part, I r.x0, I r.y0, I r.x1, I r.y1, .slice a h0 k, I (r.y1 - r.y0), I 0] sizeOf46 fun _ c0 => nilO ⟨dA, ?_⟩
  refine qN <| tN <| seqE <| sR <| pu2 <| nT <| cE part 2 (fun s0 => ?_) (fun s0 => ?_)
  rotate_left
  ·refine kT <| seqE ?_
   obtain ⟨j0, f1, g1, i2, j2, k2⟩ := RdT.elem hx.shapes a0.a
   refine drawE [11, 13] [(0, ⟨b0, 0, none⟩, I a0.kind), (0, ⟨b0, 1, none⟩, I a0.a), (0, ⟨b0, 2, none⟩, I a0.b), (0, ⟨b0, 3, none⟩, .bool a0.barrier), (0, ⟨b0, 4, none⟩, I a0.edgePolicy), (0, ⟨b0, 5, none⟩, I a0.edgeFill), (0, ⟨b0, 6, none⟩, I a0.kW), (0, ⟨b0, 7, none⟩, I a0.kH), (0, ⟨b0, 8, none⟩, .slice a0.weights.a a0.weights.n a0.weights.k), (0, ⟨b0, 9, none⟩, .slice a0.row.a a0.row.n a0.row.k), (0, ⟨b0, 10, none⟩, .slice a0.col.a a0.col.n a0.col.k), (0, ⟨b0, 11, none⟩, I a0.shift), (0, ⟨b0, 12, none⟩, I a0.shift2), (0, ⟨b0, 13, none⟩, .slice a0.x.a a0.x.n a0.x.k), (0, ⟨b0, 14, none⟩, .slice a0.y.a a0.y.n a0.y.k), (0, ⟨b0, 15, none⟩, I a0.bins), (0, ⟨b0, 16, none⟩, .slice a0.ops.a a0.ops.n a0.ops.k), (0, ⟨b0, 17, none⟩, I a0.max_), (4, ⟨b, 7, none⟩, .slice x.shapes.a x.shapes.n x.shapes.k), (6, ⟨b0, 1, none⟩, I a0.a), (9, ⟨f1, g1 + 1, none⟩, I j0.h), (10, ⟨g0, 0, none⟩, I r.x0), (10, ⟨g0, 1, none⟩, I r.y0), (10, ⟨g0, 2, none⟩, I r.x1), (10, ⟨g0, 3, none⟩, I r.y1)] [(true, [1, 2, 3, 5]), (true, [0]), (true, [4]), (true, [6]), (true, [7]), (true, [8]), (true, [9]), (true, [10]), (false, [11]), (true, [12]), (false, [13])] rfl kr ⟨cI c0 2, cI c0 2, cI c0 2, cI c0 2, cI c0 2, cI c0 2, cI c0 2, cI c0 2, cI c0 2, cI c0 2, cI c0 2, cI c0 2, cI c0 2, cI c0 2, cI c0 2, cI c0 2, cI c0 2, cI c0 2, cI c0 3, cI c0 2, .inr ((j2.up 6 rfl).cell c0 (k := 1) rfl), cI c0 5, cI c0 5, cI c0 5, cI c0 5, trivial⟩ ?_
   have l2 := c0.drew
   refine wU [1, 2, 3, 5] <| wY (.agg (encStage a0).toArray) rfl (fun w hF => Y_loadF rfl (isAgg38 w) (sizeOf38 w) kr rfl ⟨hF 0 _ _ rfl, hF 1 _ _ rfl, hF 2 _ _ rfl, hF 3 _ _ rfl, hF 4 _ _ rfl, hF 5 _ _ rfl, hF 6 _ _ rfl, hF 7 _ _ rfl, hF 8 _ _ rfl, hF 9 _ _ rfl, hF 10 _ _ rfl, hF 11 _ _ rfl, hF 12 _ _ rfl, hF 13 _ _ rfl, hF 14 _ _ rfl, hF 15 _ _ rfl, hF 16 _ _ rfl, hF 17 _ _ rfl, trivial⟩) <| wLd (.slice x.shapes.a x.shapes.n x.shapes.k) 18 isAgg61 <| wLd (I a0.a) 19 isAgg3 <| wY (.pointer (some ⟨f1, g1, none⟩)) rfl (fun w _ => Y_idx (a := x.shapes.a) (i := a0.a) (len := x.shapes.n) (cap := x.shapes.k) rfl runUnderlying61 sizeOf54 kr kr k2) <| wU [8] <| wLd (I j0.h) 20 isAgg3 ?_
   refine wY (.agg (encRct r).toArray) rfl (fun w hF => Y_loadF rfl (isAgg44 w) (sizeOf44 w) kr rfl ⟨hF 21 _ _ rfl, hF 22 _ _ rfl, hF 23 _ _ rfl, hF 24 _ _ rfl, trivial⟩) <| wO rfl <| cR call69 (p20_bytes a0 j0.h r ⟨(RdT.flat (hok_q_11.weights.up 6 (by rfl))), (RdT.flat (hok_q_11.row.up 6 (by rfl))), (RdT.flat (hok_q_11.col.up 6 (by rfl))), (RdT.flat (hok_q_11.x.up 6 (by rfl))), (fun z hz => (hok_q_11.xD z hz).of_mem (mem_flat1 6 (by rfl))), (RdT.flat (hok_q_11.y.up 6 (by rfl))), (fun z hz => (hok_q_11.yD z hz).of_mem (mem_flat1 6 (by rfl))), (RdT.flat (hok_q_11.ops.up 6 (by rfl)))⟩ (by have h := hg.byt hnd; rw [hst_q_11] at h; exact h) hr l2.flat) fun _ t0 => ?_
   refine nilO ⟨⟨dI, dI, dI, dI, dI, dI, dI, dI, dI, dI, dI, dI, dI, dI, dI, dI, dI, dI, cI t0 3, cI t0 2, dI, dI, dI, dI, dI, trivial⟩, ?_⟩
   refine wU [12] <| wO rfl <| tW t0 0 8 (I (bytV a0.v j0.h r)) sizeOf3 fun _ h1 => nilO ⟨dA, ?_⟩
   refine wN <| tN <| sR <| lA h1 0 0 9 (isAgg46 _) (sizeOf46 _) <| sT h1 4 0 (.agg #[I nd, I part, I r.x0, I r.y0, I r.x1, I r.y1, .slice a h0 k, I (r.y1 - r.y0), I (bytV a0.v j0.h r)]) [I nd, I part, I r.x0, I r.y0, I r.x1, I r.y1, .slice a h0 k, I (r.y1 - r.y0), I (bytV a0.v j0.h r)] #[I nd, I part, I r.x0, I r.y0, I r.x1, I r.y1, .slice a h0 k, I (r.y1 - r.y0), I (bytV a0.v j0.h r)] sizeOf46 fun _ i1 => ?_
   refine zE <| retN (vs := [.agg #[I nd, I part, I r.x0, I r.y0, I r.x1, I r.y1, .slice a h0 k, I (r.y1 - r.y0), I (bytV a0.v j0.h r)]]) rfl (.cons (.cell _ _ _ _ kr (lvA i1 4 0 [I nd, I part, I r.x0, I r.y0, I r.x1, I r.y1, .slice a h0 k, I (r.y1 - r.y0), I (bytV a0.v j0.h r)] (isAgg46 _) (sizeOf46 _) rfl rfl rfl)) .nil) ?_
   have m2 := (i1.drops [0, 1, 2, 2])
   have hv : Task.v (⟨nd, part, r.x0, r.y0, r.x1, r.y1, ⟨a, h0, k, (Go.Lib.compact (ds.mergeSort fun x y => decide (x <= y)))⟩, (r.y1 - r.y0), (bytV a0.v j0.h r)⟩ : Task) = x.L.task nd part r ds := by unfold Lay.task; rw [hst_q_11, show shpAt x.L.sh a0.v.a = j0 from shp_at' i2, <- canon_sort, if_neg s0]; rfl
   exact ⟨(⟨nd, part, r.x0, r.y0, r.x1, r.y1, ⟨a, h0, k, (Go.Lib.compact (ds.mergeSort fun x y => decide (x <= y)))⟩, (r.y1 - r.y0), (bytV a0.v j0.h r)⟩ : Task), _, rfl, ⟨(e1.rdAt (cs := [d1]) 0 rfl)⟩, hv, m2⟩
  refine rE <| pu1 <| tW c0 0 7 (I 1) sizeOf3 fun _ e0 => nT <| seqE ?_
  obtain ⟨k0, j1, k1, n2, o2, p2⟩ := RdT.elem hx.shapes a0.a
  refine drawE [11, 13] [(0, ⟨b0, 0, none⟩, I a0.kind), (0, ⟨b0, 1, none⟩, I a0.a), (0, ⟨b0, 2, none⟩, I a0.b), (0, ⟨b0, 3, none⟩, .bool a0.barrier), (0, ⟨b0, 4, none⟩, I a0.edgePolicy), (0, ⟨b0, 5, none⟩, I a0.edgeFill), (0, ⟨b0, 6, none⟩, I a0.kW), (0, ⟨b0, 7, none⟩, I a0.kH), (0, ⟨b0, 8, none⟩, .slice a0.weights.a a0.weights.n a0.weights.k), (0, ⟨b0, 9, none⟩, .slice a0.row.a a0.row.n a0.row.k), (0, ⟨b0, 10, none⟩, .slice a0.col.a a0.col.n a0.col.k), (0, ⟨b0, 11, none⟩, I a0.shift), (0, ⟨b0, 12, none⟩, I a0.shift2), (0, ⟨b0, 13, none⟩, .slice a0.x.a a0.x.n a0.x.k), (0, ⟨b0, 14, none⟩, .slice a0.y.a a0.y.n a0.y.k), (0, ⟨b0, 15, none⟩, I a0.bins), (0, ⟨b0, 16, none⟩, .slice a0.ops.a a0.ops.n a0.ops.k), (0, ⟨b0, 17, none⟩, I a0.max_), (4, ⟨b, 7, none⟩, .slice x.shapes.a x.shapes.n x.shapes.k), (6, ⟨b0, 1, none⟩, I a0.a), (9, ⟨j1, k1 + 1, none⟩, I k0.h), (10, ⟨g0, 0, none⟩, I r.x0), (10, ⟨g0, 1, none⟩, I r.y0), (10, ⟨g0, 2, none⟩, I r.x1), (10, ⟨g0, 3, none⟩, I r.y1)] [(true, [1, 2, 3, 5]), (true, [0]), (true, [4]), (true, [6]), (true, [7]), (true, [8]), (true, [9]), (true, [10]), (false, [11]), (true, [12]), (false, [13])] rfl kr ⟨cI e0 2, cI e0 2, cI e0 2, cI e0 2, cI e0 2, cI e0 2, cI e0 2, cI e0 2, cI e0 2, cI e0 2, cI e0 2, cI e0 2, cI e0 2, cI e0 2, cI e0 2, cI e0 2, cI e0 2, cI e0 2, cI e0 3, cI e0 2, .inr ((o2.up 6 rfl).cell e0 (k := 1) rfl), cI e0 5, cI e0 5, cI e0 5, cI e0 5, trivial⟩ ?_
  have q2 := e0.drew
  refine wU [1, 2, 3, 5] <| wY (.agg (encStage a0).toArray) rfl (fun w hF => Y_loadF rfl (isAgg38 w) (sizeOf38 w) kr rfl ⟨hF 0 _ _ rfl, hF 1 _ _ rfl, hF 2 _ _ rfl, hF 3 _ _ rfl, hF 4 _ _ rfl, hF 5 _ _ rfl, hF 6 _ _ rfl, hF 7 _ _ rfl, hF 8 _ _ rfl, hF 9 _ _ rfl, hF 10 _ _ rfl, hF 11 _ _ rfl, hF 12 _ _ rfl, hF 13 _ _ rfl, hF 14 _ _ rfl, hF 15 _ _ rfl, hF 16 _ _ rfl, hF 17 _ _ rfl, trivial⟩) <| wLd (.slice x.shapes.a x.shapes.n x.shapes.k) 18 isAgg61 <| wLd (I a0.a) 19 isAgg3 <| wY (.pointer (some ⟨j1, k1, none⟩)) rfl (fun w _ => Y_idx (a := x.shapes.a) (i := a0.a) (len := x.shapes.n) (cap := x.shapes.k) rfl runUnderlying61 sizeOf54 kr kr p2) <| wU [8] <| wLd (I k0.h) 20 isAgg3 ?_
  refine wY (.agg (encRct r).toArray) rfl (fun w hF => Y_loadF rfl (isAgg44 w) (sizeOf44 w) kr rfl ⟨hF 21 _ _ rfl, hF 22 _ _ rfl, hF 23 _ _ rfl, hF 24 _ _ rfl, trivial⟩) <| wO rfl <| cR call69 (p20_bytes a0 k0.h r ⟨(RdT.flat (hok_q_11.weights.up 6 (by rfl))), (RdT.flat (hok_q_11.row.up 6 (by rfl))), (RdT.flat (hok_q_11.col.up 6 (by rfl))), (RdT.flat (hok_q_11.x.up 6 (by rfl))), (fun z hz => (hok_q_11.xD z hz).of_mem (mem_flat1 6 (by rfl))), (RdT.flat (hok_q_11.y.up 6 (by rfl))), (fun z hz => (hok_q_11.yD z hz).of_mem (mem_flat1 6 (by rfl))), (RdT.flat (hok_q_11.ops.up 6 (by rfl)))⟩ (by have h := hg.byt hnd; rw [hst_q_11] at h; exact h) hr q2.flat) fun _ u0 => ?_
  refine nilO ⟨⟨dI, dI, dI, dI, dI, dI, dI, dI, dI, dI, dI, dI, dI, dI, dI, dI, dI, dI, cI u0 3, cI u0 2, dI, dI, dI, dI, dI, trivial⟩, ?_⟩
  refine wU [12] <| wO rfl <| tW u0 0 8 (I (bytV a0.v k0.h r)) sizeOf3 fun _ l1 => nilO ⟨dA, ?_⟩
  refine wN <| tN <| sR <| lA l1 0 0 9 (isAgg46 _) (sizeOf46 _) <| sT l1 4 0 (.agg #[I nd, I part, I r.x0, I r.y0, I r.x1, I r.y1, .slice a h0 k, I 1, I (bytV a0.v k0.h r)]) [I nd, I part, I r.x0, I r.y0, I r.x1, I r.y1, .slice a h0 k, I 1, I (bytV a0.v k0.h r)] #[I nd, I part, I r.x0, I r.y0, I r.x1, I r.y1, .slice a h0 k, I 1, I (bytV a0.v k0.h r)] sizeOf46 fun _ m1 => zE <| retN (vs := [.agg #[I nd, I part, I r.x0, I r.y0, I r.x1, I r.y1, .slice a h0 k, I 1, I (bytV a0.v k0.h r)]]) rfl (.cons (.cell _ _ _ _ kr (lvA m1 4 0 [I nd, I part, I r.x0, I r.y0, I r.x1, I r.y1, .slice a h0 k, I 1, I (bytV a0.v k0.h r)] (isAgg46 _) (sizeOf46 _) rfl rfl rfl)) .nil) ?_
  have r2 := (m1.drops [0, 1, 2, 2])
  have hv : Task.v (⟨nd, part, r.x0, r.y0, r.x1, r.y1, ⟨a, h0, k, (Go.Lib.compact (ds.mergeSort fun x y => decide (x <= y)))⟩, 1, (bytV a0.v k0.h r)⟩ : Task) = x.L.task nd part r ds := by unfold Lay.task; rw [hst_q_11, show shpAt x.L.sh a0.v.a = k0 from shp_at' n2, <- canon_sort, if_pos s0]; rfl
  exact ⟨(⟨nd, part, r.x0, r.y0, r.x1, r.y1, ⟨a, h0, k, (Go.Lib.compact (ds.mergeSort fun x y => decide (x <= y)))⟩, 1, (bytV a0.v k0.h r)⟩ : Task), _, rfl, ⟨(e1.rdAt (cs := [d1]) 0 rfl)⟩, hv, r2⟩
 refine qO rfl <| sAlloc c1 zeroValue46 fun _ _ q0 => nilO ⟨⟨cI q0 5, cI q0 5, cI q0 5, cI q0 5, cI q0 5, cI q0 5, trivial⟩, ?_⟩
 refine qO rfl ?_
 have s2 := (q0.pick 1 rfl)
 refine cX call135 (Go.E.own_comp Tryz.layComp b1 s2) ?_
 rintro _ _ ⟨i0, n1, rfl, o1, r0⟩
 refine nilO ⟨⟨cI r0 5, cI r0 5, cI r0 5, cI r0 5, cI r0 5, cI r0 5, trivial⟩, ?_⟩
 refine qU [10] <| qO rfl <| sT r0 1 0 (.agg #[I nd, I part, I r.x0, I r.y0, I r.x1, I r.y1, .slice a i0 k, I (r.y1 - r.y0), I 0]) [I nd, I part, I r.x0, I r.y0, I r.x1, I r.y1, .slice a i0 k, I (r.y1 - r.y0), I 0] #[I nd, I part, I r.x0, I r.y0, I r.x1, I r.y1, .slice a i0 k, I (r.y1 - r.y0), I 0] sizeOf46 fun _ d0 => nilO ⟨dA, ?_⟩
 refine qN <| tN <| seqE <| sR <| pu2 <| nT <| cE part 2 (fun v0 => ?_) (fun v0 => ?_)
 ·refine rE <| pu1 <| tW d0 1 7 (I 1) sizeOf3 fun _ f0 => nT <| seqE ?_
  obtain ⟨l0, q1, r1, t2, u2, v2⟩ := RdT.elem hx.shapes a0.a
  refine drawE [11, 13] [(0, ⟨b0, 0, none⟩, I a0.kind), (0, ⟨b0, 1, none⟩, I a0.a), (0, ⟨b0, 2, none⟩, I a0.b), (0, ⟨b0, 3, none⟩, .bool a0.barrier), (0, ⟨b0, 4, none⟩, I a0.edgePolicy), (0, ⟨b0, 5, none⟩, I a0.edgeFill), (0, ⟨b0, 6, none⟩, I a0.kW), (0, ⟨b0, 7, none⟩, I a0.kH), (0, ⟨b0, 8, none⟩, .slice a0.weights.a a0.weights.n a0.weights.k), (0, ⟨b0, 9, none⟩, .slice a0.row.a a0.row.n a0.row.k), (0, ⟨b0, 10, none⟩, .slice a0.col.a a0.col.n a0.col.k), (0, ⟨b0, 11, none⟩, I a0.shift), (0, ⟨b0, 12, none⟩, I a0.shift2), (0, ⟨b0, 13, none⟩, .slice a0.x.a a0.x.n a0.x.k), (0, ⟨b0, 14, none⟩, .slice a0.y.a a0.y.n a0.y.k), (0, ⟨b0, 15, none⟩, I a0.bins), (0, ⟨b0, 16, none⟩, .slice a0.ops.a a0.ops.n a0.ops.k), (0, ⟨b0, 17, none⟩, I a0.max_), (4, ⟨b, 7, none⟩, .slice x.shapes.a x.shapes.n x.shapes.k), (6, ⟨b0, 1, none⟩, I a0.a), (9, ⟨q1, r1 + 1, none⟩, I l0.h), (10, ⟨g0, 0, none⟩, I r.x0), (10, ⟨g0, 1, none⟩, I r.y0), (10, ⟨g0, 2, none⟩, I r.x1), (10, ⟨g0, 3, none⟩, I r.y1)] [(true, [1, 2, 3, 5]), (true, [0]), (true, [4]), (true, [6]), (true, [7]), (true, [8]), (true, [9]), (true, [10]), (false, [11]), (true, [12]), (false, [13])] rfl kr ⟨cI f0 2, cI f0 2, cI f0 2, cI f0 2, cI f0 2, cI f0 2, cI f0 2, cI f0 2, cI f0 2, cI f0 2, cI f0 2, cI f0 2, cI f0 2, cI f0 2, cI f0 2, cI f0 2, cI f0 2, cI f0 2, cI f0 3, cI f0 2, .inr ((u2.up 6 rfl).cell f0 (k := 1) rfl), cI f0 5, cI f0 5, cI f0 5, cI f0 5, trivial⟩ ?_
  have w2 := f0.drew
  refine wU [1, 2, 3, 5] <| wY (.agg (encStage a0).toArray) rfl (fun w hF => Y_loadF rfl (isAgg38 w) (sizeOf38 w) kr rfl ⟨hF 0 _ _ rfl, hF 1 _ _ rfl, hF 2 _ _ rfl, hF 3 _ _ rfl, hF 4 _ _ rfl, hF 5 _ _ rfl, hF 6 _ _ rfl, hF 7 _ _ rfl, hF 8 _ _ rfl, hF 9 _ _ rfl, hF 10 _ _ rfl, hF 11 _ _ rfl, hF 12 _ _ rfl, hF 13 _ _ rfl, hF 14 _ _ rfl, hF 15 _ _ rfl, hF 16 _ _ rfl, hF 17 _ _ rfl, trivial⟩) <| wLd (.slice x.shapes.a x.shapes.n x.shapes.k) 18 isAgg61 <| wLd (I a0.a) 19 isAgg3 <| wY (.pointer (some ⟨q1, r1, none⟩)) rfl (fun w _ => Y_idx (a := x.shapes.a) (i := a0.a) (len := x.shapes.n) (cap := x.shapes.k) rfl runUnderlying61 sizeOf54 kr kr v2) <| wU [8] <| wLd (I l0.h) 20 isAgg3 ?_
  refine wY (.agg (encRct r).toArray) rfl (fun w hF => Y_loadF rfl (isAgg44 w) (sizeOf44 w) kr rfl ⟨hF 21 _ _ rfl, hF 22 _ _ rfl, hF 23 _ _ rfl, hF 24 _ _ rfl, trivial⟩) <| wO rfl <| cR call69 (p20_bytes a0 l0.h r ⟨(RdT.flat (hok_q_11.weights.up 6 (by rfl))), (RdT.flat (hok_q_11.row.up 6 (by rfl))), (RdT.flat (hok_q_11.col.up 6 (by rfl))), (RdT.flat (hok_q_11.x.up 6 (by rfl))), (fun z hz => (hok_q_11.xD z hz).of_mem (mem_flat1 6 (by rfl))), (RdT.flat (hok_q_11.y.up 6 (by rfl))), (fun z hz => (hok_q_11.yD z hz).of_mem (mem_flat1 6 (by rfl))), (RdT.flat (hok_q_11.ops.up 6 (by rfl)))⟩ (by have h := hg.byt hnd; rw [hst_q_11] at h; exact h) hr w2.flat) fun _ w0 => ?_
  refine nilO ⟨⟨dI, dI, dI, dI, dI, dI, dI, dI, dI, dI, dI, dI, dI, dI, dI, dI, dI, dI, cI w0 3, cI w0 2, dI, dI, dI, dI, dI, trivial⟩, ?_⟩
  refine wU [12] <| wO rfl <| tW w0 1 8 (I (bytV a0.v l0.h r)) sizeOf3 fun _ s1 => nilO ⟨dA, ?_⟩
  refine wN <| tN <| sR <| lA s1 1 0 9 (isAgg46 _) (sizeOf46 _) <| sT s1 4 0 (.agg #[I nd, I part, I r.x0, I r.y0, I r.x1, I r.y1, .slice a i0 k, I 1, I (bytV a0.v l0.h r)]) [I nd, I part, I r.x0, I r.y0, I r.x1, I r.y1, .slice a i0 k, I 1, I (bytV a0.v l0.h r)] #[I nd, I part, I r.x0, I r.y0, I r.x1, I r.y1, .slice a i0 k, I 1, I (bytV a0.v l0.h r)] sizeOf46 fun _ t1 => zE <| retN (vs := [.agg #[I nd, I part, I r.x0, I r.y0, I r.x1, I r.y1, .slice a i0 k, I 1, I (bytV a0.v l0.h r)]]) rfl (.cons (.cell _ _ _ _ kr (lvA t1 4 0 [I nd, I part, I r.x0, I r.y0, I r.x1, I r.y1, .slice a i0 k, I 1, I (bytV a0.v l0.h r)] (isAgg46 _) (sizeOf46 _) rfl rfl rfl)) .nil) ?_
  have x2 := (t1.drops [1, 1, 2, 2])
  have hv : Task.v (⟨nd, part, r.x0, r.y0, r.x1, r.y1, ⟨a, i0, k, (Go.Lib.compact (ds.mergeSort fun x y => decide (x <= y)))⟩, 1, (bytV a0.v l0.h r)⟩ : Task) = x.L.task nd part r ds := by unfold Lay.task; rw [hst_q_11, show shpAt x.L.sh a0.v.a = l0 from shp_at' t2, <- canon_sort, if_pos v0]; rfl
  exact ⟨(⟨nd, part, r.x0, r.y0, r.x1, r.y1, ⟨a, i0, k, (Go.Lib.compact (ds.mergeSort fun x y => decide (x <= y)))⟩, 1, (bytV a0.v l0.h r)⟩ : Task), _, rfl, ⟨(o1.rdAt (cs := [n1]) 0 rfl)⟩, hv, x2⟩
 refine kT <| seqE ?_
 obtain ⟨m0, u1, v1, y2, z2, a3⟩ := RdT.elem hx.shapes a0.a
 refine drawE [11, 13] [(0, ⟨b0, 0, none⟩, I a0.kind), (0, ⟨b0, 1, none⟩, I a0.a), (0, ⟨b0, 2, none⟩, I a0.b), (0, ⟨b0, 3, none⟩, .bool a0.barrier), (0, ⟨b0, 4, none⟩, I a0.edgePolicy), (0, ⟨b0, 5, none⟩, I a0.edgeFill), (0, ⟨b0, 6, none⟩, I a0.kW), (0, ⟨b0, 7, none⟩, I a0.kH), (0, ⟨b0, 8, none⟩, .slice a0.weights.a a0.weights.n a0.weights.k), (0, ⟨b0, 9, none⟩, .slice a0.row.a a0.row.n a0.row.k), (0, ⟨b0, 10, none⟩, .slice a0.col.a a0.col.n a0.col.k), (0, ⟨b0, 11, none⟩, I a0.shift), (0, ⟨b0, 12, none⟩, I a0.shift2), (0, ⟨b0, 13, none⟩, .slice a0.x.a a0.x.n a0.x.k), (0, ⟨b0, 14, none⟩, .slice a0.y.a a0.y.n a0.y.k), (0, ⟨b0, 15, none⟩, I a0.bins), (0, ⟨b0, 16, none⟩, .slice a0.ops.a a0.ops.n a0.ops.k), (0, ⟨b0, 17, none⟩, I a0.max_), (4, ⟨b, 7, none⟩, .slice x.shapes.a x.shapes.n x.shapes.k), (6, ⟨b0, 1, none⟩, I a0.a), (9, ⟨u1, v1 + 1, none⟩, I m0.h), (10, ⟨g0, 0, none⟩, I r.x0), (10, ⟨g0, 1, none⟩, I r.y0), (10, ⟨g0, 2, none⟩, I r.x1), (10, ⟨g0, 3, none⟩, I r.y1)] [(true, [1, 2, 3, 5]), (true, [0]), (true, [4]), (true, [6]), (true, [7]), (true, [8]), (true, [9]), (true, [10]), (false, [11]), (true, [12]), (false, [13])] rfl kr ⟨cI d0 2, cI d0 2, cI d0 2, cI d0 2, cI d0 2, cI d0 2, cI d0 2, cI d0 2, cI d0 2, cI d0 2, cI d0 2, cI d0 2, cI d0 2, cI d0 2, cI d0 2, cI d0 2, cI d0 2, cI d0 2, cI d0 3, cI d0 2, .inr ((z2.up 6 rfl).cell d0 (k := 1) rfl), cI d0 5, cI d0 5, cI d0 5, cI d0 5, trivial⟩ ?_
 have b3 := d0.drew
 refine wU [1, 2, 3, 5] <| wY (.agg (encStage a0).toArray) rfl (fun w hF => Y_loadF rfl (isAgg38 w) (sizeOf38 w) kr rfl ⟨hF 0 _ _ rfl, hF 1 _ _ rfl, hF 2 _ _ rfl, hF 3 _ _ rfl, hF 4 _ _ rfl, hF 5 _ _ rfl, hF 6 _ _ rfl, hF 7 _ _ rfl, hF 8 _ _ rfl, hF 9 _ _ rfl, hF 10 _ _ rfl, hF 11 _ _ rfl, hF 12 _ _ rfl, hF 13 _ _ rfl, hF 14 _ _ rfl, hF 15 _ _ rfl, hF 16 _ _ rfl, hF 17 _ _ rfl, trivial⟩) <| wLd (.slice x.shapes.a x.shapes.n x.shapes.k) 18 isAgg61 <| wLd (I a0.a) 19 isAgg3 <| wY (.pointer (some ⟨u1, v1, none⟩)) rfl (fun w _ => Y_idx (a := x.shapes.a) (i := a0.a) (len := x.shapes.n) (cap := x.shapes.k) rfl runUnderlying61 sizeOf54 kr kr a3) <| wU [8] <| wLd (I m0.h) 20 isAgg3 ?_
 refine wY (.agg (encRct r).toArray) rfl (fun w hF => Y_loadF rfl (isAgg44 w) (sizeOf44 w) kr rfl ⟨hF 21 _ _ rfl, hF 22 _ _ rfl, hF 23 _ _ rfl, hF 24 _ _ rfl, trivial⟩) <| wO rfl <| cR call69 (p20_bytes a0 m0.h r ⟨(RdT.flat (hok_q_11.weights.up 6 (by rfl))), (RdT.flat (hok_q_11.row.up 6 (by rfl))), (RdT.flat (hok_q_11.col.up 6 (by rfl))), (RdT.flat (hok_q_11.x.up 6 (by rfl))), (fun z hz => (hok_q_11.xD z hz).of_mem (mem_flat1 6 (by rfl))), (RdT.flat (hok_q_11.y.up 6 (by rfl))), (fun z hz => (hok_q_11.yD z hz).of_mem (mem_flat1 6 (by rfl))), (RdT.flat (hok_q_11.ops.up 6 (by rfl)))⟩ (by have h := hg.byt hnd; rw [hst_q_11] at h; exact h) hr b3.flat) fun _ z0 => ?_
 refine nilO ⟨⟨dI, dI, dI, dI, dI, dI, dI, dI, dI, dI, dI, dI, dI, dI, dI, dI, dI, dI, cI z0 3, cI z0 2, dI, dI, dI, dI, dI, trivial⟩, ?_⟩
 refine wU [12] <| wO rfl <| tW z0 1 8 (I (bytV a0.v m0.h r)) sizeOf3 fun _ w1 => nilO ⟨dA, ?_⟩
 refine wN <| tN <| sR <| lA w1 1 0 9 (isAgg46 _) (sizeOf46 _) <| sT w1 4 0 (.agg #[I nd, I part, I r.x0, I r.y0, I r.x1, I r.y1, .slice a i0 k, I (r.y1 - r.y0), I (bytV a0.v m0.h r)]) [I nd, I part, I r.x0, I r.y0, I r.x1, I r.y1, .slice a i0 k, I (r.y1 - r.y0), I (bytV a0.v m0.h r)] #[I nd, I part, I r.x0, I r.y0, I r.x1, I r.y1, .slice a i0 k, I (r.y1 - r.y0), I (bytV a0.v m0.h r)] sizeOf46 fun _ z1 => ?_
 refine zE <| retN (vs := [.agg #[I nd, I part, I r.x0, I r.y0, I r.x1, I r.y1, .slice a i0 k, I (r.y1 - r.y0), I (bytV a0.v m0.h r)]]) rfl (.cons (.cell _ _ _ _ kr (lvA z1 4 0 [I nd, I part, I r.x0, I r.y0, I r.x1, I r.y1, .slice a i0 k, I (r.y1 - r.y0), I (bytV a0.v m0.h r)] (isAgg46 _) (sizeOf46 _) rfl rfl rfl)) .nil) ?_
 have c3 := (z1.drops [1, 1, 2, 2])
 have hv : Task.v (⟨nd, part, r.x0, r.y0, r.x1, r.y1, ⟨a, i0, k, (Go.Lib.compact (ds.mergeSort fun x y => decide (x <= y)))⟩, (r.y1 - r.y0), (bytV a0.v m0.h r)⟩ : Task) = x.L.task nd part r ds := by unfold Lay.task; rw [hst_q_11, show shpAt x.L.sh a0.v.a = m0 from shp_at' y2, <- canon_sort, if_neg v0]; rfl
 exact ⟨(⟨nd, part, r.x0, r.y0, r.x1, r.y1, ⟨a, i0, k, (Go.Lib.compact (ds.mergeSort fun x y => decide (x <= y)))⟩, (r.y1 - r.y0), (bytV a0.v m0.h r)⟩ : Task), _, rfl, ⟨(o1.rdAt (cs := [n1]) 0 rfl)⟩, hv, c3⟩
theorem p20_tasks {b : Nat} {x : LayM} (hx : LayM.Ok [H] x) (nd : Int) (hg : LayG x.L) (hx2 : x.jobStages.n = x.jobStages.l.length) (hW : LayW x) (hnd : nd ∈ x.L.od) (htt : x.L.total <= 4096) (hS : Sat W w ([(b, .cells (encLayM x).toArray 97 (0, 0))] :: H :: F)) :
  Calls prog 47 #[Pt b 0, I nd] w fun e w' => ∃ (az : Option Addr) (nz kz : Nat) (zs : List Task) (Z G : Chunk), e = .returned (.slice az nz kz) /\ OwnT encTask 46 9 az nz kz zs Z /\ (∀ z ∈ zs, Task.Ok [G] z) /\ zs.map Task.v = x.L.tasks nd /\ Sat W w' (Z :: G :: [(b, .cells (encLayM x).toArray 97 (0, 0))] :: H :: F) := by
 have hl_x_jobInputs := hx.jobInputs.le; have hn_x_jobInputs := hx.jobInputs.len
 have hl_x_jobStages := hx.jobStages.le; have hn_x_jobStages := hx.jobStages.len
 have hl_x_jobOutputs := hx.jobOutputs.le; have hn_x_jobOutputs := hx.jobOutputs.len
 have hl_x_order := hx.order.le; have hn_x_order := hx.order.len
 have hl_x_shapes := hx.shapes.le; have hn_x_shapes := hx.shapes.len
 have hl_x_first := hx.first.le; have hn_x_first := hx.first.len
 have hl_x_count := hx.count.le; have hn_x_count := hx.count.len
 have hgn : 1 <= (x.jobInputs.n : Int) /\ (x.jobInputs.n : Int) + (x.jobStages.n : Int) <= 16 := by have h := hg.ni; simp only [LayM.L, List.length_map] at h; omega
 have hgs : (x.shapes.n : Int) = (x.jobInputs.n : Int) + (x.jobStages.n : Int) := by have h := hg.len; simp only [LayM.L, List.length_map] at h; omega
 have htl : tileP x.tw x.th := hg.tl; unfold tileP at htl
 have hr_hnd : (x.jobInputs.n : Int) <= nd /\ nd < (x.jobInputs.n : Int) + (x.jobStages.n : Int) := by have h := hg.rng nd hnd; simp only [LayM.L, List.length_map] at h; omega
 have hfi : fineP (x.L.cut nd).w (x.L.cut nd).h x.tw x.th := hg.fine hnd
 have hgr := hg.grid hnd; have hcb := hg.cntb hnd; have hfb := hg.firstb hnd; have hcs := hg.cutsz hnd; have htb := hg.totb; unfold szP at hcs
 have hb1 := (List.getElem?_eq_some_iff.1 (hW nd hnd).1).1
 obtain ⟨nx, hnx⟩ : ∃ z, z = (colsN (x.L.cut nd).w (x.L.cut nd).h x.tw x.th) := ⟨_, rfl⟩; obtain ⟨ny, hny⟩ : ∃ z, z = (rowsN (x.L.cut nd).w (x.L.cut nd).h x.tw x.th) := ⟨_, rfl⟩; obtain ⟨fr, hfr⟩ : ∃ z, z = x.L.first nd := ⟨_, rfl⟩
 have hnx2 : x.L.nx nd = nx := by rw [hnx]; rfl
 have hny2 : x.L.ny nd = ny := by rw [hny]; rfl
 rw [hnx2, hny2] at hgr; rw [<- hfr] at hfb
 refine callsA 132 func47 rfl <| sR <| pu1 <| zS <| pu2 <| cX call60 (p20_stage (hx.of_mem (mem_flat1 0 (by rfl))) nd om om hS.flat1) ?_
 rintro _ _ ⟨a0, rfl, y3, p4⟩
 have q4 := p4.unflat1
 have hok_q_4 := hx.jobStagesD a0 (List.mem_of_getElem? y3); have hst_q_4 := lay_st y3
 refine sAlloc q4 zeroValue38 fun d0 _ r4 => ?_
 refine sT r4 0 0 (.agg (encStage a0).toArray) (encStage a0) (encStage a0).toArray sizeOf38 fun _ s4 => nilO ?_
 have hsq : ∀ y ∈ srcs a0.v, 0 <= y /\ y < x.L.ni + (x.L.ss.length : Int) /\ (y < x.L.ni \/ y ∈ x.L.od) := fun y hy => hg.src hnd y (by rw [hst_q_4]; exact hy)
 refine tN <| sR <| pu2 ?_
 have t4 := (s4.pick 1 rfl)
 refine cX call87 (p20_cut (hx.of_mem (mem_flat1 1 (by rfl))) nd hg hx2 hnd t4.flat1) ?_
 rintro _ _ ⟨rfl, u4⟩
 refine sAlloc (Sat.unflat1 u4) zeroValue54 fun c0 _ w4 => ?_
 refine sT w4 0 0 (.agg #[I ((x.L.cut nd).w), I ((x.L.cut nd).h), I ((x.L.cut nd).max_)]) [I ((x.L.cut nd).w), I ((x.L.cut nd).h), I ((x.L.cut nd).max_)] #[I ((x.L.cut nd).w), I ((x.L.cut nd).h), I ((x.L.cut nd).max_)] sizeOf54 fun _ t0 => nT <| seqE <| drawE [12] [(1, ⟨c0, 0, none⟩, I ((x.L.cut nd).w)), (3, ⟨c0, 1, none⟩, I ((x.L.cut nd).h)), (7, ⟨b, 4, none⟩, I x.tw), (11, ⟨b, 5, none⟩, I x.th)] [(true, [0, 2, 4, 5, 6, 8, 9, 10]), (true, [1]), (true, [3]), (true, [7]), (true, [11]), (false, [12]), (true, [13]), (true, [14]), (true, [15]), (true, [16, 17])] rfl kr ⟨cI t0 0, cI t0 0, cI t0 1, cI t0 1, trivial⟩ ?_
 have x4 := t0.drew
 refine wU [0, 2, 4, 5, 6, 8, 9, 10] <| wLd (I ((x.L.cut nd).w)) 0 isAgg3 <| wLd (I ((x.L.cut nd).h)) 1 isAgg3 <| wLd (I x.tw) 2 isAgg3 <| wLd (I x.th) 3 isAgg3 <| wO rfl <| cR call88 (p5_count ((x.L.cut nd).w) ((x.L.cut nd).h) x.tw x.th x4.flat) fun _ u0 => ?_
 rw [<- hnx, <- hny]
 refine nilO ⟨dA, ?_⟩
 refine wU [13] <| wU [14] <| wU [15] <| wU [16, 17] <| wN <| tN <| sR <| pu3 <| sL u0 1 8 (.slice x.first.a x.first.n x.first.k) (isAgg22 _) <| pu1 <| sIdx hx.first nd runUnderlying22 sizeOf3 fun b0 _ _ y4 z4 => ?_
 have hf1 : fr = b0 := hfr.trans (Option.some.inj ((hW nd hnd).1.symm.trans y4))
 refine sLp u0 (z4.up 3 rfl) 0 (I b0) (isAgg3 _) <| pu1 <| zS <| pu1 <| zQ <| pu1 <| sL u0 2 0 (I a0.kind) (isAgg3 _) <| pu1 <| nT <| cE a0.kind 4 (fun e0 => ?_) (fun e0 => ?_)
 rotate_left
 ·refine kS <| pu1 <| zQ <| pu2 <| sMul nx ny <| pu1 <| nT <| blockE ?_
  have a5 := Sat.nilc u0
  have b5 := OwnT.nil (enc := encTask) (E := 46) (sz := 9) fR
  refine loopA (γ := Nat × (List Task) × (Option Addr) × Nat × Nat × Chunk × Chunk) (fun ⟨i, zs, azs, nzs, kzs, czs, Gzs⟩ => [(0, Pt b 0), (1, I nd), (5, Pt d0 0), (6, Pt c0 0), (7, I nx), (8, I ny), (9, I b0), (10, I 0), (51, I (nx * ny)), (52, I (i : Int)), (11, .slice azs nzs kzs)]) (fun ⟨i, zs, azs, nzs, kzs, czs, Gzs⟩ w => Sat W w (Gzs :: czs :: [(c0, .cells #[I ((x.L.cut nd).w), I ((x.L.cut nd).h), I ((x.L.cut nd).max_)] 54 (0, 0))] :: [(b, .cells (encLayM x).toArray 97 (0, 0))] :: [(d0, .cells (encStage a0).toArray 38 (0, 0))] :: H :: F) /\ i <= (nx * ny).toNat /\ (zs.map Task.v = (uptoV i).map (x.L.tileT nd)) /\ (zs.length = i) /\ OwnT encTask 46 9 azs nzs kzs zs czs /\ (∀ z ∈ zs, Task.Ok [Gzs] z)) (fun ⟨i, zs, azs, nzs, kzs, czs, Gzs⟩ => ((nx * ny).toNat) - i) (0, [], none, 0, 0, [], []) ⟨(Sat.nilc a5), om, by rfl, by rfl, b5, (by intro z hz; cases hz)⟩ ?_
  rintro ⟨i, zs, azs, nzs, kzs, czs, Gzs⟩ ρ _ ⟨g0, hi, hE, hzl, hOzs, hDzs⟩
  have hn_zs := hOzs.len; have hl_zs := hOzs.le
  refine sR <| pu1 <| nT <| seqE <| cD ((i : Int) < (nx * ny)) (fun d5 => ?_) (fun d5 => ?_)
  rotate_left
  ·refine exitE <| xB <| tN <| seqE <| seqE ?_
   have hi9 : i = (nx * ny).toNat := by omega
   refine rE <| pu1 <| sL g0 4 0 (I a0.kind) (isAgg3 _) <| pu1 <| nT ?_
   have e5 : ¬ ((a0.kind : Int) = 4) := e0
   refine cF _ (beq_eq_false_iff_ne.2 e5) <| kS <| pu2 <| zE <| retT [.slice azs nzs kzs] ?_
   have f5 := ((g0.pick 1 rfl).drops [2, 3])
   have hz : zs.map Task.v = x.L.tasks nd := by unfold Lay.tasks; rw [hst_q_4, if_neg (show ¬ a0.v.kind = 4 from e0), hnx2, hny2, List.append_nil, hE, hi9]
   exact ⟨_, _, _, _, _, _, rfl, hOzs, hDzs, hz, f5⟩
  refine kT <| seqE <| blockE <| sR <| pu2 <| nT <| seqE <| drawP [13, 17, 18] [(1, ⟨c0, 0, none⟩, I ((x.L.cut nd).w)), (3, ⟨c0, 1, none⟩, I ((x.L.cut nd).h)), (7, ⟨b, 4, none⟩, I x.tw), (11, ⟨b, 5, none⟩, I x.th)] (Plan.sts [0, 2, 4, 5, 6, 8, 9, 10, 12] <| Plan.sts [1] <| Plan.sts [3] <| Plan.sts [7] <| Plan.sts [11] <| .fk 13 17 (Plan.sts [14] <| Plan.sts [15] <| Plan.sts [16] <| .ef 17 <| .ef 18 <| Plan.sts [19] <| .fin) (.ef 13 <| Plan.sts [14] <| Plan.sts [15] <| Plan.sts [16] <| .ef 18 <| Plan.sts [19] <| .fin)) rfl kr ⟨cI g0 2, cI g0 2, cI g0 3, cI g0 3, trivial⟩ ?_
  have z3 := g0.drew
  refine qU [0, 2, 4, 5, 6, 8, 9, 10, 12] <| qLd (I ((x.L.cut nd).w)) 0 isAgg3 <| qLd (I ((x.L.cut nd).h)) 1 isAgg3 <| qLd (I x.tw) 2 isAgg3 <| qLd (I x.th) 3 isAgg3 <| qF ?_ ?_
  ·refine qO rfl <| cR call89 (p5_tile ((x.L.cut nd).w) ((x.L.cut nd).h) x.tw x.th (i : Int) hfi ⟨om, by rw [<- hnx, <- hny]; omega⟩ z3.flat) ?_
   intro _ g5
   refine nilO ⟨dA, ?_⟩
   refine qU [14] <| qU [15] <| qU [16] <| qO rfl <| sAlloc g5 zeroValue44 fun h5 _ i5 => nilO ⟨dA, ?_⟩
   refine qO rfl ?_
   refine sT i5 0 0 (.agg #[I ((tileV ((x.L.cut nd).w) ((x.L.cut nd).h) x.tw x.th (i : Int)).x0), I ((tileV ((x.L.cut nd).w) ((x.L.cut nd).h) x.tw x.th (i : Int)).y0), I ((tileV ((x.L.cut nd).w) ((x.L.cut nd).h) x.tw x.th (i : Int)).x1), I ((tileV ((x.L.cut nd).w) ((x.L.cut nd).h) x.tw x.th (i : Int)).y1)]) [I ((tileV ((x.L.cut nd).w) ((x.L.cut nd).h) x.tw x.th (i : Int)).x0), I ((tileV ((x.L.cut nd).w) ((x.L.cut nd).h) x.tw x.th (i : Int)).y0), I ((tileV ((x.L.cut nd).w) ((x.L.cut nd).h) x.tw x.th (i : Int)).x1), I ((tileV ((x.L.cut nd).w) ((x.L.cut nd).h) x.tw x.th (i : Int)).y1)] #[I ((tileV ((x.L.cut nd).w) ((x.L.cut nd).h) x.tw x.th (i : Int)).x0), I ((tileV ((x.L.cut nd).w) ((x.L.cut nd).h) x.tw x.th (i : Int)).y0), I ((tileV ((x.L.cut nd).w) ((x.L.cut nd).h) x.tw x.th (i : Int)).x1), I ((tileV ((x.L.cut nd).w) ((x.L.cut nd).h) x.tw x.th (i : Int)).y1)] sizeOf44 ?_
   intro j5 k5
   refine nilO ⟨dA, ?_⟩
   refine qU [19] <| qN ?_
   obtain ⟨r, hr⟩ : ∃ z : Rct, z = (tileV (x.L.cut nd).w (x.L.cut nd).h x.tw x.th (i : Int)) := ⟨_, rfl⟩
   have a2 : Sat W j5 ([(h5, .cells (encRct r).toArray 44 (0, 0))] :: Gzs :: czs :: [(c0, .cells #[I ((x.L.cut nd).w), I ((x.L.cut nd).h), I ((x.L.cut nd).max_)] 54 (0, 0))] :: [(b, .cells (encLayM x).toArray 97 (0, 0))] :: [(d0, .cells (encStage a0).toArray 38 (0, 0))] :: H :: F) := by rw [hr]; exact k5
   have hin : inP r := by rw [hr]; exact (tile_in hfi om (by rw [<- hnx, <- hny]; omega)).1
   have hrt : x.L.tile nd (i : Int) = r := by rw [hr]; rfl
   refine tN <| sR <| pu1 <| lA a2 5 0 18 (isAgg38 _) (sizeOf38 _) <| lA a2 0 0 4 (isAgg44 _) (sizeOf44 _) ?_
   have l5 := (a2.pick 4 rfl)
   refine cX call90 (p20_needs (hx.of_mem (mem_flat1 5 (by rfl))) (q := a0) ⟨(RdT.flat (hok_q_4.weights.up 5 (by rfl))), (RdT.flat (hok_q_4.row.up 5 (by rfl))), (RdT.flat (hok_q_4.col.up 5 (by rfl))), (RdT.flat (hok_q_4.x.up 5 (by rfl))), (fun z hz => (hok_q_4.xD z hz).of_mem (mem_flat1 5 (by rfl))), (RdT.flat (hok_q_4.y.up 5 (by rfl))), (fun z hz => (hok_q_4.yD z hz).of_mem (mem_flat1 5 (by rfl))), (RdT.flat (hok_q_4.ops.up 5 (by rfl)))⟩ r hg hx2 hW hsq l5.flat1) ?_
   rintro _ _ ⟨_, _, _, _, rfl, l0, m5⟩
   have h0 := m5.unflat2; have hn_az_381 := l0.len; have hl_az_381 := l0.le
   have hnl_az_381 := flat_len2 (s := a0.v) (r := r) hg (srcs a0.v) (fun y hy => (hsq y hy).2.2); have hnm_az_381 := srcs_len a0.v; unfold Lay.needs at hn_az_381
   refine pu1 <| zQ <| pu1 <| sL h0 6 0 (I a0.kind) (isAgg3 _) <| pu1 <| nT <| cE a0.kind 5 (fun m0 => ?_) (fun m0 => ?_)
   rotate_left
   ·refine kT <| rE <| pu4 <| lA h0 2 0 4 (isAgg44 _) (sizeOf44 _) <| pu1 ?_
    have n5 := (h0.picks [1, 1])
    refine cX call91 (p20_task (hx.of_mem (mem_flat1 5 (by rfl))) l0 nd 0 r hg hx2 hnd hin om n5.flat2) ?_
    rintro _ _ ⟨b1, b2, rfl, o5, p5, q5⟩
    refine sBS (Sat.unflat2 q5) (encTask b1).toArray runUnderlying39 sizeOf46 zeroValue46 fun _ _ s5 => sApp (nb := 88) s5 hOzs 5 (RdT.blk (enc := encTask) (sz := 9) (xs := [b1]) fR 1 0 rfl rfl rfl om) underlying39 (i := Tryz.t46) kr fR fun t5 u5 c2 _ v5 w5 => pu1 <| nilO ?_
    have how : x.L.own nd (i : Int) = [] := by unfold Lay.own; rw [hst_q_4, if_neg (show ¬ a0.v.kind = 5 from m0)]
    have hpt : x.L.part nd = 0 := by unfold Lay.part; rw [hst_q_4, if_neg (show ¬ a0.v.kind = 4 from e0)]
    have htv : b1.v = x.L.tileT nd (i : Int) := by rw [p5]; unfold Lay.tileT; rw [hrt, hpt, hst_q_4, how]; first | rfl | simp only [List.append_assoc, List.append_nil, List.nil_append]
    refine bN <| tN <| rE <| sAdd (i : Int) 1 <| pu1 <| nT ?_
    have x5 := ((w5.picks [6, 6, 6, 4]).drops [4, 5])
    exact ⟨(i + 1, (zs ++ [b1]), t5, (nzs + 1), u5, c2, (b2 ++ Gzs)), od, alA, (Sat.perm (cs' := (b2 ++ Gzs) :: (c2 :: [(c0, .cells #[I ((x.L.cut nd).w), I ((x.L.cut nd).h), I ((x.L.cut nd).max_)] 54 (0, 0))] :: [(b, .cells (encLayM x).toArray 97 (0, 0))] :: [(d0, .cells (encStage a0).toArray 38 (0, 0))] :: H :: F)) (show Sat W _ (b2 :: Gzs :: c2 :: [(c0, .cells #[I ((x.L.cut nd).w), I ((x.L.cut nd).h), I ((x.L.cut nd).max_)] 54 (0, 0))] :: [(b, .cells (encLayM x).toArray 97 (0, 0))] :: [(d0, .cells (encStage a0).toArray 38 (0, 0))] :: H :: F) from x5) (by simp)), om, (by rw [List.map_append, hE, upto_map_snoc]; simp only [List.map_cons, List.map_nil]; rw [htv]), (by simp; omega), v5, (by
      intro z hz
      rcases List.mem_append.1 hz with h | h
      ·exact (hDzs z h).of_mem mS
      ·simp only [List.mem_singleton] at h; subst h; exact (o5.of_mem mS))⟩
   refine seqE <| seqE ?_
   have htm : ((i : Int)).tmod nx = (i : Int) % nx := Int.tmod_eq_emod_of_nonneg om
   refine rE <| pu2 <| sRem (i : Int) nx <| pu1 <| nT <| cD (((i : Int).tmod nx) > 0) (fun z5 => ?_) (fun z5 => ?_)
   rotate_left
   ·refine kS <| pu3 <| nT <| cD ((i : Int) >= nx) (fun a6 => ?_) (fun a6 => ?_)
    rotate_left
    ·refine kT <| rE <| pu4 <| lA h0 2 0 4 (isAgg44 _) (sizeOf44 _) <| pu1 ?_
     have b6 := (h0.picks [1, 1])
     refine cX call91 (p20_task (hx.of_mem (mem_flat1 5 (by rfl))) l0 nd 0 r hg hx2 hnd hin om b6.flat2) ?_
     rintro _ _ ⟨c1, d2, rfl, c6, d6, e6⟩
     refine sBS (Sat.unflat2 e6) (encTask c1).toArray runUnderlying39 sizeOf46 zeroValue46 fun _ _ g6 => sApp (nb := 88) g6 hOzs 5 (RdT.blk (enc := encTask) (sz := 9) (xs := [c1]) fR 1 0 rfl rfl rfl om) underlying39 (i := Tryz.t46) kr fR fun h6 i6 e2 _ j6 k6 => pu1 <| nilO ?_
     have how : x.L.own nd (i : Int) = ([] : List Int) ++ ([] : List Int) := by unfold Lay.own; rw [hst_q_4, if_pos (show a0.v.kind = 5 from m0), hnx2, <- hfr, hf1, if_neg (by rw [<- htm]; omega), if_neg om]
     have hpt : x.L.part nd = 0 := by unfold Lay.part; rw [hst_q_4, if_neg (show ¬ a0.v.kind = 4 from e0)]
     have htv : c1.v = x.L.tileT nd (i : Int) := by rw [d6]; unfold Lay.tileT; rw [hrt, hpt, hst_q_4, how]; first | rfl | simp only [List.append_assoc, List.append_nil, List.nil_append]
     refine bN <| tN <| rE <| sAdd (i : Int) 1 <| pu1 <| nT ?_
     have l6 := ((k6.picks [6, 6, 6, 4]).drops [4, 5])
     exact ⟨(i + 1, (zs ++ [c1]), h6, (nzs + 1), i6, e2, (d2 ++ Gzs)), od, alA, (Sat.perm (cs' := (d2 ++ Gzs) :: (e2 :: [(c0, .cells #[I ((x.L.cut nd).w), I ((x.L.cut nd).h), I ((x.L.cut nd).max_)] 54 (0, 0))] :: [(b, .cells (encLayM x).toArray 97 (0, 0))] :: [(d0, .cells (encStage a0).toArray 38 (0, 0))] :: H :: F)) (show Sat W _ (d2 :: Gzs :: e2 :: [(c0, .cells #[I ((x.L.cut nd).w), I ((x.L.cut nd).h), I ((x.L.cut nd).max_)] 54 (0, 0))] :: [(b, .cells (encLayM x).toArray 97 (0, 0))] :: [(d0, .cells (encStage a0).toArray 38 (0, 0))] :: H :: F) from l6) (by simp)), om, (by rw [List.map_append, hE, upto_map_snoc]; simp only [List.map_cons, List.map_nil]; rw [htv]), (by simp; omega), j6, (by
       intro z hz
       rcases List.mem_append.1 hz with h | h
       ·exact (hDzs z h).of_mem mS
       ·simp only [List.mem_singleton] at h; subst h; exact (c6.of_mem mS))⟩
    refine rE <| pu3 <| sAdd b0 (i : Int) <| pu1 <| sSub (b0 + (i : Int)) nx <| sBS h0 #[I ((b0 + (i : Int)) - nx)] runUnderlying22 sizeOf3 zeroValue3 fun _ _ n6 => sApp (nb := 8) n6 l0 1 (RdT.blk (enc := Go.E.encI) (sz := 1) (xs := [((b0 + (i : Int)) - nx)]) fR 1 0 rfl rfl rfl om) underlying22 (i := Tryz.t3) kr fR fun _ _ _ _ o6 a4 => pu1 <| nT <| rE <| pu4 <| lA a4 3 0 4 (isAgg44 _) (sizeOf44 _) <| pu1 ?_
    have p6 := (a4.picks [2, 2])
    refine cX call91 (p20_task (hx.of_mem (mem_flat1 6 (by rfl))) o6 nd 0 r hg hx2 hnd hin om p6.flat2) ?_
    rintro _ _ ⟨d1, f2, rfl, q6, r6, s6⟩
    refine sBS (Sat.unflat2 s6) (encTask d1).toArray runUnderlying39 sizeOf46 zeroValue46 fun _ _ u6 => sApp (nb := 88) u6 hOzs 6 (RdT.blk (enc := encTask) (sz := 9) (xs := [d1]) fR 1 0 rfl rfl rfl om) underlying39 (i := Tryz.t46) kr fR fun v6 w6 g2 _ x6 y6 => pu1 <| nilO ?_
    have how : x.L.own nd (i : Int) = ([] : List Int) ++ [b0 + (i : Int) - nx] := by unfold Lay.own; rw [hst_q_4, if_pos (show a0.v.kind = 5 from m0), hnx2, <- hfr, hf1, if_neg (by rw [<- htm]; omega), if_pos om]
    have hpt : x.L.part nd = 0 := by unfold Lay.part; rw [hst_q_4, if_neg (show ¬ a0.v.kind = 4 from e0)]
    have htv : d1.v = x.L.tileT nd (i : Int) := by rw [r6]; unfold Lay.tileT; rw [hrt, hpt, hst_q_4, how]; first | rfl | simp only [List.append_assoc, List.append_nil, List.nil_append]
    refine bN <| tN <| rE <| sAdd (i : Int) 1 <| pu1 <| nT ?_
    have z6 := ((y6.picks [7, 7, 7, 4]).drops [4, 5, 5])
    exact ⟨(i + 1, (zs ++ [d1]), v6, (nzs + 1), w6, g2, (f2 ++ Gzs)), od, alA, (Sat.perm (cs' := (f2 ++ Gzs) :: (g2 :: [(c0, .cells #[I ((x.L.cut nd).w), I ((x.L.cut nd).h), I ((x.L.cut nd).max_)] 54 (0, 0))] :: [(b, .cells (encLayM x).toArray 97 (0, 0))] :: [(d0, .cells (encStage a0).toArray 38 (0, 0))] :: H :: F)) (show Sat W _ (f2 :: Gzs :: g2 :: [(c0, .cells #[I ((x.L.cut nd).w), I ((x.L.cut nd).h), I ((x.L.cut nd).max_)] 54 (0, 0))] :: [(b, .cells (encLayM x).toArray 97 (0, 0))] :: [(d0, .cells (encStage a0).toArray 38 (0, 0))] :: H :: F) from z6) (by simp)), om, (by rw [List.map_append, hE, upto_map_snoc]; simp only [List.map_cons, List.map_nil]; rw [htv]), (by simp; omega), x6, (by
      intro z hz
      rcases List.mem_append.1 hz with h | h
      ·exact (hDzs z h).of_mem mS
      ·simp only [List.mem_singleton] at h; subst h; exact (q6.of_mem mS))⟩
   refine rE <| pu3 <| sAdd b0 (i : Int) <| sSub (b0 + (i : Int)) 1 <| sBS h0 #[I ((b0 + (i : Int)) - 1)] runUnderlying22 sizeOf3 zeroValue3 fun _ _ b7 => sApp (nb := 8) b7 l0 1 (RdT.blk (enc := Go.E.encI) (sz := 1) (xs := [((b0 + (i : Int)) - 1)]) fR 1 0 rfl rfl rfl om) underlying22 (i := Tryz.t3) kr fR fun _ _ _ _ b4 h2 => pu1 <| zS <| pu3 <| nT <| cD ((i : Int) >= nx) (fun c7 => ?_) (fun c7 => ?_)
   rotate_left
   ·refine kT <| rE <| pu4 <| lA h2 3 0 4 (isAgg44 _) (sizeOf44 _) <| pu1 ?_
    have d7 := (h2.picks [2, 2])
    refine cX call91 (p20_task (hx.of_mem (mem_flat1 6 (by rfl))) b4 nd 0 r hg hx2 hnd hin om d7.flat2) ?_
    rintro _ _ ⟨e1, i2, rfl, e7, f7, g7⟩
    refine sBS (Sat.unflat2 g7) (encTask e1).toArray runUnderlying39 sizeOf46 zeroValue46 fun _ _ i7 => sApp (nb := 88) i7 hOzs 6 (RdT.blk (enc := encTask) (sz := 9) (xs := [e1]) fR 1 0 rfl rfl rfl om) underlying39 (i := Tryz.t46) kr fR fun j7 k7 j2 _ l7 m7 => pu1 <| nilO ?_
    have how : x.L.own nd (i : Int) = [b0 + (i : Int) - 1] ++ ([] : List Int) := by unfold Lay.own; rw [hst_q_4, if_pos (show a0.v.kind = 5 from m0), hnx2, <- hfr, hf1, if_pos (by rw [<- htm]; omega), if_neg om]
    have hpt : x.L.part nd = 0 := by unfold Lay.part; rw [hst_q_4, if_neg (show ¬ a0.v.kind = 4 from e0)]
    have htv : e1.v = x.L.tileT nd (i : Int) := by rw [f7]; unfold Lay.tileT; rw [hrt, hpt, hst_q_4, how]; first | rfl | simp only [List.append_assoc, List.append_nil, List.nil_append]
    refine bN <| tN <| rE <| sAdd (i : Int) 1 <| pu1 <| nT ?_
    have n7 := ((m7.picks [7, 7, 7, 4]).drops [4, 5, 5])
    exact ⟨(i + 1, (zs ++ [e1]), j7, (nzs + 1), k7, j2, (i2 ++ Gzs)), od, alA, (Sat.perm (cs' := (i2 ++ Gzs) :: (j2 :: [(c0, .cells #[I ((x.L.cut nd).w), I ((x.L.cut nd).h), I ((x.L.cut nd).max_)] 54 (0, 0))] :: [(b, .cells (encLayM x).toArray 97 (0, 0))] :: [(d0, .cells (encStage a0).toArray 38 (0, 0))] :: H :: F)) (show Sat W _ (i2 :: Gzs :: j2 :: [(c0, .cells #[I ((x.L.cut nd).w), I ((x.L.cut nd).h), I ((x.L.cut nd).max_)] 54 (0, 0))] :: [(b, .cells (encLayM x).toArray 97 (0, 0))] :: [(d0, .cells (encStage a0).toArray 38 (0, 0))] :: H :: F) from n7) (by simp)), om, (by rw [List.map_append, hE, upto_map_snoc]; simp only [List.map_cons, List.map_nil]; rw [htv]), (by simp; omega), l7, (by
      intro z hz
      rcases List.mem_append.1 hz with h | h
      ·exact (hDzs z h).of_mem mS
      ·simp only [List.mem_singleton] at h; subst h; exact (e7.of_mem mS))⟩
   refine rE <| pu3 <| sAdd b0 (i : Int) <| pu1 <| sSub (b0 + (i : Int)) nx <| sBS h2 #[I ((b0 + (i : Int)) - nx)] runUnderlying22 sizeOf3 zeroValue3 fun _ _ p7 => sApp (nb := 8) p7 b4 2 (RdT.blk (enc := Go.E.encI) (sz := 1) (xs := [((b0 + (i : Int)) - nx)]) fR 1 0 rfl rfl rfl om) underlying22 (i := Tryz.t3) kr fR fun _ _ _ _ q7 c4 => pu1 <| nT <| rE <| pu4 <| lA c4 4 0 4 (isAgg44 _) (sizeOf44 _) <| pu1 ?_
   have r7 := (c4.picks [3, 3])
   refine cX call91 (p20_task (hx.of_mem (mem_flat1 7 (by rfl))) q7 nd 0 r hg hx2 hnd hin om r7.flat2) ?_
   rintro _ _ ⟨f1, k2, rfl, s7, t7, u7⟩
   refine sBS (Sat.unflat2 u7) (encTask f1).toArray runUnderlying39 sizeOf46 zeroValue46 fun _ _ w7 => sApp (nb := 88) w7 hOzs 7 (RdT.blk (enc := encTask) (sz := 9) (xs := [f1]) fR 1 0 rfl rfl rfl om) underlying39 (i := Tryz.t46) kr fR fun x7 y7 l2 _ z7 a8 => pu1 <| nilO ?_
   have how : x.L.own nd (i : Int) = [b0 + (i : Int) - 1] ++ [b0 + (i : Int) - nx] := by unfold Lay.own; rw [hst_q_4, if_pos (show a0.v.kind = 5 from m0), hnx2, <- hfr, hf1, if_pos (by rw [<- htm]; omega), if_pos om]
   have hpt : x.L.part nd = 0 := by unfold Lay.part; rw [hst_q_4, if_neg (show ¬ a0.v.kind = 4 from e0)]
   have htv : f1.v = x.L.tileT nd (i : Int) := by rw [t7]; unfold Lay.tileT; rw [hrt, hpt, hst_q_4, how]; first | rfl | simp only [List.append_assoc, List.append_nil, List.nil_append]
   refine bN <| tN <| rE <| sAdd (i : Int) 1 <| pu1 <| nT ?_
   have b8 := ((a8.picks [8, 8, 8, 4]).drops [4, 5, 5, 5])
   exact ⟨(i + 1, (zs ++ [f1]), x7, (nzs + 1), y7, l2, (k2 ++ Gzs)), od, alA, (Sat.perm (cs' := (k2 ++ Gzs) :: (l2 :: [(c0, .cells #[I ((x.L.cut nd).w), I ((x.L.cut nd).h), I ((x.L.cut nd).max_)] 54 (0, 0))] :: [(b, .cells (encLayM x).toArray 97 (0, 0))] :: [(d0, .cells (encStage a0).toArray 38 (0, 0))] :: H :: F)) (show Sat W _ (k2 :: Gzs :: l2 :: [(c0, .cells #[I ((x.L.cut nd).w), I ((x.L.cut nd).h), I ((x.L.cut nd).max_)] 54 (0, 0))] :: [(b, .cells (encLayM x).toArray 97 (0, 0))] :: [(d0, .cells (encStage a0).toArray 38 (0, 0))] :: H :: F) from b8) (by simp)), om, (by rw [List.map_append, hE, upto_map_snoc]; simp only [List.map_cons, List.map_nil]; rw [htv]), (by simp; omega), z7, (by
     intro z hz
     rcases List.mem_append.1 hz with h | h
     ·exact (hDzs z h).of_mem mS
     ·simp only [List.mem_singleton] at h; subst h; exact (s7.of_mem mS))⟩
  refine qO rfl <| sAlloc z3 zeroValue44 fun d8 _ v0 => nilO ⟨⟨cI v0 3, cI v0 3, cI v0 4, cI v0 4, trivial⟩, ?_⟩
  refine qO rfl <| cR call89 (p5_tile ((x.L.cut nd).w) ((x.L.cut nd).h) x.tw x.th (i : Int) hfi ⟨om, by rw [<- hnx, <- hny]; omega⟩ v0.flat) ?_
  intro _ e8
  refine nilO ⟨dA, ?_⟩
  refine qU [14] <| qU [15] <| qU [16] <| qO rfl ?_
  refine sT e8 0 0 (.agg #[I ((tileV ((x.L.cut nd).w) ((x.L.cut nd).h) x.tw x.th (i : Int)).x0), I ((tileV ((x.L.cut nd).w) ((x.L.cut nd).h) x.tw x.th (i : Int)).y0), I ((tileV ((x.L.cut nd).w) ((x.L.cut nd).h) x.tw x.th (i : Int)).x1), I ((tileV ((x.L.cut nd).w) ((x.L.cut nd).h) x.tw x.th (i : Int)).y1)]) [I ((tileV ((x.L.cut nd).w) ((x.L.cut nd).h) x.tw x.th (i : Int)).x0), I ((tileV ((x.L.cut nd).w) ((x.L.cut nd).h) x.tw x.th (i : Int)).y0), I ((tileV ((x.L.cut nd).w) ((x.L.cut nd).h) x.tw x.th (i : Int)).x1), I ((tileV ((x.L.cut nd).w) ((x.L.cut nd).h) x.tw x.th (i : Int)).y1)] #[I ((tileV ((x.L.cut nd).w) ((x.L.cut nd).h) x.tw x.th (i : Int)).x0), I ((tileV ((x.L.cut nd).w) ((x.L.cut nd).h) x.tw x.th (i : Int)).y0), I ((tileV ((x.L.cut nd).w) ((x.L.cut nd).h) x.tw x.th (i : Int)).x1), I ((tileV ((x.L.cut nd).w) ((x.L.cut nd).h) x.tw x.th (i : Int)).y1)] sizeOf44 ?_
  intro f8 g8
  refine nilO ⟨dA, ?_⟩
  refine qU [19] <| qN ?_
  obtain ⟨r, hr⟩ : ∃ z : Rct, z = (tileV (x.L.cut nd).w (x.L.cut nd).h x.tw x.th (i : Int)) := ⟨_, rfl⟩
  have m2 : Sat W f8 ([(d8, .cells (encRct r).toArray 44 (0, 0))] :: Gzs :: czs :: [(c0, .cells #[I ((x.L.cut nd).w), I ((x.L.cut nd).h), I ((x.L.cut nd).max_)] 54 (0, 0))] :: [(b, .cells (encLayM x).toArray 97 (0, 0))] :: [(d0, .cells (encStage a0).toArray 38 (0, 0))] :: H :: F) := by rw [hr]; exact g8
  have hin : inP r := by rw [hr]; exact (tile_in hfi om (by rw [<- hnx, <- hny]; omega)).1
  have hrt : x.L.tile nd (i : Int) = r := by rw [hr]; rfl
  refine tN <| sR <| pu1 <| lA m2 5 0 18 (isAgg38 _) (sizeOf38 _) <| lA m2 0 0 4 (isAgg44 _) (sizeOf44 _) ?_
  have h8 := (m2.pick 4 rfl)
  refine cX call90 (p20_needs (hx.of_mem (mem_flat1 5 (by rfl))) (q := a0) ⟨(RdT.flat (hok_q_4.weights.up 5 (by rfl))), (RdT.flat (hok_q_4.row.up 5 (by rfl))), (RdT.flat (hok_q_4.col.up 5 (by rfl))), (RdT.flat (hok_q_4.x.up 5 (by rfl))), (fun z hz => (hok_q_4.xD z hz).of_mem (mem_flat1 5 (by rfl))), (RdT.flat (hok_q_4.y.up 5 (by rfl))), (fun z hz => (hok_q_4.yD z hz).of_mem (mem_flat1 5 (by rfl))), (RdT.flat (hok_q_4.ops.up 5 (by rfl)))⟩ r hg hx2 hW hsq h8.flat1) ?_
  rintro _ _ ⟨_, _, _, _, rfl, n0, i8⟩
  have i0 := i8.unflat2; have hn_az_525 := n0.len; have hl_az_525 := n0.le
  have hnl_az_525 := flat_len2 (s := a0.v) (r := r) hg (srcs a0.v) (fun y hy => (hsq y hy).2.2); have hnm_az_525 := srcs_len a0.v; unfold Lay.needs at hn_az_525
  refine pu1 <| zQ <| pu1 <| sL i0 6 0 (I a0.kind) (isAgg3 _) <| pu1 <| nT <| cE a0.kind 5 (fun o0 => ?_) (fun o0 => ?_)
  rotate_left
  ·refine kT <| rE <| pu4 <| lA i0 2 0 4 (isAgg44 _) (sizeOf44 _) <| pu1 ?_
   have j8 := (i0.picks [1, 1])
   refine cX call91 (p20_task (hx.of_mem (mem_flat1 5 (by rfl))) n0 nd 0 r hg hx2 hnd hin om j8.flat2) ?_
   rintro _ _ ⟨g1, n2, rfl, k8, l8, m8⟩
   refine sBS (Sat.unflat2 m8) (encTask g1).toArray runUnderlying39 sizeOf46 zeroValue46 fun _ _ o8 => sApp (nb := 88) o8 hOzs 5 (RdT.blk (enc := encTask) (sz := 9) (xs := [g1]) fR 1 0 rfl rfl rfl om) underlying39 (i := Tryz.t46) kr fR fun p8 q8 o2 _ r8 s8 => pu1 <| nilO ?_
   have how : x.L.own nd (i : Int) = [] := by unfold Lay.own; rw [hst_q_4, if_neg (show ¬ a0.v.kind = 5 from o0)]
   have hpt : x.L.part nd = 0 := by unfold Lay.part; rw [hst_q_4, if_neg (show ¬ a0.v.kind = 4 from e0)]
   have htv : g1.v = x.L.tileT nd (i : Int) := by rw [l8]; unfold Lay.tileT; rw [hrt, hpt, hst_q_4, how]; first | rfl | simp only [List.append_assoc, List.append_nil, List.nil_append]
   refine bN <| tN <| rE <| sAdd (i : Int) 1 <| pu1 <| nT ?_
   have t8 := ((s8.picks [6, 6, 6, 4]).drops [4, 5])
   exact ⟨(i + 1, (zs ++ [g1]), p8, (nzs + 1), q8, o2, (n2 ++ Gzs)), od, alA, (Sat.perm (cs' := (n2 ++ Gzs) :: (o2 :: [(c0, .cells #[I ((x.L.cut nd).w), I ((x.L.cut nd).h), I ((x.L.cut nd).max_)] 54 (0, 0))] :: [(b, .cells (encLayM x).toArray 97 (0, 0))] :: [(d0, .cells (encStage a0).toArray 38 (0, 0))] :: H :: F)) (show Sat W _ (n2 :: Gzs :: o2 :: [(c0, .cells #[I ((x.L.cut nd).w), I ((x.L.cut nd).h), I ((x.L.cut nd).max_)] 54 (0, 0))] :: [(b, .cells (encLayM x).toArray 97 (0, 0))] :: [(d0, .cells (encStage a0).toArray 38 (0, 0))] :: H :: F) from t8) (by simp)), om, (by rw [List.map_append, hE, upto_map_snoc]; simp only [List.map_cons, List.map_nil]; rw [htv]), (by simp; omega), r8, (by
     intro z hz
     rcases List.mem_append.1 hz with h | h
     ·exact (hDzs z h).of_mem mS
     ·simp only [List.mem_singleton] at h; subst h; exact (k8.of_mem mS))⟩
  refine seqE <| seqE ?_
  have htm : ((i : Int)).tmod nx = (i : Int) % nx := Int.tmod_eq_emod_of_nonneg om
  refine rE <| pu2 <| sRem (i : Int) nx <| pu1 <| nT <| cD (((i : Int).tmod nx) > 0) (fun v8 => ?_) (fun v8 => ?_)
  rotate_left
  ·refine kS <| pu3 <| nT <| cD ((i : Int) >= nx) (fun w8 => ?_) (fun w8 => ?_)
   rotate_left
   ·refine kT <| rE <| pu4 <| lA i0 2 0 4 (isAgg44 _) (sizeOf44 _) <| pu1 ?_
    have x8 := (i0.picks [1, 1])
    refine cX call91 (p20_task (hx.of_mem (mem_flat1 5 (by rfl))) n0 nd 0 r hg hx2 hnd hin om x8.flat2) ?_
    rintro _ _ ⟨h1, p2, rfl, y8, z8, a9⟩
    refine sBS (Sat.unflat2 a9) (encTask h1).toArray runUnderlying39 sizeOf46 zeroValue46 fun _ _ c9 => sApp (nb := 88) c9 hOzs 5 (RdT.blk (enc := encTask) (sz := 9) (xs := [h1]) fR 1 0 rfl rfl rfl om) underlying39 (i := Tryz.t46) kr fR fun d9 e9 q2 _ f9 g9 => pu1 <| nilO ?_
    have how : x.L.own nd (i : Int) = ([] : List Int) ++ ([] : List Int) := by unfold Lay.own; rw [hst_q_4, if_pos (show a0.v.kind = 5 from o0), hnx2, <- hfr, hf1, if_neg (by rw [<- htm]; omega), if_neg om]
    have hpt : x.L.part nd = 0 := by unfold Lay.part; rw [hst_q_4, if_neg (show ¬ a0.v.kind = 4 from e0)]
    have htv : h1.v = x.L.tileT nd (i : Int) := by rw [z8]; unfold Lay.tileT; rw [hrt, hpt, hst_q_4, how]; first | rfl | simp only [List.append_assoc, List.append_nil, List.nil_append]
    refine bN <| tN <| rE <| sAdd (i : Int) 1 <| pu1 <| nT ?_
    have h9 := ((g9.picks [6, 6, 6, 4]).drops [4, 5])
    exact ⟨(i + 1, (zs ++ [h1]), d9, (nzs + 1), e9, q2, (p2 ++ Gzs)), od, alA, (Sat.perm (cs' := (p2 ++ Gzs) :: (q2 :: [(c0, .cells #[I ((x.L.cut nd).w), I ((x.L.cut nd).h), I ((x.L.cut nd).max_)] 54 (0, 0))] :: [(b, .cells (encLayM x).toArray 97 (0, 0))] :: [(d0, .cells (encStage a0).toArray 38 (0, 0))] :: H :: F)) (show Sat W _ (p2 :: Gzs :: q2 :: [(c0, .cells #[I ((x.L.cut nd).w), I ((x.L.cut nd).h), I ((x.L.cut nd).max_)] 54 (0, 0))] :: [(b, .cells (encLayM x).toArray 97 (0, 0))] :: [(d0, .cells (encStage a0).toArray 38 (0, 0))] :: H :: F) from h9) (by simp)), om, (by rw [List.map_append, hE, upto_map_snoc]; simp only [List.map_cons, List.map_nil]; rw [htv]), (by simp; omega), f9, (by
      intro z hz
      rcases List.mem_append.1 hz with h | h
      ·exact (hDzs z h).of_mem mS
      ·simp only [List.mem_singleton] at h; subst h; exact (y8.of_mem mS))⟩
   refine rE <| pu3 <| sAdd b0 (i : Int) <| pu1 <| sSub (b0 + (i : Int)) nx <| sBS i0 #[I ((b0 + (i : Int)) - nx)] runUnderlying22 sizeOf3 zeroValue3 fun _ _ j9 => sApp (nb := 8) j9 n0 1 (RdT.blk (enc := Go.E.encI) (sz := 1) (xs := [((b0 + (i : Int)) - nx)]) fR 1 0 rfl rfl rfl om) underlying22 (i := Tryz.t3) kr fR fun _ _ _ _ k9 d4 => pu1 <| nT <| rE <| pu4 <| lA d4 3 0 4 (isAgg44 _) (sizeOf44 _) <| pu1 ?_
   have l9 := (d4.picks [2, 2])
   refine cX call91 (p20_task (hx.of_mem (mem_flat1 6 (by rfl))) k9 nd 0 r hg hx2 hnd hin om l9.flat2) ?_
   rintro _ _ ⟨i1, r2, rfl, m9, n9, o9⟩
   refine sBS (Sat.unflat2 o9) (encTask i1).toArray runUnderlying39 sizeOf46 zeroValue46 fun _ _ q9 => sApp (nb := 88) q9 hOzs 6 (RdT.blk (enc := encTask) (sz := 9) (xs := [i1]) fR 1 0 rfl rfl rfl om) underlying39 (i := Tryz.t46) kr fR fun r9 s9 s2 _ t9 u9 => pu1 <| nilO ?_
   have how : x.L.own nd (i : Int) = ([] : List Int) ++ [b0 + (i : Int) - nx] := by unfold Lay.own; rw [hst_q_4, if_pos (show a0.v.kind = 5 from o0), hnx2, <- hfr, hf1, if_neg (by rw [<- htm]; omega), if_pos om]
   have hpt : x.L.part nd = 0 := by unfold Lay.part; rw [hst_q_4, if_neg (show ¬ a0.v.kind = 4 from e0)]
   have htv : i1.v = x.L.tileT nd (i : Int) := by rw [n9]; unfold Lay.tileT; rw [hrt, hpt, hst_q_4, how]; first | rfl | simp only [List.append_assoc, List.append_nil, List.nil_append]
   refine bN <| tN <| rE <| sAdd (i : Int) 1 <| pu1 <| nT ?_
   have v9 := ((u9.picks [7, 7, 7, 4]).drops [4, 5, 5])
   exact ⟨(i + 1, (zs ++ [i1]), r9, (nzs + 1), s9, s2, (r2 ++ Gzs)), od, alA, (Sat.perm (cs' := (r2 ++ Gzs) :: (s2 :: [(c0, .cells #[I ((x.L.cut nd).w), I ((x.L.cut nd).h), I ((x.L.cut nd).max_)] 54 (0, 0))] :: [(b, .cells (encLayM x).toArray 97 (0, 0))] :: [(d0, .cells (encStage a0).toArray 38 (0, 0))] :: H :: F)) (show Sat W _ (r2 :: Gzs :: s2 :: [(c0, .cells #[I ((x.L.cut nd).w), I ((x.L.cut nd).h), I ((x.L.cut nd).max_)] 54 (0, 0))] :: [(b, .cells (encLayM x).toArray 97 (0, 0))] :: [(d0, .cells (encStage a0).toArray 38 (0, 0))] :: H :: F) from v9) (by simp)), om, (by rw [List.map_append, hE, upto_map_snoc]; simp only [List.map_cons, List.map_nil]; rw [htv]), (by simp; omega), t9, (by
     intro z hz
     rcases List.mem_append.1 hz with h | h
     ·exact (hDzs z h).of_mem mS
     ·simp only [List.mem_singleton] at h; subst h; exact (m9.of_mem mS))⟩
  refine rE <| pu3 <| sAdd b0 (i : Int) <| sSub (b0 + (i : Int)) 1 <| sBS i0 #[I ((b0 + (i : Int)) - 1)] runUnderlying22 sizeOf3 zeroValue3 fun _ _ x9 => sApp (nb := 8) x9 n0 1 (RdT.blk (enc := Go.E.encI) (sz := 1) (xs := [((b0 + (i : Int)) - 1)]) fR 1 0 rfl rfl rfl om) underlying22 (i := Tryz.t3) kr fR fun _ _ _ _ e4 t2 => pu1 <| zS <| pu3 <| nT <| cD ((i : Int) >= nx) (fun y9 => ?_) (fun y9 => ?_)
  rotate_left
  ·refine kT <| rE <| pu4 <| lA t2 3 0 4 (isAgg44 _) (sizeOf44 _) <| pu1 ?_
   have z9 := (t2.picks [2, 2])
   refine cX call91 (p20_task (hx.of_mem (mem_flat1 6 (by rfl))) e4 nd 0 r hg hx2 hnd hin om z9.flat2) ?_
   rintro _ _ ⟨j1, u2, rfl, aa, ba, ca⟩
   refine sBS (Sat.unflat2 ca) (encTask j1).toArray runUnderlying39 sizeOf46 zeroValue46 fun _ _ ea => sApp (nb := 88) ea hOzs 6 (RdT.blk (enc := encTask) (sz := 9) (xs := [j1]) fR 1 0 rfl rfl rfl om) underlying39 (i := Tryz.t46) kr fR fun fa ga v2 _ ha ia => pu1 <| nilO ?_
   have how : x.L.own nd (i : Int) = [b0 + (i : Int) - 1] ++ ([] : List Int) := by unfold Lay.own; rw [hst_q_4, if_pos (show a0.v.kind = 5 from o0), hnx2, <- hfr, hf1, if_pos (by rw [<- htm]; omega), if_neg om]
   have hpt : x.L.part nd = 0 := by unfold Lay.part; rw [hst_q_4, if_neg (show ¬ a0.v.kind = 4 from e0)]
   have htv : j1.v = x.L.tileT nd (i : Int) := by rw [ba]; unfold Lay.tileT; rw [hrt, hpt, hst_q_4, how]; first | rfl | simp only [List.append_assoc, List.append_nil, List.nil_append]
   refine bN <| tN <| rE <| sAdd (i : Int) 1 <| pu1 <| nT ?_
   have ja := ((ia.picks [7, 7, 7, 4]).drops [4, 5, 5])
   exact ⟨(i + 1, (zs ++ [j1]), fa, (nzs + 1), ga, v2, (u2 ++ Gzs)), od, alA, (Sat.perm (cs' := (u2 ++ Gzs) :: (v2 :: [(c0, .cells #[I ((x.L.cut nd).w), I ((x.L.cut nd).h), I ((x.L.cut nd).max_)] 54 (0, 0))] :: [(b, .cells (encLayM x).toArray 97 (0, 0))] :: [(d0, .cells (encStage a0).toArray 38 (0, 0))] :: H :: F)) (show Sat W _ (u2 :: Gzs :: v2 :: [(c0, .cells #[I ((x.L.cut nd).w), I ((x.L.cut nd).h), I ((x.L.cut nd).max_)] 54 (0, 0))] :: [(b, .cells (encLayM x).toArray 97 (0, 0))] :: [(d0, .cells (encStage a0).toArray 38 (0, 0))] :: H :: F) from ja) (by simp)), om, (by rw [List.map_append, hE, upto_map_snoc]; simp only [List.map_cons, List.map_nil]; rw [htv]), (by simp; omega), ha, (by
     intro z hz
     rcases List.mem_append.1 hz with h | h
     ·exact (hDzs z h).of_mem mS
     ·simp only [List.mem_singleton] at h; subst h; exact (aa.of_mem mS))⟩
  refine rE <| pu3 <| sAdd b0 (i : Int) <| pu1 <| sSub (b0 + (i : Int)) nx <| sBS t2 #[I ((b0 + (i : Int)) - nx)] runUnderlying22 sizeOf3 zeroValue3 fun _ _ la => sApp (nb := 8) la e4 2 (RdT.blk (enc := Go.E.encI) (sz := 1) (xs := [((b0 + (i : Int)) - nx)]) fR 1 0 rfl rfl rfl om) underlying22 (i := Tryz.t3) kr fR fun _ _ _ _ ma f4 => pu1 <| nT <| rE <| pu4 <| lA f4 4 0 4 (isAgg44 _) (sizeOf44 _) <| pu1 ?_
  have na := (f4.picks [3, 3])
  refine cX call91 (p20_task (hx.of_mem (mem_flat1 7 (by rfl))) ma nd 0 r hg hx2 hnd hin om na.flat2) ?_
  rintro _ _ ⟨k1, w2, rfl, oa, pa, qa⟩
  refine sBS (Sat.unflat2 qa) (encTask k1).toArray runUnderlying39 sizeOf46 zeroValue46 fun _ _ sa => sApp (nb := 88) sa hOzs 7 (RdT.blk (enc := encTask) (sz := 9) (xs := [k1]) fR 1 0 rfl rfl rfl om) underlying39 (i := Tryz.t46) kr fR fun ta ua x2 _ va wa => pu1 <| nilO ?_
  have how : x.L.own nd (i : Int) = [b0 + (i : Int) - 1] ++ [b0 + (i : Int) - nx] := by unfold Lay.own; rw [hst_q_4, if_pos (show a0.v.kind = 5 from o0), hnx2, <- hfr, hf1, if_pos (by rw [<- htm]; omega), if_pos om]
  have hpt : x.L.part nd = 0 := by unfold Lay.part; rw [hst_q_4, if_neg (show ¬ a0.v.kind = 4 from e0)]
  have htv : k1.v = x.L.tileT nd (i : Int) := by rw [pa]; unfold Lay.tileT; rw [hrt, hpt, hst_q_4, how]; first | rfl | simp only [List.append_assoc, List.append_nil, List.nil_append]
  refine bN <| tN <| rE <| sAdd (i : Int) 1 <| pu1 <| nT ?_
  have xa := ((wa.picks [8, 8, 8, 4]).drops [4, 5, 5, 5])
  exact ⟨(i + 1, (zs ++ [k1]), ta, (nzs + 1), ua, x2, (w2 ++ Gzs)), od, alA, (Sat.perm (cs' := (w2 ++ Gzs) :: (x2 :: [(c0, .cells #[I ((x.L.cut nd).w), I ((x.L.cut nd).h), I ((x.L.cut nd).max_)] 54 (0, 0))] :: [(b, .cells (encLayM x).toArray 97 (0, 0))] :: [(d0, .cells (encStage a0).toArray 38 (0, 0))] :: H :: F)) (show Sat W _ (w2 :: Gzs :: x2 :: [(c0, .cells #[I ((x.L.cut nd).w), I ((x.L.cut nd).h), I ((x.L.cut nd).max_)] 54 (0, 0))] :: [(b, .cells (encLayM x).toArray 97 (0, 0))] :: [(d0, .cells (encStage a0).toArray 38 (0, 0))] :: H :: F) from xa) (by simp)), om, (by rw [List.map_append, hE, upto_map_snoc]; simp only [List.map_cons, List.map_nil]; rw [htv]), (by simp; omega), va, (by
    intro z hz
    rcases List.mem_append.1 hz with h | h
    ·exact (hDzs z h).of_mem mS
    ·simp only [List.mem_singleton] at h; subst h; exact (oa.of_mem mS))⟩
 refine rE <| pu1 <| zS <| pu1 <| zQ <| pu2 <| sMul nx ny <| pu1 <| nT <| blockE ?_
 have za := Sat.nilc u0
 have ab := OwnT.nil (enc := encTask) (E := 46) (sz := 9) fR
 refine loopA (γ := Nat × (List Task) × (Option Addr) × Nat × Nat × Chunk × Chunk) (fun ⟨i, zs, azs, nzs, kzs, czs, Gzs⟩ => [(0, Pt b 0), (1, I nd), (5, Pt d0 0), (6, Pt c0 0), (7, I nx), (8, I ny), (9, I b0), (10, I 1), (51, I (nx * ny)), (52, I (i : Int)), (11, .slice azs nzs kzs)]) (fun ⟨i, zs, azs, nzs, kzs, czs, Gzs⟩ w => Sat W w (Gzs :: czs :: [(c0, .cells #[I ((x.L.cut nd).w), I ((x.L.cut nd).h), I ((x.L.cut nd).max_)] 54 (0, 0))] :: [(b, .cells (encLayM x).toArray 97 (0, 0))] :: [(d0, .cells (encStage a0).toArray 38 (0, 0))] :: H :: F) /\ i <= (nx * ny).toNat /\ (zs.map Task.v = (uptoV i).map (x.L.tileT nd)) /\ (zs.length = i) /\ OwnT encTask 46 9 azs nzs kzs zs czs /\ (∀ z ∈ zs, Task.Ok [Gzs] z)) (fun ⟨i, zs, azs, nzs, kzs, czs, Gzs⟩ => ((nx * ny).toNat) - i) (0, [], none, 0, 0, [], []) ⟨(Sat.nilc za), om, by rfl, by rfl, ab, (by intro z hz; cases hz)⟩ ?_
 rintro ⟨i, zs, azs, nzs, kzs, czs, Gzs⟩ ρ _ ⟨f0, hi, hE, hzl, hOzs, hDzs⟩
 have hn_zs := hOzs.len; have hl_zs := hOzs.le
 refine sR <| pu1 <| nT <| seqE <| cD ((i : Int) < (nx * ny)) (fun cb => ?_) (fun cb => ?_)
 rotate_left
 ·refine exitE <| xB <| tN <| seqE <| seqE ?_
  have hi9 : i = (nx * ny).toNat := by omega
  refine rE <| pu1 <| sL f0 4 0 (I a0.kind) (isAgg3 _) <| pu1 <| nT ?_
  have db : (a0.kind : Int) = 4 := e0
  refine cT _ (beq_iff_eq.2 db) <| sR <| pu1 <| sL f0 4 15 (I a0.bins) (isAgg3 _) <| pu1 <| sAlloc f0 zeroValue44 fun l1 _ eb => ?_
  refine sT eb 0 0 (.agg #[I 0, I 0, I a0.bins, I 1]) [I 0, I 0, I a0.bins, I 1] #[I 0, I 0, I a0.bins, I 1] sizeOf44 fun _ w0 => nT ?_
  have hbk := hg.byt hnd; rw [hst_q_4] at hbk; unfold bytOK at hbk; simp only [Stage.v] at hbk; have hin : inP (⟨0, 0, a0.bins, 1⟩ : Rct) := by unfold inP; dsimp only; omega
  have hcn : x.L.cnt nd = nx * ny + 1 := by unfold Lay.cnt; rw [hst_q_4, if_pos (show a0.v.kind = 4 from e0), hnx2, hny2]
  refine drawE [10, 11, 12, 13] [(3, ⟨l1, 0, none⟩, I 0), (3, ⟨l1, 1, none⟩, I 0), (3, ⟨l1, 2, none⟩, I a0.bins), (3, ⟨l1, 3, none⟩, I 1)] [(true, [0, 1, 2, 4, 5, 6, 7]), (true, [8]), (true, [9]), (true, [3]), (false, [10]), (false, [11]), (false, [12]), (false, [13]), (true, [14])] rfl kr ⟨cI w0 0, cI w0 0, cI w0 0, cI w0 0, trivial⟩ ?_
  have fb := w0.drew
  refine wU [0, 1, 2, 4, 5, 6, 7] <| wMul nx ny <| wAdd b0 (nx * ny) <| wY (.agg #[I 0, I 0, I a0.bins, I 1]) rfl (fun w hF => Y_loadF rfl (isAgg44 w) (sizeOf44 w) kr rfl ⟨hF 0 _ _ rfl, hF 1 _ _ rfl, hF 2 _ _ rfl, hF 3 _ _ rfl, trivial⟩) <| wO rfl ?_
  have gb := Sat.nilc fb
  refine cX call92 (p20_between b0 (b0 + (nx * ny)) (OwnT.nil (enc := Go.E.encI) (E := 3) (sz := 1) fR) om gb) ?_
  rintro _ _ ⟨_, _, _, _, rfl, y2, z0⟩
  have hn_az_337 := y2.len; have hl_az_337 := y2.le; simp only [List.length_append, List.length_nil, btw_len] at hn_az_337
  refine nilO ⟨⟨cI z0 1, cI z0 1, cI z0 1, cI z0 1, trivial⟩, ?_⟩
  refine wO rfl ?_
  have ib := (z0.picks [5, 1])
  refine cX call91 (p20_task (hx.of_mem (mem_flat1 5 (by rfl))) y2 nd 2 (⟨0, 0, a0.bins, 1⟩ : Rct) hg hx2 hnd hin om ib.flat2) ?_
  rintro _ _ ⟨m1, g4, rfl, jb, kb, lb⟩
  have mb := lb.unflat2
  refine nilO ⟨dA, ?_⟩
  refine wO rfl <| sBS mb (encTask m1).toArray runUnderlying39 sizeOf46 zeroValue46 fun _ _ ob => nilO ⟨dA, ?_⟩
  refine wO rfl <| sApp (nb := 88) ob hOzs 5 (RdT.blk (enc := encTask) (sz := 9) (xs := [m1]) fR 1 0 rfl rfl rfl om) underlying39 (i := Tryz.t46) kr fR fun pb qb h4 _ rb sb => nilO ⟨dA, ?_⟩
  refine wU [14] <| wN <| tN <| sR <| pu2 <| zE <| retT [.slice pb (nzs + 1) qb] ?_
  have tb := ((sb.picks [4, 2, 5]).drops [3, 4, 4, 4])
  have ub : Sat W _ (h4 :: (g4 ++ Gzs) :: [(b, .cells (encLayM x).toArray 97 (0, 0))] :: H :: F) := Sat.perm (show Sat W _ (h4 :: g4 :: Gzs :: [(b, .cells (encLayM x).toArray 97 (0, 0))] :: H :: F) from tb) (by simp)
  have hmt : m1.v = x.L.mergeT nd := by rw [kb]; unfold Lay.mergeT btwV; rw [hst_q_4, hnx2, hny2, <- hfr, hf1, show (b0 + nx * ny - b0).toNat = (nx * ny).toNat by omega]; rfl
  have hz : ((zs ++ [m1])).map Task.v = x.L.tasks nd := by unfold Lay.tasks; rw [hst_q_4, if_pos (show a0.v.kind = 4 from e0), hnx2, hny2, List.map_append, hE, hi9]; simp only [List.map_cons, List.map_nil]; rw [hmt]
  exact ⟨_, _, _, _, _, _, rfl, rb, (fun z hz => by
    rcases List.mem_append.1 hz with h | h
    ·exact (hDzs z h).of_mem mS
    ·simp only [List.mem_singleton] at h; subst h; exact jb.of_mem mS), hz, ub⟩
 refine kT <| seqE <| blockE <| sR <| pu2 <| nT <| seqE <| drawP [13, 17, 18] [(1, ⟨c0, 0, none⟩, I ((x.L.cut nd).w)), (3, ⟨c0, 1, none⟩, I ((x.L.cut nd).h)), (7, ⟨b, 4, none⟩, I x.tw), (11, ⟨b, 5, none⟩, I x.th)] (Plan.sts [0, 2, 4, 5, 6, 8, 9, 10, 12] <| Plan.sts [1] <| Plan.sts [3] <| Plan.sts [7] <| Plan.sts [11] <| .fk 13 17 (Plan.sts [14] <| Plan.sts [15] <| Plan.sts [16] <| .ef 17 <| .ef 18 <| Plan.sts [19] <| .fin) (.ef 13 <| Plan.sts [14] <| Plan.sts [15] <| Plan.sts [16] <| .ef 18 <| Plan.sts [19] <| .fin)) rfl kr ⟨cI f0 2, cI f0 2, cI f0 3, cI f0 3, trivial⟩ ?_
 have i4 := f0.drew
 refine qU [0, 2, 4, 5, 6, 8, 9, 10, 12] <| qLd (I ((x.L.cut nd).w)) 0 isAgg3 <| qLd (I ((x.L.cut nd).h)) 1 isAgg3 <| qLd (I x.tw) 2 isAgg3 <| qLd (I x.th) 3 isAgg3 <| qF ?_ ?_
 ·refine qO rfl <| cR call89 (p5_tile ((x.L.cut nd).w) ((x.L.cut nd).h) x.tw x.th (i : Int) hfi ⟨om, by rw [<- hnx, <- hny]; omega⟩ i4.flat) ?_
  intro _ vb
  refine nilO ⟨dA, ?_⟩
  refine qU [14] <| qU [15] <| qU [16] <| qO rfl <| sAlloc vb zeroValue44 fun wb _ xb => nilO ⟨dA, ?_⟩
  refine qO rfl ?_
  refine sT xb 0 0 (.agg #[I ((tileV ((x.L.cut nd).w) ((x.L.cut nd).h) x.tw x.th (i : Int)).x0), I ((tileV ((x.L.cut nd).w) ((x.L.cut nd).h) x.tw x.th (i : Int)).y0), I ((tileV ((x.L.cut nd).w) ((x.L.cut nd).h) x.tw x.th (i : Int)).x1), I ((tileV ((x.L.cut nd).w) ((x.L.cut nd).h) x.tw x.th (i : Int)).y1)]) [I ((tileV ((x.L.cut nd).w) ((x.L.cut nd).h) x.tw x.th (i : Int)).x0), I ((tileV ((x.L.cut nd).w) ((x.L.cut nd).h) x.tw x.th (i : Int)).y0), I ((tileV ((x.L.cut nd).w) ((x.L.cut nd).h) x.tw x.th (i : Int)).x1), I ((tileV ((x.L.cut nd).w) ((x.L.cut nd).h) x.tw x.th (i : Int)).y1)] #[I ((tileV ((x.L.cut nd).w) ((x.L.cut nd).h) x.tw x.th (i : Int)).x0), I ((tileV ((x.L.cut nd).w) ((x.L.cut nd).h) x.tw x.th (i : Int)).y0), I ((tileV ((x.L.cut nd).w) ((x.L.cut nd).h) x.tw x.th (i : Int)).x1), I ((tileV ((x.L.cut nd).w) ((x.L.cut nd).h) x.tw x.th (i : Int)).y1)] sizeOf44 ?_
  intro yb zb
  refine nilO ⟨dA, ?_⟩
  refine qU [19] <| qN ?_
  obtain ⟨r, hr⟩ : ∃ z : Rct, z = (tileV (x.L.cut nd).w (x.L.cut nd).h x.tw x.th (i : Int)) := ⟨_, rfl⟩
  have z2 : Sat W yb ([(wb, .cells (encRct r).toArray 44 (0, 0))] :: Gzs :: czs :: [(c0, .cells #[I ((x.L.cut nd).w), I ((x.L.cut nd).h), I ((x.L.cut nd).max_)] 54 (0, 0))] :: [(b, .cells (encLayM x).toArray 97 (0, 0))] :: [(d0, .cells (encStage a0).toArray 38 (0, 0))] :: H :: F) := by rw [hr]; exact zb
  have hin : inP r := by rw [hr]; exact (tile_in hfi om (by rw [<- hnx, <- hny]; omega)).1
  have hrt : x.L.tile nd (i : Int) = r := by rw [hr]; rfl
  refine tN <| sR <| pu1 <| lA z2 5 0 18 (isAgg38 _) (sizeOf38 _) <| lA z2 0 0 4 (isAgg44 _) (sizeOf44 _) ?_
  have ac := (z2.pick 4 rfl)
  refine cX call90 (p20_needs (hx.of_mem (mem_flat1 5 (by rfl))) (q := a0) ⟨(RdT.flat (hok_q_4.weights.up 5 (by rfl))), (RdT.flat (hok_q_4.row.up 5 (by rfl))), (RdT.flat (hok_q_4.col.up 5 (by rfl))), (RdT.flat (hok_q_4.x.up 5 (by rfl))), (fun z hz => (hok_q_4.xD z hz).of_mem (mem_flat1 5 (by rfl))), (RdT.flat (hok_q_4.y.up 5 (by rfl))), (fun z hz => (hok_q_4.yD z hz).of_mem (mem_flat1 5 (by rfl))), (RdT.flat (hok_q_4.ops.up 5 (by rfl)))⟩ r hg hx2 hW hsq ac.flat1) ?_
  rintro _ _ ⟨_, _, _, _, rfl, p0, bc⟩
  have j0 := bc.unflat2; have hn_az_50 := p0.len; have hl_az_50 := p0.le
  have hnl_az_50 := flat_len2 (s := a0.v) (r := r) hg (srcs a0.v) (fun y hy => (hsq y hy).2.2); have hnm_az_50 := srcs_len a0.v; unfold Lay.needs at hn_az_50
  refine pu1 <| zQ <| pu1 <| sL j0 6 0 (I a0.kind) (isAgg3 _) <| pu1 <| nT <| cE a0.kind 5 (fun q0 => ?_) (fun q0 => ?_)
  rotate_left
  ·refine kT <| rE <| pu4 <| lA j0 2 0 4 (isAgg44 _) (sizeOf44 _) <| pu1 ?_
   have cc := (j0.picks [1, 1])
   refine cX call91 (p20_task (hx.of_mem (mem_flat1 5 (by rfl))) p0 nd 1 r hg hx2 hnd hin om cc.flat2) ?_
   rintro _ _ ⟨n1, a3, rfl, dc, ec, fc⟩
   refine sBS (Sat.unflat2 fc) (encTask n1).toArray runUnderlying39 sizeOf46 zeroValue46 fun _ _ hc => sApp (nb := 88) hc hOzs 5 (RdT.blk (enc := encTask) (sz := 9) (xs := [n1]) fR 1 0 rfl rfl rfl om) underlying39 (i := Tryz.t46) kr fR fun ic jc b3 _ kc lc => pu1 <| nilO ?_
   have how : x.L.own nd (i : Int) = [] := by unfold Lay.own; rw [hst_q_4, if_neg (show ¬ a0.v.kind = 5 from q0)]
   have hpt : x.L.part nd = 1 := by unfold Lay.part; rw [hst_q_4, if_pos (show a0.v.kind = 4 from e0)]
   have htv : n1.v = x.L.tileT nd (i : Int) := by rw [ec]; unfold Lay.tileT; rw [hrt, hpt, hst_q_4, how]; first | rfl | simp only [List.append_assoc, List.append_nil, List.nil_append]
   refine bN <| tN <| rE <| sAdd (i : Int) 1 <| pu1 <| nT ?_
   have mc := ((lc.picks [6, 6, 6, 4]).drops [4, 5])
   exact ⟨(i + 1, (zs ++ [n1]), ic, (nzs + 1), jc, b3, (a3 ++ Gzs)), od, alA, (Sat.perm (cs' := (a3 ++ Gzs) :: (b3 :: [(c0, .cells #[I ((x.L.cut nd).w), I ((x.L.cut nd).h), I ((x.L.cut nd).max_)] 54 (0, 0))] :: [(b, .cells (encLayM x).toArray 97 (0, 0))] :: [(d0, .cells (encStage a0).toArray 38 (0, 0))] :: H :: F)) (show Sat W _ (a3 :: Gzs :: b3 :: [(c0, .cells #[I ((x.L.cut nd).w), I ((x.L.cut nd).h), I ((x.L.cut nd).max_)] 54 (0, 0))] :: [(b, .cells (encLayM x).toArray 97 (0, 0))] :: [(d0, .cells (encStage a0).toArray 38 (0, 0))] :: H :: F) from mc) (by simp)), om, (by rw [List.map_append, hE, upto_map_snoc]; simp only [List.map_cons, List.map_nil]; rw [htv]), (by simp; omega), kc, (by
     intro z hz
     rcases List.mem_append.1 hz with h | h
     ·exact (hDzs z h).of_mem mS
     ·simp only [List.mem_singleton] at h; subst h; exact (dc.of_mem mS))⟩
  refine seqE <| seqE ?_
  have htm : ((i : Int)).tmod nx = (i : Int) % nx := Int.tmod_eq_emod_of_nonneg om
  refine rE <| pu2 <| sRem (i : Int) nx <| pu1 <| nT <| cD (((i : Int).tmod nx) > 0) (fun oc => ?_) (fun oc => ?_)
  rotate_left
  ·refine kS <| pu3 <| nT <| cD ((i : Int) >= nx) (fun pc => ?_) (fun pc => ?_)
   rotate_left
   ·refine kT <| rE <| pu4 <| lA j0 2 0 4 (isAgg44 _) (sizeOf44 _) <| pu1 ?_
    have qc := (j0.picks [1, 1])
    refine cX call91 (p20_task (hx.of_mem (mem_flat1 5 (by rfl))) p0 nd 1 r hg hx2 hnd hin om qc.flat2) ?_
    rintro _ _ ⟨o1, c3, rfl, rc, sc, tc⟩
    refine sBS (Sat.unflat2 tc) (encTask o1).toArray runUnderlying39 sizeOf46 zeroValue46 fun _ _ vc => sApp (nb := 88) vc hOzs 5 (RdT.blk (enc := encTask) (sz := 9) (xs := [o1]) fR 1 0 rfl rfl rfl om) underlying39 (i := Tryz.t46) kr fR fun wc xc d3 _ yc zc => pu1 <| nilO ?_
    have how : x.L.own nd (i : Int) = ([] : List Int) ++ ([] : List Int) := by unfold Lay.own; rw [hst_q_4, if_pos (show a0.v.kind = 5 from q0), hnx2, <- hfr, hf1, if_neg (by rw [<- htm]; omega), if_neg om]
    have hpt : x.L.part nd = 1 := by unfold Lay.part; rw [hst_q_4, if_pos (show a0.v.kind = 4 from e0)]
    have htv : o1.v = x.L.tileT nd (i : Int) := by rw [sc]; unfold Lay.tileT; rw [hrt, hpt, hst_q_4, how]; first | rfl | simp only [List.append_assoc, List.append_nil, List.nil_append]
    refine bN <| tN <| rE <| sAdd (i : Int) 1 <| pu1 <| nT ?_
    have ad := ((zc.picks [6, 6, 6, 4]).drops [4, 5])
    exact ⟨(i + 1, (zs ++ [o1]), wc, (nzs + 1), xc, d3, (c3 ++ Gzs)), od, alA, (Sat.perm (cs' := (c3 ++ Gzs) :: (d3 :: [(c0, .cells #[I ((x.L.cut nd).w), I ((x.L.cut nd).h), I ((x.L.cut nd).max_)] 54 (0, 0))] :: [(b, .cells (encLayM x).toArray 97 (0, 0))] :: [(d0, .cells (encStage a0).toArray 38 (0, 0))] :: H :: F)) (show Sat W _ (c3 :: Gzs :: d3 :: [(c0, .cells #[I ((x.L.cut nd).w), I ((x.L.cut nd).h), I ((x.L.cut nd).max_)] 54 (0, 0))] :: [(b, .cells (encLayM x).toArray 97 (0, 0))] :: [(d0, .cells (encStage a0).toArray 38 (0, 0))] :: H :: F) from ad) (by simp)), om, (by rw [List.map_append, hE, upto_map_snoc]; simp only [List.map_cons, List.map_nil]; rw [htv]), (by simp; omega), yc, (by
      intro z hz
      rcases List.mem_append.1 hz with h | h
      ·exact (hDzs z h).of_mem mS
      ·simp only [List.mem_singleton] at h; subst h; exact (rc.of_mem mS))⟩
   refine rE <| pu3 <| sAdd b0 (i : Int) <| pu1 <| sSub (b0 + (i : Int)) nx <| sBS j0 #[I ((b0 + (i : Int)) - nx)] runUnderlying22 sizeOf3 zeroValue3 fun _ _ cd => sApp (nb := 8) cd p0 1 (RdT.blk (enc := Go.E.encI) (sz := 1) (xs := [((b0 + (i : Int)) - nx)]) fR 1 0 rfl rfl rfl om) underlying22 (i := Tryz.t3) kr fR fun _ _ _ _ dd j4 => pu1 <| nT <| rE <| pu4 <| lA j4 3 0 4 (isAgg44 _) (sizeOf44 _) <| pu1 ?_
   have ed := (j4.picks [2, 2])
   refine cX call91 (p20_task (hx.of_mem (mem_flat1 6 (by rfl))) dd nd 1 r hg hx2 hnd hin om ed.flat2) ?_
   rintro _ _ ⟨q1, e3, rfl, fd, gd, hd⟩
   refine sBS (Sat.unflat2 hd) (encTask q1).toArray runUnderlying39 sizeOf46 zeroValue46 fun _ _ kd => sApp (nb := 88) kd hOzs 6 (RdT.blk (enc := encTask) (sz := 9) (xs := [q1]) fR 1 0 rfl rfl rfl om) underlying39 (i := Tryz.t46) kr fR fun ld md f3 _ pd qd => pu1 <| nilO ?_
   have how : x.L.own nd (i : Int) = ([] : List Int) ++ [b0 + (i : Int) - nx] := by unfold Lay.own; rw [hst_q_4, if_pos (show a0.v.kind = 5 from q0), hnx2, <- hfr, hf1, if_neg (by rw [<- htm]; omega), if_pos om]
   have hpt : x.L.part nd = 1 := by unfold Lay.part; rw [hst_q_4, if_pos (show a0.v.kind = 4 from e0)]
   have htv : q1.v = x.L.tileT nd (i : Int) := by rw [gd]; unfold Lay.tileT; rw [hrt, hpt, hst_q_4, how]; first | rfl | simp only [List.append_assoc, List.append_nil, List.nil_append]
   refine bN <| tN <| rE <| sAdd (i : Int) 1 <| pu1 <| nT ?_
   have rd := ((qd.picks [7, 7, 7, 4]).drops [4, 5, 5])
   exact ⟨(i + 1, (zs ++ [q1]), ld, (nzs + 1), md, f3, (e3 ++ Gzs)), od, alA, (Sat.perm (cs' := (e3 ++ Gzs) :: (f3 :: [(c0, .cells #[I ((x.L.cut nd).w), I ((x.L.cut nd).h), I ((x.L.cut nd).max_)] 54 (0, 0))] :: [(b, .cells (encLayM x).toArray 97 (0, 0))] :: [(d0, .cells (encStage a0).toArray 38 (0, 0))] :: H :: F)) (show Sat W _ (e3 :: Gzs :: f3 :: [(c0, .cells #[I ((x.L.cut nd).w), I ((x.L.cut nd).h), I ((x.L.cut nd).max_)] 54 (0, 0))] :: [(b, .cells (encLayM x).toArray 97 (0, 0))] :: [(d0, .cells (encStage a0).toArray 38 (0, 0))] :: H :: F) from rd) (by simp)), om, (by rw [List.map_append, hE, upto_map_snoc]; simp only [List.map_cons, List.map_nil]; rw [htv]), (by simp; omega), pd, (by
     intro z hz
     rcases List.mem_append.1 hz with h | h
     ·exact (hDzs z h).of_mem mS
     ·simp only [List.mem_singleton] at h; subst h; exact (fd.of_mem mS))⟩
  refine rE <| pu3 <| sAdd b0 (i : Int) <| sSub (b0 + (i : Int)) 1 <| sBS j0 #[I ((b0 + (i : Int)) - 1)] runUnderlying22 sizeOf3 zeroValue3 fun _ _ td => sApp (nb := 8) td p0 1 (RdT.blk (enc := Go.E.encI) (sz := 1) (xs := [((b0 + (i : Int)) - 1)]) fR 1 0 rfl rfl rfl om) underlying22 (i := Tryz.t3) kr fR fun _ _ _ _ k4 g3 => pu1 <| zS <| pu3 <| nT <| cD ((i : Int) >= nx) (fun ud => ?_) (fun ud => ?_)
  rotate_left
  ·refine kT <| rE <| pu4 <| lA g3 3 0 4 (isAgg44 _) (sizeOf44 _) <| pu1 ?_
   have vd := (g3.picks [2, 2])
   refine cX call91 (p20_task (hx.of_mem (mem_flat1 6 (by rfl))) k4 nd 1 r hg hx2 hnd hin om vd.flat2) ?_
   rintro _ _ ⟨r1, h3, rfl, wd, xd, yd⟩
   refine sBS (Sat.unflat2 yd) (encTask r1).toArray runUnderlying39 sizeOf46 zeroValue46 fun _ _ ae => sApp (nb := 88) ae hOzs 6 (RdT.blk (enc := encTask) (sz := 9) (xs := [r1]) fR 1 0 rfl rfl rfl om) underlying39 (i := Tryz.t46) kr fR fun be ce i3 _ de ee => pu1 <| nilO ?_
   have how : x.L.own nd (i : Int) = [b0 + (i : Int) - 1] ++ ([] : List Int) := by unfold Lay.own; rw [hst_q_4, if_pos (show a0.v.kind = 5 from q0), hnx2, <- hfr, hf1, if_pos (by rw [<- htm]; omega), if_neg om]
   have hpt : x.L.part nd = 1 := by unfold Lay.part; rw [hst_q_4, if_pos (show a0.v.kind = 4 from e0)]
   have htv : r1.v = x.L.tileT nd (i : Int) := by rw [xd]; unfold Lay.tileT; rw [hrt, hpt, hst_q_4, how]; first | rfl | simp only [List.append_assoc, List.append_nil, List.nil_append]
   refine bN <| tN <| rE <| sAdd (i : Int) 1 <| pu1 <| nT ?_
   have fe := ((ee.picks [7, 7, 7, 4]).drops [4, 5, 5])
   exact ⟨(i + 1, (zs ++ [r1]), be, (nzs + 1), ce, i3, (h3 ++ Gzs)), od, alA, (Sat.perm (cs' := (h3 ++ Gzs) :: (i3 :: [(c0, .cells #[I ((x.L.cut nd).w), I ((x.L.cut nd).h), I ((x.L.cut nd).max_)] 54 (0, 0))] :: [(b, .cells (encLayM x).toArray 97 (0, 0))] :: [(d0, .cells (encStage a0).toArray 38 (0, 0))] :: H :: F)) (show Sat W _ (h3 :: Gzs :: i3 :: [(c0, .cells #[I ((x.L.cut nd).w), I ((x.L.cut nd).h), I ((x.L.cut nd).max_)] 54 (0, 0))] :: [(b, .cells (encLayM x).toArray 97 (0, 0))] :: [(d0, .cells (encStage a0).toArray 38 (0, 0))] :: H :: F) from fe) (by simp)), om, (by rw [List.map_append, hE, upto_map_snoc]; simp only [List.map_cons, List.map_nil]; rw [htv]), (by simp; omega), de, (by
     intro z hz
     rcases List.mem_append.1 hz with h | h
     ·exact (hDzs z h).of_mem mS
     ·simp only [List.mem_singleton] at h; subst h; exact (wd.of_mem mS))⟩
  refine rE <| pu3 <| sAdd b0 (i : Int) <| pu1 <| sSub (b0 + (i : Int)) nx <| sBS g3 #[I ((b0 + (i : Int)) - nx)] runUnderlying22 sizeOf3 zeroValue3 fun _ _ he => sApp (nb := 8) he k4 2 (RdT.blk (enc := Go.E.encI) (sz := 1) (xs := [((b0 + (i : Int)) - nx)]) fR 1 0 rfl rfl rfl om) underlying22 (i := Tryz.t3) kr fR fun _ _ _ _ ie l4 => pu1 <| nT <| rE <| pu4 <| lA l4 4 0 4 (isAgg44 _) (sizeOf44 _) <| pu1 ?_
  have je := (l4.picks [3, 3])
  refine cX call91 (p20_task (hx.of_mem (mem_flat1 7 (by rfl))) ie nd 1 r hg hx2 hnd hin om je.flat2) ?_
  rintro _ _ ⟨s1, j3, rfl, ke, me, ne⟩
  refine sBS (Sat.unflat2 ne) (encTask s1).toArray runUnderlying39 sizeOf46 zeroValue46 fun _ _ pe => sApp (nb := 88) pe hOzs 7 (RdT.blk (enc := encTask) (sz := 9) (xs := [s1]) fR 1 0 rfl rfl rfl om) underlying39 (i := Tryz.t46) kr fR fun qe re k3 _ se te => pu1 <| nilO ?_
  have how : x.L.own nd (i : Int) = [b0 + (i : Int) - 1] ++ [b0 + (i : Int) - nx] := by unfold Lay.own; rw [hst_q_4, if_pos (show a0.v.kind = 5 from q0), hnx2, <- hfr, hf1, if_pos (by rw [<- htm]; omega), if_pos om]
  have hpt : x.L.part nd = 1 := by unfold Lay.part; rw [hst_q_4, if_pos (show a0.v.kind = 4 from e0)]
  have htv : s1.v = x.L.tileT nd (i : Int) := by rw [me]; unfold Lay.tileT; rw [hrt, hpt, hst_q_4, how]; first | rfl | simp only [List.append_assoc, List.append_nil, List.nil_append]
  refine bN <| tN <| rE <| sAdd (i : Int) 1 <| pu1 <| nT ?_
  have ue := ((te.picks [8, 8, 8, 4]).drops [4, 5, 5, 5])
  exact ⟨(i + 1, (zs ++ [s1]), qe, (nzs + 1), re, k3, (j3 ++ Gzs)), od, alA, (Sat.perm (cs' := (j3 ++ Gzs) :: (k3 :: [(c0, .cells #[I ((x.L.cut nd).w), I ((x.L.cut nd).h), I ((x.L.cut nd).max_)] 54 (0, 0))] :: [(b, .cells (encLayM x).toArray 97 (0, 0))] :: [(d0, .cells (encStage a0).toArray 38 (0, 0))] :: H :: F)) (show Sat W _ (j3 :: Gzs :: k3 :: [(c0, .cells #[I ((x.L.cut nd).w), I ((x.L.cut nd).h), I ((x.L.cut nd).max_)] 54 (0, 0))] :: [(b, .cells (encLayM x).toArray 97 (0, 0))] :: [(d0, .cells (encStage a0).toArray 38 (0, 0))] :: H :: F) from ue) (by simp)), om, (by rw [List.map_append, hE, upto_map_snoc]; simp only [List.map_cons, List.map_nil]; rw [htv]), (by simp; omega), se, (by
    intro z hz
    rcases List.mem_append.1 hz with h | h
    ·exact (hDzs z h).of_mem mS
    ·simp only [List.mem_singleton] at h; subst h; exact (ke.of_mem mS))⟩
 refine qO rfl <| sAlloc i4 zeroValue44 fun we _ a1 => nilO ⟨⟨cI a1 3, cI a1 3, cI a1 4, cI a1 4, trivial⟩, ?_⟩
 refine qO rfl <| cR call89 (p5_tile ((x.L.cut nd).w) ((x.L.cut nd).h) x.tw x.th (i : Int) hfi ⟨om, by rw [<- hnx, <- hny]; omega⟩ a1.flat) ?_
 intro _ xe
 refine nilO ⟨dA, ?_⟩
 refine qU [14] <| qU [15] <| qU [16] <| qO rfl ?_
 refine sT xe 0 0 (.agg #[I ((tileV ((x.L.cut nd).w) ((x.L.cut nd).h) x.tw x.th (i : Int)).x0), I ((tileV ((x.L.cut nd).w) ((x.L.cut nd).h) x.tw x.th (i : Int)).y0), I ((tileV ((x.L.cut nd).w) ((x.L.cut nd).h) x.tw x.th (i : Int)).x1), I ((tileV ((x.L.cut nd).w) ((x.L.cut nd).h) x.tw x.th (i : Int)).y1)]) [I ((tileV ((x.L.cut nd).w) ((x.L.cut nd).h) x.tw x.th (i : Int)).x0), I ((tileV ((x.L.cut nd).w) ((x.L.cut nd).h) x.tw x.th (i : Int)).y0), I ((tileV ((x.L.cut nd).w) ((x.L.cut nd).h) x.tw x.th (i : Int)).x1), I ((tileV ((x.L.cut nd).w) ((x.L.cut nd).h) x.tw x.th (i : Int)).y1)] #[I ((tileV ((x.L.cut nd).w) ((x.L.cut nd).h) x.tw x.th (i : Int)).x0), I ((tileV ((x.L.cut nd).w) ((x.L.cut nd).h) x.tw x.th (i : Int)).y0), I ((tileV ((x.L.cut nd).w) ((x.L.cut nd).h) x.tw x.th (i : Int)).x1), I ((tileV ((x.L.cut nd).w) ((x.L.cut nd).h) x.tw x.th (i : Int)).y1)] sizeOf44 ?_
 intro ye ze
 refine nilO ⟨dA, ?_⟩
 refine qU [19] <| qN ?_
 obtain ⟨r, hr⟩ : ∃ z : Rct, z = (tileV (x.L.cut nd).w (x.L.cut nd).h x.tw x.th (i : Int)) := ⟨_, rfl⟩
 have l3 : Sat W ye ([(we, .cells (encRct r).toArray 44 (0, 0))] :: Gzs :: czs :: [(c0, .cells #[I ((x.L.cut nd).w), I ((x.L.cut nd).h), I ((x.L.cut nd).max_)] 54 (0, 0))] :: [(b, .cells (encLayM x).toArray 97 (0, 0))] :: [(d0, .cells (encStage a0).toArray 38 (0, 0))] :: H :: F) := by rw [hr]; exact ze
 have hin : inP r := by rw [hr]; exact (tile_in hfi om (by rw [<- hnx, <- hny]; omega)).1
 have hrt : x.L.tile nd (i : Int) = r := by rw [hr]; rfl
 refine tN <| sR <| pu1 <| lA l3 5 0 18 (isAgg38 _) (sizeOf38 _) <| lA l3 0 0 4 (isAgg44 _) (sizeOf44 _) ?_
 have af := (l3.pick 4 rfl)
 refine cX call90 (p20_needs (hx.of_mem (mem_flat1 5 (by rfl))) (q := a0) ⟨(RdT.flat (hok_q_4.weights.up 5 (by rfl))), (RdT.flat (hok_q_4.row.up 5 (by rfl))), (RdT.flat (hok_q_4.col.up 5 (by rfl))), (RdT.flat (hok_q_4.x.up 5 (by rfl))), (fun z hz => (hok_q_4.xD z hz).of_mem (mem_flat1 5 (by rfl))), (RdT.flat (hok_q_4.y.up 5 (by rfl))), (fun z hz => (hok_q_4.yD z hz).of_mem (mem_flat1 5 (by rfl))), (RdT.flat (hok_q_4.ops.up 5 (by rfl)))⟩ r hg hx2 hW hsq af.flat1) ?_
 rintro _ _ ⟨_, _, _, _, rfl, r0, bf⟩
 have k0 := bf.unflat2; have hn_az_194 := r0.len; have hl_az_194 := r0.le
 have hnl_az_194 := flat_len2 (s := a0.v) (r := r) hg (srcs a0.v) (fun y hy => (hsq y hy).2.2); have hnm_az_194 := srcs_len a0.v; unfold Lay.needs at hn_az_194
 refine pu1 <| zQ <| pu1 <| sL k0 6 0 (I a0.kind) (isAgg3 _) <| pu1 <| nT <| cE a0.kind 5 (fun s0 => ?_) (fun s0 => ?_)
 rotate_left
 ·refine kT <| rE <| pu4 <| lA k0 2 0 4 (isAgg44 _) (sizeOf44 _) <| pu1 ?_
  have cf := (k0.picks [1, 1])
  refine cX call91 (p20_task (hx.of_mem (mem_flat1 5 (by rfl))) r0 nd 1 r hg hx2 hnd hin om cf.flat2) ?_
  rintro _ _ ⟨t1, m3, rfl, df, ff, gf⟩
  refine sBS (Sat.unflat2 gf) (encTask t1).toArray runUnderlying39 sizeOf46 zeroValue46 fun _ _ jf => sApp (nb := 88) jf hOzs 5 (RdT.blk (enc := encTask) (sz := 9) (xs := [t1]) fR 1 0 rfl rfl rfl om) underlying39 (i := Tryz.t46) kr fR fun kf lf n3 _ mf nf => pu1 <| nilO ?_
  have how : x.L.own nd (i : Int) = [] := by unfold Lay.own; rw [hst_q_4, if_neg (show ¬ a0.v.kind = 5 from s0)]
  have hpt : x.L.part nd = 1 := by unfold Lay.part; rw [hst_q_4, if_pos (show a0.v.kind = 4 from e0)]
  have htv : t1.v = x.L.tileT nd (i : Int) := by rw [ff]; unfold Lay.tileT; rw [hrt, hpt, hst_q_4, how]; first | rfl | simp only [List.append_assoc, List.append_nil, List.nil_append]
  refine bN <| tN <| rE <| sAdd (i : Int) 1 <| pu1 <| nT ?_
  have pf := ((nf.picks [6, 6, 6, 4]).drops [4, 5])
  exact ⟨(i + 1, (zs ++ [t1]), kf, (nzs + 1), lf, n3, (m3 ++ Gzs)), od, alA, (Sat.perm (cs' := (m3 ++ Gzs) :: (n3 :: [(c0, .cells #[I ((x.L.cut nd).w), I ((x.L.cut nd).h), I ((x.L.cut nd).max_)] 54 (0, 0))] :: [(b, .cells (encLayM x).toArray 97 (0, 0))] :: [(d0, .cells (encStage a0).toArray 38 (0, 0))] :: H :: F)) (show Sat W _ (m3 :: Gzs :: n3 :: [(c0, .cells #[I ((x.L.cut nd).w), I ((x.L.cut nd).h), I ((x.L.cut nd).max_)] 54 (0, 0))] :: [(b, .cells (encLayM x).toArray 97 (0, 0))] :: [(d0, .cells (encStage a0).toArray 38 (0, 0))] :: H :: F) from pf) (by simp)), om, (by rw [List.map_append, hE, upto_map_snoc]; simp only [List.map_cons, List.map_nil]; rw [htv]), (by simp; omega), mf, (by
    intro z hz
    rcases List.mem_append.1 hz with h | h
    ·exact (hDzs z h).of_mem mS
    ·simp only [List.mem_singleton] at h; subst h; exact (df.of_mem mS))⟩
 refine seqE <| seqE ?_
 have htm : ((i : Int)).tmod nx = (i : Int) % nx := Int.tmod_eq_emod_of_nonneg om
 refine rE <| pu2 <| sRem (i : Int) nx <| pu1 <| nT <| cD (((i : Int).tmod nx) > 0) (fun rf => ?_) (fun rf => ?_)
 rotate_left
 ·refine kS <| pu3 <| nT <| cD ((i : Int) >= nx) (fun sf => ?_) (fun sf => ?_)
  rotate_left
  ·refine kT <| rE <| pu4 <| lA k0 2 0 4 (isAgg44 _) (sizeOf44 _) <| pu1 ?_
   have tf := (k0.picks [1, 1])
   refine cX call91 (p20_task (hx.of_mem (mem_flat1 5 (by rfl))) r0 nd 1 r hg hx2 hnd hin om tf.flat2) ?_
   rintro _ _ ⟨u1, o3, rfl, uf, vf, wf⟩
   refine sBS (Sat.unflat2 wf) (encTask u1).toArray runUnderlying39 sizeOf46 zeroValue46 fun _ _ yf => sApp (nb := 88) yf hOzs 5 (RdT.blk (enc := encTask) (sz := 9) (xs := [u1]) fR 1 0 rfl rfl rfl om) underlying39 (i := Tryz.t46) kr fR fun zf ag p3 _ bg cg => pu1 <| nilO ?_
   have how : x.L.own nd (i : Int) = ([] : List Int) ++ ([] : List Int) := by unfold Lay.own; rw [hst_q_4, if_pos (show a0.v.kind = 5 from s0), hnx2, <- hfr, hf1, if_neg (by rw [<- htm]; omega), if_neg om]
   have hpt : x.L.part nd = 1 := by unfold Lay.part; rw [hst_q_4, if_pos (show a0.v.kind = 4 from e0)]
   have htv : u1.v = x.L.tileT nd (i : Int) := by rw [vf]; unfold Lay.tileT; rw [hrt, hpt, hst_q_4, how]; first | rfl | simp only [List.append_assoc, List.append_nil, List.nil_append]
   refine bN <| tN <| rE <| sAdd (i : Int) 1 <| pu1 <| nT ?_
   have dg := ((cg.picks [6, 6, 6, 4]).drops [4, 5])
   exact ⟨(i + 1, (zs ++ [u1]), zf, (nzs + 1), ag, p3, (o3 ++ Gzs)), od, alA, (Sat.perm (cs' := (o3 ++ Gzs) :: (p3 :: [(c0, .cells #[I ((x.L.cut nd).w), I ((x.L.cut nd).h), I ((x.L.cut nd).max_)] 54 (0, 0))] :: [(b, .cells (encLayM x).toArray 97 (0, 0))] :: [(d0, .cells (encStage a0).toArray 38 (0, 0))] :: H :: F)) (show Sat W _ (o3 :: Gzs :: p3 :: [(c0, .cells #[I ((x.L.cut nd).w), I ((x.L.cut nd).h), I ((x.L.cut nd).max_)] 54 (0, 0))] :: [(b, .cells (encLayM x).toArray 97 (0, 0))] :: [(d0, .cells (encStage a0).toArray 38 (0, 0))] :: H :: F) from dg) (by simp)), om, (by rw [List.map_append, hE, upto_map_snoc]; simp only [List.map_cons, List.map_nil]; rw [htv]), (by simp; omega), bg, (by
     intro z hz
     rcases List.mem_append.1 hz with h | h
     ·exact (hDzs z h).of_mem mS
     ·simp only [List.mem_singleton] at h; subst h; exact (uf.of_mem mS))⟩
  refine rE <| pu3 <| sAdd b0 (i : Int) <| pu1 <| sSub (b0 + (i : Int)) nx <| sBS k0 #[I ((b0 + (i : Int)) - nx)] runUnderlying22 sizeOf3 zeroValue3 fun _ _ fg => sApp (nb := 8) fg r0 1 (RdT.blk (enc := Go.E.encI) (sz := 1) (xs := [((b0 + (i : Int)) - nx)]) fR 1 0 rfl rfl rfl om) underlying22 (i := Tryz.t3) kr fR fun _ _ _ _ gg m4 => pu1 <| nT <| rE <| pu4 <| lA m4 3 0 4 (isAgg44 _) (sizeOf44 _) <| pu1 ?_
  have ig := (m4.picks [2, 2])
  refine cX call91 (p20_task (hx.of_mem (mem_flat1 6 (by rfl))) gg nd 1 r hg hx2 hnd hin om ig.flat2) ?_
  rintro _ _ ⟨v1, q3, rfl, jg, kg, lg⟩
  refine sBS (Sat.unflat2 lg) (encTask v1).toArray runUnderlying39 sizeOf46 zeroValue46 fun _ _ ng => sApp (nb := 88) ng hOzs 6 (RdT.blk (enc := encTask) (sz := 9) (xs := [v1]) fR 1 0 rfl rfl rfl om) underlying39 (i := Tryz.t46) kr fR fun og pg r3 _ qg rg => pu1 <| nilO ?_
  have how : x.L.own nd (i : Int) = ([] : List Int) ++ [b0 + (i : Int) - nx] := by unfold Lay.own; rw [hst_q_4, if_pos (show a0.v.kind = 5 from s0), hnx2, <- hfr, hf1, if_neg (by rw [<- htm]; omega), if_pos om]
  have hpt : x.L.part nd = 1 := by unfold Lay.part; rw [hst_q_4, if_pos (show a0.v.kind = 4 from e0)]
  have htv : v1.v = x.L.tileT nd (i : Int) := by rw [kg]; unfold Lay.tileT; rw [hrt, hpt, hst_q_4, how]; first | rfl | simp only [List.append_assoc, List.append_nil, List.nil_append]
  refine bN <| tN <| rE <| sAdd (i : Int) 1 <| pu1 <| nT ?_
  have sg := ((rg.picks [7, 7, 7, 4]).drops [4, 5, 5])
  exact ⟨(i + 1, (zs ++ [v1]), og, (nzs + 1), pg, r3, (q3 ++ Gzs)), od, alA, (Sat.perm (cs' := (q3 ++ Gzs) :: (r3 :: [(c0, .cells #[I ((x.L.cut nd).w), I ((x.L.cut nd).h), I ((x.L.cut nd).max_)] 54 (0, 0))] :: [(b, .cells (encLayM x).toArray 97 (0, 0))] :: [(d0, .cells (encStage a0).toArray 38 (0, 0))] :: H :: F)) (show Sat W _ (q3 :: Gzs :: r3 :: [(c0, .cells #[I ((x.L.cut nd).w), I ((x.L.cut nd).h), I ((x.L.cut nd).max_)] 54 (0, 0))] :: [(b, .cells (encLayM x).toArray 97 (0, 0))] :: [(d0, .cells (encStage a0).toArray 38 (0, 0))] :: H :: F) from sg) (by simp)), om, (by rw [List.map_append, hE, upto_map_snoc]; simp only [List.map_cons, List.map_nil]; rw [htv]), (by simp; omega), qg, (by
    intro z hz
    rcases List.mem_append.1 hz with h | h
    ·exact (hDzs z h).of_mem mS
    ·simp only [List.mem_singleton] at h; subst h; exact (jg.of_mem mS))⟩
 refine rE <| pu3 <| sAdd b0 (i : Int) <| sSub (b0 + (i : Int)) 1 <| sBS k0 #[I ((b0 + (i : Int)) - 1)] runUnderlying22 sizeOf3 zeroValue3 fun _ _ ug => sApp (nb := 8) ug r0 1 (RdT.blk (enc := Go.E.encI) (sz := 1) (xs := [((b0 + (i : Int)) - 1)]) fR 1 0 rfl rfl rfl om) underlying22 (i := Tryz.t3) kr fR fun _ _ _ _ n4 s3 => pu1 <| zS <| pu3 <| nT <| cD ((i : Int) >= nx) (fun vg => ?_) (fun vg => ?_)
 rotate_left
 ·refine kT <| rE <| pu4 <| lA s3 3 0 4 (isAgg44 _) (sizeOf44 _) <| pu1 ?_
  have wg := (s3.picks [2, 2])
  refine cX call91 (p20_task (hx.of_mem (mem_flat1 6 (by rfl))) n4 nd 1 r hg hx2 hnd hin om wg.flat2) ?_
  rintro _ _ ⟨w1, u3, rfl, xg, yg, zg⟩
  refine sBS (Sat.unflat2 zg) (encTask w1).toArray runUnderlying39 sizeOf46 zeroValue46 fun _ _ bh => sApp (nb := 88) bh hOzs 6 (RdT.blk (enc := encTask) (sz := 9) (xs := [w1]) fR 1 0 rfl rfl rfl om) underlying39 (i := Tryz.t46) kr fR fun ch dh v3 _ eh fh => pu1 <| nilO ?_
  have how : x.L.own nd (i : Int) = [b0 + (i : Int) - 1] ++ ([] : List Int) := by unfold Lay.own; rw [hst_q_4, if_pos (show a0.v.kind = 5 from s0), hnx2, <- hfr, hf1, if_pos (by rw [<- htm]; omega), if_neg om]
  have hpt : x.L.part nd = 1 := by unfold Lay.part; rw [hst_q_4, if_pos (show a0.v.kind = 4 from e0)]
  have htv : w1.v = x.L.tileT nd (i : Int) := by rw [yg]; unfold Lay.tileT; rw [hrt, hpt, hst_q_4, how]; first | rfl | simp only [List.append_assoc, List.append_nil, List.nil_append]
  refine bN <| tN <| rE <| sAdd (i : Int) 1 <| pu1 <| nT ?_
  have gh := ((fh.picks [7, 7, 7, 4]).drops [4, 5, 5])
  exact ⟨(i + 1, (zs ++ [w1]), ch, (nzs + 1), dh, v3, (u3 ++ Gzs)), od, alA, (Sat.perm (cs' := (u3 ++ Gzs) :: (v3 :: [(c0, .cells #[I ((x.L.cut nd).w), I ((x.L.cut nd).h), I ((x.L.cut nd).max_)] 54 (0, 0))] :: [(b, .cells (encLayM x).toArray 97 (0, 0))] :: [(d0, .cells (encStage a0).toArray 38 (0, 0))] :: H :: F)) (show Sat W _ (u3 :: Gzs :: v3 :: [(c0, .cells #[I ((x.L.cut nd).w), I ((x.L.cut nd).h), I ((x.L.cut nd).max_)] 54 (0, 0))] :: [(b, .cells (encLayM x).toArray 97 (0, 0))] :: [(d0, .cells (encStage a0).toArray 38 (0, 0))] :: H :: F) from gh) (by simp)), om, (by rw [List.map_append, hE, upto_map_snoc]; simp only [List.map_cons, List.map_nil]; rw [htv]), (by simp; omega), eh, (by
    intro z hz
    rcases List.mem_append.1 hz with h | h
    ·exact (hDzs z h).of_mem mS
    ·simp only [List.mem_singleton] at h; subst h; exact (xg.of_mem mS))⟩
 refine rE <| pu3 <| sAdd b0 (i : Int) <| pu1 <| sSub (b0 + (i : Int)) nx <| sBS s3 #[I ((b0 + (i : Int)) - nx)] runUnderlying22 sizeOf3 zeroValue3 fun _ _ ih => sApp (nb := 8) ih n4 2 (RdT.blk (enc := Go.E.encI) (sz := 1) (xs := [((b0 + (i : Int)) - nx)]) fR 1 0 rfl rfl rfl om) underlying22 (i := Tryz.t3) kr fR fun _ _ _ _ jh o4 => pu1 <| nT <| rE <| pu4 <| lA o4 4 0 4 (isAgg44 _) (sizeOf44 _) <| pu1 ?_
 have kh := (o4.picks [3, 3])
 refine cX call91 (p20_task (hx.of_mem (mem_flat1 7 (by rfl))) jh nd 1 r hg hx2 hnd hin om kh.flat2) ?_
 rintro _ _ ⟨z1, w3, rfl, lh, mh, nh⟩
 refine sBS (Sat.unflat2 nh) (encTask z1).toArray runUnderlying39 sizeOf46 zeroValue46 fun _ _ ph => sApp (nb := 88) ph hOzs 7 (RdT.blk (enc := encTask) (sz := 9) (xs := [z1]) fR 1 0 rfl rfl rfl om) underlying39 (i := Tryz.t46) kr fR fun qh rh x3 _ sh uh => pu1 <| nilO ?_
 have how : x.L.own nd (i : Int) = [b0 + (i : Int) - 1] ++ [b0 + (i : Int) - nx] := by unfold Lay.own; rw [hst_q_4, if_pos (show a0.v.kind = 5 from s0), hnx2, <- hfr, hf1, if_pos (by rw [<- htm]; omega), if_pos om]
 have hpt : x.L.part nd = 1 := by unfold Lay.part; rw [hst_q_4, if_pos (show a0.v.kind = 4 from e0)]
 have htv : z1.v = x.L.tileT nd (i : Int) := by rw [mh]; unfold Lay.tileT; rw [hrt, hpt, hst_q_4, how]; first | rfl | simp only [List.append_assoc, List.append_nil, List.nil_append]
 refine bN <| tN <| rE <| sAdd (i : Int) 1 <| pu1 <| nT ?_
 have vh := ((uh.picks [8, 8, 8, 4]).drops [4, 5, 5, 5])
 exact ⟨(i + 1, (zs ++ [z1]), qh, (nzs + 1), rh, x3, (w3 ++ Gzs)), od, alA, (Sat.perm (cs' := (w3 ++ Gzs) :: (x3 :: [(c0, .cells #[I ((x.L.cut nd).w), I ((x.L.cut nd).h), I ((x.L.cut nd).max_)] 54 (0, 0))] :: [(b, .cells (encLayM x).toArray 97 (0, 0))] :: [(d0, .cells (encStage a0).toArray 38 (0, 0))] :: H :: F)) (show Sat W _ (w3 :: Gzs :: x3 :: [(c0, .cells #[I ((x.L.cut nd).w), I ((x.L.cut nd).h), I ((x.L.cut nd).max_)] 54 (0, 0))] :: [(b, .cells (encLayM x).toArray 97 (0, 0))] :: [(d0, .cells (encStage a0).toArray 38 (0, 0))] :: H :: F) from vh) (by simp)), om, (by rw [List.map_append, hE, upto_map_snoc]; simp only [List.map_cons, List.map_nil]; rw [htv]), (by simp; omega), sh, (by
   intro z hz
   rcases List.mem_append.1 hz with h | h
   ·exact (hDzs z h).of_mem mS
   ·simp only [List.mem_singleton] at h; subst h; exact (lh.of_mem mS))⟩
end Go.Proofs.YtdingplbadblpaaGreat
