import Derived.Test.YtmlhcafjelkjfaaGreatP4Ab
import Derived.WalkKit
import Derived.Deep.Quiet
import Derived.KernelRfl
import Derived.Laws.BytesString
import Derived.Laws.Shifts
import Derived.Laws.IdiomStrings
import Derived.Test.YtmlhcafjelkjfaaGreatProg
import Derived.Test.YtmlhcafjelkjfaaGreatP4Gr
namespace Go.Proofs.YtmlhcafjelkjfaaGreat
open Go Go.E Go.Proofs.Tryz
set_option linter.all false
set_option maxRecDepth 100000
set_option maxHeartbeats 2000000
variable {W w:World} {H:Chunk} {F:List Chunk}
theorem srcs_two {s:StageV}:(srcs s).length=2↔twoP s:=by
  unfold srcs
  by_cases h:twoP s
  · rw [if_pos h];simp [h]
  · rw [if_neg h];simp [h]
theorem p17_shapes (p : Job) (hp : Job.Ok [H] p) (hb : p.inputs.n <= 1000000 /\ p.stages.n <= 1000000 /\ p.outputs.n <= 1000000) (hS : Sat W w (H :: F)) :
  Calls prog 135 #[.agg (encJob p).toArray] w fun e w' => ∃ (az : Option Addr) (nz kz : Nat) (G : Chunk), e = .returned (.tuple #[.slice az nz kz, I ((shpV p.v).2.1), I ((shpV p.v).2.2)]) /\ OwnT encShape 65 3 az nz kz ((shpV p.v).1) G /\ Sat W w' (G :: H :: F) := by
 have hl_p_inputs := hp.inputs.le; have hn_p_inputs := hp.inputs.len
 have hl_p_stages := hp.stages.le; have hn_p_stages := hp.stages.len
 have hl_p_outputs := hp.outputs.le; have hn_p_outputs := hp.outputs.len
 have hmi : (p.inputs.l.map Plane.v).length = p.inputs.n := by simp [hn_p_inputs]
 have hms : (p.stages.l.map Stage.v).length = p.stages.n := by simp [hn_p_stages]
 refine callsA 103 func135 rfl <| sR <| sBox hS (.agg (encJob p).toArray) (encJob p).toArray fun m0 _ v0 => pu3 <| zS <| lA v0 0 0 4 (isAgg28 _) (sizeOf28 _) <| cX call84 (p17_order p (hp.of_mem (mem_flat1 1 (by rfl))) (od) v0.flat) ?_
 rintro _ _ ⟨w0, h0, x0, y0, rfl, q0, e1⟩
 have n0 := e1.unflat1
 have hn_az_7 := q0.len; have hl_az_7 := q0.le
 refine pu5 <| zQ <| pu2 <| nT <| cN ((ordV p.v).2) 0 (fun f1 => ?_) (fun f1 => ?_)
 rotate_left
 ·refine sR <| pu4 <| zR <| retT [nS, I 0, I ((ordV p.v).2)] ?_
  have hk : shpV p.v = ([], 0, (ordV p.v).2) := by unfold shpV; rw [if_neg ‹_›]
  have g1 := (n0.drops [0, 0])
  have h1 : Sat W _ ([] :: H :: F) := Sat.nilc g1
  have hl : ([] : List Shape) = (shpV p.v).1 := (by rw [hk])
  have hrd := OwnT.nil (enc := encShape) (E := 65) (sz := 3) fR
  rw [hl] at hrd
  exact ⟨_, _, _, _, (by rw [hk]; rfl), hrd, h1⟩
 refine kS <| pu1 <| sL n0 1 0 (.slice p.inputs.a p.inputs.n p.inputs.k) (isAgg25 _) <| pu2 <| zS <| pu2 <| sL n0 1 1 (.slice p.stages.a p.stages.n p.stages.k) (isAgg26 _) <| pu1 <| sAdd (p.inputs.n : Int) (p.stages.n : Int) <| sMake (kl := .i64) (kc := .i64) (enc := encShape) (sz := 3) (nb := 24) n0 ⟨0, 0, 0⟩ (((p.inputs.n : Int) + (p.stages.n : Int))).toNat ((p.inputs.n : Int) + (p.stages.n : Int)) (om : ((p.inputs.n : Int) + (p.stages.n : Int)) = (((((p.inputs.n : Int) + (p.stages.n : Int))).toNat : Nat) : Int)) underlying82 (i := Tryz.t65) kr fR fun i1 j1 _ k1 z0 => pu1 <| zQ <| pu1 <| sL z0 2 0 (.slice p.inputs.a p.inputs.n p.inputs.k) (isAgg25 _) <| pu2 <| nT <| blockE ?_
 refine loopA (γ := Nat × (List Shape) × (Option Addr) × Nat × Nat × Chunk) (fun ⟨i, zs, azs, nzs, kzs, czs⟩ => [(1, Pt m0 0), (5, .slice w0 h0 x0), (7, I (p.inputs.n : Int)), (36, .slice p.inputs.a p.inputs.n p.inputs.k), (37, I (p.inputs.n : Int)), (38, I (i : Int)), (8, .slice azs nzs kzs)]) (fun ⟨i, zs, azs, nzs, kzs, czs⟩ w => Sat W w (czs :: y0 :: [(m0, .cells (encJob p).toArray 28 (0, 0))] :: H :: F) /\ i <= p.inputs.n /\ (zs = ((p.inputs.l.map Plane.v).take i).map shpOf ++ List.replicate (p.inputs.n + p.stages.n - i) ⟨0, 0, 0⟩) /\ (((p.inputs.l.map Plane.v).take i).all planeOK = true) /\ (zs.length = p.inputs.n + p.stages.n) /\ OwnT encShape 65 3 azs nzs kzs zs czs) (fun ⟨i, zs, azs, nzs, kzs, czs⟩ => p.inputs.n - i) (0, (List.replicate (((p.inputs.n : Int) + (p.stages.n : Int))).toNat ⟨0, 0, 0⟩), (At i1 0), (((p.inputs.n : Int) + (p.stages.n : Int))).toNat, (((p.inputs.n : Int) + (p.stages.n : Int))).toNat, j1) ⟨z0, om, by simp; omega, by rfl, by simp; omega, k1⟩ ?_
 rintro ⟨i, zs, azs, nzs, kzs, czs⟩ ρ _ ⟨r0, hi, hZ, hV, hzl, hOzs⟩
 have hn_zs := hOzs.len; have hl_zs := hOzs.le
 refine sR <| pu1 <| nT <| seqE <| cD ((i : Int) < (p.inputs.n : Int)) (fun l1 => ?_) (fun l1 => ?_)
 ·refine kT <| seqE <| blockE <| sR <| pu1 <| sIdx hp.inputs (i : Int) runUnderlying25 sizeOf38 fun e0 _ _ i0 m1 => ?_
  rw [Int.toNat_natCast] at i0
  refine sLpA r0 (m1.up 3 rfl) 0 (encPlane e0) (isAgg38 _) (sizeOf38 _) <| sAlloc r0 zeroValue38 fun _ _ n1 => pu1 ?_
  refine sT n1 0 0 (.agg (encPlane e0).toArray) (encPlane e0) (encPlane e0).toArray sizeOf38 fun _ a1 => zQ <| lA a1 0 0 4 (isAgg38 _) (sizeOf38 _) <| cR call64 (p4_valid e0 ⟨(RdT.flat ((hp.inputsD e0 (List.mem_of_getElem? i0)).pix.up 4 (by rfl)))⟩ a1.flat) fun _ j0 => pu1 <| nT <| cBn (planeOK e0.v) (fun o1 => ?_) (fun o1 => ?_)
  rotate_left
  ·refine sR <| pu4 <| zE <| tR <| tK <| tR <| tK <| retT [nS, I (i : Int), I 1] ?_
   have hbad : (p.inputs.l.map Plane.v).all planeOK = false := all_false_at (map_at (f := Plane.v) i0) (by simpa using (by assumption : ¬ planeOK e0.v = true))
   have htw : ((p.inputs.l.map Plane.v).takeWhile planeOK).length = i := takeWhile_at hV (map_at (f := Plane.v) i0) (by simpa using (by assumption : ¬ planeOK e0.v = true))
   have hk : shpV p.v = ([], (i : Int), 1) := by unfold shpV; rw [if_pos ‹_›, if_neg (by exact fun h => Bool.false_ne_true (hbad.symm.trans h))]; exact congrArg (fun n : Nat => (([] : List Shape), (n : Int), (1 : Int))) htw
   have q1 := (j0.drops [0, 0, 0, 0])
   have r1 : Sat W _ ([] :: H :: F) := Sat.nilc q1
   have hl : ([] : List Shape) = (shpV p.v).1 := (by rw [hk])
   have hrd := OwnT.nil (enc := encShape) (E := 65) (sz := 3) fR
   rw [hl] at hrd
   exact ⟨_, _, _, _, (by rw [hk]; rfl), hrd, r1⟩
  refine kT <| rE <| pu3 <| sL j0 0 0 (I e0.w) (isAgg3 _) <| pu1 <| sL j0 0 1 (I e0.h) (isAgg3 _) <| pu1 <| sL j0 0 2 (I e0.max_) (isAgg3 _) <| pu1 <| sIdxO hOzs (i : Int) i runUnderlying82 sizeOf65 fun s1 _ _ t1 _ u1 => sStF j0 hOzs u1 1 i 0 s1 (⟨e0.w, e0.h, e0.max_⟩ : Shape) t1 (.agg #[I e0.w, I e0.h, I e0.max_]) [I e0.w, I e0.h, I e0.max_] sizeOf65 fun _ v1 w1 x1 => nB <| rE <| sAdd (i : Int) 1 <| pu1 <| nT ?_
  exact ⟨(i + 1, (zs.set i (⟨e0.w, e0.h, e0.max_⟩ : Shape)), azs, nzs, kzs, v1), od, alA, (x1.dropAt 0 rfl), om, by rw [hZ]; exact set_rep (f := shpOf) (map_at (f := Plane.v) i0) om, all_succ hV (map_at (f := Plane.v) i0) ‹_›, by simp; omega, w1⟩
 refine exitE <| xB <| tN <| seqE <| seqE ?_
 have hall : (p.inputs.l.map Plane.v).all planeOK = true := all_of_take hV (by simp; omega)
 have hzs : zs = (p.inputs.l.map Plane.v).map shpOf ++ List.replicate p.stages.n ⟨0, 0, 0⟩ := by rw [hZ, List.take_of_length_le (by simp; omega)]; congr 2; omega
 have hordr := ordV_range (j := p.v) om; have hchk := ordV_chk (j := p.v) om
 refine rE <| pu3 <| nT <| blockE ?_
 refine loopA (γ := Nat × (List Shape) × (Option Addr) × Nat × Nat × Chunk) (fun ⟨i, ys, ays, nys, kys, cys⟩ => [(1, Pt m0 0), (7, I (p.inputs.n : Int)), (58, .slice w0 h0 x0), (59, I (h0 : Int)), (60, I (i : Int)), (8, .slice ays nys kys)]) (fun ⟨i, ys, ays, nys, kys, cys⟩ w => Sat W w (cys :: y0 :: [(m0, .cells (encJob p).toArray 28 (0, 0))] :: H :: F) /\ i <= h0 /\ (shpGo (p.inputs.n : Int) (p.stages.l.map Stage.v) ((ordV p.v).1) zs = shpGo (p.inputs.n : Int) (p.stages.l.map Stage.v) (((ordV p.v).1).drop i) ys) /\ (ys.length = p.inputs.n + p.stages.n) /\ OwnT encShape 65 3 ays nys kys ys cys) (fun ⟨i, ys, ays, nys, kys, cys⟩ => h0 - i) (0, zs, azs, nzs, kzs, czs) ⟨r0, om, by rfl, by rw [hzs]; simp; omega, hOzs⟩ ?_
 rintro ⟨i, ys, ays, nys, kys, cys⟩ ρ _ ⟨k0, hi, hS2, hyl, hOys⟩
 have hn_ys := hOys.len; have hl_ys := hOys.le
 refine sR <| pu1 <| nT <| seqE <| cD ((i : Int) < (h0 : Int)) (fun z1 => ?_) (fun z1 => ?_)
 rotate_left
 ·refine exitE <| xB <| tN <| sR <| pu4 <| zE <| retT [.slice ays nys kys, I 0, I 0] ?_
  have hk0 : shpV p.v = shpGo (p.inputs.n : Int) (p.stages.l.map Stage.v) ((ordV p.v).1) zs := by unfold shpV; rw [if_pos ‹_›, if_pos (by exact hall)]; rw [hzs, <- hms, <- hmi]; rfl
  have hk : shpV p.v = (ys, 0, 0) := by rw [hk0, hS2, List.drop_of_length_le om]; rfl
  have a2 := (k0.drops [1, 1])
  have hl : ys = (shpV p.v).1 := (by rw [hk])
  have hrd := hOys
  rw [hl] at hrd
  exact ⟨_, _, _, _, (by rw [hk]; rfl), hrd, a2⟩
 refine kT <| seqE <| blockE <| sR <| sIdxO q0 (i : Int) i runUnderlying22 sizeOf3 fun d0 _ _ l0 b2 _ => ?_
 have hox_x_51 : (p.inputs.n : Int) <= d0 /\ d0 < (p.inputs.n : Int) + (p.stages.n : Int) := by have h := hordr d0 (List.mem_of_getElem? l0); simp only [Job.v] at h; omega
 refine sLp k0 (b2.up 1 rfl) 0 (I d0) (isAgg3 _) <| pu1 <| zS <| pu1 <| sL k0 2 1 (.slice p.stages.a p.stages.n p.stages.k) (isAgg26 _) <| pu2 <| sSub d0 (p.inputs.n : Int) <| sIdx hp.stages (d0 - (p.inputs.n : Int)) runUnderlying26 sizeOf53 fun a0 _ _ f0 c2 => ?_
 obtain ⟨hsa, hsb⟩ := chk_src hchk (s := a0.v) (List.mem_map_of_mem (List.mem_of_getElem? f0))
 have hsa2 : 0 <= a0.a /\ a0.a < (p.inputs.n : Int) + (p.stages.n : Int) := by simp only [Job.v, Stage.v] at hsa; omega
 refine sLpA k0 (c2.up 3 rfl) 0 (encStage a0) (isAgg53 _) (sizeOf53 _) <| sAlloc k0 zeroValue53 fun _ _ d2 => ?_
 refine sT d2 0 0 (.agg (encStage a0).toArray) (encStage a0) (encStage a0).toArray sizeOf53 fun _ s0 => zS <| pu2 <| sL s0 0 1 (I a0.a) (isAgg3 _) <| sIdxO hOys a0.a (a0.a).toNat runUnderlying82 sizeOf65 fun b0 _ _ o0 e2 _ => sLpA s0 (e2.up 1 rfl) 0 [I b0.w, I b0.h, I b0.max_] (isAgg65 _) (sizeOf65 _) <| pu1 <| sAlloc s0 zeroValue65 fun _ _ f2 => sAlloc f2 zeroValue65 fun _ _ g2 => ?_
 refine sT g2 1 0 (.agg #[I b0.w, I b0.h, I b0.max_]) [I b0.w, I b0.h, I b0.max_] #[I b0.w, I b0.h, I b0.max_] sizeOf65 fun _ i2 => sT i2 0 0 (.agg #[I 0, I 0, I 0]) [I 0, I 0, I 0] #[I 0, I 0, I 0] sizeOf65 fun _ b1 => zQ <| lA b1 2 0 18 (isAgg53 _) (sizeOf53 _) <| cX call59 (p15_sources a0 ((hp.stagesD a0 (List.mem_of_getElem? f0)).of_mem (mem_flat1 6 (by rfl))) b1.flat) ?_
 rintro _ _ ⟨_, j2, _, _, rfl, c1, k2⟩
 have g0 := k2.unflat1
 have hn_az_86 := c1.len; have hl_az_86 := c1.le
 have v4 : 1 <= (srcs a0.v).length /\ (srcs a0.v).length <= 2 := srcs_len _
 refine pu2 <| nT <| cE (j2 : Int) 2 (fun l2 => ?_) (fun l2 => ?_)
 rotate_left
 ·refine kT <| seqE ?_
  have htw : ¬ twoP a0.v := fun h => by have h2 := srcs_two.2 h; omega
  refine rE <| lA g0 3 0 18 (isAgg53 _) (sizeOf53 _) <| lA g0 2 0 3 (isAgg65 _) (sizeOf65 _) <| lA g0 1 0 3 (isAgg65 _) (sizeOf65 _) <| cR call87 (p15_of a0 b0 (⟨0, 0, 0⟩ : Shape) ((hp.stagesD a0 (List.mem_of_getElem? f0)).of_mem (mem_flat1 7 (by rfl))) g0.flat) fun _ m2 => pu3 <| sAlloc m2 zeroValue65 fun _ _ n2 => ?_
  refine sT n2 0 0 (.agg #[I ((ofV a0.v b0 (⟨0, 0, 0⟩ : Shape)).1.w), I ((ofV a0.v b0 (⟨0, 0, 0⟩ : Shape)).1.h), I ((ofV a0.v b0 (⟨0, 0, 0⟩ : Shape)).1.max_)]) [I ((ofV a0.v b0 (⟨0, 0, 0⟩ : Shape)).1.w), I ((ofV a0.v b0 (⟨0, 0, 0⟩ : Shape)).1.h), I ((ofV a0.v b0 (⟨0, 0, 0⟩ : Shape)).1.max_)] #[I ((ofV a0.v b0 (⟨0, 0, 0⟩ : Shape)).1.w), I ((ofV a0.v b0 (⟨0, 0, 0⟩ : Shape)).1.h), I ((ofV a0.v b0 (⟨0, 0, 0⟩ : Shape)).1.max_)] sizeOf65 fun _ t0 => pu1 <| zQ <| pu2 <| nT <| cN ((ofV a0.v b0 (⟨0, 0, 0⟩ : Shape)).2) 0 (fun o2 => ?_) (fun o2 => ?_)
  rotate_left
  ·refine sR <| pu5 <| zE <| tR <| tK <| tR <| tK <| retT [nS, I d0, I ((ofV a0.v b0 (⟨0, 0, 0⟩ : Shape)).2)] ?_
   have hk0 : shpV p.v = shpGo (p.inputs.n : Int) (p.stages.l.map Stage.v) ((ordV p.v).1) zs := by unfold shpV; rw [if_pos ‹_›, if_pos (by exact hall)]; rw [hzs, <- hms, <- hmi]; rfl
   have hstg : stgAt (p.stages.l.map Stage.v) (p.inputs.n : Int) d0 = a0.v := by unfold stgAt; rw [map_at (f := Stage.v) f0]; rfl
   have hsa3 : shpAt ys a0.v.a = b0 := by unfold shpAt; rw [show ys[a0.v.a.toNat]? = some b0 from o0]; rfl
   have hsb3 : (if twoP a0.v then shpAt ys a0.v.b else ⟨0, 0, 0⟩) = (⟨0, 0, 0⟩ : Shape) := by rw [if_neg htw]
   have hst : shpStep (p.inputs.n : Int) (p.stages.l.map Stage.v) d0 ys = ofV a0.v b0 (⟨0, 0, 0⟩ : Shape) := by unfold shpStep; rw [hstg, hsa3, hsb3]
   have hk : shpV p.v = ([], d0, (ofV a0.v b0 (⟨0, 0, 0⟩ : Shape)).2) := by rw [hk0, hS2, drop_at l0, shpGo, hst, if_neg ‹_›]
   have p2 := (t0.drops [0, 0, 0, 0, 0, 0, 0, 0])
   have q2 : Sat W _ ([] :: H :: F) := Sat.nilc p2
   have hl : ([] : List Shape) = (shpV p.v).1 := (by rw [hk])
   have hrd := OwnT.nil (enc := encShape) (E := 65) (sz := 3) fR
   rw [hl] at hrd
   exact ⟨_, _, _, _, (by rw [hk]; rfl), hrd, q2⟩
  refine kT <| rE <| pu2 <| lA t0 0 0 3 (isAgg65 _) (sizeOf65 _) <| sIdxO hOys d0 (d0).toNat runUnderlying82 sizeOf65 fun r2 _ _ s2 _ t2 => sStF t0 hOys t2 5 (d0).toNat 0 r2 (⟨(ofV a0.v b0 (⟨0, 0, 0⟩ : Shape)).1.w, (ofV a0.v b0 (⟨0, 0, 0⟩ : Shape)).1.h, (ofV a0.v b0 (⟨0, 0, 0⟩ : Shape)).1.max_⟩ : Shape) s2 (.agg #[I ((ofV a0.v b0 (⟨0, 0, 0⟩ : Shape)).1.w), I ((ofV a0.v b0 (⟨0, 0, 0⟩ : Shape)).1.h), I ((ofV a0.v b0 (⟨0, 0, 0⟩ : Shape)).1.max_)]) [I ((ofV a0.v b0 (⟨0, 0, 0⟩ : Shape)).1.w), I ((ofV a0.v b0 (⟨0, 0, 0⟩ : Shape)).1.h), I ((ofV a0.v b0 (⟨0, 0, 0⟩ : Shape)).1.max_)] sizeOf65 fun _ u2 v2 w2 => nB <| rE <| sAdd (i : Int) 1 <| pu1 <| nT ?_
  have hstg : stgAt (p.stages.l.map Stage.v) (p.inputs.n : Int) d0 = a0.v := by unfold stgAt; rw [map_at (f := Stage.v) f0]; rfl
  have hsa3 : shpAt ys a0.v.a = b0 := by unfold shpAt; rw [show ys[a0.v.a.toNat]? = some b0 from o0]; rfl
  have hsb3 : (if twoP a0.v then shpAt ys a0.v.b else ⟨0, 0, 0⟩) = (⟨0, 0, 0⟩ : Shape) := by rw [if_neg htw]
  have hst : shpStep (p.inputs.n : Int) (p.stages.l.map Stage.v) d0 ys = ofV a0.v b0 (⟨0, 0, 0⟩ : Shape) := by unfold shpStep; rw [hstg, hsa3, hsb3]
  exact ⟨(i + 1, (ys.set ((d0).toNat) (⟨(ofV a0.v b0 (⟨0, 0, 0⟩ : Shape)).1.w, (ofV a0.v b0 (⟨0, 0, 0⟩ : Shape)).1.h, (ofV a0.v b0 (⟨0, 0, 0⟩ : Shape)).1.max_⟩ : Shape)), ays, nys, kys, u2), od, alA, (w2.drops [0, 0, 0, 0, 0]), om, by rw [hS2, drop_at l0, shpGo, hst, if_pos ‹_›], by simp; omega, v2⟩
 have htw : twoP a0.v := srcs_two.1 om
 have hsb2 : 0 <= a0.b /\ a0.b < (p.inputs.n : Int) + (p.stages.n : Int) := by have h2 := hsb htw; simp only [Job.v, Stage.v] at h2; omega
 refine rE <| pu2 <| sL g0 3 2 (I a0.b) (isAgg3 _) <| sIdxO hOys a0.b (a0.b).toNat runUnderlying82 sizeOf65 fun c0 _ _ d1 y2 _ => sLpA g0 (y2.up 4 rfl) 0 [I c0.w, I c0.h, I c0.max_] (isAgg65 _) (sizeOf65 _) <| sT g0 1 0 (.agg #[I c0.w, I c0.h, I c0.max_]) [I c0.w, I c0.h, I c0.max_] #[I c0.w, I c0.h, I c0.max_] sizeOf65 fun _ p0 => zS <| lA p0 3 0 18 (isAgg53 _) (sizeOf53 _) <| lA p0 2 0 3 (isAgg65 _) (sizeOf65 _) <| lA p0 1 0 3 (isAgg65 _) (sizeOf65 _) <| cR call87 (p15_of a0 b0 c0 ((hp.stagesD a0 (List.mem_of_getElem? f0)).of_mem (mem_flat1 7 (by rfl))) p0.flat) fun _ z2 => pu3 <| sAlloc z2 zeroValue65 fun _ _ a3 => ?_
 refine sT a3 0 0 (.agg #[I ((ofV a0.v b0 c0).1.w), I ((ofV a0.v b0 c0).1.h), I ((ofV a0.v b0 c0).1.max_)]) [I ((ofV a0.v b0 c0).1.w), I ((ofV a0.v b0 c0).1.h), I ((ofV a0.v b0 c0).1.max_)] #[I ((ofV a0.v b0 c0).1.w), I ((ofV a0.v b0 c0).1.h), I ((ofV a0.v b0 c0).1.max_)] sizeOf65 fun _ u0 => pu1 <| zQ <| pu2 <| nT <| cN ((ofV a0.v b0 c0).2) 0 (fun b3 => ?_) (fun b3 => ?_)
 rotate_left
 ·refine sR <| pu5 <| zE <| tR <| tK <| tR <| tK <| retT [nS, I d0, I ((ofV a0.v b0 c0).2)] ?_
  have hk0 : shpV p.v = shpGo (p.inputs.n : Int) (p.stages.l.map Stage.v) ((ordV p.v).1) zs := by unfold shpV; rw [if_pos ‹_›, if_pos (by exact hall)]; rw [hzs, <- hms, <- hmi]; rfl
  have hstg : stgAt (p.stages.l.map Stage.v) (p.inputs.n : Int) d0 = a0.v := by unfold stgAt; rw [map_at (f := Stage.v) f0]; rfl
  have hsa3 : shpAt ys a0.v.a = b0 := by unfold shpAt; rw [show ys[a0.v.a.toNat]? = some b0 from o0]; rfl
  have hsb3 : (if twoP a0.v then shpAt ys a0.v.b else ⟨0, 0, 0⟩) = c0 := by rw [if_pos htw]; unfold shpAt; rw [show ys[a0.v.b.toNat]? = some c0 from d1]; rfl
  have hst : shpStep (p.inputs.n : Int) (p.stages.l.map Stage.v) d0 ys = ofV a0.v b0 c0 := by unfold shpStep; rw [hstg, hsa3, hsb3]
  have hk : shpV p.v = ([], d0, (ofV a0.v b0 c0).2) := by rw [hk0, hS2, drop_at l0, shpGo, hst, if_neg ‹_›]
  have c3 := (u0.drops [0, 0, 0, 0, 0, 0, 0, 0])
  have d3 : Sat W _ ([] :: H :: F) := Sat.nilc c3
  have hl : ([] : List Shape) = (shpV p.v).1 := (by rw [hk])
  have hrd := OwnT.nil (enc := encShape) (E := 65) (sz := 3) fR
  rw [hl] at hrd
  exact ⟨_, _, _, _, (by rw [hk]; rfl), hrd, d3⟩
 refine kT <| rE <| pu2 <| lA u0 0 0 3 (isAgg65 _) (sizeOf65 _) <| sIdxO hOys d0 (d0).toNat runUnderlying82 sizeOf65 fun e3 _ _ f3 _ g3 => sStF u0 hOys g3 5 (d0).toNat 0 e3 (⟨(ofV a0.v b0 c0).1.w, (ofV a0.v b0 c0).1.h, (ofV a0.v b0 c0).1.max_⟩ : Shape) f3 (.agg #[I ((ofV a0.v b0 c0).1.w), I ((ofV a0.v b0 c0).1.h), I ((ofV a0.v b0 c0).1.max_)]) [I ((ofV a0.v b0 c0).1.w), I ((ofV a0.v b0 c0).1.h), I ((ofV a0.v b0 c0).1.max_)] sizeOf65 fun _ h3 i3 j3 => nB <| rE <| sAdd (i : Int) 1 <| pu1 <| nT ?_
 have hstg : stgAt (p.stages.l.map Stage.v) (p.inputs.n : Int) d0 = a0.v := by unfold stgAt; rw [map_at (f := Stage.v) f0]; rfl
 have hsa3 : shpAt ys a0.v.a = b0 := by unfold shpAt; rw [show ys[a0.v.a.toNat]? = some b0 from o0]; rfl
 have hsb3 : (if twoP a0.v then shpAt ys a0.v.b else ⟨0, 0, 0⟩) = c0 := by rw [if_pos htw]; unfold shpAt; rw [show ys[a0.v.b.toNat]? = some c0 from d1]; rfl
 have hst : shpStep (p.inputs.n : Int) (p.stages.l.map Stage.v) d0 ys = ofV a0.v b0 c0 := by unfold shpStep; rw [hstg, hsa3, hsb3]
 exact ⟨(i + 1, (ys.set ((d0).toNat) (⟨(ofV a0.v b0 c0).1.w, (ofV a0.v b0 c0).1.h, (ofV a0.v b0 c0).1.max_⟩ : Shape)), ays, nys, kys, h3), od, alA, (j3.drops [0, 0, 0, 0, 0]), om, by rw [hS2, drop_at l0, shpGo, hst, if_pos ‹_›], by simp; omega, i3⟩
theorem p17_check (p:Job) (hp:Job.Ok [H] p) (hb:p.inputs.n<=1000000/\p.stages.n<=1000000/\p.outputs.n<=1000000) (hS:Sat W w (H::F)):
  Ro prog 83 #[.agg (encJob p).toArray] (.tuple #[I ((shpV p.v).2.1),I ((shpV p.v).2.2)]) W w (H::F):=by
 have hl_p_inputs:=hp.inputs.le;have hn_p_inputs:=hp.inputs.len
 have hl_p_stages:=hp.stages.le;have hn_p_stages:=hp.stages.len
 have hl_p_outputs:=hp.outputs.le;have hn_p_outputs:=hp.outputs.len
 refine callsA 15 func83 rfl<|sR<|sBox hS (.agg (encJob p).toArray) (encJob p).toArray fun _ _ a0=>pu2<|zS<|lA a0 0 0 4 (isAgg28 _) (sizeOf28 _)<|cX call135 (p17_shapes p (hp.of_mem (mem_flat1 1 (by rfl))) (od) a0.flat) ?_
 rintro _ _ ⟨_,_,_,_,rfl,b0,c0⟩
 have d0:=c0.unflat1
 have hn_az_7:=b0.len;have hl_az_7:=b0.le
 exact pu7<|zS<|pu4<|zE<|retT [I ((shpV p.v).2.1),I ((shpV p.v).2.2)]<|⟨rfl,(d0.drops [0,0])⟩
theorem tape_new {cs:List Chunk} (a:Option Addr) (n k:Nat) (hS:Sat W w cs):
    Calls prog 11 #[.slice a n k] w fun e w'=>∃p:Nat,e= .returned (.pointer (some ⟨p,0,none⟩))/\Sat W w' ([(p, .cells #[.slice a n k, .int .i64 0] 81 (0,0))]::cs):=by
  refine callsA 6 func11 rfl ?_
  refine seqE<|rE<|pu1<|nilO<|tN<|seqE<|rE<|pu2 ?_
  refine sBox hS (.agg #[.slice a n k, .int .i64 0]) #[.slice a n k, .int .i64 0] ?_
  intro b_1 w_2 hS_3
  refine pu1<|nilO<|tN<|retE<|retT [.pointer (some ⟨b_1,0,none⟩)]<|?_
  exact ⟨_,rfl,hS_3⟩
theorem tmod_bd (v n:Int) (h:0<n):-n<v.tmod n/\v.tmod n<n:=by
  have h1:=Int.tmod_lt_of_pos v h
  have h2:=Int.lt_tmod_of_pos v h
  omega
theorem mod_ok {cs:List Chunk} (v n:Int) (hn:0<n) (hn2:n<=4611686018427387904) (hS:Sat W w cs):
  Calls prog 57 #[I v,I n] w fun e w'=>∃r:Int,e= .returned (I r)/\(0<=r/\r<n)/\Sat W w' cs:=by
 have hm:=tmod_bd v n hn
 refine callsA 15 func57 rfl<|sR<|pu1<|zS<|pu2<|sRem v n<|pu1<|zQ<|pu2<|nT<|cD ((v.tmod n)<0) (fun a0=>?_) (fun a0=>?_)
 rotate_left
 ·exact kS<|pu2<|zE<|retT [I (v.tmod n)]<|⟨_,rfl,om,hS⟩
 exact rE<|pu2<|sAdd (v.tmod n) n<|pu1<|zS<|pu2<|zE<|retT [I ((v.tmod n)+n)]<|⟨_,rfl,om,hS⟩
theorem tape_next {p:Nat} {a:Option Addr} {n k:Nat} {i:Int} {xs:List Int} (hR:RdT Go.E.encI 1 [H] a n k xs) (hi:0<=i/\i<=n) (hS:Sat W w ([(p, .cells #[.slice a n k,I i] 81 (0,0))]::H::F)) (m:Int) (hm:m<=4611686018427387904):
  Calls prog 15 #[Pt p 0,I m] w fun e w'=>∃r:Int,e= .returned (I r)/\(0<=r/\(r<m\/r=0))/\∃i':Int,(0<=i'/\i'<=n)/\Sat W w' ([(p, .cells #[.slice a n k,I i'] 81 (0,0))]::H::F):=by
 have hle:=hR.le
 refine callsA 39 func15 rfl<|sR<|pu1<|nT<|seqE<|seqE ?_
 by_cases e0:(m:Int)<1
 ·refine drawE [] [] [(true,[0,1,2]),(true,[3,4,5,7,8,9,6,10,11,12,13])] rfl kr trivial ?_
  have h0:=hS.drew
  exact wU [0,1,2]<|wFix 7 _ true (decide_eq_true e0)<|wU [3,4,5,7,8,9,6,10,11,12,13]<|wN<|tN<|cTt<|sR<|pu1<|zR<|retT [I 0]<|⟨_,rfl,om,_,om,h0⟩
 refine drawE [] [(6,⟨p,1,none⟩,I i),(10,⟨p,0,none⟩, .slice a n k)] [(true,[0,1,2]),(true,[3,4,5,7,8,9]),(true,[6]),(true,[10]),(true,[11,12,13])] rfl kr ⟨cI hS 0,cI hS 0,trivial⟩ ?_
 have b0:=hS.drew
 refine wU [0,1,2]<|wFix 7 _ false (decide_eq_false e0)<|wU [3,4,5,7,8,9]<|wLd (I i) 0 isAgg3<|wLd (.slice a n k) 1 isAgg22<|wU [11,12,13]<|wN<|tN<|cD (i>=(n:Int)) (fun i0=>?_) (fun i0=>?_)
 ·exact sR<|pu1<|zR<|retT [I 0]<|⟨_,rfl,om,_,om,b0⟩
 refine kS<|pu3<|sL b0 0 1 (I i) (isAgg3 _)<|sAdd i 1<|pu2<|sT b0 0 1 (I (i+1)) [I (i+1)] #[.slice a n k,I (i+1)] sizeOf3 fun _ a0=>nT<|seqE ?_
 obtain ⟨c0,f0,g0,o0,j0,k0⟩:=RdT.elem hR ((i+1)-1)
 refine drawE [12] [(3,⟨p,0,none⟩, .slice a n k),(7,⟨p,1,none⟩,I (i+1)),(10,⟨f0,g0,none⟩,I c0)] [(true,[0,1,2,4,5,6,11]),(true,[3]),(true,[7]),(true,[8]),(true,[9]),(true,[10]),(false,[12]),(true,[13])] rfl kr ⟨cI a0 0,cI a0 0, .inr ((j0.up 1 rfl).cell a0 (k:=0) rfl),trivial⟩ ?_
 have l0:=a0.drew
 refine wU [0,1,2,4,5,6,11]<|wLd (.slice a n k) 0 isAgg22<|wLd (I (i+1)) 1 isAgg3<|wSub (i+1) 1<|wY (.pointer (some ⟨f0,g0,none⟩)) rfl (fun w _=>Y_idx (a:=a) (i:=((i+1)-1)) (len:=n) (cap:=k) rfl runUnderlying22 sizeOf3 kr kr k0)<|wLd (I c0) 2 isAgg3<|wO rfl<|cX call57 (mod_ok c0 m om om l0) ?_
 rintro _ _ ⟨m0,rfl,_,d0⟩
 refine nilO ⟨⟨cI d0 0,cI d0 0,dI,trivial⟩,?_⟩
 exact wU [13]<|wN<|tN<|retE<|retT [I m0]<|⟨_,rfl,om,_,om,d0⟩
theorem tape_pick {p:Nat} {a:Option Addr} {n k:Nat} {i:Int} {xs:List Int} (hR:RdT Go.E.encI 1 [H] a n k xs) (hi:0<=i/\i<=n) (hS:Sat W w ([(p, .cells #[.slice a n k,I i] 81 (0,0))]::H::F)) {b:Option Addr} {m cap:Nat} {l:List Int} (hL:RdT Go.E.encI 1 [H] b m cap l) (h0:0<m) (hm:m<=1000000):
  Calls prog 42 #[Pt p 0, .slice b m cap] w fun e w'=>∃x:Int,e= .returned (I x)/\x∈l/\∃i':Int,(0<=i'/\i'<=n)/\Sat W w' ([(p, .cells #[.slice a n k,I i'] 81 (0,0))]::H::F):=by
 have hle:=hR.le
 refine callsA 12 func42 rfl<|sR<|pu1<|zS<|pu4<|cX call15 (tape_next (RdT.flat (hR.up 0 (by rfl))) om hS.flat1 (m:Int) om) ?_
 rintro _ _ ⟨c0,rfl,_,_,_,d0⟩
 have a0:=d0.unflat1
 exact sIdx hL c0 runUnderlying22 sizeOf3 fun b0 _ _ e0 f0=>sLp a0 (f0.up 1 rfl) 0 (I b0) (isAgg3 _)<|pu1<|zE<|retT [I b0]<|⟨_,rfl,List.mem_of_getElem? e0,_,om,a0⟩
end Go.Proofs.YtmlhcafjelkjfaaGreat
