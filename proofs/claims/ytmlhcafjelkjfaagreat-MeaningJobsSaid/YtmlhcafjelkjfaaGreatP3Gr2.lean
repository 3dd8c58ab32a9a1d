import Derived.Test.YtmlhcafjelkjfaaGreatP3Ab
import Derived.WalkKit
import Derived.Deep.Quiet
import Derived.KernelRfl
import Derived.Laws.BytesString
import Derived.Laws.Shifts
import Derived.Laws.IdiomStrings
import Derived.Test.YtmlhcafjelkjfaaGreatProg
import Derived.Test.YtmlhcafjelkjfaaGreatP3Gr
namespace Go.Proofs.YtmlhcafjelkjfaaGreat
open Go Go.E Go.Proofs.Tryz
set_option linter.all false
set_option maxRecDepth 100000
set_option maxHeartbeats 2000000
variable {W w:World} {H:Chunk} {F:List Chunk}
theorem srcs_two {s:StageV}:(srcs s).length=2↔twoP s:=by
  unfold srcs
  by_cases h:twoP s
  · rw [if_pos h];simp [h]
  · rw [if_neg h];simp [h]
theorem p17_shapes (p : Job) (hp : Job.Ok [H] p) (hb : p.inputs.n <= 1000000 /\ p.stages.n <= 1000000 /\ p.outputs.n <= 1000000) (hS : Sat W w (H :: F)) :
  Calls prog 135 #[.agg (encJob p).toArray] w fun e w' => ∃ (az : Option Addr) (nz kz : Nat) (G : Chunk), e = .returned (.tuple #[.slice az nz kz, I ((shpV p.v).2.1), I ((shpV p.v).2.2)]) /\ OwnT encShape 65 3 az nz kz ((shpV p.v).1) G /\ Sat W w' (G :: H :: F) := by
 have hl_p_inputs := hp.inputs.le; have hn_p_inputs := hp.inputs.len
 have hl_p_stages := hp.stages.le; have hn_p_stages := hp.stages.len
 have hl_p_outputs := hp.outputs.le; have hn_p_outputs := hp.outputs.len
 have hmi : (p.inputs.l.map Plane.v).length = p.inputs.n := by simp [hn_p_inputs]
 have hms : (p.stages.l.map Stage.v).length = p.stages.n := by simp [hn_p_stages]
 refine callsA 103 func135 rfl ?_
 refine sR ?_
 refine sBox hS (.agg (encJob p).toArray) (encJob p).toArray ?_
 intro g0 _ w0
 refine pu3 <| zS ?_
 refine lA w0 0 0 4 (isAgg28 _) (sizeOf28 _) ?_
 refine cX call84 (p17_order p (hp.of_mem (mem_flat1 1 (by rfl))) (od) w0.flat) ?_
 rintro _ _ ⟨o0, e0, p0, q0, rfl, r0, f1⟩
 have l0 := f1.unflat1
 have hn_az_7 := r0.len; have hl_az_7 := r0.le
 refine pu5 <| zQ <| pu2 <| nT ?_
 refine cN ((ordV p.v).2) 0 (fun g1 => ?_) (fun g1 => ?_)
 rotate_left
 ·refine sR <| pu4 <| zR <| retT [nS, I 0, I ((ordV p.v).2)] ?_
  have hk : shpV p.v = ([], 0, (ordV p.v).2) := by unfold shpV; rw [if_neg ‹_›]
  have h1 := (l0.drops [0, 0])
  have i1 : Sat W _ ([] :: H :: F) := Sat.nilc h1
  have hl : ([] : List Shape) = (shpV p.v).1 := (by rw [hk])
  have hrd := OwnT.nil (enc := encShape) (E := 65) (sz := 3) fR
  rw [hl] at hrd
  exact ⟨_, _, _, _, (by rw [hk]; rfl), hrd, i1⟩
 refine kS <| pu1 ?_
 refine sL l0 1 0 (.slice p.inputs.a p.inputs.n p.inputs.k) (isAgg25 _) ?_
 refine pu2 <| zS <| pu2 ?_
 refine sL l0 1 1 (.slice p.stages.a p.stages.n p.stages.k) (isAgg26 _) ?_
 refine pu1 ?_
 refine sAdd (p.inputs.n : Int) (p.stages.n : Int) ?_
 refine sMake (kl := .i64) (kc := .i64) (enc := encShape) (sz := 3) (nb := 24) l0 ⟨0, 0, 0⟩ (((p.inputs.n : Int) + (p.stages.n : Int))).toNat ((p.inputs.n : Int) + (p.stages.n : Int)) (om : ((p.inputs.n : Int) + (p.stages.n : Int)) = (((((p.inputs.n : Int) + (p.stages.n : Int))).toNat : Nat) : Int)) underlying82 (i := Tryz.t65) kr fR ?_
 intro j1 k1 _ l1 x0
 refine pu1 <| zQ <| pu1 ?_
 refine sL x0 2 0 (.slice p.inputs.a p.inputs.n p.inputs.k) (isAgg25 _) ?_
 refine pu2 <| nT <| blockE ?_
 refine loopA (γ := Nat × (List Shape) × (Option Addr) × Nat × Nat × Chunk) (fun ⟨i, zs, azs, nzs, kzs, czs⟩ => [(1, Pt g0 0), (5, .slice o0 e0 p0), (7, I (p.inputs.n : Int)), (36, .slice p.inputs.a p.inputs.n p.inputs.k), (37, I (p.inputs.n : Int)), (38, I (i : Int)), (8, .slice azs nzs kzs)]) (fun ⟨i, zs, azs, nzs, kzs, czs⟩ w => Sat W w (czs :: q0 :: [(g0, .cells (encJob p).toArray 28 (0, 0))] :: H :: F) /\ i <= p.inputs.n /\ (zs = ((p.inputs.l.map Plane.v).take i).map shpOf ++ List.replicate (p.inputs.n + p.stages.n - i) ⟨0, 0, 0⟩) /\ (((p.inputs.l.map Plane.v).take i).all planeOK = true) /\ (zs.length = p.inputs.n + p.stages.n) /\ OwnT encShape 65 3 azs nzs kzs zs czs) (fun ⟨i, zs, azs, nzs, kzs, czs⟩ => p.inputs.n - i) (0, (List.replicate (((p.inputs.n : Int) + (p.stages.n : Int))).toNat ⟨0, 0, 0⟩), (At j1 0), (((p.inputs.n : Int) + (p.stages.n : Int))).toNat, (((p.inputs.n : Int) + (p.stages.n : Int))).toNat, k1) ⟨x0, om, by simp; omega, by rfl, by simp; omega, l1⟩ ?_
 rintro ⟨i, zs, azs, nzs, kzs, czs⟩ ρ _ ⟨s0, hi, hZ, hV, hzl, hOzs⟩
 have hn_zs := hOzs.len; have hl_zs := hOzs.le
 refine sR <| pu1 <| nT <| seqE ?_
 refine cD ((i : Int) < (p.inputs.n : Int)) (fun m1 => ?_) (fun m1 => ?_)
 ·refine kT <| seqE <| blockE <| sR <| pu1 ?_
  refine sIdx hp.inputs (i : Int) runUnderlying25 sizeOf38 ?_
  intro c0 _ _ h0 n1
  rw [Int.toNat_natCast] at h0
  refine sLpA s0 (n1.up 3 rfl) 0 (encPlane c0) (isAgg38 _) (sizeOf38 _) ?_
  refine sAlloc s0 zeroValue38 ?_
  intro _ _ o1
  refine pu1 ?_
  refine sTl o1 0 (encPlane c0) sizeOf38 ?_
  intro _ y0
  refine zQ ?_
  refine lA y0 0 0 4 (isAgg38 _) (sizeOf38 _) ?_
  refine cR call64 (p4_valid c0 ⟨(RdT.flat ((hp.inputsD c0 (List.mem_of_getElem? h0)).pix.up 4 (by rfl)))⟩ y0.flat) ?_
  intro _ i0
  refine pu1 <| nT ?_
  refine cBn (planeOK c0.v) (fun p1 => ?_) (fun p1 => ?_)
  rotate_left
  ·refine sR <| pu4 <| zE <| tR <| tK <| tR <| tK <| retT [nS, I (i : Int), I 1] ?_
   have hbad : (p.inputs.l.map Plane.v).all planeOK = false := all_false_at (map_at (f := Plane.v) h0) (by simpa using (by assumption : ¬ planeOK c0.v = true))
   have htw : ((p.inputs.l.map Plane.v).takeWhile planeOK).length = i := takeWhile_at hV (map_at (f := Plane.v) h0) (by simpa using (by assumption : ¬ planeOK c0.v = true))
   have hk : shpV p.v = ([], (i : Int), 1) := by unfold shpV; rw [if_pos ‹_›, if_neg (by exact fun h => Bool.false_ne_true (hbad.symm.trans h))]; exact congrArg (fun n : Nat => (([] : List Shape), (n : Int), (1 : Int))) htw
   have q1 := (i0.drops [0, 0, 0, 0])
   have r1 : Sat W _ ([] :: H :: F) := Sat.nilc q1
   have hl : ([] : List Shape) = (shpV p.v).1 := (by rw [hk])
   have hrd := OwnT.nil (enc := encShape) (E := 65) (sz := 3) fR
   rw [hl] at hrd
   exact ⟨_, _, _, _, (by rw [hk]; rfl), hrd, r1⟩
  refine kT <| rE <| pu3 ?_
  refine sL i0 0 0 (I c0.w) (isAgg3 _) ?_
  refine pu1 ?_
  refine sL i0 0 1 (I c0.h) (isAgg3 _) ?_
  refine pu1 ?_
  refine sL i0 0 2 (I c0.max_) (isAgg3 _) ?_
  refine pu1 ?_
  refine sIdxO hOzs (i : Int) i runUnderlying82 sizeOf65 ?_
  intro s1 _ _ t1 _ u1
  refine sStF i0 hOzs u1 1 i 0 s1 (⟨c0.w, c0.h, c0.max_⟩ : Shape) t1 (.agg #[I c0.w, I c0.h, I c0.max_]) [I c0.w, I c0.h, I c0.max_] sizeOf65 ?_
  intro _ v1 w1 x1
  refine nB <| rE ?_
  refine sAdd (i : Int) 1 ?_
  refine pu1 <| nT ?_
  exact ⟨(i + 1, (zs.set i (⟨c0.w, c0.h, c0.max_⟩ : Shape)), azs, nzs, kzs, v1), od, alA, (x1.dropAt 0 rfl), om, by rw [hZ]; exact set_rep (f := shpOf) (map_at (f := Plane.v) h0) om, all_succ hV (map_at (f := Plane.v) h0) ‹_›, by simp; omega, w1⟩
 refine exitE <| xB <| tN <| seqE <| seqE ?_
 have hall : (p.inputs.l.map Plane.v).all planeOK = true := all_of_take hV (by simp; omega)
 have hzs : zs = (p.inputs.l.map Plane.v).map shpOf ++ List.replicate p.stages.n ⟨0, 0, 0⟩ := by rw [hZ, List.take_of_length_le (by simp; omega)]; congr 2; omega
 have hordr := ordV_range (j := p.v) om; have hchk := ordV_chk (j := p.v) om
 refine rE <| pu3 <| nT <| blockE ?_
 refine loopA (γ := Nat × (List Shape) × (Option Addr) × Nat × Nat × Chunk) (fun ⟨i, ys, ays, nys, kys, cys⟩ => [(1, Pt g0 0), (7, I (p.inputs.n : Int)), (58, .slice o0 e0 p0), (59, I (e0 : Int)), (60, I (i : Int)), (8, .slice ays nys kys)]) (fun ⟨i, ys, ays, nys, kys, cys⟩ w => Sat W w (cys :: q0 :: [(g0, .cells (encJob p).toArray 28 (0, 0))] :: H :: F) /\ i <= e0 /\ (shpGo (p.inputs.n : Int) (p.stages.l.map Stage.v) ((ordV p.v).1) zs = shpGo (p.inputs.n : Int) (p.stages.l.map Stage.v) (((ordV p.v).1).drop i) ys) /\ (ys.length = p.inputs.n + p.stages.n) /\ OwnT encShape 65 3 ays nys kys ys cys) (fun ⟨i, ys, ays, nys, kys, cys⟩ => e0 - i) (0, zs, azs, nzs, kzs, czs) ⟨s0, om, by rfl, by rw [hzs]; simp; omega, hOzs⟩ ?_
 rintro ⟨i, ys, ays, nys, kys, cys⟩ ρ _ ⟨j0, hi, hS2, hyl, hOys⟩
 have hn_ys := hOys.len; have hl_ys := hOys.le
 refine sR <| pu1 <| nT <| seqE ?_
 refine cD ((i : Int) < (e0 : Int)) (fun z1 => ?_) (fun z1 => ?_)
 rotate_left
 ·refine exitE <| xB <| tN <| sR <| pu4 <| zE <| retT [.slice ays nys kys, I 0, I 0] ?_
  have hk0 : shpV p.v = shpGo (p.inputs.n : Int) (p.stages.l.map Stage.v) ((ordV p.v).1) zs := by unfold shpV; rw [if_pos ‹_›, if_pos (by exact hall)]; rw [hzs, <- hms, <- hmi]; rfl
  have hk : shpV p.v = (ys, 0, 0) := by rw [hk0, hS2, List.drop_of_length_le om]; rfl
  have a2 := (j0.drops [1, 1])
  have hl : ys = (shpV p.v).1 := (by rw [hk])
  have hrd := hOys
  rw [hl] at hrd
  exact ⟨_, _, _, _, (by rw [hk]; rfl), hrd, a2⟩
 refine kT <| seqE <| blockE <| sR ?_
 refine sIdxO r0 (i : Int) i runUnderlying22 sizeOf3 ?_
 intro d0 _ _ t0 b2 _
 have hox_x_51 : (p.inputs.n : Int) <= d0 /\ d0 < (p.inputs.n : Int) + (p.stages.n : Int) := by have h := hordr d0 (List.mem_of_getElem? t0); simp only [Job.v] at h; omega
 refine sLp j0 (b2.up 1 rfl) 0 (I d0) (isAgg3 _) ?_
 refine pu1 <| zS <| pu1 ?_
 refine sL j0 2 1 (.slice p.stages.a p.stages.n p.stages.k) (isAgg26 _) ?_
 refine pu2 ?_
 refine sSub d0 (p.inputs.n : Int) ?_
 refine sIdx hp.stages (d0 - (p.inputs.n : Int)) runUnderlying26 sizeOf53 ?_
 intro a0 _ _ k0 c2
 obtain ⟨hsa, hsb⟩ := chk_src hchk (s := a0.v) (List.mem_map_of_mem (List.mem_of_getElem? k0))
 have hsa2 : 0 <= a0.a /\ a0.a < (p.inputs.n : Int) + (p.stages.n : Int) := by simp only [Job.v, Stage.v] at hsa; omega
 refine sLpA j0 (c2.up 3 rfl) 0 (encStage a0) (isAgg53 _) (sizeOf53 _) ?_
 refine sAlloc j0 zeroValue53 ?_
 intro z0 _ d2
 refine sTl d2 0 (encStage a0) sizeOf53 ?_
 intro _ u0
 refine zS <| pu2 ?_
 refine sL u0 0 1 (I a0.a) (isAgg3 _) ?_
 refine sIdxO hOys a0.a (a0.a).toNat runUnderlying82 sizeOf65 ?_
 intro b0 _ _ a1 e2 _
 refine sLpA u0 (e2.up 1 rfl) 0 [I b0.w, I b0.h, I b0.max_] (isAgg65 _) (sizeOf65 _) ?_
 refine pu1 ?_
 refine sAlloc u0 zeroValue65 ?_
 intro b1 _ f2
 refine sAlloc f2 zeroValue65 ?_
 intro c1 _ g2
 refine sTl g2 1 [I b0.w, I b0.h, I b0.max_] sizeOf65 ?_
 intro _ i2
 refine sTl i2 0 [I 0, I 0, I 0] sizeOf65 ?_
 intro _ d1
 refine nT ?_
 refine cutA (γ := Shape) (fun yb => [(1, Pt g0 0), (7, I (p.inputs.n : Int)), (58, .slice o0 e0 p0), (59, I (e0 : Int)), (60, I (i : Int)), (8, .slice ays nys kys), (12, I d0), (13, Pt z0 0), (14, Pt b1 0), (15, Pt c1 0)]) (fun yb w => Sat W w ([(c1, .cells #[I yb.w, I yb.h, I yb.max_] 65 (0, 0))] :: [(b1, .cells #[I b0.w, I b0.h, I b0.max_] 65 (0, 0))] :: [(z0, .cells (encStage a0).toArray 53 (0, 0))] :: cys :: q0 :: [(g0, .cells (encJob p).toArray 28 (0, 0))] :: H :: F) /\ (if twoP a0.v then shpAt ys a0.v.b else ⟨0, 0, 0⟩) = yb) ?_ ?_
 ·refine sR ?_
  refine lA d1 2 0 18 (isAgg53 _) (sizeOf53 _) ?_
  refine cX call59 (p15_sources a0 ((hp.stagesD a0 (List.mem_of_getElem? k0)).of_mem (mem_flat1 6 (by rfl))) d1.flat) ?_
  rintro _ _ ⟨_, j2, _, _, rfl, e1, k2⟩
  have m0 := k2.unflat1
  have hn_az_86 := e1.len; have hl_az_86 := e1.le
  have k4 : 1 <= (srcs a0.v).length /\ (srcs a0.v).length <= 2 := srcs_len _
  refine pu2 <| nT ?_
  refine cE (j2 : Int) 2 (fun l2 => ?_) (fun l2 => ?_)
  rotate_left
  ·refine kT ?_
   exact ⟨(⟨0, 0, 0⟩ : Shape), alA, (m0.dropAt 0 rfl), (if_neg (fun h => by have h2 := srcs_two.2 h; omega))⟩
  have htw : twoP a0.v := srcs_two.1 om
  have hsb2 : 0 <= a0.b /\ a0.b < (p.inputs.n : Int) + (p.stages.n : Int) := by have h2 := hsb htw; simp only [Job.v, Stage.v] at h2; omega
  refine rE <| pu2 ?_
  refine sL m0 3 2 (I a0.b) (isAgg3 _) ?_
  refine sIdxO hOys a0.b (a0.b).toNat runUnderlying82 sizeOf65 ?_
  intro f0 _ _ n2 o2 _
  refine sLpA m0 (o2.up 4 rfl) 0 [I f0.w, I f0.h, I f0.max_] (isAgg65 _) (sizeOf65 _) ?_
  refine sTl m0 1 [I f0.w, I f0.h, I f0.max_] sizeOf65 ?_
  intro _ p2
  refine nT ?_
  exact ⟨f0, alA, (p2.dropAt 0 rfl), (by rw [if_pos htw]; unfold shpAt; rw [show ys[a0.v.b.toNat]? = some f0 from n2]; rfl)⟩
 rintro yb ρ _ ⟨n0, hyb⟩
 refine sR ?_
 refine lA n0 2 0 18 (isAgg53 _) (sizeOf53 _) ?_
 refine lA n0 1 0 3 (isAgg65 _) (sizeOf65 _) ?_
 refine lA n0 0 0 3 (isAgg65 _) (sizeOf65 _) ?_
 refine cR call87 (p15_of a0 b0 yb ((hp.stagesD a0 (List.mem_of_getElem? k0)).of_mem (mem_flat1 6 (by rfl))) n0.flat) ?_
 intro _ r2
 refine pu3 ?_
 refine sAlloc r2 zeroValue65 ?_
 intro _ _ s2
 refine sTl s2 0 [I ((ofV a0.v b0 yb).1.w), I ((ofV a0.v b0 yb).1.h), I ((ofV a0.v b0 yb).1.max_)] sizeOf65 ?_
 intro _ v0
 refine pu1 <| zQ <| pu2 <| nT ?_
 refine cN ((ofV a0.v b0 yb).2) 0 (fun t2 => ?_) (fun t2 => ?_)
 rotate_left
 ·refine sR <| pu5 <| zE <| tR <| tK <| tR <| tK <| retT [nS, I d0, I ((ofV a0.v b0 yb).2)] ?_
  have hk0 : shpV p.v = shpGo (p.inputs.n : Int) (p.stages.l.map Stage.v) ((ordV p.v).1) zs := by unfold shpV; rw [if_pos ‹_›, if_pos (by exact hall)]; rw [hzs, <- hms, <- hmi]; rfl
  have hstg : stgAt (p.stages.l.map Stage.v) (p.inputs.n : Int) d0 = a0.v := by unfold stgAt; rw [map_at (f := Stage.v) k0]; rfl
  have hsa3 : shpAt ys a0.v.a = b0 := by unfold shpAt; rw [show ys[a0.v.a.toNat]? = some b0 from a1]; rfl
  have hsb3 := hyb
  have hst : shpStep (p.inputs.n : Int) (p.stages.l.map Stage.v) d0 ys = ofV a0.v b0 yb := by unfold shpStep; rw [hstg, hsa3, hsb3]
  have hk : shpV p.v = ([], d0, (ofV a0.v b0 yb).2) := by rw [hk0, hS2, drop_at t0, shpGo, hst, if_neg ‹_›]
  have u2 := (v0.drops [0, 0, 0, 0, 0, 0, 0])
  have v2 : Sat W _ ([] :: H :: F) := Sat.nilc u2
  have hl : ([] : List Shape) = (shpV p.v).1 := (by rw [hk])
  have hrd := OwnT.nil (enc := encShape) (E := 65) (sz := 3) fR
  rw [hl] at hrd
  exact ⟨_, _, _, _, (by rw [hk]; rfl), hrd, v2⟩
 refine kT <| rE <| pu2 ?_
 refine lA v0 0 0 3 (isAgg65 _) (sizeOf65 _) ?_
 refine sIdxO hOys d0 (d0).toNat runUnderlying82 sizeOf65 ?_
 intro w2 _ _ x2 _ y2
 refine sStF v0 hOys y2 4 (d0).toNat 0 w2 (⟨(ofV a0.v b0 yb).1.w, (ofV a0.v b0 yb).1.h, (ofV a0.v b0 yb).1.max_⟩ : Shape) x2 (.agg #[I ((ofV a0.v b0 yb).1.w), I ((ofV a0.v b0 yb).1.h), I ((ofV a0.v b0 yb).1.max_)]) [I ((ofV a0.v b0 yb).1.w), I ((ofV a0.v b0 yb).1.h), I ((ofV a0.v b0 yb).1.max_)] sizeOf65 ?_
 intro _ z2 a3 b3
 refine nB <| rE ?_
 refine sAdd (i : Int) 1 ?_
 refine pu1 <| nT ?_
 have hstg : stgAt (p.stages.l.map Stage.v) (p.inputs.n : Int) d0 = a0.v := by unfold stgAt; rw [map_at (f := Stage.v) k0]; rfl
 have hsa3 : shpAt ys a0.v.a = b0 := by unfold shpAt; rw [show ys[a0.v.a.toNat]? = some b0 from a1]; rfl
 have hsb3 := hyb
 have hst : shpStep (p.inputs.n : Int) (p.stages.l.map Stage.v) d0 ys = ofV a0.v b0 yb := by unfold shpStep; rw [hstg, hsa3, hsb3]
 exact ⟨(i + 1, (ys.set ((d0).toNat) (⟨(ofV a0.v b0 yb).1.w, (ofV a0.v b0 yb).1.h, (ofV a0.v b0 yb).1.max_⟩ : Shape)), ays, nys, kys, z2), od, alA, (b3.drops [0, 0, 0, 0]), om, by rw [hS2, drop_at t0, shpGo, hst, if_pos ‹_›], by simp; omega, a3⟩
theorem p17_check (p:Job) (hp:Job.Ok [H] p) (hb:p.inputs.n<=1000000/\p.stages.n<=1000000/\p.outputs.n<=1000000) (hS:Sat W w (H::F)):
  Ro prog 83 #[.agg (encJob p).toArray] (.tuple #[I ((shpV p.v).2.1),I ((shpV p.v).2.2)]) W w (H::F):=by
 have hl_p_inputs:=hp.inputs.le;have hn_p_inputs:=hp.inputs.len
 have hl_p_stages:=hp.stages.le;have hn_p_stages:=hp.stages.len
 have hl_p_outputs:=hp.outputs.le;have hn_p_outputs:=hp.outputs.len
 refine callsA 15 func83 rfl<|sR<|sBox hS (.agg (encJob p).toArray) (encJob p).toArray fun _ _ a0=>pu2<|zS<|lA a0 0 0 4 (isAgg28 _) (sizeOf28 _)<|cX call135 (p17_shapes p (hp.of_mem (mem_flat1 1 (by rfl))) (od) a0.flat) ?_
 rintro _ _ ⟨_,_,_,_,rfl,b0,c0⟩
 have d0:=c0.unflat1
 have hn_az_7:=b0.len;have hl_az_7:=b0.le
 exact pu7<|zS<|pu4<|zE<|retT [I ((shpV p.v).2.1),I ((shpV p.v).2.2)]<|⟨rfl,(d0.drops [0,0])⟩
theorem tape_new {cs:List Chunk} (a:Option Addr) (n k:Nat) (hS:Sat W w cs):
    Calls prog 11 #[.slice a n k] w fun e w'=>∃p:Nat,e= .returned (.pointer (some ⟨p,0,none⟩))/\Sat W w' ([(p, .cells #[.slice a n k, .int .i64 0] 81 (0,0))]::cs):=by
  refine callsA 6 func11 rfl ?_
  refine seqE<|rE<|pu1<|nilO<|tN<|seqE<|rE<|pu2 ?_
  refine sBox hS (.agg #[.slice a n k, .int .i64 0]) #[.slice a n k, .int .i64 0] ?_
  intro b_1 w_2 hS_3
  refine pu1<|nilO<|tN<|retE<|retT [.pointer (some ⟨b_1,0,none⟩)]<|?_
  exact ⟨_,rfl,hS_3⟩
theorem tmod_bd (v n:Int) (h:0<n):-n<v.tmod n/\v.tmod n<n:=by
  have h1:=Int.tmod_lt_of_pos v h
  have h2:=Int.lt_tmod_of_pos v h
  omega
theorem mod_ok {cs:List Chunk} (v n:Int) (hn:0<n) (hn2:n<=4611686018427387904) (hS:Sat W w cs):
  Calls prog 57 #[I v,I n] w fun e w'=>∃r:Int,e= .returned (I r)/\(0<=r/\r<n)/\Sat W w' cs:=by
 have hm:=tmod_bd v n hn
 refine callsA 15 func57 rfl<|sR<|pu1<|zS<|pu2<|sRem v n<|pu1<|zQ<|pu2<|nT<|cD ((v.tmod n)<0) (fun a0=>?_) (fun a0=>?_)
 rotate_left
 ·exact kS<|pu2<|zE<|retT [I (v.tmod n)]<|⟨_,rfl,om,hS⟩
 exact rE<|pu2<|sAdd (v.tmod n) n<|pu1<|zS<|pu2<|zE<|retT [I ((v.tmod n)+n)]<|⟨_,rfl,om,hS⟩
theorem tape_next {p:Nat} {a:Option Addr} {n k:Nat} {i:Int} {xs:List Int} (hR:RdT Go.E.encI 1 [H] a n k xs) (hi:0<=i/\i<=n) (hS:Sat W w ([(p, .cells #[.slice a n k,I i] 81 (0,0))]::H::F)) (m:Int) (hm:m<=4611686018427387904):
  Calls prog 15 #[Pt p 0,I m] w fun e w'=>∃r:Int,e= .returned (I r)/\(0<=r/\(r<m\/r=0))/\∃i':Int,(0<=i'/\i'<=n)/\Sat W w' ([(p, .cells #[.slice a n k,I i'] 81 (0,0))]::H::F):=by
 have hle:=hR.le
 refine callsA 39 func15 rfl<|sR<|pu1<|nT<|seqE<|seqE ?_
 by_cases e0:(m:Int)<1
 ·refine drawE [] [] [(true,[0,1,2]),(true,[3,4,5,7,8,9,6,10,11,12,13])] rfl kr trivial ?_
  have h0:=hS.drew
  exact wU [0,1,2]<|wFix 7 _ true (decide_eq_true e0)<|wU [3,4,5,7,8,9,6,10,11,12,13]<|wN<|tN<|cTt<|sR<|pu1<|zR<|retT [I 0]<|⟨_,rfl,om,_,om,h0⟩
 refine drawE [] [(6,⟨p,1,none⟩,I i),(10,⟨p,0,none⟩, .slice a n k)] [(true,[0,1,2]),(true,[3,4,5,7,8,9]),(true,[6]),(true,[10]),(true,[11,12,13])] rfl kr ⟨cI hS 0,cI hS 0,trivial⟩ ?_
 have b0:=hS.drew
 refine wU [0,1,2]<|wFix 7 _ false (decide_eq_false e0)<|wU [3,4,5,7,8,9]<|wLd (I i) 0 isAgg3<|wLd (.slice a n k) 1 isAgg22<|wU [11,12,13]<|wN<|tN<|cD (i>=(n:Int)) (fun i0=>?_) (fun i0=>?_)
 ·exact sR<|pu1<|zR<|retT [I 0]<|⟨_,rfl,om,_,om,b0⟩
 refine kS<|pu3<|sL b0 0 1 (I i) (isAgg3 _)<|sAdd i 1<|pu2<|sT b0 0 1 (I (i+1)) [I (i+1)] #[.slice a n k,I (i+1)] sizeOf3 fun _ a0=>nT<|seqE ?_
 obtain ⟨c0,f0,g0,o0,j0,k0⟩:=RdT.elem hR ((i+1)-1)
 refine drawE [12] [(3,⟨p,0,none⟩, .slice a n k),(7,⟨p,1,none⟩,I (i+1)),(10,⟨f0,g0,none⟩,I c0)] [(true,[0,1,2,4,5,6,11]),(true,[3]),(true,[7]),(true,[8]),(true,[9]),(true,[10]),(false,[12]),(true,[13])] rfl kr ⟨cI a0 0,cI a0 0, .inr ((j0.up 1 rfl).cell a0 (k:=0) rfl),trivial⟩ ?_
 have l0:=a0.drew
 refine wU [0,1,2,4,5,6,11]<|wLd (.slice a n k) 0 isAgg22<|wLd (I (i+1)) 1 isAgg3<|wSub (i+1) 1<|wY (.pointer (some ⟨f0,g0,none⟩)) rfl (fun w _=>Y_idx (a:=a) (i:=((i+1)-1)) (len:=n) (cap:=k) rfl runUnderlying22 sizeOf3 kr kr k0)<|wLd (I c0) 2 isAgg3<|wO rfl<|cX call57 (mod_ok c0 m om om l0) ?_
 rintro _ _ ⟨m0,rfl,_,d0⟩
 refine nilO ⟨⟨cI d0 0,cI d0 0,dI,trivial⟩,?_⟩
 exact wU [13]<|wN<|tN<|retE<|retT [I m0]<|⟨_,rfl,om,_,om,d0⟩
theorem tape_pick {p:Nat} {a:Option Addr} {n k:Nat} {i:Int} {xs:List Int} (hR:RdT Go.E.encI 1 [H] a n k xs) (hi:0<=i/\i<=n) (hS:Sat W w ([(p, .cells #[.slice a n k,I i] 81 (0,0))]::H::F)) {b:Option Addr} {m cap:Nat} {l:List Int} (hL:RdT Go.E.encI 1 [H] b m cap l) (h0:0<m) (hm:m<=1000000):
  Calls prog 42 #[Pt p 0, .slice b m cap] w fun e w'=>∃x:Int,e= .returned (I x)/\x∈l/\∃i':Int,(0<=i'/\i'<=n)/\Sat W w' ([(p, .cells #[.slice a n k,I i'] 81 (0,0))]::H::F):=by
 have hle:=hR.le
 refine callsA 12 func42 rfl<|sR<|pu1<|zS<|pu4<|cX call15 (tape_next (RdT.flat (hR.up 0 (by rfl))) om hS.flat1 (m:Int) om) ?_
 rintro _ _ ⟨c0,rfl,_,_,_,d0⟩
 have a0:=d0.unflat1
 exact sIdx hL c0 runUnderlying22 sizeOf3 fun b0 _ _ e0 f0=>sLp a0 (f0.up 1 rfl) 0 (I b0) (isAgg3 _)<|pu1<|zE<|retT [I b0]<|⟨_,rfl,List.mem_of_getElem? e0,_,om,a0⟩
end Go.Proofs.YtmlhcafjelkjfaaGreat
