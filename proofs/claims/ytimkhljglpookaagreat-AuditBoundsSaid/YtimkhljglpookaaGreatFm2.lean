import Derived.Test.YtimkhljglpookaaGreatFm
namespace Go.Proofs.YtimkhljglpookaaGreat
open Go Go.E
set_option linter.unusedVariables false
set_option linter.unusedSimpArgs false
set_option linter.unnecessarySimpa false
set_option maxRecDepth 100000
set_option maxHeartbeats 2000000
variable {W w : World} {H : Chunk} {F : List Chunk}
-- squeezed
instance : Inhabited TaskV := ⟨⟨0, 0, 0, 0, 0, 0, [], 0, 0⟩⟩
def evt (k x : Int) : Evt := ⟨k, x, 0, 0, 0, 0, 0⟩
def spill1 (F : FS) (x : Int) (r : Ref) (band : Int) : FS :=
  if pushC (F.dq.getD x.toNat default) = 0 then { F with dq := F.dq.set x.toNat (pushD (F.dq.getD x.toNat default) r) }
  else { F with q := pushQ F.q r band, st := { F.st with spills := F.st.spills + 1 } }
def spillF (F : FS) (x job band : Int) (l : List Int) : FS := l.foldl (fun F t => spill1 F x ⟨job, t⟩ band) F
theorem spill_take {F : FS} {x job band : Int} {l : List Int} {i : Nat} {t : Int} (h : l[i]? = some t) : spillF F x job band (l.take (i + 1)) = spill1 (spillF F x job band (l.take i)) x ⟨job, t⟩ band := by
  unfold spillF
  rw [take_succ_at h, List.foldl_append]; rfl
def microF (F : FS) (x : Int) : FS × Evt :=
  let wk := F.ws.getD x.toNat default
  let j := jobAt F wk.heldJob
  let t := j.tasks.getD wk.heldTask.toNat default
  let a := F.ar.getD x.toNat default
  if wk.phase = 1 then
    let a2 := if t.scratch > 0 then allocA (markA a) t.scratch 16 else markA a
    ({ F with ar := F.ar.set x.toNat a2, ws := F.ws.set x.toNat { wk with phase := 2, used := a2.used, high := a2.high } }, evt 6 x)
  else if wk.phase = 2 then
    ({ F with ws := F.ws.set x.toNat { wk with phase := if wk.row + 1 = t.rows then 3 else 2, row := wk.row + 1 } }, evt 7 x)
  else
    let B := comB j.B wk.heldTask wk.attempt
    let F1 : FS := { F with jobs := F.jobs.set wk.heldJob.toNat { j with B := B.1 }, ar := F.ar.set x.toNat (relA a), ws := F.ws.set x.toNat ⟨0, 0, 0, 0, 0, 0, (relA a).high⟩, st := { F.st with commits := F.st.commits + 1 } }
    let F2 := spillF F1 x wk.heldJob j.band B.2
    (if doneOf B.1 = j.tasks.length then { F2 with jobs := F.jobs.set wk.heldJob.toNat { j with B := B.1, running := false } } else F2, ⟨8, x, 0, 0, wk.heldJob, wk.heldTask, 0⟩)
theorem com_len {B : BS} {i a : Int} : (comB B i a).2.length ≤ B.deps.length := by
  unfold comB
  split
  · unfold rdyB; rw [List.length_map]; exact Nat.le_trans (List.length_filter_le _ _) (by simp)
  · simp
theorem f_micro {p : Nat} {F : FS} {M : Chunk} {F0 : List Chunk} (hR : FarmR p F M) {j : JS} {K : Int} {v0 : Wkr} (x : Int) (hx : 0 ≤ x ∧ x < F.ws.length) (hal_ : F.ar.length = F.ws.length) (hdl_ : F.dq.length = F.ws.length) (hv0 : F.ws[x.toNat]? = some v0) (hr : 0 ≤ v0.heldJob ∧ v0.heldJob < 64) (hj : F.jobs[v0.heldJob.toNat]? = some j) (ha : j.added = true) (hBW : BWf j.B K) (hrt : 0 ≤ v0.heldTask ∧ v0.heldTask < j.tasks.length) (htl : j.tasks.length ≤ 4096 ∧ j.B.deps.length = j.tasks.length) (hbd : 0 ≤ j.band ∧ j.band < 4) (hrow : 0 ≤ v0.row ∧ v0.row ≤ 4096) (hst : 0 ≤ F.st.commits ∧ F.st.commits < 4611686018427387904 ∧ 0 ≤ F.st.spills ∧ F.st.spills < 4611686018427387904) (hS : Sat W w (M :: H :: F0)) :
  Calls Tryz.prog 47 #[Pt p 0, I x] w fun e w' => ∃ M' : Chunk, e = .returned (.agg (encEvt (microF F x).2).toArray) ∧ FarmR p ((microF F x).1) M' ∧ Sat W w' (M' :: H :: F0) := by
 obtain ⟨wa, aa, da, wn, wk, an, ak, dn, dk, q, xs, ap, dp, Wc, Ac, Dc, Qc, acs, dcs, jcs, rfl, hOw, hOa, hOd, hAs, hDs, hQ, hJs, hxl⟩ := hR
 have hS : Sat W _ ((Tri p 86 (preF F.cfg wa wn wk aa an ak da dn dk q) (xs.flatMap encFJob) (encStt F.st)) :: Wc :: Ac :: Dc :: acs.flatten :: dcs.flatten :: Qc :: jcs.flatten :: H :: F0) := Sat.perm hS (by simp)
 have hwl := hOw.len; have hwk := hOw.le; have hal := hOa.len; have hak := hOa.le; have hdl := hOd.len; have hdk := hOd.le; have has1 := hAs.1; have hds1 := hDs.1; have hjs1 := hJs.1
 obtain ⟨oa, m0⟩ := at_some hxl (k := (v0.heldJob.toNat)) om
 obtain ⟨b0, pa, b1, n1, x4⟩ := Obs.get hJs m0
 obtain rfl : b0 = j := Option.some.inj (b1.symm.trans hj)
 obtain ⟨s0, p0, t0, i1, y0, c0, d0, rfl, rfl, g1, r1, u0, w1⟩ := x4.open ha
 have y4 := (hS.pick 7 rfl)
 have z4 := Sat.openN (A := []) (v0.heldJob.toNat) n1 y4
 have a5 : Sat W _ (c0 :: d0 :: (jcs.eraseIdx (v0.heldJob.toNat)).flatten :: (Tri p 86 (preF F.cfg wa wn wk aa an ak da dn dk q) (xs.flatMap encFJob) (encStt F.st)) :: Wc :: Ac :: Dc :: acs.flatten :: dcs.flatten :: Qc :: H :: F0) := Sat.perm z4 (by simp)
 have hn_ta_7 := g1.len; have hl_ta_7 := g1.le; have hm_ta_7 := congrArg List.length u0; rw [List.length_map] at hm_ta_7
 have hv00 := hv0
 refine callsA 211 Tryz.func47 rfl <| sR <| sAlloc a5 Tryz.zeroValue43 fun g0 _ s2 => nT <| sR <| pu3 <| sLp s2 (ptr_up 4 rfl tri_pre) 8 (.slice wa wn wk) (Tryz.isAgg77 _) <| pu1 <| sIdxO hOw x (x).toNat Tryz.runUnderlying77 Tryz.sizeOf101 fun b5 g2 h2 h1 o1 w0 => ?_
 obtain rfl : v0 = b5 := Option.some.inj (hv0.symm.trans h1)
 refine pu1 <| nT <| seqE <| drawE [] [(5, ⟨g2, h2 + (x).toNat * 7 + 1 + 0, none⟩, I v0.heldJob)] [(true, [0, 1, 2, 3, 4, 6, 7]), (true, [5]), (true, [8]), (true, [9])] rfl kr ⟨.inr ((o1.up 5 rfl).cell s2 (k := 1) rfl), trivial⟩ ?_
 have z0 := s2.drew
 refine wU [0, 1, 2, 3, 4, 6, 7] <| wLd (I v0.heldJob) 0 Tryz.isAgg3 <| wY (.pointer (some ⟨p, 12 + (v0.heldJob.toNat) * 5, none⟩)) rfl (fun w _ => Y_idxA (b := p) (off := 12) v0.heldJob (v0.heldJob.toNat) Tryz.runUnderlying84 Tryz.sizeOf83) <| wU [9] <| wN <| thenK_n <| seqE ?_
 obtain ⟨a0, d1, e1, s1, h0, c5⟩ := RdT.elem g1 v0.heldTask
 refine drawE [11, 12] [(3, ⟨p, 12 + (v0.heldJob.toNat) * 5 + 3, none⟩, .slice s0 p0 t0), (8, ⟨g2, h2 + (x).toNat * 7 + 1 + 1, none⟩, I v0.heldTask), (10, ⟨d1, e1 + 0, none⟩, I a0.stage), (10, ⟨d1, e1 + 1, none⟩, I a0.part), (10, ⟨d1, e1 + 2, none⟩, I a0.rectX0), (10, ⟨d1, e1 + 3, none⟩, I a0.rectY0), (10, ⟨d1, e1 + 4, none⟩, I a0.rectX1), (10, ⟨d1, e1 + 5, none⟩, I a0.rectY1), (10, ⟨d1, e1 + 6, none⟩, .slice a0.deps.a a0.deps.n a0.deps.k), (10, ⟨d1, e1 + 7, none⟩, I a0.rows), (10, ⟨d1, e1 + 8, none⟩, I a0.scratch)] [(true, [0, 1, 2, 4, 5, 6, 7]), (true, [3]), (true, [8]), (true, [9]), (true, [10]), (false, [11]), (false, [12])] rfl kr ⟨.inr (cell_up z0 4 rfl (k := 3) (tri_el (sz := 5) (n0 := 12) fR m0) rfl), .inr ((o1.up 5 rfl).cell z0 (k := 2) rfl), .inr ((h0.up 1 rfl).cell z0 (k := 0) rfl), .inr ((h0.up 1 rfl).cell z0 (k := 1) rfl), .inr ((h0.up 1 rfl).cell z0 (k := 2) rfl), .inr ((h0.up 1 rfl).cell z0 (k := 3) rfl), .inr ((h0.up 1 rfl).cell z0 (k := 4) rfl), .inr ((h0.up 1 rfl).cell z0 (k := 5) rfl), .inr ((h0.up 1 rfl).cell z0 (k := 6) rfl), .inr ((h0.up 1 rfl).cell z0 (k := 7) rfl), .inr ((h0.up 1 rfl).cell z0 (k := 8) rfl), trivial⟩ ?_
 have d5 := z0.drew
 refine wU [0, 1, 2, 4, 5, 6, 7] <| wLd (.slice s0 p0 t0) 0 Tryz.isAgg45 <| wLd (I v0.heldTask) 1 Tryz.isAgg3 <| wY (.pointer (some ⟨d1, e1, none⟩)) rfl (fun w _ => Y_idx (a := s0) (i := v0.heldTask) (len := p0) (cap := t0) rfl Tryz.runUnderlying45 Tryz.sizeOf49 kr kr c5) <| wY (.agg (encTask a0).toArray) rfl (fun w hF => Y_loadF rfl (Tryz.isAgg49 w) (Tryz.sizeOf49 w) kr rfl ⟨hF 2 _ _ rfl, hF 3 _ _ rfl, hF 4 _ _ rfl, hF 5 _ _ rfl, hF 6 _ _ rfl, hF 7 _ _ rfl, hF 8 _ _ rfl, hF 9 _ _ rfl, hF 10 _ _ rfl, trivial⟩) <| wO rfl <| sAlloc d5 Tryz.zeroValue49 fun e0 _ a1 => ?_
 refine nilO ⟨⟨.inr (cell_up a1 5 rfl (k := 3) (tri_el (sz := 5) (n0 := 12) fR m0) rfl), .inr ((o1.up 6 rfl).cell a1 (k := 2) rfl), .inr ((h0.up 2 rfl).cell a1 (k := 0) rfl), .inr ((h0.up 2 rfl).cell a1 (k := 1) rfl), .inr ((h0.up 2 rfl).cell a1 (k := 2) rfl), .inr ((h0.up 2 rfl).cell a1 (k := 3) rfl), .inr ((h0.up 2 rfl).cell a1 (k := 4) rfl), .inr ((h0.up 2 rfl).cell a1 (k := 5) rfl), .inr ((h0.up 2 rfl).cell a1 (k := 6) rfl), .inr ((h0.up 2 rfl).cell a1 (k := 7) rfl), .inr ((h0.up 2 rfl).cell a1 (k := 8) rfl), trivial⟩, ?_⟩
 refine wO rfl <| sT a1 0 0 (.agg (encTask a0).toArray) (encTask a0) (encTask a0).toArray Tryz.sizeOf49 fun _ j1 => nilO ⟨dA, ?_⟩
 refine wN <| thenK_n <| seqE <| sR <| pu3 <| sLp j1 (o1.up 6 rfl) 0 (I v0.phase) (Tryz.isAgg3 _) <| nT <| blockE <| sR <| pu2 <| nT <| cE v0.phase 1 (fun e5 => ?_) (fun e5 => ?_)
 ·refine sR <| pu3 <| sLp j1 (ptr_up 5 rfl tri_pre) 9 (.slice aa an ak) (Tryz.isAgg78 _) <| pu1 <| sIdxO hOa x (x).toNat Tryz.runUnderlying78 Tryz.sizeOf87 fun q0 _ _ x1 f5 _ => sLp j1 (f5.up 7 rfl) 0 (Pt q0 0) (Tryz.isAgg87 _) ?_
  obtain ⟨f0, xa, i3, k0, g5⟩ := Obs.get hAs x1
  have h5 := (j1.pick 9 rfl)
  have i5 := Sat.openN (A := []) x.toNat k0 h5
  refine cX Tryz.call70 (ar_mark g5  (Sat.flat1 i5)) ?_
  rintro _ _ ⟨x0, rfl, i2, j5⟩
  have k5 := Sat.unflat1 j5
  have l5 := ((k5.pick 1 rfl).pick 1 rfl)
  have f1 := Sat.shutN (d := x0) (A := []) x.toNat k0 l5
  have j3 := Obs.set hAs x1 i2
  refine nT <| seqE <| sR <| pu1 <| sL f1 1 8 (I a0.scratch) (Tryz.isAgg3 _) <| pu1 <| nT <| cD (a0.scratch > 0) (fun m5 => ?_) (fun m5 => ?_)
  rotate_left
  ·refine kT <| seqE ?_
   obtain ⟨n5, j2, k2, o5, t2, k3, za⟩ := OwnT.elem hOa x
   obtain rfl : q0 = n5 := Option.some.inj (x1.symm.trans o5)
   refine drawE [10, 18, 21, 24, 27] [(6, ⟨p, 9, none⟩, .slice aa an ak), (9, ⟨j2, k2 + (x).toNat * 1, none⟩, Pt q0 0), (14, ⟨p, 9, none⟩, .slice aa an ak), (17, ⟨j2, k2 + (x).toNat * 1, none⟩, Pt q0 0)] [(true, [0, 1, 2, 3, 4, 5, 7, 11, 12, 13, 15]), (true, [6]), (true, [8]), (true, [9]), (true, [14]), (true, [16]), (true, [17]), (false, [10]), (false, [18]), (true, [19, 20]), (false, [21]), (true, [22, 23]), (false, [24]), (true, [25, 26]), (false, [27])] rfl kr ⟨.inr (cell_up f1 6 rfl (k := 9) tri_pre rfl), .inr ((t2.up 8 rfl).cell f1 (k := 0) rfl), .inr (cell_up f1 6 rfl (k := 9) tri_pre rfl), .inr ((t2.up 8 rfl).cell f1 (k := 0) rfl), trivial⟩ ?_
   have p5 := f1.drew
   refine wU [0, 1, 2, 3, 4, 5, 7, 11, 12, 13, 15] <| wLd (.slice aa an ak) 0 Tryz.isAgg78 <| wY (.pointer (some ⟨j2, k2 + (x).toNat * 1, none⟩)) rfl (fun w _ => Y_idx (a := aa) (i := x) (len := an) (cap := ak) rfl Tryz.runUnderlying78 Tryz.sizeOf87 kr kr k3) <| wLd (Pt q0 0) 1 Tryz.isAgg87 <| wLd (.slice aa an ak) 2 Tryz.isAgg78 <| wY (.pointer (some ⟨j2, k2 + (x).toNat * 1, none⟩)) rfl (fun w _ => Y_idx (a := aa) (i := x) (len := an) (cap := ak) rfl Tryz.runUnderlying78 Tryz.sizeOf87 kr kr k3) <| wLd (Pt q0 0) 3 Tryz.isAgg87 <| wO rfl ?_
   have q5 := Sat.openN (A := []) x.toNat (set_at k0) p5
   refine cX Tryz.call72 (ar_used i2  (Sat.flat1 q5)) ?_
   rintro _ _ ⟨rfl, r5⟩
   have s5 := Sat.unflat1 r5
   have t5 := ((s5.pick 1 rfl).pick 1 rfl)
   have y1 := Sat.shutN (d := x0) (A := []) x.toNat (set_at k0) t5
   rw [set_same (set_at k0)] at y1
   refine nilO ⟨⟨.inr (cell_up y1 6 rfl (k := 9) tri_pre rfl), dI, .inr (cell_up y1 6 rfl (k := 9) tri_pre rfl), .inr ((t2.up 8 rfl).cell y1 (k := 0) rfl), trivial⟩, ?_⟩
   refine wO rfl ?_
   have u5 := Sat.openN (A := []) x.toNat (set_at k0) y1
   refine cX Tryz.call69 (ar_high i2  (Sat.flat1 u5)) ?_
   rintro _ _ ⟨rfl, v5⟩
   have w5 := Sat.unflat1 v5
   have x5 := ((w5.pick 1 rfl).pick 1 rfl)
   have l2 := Sat.shutN (d := x0) (A := []) x.toNat (set_at k0) x5
   rw [set_same (set_at k0)] at l2
   refine nilO ⟨⟨.inr (cell_up l2 6 rfl (k := 9) tri_pre rfl), dI, .inr (cell_up l2 6 rfl (k := 9) tri_pre rfl), dI, trivial⟩, ?_⟩
   refine wU [19, 20] <| wO rfl <| sStF l2 hOw w0 7 (x).toNat 0 v0 (⟨2, v0.heldJob, v0.heldTask, v0.attempt, v0.row, v0.used, v0.high⟩ : Wkr) h1 (I 2) [I 2] Tryz.sizeOf3 fun _ _ l3 y5 => nilO ⟨dA, ?_⟩
   refine wU [22, 23] <| wO rfl ?_
   have m3 := set_at (y := (⟨2, v0.heldJob, v0.heldTask, v0.attempt, v0.row, v0.used, v0.high⟩ : Wkr)) h1
   have eb := OwnT.ptr l3 w0 m3
   refine sStF y5 l3 w0 7 (x).toNat 5 (⟨2, v0.heldJob, v0.heldTask, v0.attempt, v0.row, v0.used, v0.high⟩ : Wkr) (⟨2, v0.heldJob, v0.heldTask, v0.attempt, v0.row, ((markA f0)).used, v0.high⟩ : Wkr) m3 (I (((markA f0)).used)) [I (((markA f0)).used)] Tryz.sizeOf3 fun _ _ u2 z5 => ?_
   rw [List.set_set] at u2
   refine nilO ⟨dA, ?_⟩
   refine wU [25, 26] <| wO rfl ?_
   have n3 := set_at (y := (⟨2, v0.heldJob, v0.heldTask, v0.attempt, v0.row, ((markA f0)).used, v0.high⟩ : Wkr)) h1
   have hb := OwnT.ptr u2 w0 n3
   refine sStF z5 u2 w0 7 (x).toNat 6 (⟨2, v0.heldJob, v0.heldTask, v0.attempt, v0.row, ((markA f0)).used, v0.high⟩ : Wkr) (⟨2, v0.heldJob, v0.heldTask, v0.attempt, v0.row, ((markA f0)).used, ((markA f0)).high⟩ : Wkr) n3 (I (((markA f0)).high)) [I (((markA f0)).high)] Tryz.sizeOf3 fun _ z1 o3 a6 => ?_
   rw [List.set_set] at o3
   refine nilO ⟨dA, ?_⟩
   refine wN <| thenK_n <| sR <| pu2 <| sT a6 2 0 (.agg #[I 6, I x, I 0, I 0, I 0, I 0, I 0]) [I 6, I x, I 0, I 0, I 0, I 0, I 0] #[I 6, I x, I 0, I 0, I 0, I 0, I 0] Tryz.sizeOf43 fun _ p3 => nT <| retE <| blockK_r <| thenK_r <| retN (vs := [.agg #[I 6, I x, I 0, I 0, I 0, I 0, I 0]]) rfl (.cons (.cell _ _ _ _ kr (lvA p3 2 0 [I 6, I x, I 0, I 0, I 0, I 0, I 0] (Tryz.isAgg43 _) (Tryz.sizeOf43 _) rfl rfl rfl)) .nil) ?_
   have htk : b0.tasks[v0.heldTask.toNat]? = some a0.v := by rw [← u0, List.getElem?_map, s1]; rfl
   have b6 := (((p3.pick 5 rfl).pick 5 rfl).pick 5 rfl)
   have c6 : Sat W _ ((c0 ++ d0) :: (jcs.eraseIdx (v0.heldJob.toNat)).flatten :: (acs.set x.toNat x0).flatten :: [(e0, .cells (encTask a0).toArray 49 (0, 0))] :: [(g0, .cells #[I 6, I x, I 0, I 0, I 0, I 0, I 0] 43 (0, 0))] :: (Tri p 86 (preF F.cfg wa wn wk aa an ak da dn dk q) (xs.flatMap encFJob) (encStt F.st)) :: z1 :: Ac :: Dc :: dcs.flatten :: Qc :: H :: F0) := Sat.perm (show Sat W _ (c0 :: d0 :: (jcs.eraseIdx (v0.heldJob.toNat)).flatten :: (acs.set x.toNat x0).flatten :: [(e0, .cells (encTask a0).toArray 49 (0, 0))] :: [(g0, .cells #[I 6, I x, I 0, I 0, I 0, I 0, I 0] 43 (0, 0))] :: (Tri p 86 (preF F.cfg wa wn wk aa an ak da dn dk q) (xs.flatMap encFJob) (encStt F.st)) :: z1 :: Ac :: Dc :: dcs.flatten :: Qc :: H :: F0) from b6) (by simp)
   have d6 := Sat.shutN (d := c0 ++ d0) (A := []) (v0.heldJob.toNat) n1 c6
   have e6 := Obs.set hJs m0 (JobM.mk (s := b0) ha g1 r1 u0 w1)
   have hjs_ := set_same b1
   have f6 : Sat W _ (z1 :: Ac :: Dc :: (acs.set x.toNat x0).flatten :: dcs.flatten :: Qc :: (jcs.set (v0.heldJob.toNat) (c0 ++ d0)).flatten :: [(e0, .cells (encTask a0).toArray 49 (0, 0))] :: [(g0, .cells #[I 6, I x, I 0, I 0, I 0, I 0, I 0] 43 (0, 0))] :: (Tri p 86 (preF F.cfg wa wn wk aa an ak da dn dk q) (xs.flatMap encFJob) (encStt F.st)) :: H :: F0) := ((((((d6.pick 9 rfl).pick 9 rfl).pick 3 rfl).pick 9 rfl).pick 9 rfl).pick 9 rfl)
   have g6 := (((f6.pick 9 rfl).dropAt 8 rfl).dropAt 8 rfl)
   have h6 : Sat W _ (((Tri p 86 (preF F.cfg wa wn wk aa an ak da dn dk q) (xs.flatMap encFJob) (encStt F.st)) ++ (z1 ++ (Ac ++ (Dc ++ ((acs.set x.toNat x0).flatten ++ (dcs.flatten ++ (Qc ++ (jcs.set (v0.heldJob.toNat) (c0 ++ d0)).flatten))))))) :: H :: F0) := Sat.perm (show Sat W _ ((Tri p 86 (preF F.cfg wa wn wk aa an ak da dn dk q) (xs.flatMap encFJob) (encStt F.st)) :: z1 :: Ac :: Dc :: (acs.set x.toNat x0).flatten :: dcs.flatten :: Qc :: (jcs.set (v0.heldJob.toNat) (c0 ++ d0)).flatten :: H :: F0) from g6) (by simp)
   have he : (microF F x).1 = (⟨F.cfg, (F.ws.set ((x).toNat) (⟨2, v0.heldJob, v0.heldTask, v0.attempt, v0.row, ((markA f0)).used, ((markA f0)).high⟩ : Wkr)), (F.ar.set x.toNat (markA f0)), F.dq, F.q, (F.jobs.set (v0.heldJob.toNat) b0), F.st⟩ : FS) := by unfold microF jobAt; simp only [getD_some hv0, getD_some b1, getD_some htk, getD_some i3]; rw [if_pos om]; rw [hjs_]; rw [if_neg (show ¬ a0.v.scratch > 0 from show ¬ a0.scratch > 0 by omega)]
   exact ⟨_, by unfold microF; simp only [getD_some hv0]; rw [if_pos om]; rfl, by rw [he]; exact ⟨_, _, _, _, _, _, _, _, _, _, _, _, _, _, _, _, _, _, _, _, rfl, o3, hOa, hOd, j3, hDs, hQ, e6, hxl⟩, h6⟩
  obtain ⟨i6, q3, r3, s3, j6, k6, kb⟩ := OwnT.elem hOa x
  obtain rfl : q0 = i6 := Option.some.inj (x1.symm.trans s3)
  refine drawE [9] [(3, ⟨p, 9, none⟩, .slice aa an ak), (6, ⟨q3, r3 + (x).toNat * 1, none⟩, Pt q0 0), (8, ⟨e0, 8, none⟩, I a0.scratch)] [(true, [0, 1, 2, 4, 7]), (true, [3]), (true, [5]), (true, [6]), (true, [8]), (false, [9])] rfl kr ⟨.inr (cell_up f1 6 rfl (k := 9) tri_pre rfl), .inr ((j6.up 8 rfl).cell f1 (k := 0) rfl), .inr (f1.cell 1 rfl rfl), trivial⟩ ?_
  have l6 := f1.drew
  refine wU [0, 1, 2, 4, 7] <| wLd (.slice aa an ak) 0 Tryz.isAgg78 <| wY (.pointer (some ⟨q3, r3 + (x).toNat * 1, none⟩)) rfl (fun w _ => Y_idx (a := aa) (i := x) (len := an) (cap := ak) rfl Tryz.runUnderlying78 Tryz.sizeOf87 kr kr k6) <| wLd (Pt q0 0) 1 Tryz.isAgg87 <| wLd (I a0.scratch) 2 Tryz.isAgg3 <| wO rfl ?_
  have m6 := Sat.openN (A := []) x.toNat (set_at k0) l6
  refine cX Tryz.call71 (ar_alloc i2 a0.scratch 16 (Sat.flat1 m6)) ?_
  rintro _ _ ⟨k1, _, rfl, v2, n6⟩
  have o6 := Sat.unflat1 n6
  have p6 := ((o6.pick 1 rfl).pick 1 rfl)
  have t1 := Sat.shutN (d := k1) (A := []) x.toNat (set_at k0) p6
  have q6 := Obs.set j3 s3 v2
  refine nilO ⟨⟨.inr (cell_up t1 6 rfl (k := 9) tri_pre rfl), dI, dI, trivial⟩, ?_⟩
  refine wN <| thenK_n <| seqE ?_
  obtain ⟨r6, m2, n2, s6, w2, t3, nb⟩ := OwnT.elem hOa x
  obtain rfl : q0 = r6 := Option.some.inj (x1.symm.trans s6)
  refine drawE [10, 18, 21, 24, 27] [(6, ⟨p, 9, none⟩, .slice aa an ak), (9, ⟨m2, n2 + (x).toNat * 1, none⟩, Pt q0 0), (14, ⟨p, 9, none⟩, .slice aa an ak), (17, ⟨m2, n2 + (x).toNat * 1, none⟩, Pt q0 0)] [(true, [0, 1, 2, 3, 4, 5, 7, 11, 12, 13, 15]), (true, [6]), (true, [8]), (true, [9]), (true, [14]), (true, [16]), (true, [17]), (false, [10]), (false, [18]), (true, [19, 20]), (false, [21]), (true, [22, 23]), (false, [24]), (true, [25, 26]), (false, [27])] rfl kr ⟨.inr (cell_up t1 6 rfl (k := 9) tri_pre rfl), .inr ((w2.up 8 rfl).cell t1 (k := 0) rfl), .inr (cell_up t1 6 rfl (k := 9) tri_pre rfl), .inr ((w2.up 8 rfl).cell t1 (k := 0) rfl), trivial⟩ ?_
  have t6 := t1.drew
  refine wU [0, 1, 2, 3, 4, 5, 7, 11, 12, 13, 15] <| wLd (.slice aa an ak) 0 Tryz.isAgg78 <| wY (.pointer (some ⟨m2, n2 + (x).toNat * 1, none⟩)) rfl (fun w _ => Y_idx (a := aa) (i := x) (len := an) (cap := ak) rfl Tryz.runUnderlying78 Tryz.sizeOf87 kr kr t3) <| wLd (Pt q0 0) 1 Tryz.isAgg87 <| wLd (.slice aa an ak) 2 Tryz.isAgg78 <| wY (.pointer (some ⟨m2, n2 + (x).toNat * 1, none⟩)) rfl (fun w _ => Y_idx (a := aa) (i := x) (len := an) (cap := ak) rfl Tryz.runUnderlying78 Tryz.sizeOf87 kr kr t3) <| wLd (Pt q0 0) 3 Tryz.isAgg87 <| wO rfl ?_
  have u6 := Sat.openN (A := []) x.toNat (set_at (set_at k0)) t6
  refine cX Tryz.call72 (ar_used v2  (Sat.flat1 u6)) ?_
  rintro _ _ ⟨rfl, v6⟩
  have w6 := Sat.unflat1 v6
  have x6 := ((w6.pick 1 rfl).pick 1 rfl)
  have a2 := Sat.shutN (d := k1) (A := []) x.toNat (set_at (set_at k0)) x6
  rw [set_same (set_at (set_at k0))] at a2
  refine nilO ⟨⟨.inr (cell_up a2 6 rfl (k := 9) tri_pre rfl), dI, .inr (cell_up a2 6 rfl (k := 9) tri_pre rfl), .inr ((w2.up 8 rfl).cell a2 (k := 0) rfl), trivial⟩, ?_⟩
  refine wO rfl ?_
  have y6 := Sat.openN (A := []) x.toNat (set_at (set_at k0)) a2
  refine cX Tryz.call69 (ar_high v2  (Sat.flat1 y6)) ?_
  rintro _ _ ⟨rfl, z6⟩
  have a7 := Sat.unflat1 z6
  have b7 := ((a7.pick 1 rfl).pick 1 rfl)
  have o2 := Sat.shutN (d := k1) (A := []) x.toNat (set_at (set_at k0)) b7
  rw [set_same (set_at (set_at k0))] at o2
  refine nilO ⟨⟨.inr (cell_up o2 6 rfl (k := 9) tri_pre rfl), dI, .inr (cell_up o2 6 rfl (k := 9) tri_pre rfl), dI, trivial⟩, ?_⟩
  refine wU [19, 20] <| wO rfl <| sStF o2 hOw w0 7 (x).toNat 0 v0 (⟨2, v0.heldJob, v0.heldTask, v0.attempt, v0.row, v0.used, v0.high⟩ : Wkr) h1 (I 2) [I 2] Tryz.sizeOf3 fun _ _ u3 c7 => nilO ⟨dA, ?_⟩
  refine wU [22, 23] <| wO rfl ?_
  have v3 := set_at (y := (⟨2, v0.heldJob, v0.heldTask, v0.attempt, v0.row, v0.used, v0.high⟩ : Wkr)) h1
  have sb := OwnT.ptr u3 w0 v3
  refine sStF c7 u3 w0 7 (x).toNat 5 (⟨2, v0.heldJob, v0.heldTask, v0.attempt, v0.row, v0.used, v0.high⟩ : Wkr) (⟨2, v0.heldJob, v0.heldTask, v0.attempt, v0.row, ((allocA (markA f0) a0.scratch 16)).used, v0.high⟩ : Wkr) v3 (I (((allocA (markA f0) a0.scratch 16)).used)) [I (((allocA (markA f0) a0.scratch 16)).used)] Tryz.sizeOf3 fun _ _ x2 d7 => ?_
  rw [List.set_set] at x2
  refine nilO ⟨dA, ?_⟩
  refine wU [25, 26] <| wO rfl ?_
  have w3 := set_at (y := (⟨2, v0.heldJob, v0.heldTask, v0.attempt, v0.row, ((allocA (markA f0) a0.scratch 16)).used, v0.high⟩ : Wkr)) h1
  have vb := OwnT.ptr x2 w0 w3
  refine sStF d7 x2 w0 7 (x).toNat 6 (⟨2, v0.heldJob, v0.heldTask, v0.attempt, v0.row, ((allocA (markA f0) a0.scratch 16)).used, v0.high⟩ : Wkr) (⟨2, v0.heldJob, v0.heldTask, v0.attempt, v0.row, ((allocA (markA f0) a0.scratch 16)).used, ((allocA (markA f0) a0.scratch 16)).high⟩ : Wkr) w3 (I (((allocA (markA f0) a0.scratch 16)).high)) [I (((allocA (markA f0) a0.scratch 16)).high)] Tryz.sizeOf3 fun _ b2 x3 e7 => ?_
  rw [List.set_set] at x3
  refine nilO ⟨dA, ?_⟩
  refine wN <| thenK_n <| sR <| pu2 <| sT e7 2 0 (.agg #[I 6, I x, I 0, I 0, I 0, I 0, I 0]) [I 6, I x, I 0, I 0, I 0, I 0, I 0] #[I 6, I x, I 0, I 0, I 0, I 0, I 0] Tryz.sizeOf43 fun _ y3 => nT <| retE <| blockK_r <| thenK_r <| retN (vs := [.agg #[I 6, I x, I 0, I 0, I 0, I 0, I 0]]) rfl (.cons (.cell _ _ _ _ kr (lvA y3 2 0 [I 6, I x, I 0, I 0, I 0, I 0, I 0] (Tryz.isAgg43 _) (Tryz.sizeOf43 _) rfl rfl rfl)) .nil) ?_
  have htk : b0.tasks[v0.heldTask.toNat]? = some a0.v := by rw [← u0, List.getElem?_map, s1]; rfl
  have f7 := (((y3.pick 5 rfl).pick 5 rfl).pick 5 rfl)
  have g7 : Sat W _ ((c0 ++ d0) :: (jcs.eraseIdx (v0.heldJob.toNat)).flatten :: ((acs.set x.toNat x0).set x.toNat k1).flatten :: [(e0, .cells (encTask a0).toArray 49 (0, 0))] :: [(g0, .cells #[I 6, I x, I 0, I 0, I 0, I 0, I 0] 43 (0, 0))] :: (Tri p 86 (preF F.cfg wa wn wk aa an ak da dn dk q) (xs.flatMap encFJob) (encStt F.st)) :: b2 :: Ac :: Dc :: dcs.flatten :: Qc :: H :: F0) := Sat.perm (show Sat W _ (c0 :: d0 :: (jcs.eraseIdx (v0.heldJob.toNat)).flatten :: ((acs.set x.toNat x0).set x.toNat k1).flatten :: [(e0, .cells (encTask a0).toArray 49 (0, 0))] :: [(g0, .cells #[I 6, I x, I 0, I 0, I 0, I 0, I 0] 43 (0, 0))] :: (Tri p 86 (preF F.cfg wa wn wk aa an ak da dn dk q) (xs.flatMap encFJob) (encStt F.st)) :: b2 :: Ac :: Dc :: dcs.flatten :: Qc :: H :: F0) from f7) (by simp)
  have h7 := Sat.shutN (d := c0 ++ d0) (A := []) (v0.heldJob.toNat) n1 g7
  have i7 := Obs.set hJs m0 (JobM.mk (s := b0) ha g1 r1 u0 w1)
  have hjs_ := set_same b1
  have j7 : Sat W _ (b2 :: Ac :: Dc :: ((acs.set x.toNat x0).set x.toNat k1).flatten :: dcs.flatten :: Qc :: (jcs.set (v0.heldJob.toNat) (c0 ++ d0)).flatten :: [(e0, .cells (encTask a0).toArray 49 (0, 0))] :: [(g0, .cells #[I 6, I x, I 0, I 0, I 0, I 0, I 0] 43 (0, 0))] :: (Tri p 86 (preF F.cfg wa wn wk aa an ak da dn dk q) (xs.flatMap encFJob) (encStt F.st)) :: H :: F0) := ((((((h7.pick 9 rfl).pick 9 rfl).pick 3 rfl).pick 9 rfl).pick 9 rfl).pick 9 rfl)
  have k7 := (((j7.pick 9 rfl).dropAt 8 rfl).dropAt 8 rfl)
  have l7 : Sat W _ (((Tri p 86 (preF F.cfg wa wn wk aa an ak da dn dk q) (xs.flatMap encFJob) (encStt F.st)) ++ (b2 ++ (Ac ++ (Dc ++ (((acs.set x.toNat x0).set x.toNat k1).flatten ++ (dcs.flatten ++ (Qc ++ (jcs.set (v0.heldJob.toNat) (c0 ++ d0)).flatten))))))) :: H :: F0) := Sat.perm (show Sat W _ ((Tri p 86 (preF F.cfg wa wn wk aa an ak da dn dk q) (xs.flatMap encFJob) (encStt F.st)) :: b2 :: Ac :: Dc :: ((acs.set x.toNat x0).set x.toNat k1).flatten :: dcs.flatten :: Qc :: (jcs.set (v0.heldJob.toNat) (c0 ++ d0)).flatten :: H :: F0) from k7) (by simp)
  have he : (microF F x).1 = (⟨F.cfg, (F.ws.set ((x).toNat) (⟨2, v0.heldJob, v0.heldTask, v0.attempt, v0.row, ((allocA (markA f0) a0.scratch 16)).used, ((allocA (markA f0) a0.scratch 16)).high⟩ : Wkr)), ((F.ar.set x.toNat (markA f0)).set x.toNat (allocA (markA f0) a0.scratch 16)), F.dq, F.q, (F.jobs.set (v0.heldJob.toNat) b0), F.st⟩ : FS) := by unfold microF jobAt; simp only [getD_some hv0, getD_some b1, getD_some htk, getD_some i3]; rw [if_pos om]; rw [hjs_]; rw [if_pos (show a0.v.scratch > 0 from show a0.scratch > 0 by omega), List.set_set]; rfl
  exact ⟨_, by unfold microF; simp only [getD_some hv0]; rw [if_pos om]; rfl, by rw [he]; exact ⟨_, _, _, _, _, _, _, _, _, _, _, _, _, _, _, _, _, _, _, _, rfl, x3, hOa, hOd, q6, hDs, hQ, i7, hxl⟩, l7⟩
 refine sR <| pu2 <| nT <| cE v0.phase 2 (fun m7 => ?_) (fun m7 => ?_)
 ·refine sR <| pu3 <| sLp j1 (o1.up 6 rfl) 4 (I v0.row) (Tryz.isAgg3 _) <| sAdd v0.row 1 <| pu2 <| sStF j1 hOw w0 6 (x).toNat 4 v0 (⟨v0.phase, v0.heldJob, v0.heldTask, v0.attempt, (v0.row + 1), v0.used, v0.high⟩ : Wkr) h1 (I (v0.row + 1)) [I (v0.row + 1)] Tryz.sizeOf3 fun _ c2 y2 z2 => nT <| seqE <| seqE ?_
  have z3 := set_at (y := (⟨v0.phase, v0.heldJob, v0.heldTask, v0.attempt, (v0.row + 1), v0.used, v0.high⟩ : Wkr)) h1
  have n7 := OwnT.ptr y2 w0 z3
  refine drawE [] [(3, ⟨g2, h2 + (x).toNat * 7 + 4, none⟩, I (v0.row + 1)), (5, ⟨e0, 7, none⟩, I a0.rows)] [(true, [0, 1, 2, 4]), (true, [3]), (true, [5]), (true, [6])] rfl kr ⟨.inr ((n7.up 6 rfl).cell z2 (k := 4) rfl), .inr (z2.cell 0 rfl rfl), trivial⟩ ?_
  have a4 := z2.drew
  refine wU [0, 1, 2, 4] <| wLd (I (v0.row + 1)) 0 Tryz.isAgg3 <| wLd (I a0.rows) 1 Tryz.isAgg3 <| wU [6] <| wN <| thenK_n <| cE (v0.row + 1) a0.rows (fun o7 => ?_) (fun o7 => ?_)
  rotate_left
  ·refine kT <| sR <| pu2 <| sT a4 1 0 (.agg #[I 7, I x, I 0, I 0, I 0, I 0, I 0]) [I 7, I x, I 0, I 0, I 0, I 0, I 0] #[I 7, I x, I 0, I 0, I 0, I 0, I 0] Tryz.sizeOf43 fun _ b4 => nT <| retE <| blockK_r <| thenK_r <| retN (vs := [.agg #[I 7, I x, I 0, I 0, I 0, I 0, I 0]]) rfl (.cons (.cell _ _ _ _ kr (lvA b4 1 0 [I 7, I x, I 0, I 0, I 0, I 0, I 0] (Tryz.isAgg43 _) (Tryz.sizeOf43 _) rfl rfl rfl)) .nil) ?_
   have htk : b0.tasks[v0.heldTask.toNat]? = some a0.v := by rw [← u0, List.getElem?_map, s1]; rfl
   have p7 := (((b4.pick 4 rfl).pick 4 rfl).pick 4 rfl)
   have q7 : Sat W _ ((c0 ++ d0) :: (jcs.eraseIdx (v0.heldJob.toNat)).flatten :: [(e0, .cells (encTask a0).toArray 49 (0, 0))] :: [(g0, .cells #[I 7, I x, I 0, I 0, I 0, I 0, I 0] 43 (0, 0))] :: (Tri p 86 (preF F.cfg wa wn wk aa an ak da dn dk q) (xs.flatMap encFJob) (encStt F.st)) :: c2 :: Ac :: Dc :: acs.flatten :: dcs.flatten :: Qc :: H :: F0) := Sat.perm (show Sat W _ (c0 :: d0 :: (jcs.eraseIdx (v0.heldJob.toNat)).flatten :: [(e0, .cells (encTask a0).toArray 49 (0, 0))] :: [(g0, .cells #[I 7, I x, I 0, I 0, I 0, I 0, I 0] 43 (0, 0))] :: (Tri p 86 (preF F.cfg wa wn wk aa an ak da dn dk q) (xs.flatMap encFJob) (encStt F.st)) :: c2 :: Ac :: Dc :: acs.flatten :: dcs.flatten :: Qc :: H :: F0) from p7) (by simp)
   have r7 := Sat.shutN (d := c0 ++ d0) (A := []) (v0.heldJob.toNat) n1 q7
   have s7 := Obs.set hJs m0 (JobM.mk (s := b0) ha g1 r1 u0 w1)
   have hjs_ := set_same b1
   have t7 : Sat W _ (c2 :: Ac :: Dc :: acs.flatten :: dcs.flatten :: Qc :: (jcs.set (v0.heldJob.toNat) (c0 ++ d0)).flatten :: [(e0, .cells (encTask a0).toArray 49 (0, 0))] :: [(g0, .cells #[I 7, I x, I 0, I 0, I 0, I 0, I 0] 43 (0, 0))] :: (Tri p 86 (preF F.cfg wa wn wk aa an ak da dn dk q) (xs.flatMap encFJob) (encStt F.st)) :: H :: F0) := ((((((r7.pick 9 rfl).pick 9 rfl).pick 9 rfl).pick 9 rfl).pick 9 rfl).pick 9 rfl)
   have u7 := (((t7.pick 9 rfl).dropAt 8 rfl).dropAt 8 rfl)
   have v7 : Sat W _ (((Tri p 86 (preF F.cfg wa wn wk aa an ak da dn dk q) (xs.flatMap encFJob) (encStt F.st)) ++ (c2 ++ (Ac ++ (Dc ++ (acs.flatten ++ (dcs.flatten ++ (Qc ++ (jcs.set (v0.heldJob.toNat) (c0 ++ d0)).flatten))))))) :: H :: F0) := Sat.perm (show Sat W _ ((Tri p 86 (preF F.cfg wa wn wk aa an ak da dn dk q) (xs.flatMap encFJob) (encStt F.st)) :: c2 :: Ac :: Dc :: acs.flatten :: dcs.flatten :: Qc :: (jcs.set (v0.heldJob.toNat) (c0 ++ d0)).flatten :: H :: F0) from u7) (by simp)
   have he : (microF F x).1 = (⟨F.cfg, (F.ws.set ((x).toNat) (⟨v0.phase, v0.heldJob, v0.heldTask, v0.attempt, (v0.row + 1), v0.used, v0.high⟩ : Wkr)), F.ar, F.dq, F.q, (F.jobs.set (v0.heldJob.toNat) b0), F.st⟩ : FS) := by unfold microF jobAt; simp only [getD_some hv0, getD_some b1, getD_some htk]; rw [if_neg om, if_pos om]; rw [if_neg (show ¬ v0.row + 1 = a0.v.rows from show ¬ v0.row + 1 = a0.rows by omega), show v0.phase = 2 by omega]; rw [hjs_]
   exact ⟨_, by unfold microF; simp only [getD_some hv0]; rw [if_neg om, if_pos om]; rfl, by rw [he]; exact ⟨_, _, _, _, _, _, _, _, _, _, _, _, _, _, _, _, _, _, _, _, rfl, y2, hOa, hOd, hAs, hDs, hQ, s7, hxl⟩, v7⟩
  refine regionE <| pu3 <| sStF a4 y2 w0 6 (x).toNat 0 (⟨v0.phase, v0.heldJob, v0.heldTask, v0.attempt, (v0.row + 1), v0.used, v0.high⟩ : Wkr) (⟨3, v0.heldJob, v0.heldTask, v0.attempt, (v0.row + 1), v0.used, v0.high⟩ : Wkr) z3 (I 3) [I 3] Tryz.sizeOf3 fun _ d2 c4 w7 => ?_
  rw [List.set_set] at c4
  refine nT <| sR <| pu2 <| sT w7 1 0 (.agg #[I 7, I x, I 0, I 0, I 0, I 0, I 0]) [I 7, I x, I 0, I 0, I 0, I 0, I 0] #[I 7, I x, I 0, I 0, I 0, I 0, I 0] Tryz.sizeOf43 fun _ d4 => nT <| retE <| blockK_r <| thenK_r <| retN (vs := [.agg #[I 7, I x, I 0, I 0, I 0, I 0, I 0]]) rfl (.cons (.cell _ _ _ _ kr (lvA d4 1 0 [I 7, I x, I 0, I 0, I 0, I 0, I 0] (Tryz.isAgg43 _) (Tryz.sizeOf43 _) rfl rfl rfl)) .nil) ?_
  have htk : b0.tasks[v0.heldTask.toNat]? = some a0.v := by rw [← u0, List.getElem?_map, s1]; rfl
  have x7 := (((d4.pick 4 rfl).pick 4 rfl).pick 4 rfl)
  have y7 : Sat W _ ((c0 ++ d0) :: (jcs.eraseIdx (v0.heldJob.toNat)).flatten :: [(e0, .cells (encTask a0).toArray 49 (0, 0))] :: [(g0, .cells #[I 7, I x, I 0, I 0, I 0, I 0, I 0] 43 (0, 0))] :: (Tri p 86 (preF F.cfg wa wn wk aa an ak da dn dk q) (xs.flatMap encFJob) (encStt F.st)) :: d2 :: Ac :: Dc :: acs.flatten :: dcs.flatten :: Qc :: H :: F0) := Sat.perm (show Sat W _ (c0 :: d0 :: (jcs.eraseIdx (v0.heldJob.toNat)).flatten :: [(e0, .cells (encTask a0).toArray 49 (0, 0))] :: [(g0, .cells #[I 7, I x, I 0, I 0, I 0, I 0, I 0] 43 (0, 0))] :: (Tri p 86 (preF F.cfg wa wn wk aa an ak da dn dk q) (xs.flatMap encFJob) (encStt F.st)) :: d2 :: Ac :: Dc :: acs.flatten :: dcs.flatten :: Qc :: H :: F0) from x7) (by simp)
  have z7 := Sat.shutN (d := c0 ++ d0) (A := []) (v0.heldJob.toNat) n1 y7
  have a8 := Obs.set hJs m0 (JobM.mk (s := b0) ha g1 r1 u0 w1)
  have hjs_ := set_same b1
  have b8 : Sat W _ (d2 :: Ac :: Dc :: acs.flatten :: dcs.flatten :: Qc :: (jcs.set (v0.heldJob.toNat) (c0 ++ d0)).flatten :: [(e0, .cells (encTask a0).toArray 49 (0, 0))] :: [(g0, .cells #[I 7, I x, I 0, I 0, I 0, I 0, I 0] 43 (0, 0))] :: (Tri p 86 (preF F.cfg wa wn wk aa an ak da dn dk q) (xs.flatMap encFJob) (encStt F.st)) :: H :: F0) := ((((((z7.pick 9 rfl).pick 9 rfl).pick 9 rfl).pick 9 rfl).pick 9 rfl).pick 9 rfl)
  have c8 := (((b8.pick 9 rfl).dropAt 8 rfl).dropAt 8 rfl)
  have d8 : Sat W _ (((Tri p 86 (preF F.cfg wa wn wk aa an ak da dn dk q) (xs.flatMap encFJob) (encStt F.st)) ++ (d2 ++ (Ac ++ (Dc ++ (acs.flatten ++ (dcs.flatten ++ (Qc ++ (jcs.set (v0.heldJob.toNat) (c0 ++ d0)).flatten))))))) :: H :: F0) := Sat.perm (show Sat W _ ((Tri p 86 (preF F.cfg wa wn wk aa an ak da dn dk q) (xs.flatMap encFJob) (encStt F.st)) :: d2 :: Ac :: Dc :: acs.flatten :: dcs.flatten :: Qc :: (jcs.set (v0.heldJob.toNat) (c0 ++ d0)).flatten :: H :: F0) from c8) (by simp)
  have he : (microF F x).1 = (⟨F.cfg, (F.ws.set ((x).toNat) (⟨3, v0.heldJob, v0.heldTask, v0.attempt, (v0.row + 1), v0.used, v0.high⟩ : Wkr)), F.ar, F.dq, F.q, (F.jobs.set (v0.heldJob.toNat) b0), F.st⟩ : FS) := by unfold microF jobAt; simp only [getD_some hv0, getD_some b1, getD_some htk]; rw [if_neg om, if_pos om]; rw [if_pos (show v0.row + 1 = a0.v.rows from show v0.row + 1 = a0.rows by omega)]; rw [hjs_]
  exact ⟨_, by unfold microF; simp only [getD_some hv0]; rw [if_neg om, if_pos om]; rfl, by rw [he]; exact ⟨_, _, _, _, _, _, _, _, _, _, _, _, _, _, _, _, _, _, _, _, rfl, c4, hOa, hOd, hAs, hDs, hQ, a8, hxl⟩, d8⟩
 refine skipE <| blockK_n <| thenK_n <| sR <| pu3 <| sLpA j1 (o1.up 6 rfl) 1 [I v0.heldJob, I v0.heldTask] (Tryz.isAgg40 _) (Tryz.sizeOf40 _) <| sAlloc j1 Tryz.zeroValue40 fun r0 _ e8 => sT e8 0 0 (.agg #[I v0.heldJob, I v0.heldTask]) [I v0.heldJob, I v0.heldTask] #[I v0.heldJob, I v0.heldTask] Tryz.sizeOf40 fun _ p2 => nT <| seqE <| drawE [10] [(3, ⟨p, 12 + (v0.heldJob.toNat) * 5 + 4, none⟩, Pt y0 0), (5, ⟨r0, 1, none⟩, I v0.heldTask), (9, ⟨g2, h2 + (x).toNat * 7 + 3, none⟩, I v0.attempt)] [(true, [0, 1, 2, 4, 6, 7, 8]), (true, [3]), (true, [5]), (true, [9]), (false, [10]), (true, [11]), (true, [12]), (true, [13]), (true, [14, 15])] rfl kr ⟨.inr (cell_up p2 6 rfl (k := 4) (tri_el (sz := 5) (n0 := 12) fR m0) rfl), .inr (p2.cell 0 rfl rfl), .inr ((o1.up 7 rfl).cell p2 (k := 3) rfl), trivial⟩ ?_
 have f8 := p2.drew
 refine wU [0, 1, 2, 4, 6, 7, 8] <| wLd (Pt y0 0) 0 Tryz.isAgg81 <| wLd (I v0.heldTask) 1 Tryz.isAgg3 <| wLd (I v0.attempt) 2 Tryz.isAgg3 <| wO rfl ?_
 have g8 := (f8.pick 4 rfl)
 refine cX Tryz.call73 (r_commit w1 hBW v0.heldTask v0.attempt (Sat.flat1 g8)) ?_
 rintro _ _ ⟨e4, e2, f4, c1, j0, rfl, a3, b3, h8⟩
 have c3 := Sat.unflat2 h8; have hn_az_232 := a3.len; have hl_az_232 := a3.le
 refine nilO ⟨dA, ?_⟩
 refine wU [11] <| wU [12] <| wU [13] <| wU [14, 15] <| wN <| thenK_n <| sR <| pu3 <| sLp c3 (ptr_up 7 rfl tri_pre) 9 (.slice aa an ak) (Tryz.isAgg78 _) <| pu1 <| sIdxO hOa x (x).toNat Tryz.runUnderlying78 Tryz.sizeOf87 fun i8 _ _ g4 j8 _ => sLp c3 (j8.up 9 rfl) 0 (Pt i8 0) (Tryz.isAgg87 _) ?_
 obtain ⟨l1, ic, u1, h4, k8⟩ := Obs.get hAs g4
 have l8 := (c3.pick 11 rfl)
 have m8 := Sat.openN (A := []) x.toNat h4 l8
 refine cX Tryz.call74 (ar_release k8  (Sat.flat1 m8)) ?_
 rintro _ _ ⟨l0, _, rfl, n8, o8⟩
 have p8 := Sat.unflat1 o8
 have q8 := ((p8.pick 1 rfl).pick 1 rfl)
 have r8 := Sat.shutN (d := l0) (A := []) x.toNat h4 q8
 have d3 := Obs.set hAs g4 n8
 refine nT <| sR <| pu2 ?_
 have s8 := ((((r8.pick 0 rfl).pick 10 rfl).pick 10 rfl).pick 10 rfl)
 refine cX Tryz.call46 (f_idle hOw hOa d3 x 0 (by first | omega | (dsimp only; omega) | (simp only [List.length_set]; omega)) (by first | omega | (dsimp only; omega) | (simp only [List.length_set]; omega)) s8) ?_
 rintro _ _ ⟨o0, rfl, i4, j4⟩
 refine nT <| sR <| pu4 <| sLp j4 (ptr_up 0 rfl (tri_post (k := 332) (tri_len (sz := 5) (m := 12) fR hxl))) 1 (I F.st.commits) (Tryz.isAgg3 _) <| sAdd F.st.commits 1 <| pu3 <| sTpost j4 0 332 1 rfl (I (F.st.commits + 1)) [I (F.st.commits + 1)] [I F.st.starts, I (F.st.commits + 1), I F.st.drops, I F.st.crashes, I F.st.steals, I F.st.helps, I F.st.spills, I F.st.queued, I F.st.held, I F.st.cells] (tri_len (sz := 5) (m := 12) fR hxl) Tryz.sizeOf3 fun _ t8 => nT <| seqE <| sR <| pu1 <| nT <| blockE ?_
 have hcl := com_len (B := b0.B) (i := v0.heldTask) (a := v0.attempt)
 refine loopA (γ := Nat × (List DS) × (List Chunk) × QS × Chunk × Int) (fun ⟨i, dqi, dci, qi, Qci, sp⟩ => [(0, Pt p 0), (1, I x), (4, Pt g0 0), (6, .pointer (some ⟨p, 12 + (v0.heldJob.toNat) * 5, none⟩)), (8, Pt r0 0), (9, .slice e4 e2 f4), (11, I ((i : Nat) : Int))]) (fun ⟨i, dqi, dci, qi, Qci, sp⟩ w => Sat W w ((Tri p 86 (preF F.cfg wa wn wk aa an ak da dn dk q) (xs.flatMap encFJob) [I F.st.starts, I (F.st.commits + 1), I F.st.drops, I F.st.crashes, I F.st.steals, I F.st.helps, I sp, I F.st.queued, I F.st.held, I F.st.cells]) :: o0 :: Ac :: (acs.set x.toNat l0).flatten :: c1 :: j0 :: [(r0, .cells #[I v0.heldJob, I v0.heldTask] 40 (0, 0))] :: [(e0, .cells (encTask a0).toArray 49 (0, 0))] :: [(g0, .cells #[I 0, I 0, I 0, I 0, I 0, I 0, I 0] 43 (0, 0))] :: c0 :: (jcs.eraseIdx (v0.heldJob.toNat)).flatten :: Dc :: dci.flatten :: Qci :: H :: F0) ∧ i ≤ e2 ∧ (Obs DqR dp dqi dci) ∧ (InjR q qi Qci) ∧ (0 ≤ sp ∧ sp ≤ F.st.spills + i) ∧ (dqi.length = F.dq.length) ∧ ((spillF (⟨F.cfg, (F.ws.set x.toNat ⟨0, 0, 0, 0, 0, 0, ((F.ar.set x.toNat (relA l1)).getD x.toNat default).high⟩), (F.ar.set x.toNat (relA l1)), F.dq, F.q, (F.jobs.set (v0.heldJob.toNat) { b0 with B := (comB b0.B v0.heldTask v0.attempt).1 }), ⟨F.st.starts, (F.st.commits + 1), F.st.drops, F.st.crashes, F.st.steals, F.st.helps, F.st.spills, F.st.queued, F.st.held, F.st.cells⟩⟩ : FS) x v0.heldJob b0.band (((comB b0.B v0.heldTask v0.attempt).2).take i)) = (⟨F.cfg, (F.ws.set x.toNat ⟨0, 0, 0, 0, 0, 0, ((F.ar.set x.toNat (relA l1)).getD x.toNat default).high⟩), (F.ar.set x.toNat (relA l1)), dqi, qi, (F.jobs.set (v0.heldJob.toNat) { b0 with B := (comB b0.B v0.heldTask v0.attempt).1 }), ⟨F.st.starts, (F.st.commits + 1), F.st.drops, F.st.crashes, F.st.steals, F.st.helps, sp, F.st.queued, F.st.held, F.st.cells⟩⟩ : FS))) (fun ⟨i, dqi, dci, qi, Qci, sp⟩ => e2 - i) (0, F.dq, dcs, F.q, Qc, F.st.spills) ⟨t8, om, hDs, hQ, om, by first | rfl | simp only [List.length_set], rfl⟩ ?_
 rintro ⟨i, dqi, dci, qi, Qci, sp⟩ ρ _ ⟨v1, hi, hDi, hQi, hspb, hdqi, hFi⟩
 have hds1 := hDi.1
 refine seqE <| sR <| pu4 <| nT <| cD (((i : Nat) : Int) < ((e2 : Nat) : Int)) (fun u8 => ?_) (fun u8 => ?_)
 ·refine kT <| seqE <| blockE <| seqE ?_
  obtain ⟨i0, k4, l4, e3, m4, v8⟩ := RdT.elem a3 ((i : Nat) : Int)
  rw [Int.toNat_natCast] at e3
  refine drawE [7, 8] [(1, ⟨r0, 0, none⟩, I v0.heldJob), (5, ⟨k4, l4, none⟩, I i0)] [(true, [0, 2, 3]), (true, [4]), (true, [1]), (true, [5]), (true, [6]), (false, [7]), (false, [8])] rfl kr ⟨.inr (v1.cell 6 rfl rfl), .inr ((m4.up 4 rfl).cell v1 (k := 0) rfl), trivial⟩ ?_
  have w8 := v1.drew
  refine wU [0, 2, 3] <| wY (.pointer (some ⟨k4, l4, none⟩)) rfl (fun w _ => Y_idx (a := e4) (i := ((i : Nat) : Int)) (len := e2) (cap := f4) rfl Tryz.runUnderlying22 Tryz.sizeOf3 kr kr v8) <| wLd (I v0.heldJob) 0 Tryz.isAgg3 <| wLd (I i0) 1 Tryz.isAgg3 <| wU [6] <| wO rfl <| sAlloc w8 Tryz.zeroValue40 fun m1 _ f3 => nilO ⟨⟨.inr (f3.cell 7 rfl rfl), .inr ((m4.up 5 rfl).cell f3 (k := 0) rfl), trivial⟩, ?_⟩
  refine wO rfl <| sT f3 0 0 (.agg #[I v0.heldJob, I i0]) [I v0.heldJob, I i0] #[I v0.heldJob, I i0] Tryz.sizeOf40 fun _ f2 => nilO ⟨dA, ?_⟩
  refine wN <| thenK_n <| seqE ?_
  obtain ⟨n4, o4, p4, q4, x8, y8, qc⟩ := OwnT.elem hOd x
  refine drawE [8] [(3, ⟨p, 10, none⟩, .slice da dn dk), (6, ⟨o4, p4 + (x).toNat * 1, none⟩, Pt n4 0), (7, ⟨m1, 0, none⟩, I v0.heldJob), (7, ⟨m1, 1, none⟩, I i0)] [(true, [0, 1, 2, 4]), (true, [3]), (true, [5]), (true, [6]), (true, [7]), (false, [8]), (true, [9])] rfl kr ⟨.inr (cell_up f2 1 rfl (k := 10) tri_pre rfl), .inr ((x8.up 12 rfl).cell f2 (k := 0) rfl), .inr (f2.cell 0 rfl rfl), .inr (f2.cell 0 rfl rfl), trivial⟩ ?_
  have z8 := f2.drew
  refine wU [0, 1, 2, 4] <| wLd (.slice da dn dk) 0 Tryz.isAgg79 <| wY (.pointer (some ⟨o4, p4 + (x).toNat * 1, none⟩)) rfl (fun w _ => Y_idx (a := da) (i := x) (len := dn) (cap := dk) rfl Tryz.runUnderlying79 Tryz.sizeOf90 kr kr y8) <| wLd (Pt n4 0) 1 Tryz.isAgg90 <| wY (.agg #[I v0.heldJob, I i0]) rfl (fun w hF => Y_loadF rfl (Tryz.isAgg40 w) (Tryz.sizeOf40 w) kr rfl ⟨hF 2 _ _ rfl, hF 3 _ _ rfl, trivial⟩) <| wO rfl ?_
  obtain ⟨q2, rc, g3, r4, a9⟩ := Obs.get hDi q4
  have b9 := (z8.pick 13 rfl)
  have c9 := Sat.openN (A := []) x.toNat r4 b9
  refine cX Tryz.call75 (dq_push a9 (⟨v0.heldJob, i0⟩ : Ref) (Sat.flat1 c9)) ?_
  rintro _ _ ⟨p1, rfl, d9, e9⟩
  have f9 := Sat.unflat1 e9
  have g9 := ((f9.pick 1 rfl).pick 1 rfl)
  have q1 := Sat.shutN (d := p1) (A := []) x.toNat r4 g9
  have s4 := Obs.set hDi q4 d9
  refine nilO ⟨⟨.inr (cell_up q1 2 rfl (k := 10) tri_pre rfl), dI, dI, dI, trivial⟩, ?_⟩
  refine wU [9] <| wN <| thenK_n <| cN (pushC q2) 0 (fun h9 => ?_) (fun h9 => ?_)
  ·refine skipE <| blockK_n <| thenK_n <| regionE <| pu1 <| sAdd ((i : Nat) : Int) 1 <| pu1 <| nT ?_
   have i9 : Sat W _ ([(r0, .cells #[I v0.heldJob, I v0.heldTask] 40 (0, 0))] :: [(e0, .cells (encTask a0).toArray 49 (0, 0))] :: [(g0, .cells #[I 0, I 0, I 0, I 0, I 0, I 0, I 0] 43 (0, 0))] :: c0 :: (jcs.eraseIdx (v0.heldJob.toNat)).flatten :: Dc :: (dci.set x.toNat p1).flatten :: [(m1, .cells #[I v0.heldJob, I i0] 40 (0, 0))] :: (Tri p 86 (preF F.cfg wa wn wk aa an ak da dn dk q) (xs.flatMap encFJob) [I F.st.starts, I (F.st.commits + 1), I F.st.drops, I F.st.crashes, I F.st.steals, I F.st.helps, I sp, I F.st.queued, I F.st.held, I F.st.cells]) :: o0 :: Ac :: (acs.set x.toNat l0).flatten :: c1 :: j0 :: Qci :: H :: F0) := ((((((q1.pick 13 rfl).pick 13 rfl).pick 13 rfl).pick 13 rfl).pick 13 rfl).pick 13 rfl)
   have j9 : Sat W _ ((Tri p 86 (preF F.cfg wa wn wk aa an ak da dn dk q) (xs.flatMap encFJob) [I F.st.starts, I (F.st.commits + 1), I F.st.drops, I F.st.crashes, I F.st.steals, I F.st.helps, I sp, I F.st.queued, I F.st.held, I F.st.cells]) :: o0 :: Ac :: (acs.set x.toNat l0).flatten :: c1 :: j0 :: [(r0, .cells #[I v0.heldJob, I v0.heldTask] 40 (0, 0))] :: [(e0, .cells (encTask a0).toArray 49 (0, 0))] :: [(g0, .cells #[I 0, I 0, I 0, I 0, I 0, I 0, I 0] 43 (0, 0))] :: c0 :: (jcs.eraseIdx (v0.heldJob.toNat)).flatten :: Dc :: (dci.set x.toNat p1).flatten :: [(m1, .cells #[I v0.heldJob, I i0] 40 (0, 0))] :: Qci :: H :: F0) := ((((((i9.pick 13 rfl).pick 13 rfl).pick 13 rfl).pick 13 rfl).pick 13 rfl).pick 13 rfl)
   have k9 := (j9.dropAt 13 rfl)
   exact ⟨(i + 1, (dqi.set x.toNat (pushD q2 (⟨v0.heldJob, i0⟩ : Ref))), (dci.set x.toNat p1), qi, Qci, sp), od, alA, k9, om, s4, hQi, om, (by first | exact hdqi | (simp only [List.length_set]; exact hdqi)), (by rw [spill_take e3, hFi]; unfold spill1; simp only [getD_some g3]; rw [if_pos om])⟩
  refine seqE <| drawE [9] [(3, ⟨p, 11, none⟩, Pt q 0), (4, ⟨m1, 0, none⟩, I v0.heldJob), (4, ⟨m1, 1, none⟩, I i0), (8, ⟨p, 12 + (v0.heldJob.toNat) * 5 + 2, none⟩, I b0.band)] [(true, [0, 1, 2, 5, 6, 7]), (true, [3]), (true, [4]), (true, [8]), (false, [9])] rfl kr ⟨.inr (cell_up q1 2 rfl (k := 11) tri_pre rfl), .inr (q1.cell 1 rfl rfl), .inr (q1.cell 1 rfl rfl), .inr (cell_up q1 2 rfl (k := 2) (tri_el (sz := 5) (n0 := 12) fR m0) rfl), trivial⟩ ?_
  have l9 := q1.drew
  refine wU [0, 1, 2, 5, 6, 7] <| wLd (Pt q 0) 0 Tryz.isAgg80 <| wY (.agg #[I v0.heldJob, I i0]) rfl (fun w hF => Y_loadF rfl (Tryz.isAgg40 w) (Tryz.sizeOf40 w) kr rfl ⟨hF 1 _ _ rfl, hF 2 _ _ rfl, trivial⟩) <| wLd (I b0.band) 3 Tryz.isAgg3 <| wO rfl ?_
  have m9 := (l9.pick 14 rfl)
  refine cX Tryz.call39 (iq_push hQi (⟨v0.heldJob, i0⟩ : Ref) b0.band om (Sat.flat1 m9)) ?_
  rintro _ _ ⟨h3, rfl, n9, o9⟩
  have t4 := Sat.unflat1 o9
  refine nilO ⟨dA, ?_⟩
  refine wN <| thenK_n <| regionE <| pu4 <| sLp t4 (ptr_up 3 rfl (tri_post (k := 332) (tri_len (sz := 5) (m := 12) fR hxl))) 6 (I sp) (Tryz.isAgg3 _) <| sAdd sp 1 <| pu3 <| sTpost t4 3 332 6 rfl (I (sp + 1)) [I (sp + 1)] [I F.st.starts, I (F.st.commits + 1), I F.st.drops, I F.st.crashes, I F.st.steals, I F.st.helps, I (sp + 1), I F.st.queued, I F.st.held, I F.st.cells] (tri_len (sz := 5) (m := 12) fR hxl) Tryz.sizeOf3 fun _ p9 => nB <| regionE <| pu1 <| sAdd ((i : Nat) : Int) 1 <| pu1 <| nT ?_
  have q9 : Sat W _ ([(e0, .cells (encTask a0).toArray 49 (0, 0))] :: [(g0, .cells #[I 0, I 0, I 0, I 0, I 0, I 0, I 0] 43 (0, 0))] :: c0 :: (jcs.eraseIdx (v0.heldJob.toNat)).flatten :: Dc :: (dci.set x.toNat p1).flatten :: h3 :: [(m1, .cells #[I v0.heldJob, I i0] 40 (0, 0))] :: (Tri p 86 (preF F.cfg wa wn wk aa an ak da dn dk q) (xs.flatMap encFJob) [I F.st.starts, I (F.st.commits + 1), I F.st.drops, I F.st.crashes, I F.st.steals, I F.st.helps, I (sp + 1), I F.st.queued, I F.st.held, I F.st.cells]) :: o0 :: Ac :: (acs.set x.toNat l0).flatten :: c1 :: j0 :: [(r0, .cells #[I v0.heldJob, I v0.heldTask] 40 (0, 0))] :: H :: F0) := ((((((p9.pick 1 rfl).pick 14 rfl).pick 14 rfl).pick 14 rfl).pick 14 rfl).pick 14 rfl)
  have r9 : Sat W _ (o0 :: Ac :: (acs.set x.toNat l0).flatten :: c1 :: j0 :: [(r0, .cells #[I v0.heldJob, I v0.heldTask] 40 (0, 0))] :: [(e0, .cells (encTask a0).toArray 49 (0, 0))] :: [(g0, .cells #[I 0, I 0, I 0, I 0, I 0, I 0, I 0] 43 (0, 0))] :: c0 :: (jcs.eraseIdx (v0.heldJob.toNat)).flatten :: Dc :: (dci.set x.toNat p1).flatten :: h3 :: [(m1, .cells #[I v0.heldJob, I i0] 40 (0, 0))] :: (Tri p 86 (preF F.cfg wa wn wk aa an ak da dn dk q) (xs.flatMap encFJob) [I F.st.starts, I (F.st.commits + 1), I F.st.drops, I F.st.crashes, I F.st.steals, I F.st.helps, I (sp + 1), I F.st.queued, I F.st.held, I F.st.cells]) :: H :: F0) := ((((((q9.pick 14 rfl).pick 14 rfl).pick 14 rfl).pick 14 rfl).pick 14 rfl).pick 14 rfl)
  have s9 := ((r9.pick 14 rfl).dropAt 14 rfl)
  have hpd : pushD q2 (⟨v0.heldJob, i0⟩ : Ref) = q2 := by unfold pushD; rw [if_neg om]
  have hLD := s4; rw [hpd, set_same g3] at hLD
  exact ⟨(i + 1, dqi, (dci.set x.toNat p1), (pushQ qi (⟨v0.heldJob, i0⟩ : Ref) b0.band), h3, (sp + 1)), od, alA, s9, om, hLD, n9, om, (by first | exact hdqi | (simp only [List.length_set]; exact hdqi)), (by rw [spill_take e3, hFi]; unfold spill1; simp only [getD_some g3]; rw [if_neg om])⟩
 refine exitE <| xB <| thenK_n <| seqE <| seqE <| drawE [4] [(3, ⟨p, 12 + (v0.heldJob.toNat) * 5 + 4, none⟩, Pt y0 0), (8, ⟨p, 12 + (v0.heldJob.toNat) * 5 + 3, none⟩, .slice s0 p0 t0)] [(true, [0, 1, 2, 5, 6, 7]), (true, [3]), (true, [8]), (true, [9]), (false, [4]), (true, [10])] rfl kr ⟨.inr (cell_up v1 0 rfl (k := 4) (tri_el (sz := 5) (n0 := 12) fR m0) rfl), .inr (cell_up v1 0 rfl (k := 3) (tri_el (sz := 5) (n0 := 12) fR m0) rfl), trivial⟩ ?_
 have t9 := v1.drew
 refine wU [0, 1, 2, 5, 6, 7] <| wLd (Pt y0 0) 0 Tryz.isAgg81 <| wLd (.slice s0 p0 t0) 1 Tryz.isAgg45 <| wU [9] <| wO rfl ?_
 have u9 := (t9.pick 5 rfl)
 refine cX Tryz.call76 (r_done b3 (com_wf hBW (i := v0.heldTask) (a := v0.attempt)) (Sat.flat1 u9)) ?_
 rintro _ _ ⟨rfl, v9⟩
 have r2 := Sat.unflat1 v9
 refine nilO ⟨⟨dI, .inr (cell_up r2 1 rfl (k := 3) (tri_el (sz := 5) (n0 := 12) fR m0) rfl), trivial⟩, ?_⟩
 refine wU [10] <| wN <| thenK_n <| cE (doneOf ((comB b0.B v0.heldTask v0.attempt).1)) ((p0 : Nat) : Int) (fun w9 => ?_) (fun w9 => ?_)
 rotate_left
 ·refine kT <| sR <| pu1 <| lA r2 6 0 2 (Tryz.isAgg40 _) (Tryz.sizeOf40 _) <| pu1 <| sT r2 8 0 (.agg #[I 8, I x, I 0, I 0, I v0.heldJob, I v0.heldTask, I 0]) [I 8, I x, I 0, I 0, I v0.heldJob, I v0.heldTask, I 0] #[I 8, I x, I 0, I 0, I v0.heldJob, I v0.heldTask, I 0] Tryz.sizeOf43 fun _ u4 => nT <| retE <| retN (vs := [.agg #[I 8, I x, I 0, I 0, I v0.heldJob, I v0.heldTask, I 0]]) rfl (.cons (.cell _ _ _ _ kr (lvA u4 8 0 [I 8, I x, I 0, I 0, I v0.heldJob, I v0.heldTask, I 0] (Tryz.isAgg43 _) (Tryz.sizeOf43 _) rfl rfl rfl)) .nil) ?_
  have htk : b0.tasks[v0.heldTask.toNat]? = some a0.v := by rw [← u0, List.getElem?_map, s1]; rfl
  have x9 := (((u4.pick 10 rfl).pick 1 rfl).pick 10 rfl)
  have y9 : Sat W _ ((c0 ++ j0) :: (jcs.eraseIdx (v0.heldJob.toNat)).flatten :: (Tri p 86 (preF F.cfg wa wn wk aa an ak da dn dk q) (xs.flatMap encFJob) [I F.st.starts, I (F.st.commits + 1), I F.st.drops, I F.st.crashes, I F.st.steals, I F.st.helps, I sp, I F.st.queued, I F.st.held, I F.st.cells]) :: o0 :: Ac :: (acs.set x.toNat l0).flatten :: c1 :: [(r0, .cells #[I v0.heldJob, I v0.heldTask] 40 (0, 0))] :: [(e0, .cells (encTask a0).toArray 49 (0, 0))] :: [(g0, .cells #[I 8, I x, I 0, I 0, I v0.heldJob, I v0.heldTask, I 0] 43 (0, 0))] :: Dc :: dci.flatten :: Qci :: H :: F0) := Sat.perm (show Sat W _ (c0 :: j0 :: (jcs.eraseIdx (v0.heldJob.toNat)).flatten :: (Tri p 86 (preF F.cfg wa wn wk aa an ak da dn dk q) (xs.flatMap encFJob) [I F.st.starts, I (F.st.commits + 1), I F.st.drops, I F.st.crashes, I F.st.steals, I F.st.helps, I sp, I F.st.queued, I F.st.held, I F.st.cells]) :: o0 :: Ac :: (acs.set x.toNat l0).flatten :: c1 :: [(r0, .cells #[I v0.heldJob, I v0.heldTask] 40 (0, 0))] :: [(e0, .cells (encTask a0).toArray 49 (0, 0))] :: [(g0, .cells #[I 8, I x, I 0, I 0, I v0.heldJob, I v0.heldTask, I 0] 43 (0, 0))] :: Dc :: dci.flatten :: Qci :: H :: F0) from x9) (by simp)
  have z9 := Sat.shutN (d := c0 ++ j0) (A := []) (v0.heldJob.toNat) n1 y9
  have ba := Obs.set hJs m0 (JobM.mk (s := { b0 with B := (comB b0.B v0.heldTask v0.attempt).1 }) ha g1 r1 u0 b3)
  have hFl := hFi; rw [List.take_of_length_le om] at hFl
  have ca : Sat W _ (o0 :: Ac :: Dc :: (acs.set x.toNat l0).flatten :: dci.flatten :: Qci :: (jcs.set (v0.heldJob.toNat) (c0 ++ j0)).flatten :: (Tri p 86 (preF F.cfg wa wn wk aa an ak da dn dk q) (xs.flatMap encFJob) [I F.st.starts, I (F.st.commits + 1), I F.st.drops, I F.st.crashes, I F.st.steals, I F.st.helps, I sp, I F.st.queued, I F.st.held, I F.st.cells]) :: c1 :: [(r0, .cells #[I v0.heldJob, I v0.heldTask] 40 (0, 0))] :: [(e0, .cells (encTask a0).toArray 49 (0, 0))] :: [(g0, .cells #[I 8, I x, I 0, I 0, I v0.heldJob, I v0.heldTask, I 0] 43 (0, 0))] :: H :: F0) := ((((((z9.pick 11 rfl).pick 11 rfl).pick 6 rfl).pick 11 rfl).pick 7 rfl).pick 7 rfl)
  have ea := (((((ca.pick 7 rfl).dropAt 8 rfl).dropAt 8 rfl).dropAt 8 rfl).dropAt 8 rfl)
  have fa : Sat W _ (((Tri p 86 (preF F.cfg wa wn wk aa an ak da dn dk q) (xs.flatMap encFJob) [I F.st.starts, I (F.st.commits + 1), I F.st.drops, I F.st.crashes, I F.st.steals, I F.st.helps, I sp, I F.st.queued, I F.st.held, I F.st.cells]) ++ (o0 ++ (Ac ++ (Dc ++ ((acs.set x.toNat l0).flatten ++ (dci.flatten ++ (Qci ++ (jcs.set (v0.heldJob.toNat) (c0 ++ j0)).flatten))))))) :: H :: F0) := Sat.perm (show Sat W _ ((Tri p 86 (preF F.cfg wa wn wk aa an ak da dn dk q) (xs.flatMap encFJob) [I F.st.starts, I (F.st.commits + 1), I F.st.drops, I F.st.crashes, I F.st.steals, I F.st.helps, I sp, I F.st.queued, I F.st.held, I F.st.cells]) :: o0 :: Ac :: Dc :: (acs.set x.toNat l0).flatten :: dci.flatten :: Qci :: (jcs.set (v0.heldJob.toNat) (c0 ++ j0)).flatten :: H :: F0) from ea) (by simp)
  have he : (microF F x).1 = (⟨F.cfg, (F.ws.set x.toNat ⟨0, 0, 0, 0, 0, 0, ((F.ar.set x.toNat (relA l1)).getD x.toNat default).high⟩), (F.ar.set x.toNat (relA l1)), dqi, qi, (F.jobs.set (v0.heldJob.toNat) ({ b0 with B := (comB b0.B v0.heldTask v0.attempt).1 })), (⟨F.st.starts, (F.st.commits + 1), F.st.drops, F.st.crashes, F.st.steals, F.st.helps, sp, F.st.queued, F.st.held, F.st.cells⟩ : Stt)⟩ : FS) := by unfold microF jobAt; simp only [getD_some hv0, getD_some b1, getD_some htk, getD_some u1]; rw [if_neg om, if_neg om]; dsimp only; simp only [getD_some (set_at u1)] at hFl; simp only [getD_some (set_at u1)]; rw [hFl]; rw [if_neg om]
  exact ⟨_, by unfold microF; simp only [getD_some hv0]; rw [if_neg om, if_neg om]; rfl, by rw [he]; exact ⟨_, _, _, _, _, _, _, _, _, _, _, _, _, _, _, _, _, _, _, _, rfl, i4, hOa, hOd, d3, hDi, hQi, ba, hxl⟩, fa⟩
 refine regionE <| pu3 <| sTel (enc := encFJob) (sz := 5) r2 fR 1 (v0.heldJob.toNat) 12 1 (⟨true, b0.running, b0.band, ⟨s0, p0, t0, i1⟩, some ⟨y0, 0, none⟩⟩ : FJob) (⟨true, false, b0.band, ⟨s0, p0, t0, i1⟩, some ⟨y0, 0, none⟩⟩ : FJob) m0 (.bool false) [.bool false] Tryz.sizeOf4 fun _ v4 => nT <| sR <| pu1 <| lA v4 6 0 2 (Tryz.isAgg40 _) (Tryz.sizeOf40 _) <| pu1 <| sT v4 8 0 (.agg #[I 8, I x, I 0, I 0, I v0.heldJob, I v0.heldTask, I 0]) [I 8, I x, I 0, I 0, I v0.heldJob, I v0.heldTask, I 0] #[I 8, I x, I 0, I 0, I v0.heldJob, I v0.heldTask, I 0] Tryz.sizeOf43 fun _ w4 => nT <| retE <| retN (vs := [.agg #[I 8, I x, I 0, I 0, I v0.heldJob, I v0.heldTask, I 0]]) rfl (.cons (.cell _ _ _ _ kr (lvA w4 8 0 [I 8, I x, I 0, I 0, I v0.heldJob, I v0.heldTask, I 0] (Tryz.isAgg43 _) (Tryz.sizeOf43 _) rfl rfl rfl)) .nil) ?_
 have htk : b0.tasks[v0.heldTask.toNat]? = some a0.v := by rw [← u0, List.getElem?_map, s1]; rfl
 have ga := (((w4.pick 10 rfl).pick 1 rfl).pick 10 rfl)
 have ia : Sat W _ ((c0 ++ j0) :: (jcs.eraseIdx (v0.heldJob.toNat)).flatten :: (Tri p 86 (preF F.cfg wa wn wk aa an ak da dn dk q) ((xs.set (v0.heldJob.toNat) (⟨true, false, b0.band, ⟨s0, p0, t0, i1⟩, some ⟨y0, 0, none⟩⟩ : FJob)).flatMap encFJob) [I F.st.starts, I (F.st.commits + 1), I F.st.drops, I F.st.crashes, I F.st.steals, I F.st.helps, I sp, I F.st.queued, I F.st.held, I F.st.cells]) :: o0 :: Ac :: (acs.set x.toNat l0).flatten :: c1 :: [(r0, .cells #[I v0.heldJob, I v0.heldTask] 40 (0, 0))] :: [(e0, .cells (encTask a0).toArray 49 (0, 0))] :: [(g0, .cells #[I 8, I x, I 0, I 0, I v0.heldJob, I v0.heldTask, I 0] 43 (0, 0))] :: Dc :: dci.flatten :: Qci :: H :: F0) := Sat.perm (show Sat W _ (c0 :: j0 :: (jcs.eraseIdx (v0.heldJob.toNat)).flatten :: (Tri p 86 (preF F.cfg wa wn wk aa an ak da dn dk q) ((xs.set (v0.heldJob.toNat) (⟨true, false, b0.band, ⟨s0, p0, t0, i1⟩, some ⟨y0, 0, none⟩⟩ : FJob)).flatMap encFJob) [I F.st.starts, I (F.st.commits + 1), I F.st.drops, I F.st.crashes, I F.st.steals, I F.st.helps, I sp, I F.st.queued, I F.st.held, I F.st.cells]) :: o0 :: Ac :: (acs.set x.toNat l0).flatten :: c1 :: [(r0, .cells #[I v0.heldJob, I v0.heldTask] 40 (0, 0))] :: [(e0, .cells (encTask a0).toArray 49 (0, 0))] :: [(g0, .cells #[I 8, I x, I 0, I 0, I v0.heldJob, I v0.heldTask, I 0] 43 (0, 0))] :: Dc :: dci.flatten :: Qci :: H :: F0) from ga) (by simp)
 have ja := Sat.shutN (d := c0 ++ j0) (A := []) (v0.heldJob.toNat) n1 ia
 have ka := Obs.set3 (p' := (⟨true, false, b0.band, ⟨s0, p0, t0, i1⟩, some ⟨y0, 0, none⟩⟩ : FJob)) hJs m0 (JobM.mk (s := { b0 with B := (comB b0.B v0.heldTask v0.attempt).1, running := false }) ha g1 r1 u0 b3)
 have hFl := hFi; rw [List.take_of_length_le om] at hFl
 have la : Sat W _ (o0 :: Ac :: Dc :: (acs.set x.toNat l0).flatten :: dci.flatten :: Qci :: (jcs.set (v0.heldJob.toNat) (c0 ++ j0)).flatten :: (Tri p 86 (preF F.cfg wa wn wk aa an ak da dn dk q) ((xs.set (v0.heldJob.toNat) (⟨true, false, b0.band, ⟨s0, p0, t0, i1⟩, some ⟨y0, 0, none⟩⟩ : FJob)).flatMap encFJob) [I F.st.starts, I (F.st.commits + 1), I F.st.drops, I F.st.crashes, I F.st.steals, I F.st.helps, I sp, I F.st.queued, I F.st.held, I F.st.cells]) :: c1 :: [(r0, .cells #[I v0.heldJob, I v0.heldTask] 40 (0, 0))] :: [(e0, .cells (encTask a0).toArray 49 (0, 0))] :: [(g0, .cells #[I 8, I x, I 0, I 0, I v0.heldJob, I v0.heldTask, I 0] 43 (0, 0))] :: H :: F0) := ((((((ja.pick 11 rfl).pick 11 rfl).pick 6 rfl).pick 11 rfl).pick 7 rfl).pick 7 rfl)
 have ma := (((((la.pick 7 rfl).dropAt 8 rfl).dropAt 8 rfl).dropAt 8 rfl).dropAt 8 rfl)
 have na : Sat W _ (((Tri p 86 (preF F.cfg wa wn wk aa an ak da dn dk q) ((xs.set (v0.heldJob.toNat) (⟨true, false, b0.band, ⟨s0, p0, t0, i1⟩, some ⟨y0, 0, none⟩⟩ : FJob)).flatMap encFJob) [I F.st.starts, I (F.st.commits + 1), I F.st.drops, I F.st.crashes, I F.st.steals, I F.st.helps, I sp, I F.st.queued, I F.st.held, I F.st.cells]) ++ (o0 ++ (Ac ++ (Dc ++ ((acs.set x.toNat l0).flatten ++ (dci.flatten ++ (Qci ++ (jcs.set (v0.heldJob.toNat) (c0 ++ j0)).flatten))))))) :: H :: F0) := Sat.perm (show Sat W _ ((Tri p 86 (preF F.cfg wa wn wk aa an ak da dn dk q) ((xs.set (v0.heldJob.toNat) (⟨true, false, b0.band, ⟨s0, p0, t0, i1⟩, some ⟨y0, 0, none⟩⟩ : FJob)).flatMap encFJob) [I F.st.starts, I (F.st.commits + 1), I F.st.drops, I F.st.crashes, I F.st.steals, I F.st.helps, I sp, I F.st.queued, I F.st.held, I F.st.cells]) :: o0 :: Ac :: Dc :: (acs.set x.toNat l0).flatten :: dci.flatten :: Qci :: (jcs.set (v0.heldJob.toNat) (c0 ++ j0)).flatten :: H :: F0) from ma) (by simp)
 have he : (microF F x).1 = (⟨F.cfg, (F.ws.set x.toNat ⟨0, 0, 0, 0, 0, 0, ((F.ar.set x.toNat (relA l1)).getD x.toNat default).high⟩), (F.ar.set x.toNat (relA l1)), dqi, qi, (F.jobs.set (v0.heldJob.toNat) ({ b0 with B := (comB b0.B v0.heldTask v0.attempt).1, running := false })), (⟨F.st.starts, (F.st.commits + 1), F.st.drops, F.st.crashes, F.st.steals, F.st.helps, sp, F.st.queued, F.st.held, F.st.cells⟩ : Stt)⟩ : FS) := by unfold microF jobAt; simp only [getD_some hv0, getD_some b1, getD_some htk, getD_some u1]; rw [if_neg om, if_neg om]; dsimp only; simp only [getD_some (set_at u1)] at hFl; simp only [getD_some (set_at u1)]; rw [hFl]; rw [if_pos om]
 exact ⟨_, by unfold microF; simp only [getD_some hv0]; rw [if_neg om, if_neg om]; rfl, by rw [he]; exact ⟨_, _, _, _, _, _, _, _, _, _, _, _, _, _, _, _, _, _, _, _, rfl, i4, hOa, hOd, d3, hDi, hQi, ka, (set_len hxl)⟩, na⟩
end Go.Proofs.YtimkhljglpookaaGreat
