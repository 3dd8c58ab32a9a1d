import Derived.Test.YtdingplbadblpaaGreatQ2Le
import Derived.Test.YtdingplbadblpaaGreatQ2TJob
namespace Go.Proofs.YtdingplbadblpaaGreat
open Go Go.E Go.Proofs.Tryz
set_option linter.all false
set_option maxRecDepth 100000
set_option maxHeartbeats 2000000
variable {W w : World} {H : Chunk} {F : List Chunk}
theorem take_split {l : List Int} {i : Nat} {x : Int} (h : l[i]? = some x) : l = l.take i ++ x :: l.drop (i + 1) := by
  obtain ⟨hl, e⟩ := List.getElem?_eq_some_iff.1 h
  conv => lhs; rw [<- List.take_append_drop i l, List.drop_eq_getElem_cons hl, e]
theorem layw_step {L : Lay} (g : LayG L) {i : Nat} {nd tot c : Int} {fl cl : List Int} (h : L.od[i]? = some nd) (hF : ∀ n ∈ L.od.take i, fl[n.toNat]? = some (L.first n) /\ cl[n.toNat]? = some (L.cnt n)) (ht : tot = ((L.od.take i).map L.cnt).sum) (hc : c = L.cnt nd)
  (h1 : nd.toNat < fl.length) (h2 : nd.toNat < cl.length) : ∀ n ∈ L.od.take (i + 1), (fl.set nd.toNat tot)[n.toNat]? = some (L.first n) /\ (cl.set nd.toNat c)[n.toNat]? = some (L.cnt n) := by
 intro n hn
 have hfa := g.first_at (take_split h)
 rw [List.take_add_one, h, Option.toList_some] at hn
 rcases List.mem_append.1 hn with hn | hn
 ·have hne : n ≠ nd := fun e => hfa.2 (e ▸ hn)
  have r1 := g.rng n (List.mem_of_mem_take hn); have r2 := g.rng nd (List.mem_of_getElem? h); have r3 := g.ni
  rw [List.getElem?_set, if_neg om, List.getElem?_set, if_neg om]
  exact hF n hn
 ·simp only [List.mem_singleton] at hn
  subst hn
  rw [List.getElem?_set, if_pos rfl, if_pos h1, List.getElem?_set, if_pos rfl, if_pos h2, hfa.1, ht, hc]
  exact ⟨rfl, rfl⟩
theorem sum_take {f : Int -> Int} {l : List Int} {i : Nat} {x : Int} (h : l[i]? = some x) : ((l.take (i + 1)).map f).sum = ((l.take i).map f).sum + f x := by
  rw [List.take_add_one, h, Option.toList_some, List.map_append, List.sum_append]; simp
theorem tasks_len {L : Lay} (g : LayG L) {x : Int} (hx : x ∈ L.od) : ((L.tasks x).length : Int) = L.cnt x := by
  have h := (g.grid hx).2.2
  unfold Lay.tasks Lay.cnt
  rw [List.length_append, List.length_map, upto_len]
  split <;> simp <;> omega
theorem tasks_sum {L : Lay} (g : LayG L) : ∀ l : List Int, (∀ x ∈ l, x ∈ L.od) -> ((l.flatMap L.tasks).length : Int) = (l.map L.cnt).sum
  | [], _ => rfl
  | x :: l, h => by
    rw [List.flatMap_cons, List.length_append, List.map_cons, List.sum_cons, <- tasks_sum g l (fun y hy => h y (by simp [hy])), <- tasks_len g (h x (by simp))]
    push_cast; rfl
theorem take_sum_le {L : Lay} (g : LayG L) (i : Nat) : 0 <= ((L.od.take i).map L.cnt).sum /\ ((L.od.take i).map L.cnt).sum <= L.total := by
  have h1 := sum_nn (f := L.cnt) (L.od.take i) (fun y hy => by have := g.cntb (List.mem_of_mem_take hy); omega)
  have h2 := sum_nn (f := L.cnt) (L.od.drop i) (fun y hy => by have := g.cntb (List.mem_of_mem_drop hy); omega)
  have h3 : L.total = ((L.od.take i).map L.cnt).sum + ((L.od.drop i).map L.cnt).sum := by
    unfold Lay.total
    rw [<- List.sum_append, <- List.map_append, List.take_append_drop]
  omega
theorem sh_bd {L : Lay} (g : LayG L) {i : Nat} {m : Shape} (h : L.sh[i]? = some m) : szP m := by
  have hl := (List.getElem?_eq_some_iff.1 h).1
  have := g.sz (i : Int) (by omega) (by have := g.len; omega)
  unfold shpAt at this
  rw [show ((i : Int)).toNat = i by omega, h] at this
  exact this
theorem cellsum_le {L : Lay} (g : LayG L) : ∀ i : Nat, i <= L.sh.length -> 0 <= ((L.sh.take i).map fun m => m.w * m.h).sum /\ ((L.sh.take i).map fun m => m.w * m.h).sum <= 4096 * i
  | 0, _ => by simp
  | i + 1, hi => by
    have ih := cellsum_le g i (by omega)
    have hx : L.sh[i]? = some L.sh[i] := List.getElem?_eq_getElem (by omega)
    have hz := sh_bd g hx
    unfold szP at hz
    have hm : 0 <= L.sh[i].w * L.sh[i].h := Int.mul_nonneg (by omega) (by omega)
    rw [List.take_add_one, hx, Option.toList_some, List.map_append, List.sum_append]
    simp only [List.map_cons, List.map_nil, List.sum_cons, List.sum_nil]
    push_cast
    omega
def histC (L : Lay) (n : Int) : Int := if (L.st n).kind = 4 then (L.st n).bins * (L.cnt n - 1) else 0
theorem hist_bd {L : Lay} (g : LayG L) {n : Int} (hn : n ∈ L.od) : 0 <= histC L n /\ histC L n <= 2097152 := by
  unfold histC
  split
  · rename_i hk
    have hb := g.byt hn
    unfold bytOK at hb
    have hc := g.cntb hn
    have := mul_bd (a := (L.st n).bins) (b := L.cnt n - 1) (A := 128) (B := 16384) (by omega) (by omega)
    omega
  · omega
theorem histsum_le {L : Lay} (g : LayG L) : ∀ i : Nat, i <= L.od.length -> 0 <= ((L.od.take i).map (histC L)).sum /\ ((L.od.take i).map (histC L)).sum <= 2097152 * i
  | 0, _ => by simp
  | i + 1, hi => by
    have ih := histsum_le g i (by omega)
    have hx : L.od[i]? = some L.od[i] := List.getElem?_eq_getElem (by omega)
    have hz := hist_bd g (List.mem_of_getElem? hx)
    rw [sum_take hx]
    push_cast
    omega
theorem p20_plan (p : Job) (tw : Int) (th : Int) (hp : Job.Ok [H] p) (hb : p.inputs.n <= 1000000 /\ p.stages.n <= 1000000 /\ p.outputs.n <= 1000000) (hS : Sat W w (H :: F)) :
  Calls prog 46 #[.agg (encJob p).toArray, I tw, I th] w fun e w' => (¬ lowC p.v tw th = 0 /\ e = .returned (.tuple #[.pointer none, I (lowC p.v tw th)]) /\ Sat W w' (H :: F)) \/ (lowC p.v tw th = 0 /\ ∃ (b : Nat) (x : LayM) (G : Chunk), e = .returned (.tuple #[Pt b 0, I 0]) /\ LayM.Ok [G ++ H] x /\ x.L = layV p.v tw th /\ LayG x.L /\ x.jobStages.n = x.jobStages.l.length /\ LayW x /\ x.L.total <= 4096 /\ Sat W w' ([(b, .cells (encLayM x).toArray 97 (0, 0))] :: (G ++ H) :: F)) := by
 have hl_p_inputs := hp.inputs.le; have hn_p_inputs := hp.inputs.len
 have hl_p_stages := hp.stages.le; have hn_p_stages := hp.stages.len
 have hl_p_outputs := hp.outputs.le; have hn_p_outputs := hp.outputs.len
 have hpi : p.v.inputs.length = p.inputs.n := by simp [Job.v, hn_p_inputs]
 have hps : p.v.stages.length = p.stages.n := by simp [Job.v, hn_p_stages]
 refine callsA 120 func46 rfl <| sR <| sBox hS (.agg (encJob p).toArray) (encJob p).toArray fun a1 _ z0 => pu2 <| zS <| lA z0 0 0 4 (isAgg28 _) (sizeOf28 _) <| cX call82 (p17_shapes p ⟨(RdT.flat (hp.inputs.up 1 (by rfl))), (fun z hz => (hp.inputsD z hz).of_mem (mem_flat1 1 (by rfl))), (RdT.flat (hp.stages.up 1 (by rfl))), (fun z hz => (hp.stagesD z hz).of_mem (mem_flat1 1 (by rfl))), (RdT.flat (hp.outputs.up 1 (by rfl)))⟩ (od) z0.flat) ?_
 rintro _ _ ⟨i0, a0, j0, q0, rfl, r0, b1⟩
 have v0 := b1.unflat1
 have hn_az_7 := r0.len; have hl_az_7 := r0.le
 refine pu7 <| zQ <| pu2 <| nT <| cN ((shpV p.v).2.2) 0 (fun l0 => ?_) (fun l0 => ?_)
 rotate_left
 ·refine sR <| pu3 <| zR <| retT [.pointer none, I ((shpV p.v).2.2)] ?_
  have c1 := (v0.drops [0, 0])
  have hk : lowC p.v tw th = (shpV p.v).2.2 := by unfold lowC; rw [if_neg l0]
  exact .inl ⟨by rw [hk]; omega, by rw [hk]; rfl, c1⟩
 refine kS <| lA v0 1 0 4 (isAgg28 _) (sizeOf28 _) <| cX call86 (p17_order p ⟨(RdT.flat (hp.inputs.up 2 (by rfl))), (fun z hz => (hp.inputsD z hz).of_mem (mem_flat1 2 (by rfl))), (RdT.flat (hp.stages.up 2 (by rfl))), (fun z hz => (hp.stagesD z hz).of_mem (mem_flat1 2 (by rfl))), (RdT.flat (hp.outputs.up 2 (by rfl)))⟩ (od) v0.flat) ?_
 rintro _ _ ⟨g0, f0, h0, s0, rfl, n0, d1⟩
 have o0 := d1.unflat1
 have hn_az_16 := n0.len; have hl_az_16 := n0.le
 refine pu5 <| nilO ?_
 have hso := shp_ok (j := p.v) l0; have hod := hso.od
 have hsl : (shpV p.v).1.length = p.inputs.n + p.stages.n := by have h := hso.len; omega
 have hol : (ordV p.v).1.length = p.stages.n := by have h := hso.ln; omega
 have hnn := hso.nn
 refine tN <| seqE <| sR <| pu2 <| nT <| cN ((ordV p.v).2) 0 (fun e1 => ?_) (fun e1 => ?_)
 rotate_left
 ·exact sR <| pu3 <| zR <| retT [.pointer none, I ((ordV p.v).2)] <| absurd hod om
 refine kT <| seqE <| sR <| pu3 <| sD 39 (tw < 1) (fun f1 => ?_) (fun f1 => ?_)
 ·refine pu11 <| zC <| pu2 <| zR <| retT [.pointer none, I 2] ?_
  have g1 := (o0.drops [0, 0, 0])
  have hk : lowC p.v tw th = 2 := by unfold lowC; rw [if_pos l0, if_neg (by unfold tileP; omega)]
  exact .inl ⟨by rw [hk]; omega, by rw [hk]; rfl, g1⟩
 refine pu4 <| sD 43 (tw > 64) (fun h1 => ?_) (fun h1 => ?_)
 ·refine pu7 <| zC <| pu2 <| zR <| retT [.pointer none, I 2] ?_
  have i1 := (o0.drops [0, 0, 0])
  have hk : lowC p.v tw th = 2 := by unfold lowC; rw [if_pos l0, if_neg (by unfold tileP; omega)]
  exact .inl ⟨by rw [hk]; omega, by rw [hk]; rfl, i1⟩
 refine pu4 <| sD 47 (th < 1) (fun j1 => ?_) (fun j1 => ?_)
 ·refine pu3 <| zC <| pu2 <| zR <| retT [.pointer none, I 2] ?_
  have k1 := (o0.drops [0, 0, 0])
  have hk : lowC p.v tw th = 2 := by unfold lowC; rw [if_pos l0, if_neg (by unfold tileP; omega)]
  exact .inl ⟨by rw [hk]; omega, by rw [hk]; rfl, k1⟩
 refine pu3 <| nT <| cD (th > 64) (fun l1 => ?_) (fun l1 => ?_)
 ·refine sR <| pu2 <| zR <| retT [.pointer none, I 2] ?_
  have m1 := (o0.drops [0, 0, 0])
  have hk : lowC p.v tw th = 2 := by unfold lowC; rw [if_pos l0, if_neg (by unfold tileP; omega)]
  exact .inl ⟨by rw [hk]; omega, by rw [hk]; rfl, m1⟩
 refine kT <| seqE ?_
 have htp : tileP tw th := by unfold tileP; omega
 obtain ⟨L, hL⟩ : ∃ z : Lay, z = (⟨(p.inputs.n : Int), p.stages.l.map Stage.v, (shpV p.v).1, (ordV p.v).1, tw, th⟩ : Lay) := ⟨_, rfl⟩
 have hlv : L = layV p.v tw th := by rw [hL]; unfold layV; rw [hpi]; rfl
 have hg : LayG L := by rw [hlv]; exact lay_ok hso htp
 have hLd : L.od = (ordV p.v).1 := by rw [hL]
 have hLs : L.sh = (shpV p.v).1 := by rw [hL]
 have hg2 : LayG (⟨(p.inputs.n : Int), p.stages.l.map Stage.v, (shpV p.v).1, (ordV p.v).1, tw, th⟩ : Lay) := by rw [<- hL]; exact hg
 have hLt : L.tw = tw /\ L.th = th := by rw [hL]; exact ⟨rfl, rfl⟩
 have hgn := hg.ni; have hgl : (L.ss.length : Int) = p.stages.n := by rw [hL]; simp [hn_p_stages]
 have hgi : L.ni = (p.inputs.n : Int) := by rw [hL]
 refine rE <| lA o0 2 0 4 (isAgg28 _) (sizeOf28 _) <| pu5 <| sBox o0 (.agg #[.slice p.inputs.a p.inputs.n p.inputs.k, .slice p.stages.a p.stages.n p.stages.k, .slice p.outputs.a p.outputs.n p.outputs.k, I p.priority, I tw, I th, .slice g0 f0 h0, .slice i0 a0 j0, nS, nS]) #[.slice p.inputs.a p.inputs.n p.inputs.k, .slice p.stages.a p.stages.n p.stages.k, .slice p.outputs.a p.outputs.n p.outputs.k, I p.priority, I tw, I th, .slice g0 f0 h0, .slice i0 a0 j0, nS, nS] fun k0 _ n1 => pu1 <| zS <| pu3 <| sMake (kl := .i64) (kc := .i64) (enc := Go.E.encI) (sz := 1) (nb := 8) n1 0 a0 (a0 : Int) (rfl : (a0 : Int) = (a0 : Int)) underlying22 (i := Tryz.t3) kr fR fun d0 o1 _ q1 r1 => pu2 ?_
 refine tW r1 1 8 (.slice (At d0 0) a0 a0) sizeOf22 fun _ s1 => zS <| pu3 <| sMake (kl := .i64) (kc := .i64) (enc := Go.E.encI) (sz := 1) (nb := 8) s1 0 a0 (a0 : Int) (rfl : (a0 : Int) = (a0 : Int)) underlying22 (i := Tryz.t3) kr fR fun e0 t1 _ u1 v1 => pu2 <| tW v1 2 9 (.slice (At e0 0) a0 a0) sizeOf22 fun _ w1 => zS <| pu1 <| zQ <| pu3 <| nT <| blockE ?_
 have x1 := (w1.picks [0, 1])
 refine loopA (γ := Nat × Int × (List Int) × Chunk × (List Int) × Chunk) (fun ⟨i, tot, fl, cf, cl, cc⟩ => [(1, I tw), (2, I th), (12, Pt k0 0), (70, .slice g0 f0 h0), (71, I (f0 : Int)), (13, I tot), (72, I (i : Int))]) (fun ⟨i, tot, fl, cf, cl, cc⟩ w => Sat W w (cf :: cc :: [(k0, .cells #[.slice p.inputs.a p.inputs.n p.inputs.k, .slice p.stages.a p.stages.n p.stages.k, .slice p.outputs.a p.outputs.n p.outputs.k, I p.priority, I tw, I th, .slice g0 f0 h0, .slice i0 a0 j0, .slice (At d0 0) a0 a0, .slice (At e0 0) a0 a0] 97 (0, 0))] :: s0 :: q0 :: [(a1, .cells (encJob p).toArray 28 (0, 0))] :: H :: F) /\ i <= p.stages.n /\ OwnT Go.E.encI 3 1 (At d0 0) a0 a0 fl cf /\ OwnT Go.E.encI 3 1 (At e0 0) a0 a0 cl cc /\ (∀ n ∈ L.od.take i, fl[n.toNat]? = some (L.first n) /\ cl[n.toNat]? = some (L.cnt n)) /\ tot = ((L.od.take i).map L.cnt).sum) (fun ⟨i, tot, fl, cf, cl, cc⟩ => (p.stages.n - i)) (0, 0, (List.replicate a0 0), o1, (List.replicate a0 0), t1) ⟨x1, om, q1, u1, (by intro n hn; simp at hn), (by simp)⟩ ?_
 rintro ⟨i, tot, fl, cf, cl, cc⟩ ρ _ ⟨t0, hi, hOf, hOc, hF, hT⟩
 have hlf := hOf.len; have hlc := hOc.len; have hlfe := hOf.le; have hlce := hOc.le; have hts := take_sum_le hg i; have htb := hg.totb
 refine sR <| pu1 <| nT <| seqE <| cD ((i : Int) < (f0 : Int)) (fun y1 => ?_) (fun y1 => ?_)
 rotate_left
 ·refine exitE <| xB <| tN <| seqE <| sR <| pu2 <| nT <| cD (tot > 4096) (fun z1 => ?_) (fun z1 => ?_)
  ·refine sR <| pu2 <| zR <| retT [.pointer none, I 13] ?_
   have a2 := (t0.drops [0, 0, 0, 0, 0, 0])
   have hk : lowC p.v tw th = 13 := by unfold lowC; rw [if_pos l0, if_pos htp, if_neg (by rw [<- hlv]; unfold Lay.total; rw [<- List.take_of_length_le (l := L.od) (i := i) (by rw [hLd]; omega), <- hT]; omega)]
   exact .inl ⟨by rw [hk]; omega, by rw [hk]; rfl, a2⟩
  refine kS <| pu3 <| zE <| retT [Pt k0 0, I 0] ?_
  have htt : L.total <= 4096 := by unfold Lay.total; rw [<- List.take_of_length_le (l := L.od) (i := i) (by rw [hLd]; omega), <- hT]; omega
  have hk : lowC p.v tw th = 0 := by unfold lowC; rw [if_pos l0, if_pos htp, if_pos (by rw [<- hlv]; exact htt)]
  have b2 := ((t0.picks [4, 4, 4]).dropAt 5 rfl)
  have c2 : Sat W _ ([(k0, .cells #[.slice p.inputs.a p.inputs.n p.inputs.k, .slice p.stages.a p.stages.n p.stages.k, .slice p.outputs.a p.outputs.n p.outputs.k, I p.priority, I tw, I th, .slice g0 f0 h0, .slice i0 a0 j0, .slice (At d0 0) a0 a0, .slice (At e0 0) a0 a0] 97 (0, 0))] :: ((s0 ++ q0 ++ cf ++ cc) ++ H) :: F) := Sat.perm (show Sat W _ ([(k0, .cells #[.slice p.inputs.a p.inputs.n p.inputs.k, .slice p.stages.a p.stages.n p.stages.k, .slice p.outputs.a p.outputs.n p.outputs.k, I p.priority, I tw, I th, .slice g0 f0 h0, .slice i0 a0 j0, .slice (At d0 0) a0 a0, .slice (At e0 0) a0 a0] 97 (0, 0))] :: s0 :: q0 :: cf :: cc :: H :: F) from b2) (by simp)
  have hok : LayM.Ok [(s0 ++ q0 ++ cf ++ cc) ++ H] (⟨p.inputs, p.stages, p.outputs, p.priority, tw, th, ⟨g0, f0, h0, ((ordV p.v).1)⟩, ⟨i0, a0, j0, ((shpV p.v).1)⟩, ⟨(At d0 0), a0, a0, fl⟩, ⟨(At e0 0), a0, a0, cl⟩⟩ : LayM) := ⟨(hp.inputs.of_mem mS), (fun z hz => (hp.inputsD z hz).of_mem mS), (hp.stages.of_mem mS), (fun z hz => (hp.stagesD z hz).of_mem mS), (hp.outputs.of_mem mS), (n0.rd (fun p hp => by simp [hp])), (r0.rd (fun p hp => by simp [hp])), (hOf.rd (fun p hp => by simp [hp])), (hOc.rd (fun p hp => by simp [hp]))⟩
  refine .inr ⟨hk, k0, (⟨p.inputs, p.stages, p.outputs, p.priority, tw, th, ⟨g0, f0, h0, ((ordV p.v).1)⟩, ⟨i0, a0, j0, ((shpV p.v).1)⟩, ⟨(At d0 0), a0, a0, fl⟩, ⟨(At e0 0), a0, a0, cl⟩⟩ : LayM), (s0 ++ q0 ++ cf ++ cc), rfl, hok, ?_, hg2, hn_p_stages.symm, ?_, ?_, c2⟩
  ·rw [<- hlv, hL]; rfl
  ·exact fun n hn => by have h := hF n (by rw [List.take_of_length_le (by rw [hLd]; omega), hLd]; exact hn); rw [hL] at h; exact h
  ·rw [hL] at htt; exact htt
 refine kT <| seqE <| blockE <| sR <| sIdxO n0 (i : Int) i runUnderlying22 sizeOf3 fun c0 _ _ w0 d2 _ => ?_
 have hnd : c0 ∈ L.od := by rw [hLd]; exact List.mem_of_getElem? w0
 have hrn := hg.rng c0 hnd; have hcb := hg.cntb hnd; have hfi := hg.fine hnd; have hgr := hg.grid hnd; have hcs := hg.cutsz hnd; unfold szP at hcs
 refine sLp t0 (d2.up 3 rfl) 0 (I c0) (isAgg3 _) <| pu1 <| zS <| pu2 ?_
 have e2 := (t0.pick 2 rfl)
 refine cX call87 (p20_cut (x := (⟨p.inputs, p.stages, p.outputs, p.priority, tw, th, ⟨g0, f0, h0, ((ordV p.v).1)⟩, ⟨i0, a0, j0, ((shpV p.v).1)⟩, ⟨(At d0 0), a0, a0, fl⟩, ⟨(At e0 0), a0, a0, cl⟩⟩ : LayM)) ⟨(RdT.flat (hp.inputs.up 5 (by rfl))), (fun z hz => (hp.inputsD z hz).of_mem (mem_flat1 5 (by rfl))), (RdT.flat (hp.stages.up 5 (by rfl))), (fun z hz => (hp.stagesD z hz).of_mem (mem_flat1 5 (by rfl))), (RdT.flat (hp.outputs.up 5 (by rfl))), (RdT.flat (n0.rdAt 2 (by rfl))), (RdT.flat (r0.rdAt 3 (by rfl))), (RdT.flat (hOf.rdAt 0 (by rfl))), (RdT.flat (hOc.rdAt 1 (by rfl)))⟩ c0 hg2 hn_p_stages.symm (show c0 ∈ (ordV p.v).1 from hLd ▸ hnd) e2.flat1) ?_
 rintro _ _ ⟨rfl, f2⟩
 have g2 := f2.unflat1
 obtain ⟨b0, hm_m_61⟩ : ∃ z : Shape, z = L.cut c0 := ⟨_, rfl⟩
 rw [show (LayM.L (⟨p.inputs, p.stages, p.outputs, p.priority, tw, th, ⟨g0, f0, h0, ((ordV p.v).1)⟩, ⟨i0, a0, j0, ((shpV p.v).1)⟩, ⟨(At d0 0), a0, a0, fl⟩, ⟨(At e0 0), a0, a0, cl⟩⟩ : LayM)).cut c0 = b0 from by rw [hm_m_61, hL]; rfl]
 rw [<- hm_m_61] at hcs; rw [<- hm_m_61, hLt.1, hLt.2] at hfi
 refine sAlloc g2 zeroValue54 fun _ _ h2 => ?_
 refine sT h2 0 0 (.agg #[I b0.w, I b0.h, I b0.max_]) [I b0.w, I b0.h, I b0.max_] #[I b0.w, I b0.h, I b0.max_] sizeOf54 fun _ x0 => zS <| pu1 <| sL x0 0 0 (I b0.w) (isAgg3 _) <| pu1 <| sL x0 0 1 (I b0.h) (isAgg3 _) <| pu2 <| cR call88 (p5_count b0.w b0.h tw th x0.flat) fun _ i2 => pu5 <| nilO ?_
 have hxn : L.nx c0 = (colsN b0.w b0.h tw th) /\ L.ny c0 = (rowsN b0.w b0.h tw th) := by unfold Lay.nx Lay.ny; rw [<- hm_m_61, hLt.1, hLt.2]; exact ⟨rfl, rfl⟩
 rw [hxn.1, hxn.2] at hgr
 refine tN <| sR <| pu2 <| sMul (colsN b0.w b0.h tw th) (rowsN b0.w b0.h tw th) <| pu1 <| zQ <| pu2 ?_
 have j2 := (i2.pick 1 rfl)
 refine cX call60 (p20_stage (x := (⟨p.inputs, p.stages, p.outputs, p.priority, tw, th, ⟨g0, f0, h0, ((ordV p.v).1)⟩, ⟨i0, a0, j0, ((shpV p.v).1)⟩, ⟨(At d0 0), a0, a0, fl⟩, ⟨(At e0 0), a0, a0, cl⟩⟩ : LayM)) ⟨(RdT.flat (hp.inputs.up 6 (by rfl))), (fun z hz => (hp.inputsD z hz).of_mem (mem_flat1 6 (by rfl))), (RdT.flat (hp.stages.up 6 (by rfl))), (fun z hz => (hp.stagesD z hz).of_mem (mem_flat1 6 (by rfl))), (RdT.flat (hp.outputs.up 6 (by rfl))), (RdT.flat (n0.rdAt 3 (by rfl))), (RdT.flat (r0.rdAt 4 (by rfl))), (RdT.flat (hOf.rdAt 1 (by rfl))), (RdT.flat (hOc.rdAt 2 (by rfl)))⟩ c0 (show (p.inputs.n : Int) <= c0 /\ c0 < (p.inputs.n : Int) + (p.stages.n : Int) by omega) (show p.inputs.n <= 1000 /\ p.stages.n <= 1000 by omega) j2.flat1) ?_
 rintro _ _ ⟨m0, rfl, u0, k2⟩
 have p0 := k2.unflat1; replace u0 : p.stages.l[(c0 - (p.inputs.n : Int)).toNat]? = some m0 := u0
 have hok_q_74 := hp.stagesD m0 (List.mem_of_getElem? u0); have hst_q_74 : (⟨(p.inputs.n : Int), p.stages.l.map Stage.v, (shpV p.v).1, (ordV p.v).1, tw, th⟩ : Lay).st c0 = m0.v := stg_at (map_at (f := Stage.v) u0)
 refine pu2 <| nT <| cE m0.kind 4 (fun y0 => ?_) (fun y0 => ?_)
 rotate_left
 ·refine kT <| seqE ?_
  have hcn : ((colsN b0.w b0.h tw th) * (rowsN b0.w b0.h tw th)) = L.cnt c0 := by unfold Lay.cnt; rw [show L.st c0 = m0.v from by rw [hL]; exact hst_q_74, if_neg (show ¬ m0.v.kind = 4 from y0), hxn.1, hxn.2]
  obtain ⟨l2, m2, n2, o2, s4, p2, q2⟩ := OwnT.elem hOf c0
  obtain ⟨r2, s2, t2, u2, t4, v2, w2⟩ := OwnT.elem hOc c0
  refine drawE [13, 15] [(3, ⟨k0, 8, none⟩, .slice (At d0 0) a0 a0), (8, ⟨k0, 9, none⟩, .slice (At e0 0) a0 a0)] [(true, [0, 1, 2, 4, 5, 6, 7, 9, 10, 11]), (true, [3]), (true, [8]), (true, [12]), (false, [13]), (true, [14]), (false, [15])] rfl kr ⟨cI p0 0, cI p0 0, trivial⟩ ?_
  have x2 := p0.drew
  refine wU [0, 1, 2, 4, 5, 6, 7, 9, 10, 11] <| wLd (.slice (At d0 0) a0 a0) 0 isAgg22 <| wLd (.slice (At e0 0) a0 a0) 1 isAgg22 <| wY (.pointer (some ⟨m2, n2 + (c0).toNat * 1, none⟩)) rfl (fun w _ => Y_idx (a := (At d0 0)) (i := c0) (len := a0) (cap := a0) rfl runUnderlying22 sizeOf3 kr kr p2) <| wO rfl <| sStF x2 hOf q2 2 (c0).toNat 0 l2 tot o2 (I tot) [I tot] sizeOf3 fun _ y2 z2 a3 => nilO ⟨dA, ?_⟩
  refine wY (.pointer (some ⟨s2, t2 + (c0).toNat * 1, none⟩)) rfl (fun w _ => Y_idx (a := (At e0 0)) (i := c0) (len := a0) (cap := a0) rfl runUnderlying22 sizeOf3 kr kr v2) <| wO rfl <| sStF a3 hOc w2 3 (c0).toNat 0 r2 ((colsN b0.w b0.h tw th) * (rowsN b0.w b0.h tw th)) u2 (I ((colsN b0.w b0.h tw th) * (rowsN b0.w b0.h tw th))) [I ((colsN b0.w b0.h tw th) * (rowsN b0.w b0.h tw th))] sizeOf3 fun _ b3 c3 d3 => nilO ⟨dA, ?_⟩
  refine wN <| tN <| rE <| pu2 <| sAdd tot ((colsN b0.w b0.h tw th) * (rowsN b0.w b0.h tw th)) <| pu1 <| nB <| rE <| sAdd (i : Int) 1 <| pu1 <| nT ?_
  have e3 := ((d3.picks [3, 3]).dropAt 3 rfl)
  have hLi : L.od[i]? = some c0 := by rw [hLd]; exact w0
  exact ⟨(i + 1, (tot + ((colsN b0.w b0.h tw th) * (rowsN b0.w b0.h tw th))), (fl.set ((c0).toNat) tot), y2, (cl.set ((c0).toNat) ((colsN b0.w b0.h tw th) * (rowsN b0.w b0.h tw th))), b3), od, alA, e3, om, z2, c3, (layw_step hg hLi hF hT hcn om om), (by rw [sum_take hLi, <- hT, <- hcn])⟩
 refine rE <| pu1 <| sAdd ((colsN b0.w b0.h tw th) * (rowsN b0.w b0.h tw th)) 1 <| pu1 <| nT <| seqE ?_
 have hcn : (((colsN b0.w b0.h tw th) * (rowsN b0.w b0.h tw th)) + 1) = L.cnt c0 := by unfold Lay.cnt; rw [show L.st c0 = m0.v from by rw [hL]; exact hst_q_74, if_pos (show m0.v.kind = 4 from y0), hxn.1, hxn.2]
 obtain ⟨f3, g3, h3, i3, w4, j3, k3⟩ := OwnT.elem hOf c0
 obtain ⟨l3, m3, n3, o3, x4, p3, q3⟩ := OwnT.elem hOc c0
 refine drawE [13, 15] [(3, ⟨k0, 8, none⟩, .slice (At d0 0) a0 a0), (8, ⟨k0, 9, none⟩, .slice (At e0 0) a0 a0)] [(true, [0, 1, 2, 4, 5, 6, 7, 9, 10, 11]), (true, [3]), (true, [8]), (true, [12]), (false, [13]), (true, [14]), (false, [15])] rfl kr ⟨cI p0 0, cI p0 0, trivial⟩ ?_
 have r3 := p0.drew
 refine wU [0, 1, 2, 4, 5, 6, 7, 9, 10, 11] <| wLd (.slice (At d0 0) a0 a0) 0 isAgg22 <| wLd (.slice (At e0 0) a0 a0) 1 isAgg22 <| wY (.pointer (some ⟨g3, h3 + (c0).toNat * 1, none⟩)) rfl (fun w _ => Y_idx (a := (At d0 0)) (i := c0) (len := a0) (cap := a0) rfl runUnderlying22 sizeOf3 kr kr j3) <| wO rfl <| sStF r3 hOf k3 2 (c0).toNat 0 f3 tot i3 (I tot) [I tot] sizeOf3 fun _ s3 u3 v3 => nilO ⟨dA, ?_⟩
 refine wY (.pointer (some ⟨m3, n3 + (c0).toNat * 1, none⟩)) rfl (fun w _ => Y_idx (a := (At e0 0)) (i := c0) (len := a0) (cap := a0) rfl runUnderlying22 sizeOf3 kr kr p3) <| wO rfl <| sStF v3 hOc q3 3 (c0).toNat 0 l3 (((colsN b0.w b0.h tw th) * (rowsN b0.w b0.h tw th)) + 1) o3 (I (((colsN b0.w b0.h tw th) * (rowsN b0.w b0.h tw th)) + 1)) [I (((colsN b0.w b0.h tw th) * (rowsN b0.w b0.h tw th)) + 1)] sizeOf3 fun _ w3 x3 y3 => nilO ⟨dA, ?_⟩
 refine wN <| tN <| rE <| pu2 <| sAdd tot (((colsN b0.w b0.h tw th) * (rowsN b0.w b0.h tw th)) + 1) <| pu1 <| nB <| rE <| sAdd (i : Int) 1 <| pu1 <| nT ?_
 have z3 := ((y3.picks [3, 3]).dropAt 3 rfl)
 have hLi : L.od[i]? = some c0 := by rw [hLd]; exact w0
 exact ⟨(i + 1, (tot + (((colsN b0.w b0.h tw th) * (rowsN b0.w b0.h tw th)) + 1)), (fl.set ((c0).toNat) tot), s3, (cl.set ((c0).toNat) (((colsN b0.w b0.h tw th) * (rowsN b0.w b0.h tw th)) + 1)), w3), od, alA, z3, om, u3, x3, (layw_step hg hLi hF hT hcn om om), (by rw [sum_take hLi, <- hT, <- hcn])⟩
theorem p20_low (p : Job) (tw : Int) (th : Int) (hp : Job.Ok [H] p) (hb : p.inputs.n <= 1000000 /\ p.stages.n <= 1000000 /\ p.outputs.n <= 1000000) (hS : Sat W w (H :: F)) :
  Calls prog 16 #[.agg (encJob p).toArray, I tw, I th] w fun e w' => ∃ (az : Option Addr) (nz kz : Nat) (zs : List Task) (Z G : Chunk), e = .returned (.tuple #[.slice az nz kz, I (lowC p.v tw th)]) /\ OwnT encTask 46 9 az nz kz zs Z /\ (∀ z ∈ zs, Task.Ok [G] z) /\ zs.map Task.v = lowV p.v tw th /\ Sat W w' (Z :: G :: H :: F) := by
 have hl_p_inputs := hp.inputs.le; have hn_p_inputs := hp.inputs.len
 have hl_p_stages := hp.stages.le; have hn_p_stages := hp.stages.len
 have hl_p_outputs := hp.outputs.le; have hn_p_outputs := hp.outputs.len
 refine callsA 39 func16 rfl <| sR <| sBox hS (.agg (encJob p).toArray) (encJob p).toArray fun o0 _ p0 => pu2 <| zS <| lA p0 0 0 4 (isAgg28 _) (sizeOf28 _) <| pu2 <| sF #[.agg (encJob p).toArray, I tw, I th] call46 (Calls.mono (p20_plan (F := []) p tw th ⟨(RdT.flat (hp.inputs.up 1 (by rfl))), (fun z hz => (hp.inputsD z hz).of_mem (mem_flat1 1 (by rfl))), (RdT.flat (hp.stages.up 1 (by rfl))), (fun z hz => (hp.stagesD z hz).of_mem (mem_flat1 1 (by rfl))), (RdT.flat (hp.outputs.up 1 (by rfl)))⟩ om p0.flat) ?_)
 rintro _ _ (⟨c0, rfl, g0⟩ | ⟨c0, e0, a0, q0, rfl, b0, t0, u0, hx2_13, v0, w0, g0⟩)
 ·refine ⟨_, rfl, ?_⟩
  have x0 := g0.unflat
  refine pu5 <| zQ <| pu2 <| nT <| cT _ (bne_iff_ne.2 c0) <| sR <| pu3 <| zR <| retT [nS, I (lowC p.v tw th)] ?_
  have y0 := (x0.dropAt 0 rfl)
  have z0 : Sat W _ ([] :: [] :: H :: F) := Sat.nilc (Sat.nilc y0)
  exact ⟨none, 0, 0, [], _, _, rfl, OwnT.nil fR, (fun z hz => by cases hz), by unfold lowV; rw [if_neg c0]; rfl, z0⟩
 ·refine ⟨_, rfl, ?_⟩
  obtain ⟨h0, i0⟩ : ∃ z : Chunk, z = q0 ++ (([(o0, .cells (encJob p).toArray 28 (0, 0))] :: H :: F) : List Chunk).flatten := ⟨_, rfl⟩; rw [<- i0] at b0; have j0 := g0; rw [<- i0] at j0
  have hl_x_8_jobInputs := b0.jobInputs.le; have hn_x_8_jobInputs := b0.jobInputs.len
  have hl_x_8_jobStages := b0.jobStages.le; have hn_x_8_jobStages := b0.jobStages.len
  have hl_x_8_jobOutputs := b0.jobOutputs.le; have hn_x_8_jobOutputs := b0.jobOutputs.len
  have hl_x_8_order := b0.order.le; have hn_x_8_order := b0.order.len
  have hl_x_8_shapes := b0.shapes.le; have hn_x_8_shapes := b0.shapes.len
  have hl_x_8_first := b0.first.le; have hn_x_8_first := b0.first.len
  have hl_x_8_count := b0.count.le; have hn_x_8_count := b0.count.len
  have hg := u0; have hx2 := hx2_13; have hW := v0; have htt := w0
  refine pu5 <| zQ <| pu2 <| nT <| cFf <| kS <| pu1 <| zQ <| pu3 <| sL j0 0 6 (.slice a0.order.a a0.order.n a0.order.k) (isAgg22 _) <| pu2 <| nT <| blockE ?_
  have a1 := Sat.nilc j0
  have b1 := OwnT.nil (enc := encTask) (E := 46) (sz := 9) fR
  refine loopA (γ := Nat × (List Task) × (Option Addr) × Nat × Nat × Chunk × Chunk) (fun ⟨i, zs, azs, nzs, kzs, czs, Gzs⟩ => [(8, Pt e0 0), (26, .slice a0.order.a a0.order.n a0.order.k), (27, I (a0.order.n : Int)), (28, I (i : Int)), (10, .slice azs nzs kzs)]) (fun ⟨i, zs, azs, nzs, kzs, czs, Gzs⟩ w => Sat W w [Gzs, czs, [(e0, .cells (encLayM a0).toArray 97 (0, 0))], h0] /\ i <= a0.order.n /\ (zs.map Task.v = (a0.L.od.take i).flatMap a0.L.tasks) /\ ((zs.length : Int) = ((a0.L.od.take i).map a0.L.cnt).sum) /\ OwnT encTask 46 9 azs nzs kzs zs czs /\ (∀ z ∈ zs, Task.Ok [Gzs] z)) (fun ⟨i, zs, azs, nzs, kzs, czs, Gzs⟩ => a0.order.n - i) (0, [], none, 0, 0, [], []) ⟨(Sat.nilc a1), om, by rfl, (by simp), b1, (by intro z hz; cases hz)⟩ ?_
  rintro ⟨i, zs, azs, nzs, kzs, czs, Gzs⟩ ρ d1 ⟨k0, hi, hE, hzl, hOzs, hDzs⟩
  have hn_zs := hOzs.len; have hl_zs := hOzs.le
  refine sR <| pu1 <| nT <| seqE <| cD ((i : Int) < (a0.order.n : Int)) (fun e1 => ?_) (fun e1 => ?_)
  rotate_left
  ·refine exitE <| xB <| tN <| sR <| pu3 <| zE <| retT [.slice azs nzs kzs, I 0] ?_
   have f1 := ((k0.pick 1 rfl).dropAt 2 rfl)
   have g1 : Sat W d1 (czs :: Gzs :: q0 :: [(o0, .cells (encJob p).toArray 28 (0, 0))] :: H :: F) := by have h9 := f1; rw [i0] at h9; exact Sat.perm h9 (by simp [Value.cells])
   have h1 := (g1.drops [2, 2])
   have hz : zs.map Task.v = lowV p.v tw th := by unfold lowV; rw [if_pos c0, <- t0]; unfold Lay.all; rw [hE, List.take_of_length_le (by show a0.order.l.length <= _; omega)]
   exact ⟨_, _, _, _, _, _, by rw [c0]; rfl, hOzs, hDzs, hz, h1⟩
  refine kT <| seqE <| blockE <| sR <| sIdx b0.order (i : Int) runUnderlying22 sizeOf3 fun f0 _ _ d0 i1 => ?_
  rw [Int.toNat_natCast] at d0
  have hnd : f0 ∈ a0.L.od := List.mem_of_getElem? d0; have hcb := hg.cntb hnd; have hts := take_sum_le hg i; have hts1 := take_sum_le hg (i + 1); rw [sum_take (l := a0.L.od) d0] at hts1
  refine sLp k0 (i1.up 3 rfl) 0 (I f0) (isAgg3 _) <| pu1 <| nT <| rE <| pu3 ?_
  have j1 := (k0.pick 2 rfl)
  refine cX call47 (p20_tasks (b0.of_mem (mem_flat1 2 (by rfl))) f0 hg hx2 hW hnd htt j1.flat1) ?_
  rintro _ _ ⟨_, k1, _, r0, _, l0, rfl, m0, l1, s0, m1⟩
  have n1 := m1.unflat3; have hn_az_37 := m0.len; have hl_az_37 := m0.le
  have hzl_az_37 : (r0.length : Int) = a0.L.cnt f0 := by rw [<- tasks_len hg hnd, <- s0, List.length_map]
  refine sApp (nb := 88) n1 hOzs 4 (m0.rdAt 0 rfl) underlying39 (i := Tryz.t46) kr fR fun o1 q1 n0 _ r1 s1 => pu1 <| nB <| rE <| sAdd (i : Int) 1 <| pu1 <| nT ?_
  have t1 := ((s1.picks [4, 4, 3]).dropAt 3 rfl)
  exact ⟨(i + 1, (zs ++ r0), o1, (nzs + k1), q1, n0, (l0 ++ Gzs)), od, alA, (Sat.perm (cs' := (l0 ++ Gzs) :: (n0 :: [(e0, .cells (encLayM a0).toArray 97 (0, 0))] :: h0 :: [])) (show Sat W _ [l0, Gzs, n0, [(e0, .cells (encLayM a0).toArray 97 (0, 0))], h0] from t1) (by simp)), om, (by rw [List.map_append, hE, s0, <- take_flat (l := a0.L.od) d0]), (by rw [List.length_append, sum_take (l := a0.L.od) d0, <- hzl, <- hzl_az_37]; push_cast; rfl), r1, (by
    intro z hz
    rcases List.mem_append.1 hz with h | h
    ·exact (hDzs z h).of_mem mS
    ·exact (l1 z h).of_mem mS)⟩
theorem p20_cells (p : Job) (tw : Int) (th : Int) (hp : Job.Ok [H] p) (hb : p.inputs.n <= 1000000 /\ p.stages.n <= 1000000 /\ p.outputs.n <= 1000000) (hS : Sat W w (H :: F)) :
  Calls prog 20 #[.agg (encJob p).toArray, I tw, I th] w fun e w' => e = .returned (.tuple #[I (celV p.v tw th), I (lowC p.v tw th)]) /\ Sat W w' (H :: F) := by
 have hl_p_inputs := hp.inputs.le; have hn_p_inputs := hp.inputs.len
 have hl_p_stages := hp.stages.le; have hn_p_stages := hp.stages.len
 have hl_p_outputs := hp.outputs.le; have hn_p_outputs := hp.outputs.len
 refine callsA 73 func20 rfl <| sR <| sBox hS (.agg (encJob p).toArray) (encJob p).toArray fun s0 _ t0 => pu2 <| zS <| lA t0 0 0 4 (isAgg28 _) (sizeOf28 _) <| pu2 <| sF #[.agg (encJob p).toArray, I tw, I th] call46 (Calls.mono (p20_plan (F := []) p tw th ⟨(RdT.flat (hp.inputs.up 1 (by rfl))), (fun z hz => (hp.inputsD z hz).of_mem (mem_flat1 1 (by rfl))), (RdT.flat (hp.stages.up 1 (by rfl))), (fun z hz => (hp.stagesD z hz).of_mem (mem_flat1 1 (by rfl))), (RdT.flat (hp.outputs.up 1 (by rfl)))⟩ om t0.flat) ?_)
 rintro _ _ (⟨h0, rfl, l0⟩ | ⟨h0, i0, a0, u0, rfl, c0, z0, a1, hx2_13, b1, d1, l0⟩)
 ·refine ⟨_, rfl, ?_⟩
  have e1 := l0.unflat
  exact pu5 <| zQ <| pu2 <| nT <| cT _ (bne_iff_ne.2 h0) <| sR <| pu3 <| zR <| retT [I 0, I (lowC p.v tw th)] <| ⟨by unfold celV; rw [if_neg h0]; rfl, (e1.dropAt 0 rfl)⟩
 ·refine ⟨_, rfl, ?_⟩
  obtain ⟨v0, m0⟩ : ∃ z : Chunk, z = u0 ++ (([(s0, .cells (encJob p).toArray 28 (0, 0))] :: H :: F) : List Chunk).flatten := ⟨_, rfl⟩; rw [<- m0] at c0; have n0 := l0; rw [<- m0] at n0
  have hl_x_8_jobInputs := c0.jobInputs.le; have hn_x_8_jobInputs := c0.jobInputs.len
  have hl_x_8_jobStages := c0.jobStages.le; have hn_x_8_jobStages := c0.jobStages.len
  have hl_x_8_jobOutputs := c0.jobOutputs.le; have hn_x_8_jobOutputs := c0.jobOutputs.len
  have hl_x_8_order := c0.order.le; have hn_x_8_order := c0.order.len
  have hl_x_8_shapes := c0.shapes.le; have hn_x_8_shapes := c0.shapes.len
  have hl_x_8_first := c0.first.le; have hn_x_8_first := c0.first.len
  have hl_x_8_count := c0.count.le; have hn_x_8_count := c0.count.len
  have hg := a1; have hx2 := hx2_13; have hW := b1; have htt := d1
  refine pu5 <| zQ <| pu2 <| nT <| cFf <| kS <| pu1 <| zQ <| pu3 <| sL n0 0 7 (.slice a0.shapes.a a0.shapes.n a0.shapes.k) (isAgg61 _) <| pu2 <| nT <| blockE <| loopA (γ := Nat × Int) (fun ⟨i, c1⟩ => [(8, Pt i0 0), (29, .slice a0.shapes.a a0.shapes.n a0.shapes.k), (30, I (a0.shapes.n : Int)), (31, I (i : Int)), (10, I c1)]) (fun ⟨i, c1⟩ w => Sat W w [[(i0, .cells (encLayM a0).toArray 97 (0, 0))], v0] /\ i <= a0.shapes.n /\ (c1 = ((a0.L.sh.take i).map fun m => m.w * m.h).sum)) (fun ⟨i, c1⟩ => a0.shapes.n - i) (0, 0) ⟨n0, om, (by simp)⟩ ?_
  rintro ⟨i, c1⟩ ρ _ ⟨j0, hi, hE⟩
  refine sR <| pu1 <| nT <| seqE <| cD ((i : Int) < (a0.shapes.n : Int)) (fun g1 => ?_) (fun g1 => ?_)
  ·refine kT <| seqE <| blockE <| sR <| sIdx c0.shapes (i : Int) runUnderlying61 sizeOf54 fun b0 _ _ o0 h1 => ?_
   rw [Int.toNat_natCast] at o0
   have hgl := hg.len; have hgn0 := hg.ni; simp only [LayM.L] at hgl hgn0
   have hsz := sh_bd hg (show a0.L.sh[i]? = some b0 from o0); unfold szP at hsz; have hcs := cellsum_le hg i (show i <= a0.shapes.l.length by omega); have hmw := mul_bd (a := b0.w) (b := b0.h) (A := 128) (B := 128) om om
   refine sLpA j0 (h1.up 1 rfl) 0 [I b0.w, I b0.h, I b0.max_] (isAgg54 _) (sizeOf54 _) <| sAlloc j0 zeroValue54 fun _ _ i1 => ?_
   exact sT i1 0 0 (.agg #[I b0.w, I b0.h, I b0.max_]) [I b0.w, I b0.h, I b0.max_] #[I b0.w, I b0.h, I b0.max_] sizeOf54 fun _ p0 => nT <| rE <| pu2 <| sL p0 0 0 (I b0.w) (isAgg3 _) <| pu1 <| sL p0 0 1 (I b0.h) (isAgg3 _) <| sMul b0.w b0.h <| sAdd c1 (b0.w * b0.h) <| pu1 <| nB <| rE <| sAdd (i : Int) 1 <| pu1 <| nT <| ⟨(i + 1, (c1 + (b0.w * b0.h))), od, alA, (p0.dropAt 0 rfl), om, (by rw [List.take_add_one, show a0.L.sh[i]? = some b0 from o0, Option.toList_some, List.map_append, List.sum_append, <- hE]; simp)⟩
  refine exitE <| xB <| tN <| seqE <| sR <| pu3 <| sL j0 0 6 (.slice a0.order.a a0.order.n a0.order.k) (isAgg22 _) <| pu2 <| nT <| blockE <| loopA (γ := Nat × Int) (fun ⟨j, c2⟩ => [(8, Pt i0 0), (46, .slice a0.order.a a0.order.n a0.order.k), (47, I (a0.order.n : Int)), (48, I (j : Int)), (10, I c2)]) (fun ⟨j, c2⟩ w => Sat W w [[(i0, .cells (encLayM a0).toArray 97 (0, 0))], v0] /\ j <= a0.order.n /\ (c2 = c1 + ((a0.L.od.take j).map (histC a0.L)).sum)) (fun ⟨j, c2⟩ => a0.order.n - j) (0, c1) ⟨j0, om, (by simp)⟩ ?_
  rintro ⟨j, c2⟩ ρ k1 ⟨q0, hj, hE2⟩
  have hgl := hg.len; have hgn0 := hg.ni; have hgo := hg.ln; simp only [LayM.L] at hgl hgn0 hgo; have hcs9 := cellsum_le hg i (show i <= a0.shapes.l.length by omega)
  refine sR <| pu1 <| nT <| seqE <| cD ((j : Int) < (a0.order.n : Int)) (fun l1 => ?_) (fun l1 => ?_)
  rotate_left
  ·refine exitE <| xB <| tN <| sR <| pu3 <| zE <| retT [I c2, I 0] ?_
   have m1 := (q0.dropAt 0 rfl)
   have n1 : Sat W k1 (u0 :: [(s0, .cells (encJob p).toArray 28 (0, 0))] :: H :: F) := by have h9 := m1; rw [m0] at h9; exact Sat.perm h9 (by simp [Value.cells])
   have o1 := (n1.drops [0, 0])
   have hz : c2 = celV p.v tw th := by unfold celV; rw [if_pos h0, <- z0]; unfold Lay.cells; rw [hE2, hE, List.take_of_length_le (by show a0.shapes.l.length <= _; omega), List.take_of_length_le (l := a0.L.od) (by show a0.order.l.length <= _; omega)]; rfl
   exact ⟨by rw [h0, <- hz]; rfl, o1⟩
  refine kT <| seqE <| blockE <| sR <| sIdx c0.order (j : Int) runUnderlying22 sizeOf3 fun e0 _ _ k0 q1 => ?_
  rw [Int.toNat_natCast] at k0
  have hnd : e0 ∈ a0.L.od := List.mem_of_getElem? k0; have hcb := hg.cntb hnd; have hrn := hg.rng e0 hnd; have hgn := hg.ni; simp only [LayM.L, List.length_map] at hrn hgn; have hbk := hg.byt hnd; have hhs := histsum_le hg j (show j <= a0.order.l.length by omega); have hhb := hist_bd hg hnd
  have hb2 := (List.getElem?_eq_some_iff.1 (hW e0 hnd).2).1
  refine sLp q0 (q1.up 1 rfl) 0 (I e0) (isAgg3 _) <| pu1 <| zS <| pu2 <| cX call60 (p20_stage (c0.of_mem (mem_flat1 0 (by rfl))) e0 om om q0.flat1) ?_
  rintro _ _ ⟨d0, rfl, w0, r1⟩
  have s1 := r1.unflat1
  have hok_q_46 := c0.jobStagesD d0 (List.mem_of_getElem? w0); have hst_q_46 := lay_st w0
  refine sAlloc s1 zeroValue38 fun t1 _ u1 => ?_
  refine sT u1 0 0 (.agg (encStage d0).toArray) (encStage d0) (encStage d0).toArray sizeOf38 fun _ g0 => zS <| pu1 <| sL g0 0 0 (I d0.kind) (isAgg3 _) <| pu1 <| nT <| cE d0.kind 4 (fun r0 => ?_) (fun r0 => ?_)
  rotate_left
  ·refine skipE <| bN <| tN <| rE <| sAdd (j : Int) 1 <| pu1 <| nT ?_
   exact ⟨(j + 1, c2), od, alA, (g0.dropAt 0 rfl), om, (by rw [sum_take (l := a0.L.od) k0, show histC a0.L e0 = 0 from by unfold histC; rw [hst_q_46, if_neg (show ¬ d0.v.kind = 4 from r0)], hE2]; omega)⟩
  have hhc : histC a0.L e0 = d0.bins * (a0.L.cnt e0 - 1) := by unfold histC; rw [hst_q_46, if_pos (show d0.v.kind = 4 from r0)]; rfl
  rw [hst_q_46] at hbk; unfold bytOK at hbk; simp only [Stage.v] at hbk
  obtain ⟨f0, x0, y0, w1, x1, y1⟩ := RdT.elem c0.count e0
  have hc_x_54 : a0.L.cnt e0 = f0 := Option.some.inj ((hW e0 hnd).2.symm.trans w1)
  have hmq := mul_bd (a := d0.bins) (b := f0 - 1) (A := 128) (B := 16384) om om
  refine drawE [] [(2, ⟨t1, 15, none⟩, I d0.bins), (6, ⟨i0, 9, none⟩, .slice a0.count.a a0.count.n a0.count.k), (9, ⟨x0, y0, none⟩, I f0)] [(true, [0, 1, 3, 4, 5, 7]), (true, [2]), (true, [6]), (true, [8]), (true, [9]), (true, [10]), (true, [11]), (true, [12]), (true, [13])] rfl kr ⟨cI g0 0, cI g0 1, .inr ((x1.up 2 rfl).cell g0 (k := 0) rfl), trivial⟩ ?_
  have z1 := g0.drew
  exact wU [0, 1, 3, 4, 5, 7] <| wLd (I d0.bins) 0 isAgg3 <| wLd (.slice a0.count.a a0.count.n a0.count.k) 1 isAgg22 <| wY (.pointer (some ⟨x0, y0, none⟩)) rfl (fun w _ => Y_idx (a := a0.count.a) (i := e0) (len := a0.count.n) (cap := a0.count.k) rfl runUnderlying22 sizeOf3 kr kr y1) <| wLd (I f0) 2 isAgg3 <| wSub f0 1 <| wMul d0.bins (f0 - 1) <| wAdd c2 (d0.bins * (f0 - 1)) <| wU [13] <| wN <| bN <| tN <| rE <| sAdd (j : Int) 1 <| pu1 <| nT <| ⟨(j + 1, (c2 + (d0.bins * (f0 - 1)))), od, alA, (z1.dropAt 0 rfl), om, (by rw [sum_take (l := a0.L.od) k0, hhc, hc_x_54, hE2]; omega)⟩
def blurV : JobV := ⟨[⟨4, 4, 9, List.replicate 16 0⟩], [⟨6, 0, -1, false, 0, 0, 0, 0, [], [], [], 0, 0, [], [], 0, [⟨0, 0⟩], 9⟩, ⟨1, 1, -1, false, 0, 0, 3, 3, List.replicate 9 0, [], [], 0, 0, [], [], 0, [], 9⟩], [2], 0⟩
theorem bl1 : lowC blurV 2 2 = 0 := by decide +kernel
theorem bl2 : (lowV blurV 2 2).length = 8 := by decide +kernel
theorem bl4 : (lowV blurV 2 2)[7]?.map (fun z => (z.deps.length, z.rows, z.scratch)) = some (4, 2, 128) := by decide +kernel
theorem bl3 : celV blurV 2 2 = 48 := by decide +kernel
theorem bl5 : scrV (stgAt blurV.stages 0 0) ⟨4, 4, 9⟩ 0 ⟨0, 0, 2, 2⟩ = 16 := by decide +kernel
theorem l20_blur {F : List Chunk} (hS : Sat W w F) :
  Calls prog 48 #[] w fun e w' => ∃ (q : Job) (G : Chunk), e = .returned (.agg (encJob q).toArray) /\ Job.Ok [G] q /\ q.v = blurV /\ (q.inputs.n = 1 /\ q.stages.n = 2 /\ q.outputs.n = 1) /\ Sat W w' (G :: F) := by
 refine callsA 18 func48 rfl <| sR <| sAlloc hS zeroValue28 fun _ _ l0 => zS <| sMake (kl := .i64) (kc := .i64) (enc := Go.E.encI) (sz := 1) (nb := 8) l0 0 16 16 (rfl : (16 : Int) = ((16 : Nat) : Int)) underlying22 (i := Tryz.t3) kr fR fun b0 g0 _ m0 n0 => pu1 <| sAlloc n0 zeroValue87 fun _ _ o0 => ?_
 refine sT o0 0 0 (.agg #[I 4, I 4, I 9, .slice (At b0 0) 16 16]) [I 4, I 4, I 9, .slice (At b0 0) 16 16] #[I 4, I 4, I 9, .slice (At b0 0) 16 16] sizeOf87 fun _ p0 => zS <| pu1 <| sBS p0 #[I 0, I 0] runUnderlying36 sizeOf92 zeroValue92 fun a0 _ q0 => pu1 <| sAlloc q0 zeroValue38 fun _ _ r0 => ?_
 refine sT r0 0 0 (.agg #[I 6, I 0, I (-1), .bool false, I 0, I 0, I 0, I 0, nS, nS, nS, I 0, I 0, nS, nS, I 0, .slice (At a0 0) 1 1, I 9]) [I 6, I 0, I (-1), .bool false, I 0, I 0, I 0, I 0, nS, nS, nS, I 0, I 0, nS, nS, I 0, .slice (At a0 0) 1 1, I 9] #[I 6, I 0, I (-1), .bool false, I 0, I 0, I 0, I 0, nS, nS, nS, I 0, I 0, nS, nS, I 0, .slice (At a0 0) 1 1, I 9] sizeOf38 fun _ s0 => zS <| sMake (kl := .i64) (kc := .i64) (enc := Go.E.encI) (sz := 1) (nb := 8) s0 0 9 9 (rfl : (9 : Int) = ((9 : Nat) : Int)) underlying22 (i := Tryz.t3) kr fR fun c0 h0 _ t0 u0 => pu1 <| sAlloc u0 zeroValue38 fun _ _ v0 => ?_
 refine sT v0 0 0 (.agg #[I 1, I 1, I (-1), .bool false, I 0, I 0, I 3, I 3, .slice (At c0 0) 9 9, nS, nS, I 0, I 0, nS, nS, I 0, nS, I 9]) [I 1, I 1, I (-1), .bool false, I 0, I 0, I 3, I 3, .slice (At c0 0) 9 9, nS, nS, I 0, I 0, nS, nS, I 0, nS, I 9] #[I 1, I 1, I (-1), .bool false, I 0, I 0, I 3, I 3, .slice (At c0 0) 9 9, nS, nS, I 0, I 0, nS, nS, I 0, nS, I 9] sizeOf38 fun _ j0 => zS <| lA j0 4 0 4 (isAgg87 _) (sizeOf87 _) <| sBS j0 #[I 4, I 4, I 9, .slice (At b0 0) 16 16] runUnderlying25 sizeOf87 zeroValue87 fun d0 _ i0 => lA i0 3 0 18 (isAgg38 _) (sizeOf38 _) <| lA i0 1 0 18 (isAgg38 _) (sizeOf38 _) ?_
 refine sBS i0 #[I 6, I 0, I (-1), .bool false, I 0, I 0, I 0, I 0, nS, nS, nS, I 0, I 0, nS, nS, I 0, .slice (At a0 0) 1 1, I 9, I 1, I 1, I (-1), .bool false, I 0, I 0, I 3, I 3, .slice (At c0 0) 9 9, nS, nS, I 0, I 0, nS, nS, I 0, nS, I 9] runUnderlying26 sizeOf38 zeroValue38 fun e0 _ w0 => sBS w0 #[I 2] runUnderlying22 sizeOf3 zeroValue3 fun f0 _ x0 => pu1 <| sT x0 9 0 (.agg #[.slice (At d0 0) 1 1, .slice (At e0 0) 2 2, .slice (At f0 0) 1 1, I 0]) [.slice (At d0 0) 1 1, .slice (At e0 0) 2 2, .slice (At f0 0) 1 1, I 0] #[.slice (At d0 0) 1 1, .slice (At e0 0) 2 2, .slice (At f0 0) 1 1, I 0] sizeOf28 fun _ k0 => ?_
 refine zE <| retN (vs := [.agg #[.slice (At d0 0) 1 1, .slice (At e0 0) 2 2, .slice (At f0 0) 1 1, I 0]]) rfl (.cons (.cell _ _ _ _ kr (lvA k0 9 0 [.slice (At d0 0) 1 1, .slice (At e0 0) 2 2, .slice (At f0 0) 1 1, I 0] (isAgg28 _) (sizeOf28 _) rfl rfl rfl)) .nil) ?_
 have y0 := ((k0.picks [6, 8, 2, 3, 4]).drops [5, 6, 6, 6])
 have z0 : Sat W _ (([(d0, .cells #[I 4, I 4, I 9, .slice (At b0 0) 16 16] 87 (0, 0))] ++ [(e0, .cells #[I 6, I 0, I (-1), .bool false, I 0, I 0, I 0, I 0, nS, nS, nS, I 0, I 0, nS, nS, I 0, .slice (At a0 0) 1 1, I 9, I 1, I 1, I (-1), .bool false, I 0, I 0, I 3, I 3, .slice (At c0 0) 9 9, nS, nS, I 0, I 0, nS, nS, I 0, nS, I 9] 38 (0, 0))] ++ [(f0, .cells #[I 2] 3 (0, 0))] ++ g0 ++ [(a0, .cells #[I 0, I 0] 92 (0, 0))] ++ h0) :: F) := Sat.perm (show Sat W _ ([(d0, .cells #[I 4, I 4, I 9, .slice (At b0 0) 16 16] 87 (0, 0))] :: [(e0, .cells #[I 6, I 0, I (-1), .bool false, I 0, I 0, I 0, I 0, nS, nS, nS, I 0, I 0, nS, nS, I 0, .slice (At a0 0) 1 1, I 9, I 1, I 1, I (-1), .bool false, I 0, I 0, I 3, I 3, .slice (At c0 0) 9 9, nS, nS, I 0, I 0, nS, nS, I 0, nS, I 9] 38 (0, 0))] :: [(f0, .cells #[I 2] 3 (0, 0))] :: g0 :: [(a0, .cells #[I 0, I 0] 92 (0, 0))] :: h0 :: F) from y0) (by simp)
 refine ⟨(⟨⟨(At d0 0), 1, 1, [(⟨4, 4, 9, ⟨(At b0 0), 16, 16, (List.replicate 16 0)⟩⟩ : Plane)]⟩, ⟨(At e0 0), 2, 2, [(⟨6, 0, -1, false, 0, 0, 0, 0, ⟨none, 0, 0, []⟩, ⟨none, 0, 0, []⟩, ⟨none, 0, 0, []⟩, 0, 0, ⟨none, 0, 0, []⟩, ⟨none, 0, 0, []⟩, 0, ⟨(At a0 0), 1, 1, [(⟨0, 0⟩ : POp)]⟩, 9⟩ : Stage), (⟨1, 1, -1, false, 0, 0, 3, 3, ⟨(At c0 0), 9, 9, (List.replicate 9 0)⟩, ⟨none, 0, 0, []⟩, ⟨none, 0, 0, []⟩, 0, 0, ⟨none, 0, 0, []⟩, ⟨none, 0, 0, []⟩, 0, ⟨none, 0, 0, []⟩, 9⟩ : Stage)]⟩, ⟨(At f0 0), 1, 1, [2]⟩, 0⟩ : Job), ([(d0, .cells #[I 4, I 4, I 9, .slice (At b0 0) 16 16] 87 (0, 0))] ++ [(e0, .cells #[I 6, I 0, I (-1), .bool false, I 0, I 0, I 0, I 0, nS, nS, nS, I 0, I 0, nS, nS, I 0, .slice (At a0 0) 1 1, I 9, I 1, I 1, I (-1), .bool false, I 0, I 0, I 3, I 3, .slice (At c0 0) 9 9, nS, nS, I 0, I 0, nS, nS, I 0, nS, I 9] 38 (0, 0))] ++ [(f0, .cells #[I 2] 3 (0, 0))] ++ g0 ++ [(a0, .cells #[I 0, I 0] 92 (0, 0))] ++ h0), rfl, ⟨((RdT.blk (cs := [[(d0, .cells #[I 4, I 4, I 9, .slice (At b0 0) 16 16] 87 (0, 0))]]) (enc := encPlane) (sz := 4) (xs := [(⟨4, 4, 9, ⟨(At b0 0), 16, 16, (List.replicate 16 0)⟩⟩ : Plane)]) fR 1 0 rfl rfl rfl om)).of_mem mS, ?_, ((RdT.blk (cs := [[(e0, .cells #[I 6, I 0, I (-1), .bool false, I 0, I 0, I 0, I 0, nS, nS, nS, I 0, I 0, nS, nS, I 0, .slice (At a0 0) 1 1, I 9, I 1, I 1, I (-1), .bool false, I 0, I 0, I 3, I 3, .slice (At c0 0) 9 9, nS, nS, I 0, I 0, nS, nS, I 0, nS, I 9] 38 (0, 0))]]) (enc := encStage) (sz := 18) (xs := [(⟨6, 0, -1, false, 0, 0, 0, 0, ⟨none, 0, 0, []⟩, ⟨none, 0, 0, []⟩, ⟨none, 0, 0, []⟩, 0, 0, ⟨none, 0, 0, []⟩, ⟨none, 0, 0, []⟩, 0, ⟨(At a0 0), 1, 1, [(⟨0, 0⟩ : POp)]⟩, 9⟩ : Stage), (⟨1, 1, -1, false, 0, 0, 3, 3, ⟨(At c0 0), 9, 9, (List.replicate 9 0)⟩, ⟨none, 0, 0, []⟩, ⟨none, 0, 0, []⟩, 0, 0, ⟨none, 0, 0, []⟩, ⟨none, 0, 0, []⟩, 0, ⟨none, 0, 0, []⟩, 9⟩ : Stage)]) fR 2 0 rfl rfl rfl om)).of_mem mS, ?_, ((RdT.blk (cs := [[(f0, .cells #[I 2] 3 (0, 0))]]) (enc := Go.E.encI) (sz := 1) (xs := [2]) fR 1 0 rfl rfl rfl om)).of_mem mS⟩, by rfl, ⟨rfl, rfl, rfl⟩, z0⟩
 ·intro z hz; rw [List.mem_singleton.1 hz]; exact ⟨((m0.rdAt (cs := [g0]) 0 rfl)).of_mem mS⟩
 ·intro z hz; rcases List.mem_cons.1 hz with rfl | hz
  ·exact ⟨RdT.nil (enc := Go.E.encI) (sz := 1) fR _, RdT.nil (enc := Go.E.encI) (sz := 1) fR _, RdT.nil (enc := Go.E.encI) (sz := 1) fR _, RdT.nil (enc := encTap) (sz := 2) fR _, (fun z hz => by cases hz), RdT.nil (enc := encTap) (sz := 2) fR _, (fun z hz => by cases hz), ((RdT.blk (cs := [[(a0, .cells #[I 0, I 0] 92 (0, 0))]]) (enc := encPOp) (sz := 2) (xs := [(⟨0, 0⟩ : POp)]) fR 1 0 rfl rfl rfl om)).of_mem mS⟩
  ·rw [List.mem_singleton.1 hz]; exact ⟨((t0.rdAt (cs := [h0]) 0 rfl)).of_mem mS, RdT.nil (enc := Go.E.encI) (sz := 1) fR _, RdT.nil (enc := Go.E.encI) (sz := 1) fR _, RdT.nil (enc := encTap) (sz := 2) fR _, (fun z hz => by cases hz), RdT.nil (enc := encTap) (sz := 2) fR _, (fun z hz => by cases hz), RdT.nil (enc := encPOp) (sz := 2) fR _⟩
theorem l20_sane  (hS : Sat W w (H :: F)) :
  Ro prog 17 #[] (.bool true) W w (H :: F) := by
 refine callsA 62 func17 rfl <| sR <| pu1 <| zS <| cX call48 (l20_blur hS) ?_
 rintro _ _ ⟨q0, _, rfl, e0, f0, ⟨_, _, _⟩, u0⟩
 refine cX call16 (p20_low (F := []) q0 2 2 ⟨(RdT.flat (e0.inputs.up 0 (by rfl))), (fun z hz => (e0.inputsD z hz).of_mem (mem_flat1 0 (by rfl))), (RdT.flat (e0.stages.up 0 (by rfl))), (fun z hz => (e0.stagesD z hz).of_mem (mem_flat1 0 (by rfl))), (RdT.flat (e0.outputs.up 0 (by rfl)))⟩ om u0.flat) ?_
 rintro _ _ ⟨_, r0, _, l0, _, _, rfl, g0, m0, i0, v0⟩
 have w0 := v0.unflat2; have hn_az_13 := g0.len; have hl_az_13 := g0.le
 have b2 : r0 = 8 := by have h := congrArg List.length i0; rw [f0, bl2, List.length_map] at h; omega
 refine pu5 <| zS <| cX call48 (l20_blur w0) ?_
 rintro _ _ ⟨n0, _, rfl, h0, s0, ⟨_, _, _⟩, x0⟩
 refine cX call20 (p20_cells (F := []) n0 2 2 ⟨(RdT.flat (h0.inputs.up 0 (by rfl))), (fun z hz => (h0.inputsD z hz).of_mem (mem_flat1 0 (by rfl))), (RdT.flat (h0.stages.up 0 (by rfl))), (fun z hz => (h0.stagesD z hz).of_mem (mem_flat1 0 (by rfl))), (RdT.flat (h0.outputs.up 0 (by rfl)))⟩ om x0.flat) ?_
 rintro _ _ ⟨rfl, y0⟩
 have j0 := y0.unflat
 refine pu5 <| zS <| pu3 ?_
 have z0 : ((lowC q0.v 2 2) : Int) = 0 := by rw [f0]; exact bl1
 refine sFix 17 _ true (beq_iff_eq.2 z0) <| pu5 ?_
 have a1 : ((r0 : Int) : Int) = 8 := by omega
 refine sFix 22 _ true (beq_iff_eq.2 a1) <| pu1 <| gY <| sIdxO g0 7 7 runUnderlying39 sizeOf46 fun a0 _ _ k0 b1 _ => ?_
 have hx4 := bl4; rw [<- f0, <- i0, List.getElem?_map, show l0[7]? = some a0 from k0] at hx4; simp only [Option.map_some, Option.some.injEq, Prod.mk.injEq] at hx4; obtain ⟨hy1, hy2, hy3⟩ := hx4; simp only [Task.v] at hy1 hy2 hy3; have hdl := (m0 a0 (List.mem_of_getElem? k0)).deps.len
 refine pu1 <| gY <| sLp j0 (b1.up 1 rfl) 6 (.slice a0.deps.a a0.deps.n a0.deps.k) (isAgg22 _) <| pu4 ?_
 have c1 : ((a0.deps.n : Int) : Int) = 4 := by omega
 refine sFix 30 _ true (beq_iff_eq.2 c1) <| pu1 <| gY <| sIdxO g0 7 7 runUnderlying39 sizeOf46 fun d1 _ _ o0 e1 _ => ?_
 obtain rfl : a0 = d1 := Option.some.inj (k0.symm.trans o0)
 have hx4 := bl4; rw [<- f0, <- i0, List.getElem?_map, show l0[7]? = some a0 from o0] at hx4; simp only [Option.map_some, Option.some.injEq, Prod.mk.injEq] at hx4; obtain ⟨hy1, hy2, hy3⟩ := hx4; simp only [Task.v] at hy1 hy2 hy3; have hdl := (m0 a0 (List.mem_of_getElem? o0)).deps.len
 refine pu1 <| gY <| sLp j0 (e1.up 1 rfl) 7 (I a0.rows) (isAgg3 _) <| pu3 ?_
 have f1 : (a0.rows : Int) = 2 := by omega
 refine sFix 37 _ true (beq_iff_eq.2 f1) <| pu1 <| gY <| sIdxO g0 7 7 runUnderlying39 sizeOf46 fun g1 _ _ p0 h1 _ => ?_
 obtain rfl : a0 = g1 := Option.some.inj (k0.symm.trans p0)
 have hx4 := bl4; rw [<- f0, <- i0, List.getElem?_map, show l0[7]? = some a0 from p0] at hx4; simp only [Option.map_some, Option.some.injEq, Prod.mk.injEq] at hx4; obtain ⟨hy1, hy2, hy3⟩ := hx4; simp only [Task.v] at hy1 hy2 hy3; have hdl := (m0 a0 (List.mem_of_getElem? p0)).deps.len
 refine pu1 <| gY <| sLp j0 (h1.up 1 rfl) 8 (I a0.scratch) (isAgg3 _) <| pu3 ?_
 have i1 : (a0.scratch : Int) = 128 := by omega
 refine sFix 44 _ true (beq_iff_eq.2 i1) <| pu4 ?_
 have j1 : ((lowC n0.v 2 2) : Int) = 0 := by rw [s0]; exact bl1
 refine sFix 48 _ true (beq_iff_eq.2 j1) <| pu4 ?_
 have k1 : ((celV n0.v 2 2) : Int) = 48 := by rw [s0]; exact bl3
 refine sFix 52 _ true (beq_iff_eq.2 k1) <| gY <| cX call48 (l20_blur j0) ?_
 rintro _ _ ⟨l1, _, rfl, c0, m1, ⟨_, _, _⟩, t0⟩
 refine pu1 <| gY <| sIdx c0.stages 0 runUnderlying26 sizeOf38 fun b0 _ _ d0 n1 => ?_
 have hx5 : b0.v = stgAt blurV.stages 0 0 := by rw [<- m1]; unfold stgAt Job.v; simp [List.getElem?_map, show l1.stages.l[0]? = some b0 from d0]
 refine gY <| sLpA t0 (n1.up 0 rfl) 0 (encStage b0) (isAgg38 _) (sizeOf38 _) <| pu2 <| gY ?_
 refine cR call26 (p20_scratch b0 (⟨4, 4, 9⟩ : Shape) 0 (⟨0, 0, 2, 2⟩ : Rct) ⟨(RdT.flat ((c0.stagesD b0 (List.mem_of_getElem? d0)).weights.up 0 (by rfl))), (RdT.flat ((c0.stagesD b0 (List.mem_of_getElem? d0)).row.up 0 (by rfl))), (RdT.flat ((c0.stagesD b0 (List.mem_of_getElem? d0)).col.up 0 (by rfl))), (RdT.flat ((c0.stagesD b0 (List.mem_of_getElem? d0)).x.up 0 (by rfl))), (fun z hz => ((c0.stagesD b0 (List.mem_of_getElem? d0)).xD z hz).of_mem (mem_flat1 0 (by rfl))), (RdT.flat ((c0.stagesD b0 (List.mem_of_getElem? d0)).y.up 0 (by rfl))), (fun z hz => ((c0.stagesD b0 (List.mem_of_getElem? d0)).yD z hz).of_mem (mem_flat1 0 (by rfl))), (RdT.flat ((c0.stagesD b0 (List.mem_of_getElem? d0)).ops.up 0 (by rfl)))⟩ t0.flat) ?_
 intro _ o1
 exact pu3 <| zE <| retT [.bool (((scrV b0.v (⟨4, 4, 9⟩ : Shape) 0 (⟨0, 0, 2, 2⟩ : Rct)) : Int) == 16)] <| ⟨by rw [hx5, bl5]; rfl, (o1.drops [0, 0, 0, 0, 0])⟩
theorem ord_outs {I : List PlaneV} {S : List StageV} {O : List Int} {p : Int} (h1 : chkCode ⟨I, S, O, p⟩ = 0) (h2 : chkCode (jobOf I S p) = 0) : ordV ⟨I, S, O, p⟩ = ordV (jobOf I S p) := by
  unfold ordV
  rw [if_pos h1, if_pos h2]; rfl
theorem good_chk {I : List PlaneV} {S : List StageV} {O : List Int} {p : Int} (h : Good I S p) (h1 : 1 <= S.length) (hO : 1 <= O.length /\ O.length <= 2) (hr : inR ((I.length : Nat) + (S.length : Nat)) O = true) : chkCode ⟨I, S, O, p⟩ = 0 := by
  unfold chkCode
  dsimp only
  have hn := h.ni; have hs := h.ns; have hp := h.pr
  rw [if_pos (by omega), if_pos hp, if_pos, if_pos hr]
  rw [List.all_eq_true]
  intro s hs2
  obtain ⟨m, hm⟩ := List.getElem?_of_mem hs2
  unfold inR
  rw [List.all_eq_true]
  intro x hx
  have := h.od m s hm x hx
  have hml : m < S.length := (List.getElem?_eq_some_iff.1 hm).1
  exact decide_eq_true (by omega)
theorem shp_outs {I : List PlaneV} {S : List StageV} {O : List Int} {p : Int} {l : List Shape} (h : Good I S p) (hr : runS (I.map shpOf) S = some l) (h1 : 1 <= S.length) (hO : 1 <= O.length /\ O.length <= 2) (hi : inR ((I.length : Nat) + (S.length : Nat)) O = true) : shpV ⟨I, S, O, p⟩ = (l, 0, 0) := by
  have c1 := good_chk h h1 hO hi
  have c2 := good_chk (O := [0]) h h1 (by simp) (by unfold inR; simp; have := h.ni; omega)
  have e := (shp_run h h1).1 l hr
  have eo := ord_outs c1 c2
  unfold shpV at e ⊢
  rw [eo]
  exact e
theorem runS_pre : ∀ (S : List StageV) (out l : List Shape), runS out S = some l -> ∃ z, l = out ++ z
  | [], out, l, h => by simp only [runS, Option.some.injEq] at h; exact ⟨[], by simp [h]⟩
  | s :: S, out, l, h => by
    rw [runS] at h
    split at h
    · obtain ⟨z, hz⟩ := runS_pre S _ l h
      exact ⟨_, by rw [hz, List.append_assoc]⟩
    · cases h
theorem runS_len : ∀ (S : List StageV) (out l : List Shape), runS out S = some l -> l.length = out.length + S.length
  | [], out, l, h => by simp only [runS, Option.some.injEq] at h; subst h; simp
  | s :: S, out, l, h => by
    rw [runS] at h
    split at h
    · rw [runS_len S _ l h]; simp; omega
    · cases h
theorem runS_at : ∀ (S : List StageV) (out l : List Shape) (m : Nat) (s : StageV), runS out S = some l -> S[m]? = some s -> ∃ cur z, cur.length = out.length + m /\ l = cur ++ z /\ (stOf cur s).2 = 0 /\ l[out.length + m]? = some (stOf cur s).1
 | s :: S, out, l, 0, t, h, hm => by
  obtain rfl : s = t := by simpa using hm
  rw [runS] at h
  split at h
  ·rename_i hc
   obtain ⟨z, hz⟩ := runS_pre S _ l h
   refine ⟨out, (stOf out s).1 :: z, rfl, by rw [hz, List.append_assoc]; rfl, hc, ?_⟩
   rw [hz, List.append_assoc, Nat.add_zero, List.getElem?_append_right (Nat.le_refl _), Nat.sub_self]; rfl
  ·cases h
 | s :: S, out, l, m + 1, t, h, hm => by
  rw [runS] at h
  split at h
  ·obtain ⟨cur, z, h1, h2, h3, h4⟩ := runS_at S _ l m t h (by simpa using hm)
   rw [List.length_append, List.length_singleton] at h1 h4
   exact ⟨cur, z, om, h2, h3, by rw [show out.length + (m + 1) = out.length + 1 + m by omega]; exact h4⟩
  ·cases h
theorem runsIn {I : List PlaneV} {S : List StageV} {l : List Shape} {i : Nat} {z : PlaneV} {x : Shape} (hr : runS (I.map shpOf) S = some l) (hz : I[i]? = some z) (hx : l[i]? = some x) : x = shpOf z := by
  obtain ⟨y, rfl⟩ := runS_pre _ _ _ hr
  have hi := (List.getElem?_eq_some_iff.1 hz).1
  rw [List.getElem?_append_left (by rw [List.length_map]; exact hi), List.getElem?_map, hz] at hx
  exact (Option.some.inj hx).symm
theorem run_st {I : List PlaneV} {S : List StageV} {p : Int} {l : List Shape} {m k : Nat} {s : StageV} {x : Shape} (h : Good I S p) (hr : runS (I.map shpOf) S = some l) (hs : S[m]? = some s) (hx : l[k]? = some x) (hk : k = I.length + m) : ofV s (shpAt l s.a) (if twoP s then shpAt l s.b else ⟨0, 0, 0⟩) = (x, 0) := by
 subst hk
 obtain ⟨cur, z, h1, h2, h3, h4⟩ := runS_at S _ l m s hr hs
 rw [List.length_map] at h1 h4
 rw [hx] at h4
 have ha := h.od m s hs s.a (by unfold srcs; split <;> simp)
 have e1 : shpAt l s.a = shpAt cur s.a := by rw [h2]; exact shpAt_app ha.1 om
 have e2 : (if twoP s then shpAt l s.b else ⟨0, 0, 0⟩) = (if twoP s then shpAt cur s.b else ⟨0, 0, 0⟩) := by
  by_cases ht : twoP s
  ·rw [if_pos ht, if_pos ht, h2]
   have hb := h.od m s hs s.b (by unfold srcs; rw [if_pos ht]; simp)
   exact shpAt_app hb.1 om
  ·rw [if_neg ht, if_neg ht]
 rw [e1, e2]
 show stOf cur s = _
 rw [Option.some.inj h4, <- h3]
theorem of_small {q : StageV} {s t x : Shape} (h : ofV q s t = (x, 0)) (hs : s.w * s.h <= 128) (hx : q.x.length <= 6) (hy : q.y.length <= 6) : x.w * x.h <= 128 := by
 have hk : ∀ z, kernelV q s t = (z, 0) -> z.w * z.h <= 128 := by
  intro z hz
  unfold kernelV at hz
  by_cases h1 : q.kind = 1
  ·rw [if_pos h1] at hz; rw [<- (Prod.mk.inj hz).1]; exact hs
  rw [if_neg h1] at hz
  by_cases h2 : q.kind = 2
  ·rw [if_pos h2] at hz; rw [<- (Prod.mk.inj hz).1]; exact hs
  rw [if_neg h2] at hz
  by_cases h3 : q.kind = 3
  ·rw [if_pos h3] at hz; rw [<- (Prod.mk.inj hz).1]
   have := mul_bd (a := (q.x.length : Int)) (b := q.y.length) (A := 6) (B := 6) om om
   dsimp only; omega
  rw [if_neg h3] at hz
  by_cases h4 : q.kind = 4
  ·rw [if_pos h4] at hz
   split at hz
   ·rw [<- (Prod.mk.inj hz).1]; dsimp only; omega
   ·exact absurd (Prod.mk.inj hz).2 om
  rw [if_neg h4] at hz
  by_cases h5 : q.kind = 5
  ·rw [if_pos h5] at hz
   split at hz <;> (rw [<- (Prod.mk.inj hz).1]; exact hs)
  rw [if_neg h5] at hz
  split at hz
  ·split at hz <;> (rw [<- (Prod.mk.inj hz).1]; exact hs)
  ·rw [<- (Prod.mk.inj hz).1]; exact hs
 unfold ofV at h
 split at h
 ·split at h
  ·split at h
   ·split at h
    ·rename_i h0; exact hk x (by rw [<- (Prod.mk.inj h).1, <- h0])
    ·rename_i h0; exact absurd (Prod.mk.inj h).2 h0
   ·exact absurd (Prod.mk.inj h).2 om
  ·exact absurd (Prod.mk.inj h).2 om
 ·exact absurd (Prod.mk.inj h).2 om
theorem made_small {I : List PlaneV} {S : List StageV} {p : Int} {l : List Shape} (h : Good I S p) (hr : runS (I.map shpOf) S = some l) (hI : ∀ z ∈ I, z.pix.length <= 64) (hS : ∀ s ∈ S, s.x.length <= 6 /\ s.y.length <= 6) :
  ∀ (b k : Nat), k <= b -> ∀ x : Shape, l[k]? = some x -> x.w * x.h <= 128 := by
 intro b
 induction b with
 | zero =>
  intro k hk x hx
  have h1 := h.ni
  obtain ⟨z, hz⟩ : ∃ z, I[k]? = some z := ⟨_, List.getElem?_eq_getElem om⟩
  rw [runsIn hr hz hx]
  have hp := List.all_eq_true.1 h.pl z (List.mem_of_getElem? hz)
  unfold planeOK at hp
  rw [Bool.and_eq_true] at hp
  have h2 := (of_decide_eq_true hp.1).2
  have := hI z (List.mem_of_getElem? hz)
  show z.w * z.h <= 128
  omega
 | succ b ih =>
  intro k hkb x hx
  by_cases hk : k < I.length
  ·obtain ⟨z, hz⟩ : ∃ z, I[k]? = some z := ⟨_, List.getElem?_eq_getElem hk⟩
   rw [runsIn hr hz hx]
   have hp := List.all_eq_true.1 h.pl z (List.mem_of_getElem? hz)
   unfold planeOK at hp
   rw [Bool.and_eq_true] at hp
   have h2 := (of_decide_eq_true hp.1).2
   have := hI z (List.mem_of_getElem? hz)
   show z.w * z.h <= 128
   omega
  ·have hl := runS_len S _ l hr
   rw [List.length_map] at hl
   have hkl := (List.getElem?_eq_some_iff.1 hx).1
   obtain ⟨s, hs⟩ : ∃ s, S[k - I.length]? = some s := ⟨_, List.getElem?_eq_getElem om⟩
   have ho := run_st h hr hs hx om
   have ha := h.od _ s hs s.a (by unfold srcs; split <;> simp)
   have hxy := hS s (List.mem_of_getElem? hs)
   obtain ⟨y, hy⟩ : ∃ y, l[s.a.toNat]? = some y := ⟨_, List.getElem?_eq_getElem om⟩
   have hi := ih s.a.toNat om y hy
   refine of_small ho ?_ hxy.1 hxy.2
   have e : shpAt l s.a = y := by unfold shpAt; rw [hy]; rfl
   rw [e]; exact hi
theorem ceil_le {a b : Int} (ha : 1 <= a) (hb : 1 <= b) : ceilV a b <= a := by
  unfold ceilV
  rw [if_pos (by omega)]
  have h1 := Int.emod_def a b
  have h2 := Int.emod_nonneg a (show b ≠ 0 by omega)
  have h4 : 0 <= a / b := Int.ediv_nonneg (by omega) (by omega)
  have h5 : a / b <= b * (a / b) := by
    have := Int.mul_le_mul_of_nonneg_right hb h4
    omega
  split <;> omega
theorem made_cnt {L : Lay} (g : LayG L) (hs : ∀ x : Int, 0 <= x -> x < L.ni + (L.ss.length : Int) -> (shpAt L.sh x).w * (shpAt L.sh x).h <= 128) {n : Int} (hn : n ∈ L.od) : L.cnt n <= 129 := by
 have hf := g.fine hn
 have hc : (L.cut n).w * (L.cut n).h <= 128 := by
  unfold Lay.cut
  have hr := g.rng n hn
  have hni := g.ni
  split
  ·have := g.src hn _ (a_src _); exact hs _ this.1 this.2.1
  ·exact hs _ om hr.2
 have hg := g.grid hn
 have h1 : L.nx n <= (L.cut n).w := by unfold Lay.nx colsN; rw [if_pos hf]; exact ceil_le hf.1.1 hf.2.2.1.1
 have h2 : L.ny n <= (L.cut n).h := by unfold Lay.ny rowsN; rw [if_pos hf]; exact ceil_le hf.2.1.1 hf.2.2.2.1
 have h3 : L.nx n * L.ny n <= (L.cut n).w * (L.cut n).h := Int.mul_le_mul h1 h2 om (by have := hf.1.1; omega)
 unfold Lay.cnt
 split <;> omega
theorem sum_le {f : Int -> Int} {c : Int} : ∀ l : List Int, (∀ x ∈ l, f x <= c) -> (l.map f).sum <= c * l.length
  | [], _ => by simp
  | x :: l, h => by
    have h1 := sum_le l (fun y hy => h y (by simp [hy]))
    have h2 := h x (by simp)
    simp only [List.map_cons, List.sum_cons, List.length_cons]
    rw [show c * ((l.length + 1 : Nat) : Int) = c * l.length + c by push_cast; rw [Int.mul_add, Int.mul_one]]
    omega
structure MadeL (j : JobV) (tw th : Int) : Prop where
  z : lowC j tw th = 0
  v : lowV j tw th = (layV j tw th).all
  g : LayG (layV j tw th)
  c : ∀ n ∈ (layV j tw th).od, (layV j tw th).cnt n <= 129
  s : j.stages.length <= 4 /\ 1 <= j.stages.length
  t : (layV j tw th).total <= 516
theorem made_low {j : JobV} {l : List Shape} (h : Good j.inputs j.stages j.priority) (hr : runS (j.inputs.map shpOf) j.stages = some l) (hI : ∀ z ∈ j.inputs, z.pix.length <= 64) (hS : ∀ s ∈ j.stages, s.x.length <= 6 /\ s.y.length <= 6)
  (h1 : 1 <= j.stages.length /\ j.stages.length <= 4) (hO : 1 <= j.outputs.length /\ j.outputs.length <= 2) (hi : inR ((j.inputs.length : Nat) + (j.stages.length : Nat)) j.outputs = true) {tw th : Int} (ht : tileP tw th) : MadeL j tw th := by
 have hv : shpV j = (l, 0, 0) := shp_outs h hr h1.1 hO hi
 have hg : LayG (layV j tw th) := lay_ok (shp_ok (by rw [hv])) ht
 have hll := runS_len j.stages _ l hr
 rw [List.length_map] at hll
 have hc : ∀ n ∈ (layV j tw th).od, (layV j tw th).cnt n <= 129 := by
  intro n hn
  refine made_cnt hg ?_ hn
  intro x h0 h2
  have h2' : x < (j.inputs.length : Int) + j.stages.length := h2
  obtain ⟨y, hy⟩ : ∃ y, l[x.toNat]? = some y := ⟨_, List.getElem?_eq_getElem om⟩
  have e : shpAt (layV j tw th).sh x = y := by unfold shpAt layV; dsimp only; rw [hv]; dsimp only; rw [hy]; rfl
  rw [e]
  exact made_small h hr hI hS x.toNat x.toNat (Nat.le_refl _) y hy
 have htot : (layV j tw th).total <= 516 := by
  have h2 := sum_le (layV j tw th).od hc
  have h3 : (layV j tw th).od.length = j.stages.length := hg.ln
  unfold Lay.total
  omega
 have hz : lowC j tw th = 0 := by unfold lowC; rw [if_pos (by rw [hv]), if_pos ht, if_pos om]
 exact ⟨hz, by unfold lowV; rw [if_pos hz], hg, hc, ⟨h1.2, h1.1⟩, htot⟩
theorem flat_at {α : Type} {f : Int -> List α} : ∀ (l : List Int) (i : Nat) (z : α), (l.flatMap f)[i]? = some z -> ∃ p x q j, l = p ++ x :: q /\ (f x)[j]? = some z /\ i = (p.flatMap f).length + j
  | [], i, z, h => by simp at h
  | x :: l, i, z, h => by
    rw [List.flatMap_cons] at h
    by_cases hi : i < (f x).length
    · rw [List.getElem?_append_left hi] at h
      exact ⟨[], x, l, i, rfl, h, by simp⟩
    · rw [List.getElem?_append_right (by omega)] at h
      obtain ⟨p, y, q, j, e, hz, hj⟩ := flat_at l _ z h
      exact ⟨x :: p, y, q, j, by rw [e]; rfl, hz, by rw [List.flatMap_cons, List.length_append]; omega⟩
theorem flat_get {α : Type} {f : Int -> List α} {p q : List Int} {x : Int} {j : Nat} {z : α} (h : (f x)[j]? = some z) : ((p ++ x :: q).flatMap f)[(p.flatMap f).length + j]? = some z := by
  rw [List.flatMap_append, List.getElem?_append_right (by omega), List.flatMap_cons, List.getElem?_append_left (by have := (List.getElem?_eq_some_iff.1 h).1; omega)]
  rw [show (p.flatMap f).length + j - (p.flatMap f).length = j by omega]; exact h
section
variable {L : Lay} (g : LayG L)
include g
theorem pre_len {p q : List Int} {x : Int} (e : L.od = p ++ x :: q) : ((p.flatMap L.tasks).length : Int) = L.first x := by
  rw [tasks_sum g p (fun y hy => by rw [e]; simp [hy]), (g.first_at e).1]
theorem all_at {i : Nat} {z : TaskV} (h : L.all[i]? = some z) : ∃ n j, n ∈ L.od /\ (L.tasks n)[j]? = some z /\ (i : Int) = L.first n + (j : Nat) := by
  obtain ⟨p, x, q, j, e, hz, hj⟩ := flat_at _ _ _ h
  refine ⟨x, j, by rw [e]; simp, hz, ?_⟩
  have := pre_len g e
  omega
theorem at_all {n : Int} {j : Nat} {z : TaskV} (hn : n ∈ L.od) (h : (L.tasks n)[j]? = some z) : L.all[(L.first n + (j : Nat)).toNat]? = some z := by
  obtain ⟨p, q, e⟩ := List.append_of_mem hn
  have hp := pre_len g e
  have hf := flat_get (f := L.tasks) (p := p) (q := q) h
  rw [<- e] at hf
  rw [show (L.first n + (j : Int)).toNat = (p.flatMap L.tasks).length + j by omega]
  exact hf
theorem tasks_at {n : Int} {j : Nat} {z : TaskV} (hn : n ∈ L.od) (h : (L.tasks n)[j]? = some z) : ((j : Int) < L.nx n * L.ny n /\ z = L.tileT n j) \/ ((L.st n).kind = 4 /\ (j : Int) = L.nx n * L.ny n /\ z = L.mergeT n) := by
 have hg := (g.grid hn).2.2
 unfold Lay.tasks at h
 by_cases hj : j < (L.nx n * L.ny n).toNat
 ·rw [List.getElem?_append_left (by rw [List.length_map, upto_len]; exact hj)] at h
  left
  refine ⟨om, ?_⟩
  rw [List.getElem?_map] at h
  have hu : (uptoV (L.nx n * L.ny n).toNat)[j]? = some (j : Int) := by unfold uptoV; rw [List.getElem?_map, List.getElem?_range hj]; rfl
  rw [hu] at h
  exact (Option.some.inj h).symm
 ·rw [List.getElem?_append_right (by rw [List.length_map, upto_len]; omega), List.length_map, upto_len] at h
  by_cases hk : (L.st n).kind = 4
  ·rw [if_pos hk] at h
   have hl := (List.getElem?_eq_some_iff.1 h).1
   simp only [List.length_singleton] at hl
   have e : j - (L.nx n * L.ny n).toNat = 0 := by omega
   rw [e] at h
   exact .inr ⟨hk, om, (Option.some.inj h).symm⟩
  ·rw [if_neg hk] at h; simp at h
theorem at_tasks {n : Int} {j : Int} (hn : n ∈ L.od) (h0 : 0 <= j) (h : j < L.cnt n) : ∃ z, (L.tasks n)[j.toNat]? = some z /\ z.stage = n := by
  have hl := tasks_len g hn
  obtain ⟨z, hz⟩ : ∃ z, (L.tasks n)[j.toNat]? = some z := ⟨_, List.getElem?_eq_getElem (by omega)⟩
  refine ⟨z, hz, ?_⟩
  rcases tasks_at g hn hz with ⟨_, rfl⟩ | ⟨_, _, rfl⟩ <;> rfl
theorem stage_at {n k : Int} {z : TaskV} (hn : n ∈ L.od) (h0 : 0 <= k) (h : k < L.cnt n) (hz : L.all[(L.first n + k).toNat]? = some z) : z.stage = n := by
  obtain ⟨y, hy, hs⟩ := at_tasks g hn h0 h
  have := at_all g hn hy
  rw [show (k.toNat : Int) = k by omega, hz] at this
  rw [Option.some.inj this]; exact hs
theorem dep_src {s : StageV} {r : Rct} {x d : Int} (hx : x < L.ni \/ x ∈ L.od) (h : d ∈ L.srcDeps s r x) : x ∈ L.od /\ ∃ k, 0 <= k /\ k < L.cnt x /\ d = L.first x + k := by
 unfold Lay.srcDeps at h
 split at h
 ·simp at h
 rename_i hni
 have hxo : x ∈ L.od := by rcases hx with h1 | h1; exact absurd h1 hni; exact h1
 refine ⟨hxo, ?_⟩
 have hcb := g.cntb hxo
 split at h
 ·obtain ⟨k, hk, rfl⟩ := List.mem_map.1 h
  rw [mem_upto] at hk
  exact ⟨k, hk.1, om, rfl⟩
 split at h
 ·simp only [List.mem_singleton] at h
  exact ⟨L.cnt x - 1, om, om, om⟩
 rename_i hk4
 obtain ⟨k, hk, rfl⟩ := List.mem_map.1 h
 have hk := (List.mem_filter.1 hk).1
 rw [mem_upto] at hk
 refine ⟨k, hk.1, ?_, rfl⟩
 have hgr := (g.grid hxo).2.2
 have hnx : L.nx x = colsN (shpAt L.sh x).w (shpAt L.sh x).h L.tw L.th := by unfold Lay.nx Lay.cut; rw [if_neg hk4]
 have hny : L.ny x = rowsN (shpAt L.sh x).w (shpAt L.sh x).h L.tw L.th := by unfold Lay.ny Lay.cut; rw [if_neg hk4]
 unfold Lay.cnt
 rw [if_neg hk4]
 unfold tilN at hk
 rw [<- hnx, <- hny] at hk
 omega
end
theorem asc_lt {l : List Int} (h : Asc l) {a b : Nat} {x y : Int} (hab : a < b) (hx : l[a]? = some x) (hy : l[b]? = some y) : x < y := by
  obtain ⟨ha, e1⟩ := List.getElem?_eq_some_iff.1 hx
  obtain ⟨hb, e2⟩ := List.getElem?_eq_some_iff.1 hy
  have := List.pairwise_iff_getElem.1 h a b ha hb hab
  rw [e1, e2] at this
  exact this
section
variable {L : Lay} (g : LayG L)
include g
theorem all_st {i : Nat} {z : TaskV} (h : L.all[i]? = some z) : z.stage ∈ L.od /\ ∃ j : Nat, (L.tasks z.stage)[j]? = some z /\ (i : Int) = L.first z.stage + (j : Nat) := by
  obtain ⟨n, j, hn, hz, hi⟩ := all_at g h
  have e : z.stage = n := by rcases tasks_at g hn hz with ⟨_, rfl⟩ | ⟨_, _, rfl⟩ <;> rfl
  rw [e]; exact ⟨hn, j, hz, hi⟩
end
section
variable {L : Lay} (g : LayG L)
include g
end
end Go.Proofs.YtdingplbadblpaaGreat
