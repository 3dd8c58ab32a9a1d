import Derived.Test.YtegmennaekipaaaGreatP2Ar
import Derived.Test.YtegmennaekipaaaGreatP2Bd3
namespace Go.Proofs.YtegmennaekipaaaGreat
open Go Go.E
set_option linter.unusedVariables false
set_option linter.unusedSimpArgs false
set_option linter.unnecessarySimpa false
set_option maxRecDepth 100000
set_option maxHeartbeats 2000000
variable {W w : World} {H : Chunk} {F : List Chunk}

-- squeezed
def InjR (p : Nat) (S : QS) (M : Chunk) : Prop := ∃ (a0 : Option Addr) (n0 k0 : Nat) (l0 : List Ref) (c0 : Chunk) (a1 : Option Addr) (n1 k1 : Nat) (l1 : List Ref) (c1 : Chunk) (a2 : Option Addr) (n2 k2 : Nat) (l2 : List Ref) (c2 : Chunk) (a3 : Option Addr) (n3 k3 : Nat) (l3 : List Ref) (c3 : Chunk), M = [(p, .cells #[.int .i64 S.cap, .slice a0 n0 k0, .slice a1 n1 k1, .slice a2 n2 k2, .slice a3 n3 k3] 158 (0, 0))] ++ (c0 ++ (c1 ++ (c2 ++ c3))) ∧ OwnT encRef 60 2 a0 n0 k0 l0 c0 ∧ OwnT encRef 60 2 a1 n1 k1 l1 c1 ∧ OwnT encRef 60 2 a2 n2 k2 l2 c2 ∧ OwnT encRef 60 2 a3 n3 k3 l3 c3 ∧ S.bs = [l0, l1, l2, l3] ∧ (1 ≤ S.cap ∧ S.cap ≤ 4096) ∧ totB S.bs ≤ S.cap
theorem iq_len {p : Nat} {S : QS} {M : Chunk} (hR : InjR p S M)  (hS : Sat W w (M :: H :: F)) :
  Calls Tryz.prog 112 #[Pt p 0] w fun e w' => e = .returned (I (totB S.bs)) ∧ Sat W w' (M :: H :: F) := by
 obtain ⟨a0, n0, k0, l0, c0, a1, n1, k1, l1, c1, a2, n2, k2, l2, c2, a3, n3, k3, l3, c3, rfl, hO0, hO1, hO2, hO3, hb, hw1, hw2⟩ := hR
 have hS : Sat W _ ([(p, .cells #[I S.cap, .slice a0 n0 k0, .slice a1 n1 k1, .slice a2 n2 k2, .slice a3 n3 k3] 158 (0, 0))] :: c0 :: c1 :: c2 :: c3 :: H :: F) := Sat.perm hS (by simp)
 have ht : totB S.bs = n0 + n1 + n2 + n3 := by rw [hb]; unfold totB; simp [hO0.len, hO1.len, hO2.len, hO3.len]; omega
 have hn0 := hO0.len; have hl0 := hO0.le; have hn1 := hO1.len; have hl1 := hO1.le; have hn2 := hO2.len; have hl2 := hO2.le; have hn3 := hO3.len; have hl3 := hO3.le
 refine callsA 23 Tryz.func112 rfl ?_
 refine sR <| pu1 <| nT <| sR <| pu1 <| nT <| seqE <| sR <| pu1 <| nT <| blockE ?_
 refine loopN 5 ?_
 refine roundS ?_
 refine seqE <| sR <| pu6 <| nT <| cTt <| kT <| seqE <| blockE <| regionE <| pu6 ?_
 refine sL hS 0 1 (.slice a0 n0 k0) (Tryz.isAgg125 _) ?_
 refine pu1 ?_
 refine sAdd 0 ((n0 : Nat) : Int) ?_
 refine pu1 <| nB <| regionE <| pu3 <| nT ?_
 refine roundS ?_
 refine seqE <| sR <| pu6 <| nT <| cTt <| kT <| seqE <| blockE <| regionE <| pu6 ?_
 refine sL hS 0 2 (.slice a1 n1 k1) (Tryz.isAgg125 _) ?_
 refine pu1 ?_
 refine sAdd (0 + ((n0 : Nat) : Int)) ((n1 : Nat) : Int) ?_
 refine pu1 <| nB <| regionE <| pu3 <| nT ?_
 refine roundS ?_
 refine seqE <| sR <| pu6 <| nT <| cTt <| kT <| seqE <| blockE <| regionE <| pu6 ?_
 refine sL hS 0 3 (.slice a2 n2 k2) (Tryz.isAgg125 _) ?_
 refine pu1 ?_
 refine sAdd ((0 + ((n0 : Nat) : Int)) + ((n1 : Nat) : Int)) ((n2 : Nat) : Int) ?_
 refine pu1 <| nB <| regionE <| pu3 <| nT ?_
 refine roundS ?_
 refine seqE <| sR <| pu6 <| nT <| cTt <| kT <| seqE <| blockE <| regionE <| pu6 ?_
 refine sL hS 0 4 (.slice a3 n3 k3) (Tryz.isAgg125 _) ?_
 refine pu1 ?_
 refine sAdd (((0 + ((n0 : Nat) : Int)) + ((n1 : Nat) : Int)) + ((n2 : Nat) : Int)) ((n3 : Nat) : Int) ?_
 refine pu1 <| nB <| regionE <| pu3 <| nT ?_
 refine roundS ?_
 refine seqE <| sR <| pu6 <| nT <| cFf <| exitE <| xB <| thenK_n <| sR <| pu2 <| nT <| retE <| retT [I ((((0 + ((n0 : Nat) : Int)) + ((n1 : Nat) : Int)) + ((n2 : Nat) : Int)) + ((n3 : Nat) : Int))] ?_
 have b0 : Sat W _ (([(p, .cells #[I S.cap, .slice a0 n0 k0, .slice a1 n1 k1, .slice a2 n2 k2, .slice a3 n3 k3] 158 (0, 0))] ++ (c0 ++ (c1 ++ (c2 ++ c3)))) :: H :: F) := Sat.perm (show Sat W _ ([(p, .cells #[I S.cap, .slice a0 n0 k0, .slice a1 n1 k1, .slice a2 n2 k2, .slice a3 n3 k3] 158 (0, 0))] :: c0 :: c1 :: c2 :: c3 :: H :: F) from hS) (by simp)
 exact ⟨congrArg (fun z => Ending.returned (I z)) om, b0⟩
theorem iq_push0 {p : Nat} {S : QS} {M : Chunk} (hR : InjR p S M) (r : Ref) (hS : Sat W w (M :: H :: F)) :
  Calls Tryz.prog 60 #[Pt p 0, .agg #[I r.job, I r.task], I 0] w fun e w' => ∃ M' : Chunk, e = .returned (I (pushCQ S)) ∧ InjR p (pushQ S r 0) M' ∧ Sat W w' (M' :: H :: F) := by
 obtain ⟨a0, n0, k0, l0, c0, a1, n1, k1, l1, c1, a2, n2, k2, l2, c2, a3, n3, k3, l3, c3, rfl, hO0, hO1, hO2, hO3, hb, hw1, hw2⟩ := hR
 have hS : Sat W _ ([(p, .cells #[I S.cap, .slice a0 n0 k0, .slice a1 n1 k1, .slice a2 n2 k2, .slice a3 n3 k3] 158 (0, 0))] :: c0 :: c1 :: c2 :: c3 :: H :: F) := Sat.perm hS (by simp)
 have ht : totB S.bs = n0 + n1 + n2 + n3 := by rw [hb]; unfold totB; simp [hO0.len, hO1.len, hO2.len, hO3.len]; omega
 have hn0 := hO0.len; have hl0 := hO0.le; have hn1 := hO1.len; have hl1 := hO1.le; have hn2 := hO2.len; have hl2 := hO2.le; have hn3 := hO3.len; have hl3 := hO3.le
 refine callsA 43 Tryz.func60 rfl ?_
 refine sR ?_
 refine sBox hS (.agg #[I r.job, I r.task]) #[I r.job, I r.task] ?_
 intro d0 _ e0
 refine pu1 <| nT <| seqE <| sR <| pu6 <| gY ?_
 refine sL e0 1 0 (I S.cap) (Tryz.isAgg3 _) ?_
 refine pu2 <| nT ?_
 refine cE S.cap 0 (fun m0 => ?_) (fun m0 => ?_)
 ·refine sR <| pu1 <| nT <| retE <| thenK_r <| retT [I 20] ?_
  have o0 := (e0.dropAt 0 rfl)
  have f1 : Sat W _ (([(p, .cells #[I S.cap, .slice a0 n0 k0, .slice a1 n1 k1, .slice a2 n2 k2, .slice a3 n3 k3] 158 (0, 0))] ++ (c0 ++ (c1 ++ (c2 ++ c3)))) :: H :: F) := Sat.perm (show Sat W _ ([(p, .cells #[I S.cap, .slice a0 n0 k0, .slice a1 n1 k1, .slice a2 n2 k2, .slice a3 n3 k3] 158 (0, 0))] :: c0 :: c1 :: c2 :: c3 :: H :: F) from o0) (by simp)
  have hq : totB [l0, l1, l2, l3] = totB S.bs := by rw [hb]
  omega
 refine kT <| seqE <| sR <| pu6 <| nT <| cFf <| kT <| seqE <| seqE ?_
 refine drawE [1] [(5, ⟨p, 0, none⟩, I S.cap)] [(true, [0, 2, 3, 4]), (true, [5]), (false, [1]), (true, [6])] rfl kr ⟨.inr (e0.cell 1 rfl rfl), trivial⟩ ?_
 have p0 := e0.drew
 refine wU [0, 2, 3, 4] ?_
 refine wLd (I S.cap) 0 Tryz.isAgg3 ?_
 refine wO rfl ?_
 have q0 := (p0.picks [5, 5, 5, 5, 5])
 have r0 : Sat W _ (([(p, .cells #[I S.cap, .slice a0 n0 k0, .slice a1 n1 k1, .slice a2 n2 k2, .slice a3 n3 k3] 158 (0, 0))] ++ (c0 ++ (c1 ++ (c2 ++ c3)))) :: [(d0, .cells #[I r.job, I r.task] 60 (0, 0))] :: H :: F) := Sat.perm (show Sat W _ ([(p, .cells #[I S.cap, .slice a0 n0 k0, .slice a1 n1 k1, .slice a2 n2 k2, .slice a3 n3 k3] 158 (0, 0))] :: c0 :: c1 :: c2 :: c3 :: [(d0, .cells #[I r.job, I r.task] 60 (0, 0))] :: H :: F) from q0) (by simp)
 have g1 : totB [l0, l1, l2, l3] = ((n0 + n1 + n2 + n3 : Nat) : Int) := by unfold totB; simp only [List.map_cons, List.map_nil, List.sum_cons, List.sum_nil]; have h0 := (hO0).len; have h1 := (hO1).len; have h2 := (hO2).len; have h3 := (hO3).len; omega
 refine cX Tryz.call112 (iq_len (S := ⟨S.cap, [l0, l1, l2, l3]⟩) ⟨_, _, _, _, _, _, _, _, _, _, _, _, _, _, _, _, _, _, _, _, rfl, hO0, hO1, hO2, hO3, rfl, hw1, (by dsimp only; omega)⟩ (Sat.flat1 r0)) ?_
 rintro _ _ ⟨rfl, s0⟩
 have b0 : Sat W _ ([(p, .cells #[I S.cap, .slice a0 n0 k0, .slice a1 n1 k1, .slice a2 n2 k2, .slice a3 n3 k3] 158 (0, 0))] :: c0 :: c1 :: c2 :: c3 :: [(d0, .cells #[I r.job, I r.task] 60 (0, 0))] :: H :: F) := Sat.perm (Sat.unflat1 s0) (by simp [Value.cells])
 refine nilO ⟨⟨.inr (b0.cell 0 rfl rfl), trivial⟩, ?_⟩
 refine wU [6] ?_
 refine wN ?_
 refine thenK_n ?_
 refine cD ((totB [l0, l1, l2, l3]) ≥ S.cap) (fun t0 => ?_) (fun t0 => ?_)
 ·refine sR <| pu1 <| nT <| retE <| thenK_r <| retT [I 19] ?_
  have u0 := (b0.dropAt 5 rfl)
  have v0 : Sat W _ (([(p, .cells #[I S.cap, .slice a0 n0 k0, .slice a1 n1 k1, .slice a2 n2 k2, .slice a3 n3 k3] 158 (0, 0))] ++ (c0 ++ (c1 ++ (c2 ++ c3)))) :: H :: F) := Sat.perm (show Sat W _ ([(p, .cells #[I S.cap, .slice a0 n0 k0, .slice a1 n1 k1, .slice a2 n2 k2, .slice a3 n3 k3] 158 (0, 0))] :: c0 :: c1 :: c2 :: c3 :: H :: F) from u0) (by simp)
  have hq : totB [l0, l1, l2, l3] = totB S.bs := by rw [hb]
  have hc : pushCQ S = 19 := by unfold pushCQ; rw [if_pos om]
  have he : pushQ S r 0 = S := by unfold pushQ; rw [hc, if_neg (by decide)]
  exact ⟨_, by rw [hc]; rfl, by rw [he]; exact ⟨_, _, _, _, _, _, _, _, _, _, _, _, _, _, _, _, _, _, _, _, rfl, hO0, hO1, hO2, hO3, hb, hw1, hw2⟩, v0⟩
 refine kT <| seqE ?_
 refine drawE [9, 10, 14] [(7, ⟨p, 1, none⟩, .slice a0 n0 k0), (8, ⟨d0, 0, none⟩, I r.job), (8, ⟨d0, 1, none⟩, I r.task)] [(true, [0, 1, 2, 3, 4, 5, 6, 11, 12]), (true, [7]), (true, [8]), (false, [9]), (false, [10]), (true, [13]), (false, [14])] rfl kr ⟨.inr (b0.cell 0 rfl rfl), .inr (b0.cell 5 rfl rfl), .inr (b0.cell 5 rfl rfl), trivial⟩ ?_
 have w0 := b0.drew
 refine wU [0, 1, 2, 3, 4, 5, 6, 11, 12] ?_
 refine wLd (.slice a0 n0 k0) 0 Tryz.isAgg125 ?_
 refine wY (.agg #[I r.job, I r.task]) rfl (fun w hF => Y_loadF rfl (Tryz.isAgg60 w) (Tryz.sizeOf60 w) kr rfl ⟨hF 1 _ _ rfl, hF 2 _ _ rfl, trivial⟩) ?_
 refine wO rfl ?_
 refine sBS w0 #[I r.job, I r.task] Tryz.runUnderlying125 Tryz.sizeOf60 Tryz.zeroValue60 ?_
 intro _ _ i0
 refine nilO ⟨⟨.inr (i0.cell 1 rfl rfl), dI, dI, trivial⟩, ?_⟩
 refine wO rfl ?_
 refine sApp (nb := 16) i0 hO0 2 (RdT.blk (enc := encRef) (sz := 2) (xs := [(⟨r.job, r.task⟩ : Ref)]) fR 1 0 rfl rfl rfl om) Tryz.underlying125 (i := Tryz.t60) kr fR ?_
 intro f0 g0 j0 _ x0 y0
 refine nilO ⟨dA, ?_⟩
 refine wU [13] ?_
 refine wO rfl ?_
 refine tW y0 1 1 (.slice f0 (n0 + 1) g0) Tryz.sizeOf125 ?_
 intro _ z0
 refine nilO ⟨dA, ?_⟩
 refine wN ?_
 refine thenK_n <| sR <| pu1 <| nT <| retE <| retT [I 0] ?_
 have b1 := (z0.drops [0, 5])
 have d1 : Sat W _ (([(p, .cells #[I S.cap, .slice f0 (n0 + 1) g0, .slice a1 n1 k1, .slice a2 n2 k2, .slice a3 n3 k3] 158 (0, 0))] ++ (j0 ++ (c1 ++ (c2 ++ c3)))) :: H :: F) := Sat.perm (show Sat W _ ([(p, .cells #[I S.cap, .slice f0 (n0 + 1) g0, .slice a1 n1 k1, .slice a2 n2 k2, .slice a3 n3 k3] 158 (0, 0))] :: j0 :: c1 :: c2 :: c3 :: H :: F) from b1) (by simp)
 have hq : totB [l0, l1, l2, l3] = totB S.bs := by rw [hb]
 have hc : pushCQ S = 0 := by unfold pushCQ; rw [if_neg om]
 have he : pushQ S r 0 = { S with bs := [(l0 ++ [(⟨r.job, r.task⟩ : Ref)]), l1, l2, l3] } := by unfold pushQ; rw [if_pos hc, hb]; rfl
 exact ⟨_, by rw [hc]; rfl, by rw [he]; exact ⟨_, _, _, _, _, _, _, _, _, _, _, _, _, _, _, _, _, _, _, _, rfl, x0, hO1, hO2, hO3, rfl, hw1, (by unfold totB; simp; omega)⟩, d1⟩
theorem iq_push1 {p : Nat} {S : QS} {M : Chunk} (hR : InjR p S M) (r : Ref) (hS : Sat W w (M :: H :: F)) :
  Calls Tryz.prog 60 #[Pt p 0, .agg #[I r.job, I r.task], I 1] w fun e w' => ∃ M' : Chunk, e = .returned (I (pushCQ S)) ∧ InjR p (pushQ S r 1) M' ∧ Sat W w' (M' :: H :: F) := by
 obtain ⟨a0, n0, k0, l0, c0, a1, n1, k1, l1, c1, a2, n2, k2, l2, c2, a3, n3, k3, l3, c3, rfl, hO0, hO1, hO2, hO3, hb, hw1, hw2⟩ := hR
 have hS : Sat W _ ([(p, .cells #[I S.cap, .slice a0 n0 k0, .slice a1 n1 k1, .slice a2 n2 k2, .slice a3 n3 k3] 158 (0, 0))] :: c0 :: c1 :: c2 :: c3 :: H :: F) := Sat.perm hS (by simp)
 have ht : totB S.bs = n0 + n1 + n2 + n3 := by rw [hb]; unfold totB; simp [hO0.len, hO1.len, hO2.len, hO3.len]; omega
 have hn0 := hO0.len; have hl0 := hO0.le; have hn1 := hO1.len; have hl1 := hO1.le; have hn2 := hO2.len; have hl2 := hO2.le; have hn3 := hO3.len; have hl3 := hO3.le
 refine callsA 43 Tryz.func60 rfl ?_
 refine sR ?_
 refine sBox hS (.agg #[I r.job, I r.task]) #[I r.job, I r.task] ?_
 intro d0 _ e0
 refine pu1 <| nT <| seqE <| sR <| pu6 <| gY ?_
 refine sL e0 1 0 (I S.cap) (Tryz.isAgg3 _) ?_
 refine pu2 <| nT ?_
 refine cE S.cap 0 (fun m0 => ?_) (fun m0 => ?_)
 ·refine sR <| pu1 <| nT <| retE <| thenK_r <| retT [I 20] ?_
  have o0 := (e0.dropAt 0 rfl)
  have f1 : Sat W _ (([(p, .cells #[I S.cap, .slice a0 n0 k0, .slice a1 n1 k1, .slice a2 n2 k2, .slice a3 n3 k3] 158 (0, 0))] ++ (c0 ++ (c1 ++ (c2 ++ c3)))) :: H :: F) := Sat.perm (show Sat W _ ([(p, .cells #[I S.cap, .slice a0 n0 k0, .slice a1 n1 k1, .slice a2 n2 k2, .slice a3 n3 k3] 158 (0, 0))] :: c0 :: c1 :: c2 :: c3 :: H :: F) from o0) (by simp)
  have hq : totB [l0, l1, l2, l3] = totB S.bs := by rw [hb]
  omega
 refine kT <| seqE <| sR <| pu6 <| nT <| cFf <| kT <| seqE <| seqE ?_
 refine drawE [1] [(5, ⟨p, 0, none⟩, I S.cap)] [(true, [0, 2, 3, 4]), (true, [5]), (false, [1]), (true, [6])] rfl kr ⟨.inr (e0.cell 1 rfl rfl), trivial⟩ ?_
 have p0 := e0.drew
 refine wU [0, 2, 3, 4] ?_
 refine wLd (I S.cap) 0 Tryz.isAgg3 ?_
 refine wO rfl ?_
 have q0 := (p0.picks [5, 5, 5, 5, 5])
 have r0 : Sat W _ (([(p, .cells #[I S.cap, .slice a0 n0 k0, .slice a1 n1 k1, .slice a2 n2 k2, .slice a3 n3 k3] 158 (0, 0))] ++ (c0 ++ (c1 ++ (c2 ++ c3)))) :: [(d0, .cells #[I r.job, I r.task] 60 (0, 0))] :: H :: F) := Sat.perm (show Sat W _ ([(p, .cells #[I S.cap, .slice a0 n0 k0, .slice a1 n1 k1, .slice a2 n2 k2, .slice a3 n3 k3] 158 (0, 0))] :: c0 :: c1 :: c2 :: c3 :: [(d0, .cells #[I r.job, I r.task] 60 (0, 0))] :: H :: F) from q0) (by simp)
 have g1 : totB [l0, l1, l2, l3] = ((n0 + n1 + n2 + n3 : Nat) : Int) := by unfold totB; simp only [List.map_cons, List.map_nil, List.sum_cons, List.sum_nil]; have h0 := (hO0).len; have h1 := (hO1).len; have h2 := (hO2).len; have h3 := (hO3).len; omega
 refine cX Tryz.call112 (iq_len (S := ⟨S.cap, [l0, l1, l2, l3]⟩) ⟨_, _, _, _, _, _, _, _, _, _, _, _, _, _, _, _, _, _, _, _, rfl, hO0, hO1, hO2, hO3, rfl, hw1, (by dsimp only; omega)⟩ (Sat.flat1 r0)) ?_
 rintro _ _ ⟨rfl, s0⟩
 have b0 : Sat W _ ([(p, .cells #[I S.cap, .slice a0 n0 k0, .slice a1 n1 k1, .slice a2 n2 k2, .slice a3 n3 k3] 158 (0, 0))] :: c0 :: c1 :: c2 :: c3 :: [(d0, .cells #[I r.job, I r.task] 60 (0, 0))] :: H :: F) := Sat.perm (Sat.unflat1 s0) (by simp [Value.cells])
 refine nilO ⟨⟨.inr (b0.cell 0 rfl rfl), trivial⟩, ?_⟩
 refine wU [6] ?_
 refine wN ?_
 refine thenK_n ?_
 refine cD ((totB [l0, l1, l2, l3]) ≥ S.cap) (fun t0 => ?_) (fun t0 => ?_)
 ·refine sR <| pu1 <| nT <| retE <| thenK_r <| retT [I 19] ?_
  have u0 := (b0.dropAt 5 rfl)
  have v0 : Sat W _ (([(p, .cells #[I S.cap, .slice a0 n0 k0, .slice a1 n1 k1, .slice a2 n2 k2, .slice a3 n3 k3] 158 (0, 0))] ++ (c0 ++ (c1 ++ (c2 ++ c3)))) :: H :: F) := Sat.perm (show Sat W _ ([(p, .cells #[I S.cap, .slice a0 n0 k0, .slice a1 n1 k1, .slice a2 n2 k2, .slice a3 n3 k3] 158 (0, 0))] :: c0 :: c1 :: c2 :: c3 :: H :: F) from u0) (by simp)
  have hq : totB [l0, l1, l2, l3] = totB S.bs := by rw [hb]
  have hc : pushCQ S = 19 := by unfold pushCQ; rw [if_pos om]
  have he : pushQ S r 1 = S := by unfold pushQ; rw [hc, if_neg (by decide)]
  exact ⟨_, by rw [hc]; rfl, by rw [he]; exact ⟨_, _, _, _, _, _, _, _, _, _, _, _, _, _, _, _, _, _, _, _, rfl, hO0, hO1, hO2, hO3, hb, hw1, hw2⟩, v0⟩
 refine kT <| seqE ?_
 refine drawE [9, 10, 14] [(7, ⟨p, 2, none⟩, .slice a1 n1 k1), (8, ⟨d0, 0, none⟩, I r.job), (8, ⟨d0, 1, none⟩, I r.task)] [(true, [0, 1, 2, 3, 4, 5, 6, 11, 12]), (true, [7]), (true, [8]), (false, [9]), (false, [10]), (true, [13]), (false, [14])] rfl kr ⟨.inr (b0.cell 0 rfl rfl), .inr (b0.cell 5 rfl rfl), .inr (b0.cell 5 rfl rfl), trivial⟩ ?_
 have w0 := b0.drew
 refine wU [0, 1, 2, 3, 4, 5, 6, 11, 12] ?_
 refine wLd (.slice a1 n1 k1) 0 Tryz.isAgg125 ?_
 refine wY (.agg #[I r.job, I r.task]) rfl (fun w hF => Y_loadF rfl (Tryz.isAgg60 w) (Tryz.sizeOf60 w) kr rfl ⟨hF 1 _ _ rfl, hF 2 _ _ rfl, trivial⟩) ?_
 refine wO rfl ?_
 refine sBS w0 #[I r.job, I r.task] Tryz.runUnderlying125 Tryz.sizeOf60 Tryz.zeroValue60 ?_
 intro _ _ i0
 refine nilO ⟨⟨.inr (i0.cell 1 rfl rfl), dI, dI, trivial⟩, ?_⟩
 refine wO rfl ?_
 refine sApp (nb := 16) i0 hO1 3 (RdT.blk (enc := encRef) (sz := 2) (xs := [(⟨r.job, r.task⟩ : Ref)]) fR 1 0 rfl rfl rfl om) Tryz.underlying125 (i := Tryz.t60) kr fR ?_
 intro f0 g0 j0 _ x0 y0
 refine nilO ⟨dA, ?_⟩
 refine wU [13] ?_
 refine wO rfl ?_
 refine tW y0 1 2 (.slice f0 (n1 + 1) g0) Tryz.sizeOf125 ?_
 intro _ z0
 refine nilO ⟨dA, ?_⟩
 refine wN ?_
 refine thenK_n <| sR <| pu1 <| nT <| retE <| retT [I 0] ?_
 have b1 := (z0.drops [0, 5])
 have d1 : Sat W _ (([(p, .cells #[I S.cap, .slice a0 n0 k0, .slice f0 (n1 + 1) g0, .slice a2 n2 k2, .slice a3 n3 k3] 158 (0, 0))] ++ (c0 ++ (j0 ++ (c2 ++ c3)))) :: H :: F) := Sat.perm (show Sat W _ ([(p, .cells #[I S.cap, .slice a0 n0 k0, .slice f0 (n1 + 1) g0, .slice a2 n2 k2, .slice a3 n3 k3] 158 (0, 0))] :: c0 :: j0 :: c2 :: c3 :: H :: F) from b1) (by simp)
 have hq : totB [l0, l1, l2, l3] = totB S.bs := by rw [hb]
 have hc : pushCQ S = 0 := by unfold pushCQ; rw [if_neg om]
 have he : pushQ S r 1 = { S with bs := [l0, (l1 ++ [(⟨r.job, r.task⟩ : Ref)]), l2, l3] } := by unfold pushQ; rw [if_pos hc, hb]; rfl
 exact ⟨_, by rw [hc]; rfl, by rw [he]; exact ⟨_, _, _, _, _, _, _, _, _, _, _, _, _, _, _, _, _, _, _, _, rfl, hO0, x0, hO2, hO3, rfl, hw1, (by unfold totB; simp; omega)⟩, d1⟩
theorem iq_push2 {p : Nat} {S : QS} {M : Chunk} (hR : InjR p S M) (r : Ref) (hS : Sat W w (M :: H :: F)) :
  Calls Tryz.prog 60 #[Pt p 0, .agg #[I r.job, I r.task], I 2] w fun e w' => ∃ M' : Chunk, e = .returned (I (pushCQ S)) ∧ InjR p (pushQ S r 2) M' ∧ Sat W w' (M' :: H :: F) := by
 obtain ⟨a0, n0, k0, l0, c0, a1, n1, k1, l1, c1, a2, n2, k2, l2, c2, a3, n3, k3, l3, c3, rfl, hO0, hO1, hO2, hO3, hb, hw1, hw2⟩ := hR
 have hS : Sat W _ ([(p, .cells #[I S.cap, .slice a0 n0 k0, .slice a1 n1 k1, .slice a2 n2 k2, .slice a3 n3 k3] 158 (0, 0))] :: c0 :: c1 :: c2 :: c3 :: H :: F) := Sat.perm hS (by simp)
 have ht : totB S.bs = n0 + n1 + n2 + n3 := by rw [hb]; unfold totB; simp [hO0.len, hO1.len, hO2.len, hO3.len]; omega
 have hn0 := hO0.len; have hl0 := hO0.le; have hn1 := hO1.len; have hl1 := hO1.le; have hn2 := hO2.len; have hl2 := hO2.le; have hn3 := hO3.len; have hl3 := hO3.le
 refine callsA 43 Tryz.func60 rfl ?_
 refine sR ?_
 refine sBox hS (.agg #[I r.job, I r.task]) #[I r.job, I r.task] ?_
 intro d0 _ e0
 refine pu1 <| nT <| seqE <| sR <| pu6 <| gY ?_
 refine sL e0 1 0 (I S.cap) (Tryz.isAgg3 _) ?_
 refine pu2 <| nT ?_
 refine cE S.cap 0 (fun m0 => ?_) (fun m0 => ?_)
 ·refine sR <| pu1 <| nT <| retE <| thenK_r <| retT [I 20] ?_
  have o0 := (e0.dropAt 0 rfl)
  have f1 : Sat W _ (([(p, .cells #[I S.cap, .slice a0 n0 k0, .slice a1 n1 k1, .slice a2 n2 k2, .slice a3 n3 k3] 158 (0, 0))] ++ (c0 ++ (c1 ++ (c2 ++ c3)))) :: H :: F) := Sat.perm (show Sat W _ ([(p, .cells #[I S.cap, .slice a0 n0 k0, .slice a1 n1 k1, .slice a2 n2 k2, .slice a3 n3 k3] 158 (0, 0))] :: c0 :: c1 :: c2 :: c3 :: H :: F) from o0) (by simp)
  have hq : totB [l0, l1, l2, l3] = totB S.bs := by rw [hb]
  omega
 refine kT <| seqE <| sR <| pu6 <| nT <| cFf <| kT <| seqE <| seqE ?_
 refine drawE [1] [(5, ⟨p, 0, none⟩, I S.cap)] [(true, [0, 2, 3, 4]), (true, [5]), (false, [1]), (true, [6])] rfl kr ⟨.inr (e0.cell 1 rfl rfl), trivial⟩ ?_
 have p0 := e0.drew
 refine wU [0, 2, 3, 4] ?_
 refine wLd (I S.cap) 0 Tryz.isAgg3 ?_
 refine wO rfl ?_
 have q0 := (p0.picks [5, 5, 5, 5, 5])
 have r0 : Sat W _ (([(p, .cells #[I S.cap, .slice a0 n0 k0, .slice a1 n1 k1, .slice a2 n2 k2, .slice a3 n3 k3] 158 (0, 0))] ++ (c0 ++ (c1 ++ (c2 ++ c3)))) :: [(d0, .cells #[I r.job, I r.task] 60 (0, 0))] :: H :: F) := Sat.perm (show Sat W _ ([(p, .cells #[I S.cap, .slice a0 n0 k0, .slice a1 n1 k1, .slice a2 n2 k2, .slice a3 n3 k3] 158 (0, 0))] :: c0 :: c1 :: c2 :: c3 :: [(d0, .cells #[I r.job, I r.task] 60 (0, 0))] :: H :: F) from q0) (by simp)
 have g1 : totB [l0, l1, l2, l3] = ((n0 + n1 + n2 + n3 : Nat) : Int) := by unfold totB; simp only [List.map_cons, List.map_nil, List.sum_cons, List.sum_nil]; have h0 := (hO0).len; have h1 := (hO1).len; have h2 := (hO2).len; have h3 := (hO3).len; omega
 refine cX Tryz.call112 (iq_len (S := ⟨S.cap, [l0, l1, l2, l3]⟩) ⟨_, _, _, _, _, _, _, _, _, _, _, _, _, _, _, _, _, _, _, _, rfl, hO0, hO1, hO2, hO3, rfl, hw1, (by dsimp only; omega)⟩ (Sat.flat1 r0)) ?_
 rintro _ _ ⟨rfl, s0⟩
 have b0 : Sat W _ ([(p, .cells #[I S.cap, .slice a0 n0 k0, .slice a1 n1 k1, .slice a2 n2 k2, .slice a3 n3 k3] 158 (0, 0))] :: c0 :: c1 :: c2 :: c3 :: [(d0, .cells #[I r.job, I r.task] 60 (0, 0))] :: H :: F) := Sat.perm (Sat.unflat1 s0) (by simp [Value.cells])
 refine nilO ⟨⟨.inr (b0.cell 0 rfl rfl), trivial⟩, ?_⟩
 refine wU [6] ?_
 refine wN ?_
 refine thenK_n ?_
 refine cD ((totB [l0, l1, l2, l3]) ≥ S.cap) (fun t0 => ?_) (fun t0 => ?_)
 ·refine sR <| pu1 <| nT <| retE <| thenK_r <| retT [I 19] ?_
  have u0 := (b0.dropAt 5 rfl)
  have v0 : Sat W _ (([(p, .cells #[I S.cap, .slice a0 n0 k0, .slice a1 n1 k1, .slice a2 n2 k2, .slice a3 n3 k3] 158 (0, 0))] ++ (c0 ++ (c1 ++ (c2 ++ c3)))) :: H :: F) := Sat.perm (show Sat W _ ([(p, .cells #[I S.cap, .slice a0 n0 k0, .slice a1 n1 k1, .slice a2 n2 k2, .slice a3 n3 k3] 158 (0, 0))] :: c0 :: c1 :: c2 :: c3 :: H :: F) from u0) (by simp)
  have hq : totB [l0, l1, l2, l3] = totB S.bs := by rw [hb]
  have hc : pushCQ S = 19 := by unfold pushCQ; rw [if_pos om]
  have he : pushQ S r 2 = S := by unfold pushQ; rw [hc, if_neg (by decide)]
  exact ⟨_, by rw [hc]; rfl, by rw [he]; exact ⟨_, _, _, _, _, _, _, _, _, _, _, _, _, _, _, _, _, _, _, _, rfl, hO0, hO1, hO2, hO3, hb, hw1, hw2⟩, v0⟩
 refine kT <| seqE ?_
 refine drawE [9, 10, 14] [(7, ⟨p, 3, none⟩, .slice a2 n2 k2), (8, ⟨d0, 0, none⟩, I r.job), (8, ⟨d0, 1, none⟩, I r.task)] [(true, [0, 1, 2, 3, 4, 5, 6, 11, 12]), (true, [7]), (true, [8]), (false, [9]), (false, [10]), (true, [13]), (false, [14])] rfl kr ⟨.inr (b0.cell 0 rfl rfl), .inr (b0.cell 5 rfl rfl), .inr (b0.cell 5 rfl rfl), trivial⟩ ?_
 have w0 := b0.drew
 refine wU [0, 1, 2, 3, 4, 5, 6, 11, 12] ?_
 refine wLd (.slice a2 n2 k2) 0 Tryz.isAgg125 ?_
 refine wY (.agg #[I r.job, I r.task]) rfl (fun w hF => Y_loadF rfl (Tryz.isAgg60 w) (Tryz.sizeOf60 w) kr rfl ⟨hF 1 _ _ rfl, hF 2 _ _ rfl, trivial⟩) ?_
 refine wO rfl ?_
 refine sBS w0 #[I r.job, I r.task] Tryz.runUnderlying125 Tryz.sizeOf60 Tryz.zeroValue60 ?_
 intro _ _ i0
 refine nilO ⟨⟨.inr (i0.cell 1 rfl rfl), dI, dI, trivial⟩, ?_⟩
 refine wO rfl ?_
 refine sApp (nb := 16) i0 hO2 4 (RdT.blk (enc := encRef) (sz := 2) (xs := [(⟨r.job, r.task⟩ : Ref)]) fR 1 0 rfl rfl rfl om) Tryz.underlying125 (i := Tryz.t60) kr fR ?_
 intro f0 g0 j0 _ x0 y0
 refine nilO ⟨dA, ?_⟩
 refine wU [13] ?_
 refine wO rfl ?_
 refine tW y0 1 3 (.slice f0 (n2 + 1) g0) Tryz.sizeOf125 ?_
 intro _ z0
 refine nilO ⟨dA, ?_⟩
 refine wN ?_
 refine thenK_n <| sR <| pu1 <| nT <| retE <| retT [I 0] ?_
 have b1 := (z0.drops [0, 5])
 have d1 : Sat W _ (([(p, .cells #[I S.cap, .slice a0 n0 k0, .slice a1 n1 k1, .slice f0 (n2 + 1) g0, .slice a3 n3 k3] 158 (0, 0))] ++ (c0 ++ (c1 ++ (j0 ++ c3)))) :: H :: F) := Sat.perm (show Sat W _ ([(p, .cells #[I S.cap, .slice a0 n0 k0, .slice a1 n1 k1, .slice f0 (n2 + 1) g0, .slice a3 n3 k3] 158 (0, 0))] :: c0 :: c1 :: j0 :: c3 :: H :: F) from b1) (by simp)
 have hq : totB [l0, l1, l2, l3] = totB S.bs := by rw [hb]
 have hc : pushCQ S = 0 := by unfold pushCQ; rw [if_neg om]
 have he : pushQ S r 2 = { S with bs := [l0, l1, (l2 ++ [(⟨r.job, r.task⟩ : Ref)]), l3] } := by unfold pushQ; rw [if_pos hc, hb]; rfl
 exact ⟨_, by rw [hc]; rfl, by rw [he]; exact ⟨_, _, _, _, _, _, _, _, _, _, _, _, _, _, _, _, _, _, _, _, rfl, hO0, hO1, x0, hO3, rfl, hw1, (by unfold totB; simp; omega)⟩, d1⟩
theorem iq_push3 {p : Nat} {S : QS} {M : Chunk} (hR : InjR p S M) (r : Ref) (hS : Sat W w (M :: H :: F)) :
  Calls Tryz.prog 60 #[Pt p 0, .agg #[I r.job, I r.task], I 3] w fun e w' => ∃ M' : Chunk, e = .returned (I (pushCQ S)) ∧ InjR p (pushQ S r 3) M' ∧ Sat W w' (M' :: H :: F) := by
 obtain ⟨a0, n0, k0, l0, c0, a1, n1, k1, l1, c1, a2, n2, k2, l2, c2, a3, n3, k3, l3, c3, rfl, hO0, hO1, hO2, hO3, hb, hw1, hw2⟩ := hR
 have hS : Sat W _ ([(p, .cells #[I S.cap, .slice a0 n0 k0, .slice a1 n1 k1, .slice a2 n2 k2, .slice a3 n3 k3] 158 (0, 0))] :: c0 :: c1 :: c2 :: c3 :: H :: F) := Sat.perm hS (by simp)
 have ht : totB S.bs = n0 + n1 + n2 + n3 := by rw [hb]; unfold totB; simp [hO0.len, hO1.len, hO2.len, hO3.len]; omega
 have hn0 := hO0.len; have hl0 := hO0.le; have hn1 := hO1.len; have hl1 := hO1.le; have hn2 := hO2.len; have hl2 := hO2.le; have hn3 := hO3.len; have hl3 := hO3.le
 refine callsA 43 Tryz.func60 rfl ?_
 refine sR ?_
 refine sBox hS (.agg #[I r.job, I r.task]) #[I r.job, I r.task] ?_
 intro d0 _ e0
 refine pu1 <| nT <| seqE <| sR <| pu6 <| gY ?_
 refine sL e0 1 0 (I S.cap) (Tryz.isAgg3 _) ?_
 refine pu2 <| nT ?_
 refine cE S.cap 0 (fun m0 => ?_) (fun m0 => ?_)
 ·refine sR <| pu1 <| nT <| retE <| thenK_r <| retT [I 20] ?_
  have o0 := (e0.dropAt 0 rfl)
  have f1 : Sat W _ (([(p, .cells #[I S.cap, .slice a0 n0 k0, .slice a1 n1 k1, .slice a2 n2 k2, .slice a3 n3 k3] 158 (0, 0))] ++ (c0 ++ (c1 ++ (c2 ++ c3)))) :: H :: F) := Sat.perm (show Sat W _ ([(p, .cells #[I S.cap, .slice a0 n0 k0, .slice a1 n1 k1, .slice a2 n2 k2, .slice a3 n3 k3] 158 (0, 0))] :: c0 :: c1 :: c2 :: c3 :: H :: F) from o0) (by simp)
  have hq : totB [l0, l1, l2, l3] = totB S.bs := by rw [hb]
  omega
 refine kT <| seqE <| sR <| pu6 <| nT <| cFf <| kT <| seqE <| seqE ?_
 refine drawE [1] [(5, ⟨p, 0, none⟩, I S.cap)] [(true, [0, 2, 3, 4]), (true, [5]), (false, [1]), (true, [6])] rfl kr ⟨.inr (e0.cell 1 rfl rfl), trivial⟩ ?_
 have p0 := e0.drew
 refine wU [0, 2, 3, 4] ?_
 refine wLd (I S.cap) 0 Tryz.isAgg3 ?_
 refine wO rfl ?_
 have q0 := (p0.picks [5, 5, 5, 5, 5])
 have r0 : Sat W _ (([(p, .cells #[I S.cap, .slice a0 n0 k0, .slice a1 n1 k1, .slice a2 n2 k2, .slice a3 n3 k3] 158 (0, 0))] ++ (c0 ++ (c1 ++ (c2 ++ c3)))) :: [(d0, .cells #[I r.job, I r.task] 60 (0, 0))] :: H :: F) := Sat.perm (show Sat W _ ([(p, .cells #[I S.cap, .slice a0 n0 k0, .slice a1 n1 k1, .slice a2 n2 k2, .slice a3 n3 k3] 158 (0, 0))] :: c0 :: c1 :: c2 :: c3 :: [(d0, .cells #[I r.job, I r.task] 60 (0, 0))] :: H :: F) from q0) (by simp)
 have g1 : totB [l0, l1, l2, l3] = ((n0 + n1 + n2 + n3 : Nat) : Int) := by unfold totB; simp only [List.map_cons, List.map_nil, List.sum_cons, List.sum_nil]; have h0 := (hO0).len; have h1 := (hO1).len; have h2 := (hO2).len; have h3 := (hO3).len; omega
 refine cX Tryz.call112 (iq_len (S := ⟨S.cap, [l0, l1, l2, l3]⟩) ⟨_, _, _, _, _, _, _, _, _, _, _, _, _, _, _, _, _, _, _, _, rfl, hO0, hO1, hO2, hO3, rfl, hw1, (by dsimp only; omega)⟩ (Sat.flat1 r0)) ?_
 rintro _ _ ⟨rfl, s0⟩
 have b0 : Sat W _ ([(p, .cells #[I S.cap, .slice a0 n0 k0, .slice a1 n1 k1, .slice a2 n2 k2, .slice a3 n3 k3] 158 (0, 0))] :: c0 :: c1 :: c2 :: c3 :: [(d0, .cells #[I r.job, I r.task] 60 (0, 0))] :: H :: F) := Sat.perm (Sat.unflat1 s0) (by simp [Value.cells])
 refine nilO ⟨⟨.inr (b0.cell 0 rfl rfl), trivial⟩, ?_⟩
 refine wU [6] ?_
 refine wN ?_
 refine thenK_n ?_
 refine cD ((totB [l0, l1, l2, l3]) ≥ S.cap) (fun t0 => ?_) (fun t0 => ?_)
 ·refine sR <| pu1 <| nT <| retE <| thenK_r <| retT [I 19] ?_
  have u0 := (b0.dropAt 5 rfl)
  have v0 : Sat W _ (([(p, .cells #[I S.cap, .slice a0 n0 k0, .slice a1 n1 k1, .slice a2 n2 k2, .slice a3 n3 k3] 158 (0, 0))] ++ (c0 ++ (c1 ++ (c2 ++ c3)))) :: H :: F) := Sat.perm (show Sat W _ ([(p, .cells #[I S.cap, .slice a0 n0 k0, .slice a1 n1 k1, .slice a2 n2 k2, .slice a3 n3 k3] 158 (0, 0))] :: c0 :: c1 :: c2 :: c3 :: H :: F) from u0) (by simp)
  have hq : totB [l0, l1, l2, l3] = totB S.bs := by rw [hb]
  have hc : pushCQ S = 19 := by unfold pushCQ; rw [if_pos om]
  have he : pushQ S r 3 = S := by unfold pushQ; rw [hc, if_neg (by decide)]
  exact ⟨_, by rw [hc]; rfl, by rw [he]; exact ⟨_, _, _, _, _, _, _, _, _, _, _, _, _, _, _, _, _, _, _, _, rfl, hO0, hO1, hO2, hO3, hb, hw1, hw2⟩, v0⟩
 refine kT <| seqE ?_
 refine drawE [9, 10, 14] [(7, ⟨p, 4, none⟩, .slice a3 n3 k3), (8, ⟨d0, 0, none⟩, I r.job), (8, ⟨d0, 1, none⟩, I r.task)] [(true, [0, 1, 2, 3, 4, 5, 6, 11, 12]), (true, [7]), (true, [8]), (false, [9]), (false, [10]), (true, [13]), (false, [14])] rfl kr ⟨.inr (b0.cell 0 rfl rfl), .inr (b0.cell 5 rfl rfl), .inr (b0.cell 5 rfl rfl), trivial⟩ ?_
 have w0 := b0.drew
 refine wU [0, 1, 2, 3, 4, 5, 6, 11, 12] ?_
 refine wLd (.slice a3 n3 k3) 0 Tryz.isAgg125 ?_
 refine wY (.agg #[I r.job, I r.task]) rfl (fun w hF => Y_loadF rfl (Tryz.isAgg60 w) (Tryz.sizeOf60 w) kr rfl ⟨hF 1 _ _ rfl, hF 2 _ _ rfl, trivial⟩) ?_
 refine wO rfl ?_
 refine sBS w0 #[I r.job, I r.task] Tryz.runUnderlying125 Tryz.sizeOf60 Tryz.zeroValue60 ?_
 intro _ _ i0
 refine nilO ⟨⟨.inr (i0.cell 1 rfl rfl), dI, dI, trivial⟩, ?_⟩
 refine wO rfl ?_
 refine sApp (nb := 16) i0 hO3 5 (RdT.blk (enc := encRef) (sz := 2) (xs := [(⟨r.job, r.task⟩ : Ref)]) fR 1 0 rfl rfl rfl om) Tryz.underlying125 (i := Tryz.t60) kr fR ?_
 intro f0 g0 j0 _ x0 y0
 refine nilO ⟨dA, ?_⟩
 refine wU [13] ?_
 refine wO rfl ?_
 refine tW y0 1 4 (.slice f0 (n3 + 1) g0) Tryz.sizeOf125 ?_
 intro _ z0
 refine nilO ⟨dA, ?_⟩
 refine wN ?_
 refine thenK_n <| sR <| pu1 <| nT <| retE <| retT [I 0] ?_
 have b1 := (z0.drops [0, 5])
 have d1 : Sat W _ (([(p, .cells #[I S.cap, .slice a0 n0 k0, .slice a1 n1 k1, .slice a2 n2 k2, .slice f0 (n3 + 1) g0] 158 (0, 0))] ++ (c0 ++ (c1 ++ (c2 ++ j0)))) :: H :: F) := Sat.perm (show Sat W _ ([(p, .cells #[I S.cap, .slice a0 n0 k0, .slice a1 n1 k1, .slice a2 n2 k2, .slice f0 (n3 + 1) g0] 158 (0, 0))] :: c0 :: c1 :: c2 :: j0 :: H :: F) from b1) (by simp)
 have hq : totB [l0, l1, l2, l3] = totB S.bs := by rw [hb]
 have hc : pushCQ S = 0 := by unfold pushCQ; rw [if_neg om]
 have he : pushQ S r 3 = { S with bs := [l0, l1, l2, (l3 ++ [(⟨r.job, r.task⟩ : Ref)])] } := by unfold pushQ; rw [if_pos hc, hb]; rfl
 exact ⟨_, by rw [hc]; rfl, by rw [he]; exact ⟨_, _, _, _, _, _, _, _, _, _, _, _, _, _, _, _, _, _, _, _, rfl, hO0, hO1, hO2, x0, rfl, hw1, (by unfold totB; simp; omega)⟩, d1⟩
theorem iq_push {p : Nat} {S : QS} {M : Chunk} (hR : InjR p S M) (r : Ref) (b : Int) (hb : 0 ≤ b ∧ b < 4) (hS : Sat W w (M :: H :: F)) :
    Calls Tryz.prog 60 #[.pointer (some ⟨p, 0, none⟩), .agg #[.int .i64 r.job, .int .i64 r.task], .int .i64 b] w fun e w' => ∃ M' : Chunk, e = .returned (.int .i64 (pushCQ S)) ∧ InjR p (pushQ S r b) M' ∧ Sat W w' (M' :: H :: F) := by
  rcases (by omega : b = 0 ∨ b = 1 ∨ b = 2 ∨ b = 3) with rfl | rfl | rfl | rfl
  · exact iq_push0 hR r hS
  · exact iq_push1 hR r hS
  · exact iq_push2 hR r hS
  · exact iq_push3 hR r hS
theorem iq_pop {p : Nat} {S : QS} {M : Chunk} (hR : InjR p S M)  (hS : Sat W w (M :: H :: F)) :
  Calls Tryz.prog 140 #[Pt p 0] w fun e w' => (popB S.bs = none ∧ e = .returned (.tuple #[.agg #[I 0, I 0], .bool false]) ∧ Sat W w' (M :: H :: F)) ∨ (∃ (x : Ref) (bs : List (List Ref)) (M' : Chunk), popB S.bs = some (x, bs) ∧ e = .returned (.tuple #[.agg #[I x.job, I x.task], .bool true]) ∧ InjR p { S with bs := bs } M' ∧ Sat W w' (M' :: H :: F)) := by
 obtain ⟨a0, n0, k0, l0, c0, a1, n1, k1, l1, c1, a2, n2, k2, l2, c2, a3, n3, k3, l3, c3, rfl, hO0, hO1, hO2, hO3, hb, hw1, hw2⟩ := hR
 have hS : Sat W _ ([(p, .cells #[I S.cap, .slice a0 n0 k0, .slice a1 n1 k1, .slice a2 n2 k2, .slice a3 n3 k3] 158 (0, 0))] :: c0 :: c1 :: c2 :: c3 :: H :: F) := Sat.perm hS (by simp)
 have ht : totB S.bs = n0 + n1 + n2 + n3 := by rw [hb]; unfold totB; simp [hO0.len, hO1.len, hO2.len, hO3.len]; omega
 have hn0 := hO0.len; have hl0 := hO0.le; have hn1 := hO1.len; have hl1 := hO1.le; have hn2 := hO2.len; have hl2 := hO2.le; have hn3 := hO3.len; have hl3 := hO3.le
 refine callsA 35 Tryz.func140 rfl ?_
 refine sR ?_
 refine sAlloc hS Tryz.zeroValue60 ?_
 intro _ _ g0
 refine pu1 <| nT <| seqE <| sR <| pu1 <| nT <| blockE ?_
 refine loopN 5 ?_
 refine roundS ?_
 refine seqE <| sR <| pu6 <| nT <| cTt <| kT <| seqE <| blockE <| sR <| pu5 ?_
 refine sL g0 1 1 (.slice a0 n0 k0) (Tryz.isAgg125 _) ?_
 refine pu1 <| nT <| sR <| pu3 <| nT ?_
 refine cD (((n0 : Nat) : Int) > 0) (fun h1 => ?_) (fun h1 => ?_)
 ·refine seqE ?_
  refine drawE [4, 8] [] [(true, [0, 1, 2]), (true, [3]), (true, [5, 6]), (false, [4]), (true, [7]), (false, [8])] rfl kr trivial ?_
  have i1 := g0.drew
  refine wU [0, 1, 2] ?_
  have j1 := hO0.part (lo := 1) (hi := n0) om om
  refine wY (.slice (partAddr a0 k0 1 2) (n0 - 1) (k0 - 1)) rfl (fun w _ => Y_sl (a := a0) (len := n0) (cap := k0) (some 1) none 1 n0 Tryz.runUnderlying125 Tryz.sizeOf60 ⟨by decide, rfl⟩ rfl om om) ?_
  refine wU [5, 6] ?_
  refine wO rfl ?_
  have m1 := Sat.nilc i1
  have o1 := OwnT.nil (enc := encRef) (E := 60) (sz := 2) fR
  refine sApp (nb := 16) m1 o1 0 (j1.rdAt 3 rfl) Tryz.underlying125 (i := Tryz.t60) kr fR ?_
  intro h0 i0 s0 _ p1 q1
  refine nilO ⟨trivial, ?_⟩
  refine wU [7] ?_
  refine wO rfl ?_
  refine tW q1 2 1 (.slice h0 (0 + (n0 - 1)) i0) Tryz.sizeOf125 ?_
  intro _ t0
  refine nilO ⟨trivial, ?_⟩
  refine wN ?_
  refine thenK_n <| sR <| pu1 ?_
  refine sIdxO hO0 0 0 Tryz.runUnderlying125 Tryz.sizeOf60 ?_
  intro b0 _ _ r1 s1 _
  refine sLpA t0 (s1.up 3 rfl) 0 [I b0.job, I b0.task] (Tryz.isAgg60 _) (Tryz.sizeOf60 _) ?_
  refine sT t0 1 0 (.agg #[I b0.job, I b0.task]) [I b0.job, I b0.task] #[I b0.job, I b0.task] Tryz.sizeOf60 ?_
  intro _ u0
  refine pu1 <| nT <| retE <| blockK_r <| thenK_r <| tR <| thenK_r <| retN (vs := [.agg #[I b0.job, I b0.task], .bool true]) rfl (.cons (.cell _ _ _ _ kr (lvA u0 1 0 [I b0.job, I b0.task] (Tryz.isAgg60 _) (Tryz.sizeOf60 _) rfl rfl rfl)) (.cons (.tmp _ _ kr) .nil)) ?_
  have t1 := ((u0.pick 2 rfl).drops [2, 2])
  have u1 : Sat W _ (([(p, .cells #[I S.cap, .slice h0 (0 + (n0 - 1)) i0, .slice a1 n1 k1, .slice a2 n2 k2, .slice a3 n3 k3] 158 (0, 0))] ++ (s0 ++ (c1 ++ (c2 ++ c3)))) :: H :: F) := Sat.perm (show Sat W _ ([(p, .cells #[I S.cap, .slice h0 (0 + (n0 - 1)) i0, .slice a1 n1 k1, .slice a2 n2 k2, .slice a3 n3 k3] 158 (0, 0))] :: s0 :: c1 :: c2 :: c3 :: H :: F) from t1) (by simp)
  have htp := tail_part hn0
  have hOt := p1; rw [htp] at hOt
  have hpb : popB S.bs = some (b0, [l0.tail, l1, l2, l3]) := by rw [hb, popB_at r1]
  exact .inr ⟨_, _, _, hpb, rfl, ⟨_, _, _, _, _, _, _, _, _, _, _, _, _, _, _, _, _, _, _, _, rfl, hOt, hO1, hO2, hO3, rfl, hw1, (by have hlt := List.length_tail (l := l0); unfold totB; simp only [List.map_cons, List.map_nil, List.sum_cons, List.sum_nil]; omega)⟩, u1⟩
 refine skipE <| blockK_n <| thenK_n <| regionE <| pu3 <| nT ?_
 refine roundS ?_
 refine seqE <| sR <| pu6 <| nT <| cTt <| kT <| seqE <| blockE <| sR <| pu5 ?_
 refine sL g0 1 2 (.slice a1 n1 k1) (Tryz.isAgg125 _) ?_
 refine pu1 <| nT <| sR <| pu3 <| nT ?_
 refine cD (((n1 : Nat) : Int) > 0) (fun v1 => ?_) (fun v1 => ?_)
 ·refine seqE ?_
  refine drawE [4, 8] [] [(true, [0, 1, 2]), (true, [3]), (true, [5, 6]), (false, [4]), (true, [7]), (false, [8])] rfl kr trivial ?_
  have w1 := g0.drew
  refine wU [0, 1, 2] ?_
  have x1 := hO1.part (lo := 1) (hi := n1) om om
  refine wY (.slice (partAddr a1 k1 1 2) (n1 - 1) (k1 - 1)) rfl (fun w _ => Y_sl (a := a1) (len := n1) (cap := k1) (some 1) none 1 n1 Tryz.runUnderlying125 Tryz.sizeOf60 ⟨by decide, rfl⟩ rfl om om) ?_
  refine wU [5, 6] ?_
  refine wO rfl ?_
  have y1 := Sat.nilc w1
  have z1 := OwnT.nil (enc := encRef) (E := 60) (sz := 2) fR
  refine sApp (nb := 16) y1 z1 0 (x1.rdAt 4 rfl) Tryz.underlying125 (i := Tryz.t60) kr fR ?_
  intro j0 m0 v0 _ b2 d2
  refine nilO ⟨trivial, ?_⟩
  refine wU [7] ?_
  refine wO rfl ?_
  refine tW d2 2 2 (.slice j0 (0 + (n1 - 1)) m0) Tryz.sizeOf125 ?_
  intro _ w0
  refine nilO ⟨trivial, ?_⟩
  refine wN ?_
  refine thenK_n <| sR <| pu1 ?_
  refine sIdxO hO1 0 0 Tryz.runUnderlying125 Tryz.sizeOf60 ?_
  intro d0 _ _ e2 f2 _
  refine sLpA w0 (f2.up 4 rfl) 0 [I d0.job, I d0.task] (Tryz.isAgg60 _) (Tryz.sizeOf60 _) ?_
  refine sT w0 1 0 (.agg #[I d0.job, I d0.task]) [I d0.job, I d0.task] #[I d0.job, I d0.task] Tryz.sizeOf60 ?_
  intro _ x0
  refine pu1 <| nT <| retE <| blockK_r <| thenK_r <| tR <| thenK_r <| retN (vs := [.agg #[I d0.job, I d0.task], .bool true]) rfl (.cons (.cell _ _ _ _ kr (lvA x0 1 0 [I d0.job, I d0.task] (Tryz.isAgg60 _) (Tryz.sizeOf60 _) rfl rfl rfl)) (.cons (.tmp _ _ kr) .nil)) ?_
  have g2 := ((x0.picks [3, 3]).drops [3, 3])
  have h2 : Sat W _ (([(p, .cells #[I S.cap, .slice a0 n0 k0, .slice j0 (0 + (n1 - 1)) m0, .slice a2 n2 k2, .slice a3 n3 k3] 158 (0, 0))] ++ (c0 ++ (v0 ++ (c2 ++ c3)))) :: H :: F) := Sat.perm (show Sat W _ ([(p, .cells #[I S.cap, .slice a0 n0 k0, .slice j0 (0 + (n1 - 1)) m0, .slice a2 n2 k2, .slice a3 n3 k3] 158 (0, 0))] :: c0 :: v0 :: c2 :: c3 :: H :: F) from g2) (by simp)
  have htp := tail_part hn1
  have hOt := b2; rw [htp] at hOt
  have hpb : popB S.bs = some (d0, [l0, l1.tail, l2, l3]) := by rw [hb, popB_nil om, popB_at e2]; rfl
  exact .inr ⟨_, _, _, hpb, rfl, ⟨_, _, _, _, _, _, _, _, _, _, _, _, _, _, _, _, _, _, _, _, rfl, hO0, hOt, hO2, hO3, rfl, hw1, (by have hlt := List.length_tail (l := l1); unfold totB; simp only [List.map_cons, List.map_nil, List.sum_cons, List.sum_nil]; omega)⟩, h2⟩
 refine skipE <| blockK_n <| thenK_n <| regionE <| pu3 <| nT ?_
 refine roundS ?_
 refine seqE <| sR <| pu6 <| nT <| cTt <| kT <| seqE <| blockE <| sR <| pu5 ?_
 refine sL g0 1 3 (.slice a2 n2 k2) (Tryz.isAgg125 _) ?_
 refine pu1 <| nT <| sR <| pu3 <| nT ?_
 refine cD (((n2 : Nat) : Int) > 0) (fun i2 => ?_) (fun i2 => ?_)
 ·refine seqE ?_
  refine drawE [4, 8] [] [(true, [0, 1, 2]), (true, [3]), (true, [5, 6]), (false, [4]), (true, [7]), (false, [8])] rfl kr trivial ?_
  have j2 := g0.drew
  refine wU [0, 1, 2] ?_
  have m2 := hO2.part (lo := 1) (hi := n2) om om
  refine wY (.slice (partAddr a2 k2 1 2) (n2 - 1) (k2 - 1)) rfl (fun w _ => Y_sl (a := a2) (len := n2) (cap := k2) (some 1) none 1 n2 Tryz.runUnderlying125 Tryz.sizeOf60 ⟨by decide, rfl⟩ rfl om om) ?_
  refine wU [5, 6] ?_
  refine wO rfl ?_
  have o2 := Sat.nilc j2
  have p2 := OwnT.nil (enc := encRef) (E := 60) (sz := 2) fR
  refine sApp (nb := 16) o2 p2 0 (m2.rdAt 5 rfl) Tryz.underlying125 (i := Tryz.t60) kr fR ?_
  intro o0 p0 y0 _ q2 r2
  refine nilO ⟨trivial, ?_⟩
  refine wU [7] ?_
  refine wO rfl ?_
  refine tW r2 2 3 (.slice o0 (0 + (n2 - 1)) p0) Tryz.sizeOf125 ?_
  intro _ z0
  refine nilO ⟨trivial, ?_⟩
  refine wN ?_
  refine thenK_n <| sR <| pu1 ?_
  refine sIdxO hO2 0 0 Tryz.runUnderlying125 Tryz.sizeOf60 ?_
  intro e0 _ _ s2 t2 _
  refine sLpA z0 (t2.up 5 rfl) 0 [I e0.job, I e0.task] (Tryz.isAgg60 _) (Tryz.sizeOf60 _) ?_
  refine sT z0 1 0 (.agg #[I e0.job, I e0.task]) [I e0.job, I e0.task] #[I e0.job, I e0.task] Tryz.sizeOf60 ?_
  intro _ b1
  refine pu1 <| nT <| retE <| blockK_r <| thenK_r <| tR <| thenK_r <| retN (vs := [.agg #[I e0.job, I e0.task], .bool true]) rfl (.cons (.cell _ _ _ _ kr (lvA b1 1 0 [I e0.job, I e0.task] (Tryz.isAgg60 _) (Tryz.sizeOf60 _) rfl rfl rfl)) (.cons (.tmp _ _ kr) .nil)) ?_
  have u2 := ((b1.picks [4, 4, 4]).drops [4, 4])
  have v2 : Sat W _ (([(p, .cells #[I S.cap, .slice a0 n0 k0, .slice a1 n1 k1, .slice o0 (0 + (n2 - 1)) p0, .slice a3 n3 k3] 158 (0, 0))] ++ (c0 ++ (c1 ++ (y0 ++ c3)))) :: H :: F) := Sat.perm (show Sat W _ ([(p, .cells #[I S.cap, .slice a0 n0 k0, .slice a1 n1 k1, .slice o0 (0 + (n2 - 1)) p0, .slice a3 n3 k3] 158 (0, 0))] :: c0 :: c1 :: y0 :: c3 :: H :: F) from u2) (by simp)
  have htp := tail_part hn2
  have hOt := q2; rw [htp] at hOt
  have hpb : popB S.bs = some (e0, [l0, l1, l2.tail, l3]) := by rw [hb, popB_nil om, popB_nil om, popB_at s2]; rfl
  exact .inr ⟨_, _, _, hpb, rfl, ⟨_, _, _, _, _, _, _, _, _, _, _, _, _, _, _, _, _, _, _, _, rfl, hO0, hO1, hOt, hO3, rfl, hw1, (by have hlt := List.length_tail (l := l2); unfold totB; simp only [List.map_cons, List.map_nil, List.sum_cons, List.sum_nil]; omega)⟩, v2⟩
 refine skipE <| blockK_n <| thenK_n <| regionE <| pu3 <| nT ?_
 refine roundS ?_
 refine seqE <| sR <| pu6 <| nT <| cTt <| kT <| seqE <| blockE <| sR <| pu5 ?_
 refine sL g0 1 4 (.slice a3 n3 k3) (Tryz.isAgg125 _) ?_
 refine pu1 <| nT <| sR <| pu3 <| nT ?_
 refine cD (((n3 : Nat) : Int) > 0) (fun w2 => ?_) (fun w2 => ?_)
 rotate_left
 ·refine skipE <| blockK_n <| thenK_n <| regionE <| pu3 <| nT ?_
  refine roundS ?_
  refine seqE <| sR <| pu6 <| nT <| cFf <| exitE <| xB <| thenK_n <| sR <| pu1 ?_
  refine sT g0 0 0 (.agg #[I 0, I 0]) [I 0, I 0] #[I 0, I 0] Tryz.sizeOf60 ?_
  intro _ d1
  refine pu1 <| nT <| retE <| retN (vs := [.agg #[I 0, I 0], .bool false]) rfl (.cons (.cell _ _ _ _ kr (lvA d1 0 0 [I 0, I 0] (Tryz.isAgg60 _) (Tryz.sizeOf60 _) rfl rfl rfl)) (.cons (.tmp _ _ kr) .nil)) ?_
  have x2 := (d1.dropAt 0 rfl)
  have y2 : Sat W _ (([(p, .cells #[I S.cap, .slice a0 n0 k0, .slice a1 n1 k1, .slice a2 n2 k2, .slice a3 n3 k3] 158 (0, 0))] ++ (c0 ++ (c1 ++ (c2 ++ c3)))) :: H :: F) := Sat.perm (show Sat W _ ([(p, .cells #[I S.cap, .slice a0 n0 k0, .slice a1 n1 k1, .slice a2 n2 k2, .slice a3 n3 k3] 158 (0, 0))] :: c0 :: c1 :: c2 :: c3 :: H :: F) from x2) (by simp)
  exact .inl ⟨by rw [hb, popB_nil om, popB_nil om, popB_nil om, popB_nil om]; rfl, rfl, y2⟩
 refine seqE ?_
 refine drawE [4, 8] [] [(true, [0, 1, 2]), (true, [3]), (true, [5, 6]), (false, [4]), (true, [7]), (false, [8])] rfl kr trivial ?_
 have z2 := g0.drew
 refine wU [0, 1, 2] ?_
 have b3 := hO3.part (lo := 1) (hi := n3) om om
 refine wY (.slice (partAddr a3 k3 1 2) (n3 - 1) (k3 - 1)) rfl (fun w _ => Y_sl (a := a3) (len := n3) (cap := k3) (some 1) none 1 n3 Tryz.runUnderlying125 Tryz.sizeOf60 ⟨by decide, rfl⟩ rfl om om) ?_
 refine wU [5, 6] ?_
 refine wO rfl ?_
 have d3 := Sat.nilc z2
 have e3 := OwnT.nil (enc := encRef) (E := 60) (sz := 2) fR
 refine sApp (nb := 16) d3 e3 0 (b3.rdAt 6 rfl) Tryz.underlying125 (i := Tryz.t60) kr fR ?_
 intro q0 r0 e1 _ f3 g3
 refine nilO ⟨trivial, ?_⟩
 refine wU [7] ?_
 refine wO rfl ?_
 refine tW g3 2 4 (.slice q0 (0 + (n3 - 1)) r0) Tryz.sizeOf125 ?_
 intro _ f1
 refine nilO ⟨trivial, ?_⟩
 refine wN ?_
 refine thenK_n <| sR <| pu1 ?_
 refine sIdxO hO3 0 0 Tryz.runUnderlying125 Tryz.sizeOf60 ?_
 intro f0 _ _ h3 i3 _
 refine sLpA f1 (i3.up 6 rfl) 0 [I f0.job, I f0.task] (Tryz.isAgg60 _) (Tryz.sizeOf60 _) ?_
 refine sT f1 1 0 (.agg #[I f0.job, I f0.task]) [I f0.job, I f0.task] #[I f0.job, I f0.task] Tryz.sizeOf60 ?_
 intro _ g1
 refine pu1 <| nT <| retE <| blockK_r <| thenK_r <| tR <| thenK_r <| retN (vs := [.agg #[I f0.job, I f0.task], .bool true]) rfl (.cons (.cell _ _ _ _ kr (lvA g1 1 0 [I f0.job, I f0.task] (Tryz.isAgg60 _) (Tryz.sizeOf60 _) rfl rfl rfl)) (.cons (.tmp _ _ kr) .nil)) ?_
 have j3 := ((g1.picks [5, 5, 5, 5]).drops [5, 5])
 have m3 : Sat W _ (([(p, .cells #[I S.cap, .slice a0 n0 k0, .slice a1 n1 k1, .slice a2 n2 k2, .slice q0 (0 + (n3 - 1)) r0] 158 (0, 0))] ++ (c0 ++ (c1 ++ (c2 ++ e1)))) :: H :: F) := Sat.perm (show Sat W _ ([(p, .cells #[I S.cap, .slice a0 n0 k0, .slice a1 n1 k1, .slice a2 n2 k2, .slice q0 (0 + (n3 - 1)) r0] 158 (0, 0))] :: c0 :: c1 :: c2 :: e1 :: H :: F) from j3) (by simp)
 have htp := tail_part hn3
 have hOt := f3; rw [htp] at hOt
 have hpb : popB S.bs = some (f0, [l0, l1, l2, l3.tail]) := by rw [hb, popB_nil om, popB_nil om, popB_nil om, popB_at h3]; rfl
 exact .inr ⟨_, _, _, hpb, rfl, ⟨_, _, _, _, _, _, _, _, _, _, _, _, _, _, _, _, _, _, _, _, rfl, hO0, hO1, hO2, hOt, rfl, hw1, (by have hlt := List.length_tail (l := l3); unfold totB; simp only [List.map_cons, List.map_nil, List.sum_cons, List.sum_nil]; omega)⟩, m3⟩
theorem iq_remove {p : Nat} {S : QS} {M : Chunk} (hR : InjR p S M) (j : Int) (hS : Sat W w (M :: H :: F)) :
  Calls Tryz.prog 74 #[Pt p 0, I j] w fun e w' => ∃ (M' : Chunk) (v : Int), e = .returned (I v) ∧ InjR p ({ S with bs := S.bs.map (without j) }) M' ∧ Sat W w' (M' :: H :: F) := by
 obtain ⟨a0, n0, k0, l0, c0, a1, n1, k1, l1, c1, a2, n2, k2, l2, c2, a3, n3, k3, l3, c3, rfl, hO0, hO1, hO2, hO3, hb, hw1, hw2⟩ := hR
 have hS : Sat W _ ([(p, .cells #[I S.cap, .slice a0 n0 k0, .slice a1 n1 k1, .slice a2 n2 k2, .slice a3 n3 k3] 158 (0, 0))] :: c0 :: c1 :: c2 :: c3 :: H :: F) := Sat.perm hS (by simp)
 have ht : totB S.bs = n0 + n1 + n2 + n3 := by rw [hb]; unfold totB; simp [hO0.len, hO1.len, hO2.len, hO3.len]; omega
 have hn0 := hO0.len; have hl0 := hO0.le; have hn1 := hO1.len; have hl1 := hO1.le; have hn2 := hO2.len; have hl2 := hO2.le; have hn3 := hO3.len; have hl3 := hO3.le
 refine callsA 34 Tryz.func74 rfl ?_
 refine sR <| pu1 <| nT <| sR <| pu1 ?_
 have g1 : Sat W _ (([(p, .cells #[I S.cap, .slice a0 n0 k0, .slice a1 n1 k1, .slice a2 n2 k2, .slice a3 n3 k3] 158 (0, 0))] ++ (c0 ++ (c1 ++ (c2 ++ c3)))) :: H :: F) := Sat.perm (show Sat W _ ([(p, .cells #[I S.cap, .slice a0 n0 k0, .slice a1 n1 k1, .slice a2 n2 k2, .slice a3 n3 k3] 158 (0, 0))] :: c0 :: c1 :: c2 :: c3 :: H :: F) from hS) (by simp)
 have g2 : totB [l0, l1, l2, l3] = ((n0 + n1 + n2 + n3 : Nat) : Int) := by unfold totB; simp only [List.map_cons, List.map_nil, List.sum_cons, List.sum_nil]; have h0 := (hO0).len; have h1 := (hO1).len; have h2 := (hO2).len; have h3 := (hO3).len; omega
 refine cX Tryz.call112 (iq_len (S := ⟨S.cap, [l0, l1, l2, l3]⟩) ⟨_, _, _, _, _, _, _, _, _, _, _, _, _, _, _, _, _, _, _, _, rfl, hO0, hO1, hO2, hO3, rfl, hw1, (by dsimp only; omega)⟩ (Sat.flat1 g1)) ?_
 rintro _ _ ⟨rfl, i1⟩
 have b1 : Sat W _ ([(p, .cells #[I S.cap, .slice a0 n0 k0, .slice a1 n1 k1, .slice a2 n2 k2, .slice a3 n3 k3] 158 (0, 0))] :: c0 :: c1 :: c2 :: c3 :: H :: F) := Sat.perm (Sat.unflat1 i1) (by simp [Value.cells])
 refine pu1 <| nT <| seqE <| sR <| pu1 <| nT <| blockE ?_
 refine loopN 5 ?_
 refine roundS ?_
 refine seqE <| sR <| pu6 <| nT <| cTt <| kT <| seqE <| blockE ?_
 refine drawE [9, 13] [(7, ⟨p, 1, none⟩, .slice a0 n0 k0)] [(true, [0, 1, 2, 3, 4, 5, 6, 8, 10, 11]), (true, [7]), (false, [9]), (true, [12]), (false, [13])] rfl kr ⟨.inr (b1.cell 0 rfl rfl), trivial⟩ ?_
 have j1 := b1.drew
 refine wU [0, 1, 2, 3, 4, 5, 6, 8, 10, 11] ?_
 refine wLd (.slice a0 n0 k0) 0 Tryz.isAgg125 ?_
 refine wO rfl ?_
 refine cX Tryz.call123 (r23_without a0 n0 k0 l0 j (RdT.flat (hO0.rdAt 1 (by rfl))) (od) (Sat.flat j1)) ?_
 rintro _ _ ⟨g0, b0, i0, s0, rfl, w0, m1⟩
 have o1 := Sat.unflat1 m1
 have hn_az_10 := w0.len; have hl_az_10 := w0.le
 have := without_len j l0
 refine nilO ⟨dA, ?_⟩
 refine wU [12] ?_
 refine wO rfl ?_
 refine tW o1 1 1 (.slice g0 b0 i0) Tryz.sizeOf125 ?_
 intro _ d1
 refine nilO ⟨dA, ?_⟩
 refine wN ?_
 refine blockK_n <| thenK_n <| regionE <| pu3 <| nT ?_
 refine roundS ?_
 refine seqE <| sR <| pu6 <| nT <| cTt <| kT <| seqE <| blockE ?_
 refine drawE [9, 13] [(7, ⟨p, 2, none⟩, .slice a1 n1 k1)] [(true, [0, 1, 2, 3, 4, 5, 6, 8, 10, 11]), (true, [7]), (false, [9]), (true, [12]), (false, [13])] rfl kr ⟨.inr (d1.cell 1 rfl rfl), trivial⟩ ?_
 have p1 := d1.drew
 refine wU [0, 1, 2, 3, 4, 5, 6, 8, 10, 11] ?_
 refine wLd (.slice a1 n1 k1) 0 Tryz.isAgg125 ?_
 refine wO rfl ?_
 refine cX Tryz.call123 (r23_without a1 n1 k1 l1 j (RdT.flat (hO1.rdAt 3 (by rfl))) (od) (Sat.flat p1)) ?_
 rintro _ _ ⟨j0, d0, m0, t0, rfl, x0, q1⟩
 have r1 := Sat.unflat1 q1
 have hn_az_21 := x0.len; have hl_az_21 := x0.le
 have := without_len j l1
 refine nilO ⟨dA, ?_⟩
 refine wU [12] ?_
 refine wO rfl ?_
 refine tW r1 2 2 (.slice j0 d0 m0) Tryz.sizeOf125 ?_
 intro _ e1
 refine nilO ⟨dA, ?_⟩
 refine wN ?_
 refine blockK_n <| thenK_n <| regionE <| pu3 <| nT ?_
 refine roundS ?_
 refine seqE <| sR <| pu6 <| nT <| cTt <| kT <| seqE <| blockE ?_
 refine drawE [9, 13] [(7, ⟨p, 3, none⟩, .slice a2 n2 k2)] [(true, [0, 1, 2, 3, 4, 5, 6, 8, 10, 11]), (true, [7]), (false, [9]), (true, [12]), (false, [13])] rfl kr ⟨.inr (e1.cell 2 rfl rfl), trivial⟩ ?_
 have s1 := e1.drew
 refine wU [0, 1, 2, 3, 4, 5, 6, 8, 10, 11] ?_
 refine wLd (.slice a2 n2 k2) 0 Tryz.isAgg125 ?_
 refine wO rfl ?_
 refine cX Tryz.call123 (r23_without a2 n2 k2 l2 j (RdT.flat (hO2.rdAt 5 (by rfl))) (od) (Sat.flat s1)) ?_
 rintro _ _ ⟨o0, e0, p0, u0, rfl, y0, t1⟩
 have u1 := Sat.unflat1 t1
 have hn_az_32 := y0.len; have hl_az_32 := y0.le
 have := without_len j l2
 refine nilO ⟨dA, ?_⟩
 refine wU [12] ?_
 refine wO rfl ?_
 refine tW u1 3 3 (.slice o0 e0 p0) Tryz.sizeOf125 ?_
 intro _ f1
 refine nilO ⟨dA, ?_⟩
 refine wN ?_
 refine blockK_n <| thenK_n <| regionE <| pu3 <| nT ?_
 refine roundS ?_
 refine seqE <| sR <| pu6 <| nT <| cTt <| kT <| seqE <| blockE ?_
 refine drawE [9, 13] [(7, ⟨p, 4, none⟩, .slice a3 n3 k3)] [(true, [0, 1, 2, 3, 4, 5, 6, 8, 10, 11]), (true, [7]), (false, [9]), (true, [12]), (false, [13])] rfl kr ⟨.inr (f1.cell 3 rfl rfl), trivial⟩ ?_
 have v1 := f1.drew
 refine wU [0, 1, 2, 3, 4, 5, 6, 8, 10, 11] ?_
 refine wLd (.slice a3 n3 k3) 0 Tryz.isAgg125 ?_
 refine wO rfl ?_
 refine cX Tryz.call123 (r23_without a3 n3 k3 l3 j (RdT.flat (hO3.rdAt 7 (by rfl))) (od) (Sat.flat v1)) ?_
 rintro _ _ ⟨q0, f0, r0, v0, rfl, z0, w1⟩
 have x1 := Sat.unflat1 w1
 have hn_az_43 := z0.len; have hl_az_43 := z0.le
 have := without_len j l3
 refine nilO ⟨dA, ?_⟩
 refine wU [12] ?_
 refine wO rfl ?_
 refine tW x1 4 4 (.slice q0 f0 r0) Tryz.sizeOf125 ?_
 intro _ y1
 refine nilO ⟨dA, ?_⟩
 refine wN ?_
 refine blockK_n <| thenK_n <| regionE <| pu3 <| nT ?_
 refine roundS ?_
 refine seqE <| sR <| pu6 <| nT <| cFf <| exitE <| xB <| thenK_n <| sR <| pu2 ?_
 have z1 := ((y1.picks [1, 2, 3, 4]).drops [5, 5, 5, 5])
 have b2 : Sat W _ (([(p, .cells #[I S.cap, .slice g0 b0 i0, .slice j0 d0 m0, .slice o0 e0 p0, .slice q0 f0 r0] 158 (0, 0))] ++ (s0 ++ (t0 ++ (u0 ++ v0)))) :: H :: F) := Sat.perm (show Sat W _ ([(p, .cells #[I S.cap, .slice g0 b0 i0, .slice j0 d0 m0, .slice o0 e0 p0, .slice q0 f0 r0] 158 (0, 0))] :: s0 :: t0 :: u0 :: v0 :: H :: F) from z1) (by simp)
 have u2 : totB [(without j l0), (without j l1), (without j l2), (without j l3)] = ((b0 + d0 + e0 + f0 : Nat) : Int) := by unfold totB; simp only [List.map_cons, List.map_nil, List.sum_cons, List.sum_nil]; have h0 := (OwnT.nil (enc := encRef) (E := 60) (sz := 2) fR).len; have h1 := (OwnT.nil (enc := encRef) (E := 60) (sz := 2) fR).len; have h2 := (OwnT.nil (enc := encRef) (E := 60) (sz := 2) fR).len; have h3 := (OwnT.nil (enc := encRef) (E := 60) (sz := 2) fR).len; omega
 refine cX Tryz.call112 (iq_len (S := ⟨S.cap, [(without j l0), (without j l1), (without j l2), (without j l3)]⟩) ⟨_, _, _, _, _, _, _, _, _, _, _, _, _, _, _, _, _, _, _, _, rfl, w0, x0, y0, z0, rfl, hw1, (by dsimp only; omega)⟩ (Sat.flat1 b2)) ?_
 rintro _ _ ⟨rfl, d2⟩
 have e2 : Sat W _ ([(p, .cells #[I S.cap, .slice g0 b0 i0, .slice j0 d0 m0, .slice o0 e0 p0, .slice q0 f0 r0] 158 (0, 0))] :: s0 :: t0 :: u0 :: v0 :: H :: F) := Sat.perm (Sat.unflat1 d2) (by simp [Value.cells])
 refine sSub (totB [l0, l1, l2, l3]) (totB [(without j l0), (without j l1), (without j l2), (without j l3)]) ?_
 refine pu1 <| nT <| retE <| retT [I ((totB [l0, l1, l2, l3]) - (totB [(without j l0), (without j l1), (without j l2), (without j l3)]))] ?_
 have f2 : Sat W _ (([(p, .cells #[I S.cap, .slice g0 b0 i0, .slice j0 d0 m0, .slice o0 e0 p0, .slice q0 f0 r0] 158 (0, 0))] ++ (s0 ++ (t0 ++ (u0 ++ v0)))) :: H :: F) := Sat.perm (show Sat W _ ([(p, .cells #[I S.cap, .slice g0 b0 i0, .slice j0 d0 m0, .slice o0 e0 p0, .slice q0 f0 r0] 158 (0, 0))] :: s0 :: t0 :: u0 :: v0 :: H :: F) from e2) (by simp)
 exact ⟨_, _, rfl, by rw [hb]; exact ⟨_, _, _, _, _, _, _, _, _, _, _, _, _, _, _, _, _, _, _, _, rfl, w0, x0, y0, z0, rfl, hw1, (by unfold totB; simp only [List.map_cons, List.map_nil, List.sum_cons, List.sum_nil]; omega)⟩, f2⟩
theorem r24_new {cs : List Chunk} (c : Int) (hc : 1 ≤ c ∧ c ≤ 4096) (hS : Sat W w cs) :
  Calls Tryz.prog 49 #[I c] w fun e w' => ∃ (p : Nat) (M : Chunk), e = .returned (.tuple #[Pt p 0, I 0]) ∧ InjR p ⟨c, [[], [], [], []]⟩ M ∧ Sat W w' (M :: cs) := by
 refine callsA 13 Tryz.func49 rfl ?_
 refine sR <| pu2 <| nT <| seqE <| sR <| pu3 ?_
 refine sD 6 (c < 1) (fun a0 => ?_) (fun a0 => ?_)
 ·refine pu3 <| nT <| cTt <| sR <| pu2 <| nT <| retE <| thenK_r <| retT [.pointer none, I 2] ?_
  omega
 refine pu3 <| nT ?_
 refine cD (c > 4096) (fun b0 => ?_) (fun b0 => ?_)
 ·refine sR <| pu2 <| nT <| retE <| thenK_r <| retT [.pointer none, I 2] ?_
  omega
 refine kT <| sR <| pu2 ?_
 refine sBox hS (.agg #[I c, .slice none 0 0, .slice none 0 0, .slice none 0 0, .slice none 0 0]) #[I c, .slice none 0 0, .slice none 0 0, .slice none 0 0, .slice none 0 0] ?_
 intro c0 _ d0
 refine pu2 <| nT <| retE <| retT [Pt c0 0, I 0] ?_
 exact ⟨_, _, rfl, ⟨_, _, _, [], [], _, _, _, [], [], _, _, _, [], [], _, _, _, [], [], rfl, OwnT.nil fR, OwnT.nil fR, OwnT.nil fR, OwnT.nil fR, rfl, hc, by unfold totB; simp; omega⟩, d0⟩
end Go.Proofs.YtegmennaekipaaaGreat

namespace Go.Proofs.YtegmennaekipaaaGreat
open Go Go.E
set_option linter.unusedVariables false
set_option linter.unusedSimpArgs false
set_option linter.unnecessarySimpa false
set_option maxRecDepth 100000
set_option maxHeartbeats 2000000
variable {W w : World} {H : Chunk} {F : List Chunk}
structure FJob where
  added : Bool
  running : Bool
  band : Int
  tasks : Sl Task
  board : Option Addr
def encFJob (x : FJob) : List Value := [.bool x.added, .bool x.running, .int .i64 x.band, .slice x.tasks.a x.tasks.n x.tasks.k, .pointer x.board]
structure FJobV where
  added : Bool
  running : Bool
  band : Int
  tasks : List TaskV
  board : Option Addr
  deriving DecidableEq
def FJob.v (x : FJob) : FJobV := ⟨x.added, x.running, x.band, x.tasks.l.map Task.v, x.board⟩
structure FJob.Ok (cs : List Chunk) (q : FJob) : Prop where
  tasks : RdT encTask 9 cs q.tasks.a q.tasks.n q.tasks.k q.tasks.l
  tasksD : ∀ z ∈ q.tasks.l, Task.Ok cs z
theorem FJob.Ok.of_mem {cs cs' : List Chunk} {x : FJob} (h : FJob.Ok cs x) (hm : ∀ p ∈ cs.flatten, p ∈ cs'.flatten) : FJob.Ok cs' x := ⟨h.tasks.of_mem hm, fun y hy => (h.tasksD y hy).of_mem hm⟩

/-! ### the reference's farm: its state and its memory -/
def encP (x : Nat) : List Value := [.pointer (some ⟨x, 0, none⟩)]
def JobM (x : FJob) (s : JS) (c : Chunk) : Prop :=
  (s = JS.zero ∧ x = ⟨false, false, 0, ⟨none, 0, 0, []⟩, none⟩ ∧ c = []) ∨
  (s.added = true ∧ ∃ (ta : Option Addr) (tn tk : Nat) (tl : List Task) (b : Nat) (T M : Chunk), x = ⟨true, s.running, s.band, ⟨ta, tn, tk, tl⟩, some ⟨b, 0, none⟩⟩ ∧ c = T ++ M ∧ RdT encTask 9 [T] ta tn tk tl ∧ (∀ z ∈ tl, Task.Ok [T] z) ∧ tl.map Task.v = s.tasks ∧ RefR b s.B M)
theorem JobM.open {x : FJob} {s : JS} {c : Chunk} (h : JobM x s c) (ha : s.added = true) : ∃ (ta : Option Addr) (tn tk : Nat) (tl : List Task) (b : Nat) (T M : Chunk), x = ⟨true, s.running, s.band, ⟨ta, tn, tk, tl⟩, some ⟨b, 0, none⟩⟩ ∧ c = T ++ M ∧ RdT encTask 9 [T] ta tn tk tl ∧ (∀ z ∈ tl, Task.Ok [T] z) ∧ tl.map Task.v = s.tasks ∧ RefR b s.B M := by
  rcases h with ⟨rfl, _⟩ | h
  · cases ha
  · exact h.2
theorem JobM.mk {s : JS} {ta : Option Addr} {tn tk : Nat} {tl : List Task} {b : Nat} {T M : Chunk} (ha : s.added = true) (hT : RdT encTask 9 [T] ta tn tk tl) (hD : ∀ z ∈ tl, Task.Ok [T] z) (hV : tl.map Task.v = s.tasks) (hB : RefR b s.B M) : JobM ⟨true, s.running, s.band, ⟨ta, tn, tk, tl⟩, some ⟨b, 0, none⟩⟩ s (T ++ M) :=
  .inr ⟨ha, _, _, _, _, _, _, _, rfl, rfl, hT, hD, hV, hB⟩
def preF (c : Cfg) (wa : Option Addr) (wn wk : Nat) (aa : Option Addr) (an ak : Nat) (da : Option Addr) (dn dk : Nat) (q : Nat) : List Value := [.int .i64 c.workers, .int .i64 c.tileW, .int .i64 c.tileH, .int .i64 c.arena, .int .i64 c.deque, .int .i64 c.tasks, .int .i64 c.cells, .int .i64 c.jobs, .slice wa wn wk, .slice aa an ak, .slice da dn dk, .pointer (some ⟨q, 0, none⟩)]
/-- The farm's memory as one piece. -/
def FarmR (p : Nat) (F : FS) (M : Chunk) : Prop := ∃ (wa aa da : Option Addr) (wn wk an ak dn dk q : Nat) (xs : List FJob) (ap dp : List Nat) (Wc Ac Dc Qc : Chunk) (acs dcs jcs : List Chunk),
  M = Tri p 102 (preF F.cfg wa wn wk aa an ak da dn dk q) (xs.flatMap encFJob) (encStt F.st) ++ (Wc ++ (Ac ++ (Dc ++ (acs.flatten ++ (dcs.flatten ++ (Qc ++ jcs.flatten)))))) ∧
  OwnT encWkr 69 7 wa wn wk F.ws Wc ∧ OwnT encP 103 1 aa an ak ap Ac ∧ OwnT encP 106 1 da dn dk dp Dc ∧ Obs ArR ap F.ar acs ∧ Obs DqR dp F.dq dcs ∧ InjR q F.q Qc ∧ Obs JobM xs F.jobs jcs ∧ xs.length = 64
theorem JobM.fields {x : FJob} {s : JS} {c : Chunk} (h : JobM x s c) : x.added = s.added ∧ x.running = s.running ∧ x.band = s.band ∧ x.tasks.n = s.tasks.length := by
  rcases h with ⟨rfl, rfl, _⟩ | ⟨ha, ta, tn, tk, tl, b, T, M, rfl, _, hT, _, hV, _⟩
  · exact ⟨rfl, rfl, rfl, rfl⟩
  · refine ⟨ha.symm, rfl, rfl, ?_⟩
    have h1 := congrArg List.length hV
    rw [List.length_map] at h1
    rw [← h1]; exact hT.len.symm
theorem f_idle {p q : Nat} {c : Cfg} {wa aa da : Option Addr} {wn wk an ak dn dk : Nat} {mid post : List Value} {ws : List Wkr} {ap : List Nat} {ar : List AS} {Wc Ac : Chunk} {acs F0 : List Chunk} (hOw : OwnT encWkr 69 7 wa wn wk ws Wc) (hOa : OwnT encP 103 1 aa an ak ap Ac) (hAs : Obs ArR ap ar acs) (x ph : Int) (hx : 0 ≤ x ∧ x < ws.length) (hal_ : ar.length = ws.length) (hS : Sat W w ((Tri p 102 (preF c wa wn wk aa an ak da dn dk q) mid post) :: Wc :: Ac :: acs.flatten :: F0)) :
  Calls Tryz.prog 70 #[Pt p 0, I x, I ph] w fun e w' => ∃ Wc' : Chunk, e = .returned (.tuple #[]) ∧ OwnT encWkr 69 7 wa wn wk (ws.set x.toNat ⟨ph, 0, 0, 0, 0, 0, (ar.getD x.toNat default).high⟩) Wc' ∧ Sat W w' ((Tri p 102 (preF c wa wn wk aa an ak da dn dk q) mid post) :: Wc' :: Ac :: acs.flatten :: F0) := by
 have hwl := hOw.len; have hwk := hOw.le; have hal := hOa.len; have hak := hOa.le; have has1 := hAs.1
 refine callsA 22 Tryz.func70 rfl ?_
 obtain ⟨d0, e0, f0, g0, h0, i0, b1⟩ := OwnT.elem hOa x
 obtain ⟨j0, k0, l0, m0, c1, n0, o0⟩ := OwnT.elem hOw x
 refine drawE [13, 16] [(3, ⟨p, 8, none⟩, .slice wa wn wk), (9, ⟨p, 9, none⟩, .slice aa an ak), (12, ⟨e0, f0 + (x).toNat * 1, none⟩, Pt d0 0)] [(true, [0, 1, 2, 4, 5, 6, 7, 8, 10]), (true, [3]), (true, [9]), (true, [11]), (true, [12]), (false, [13]), (true, [14]), (true, [15]), (false, [16])] rfl kr ⟨.inr (cell_up hS 0 rfl (k := 8) tri_pre rfl), .inr (cell_up hS 0 rfl (k := 9) tri_pre rfl), .inr ((h0.up 2 rfl).cell hS (k := 0) rfl), trivial⟩ ?_
 have p0 := hS.drew
 refine wU [0, 1, 2, 4, 5, 6, 7, 8, 10] ?_
 refine wLd (.slice wa wn wk) 0 Tryz.isAgg66 ?_
 refine wLd (.slice aa an ak) 1 Tryz.isAgg94 ?_
 refine wY (.pointer (some ⟨e0, f0 + (x).toNat * 1, none⟩)) rfl (fun w _ => Y_idx (a := aa) (i := x) (len := an) (cap := ak) rfl Tryz.runUnderlying94 Tryz.sizeOf103 kr kr i0) ?_
 refine wLd (Pt d0 0) 2 Tryz.isAgg103 ?_
 refine wO rfl ?_
 obtain ⟨b0, q0, r0, c0, s0⟩ := Obs.get hAs g0
 have t0 := (p0.pick 3 rfl)
 have u0 := Sat.openN (A := []) x.toNat c0 t0
 refine cX Tryz.call117 (ar_high s0  (Sat.flat1 u0)) ?_
 rintro _ _ ⟨rfl, v0⟩
 have w0 := Sat.unflat1 v0
 have x0 := (w0.picks [1, 1])
 have a0 := Sat.shutN (d := q0) (A := []) x.toNat c0 x0
 rw [set_same c0] at a0
 refine nilO ⟨⟨.inr (cell_up a0 1 rfl (k := 8) tri_pre rfl), .inr (cell_up a0 1 rfl (k := 9) tri_pre rfl), dI, trivial⟩, ?_⟩
 refine wU [14] ?_
 refine wY (.pointer (some ⟨k0, l0 + (x).toNat * 7, none⟩)) rfl (fun w _ => Y_idx (a := wa) (i := x) (len := wn) (cap := wk) rfl Tryz.runUnderlying66 Tryz.sizeOf69 kr kr n0) ?_
 refine wO rfl ?_
 refine sStF a0 hOw o0 2 (x).toNat 0 j0 (⟨ph, 0, 0, 0, 0, 0, (b0).high⟩ : Wkr) m0 (.agg #[I ph, I 0, I 0, I 0, I 0, I 0, I ((b0).high)]) [I ph, I 0, I 0, I 0, I 0, I 0, I ((b0).high)] Tryz.sizeOf69 ?_
 intro _ _ y0 z0
 refine nilO ⟨dA, ?_⟩
 refine wN ?_
 refine ret0n rfl ?_
 have a1 := (z0.picks [3, 3, 3])
 exact ⟨_, rfl, by rw [getD_some r0]; exact y0, a1⟩
theorem f_take {p : Nat} {F : FS} {M : Chunk} {F0 : List Chunk} (hR : FarmR p F M) {j : JS} {K : Int} (x : Int) (r : Ref) (hx : 0 ≤ x ∧ x < F.ws.length) (hal_ : F.ar.length = F.ws.length) (hr : 0 ≤ r.job ∧ r.job < 64) (hj : F.jobs[r.job.toNat]? = some j) (ha : j.added = true) (hBW : BWf j.B K) (hst : 0 ≤ F.st.starts ∧ F.st.starts < 4611686018427387904) (hS : Sat W w (M :: H :: F0)) :
  Calls Tryz.prog 139 #[Pt p 0, I x, .agg #[I r.job, I r.task]] w fun e w' => ∃ M' : Chunk, e = .returned (.tuple #[]) ∧ FarmR p (takeF F x r) M' ∧ Sat W w' (M' :: H :: F0) := by
 obtain ⟨wa, aa, da, wn, wk, an, ak, dn, dk, q, xs, ap, dp, Wc, Ac, Dc, Qc, acs, dcs, jcs, rfl, hOw, hOa, hOd, hAs, hDs, hQ, hJs, hxl⟩ := hR
 have hS : Sat W _ ((Tri p 102 (preF F.cfg wa wn wk aa an ak da dn dk q) (xs.flatMap encFJob) (encStt F.st)) :: Wc :: Ac :: Dc :: acs.flatten :: dcs.flatten :: Qc :: jcs.flatten :: H :: F0) := Sat.perm hS (by simp [Value.cells])
 have hwl := hOw.len; have hwk := hOw.le; have hal := hOa.len; have hak := hOa.le; have hdl := hOd.len; have hdk := hOd.le; have has1 := hAs.1; have hds1 := hDs.1; have hjs1 := hJs.1
 obtain ⟨g2, h0⟩ := at_some hxl (k := (r.job.toNat)) om
 obtain ⟨a0, h2, l0, m0, v0⟩ := Obs.get hJs h0
 obtain rfl : a0 = j := Option.some.inj (l0.symm.trans hj)
 obtain ⟨i2, j2, k2, l2, o0, e0, w0, rfl, rfl, i0, x0, p0, y0⟩ := v0.open ha
 have z0 := (hS.pick 7 rfl)
 have a1 := Sat.openN (A := []) (r.job.toNat) m0 z0
 have b1 : Sat W _ (e0 :: w0 :: (jcs.eraseIdx (r.job.toNat)).flatten :: (Tri p 102 (preF F.cfg wa wn wk aa an ak da dn dk q) (xs.flatMap encFJob) (encStt F.st)) :: Wc :: Ac :: Dc :: acs.flatten :: dcs.flatten :: Qc :: H :: F0) := Sat.perm a1 (by simp [Value.cells])
 have hn_ta_7 := i0.len; have hl_ta_7 := i0.le; have hm_ta_7 := congrArg List.length p0; rw [List.length_map] at hm_ta_7
 refine callsA 48 Tryz.func139 rfl ?_
 refine sR ?_
 refine sBox b1 (.agg #[I r.job, I r.task]) #[I r.job, I r.task] ?_
 intro c0 _ f0
 refine nT <| seqE ?_
 refine drawE [10] [(2, ⟨c0, 0, none⟩, I r.job), (7, ⟨p, 12 + (r.job.toNat) * 5 + 4, none⟩, Pt o0 0), (9, ⟨c0, 1, none⟩, I r.task)] [(true, [0, 1, 3, 4, 8]), (true, [2]), (true, [5]), (true, [6]), (true, [7]), (true, [9]), (false, [10]), (true, [11]), (true, [12]), (true, [13]), (true, [14, 15])] rfl kr ⟨.inr (f0.cell 0 rfl rfl), .inr (cell_up f0 4 rfl (k := 4) (tri_el (sz := 5) (n0 := 12) fR h0) rfl), .inr (f0.cell 0 rfl rfl), trivial⟩ ?_
 have c1 := f0.drew
 refine wU [0, 1, 3, 4, 8] ?_
 refine wLd (I r.job) 0 Tryz.isAgg3 ?_
 refine wY (.pointer (some ⟨p, 12 + (r.job.toNat) * 5, none⟩)) rfl (fun w _ => Y_idxA (b := p) (off := 12) r.job (r.job.toNat) Tryz.runUnderlying100 Tryz.sizeOf99) ?_
 refine wU [6] ?_
 refine wLd (Pt o0 0) 1 Tryz.isAgg97 ?_
 refine wLd (I r.task) 2 Tryz.isAgg3 ?_
 refine wO rfl ?_
 have d1 := (c1.pick 2 rfl)
 refine cX Tryz.call160 (r_start y0 hBW r.task (Sat.flat1 d1)) ?_
 rintro _ _ ⟨j0, rfl, e1, f1⟩
 have b0 := Sat.unflat1 f1
 refine nilO ⟨⟨.inr (b0.cell 1 rfl rfl), dI, dI, trivial⟩, ?_⟩
 refine wU [11] <| wU [12] <| wU [13] <| wU [14, 15] ?_
 refine wN ?_
 refine thenK_n <| seqE ?_
 obtain ⟨q0, r0, s0, g1, h1, i1, o2⟩ := OwnT.elem hOa x
 obtain ⟨j1, k1, l1, m1, p2, n1, o1⟩ := OwnT.elem hOw x
 refine drawE [14, 17] [(3, ⟨p, 8, none⟩, .slice wa wn wk), (5, ⟨c0, 0, none⟩, I r.job), (5, ⟨c0, 1, none⟩, I r.task), (10, ⟨p, 9, none⟩, .slice aa an ak), (13, ⟨r0, s0 + (x).toNat * 1, none⟩, Pt q0 0)] [(true, [0, 1, 2, 4, 6, 7, 8, 9, 11]), (true, [3]), (true, [5]), (true, [10]), (true, [12]), (true, [13]), (false, [14]), (true, [15]), (true, [16]), (false, [17])] rfl kr ⟨.inr (cell_up b0 4 rfl (k := 8) tri_pre rfl), .inr (b0.cell 1 rfl rfl), .inr (b0.cell 1 rfl rfl), .inr (cell_up b0 4 rfl (k := 9) tri_pre rfl), .inr ((h1.up 6 rfl).cell b0 (k := 0) rfl), trivial⟩ ?_
 have p1 := b0.drew
 refine wU [0, 1, 2, 4, 6, 7, 8, 9, 11] ?_
 refine wLd (.slice wa wn wk) 0 Tryz.isAgg66 ?_
 refine wY (.agg #[I r.job, I r.task]) rfl (fun w hF => Y_loadF rfl (Tryz.isAgg60 w) (Tryz.sizeOf60 w) kr rfl ⟨hF 1 _ _ rfl, hF 2 _ _ rfl, trivial⟩) ?_
 refine wLd (.slice aa an ak) 3 Tryz.isAgg94 ?_
 refine wY (.pointer (some ⟨r0, s0 + (x).toNat * 1, none⟩)) rfl (fun w _ => Y_idx (a := aa) (i := x) (len := an) (cap := ak) rfl Tryz.runUnderlying94 Tryz.sizeOf103 kr kr i1) ?_
 refine wLd (Pt q0 0) 4 Tryz.isAgg103 ?_
 refine wO rfl ?_
 obtain ⟨g0, q1, r1, k0, s1⟩ := Obs.get hAs g1
 have t1 := (p1.pick 8 rfl)
 have u1 := Sat.openN (A := []) x.toNat k0 t1
 refine cX Tryz.call117 (ar_high s1  (Sat.flat1 u1)) ?_
 rintro _ _ ⟨rfl, v1⟩
 have w1 := Sat.unflat1 v1
 have x1 := (w1.picks [1, 1])
 have d0 := Sat.shutN (d := q1) (A := []) x.toNat k0 x1
 rw [set_same k0] at d0
 refine nilO ⟨⟨.inr (cell_up d0 5 rfl (k := 8) tri_pre rfl), .inr (d0.cell 2 rfl rfl), .inr (d0.cell 2 rfl rfl), .inr (cell_up d0 5 rfl (k := 9) tri_pre rfl), dI, trivial⟩, ?_⟩
 refine wU [15] ?_
 refine wY (.pointer (some ⟨k1, l1 + (x).toNat * 7, none⟩)) rfl (fun w _ => Y_idx (a := wa) (i := x) (len := wn) (cap := wk) rfl Tryz.runUnderlying66 Tryz.sizeOf69 kr kr n1) ?_
 refine wO rfl ?_
 refine sStF d0 hOw o1 6 (x).toNat 0 j1 (⟨1, r.job, r.task, (startB a0.B r.task).2.1, 0, 0, (g0).high⟩ : Wkr) m1 (.agg #[I 1, I r.job, I r.task, I ((startB a0.B r.task).2.1), I 0, I 0, I ((g0).high)]) [I 1, I r.job, I r.task, I ((startB a0.B r.task).2.1), I 0, I 0, I ((g0).high)] Tryz.sizeOf69 ?_
 intro _ t0 y1 u0
 refine nilO ⟨dA, ?_⟩
 refine wN ?_
 refine thenK_n <| regionE <| pu4 ?_
 refine sLp u0 (ptr_up 5 rfl (tri_post (k := 332) (tri_len (sz := 5) (m := 12) fR hxl))) 0 (I F.st.starts) (Tryz.isAgg3 _) ?_
 refine sAdd F.st.starts 1 ?_
 refine pu3 ?_
 refine sTpost u0 5 332 0 rfl (I (F.st.starts + 1)) [I (F.st.starts + 1)] [I (F.st.starts + 1), I F.st.commits, I F.st.drops, I F.st.crashes, I F.st.steals, I F.st.helps, I F.st.spills, I F.st.queued, I F.st.held, I F.st.cells] (tri_len (sz := 5) (m := 12) fR hxl) Tryz.sizeOf3 ?_
 intro _ z1
 refine nilO ?_
 refine ret0n rfl ?_
 have a2 := (z1.picks [4, 2, 4])
 have b2 : Sat W _ ((e0 ++ j0) :: (jcs.eraseIdx (r.job.toNat)).flatten :: acs.flatten :: [(c0, .cells #[I r.job, I r.task] 60 (0, 0))] :: (Tri p 102 (preF F.cfg wa wn wk aa an ak da dn dk q) (xs.flatMap encFJob) [I (F.st.starts + 1), I F.st.commits, I F.st.drops, I F.st.crashes, I F.st.steals, I F.st.helps, I F.st.spills, I F.st.queued, I F.st.held, I F.st.cells]) :: t0 :: Ac :: Dc :: dcs.flatten :: Qc :: H :: F0) := Sat.perm (show Sat W _ (e0 :: j0 :: (jcs.eraseIdx (r.job.toNat)).flatten :: acs.flatten :: [(c0, .cells #[I r.job, I r.task] 60 (0, 0))] :: (Tri p 102 (preF F.cfg wa wn wk aa an ak da dn dk q) (xs.flatMap encFJob) [I (F.st.starts + 1), I F.st.commits, I F.st.drops, I F.st.crashes, I F.st.steals, I F.st.helps, I F.st.spills, I F.st.queued, I F.st.held, I F.st.cells]) :: t0 :: Ac :: Dc :: dcs.flatten :: Qc :: H :: F0) from a2) (by simp [Value.cells])
 have c2 := Sat.shutN (d := e0 ++ j0) (A := []) (r.job.toNat) m0 b2
 have d2 := Obs.set hJs h0 (JobM.mk (s := { a0 with B := (startB a0.B r.task).1 }) ha i0 x0 p0 e1)
 have e2 := ((c2.picks [8, 8, 3, 8, 8, 8, 8]).dropAt 8 rfl)
 have f2 := (e2.merge8)
 have he : takeF F x r = (⟨F.cfg, (F.ws.set ((x).toNat) (⟨1, r.job, r.task, (startB a0.B r.task).2.1, 0, 0, (g0).high⟩ : Wkr)), F.ar, F.dq, F.q, (F.jobs.set (r.job.toNat) ({ a0 with B := (startB a0.B r.task).1 })), (⟨(F.st.starts + 1), F.st.commits, F.st.drops, F.st.crashes, F.st.steals, F.st.helps, F.st.spills, F.st.queued, F.st.held, F.st.cells⟩ : Stt)⟩ : FS) := by unfold takeF jobAt; rw [getD_some l0, getD_some r1]
 exact ⟨_, rfl, by rw [he]; exact ⟨_, _, _, _, _, _, _, _, _, _, _, _, _, _, _, _, _, _, _, _, rfl, y1, hOa, hOd, hAs, hDs, hQ, d2, hxl⟩, f2⟩
theorem f_zero {p q : Nat} {c : Cfg} {wa aa da : Option Addr} {wn wk an ak dn dk : Nat} {mid post : List Value} {F0 : List Chunk} (h0 : 0 < wn ∧ wn ≤ 64) (hS : Sat W w ((Tri p 102 (preF c wa wn wk aa an ak da dn dk q) mid post) :: F0)) :
  Calls Tryz.prog 56 #[Pt p 0] w fun e w' => e = .returned (.bool false) ∧ Sat W w' ((Tri p 102 (preF c wa wn wk aa an ak da dn dk q) mid post) :: F0) := by
 refine callsA 13 Tryz.func56 rfl ?_
 refine sR <| pu1 <| nT <| sR <| pu6 <| gY ?_
 refine sLp hS (ptr_up 0 rfl tri_pre) 8 (.slice wa wn wk) (Tryz.isAgg66 _) ?_
 refine pu4 <| nT <| retE <| retT [.bool ((((wn : Nat) : Int) : Int) == 0)] ?_
 exact ⟨congrArg (fun b => Ending.returned (.bool b)) (by simp; omega), hS⟩
theorem f_choice {p q : Nat} {c : Cfg} {wa aa da : Option Addr} {wn wk an ak dn dk : Nat} {mid post : List Value} {F0 : List Chunk} (x i : Int) (n : Nat) (hn : n = wn) (h0 : 0 < wn ∧ wn ≤ 64) (hi : 0 ≤ i ∧ i ≤ 64) (hS : Sat W w ((Tri p 102 (preF c wa wn wk aa an ak da dn dk q) mid post) :: F0)) :
  Calls Tryz.prog 83 #[Pt p 0, I x, I i] w fun e w' => e = .returned (I (choiceI n x i)) ∧ Sat W w' ((Tri p 102 (preF c wa wn wk aa an ak da dn dk q) mid post) :: F0) := by
 have hq1 : -((wn : Nat) : Int) < x.tmod wn := Int.lt_tmod_of_pos _ om; have hq2 : x.tmod wn < ((wn : Nat) : Int) := Int.tmod_lt_of_pos _ om
 refine callsA 27 Tryz.func83 rfl ?_
 refine sR <| pu1 <| nT <| sR <| pu3 ?_
 refine sLp hS (ptr_up 0 rfl tri_pre) 8 (.slice wa wn wk) (Tryz.isAgg66 _) ?_
 refine pu2 <| nT <| sR <| pu2 ?_
 refine sRem x ((wn : Nat) : Int) ?_
 refine pu1 <| nT <| seqE <| sR <| pu2 <| nT ?_
 refine cD ((x.tmod ((wn : Nat) : Int)) < 0) (fun a0 => ?_) (fun a0 => ?_)
 rotate_left
 ·refine kT <| sR <| pu2 ?_
  refine sAdd (x.tmod ((wn : Nat) : Int)) i ?_
  refine pu1 ?_
  refine sRem ((x.tmod ((wn : Nat) : Int)) + i) ((wn : Nat) : Int) ?_
  refine pu1 <| nT <| retE <| retT [I (((x.tmod ((wn : Nat) : Int)) + i).tmod ((wn : Nat) : Int))] ?_
  exact ⟨congrArg (fun z => Ending.returned (I z)) (by unfold choiceI; rw [hn]; first | rw [if_pos om] | rw [if_neg om]), hS⟩
 refine regionE <| pu2 ?_
 refine sAdd (x.tmod ((wn : Nat) : Int)) ((wn : Nat) : Int) ?_
 refine pu1 <| nT <| sR <| pu2 ?_
 refine sAdd ((x.tmod ((wn : Nat) : Int)) + ((wn : Nat) : Int)) i ?_
 refine pu1 ?_
 refine sRem (((x.tmod ((wn : Nat) : Int)) + ((wn : Nat) : Int)) + i) ((wn : Nat) : Int) ?_
 refine pu1 <| nT <| retE <| retT [I ((((x.tmod ((wn : Nat) : Int)) + ((wn : Nat) : Int)) + i).tmod ((wn : Nat) : Int))] ?_
 exact ⟨congrArg (fun z => Ending.returned (I z)) (by unfold choiceI; rw [hn]; first | rw [if_pos om] | rw [if_neg om]), hS⟩
theorem f_load {p q : Nat} {c : Cfg} {wa aa da : Option Addr} {wn wk an ak dn dk : Nat} {post : List Value} {F0 : List Chunk} {xs : List FJob} {jobs : List JS} {jcs : List Chunk} (hJs : Obs JobM xs jobs jcs) (hxl : xs.length = 64) (hjt : ∀ j ∈ jobs, j.tasks.length ≤ 4096) (hS : Sat W w ((Tri p 102 (preF c wa wn wk aa an ak da dn dk q) (xs.flatMap encFJob) post) :: F0)) :
  Calls Tryz.prog 58 #[Pt p 0] w fun e w' => e = .returned (I (loadL jobs)) ∧ Sat W w' ((Tri p 102 (preF c wa wn wk aa an ak da dn dk q) (xs.flatMap encFJob) post) :: F0) := by
 have hjs1 := hJs.1
 refine callsA 27 Tryz.func58 rfl ?_
 refine sR <| pu1 <| nT <| sR <| pu1 <| nT <| seqE <| sR <| pu1 <| nT <| blockE ?_
 refine loopA (γ := Nat × Int) (fun ⟨i, ln⟩ => [(0, Pt p 0), (4, I ((i : Nat) : Int)), (3, I ln)]) (fun ⟨i, ln⟩ w => Sat W w ((Tri p 102 (preF c wa wn wk aa an ak da dn dk q) (xs.flatMap encFJob) post) :: F0) ∧ i ≤ 64 ∧ (ln = loadL (jobs.take i)) ∧ (0 ≤ ln ∧ ln ≤ 4096 * i)) (fun ⟨i, ln⟩ => 64 - i) (0, 0) ⟨hS, om, by simp [loadL], om⟩ ?_
 rintro ⟨i, ln⟩ ρ _ ⟨b0, hi, hln, hlb⟩
 refine seqE <| sR <| pu2 <| nT ?_
 refine cD (((i : Nat) : Int) < 64) (fun h0 => ?_) (fun h0 => ?_)
 rotate_left
 ·refine exitE <| xB <| thenK_n <| sR <| pu2 <| nT <| retE <| retT [I ln] ?_
  exact ⟨congrArg (fun z => Ending.returned (I z)) (by rw [hln, List.take_of_length_le om]), b0⟩
 refine kT <| seqE <| blockE <| sR <| pu4 ?_
 obtain ⟨a0, c0⟩ := at_some hxl (k := i) om
 obtain ⟨i0, m0, d0, o0, j0⟩ := Obs.get hJs c0; obtain ⟨p0, g0, q0, e0⟩ := j0.fields
 have k0 := hjt i0 (List.mem_of_getElem? d0); rw [← e0] at k0
 refine sIdxA (b := p) (off := 12) ((i : Nat) : Int) i Tryz.runUnderlying100 Tryz.sizeOf99 ?_
 refine pu1 ?_
 refine sLp b0 (ptr_up 0 rfl (tri_el (sz := 5) (n0 := 12) fR c0)) 1 (.bool a0.running) (Tryz.isAgg4 _) ?_
 refine nT ?_
 refine cB a0.running (fun f0 => ?_) (fun f0 => ?_)
 rotate_left
 ·refine skipE <| blockK_n <| thenK_n <| regionE <| pu1 ?_
  refine sAdd ((i : Nat) : Int) 1 ?_
  refine pu1 <| nT ?_
  exact ⟨(i + 1, ln), od, alA, b0, om, (by rw [loadL_take d0, ← hln, ← g0, ← e0]; simp [f0]), od⟩
 refine regionE <| pu5 ?_
 refine sIdxA (b := p) (off := 12) ((i : Nat) : Int) i Tryz.runUnderlying100 Tryz.sizeOf99 ?_
 refine pu1 ?_
 refine sLp b0 (ptr_up 0 rfl (tri_el (sz := 5) (n0 := 12) fR c0)) 3 (.slice a0.tasks.a a0.tasks.n a0.tasks.k) (Tryz.isAgg39 _) ?_
 refine pu1 ?_
 refine sAdd ln ((a0.tasks.n : Nat) : Int) ?_
 refine pu1 <| nB <| regionE <| pu1 ?_
 refine sAdd ((i : Nat) : Int) 1 ?_
 refine pu1 <| nT ?_
 exact ⟨(i + 1, (ln + ((a0.tasks.n : Nat) : Int))), od, alA, b0, om, (by rw [loadL_take d0, ← hln, ← g0, ← e0]; simp [f0]), od⟩
end Go.Proofs.YtegmennaekipaaaGreat
