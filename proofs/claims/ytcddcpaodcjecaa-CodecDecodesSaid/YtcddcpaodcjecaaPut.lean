import Derived.Test.YtcddcpaodcjecaaWr
namespace Go.Proofs.Ytcddcpaodcjecaa
open Go Go.E
set_option linter.unusedVariables false
set_option linter.unusedSimpArgs false
set_option linter.unnecessarySimpa false
set_option maxRecDepth 100000
set_option maxHeartbeats 2000000

-- squeezed
theorem flat_step {α : Type} {f : α → List Int} {l : List α} {i : Nat} {x : α} (hx : l[i]? = some x) : (l.take (i + 1)).flatMap f = (l.take i).flatMap f ++ f x := by
  rw [List.take_add_one, hx, Option.toList_some, List.flatMap_append]; simp
theorem flat_le {α : Type} {f : α → List Int} {l : List α} {i : Nat} {x : α} (hx : l[i]? = some x) : ((l.take i).flatMap f).length + (f x).length ≤ (l.flatMap f).length := by
  have h := congrArg List.length (flat_step (f := f) hx)
  have h2 : l.flatMap f = (l.take (i + 1)).flatMap f ++ (l.drop (i + 1)).flatMap f := by rw [← List.flatMap_append, List.take_append_drop]
  have h3 := congrArg List.length h2
  simp only [List.length_append] at h h3
  omega
theorem flat_all {α : Type} {f : α → List Int} {l : List α} {i : Nat} (hi : i = l.length) : (l.take i).flatMap f = l.flatMap f := by subst hi; rw [List.take_length]
/-- What the reference has written of the numbers L: all, or too much already. -/
def Enc (bs L : List Int) : Prop := bs = [84, 70, 1] ++ bytesOf L ∨ (262144 < bs.length ∧ bs.length ≤ 3 + 8 * L.length)
theorem Enc.app {bs L : List Int} (h : Enc bs L) (M : List Int) : Enc (bs ++ bytesOf M) (L ++ M) := by
  rcases h with h | ⟨h1, h2⟩
  · left; rw [h, bytesOf_app]; simp
  · right; simp only [List.length_append, bytesOf_len]; omega
theorem Enc.more {bs L : List Int} (h : 262144 < bs.length) (h2 : bs.length ≤ 3 + 8 * L.length) : Enc bs L := .inr ⟨h, h2⟩
theorem Enc.le {bs L : List Int} (h : Enc bs L) : bs.length ≤ 3 + 8 * L.length := by
  rcases h with h | h
  · rw [h]; simp [bytesOf_len]; omega
  · exact h.2
theorem nTap_len (t : Tap) : (nTap t.v).length = 2 + t.weights.l.length := by simp [nTap, nInts, Tap.v]; omega
theorem nPlane_len (t : Plane) : (nPlane t.v).length = 4 + t.pix.l.length := by simp [nPlane, nInts, Plane.v]; omega
theorem nOps_len (l : List POp) : (l.flatMap nOp).length = 2 * l.length := by
  induction l with
  | nil => rfl
  | cons x l ih => simp [nOp, ih]; omega
theorem nStage_len (q : Stage) : (nStage q.v).length = 16 + q.weights.l.length + q.row.l.length + q.col.l.length + (nTaps (q.x.l.map Tap.v)).length + (nTaps (q.y.l.map Tap.v)).length + (q.ops.l.flatMap nOp).length := by
  simp only [nStage, nInts, nOps, Stage.v, List.length_append, List.length_cons, List.length_nil]; omega
theorem nJob_len (j : Job) : (nJob j.v).length = 4 + (j.inputs.l.flatMap (fun x => nPlane x.v)).length + (j.stages.l.flatMap (fun x => nStage x.v)).length + j.outputs.l.length := by
  simp only [nJob, nInts, Job.v, List.length_append, List.length_cons, List.length_nil, List.flatMap_map]; omega
theorem flat_take_le {α : Type} {f : α → List Int} (l : List α) (i : Nat) : ((l.take i).flatMap f).length ≤ (l.flatMap f).length := by
  conv => rhs; rw [← List.take_append_drop i l, List.flatMap_append, List.length_append]
  omega
theorem bytesOf_one (x : Int) : bytesOf [x] = be8 x := by simp [bytesOf]
theorem ref_put (W w : World) (H : Chunk) (F : List Chunk) (a : Option Addr) (n k : Nat) (c : Chunk) (bs : List Int) (hO : OwnT encB 5 1 a n k bs c) (x : Int) (hb : n + 8 ≤ 1099511627776) (hS : Sat W w (c :: H :: F)) :
  Calls Try.prog 35 #[.slice a n k, I x] w fun e w' => ∃ (a' : Option Addr) (n' k' : Nat) (c' : Chunk), e = .returned (.slice a' n' k') ∧ n' = n + 8 ∧ OwnT encB 5 1 a' n' k' (bs ++ bytesOf ([x])) c' ∧ Sat W w' (c' :: H :: F) := by
 have hbl := hO.len
 refine callsE (n := 22) Try.func35 rfl rfl (Nat.le_of_ble_eq_true rfl) ?_
 refine sR <| pu1 <| nT <| sR <| pu1 ?_
 refine stepY (.int .u64 (x % 18446744073709551616)) rfl rfl (Y_conv (k := .i64) (a := x) Try.underlying3 Try.underlying95 (wrap_u64 _) rfl kr) ?_
 refine pu1 <| nT <| seqE <| sR <| pu1 <| nT <| blockE ?_
 refine loopN 9 ?_
 refine roundS ?_
 refine seqE <| sR <| pu2 <| nT <| cTt <| kT <| seqE <| blockE <| regionE <| pu3 ?_
 refine stepY (.int .u64 56) rfl rfl (Y_conv (k := .i64) (a := 56) Try.underlying3 Try.underlying98 (by decide) rfl kr) ?_
 refine stepY (.int .u64 ((x % 18446744073709551616) / 72057594037927936)) rfl rfl (Y_shr .u64 .u64 (x % 18446744073709551616) 56 72057594037927936 rfl kr kr (by decide) (by decide)) ?_
 refine stepY (.int .u8 (((x % 18446744073709551616) / 72057594037927936) % 256)) rfl rfl (Y_conv (k := .u64) (a := ((x % 18446744073709551616) / 72057594037927936)) Try.underlying95 Try.underlying5 (wrap_u8 _) rfl kr) ?_
 refine sBS hS #[.int .u8 (((x % 18446744073709551616) / 72057594037927936) % 256)] Try.runUnderlying31 Try.sizeOf5 Try.zeroValue5 ?_
 intro _ _ k0
 refine sApp (nb := 1) k0 hO 1 (RdT.blk (enc := encB) (sz := 1) (xs := [(((x % 18446744073709551616) / 72057594037927936) % 256)]) fR 1 0 rfl rfl rfl om) Try.underlying31 (i := Try.t5) kr fR ?_
 intro _ _ _ _ l0 a0
 try dsimp only [List.set, List.eraseIdx, Value.cells] at a0
 refine pu1 <| nB <| regionE <| pu3 <| nT ?_
 refine roundS ?_
 refine seqE <| sR <| pu2 <| nT <| cTt <| kT <| seqE <| blockE <| regionE <| pu3 ?_
 refine stepY (.int .u64 48) rfl rfl (Y_conv (k := .i64) (a := 48) Try.underlying3 Try.underlying98 (by decide) rfl kr) ?_
 refine stepY (.int .u64 ((x % 18446744073709551616) / 281474976710656)) rfl rfl (Y_shr .u64 .u64 (x % 18446744073709551616) 48 281474976710656 rfl kr kr (by decide) (by decide)) ?_
 refine stepY (.int .u8 (((x % 18446744073709551616) / 281474976710656) % 256)) rfl rfl (Y_conv (k := .u64) (a := ((x % 18446744073709551616) / 281474976710656)) Try.underlying95 Try.underlying5 (wrap_u8 _) rfl kr) ?_
 refine sBS a0 #[.int .u8 (((x % 18446744073709551616) / 281474976710656) % 256)] Try.runUnderlying31 Try.sizeOf5 Try.zeroValue5 ?_
 intro _ _ m0
 refine sApp (nb := 1) m0 l0 2 (RdT.blk (enc := encB) (sz := 1) (xs := [(((x % 18446744073709551616) / 281474976710656) % 256)]) fR 1 0 rfl rfl rfl om) Try.underlying31 (i := Try.t5) kr fR ?_
 intro _ _ _ _ n0 b0
 try dsimp only [List.set, List.eraseIdx, Value.cells] at b0
 refine pu1 <| nB <| regionE <| pu3 <| nT ?_
 refine roundS ?_
 refine seqE <| sR <| pu2 <| nT <| cTt <| kT <| seqE <| blockE <| regionE <| pu3 ?_
 refine stepY (.int .u64 40) rfl rfl (Y_conv (k := .i64) (a := 40) Try.underlying3 Try.underlying98 (by decide) rfl kr) ?_
 refine stepY (.int .u64 ((x % 18446744073709551616) / 1099511627776)) rfl rfl (Y_shr .u64 .u64 (x % 18446744073709551616) 40 1099511627776 rfl kr kr (by decide) (by decide)) ?_
 refine stepY (.int .u8 (((x % 18446744073709551616) / 1099511627776) % 256)) rfl rfl (Y_conv (k := .u64) (a := ((x % 18446744073709551616) / 1099511627776)) Try.underlying95 Try.underlying5 (wrap_u8 _) rfl kr) ?_
 refine sBS b0 #[.int .u8 (((x % 18446744073709551616) / 1099511627776) % 256)] Try.runUnderlying31 Try.sizeOf5 Try.zeroValue5 ?_
 intro _ _ o0
 refine sApp (nb := 1) o0 n0 3 (RdT.blk (enc := encB) (sz := 1) (xs := [(((x % 18446744073709551616) / 1099511627776) % 256)]) fR 1 0 rfl rfl rfl om) Try.underlying31 (i := Try.t5) kr fR ?_
 intro _ _ _ _ p0 c0
 try dsimp only [List.set, List.eraseIdx, Value.cells] at c0
 refine pu1 <| nB <| regionE <| pu3 <| nT ?_
 refine roundS ?_
 refine seqE <| sR <| pu2 <| nT <| cTt <| kT <| seqE <| blockE <| regionE <| pu3 ?_
 refine stepY (.int .u64 32) rfl rfl (Y_conv (k := .i64) (a := 32) Try.underlying3 Try.underlying98 (by decide) rfl kr) ?_
 refine stepY (.int .u64 ((x % 18446744073709551616) / 4294967296)) rfl rfl (Y_shr .u64 .u64 (x % 18446744073709551616) 32 4294967296 rfl kr kr (by decide) (by decide)) ?_
 refine stepY (.int .u8 (((x % 18446744073709551616) / 4294967296) % 256)) rfl rfl (Y_conv (k := .u64) (a := ((x % 18446744073709551616) / 4294967296)) Try.underlying95 Try.underlying5 (wrap_u8 _) rfl kr) ?_
 refine sBS c0 #[.int .u8 (((x % 18446744073709551616) / 4294967296) % 256)] Try.runUnderlying31 Try.sizeOf5 Try.zeroValue5 ?_
 intro _ _ q0
 refine sApp (nb := 1) q0 p0 4 (RdT.blk (enc := encB) (sz := 1) (xs := [(((x % 18446744073709551616) / 4294967296) % 256)]) fR 1 0 rfl rfl rfl om) Try.underlying31 (i := Try.t5) kr fR ?_
 intro _ _ _ _ r0 d0
 try dsimp only [List.set, List.eraseIdx, Value.cells] at d0
 refine pu1 <| nB <| regionE <| pu3 <| nT ?_
 refine roundS ?_
 refine seqE <| sR <| pu2 <| nT <| cTt <| kT <| seqE <| blockE <| regionE <| pu3 ?_
 refine stepY (.int .u64 24) rfl rfl (Y_conv (k := .i64) (a := 24) Try.underlying3 Try.underlying98 (by decide) rfl kr) ?_
 refine stepY (.int .u64 ((x % 18446744073709551616) / 16777216)) rfl rfl (Y_shr .u64 .u64 (x % 18446744073709551616) 24 16777216 rfl kr kr (by decide) (by decide)) ?_
 refine stepY (.int .u8 (((x % 18446744073709551616) / 16777216) % 256)) rfl rfl (Y_conv (k := .u64) (a := ((x % 18446744073709551616) / 16777216)) Try.underlying95 Try.underlying5 (wrap_u8 _) rfl kr) ?_
 refine sBS d0 #[.int .u8 (((x % 18446744073709551616) / 16777216) % 256)] Try.runUnderlying31 Try.sizeOf5 Try.zeroValue5 ?_
 intro _ _ s0
 refine sApp (nb := 1) s0 r0 5 (RdT.blk (enc := encB) (sz := 1) (xs := [(((x % 18446744073709551616) / 16777216) % 256)]) fR 1 0 rfl rfl rfl om) Try.underlying31 (i := Try.t5) kr fR ?_
 intro _ _ _ _ t0 e0
 try dsimp only [List.set, List.eraseIdx, Value.cells] at e0
 refine pu1 <| nB <| regionE <| pu3 <| nT ?_
 refine roundS ?_
 refine seqE <| sR <| pu2 <| nT <| cTt <| kT <| seqE <| blockE <| regionE <| pu3 ?_
 refine stepY (.int .u64 16) rfl rfl (Y_conv (k := .i64) (a := 16) Try.underlying3 Try.underlying98 (by decide) rfl kr) ?_
 refine stepY (.int .u64 ((x % 18446744073709551616) / 65536)) rfl rfl (Y_shr .u64 .u64 (x % 18446744073709551616) 16 65536 rfl kr kr (by decide) (by decide)) ?_
 refine stepY (.int .u8 (((x % 18446744073709551616) / 65536) % 256)) rfl rfl (Y_conv (k := .u64) (a := ((x % 18446744073709551616) / 65536)) Try.underlying95 Try.underlying5 (wrap_u8 _) rfl kr) ?_
 refine sBS e0 #[.int .u8 (((x % 18446744073709551616) / 65536) % 256)] Try.runUnderlying31 Try.sizeOf5 Try.zeroValue5 ?_
 intro _ _ u0
 refine sApp (nb := 1) u0 t0 6 (RdT.blk (enc := encB) (sz := 1) (xs := [(((x % 18446744073709551616) / 65536) % 256)]) fR 1 0 rfl rfl rfl om) Try.underlying31 (i := Try.t5) kr fR ?_
 intro _ _ _ _ v0 f0
 try dsimp only [List.set, List.eraseIdx, Value.cells] at f0
 refine pu1 <| nB <| regionE <| pu3 <| nT ?_
 refine roundS ?_
 refine seqE <| sR <| pu2 <| nT <| cTt <| kT <| seqE <| blockE <| regionE <| pu3 ?_
 refine stepY (.int .u64 8) rfl rfl (Y_conv (k := .i64) (a := 8) Try.underlying3 Try.underlying98 (by decide) rfl kr) ?_
 refine stepY (.int .u64 ((x % 18446744073709551616) / 256)) rfl rfl (Y_shr .u64 .u64 (x % 18446744073709551616) 8 256 rfl kr kr (by decide) (by decide)) ?_
 refine stepY (.int .u8 (((x % 18446744073709551616) / 256) % 256)) rfl rfl (Y_conv (k := .u64) (a := ((x % 18446744073709551616) / 256)) Try.underlying95 Try.underlying5 (wrap_u8 _) rfl kr) ?_
 refine sBS f0 #[.int .u8 (((x % 18446744073709551616) / 256) % 256)] Try.runUnderlying31 Try.sizeOf5 Try.zeroValue5 ?_
 intro _ _ w0
 refine sApp (nb := 1) w0 v0 7 (RdT.blk (enc := encB) (sz := 1) (xs := [(((x % 18446744073709551616) / 256) % 256)]) fR 1 0 rfl rfl rfl om) Try.underlying31 (i := Try.t5) kr fR ?_
 intro _ _ _ _ x0 g0
 try dsimp only [List.set, List.eraseIdx, Value.cells] at g0
 refine pu1 <| nB <| regionE <| pu3 <| nT ?_
 refine roundS ?_
 refine seqE <| sR <| pu2 <| nT <| cTt <| kT <| seqE <| blockE <| regionE <| pu3 ?_
 refine stepY (.int .u64 0) rfl rfl (Y_conv (k := .i64) (a := 0) Try.underlying3 Try.underlying98 (by decide) rfl kr) ?_
 refine stepY (.int .u64 ((x % 18446744073709551616) / 1)) rfl rfl (Y_shr .u64 .u64 (x % 18446744073709551616) 0 1 rfl kr kr (by decide) (by decide)) ?_
 refine stepY (.int .u8 (((x % 18446744073709551616) / 1) % 256)) rfl rfl (Y_conv (k := .u64) (a := ((x % 18446744073709551616) / 1)) Try.underlying95 Try.underlying5 (wrap_u8 _) rfl kr) ?_
 refine sBS g0 #[.int .u8 (((x % 18446744073709551616) / 1) % 256)] Try.runUnderlying31 Try.sizeOf5 Try.zeroValue5 ?_
 intro _ _ y0
 refine sApp (nb := 1) y0 x0 8 (RdT.blk (enc := encB) (sz := 1) (xs := [(((x % 18446744073709551616) / 1) % 256)]) fR 1 0 rfl rfl rfl om) Try.underlying31 (i := Try.t5) kr fR ?_
 intro h0 z0 a1 _ b1 i0
 try dsimp only [List.set, List.eraseIdx, Value.cells] at i0
 refine pu1 <| nB <| regionE <| pu3 <| nT ?_
 refine roundS ?_
 refine seqE <| sR <| pu2 <| nT <| cFf ?_
 refine exitE (xB <| ?_)
 refine thenK_n <| sR <| pu2 <| nT <| retE <| retT [.slice h0 ((((((((n + 1) + 1) + 1) + 1) + 1) + 1) + 1) + 1) z0] ?_
 have j0 := ((((((((((i0.pick 9 rfl).pick 9 rfl).dropAt 2 rfl).dropAt 2 rfl).dropAt 2 rfl).dropAt 2 rfl).dropAt 2 rfl).dropAt 2 rfl).dropAt 2 rfl).dropAt 2 rfl)
 change Sat _ _ (a1 :: H :: F) at j0
 refine ⟨h0, _, _, _, rfl, rfl, ?_, j0⟩
 have e := b1
 rw [bytesOf_one]; simpa only [be8, List.append_assoc, List.cons_append, List.nil_append] using e
theorem ref_puts (W w : World) (H : Chunk) (F : List Chunk) (a : Option Addr) (n k : Nat) (c : Chunk) (bs : List Int) (hO : OwnT encB 5 1 a n k bs c) (la : Option Addr) (ln lk : Nat) (l : List Int) (hR : RdT encI 1 [H] la ln lk l) (hb : n + 8 * (ln + 1) ≤ 1099511627776) (hS : Sat W w (c :: H :: F)) :
  Calls Try.prog 36 #[.slice a n k, .slice la ln lk] w fun e w' => ∃ (a' : Option Addr) (n' k' : Nat) (c' : Chunk), e = .returned (.slice a' n' k') ∧ n' = n + 8 * (ln + 1) ∧ OwnT encB 5 1 a' n' k' (bs ++ bytesOf (nInts l)) c' ∧ Sat W w' (c' :: H :: F) := by
 have hbl := hO.len
 have hle := hR.le; have hll := hR.len
 refine callsE (n := 23) Try.func36 rfl rfl (Nat.le_of_ble_eq_true rfl) ?_
 refine sR <| pu1 <| nT <| sR <| pu3 ?_
 have h0 := ((hS.pick 1 rfl).pick 1 rfl)
 change Sat _ _ (c :: H :: F) at h0
 refine sF #[.slice a n k, I ((ln : Nat) : Int)] Try.call35 (Calls.mono (ref_put W _ _ _ _ _ _ _ _ hO ((ln : Nat) : Int) om h0) ?_)
 rintro _ _ ⟨s0, i0, t0, e0, rfl, _, b0, j0⟩
 refine ⟨_, rfl, ?_⟩
 generalize u0 : bs ++ bytesOf ([((ln : Nat) : Int)]) = k0 at b0
 have c1 := b0.len
 change Sat _ _ (e0 :: H :: F) at j0
 refine pu1 <| nT <| seqE <| sR <| pu1 <| nT <| blockE ?_
 have l0 := ((j0.pick 1 rfl).pick 1 rfl)
 change Sat _ _ (e0 :: H :: F) at l0
 refine loopE (γ := Nat × (Option Addr) × Nat × Nat × Chunk × (List Int)) (fun ⟨i, a', n', k', c', bs'⟩ ρ w => AllAt ρ [(1, .slice la ln lk), (0, .slice a' n' k'), (5, I ((i : Nat) : Int))] ∧ Sat W w (c' :: H :: F) ∧ i ≤ ln ∧ bs' = k0 ++ bytesOf ((l.take i).flatMap (fun x => [x])) ∧ OwnT encB 5 1 a' n' k' bs' c' ∧ bs'.length = n' ∧ n' = i0 + 8 * ((l.take i).flatMap (fun x => [x])).length) (fun ⟨i, a', n', k', c', bs'⟩ => ln - i) (0, s0, i0, t0, e0, k0) ⟨alA, l0, Nat.zero_le _, by simp [bytesOf], b0, b0.len, by simp⟩ ?_
 skip
 rintro ⟨i, a', n', k', c', bs'⟩ ρ _ ⟨hA, f0, hi, hp, hO', hbl', hn'⟩
 refine cAnchor hA (fun ρ => ?_)
 clear hA
 refine seqE <| sR <| pu4 <| nT ?_
 by_cases m0 : (((i : Nat) : Int) : Int) < ((ln : Nat) : Int)
 rotate_left
 ·refine cF _ (decide_eq_false m0) ?_
  refine exitE (xB <| ?_)
  refine thenK_n <| sR <| pu2 <| nT <| retE <| retT [.slice a' n' k'] ?_
  have n0 := ((f0.pick 1 rfl).pick 1 rfl)
  change Sat _ _ (c' :: H :: F) at n0
  have hfin := flat_all (f := (fun x => [x])) (l := l) (i := i) om
  rw [hfin] at hp hn'
  subst u0
  have hM : bs' = bs ++ bytesOf (nInts l) := by rw [hp]; rw [flat_one, ← hll]; simp [nInts, bytesOf]
  subst hM
  have hnn : n' = n + 8 * (ln + 1) := by rw [flat_one] at hn'; omega
  exact ⟨_, _, _, _, rfl, hnn, hO', n0⟩
 refine cT _ (decide_eq_true m0) ?_
 refine kT <| seqE <| blockE ?_
 have htk : ((l.take i).flatMap (fun x => [x])).length = i := by rw [flat_one]; simp; omega
 refine regionE <| pu3 ?_
 refine sIdx hR ((i : Nat) : Int) Try.runUnderlying22 Try.sizeOf3 ?_
 intro a0 _ _ c0 v0
 rw [Int.toNat_natCast] at c0
 have hfl_x_17 := flat_le (f := (fun x => [x])) c0
 have hlx_x_17 : [a0].length = 1 := rfl
 refine sLp f0 (v0.up 1 rfl) 0 (I a0) (Try.isAgg3 _) ?_
 have o0 := ((f0.pick 1 rfl).pick 1 rfl)
 change Sat _ _ (c' :: H :: F) at o0
 refine sF #[.slice a' n' k', I a0] Try.call35 (Calls.mono (ref_put W _ _ _ _ _ _ _ _ hO' a0 om o0) ?_)
 rintro _ _ ⟨w0, x0, y0, g0, rfl, _, d0, p0⟩
 refine ⟨_, rfl, ?_⟩
 generalize z0 : bs' ++ bytesOf ([a0]) = q0 at d0
 have i1 := d0.len
 change Sat _ _ (g0 :: H :: F) at p0
 refine pu1 <| nB <| regionE <| pu1 ?_
 refine sAdd ((i : Nat) : Int) 1 ?_
 refine pu1 <| nT ?_
 have r0 := ((p0.pick 1 rfl).pick 1 rfl)
 change Sat _ _ (g0 :: H :: F) at r0
 have hstep : q0 = bs' ++ bytesOf ((fun x => [x]) a0) := by subst z0; first | rfl | (simp only [bytesOf_one, bytesOf_app, bytesOf_cons, nTap, nOp, nPlane, nInts, List.append_assoc, List.cons_append, List.nil_append]; done) | (simp [bytesOf, nTap, nOp, nPlane, nInts, Plane.v, Tap.v]; done)
 have hfs := congrArg List.length (flat_step (f := (fun x => [x])) c0)
 rw [List.length_append] at hfs
 have hlb := congrArg List.length hstep; rw [List.length_append, bytesOf_len] at hlb
 have hll2 := d0.len
 exact ⟨(i + 1, w0, x0, y0, g0, q0), by dsimp only; omega, alA, r0, om, by rw [hstep, hp, flat_step c0, bytesOf_app, List.append_assoc], d0, hll2, om⟩
theorem ref_taps (W w : World) (H : Chunk) (F : List Chunk) (a : Option Addr) (n k : Nat) (c : Chunk) (bs : List Int) (hO : OwnT encB 5 1 a n k bs c) (la : Option Addr) (ln lk : Nat) (l : List Tap) (hR : RdT encTap 2 [H] la ln lk l) (hD : ∀ z ∈ l, Tap.Ok [H] z) (hb : n + 8 * (nTaps (l.map Tap.v)).length ≤ 1099511627776) (hS : Sat W w (c :: H :: F)) :
  Calls Try.prog 48 #[.slice a n k, .slice la ln lk] w fun e w' => ∃ (a' : Option Addr) (n' k' : Nat) (c' : Chunk), e = .returned (.slice a' n' k') ∧ n' = n + 8 * (nTaps (l.map Tap.v)).length ∧ OwnT encB 5 1 a' n' k' (bs ++ bytesOf (nTaps (l.map Tap.v))) c' ∧ Sat W w' (c' :: H :: F) := by
 have hbl := hO.len
 have hle := hR.le; have hll := hR.len
 have hnt : (nTaps (l.map Tap.v)).length = 1 + (l.flatMap (fun x => nTap x.v)).length := by simp [nTaps, List.flatMap_map]; omega
 refine callsE (n := 30) Try.func48 rfl rfl (Nat.le_of_ble_eq_true rfl) ?_
 refine sR <| pu1 <| nT <| sR <| pu3 ?_
 have m0 := ((hS.pick 1 rfl).pick 1 rfl)
 change Sat _ _ (c :: H :: F) at m0
 refine sF #[.slice a n k, I ((ln : Nat) : Int)] Try.call35 (Calls.mono (ref_put W _ _ _ _ _ _ _ _ hO ((ln : Nat) : Int) om m0) ?_)
 rintro _ _ ⟨a1, n0, b1, h0, rfl, _, c0, o0⟩
 refine ⟨_, rfl, ?_⟩
 generalize c1 : bs ++ bytesOf ([((ln : Nat) : Int)]) = p0 at c0
 have p1 := c0.len
 change Sat _ _ (h0 :: H :: F) at o0
 refine pu1 <| nT <| seqE <| sR <| pu1 <| nT <| blockE ?_
 have q0 := ((o0.pick 1 rfl).pick 1 rfl)
 change Sat _ _ (h0 :: H :: F) at q0
 refine loopE (γ := Nat × (Option Addr) × Nat × Nat × Chunk × (List Int)) (fun ⟨i, a', n', k', c', bs'⟩ ρ w => AllAt ρ [(1, .slice la ln lk), (0, .slice a' n' k'), (5, I ((i : Nat) : Int))] ∧ Sat W w (c' :: H :: F) ∧ i ≤ ln ∧ bs' = p0 ++ bytesOf ((l.take i).flatMap (fun x => nTap x.v)) ∧ OwnT encB 5 1 a' n' k' bs' c' ∧ bs'.length = n' ∧ n' = n0 + 8 * ((l.take i).flatMap (fun x => nTap x.v)).length) (fun ⟨i, a', n', k', c', bs'⟩ => ln - i) (0, a1, n0, b1, h0, p0) ⟨alA, q0, Nat.zero_le _, by simp [bytesOf], c0, c0.len, by simp⟩ ?_
 skip
 rintro ⟨i, a', n', k', c', bs'⟩ ρ _ ⟨hA, d0, hi, hp, hO', hbl', hn'⟩
 refine cAnchor hA (fun ρ => ?_)
 clear hA
 refine seqE <| sR <| pu4 <| nT ?_
 by_cases r0 : (((i : Nat) : Int) : Int) < ((ln : Nat) : Int)
 rotate_left
 ·refine cF _ (decide_eq_false r0) ?_
  refine exitE (xB <| ?_)
  refine thenK_n <| sR <| pu2 <| nT <| retE <| retT [.slice a' n' k'] ?_
  have s0 := ((d0.pick 1 rfl).pick 1 rfl)
  change Sat _ _ (c' :: H :: F) at s0
  have hfin := flat_all (f := (fun x => nTap x.v)) (l := l) (i := i) om
  rw [hfin] at hp hn'
  subst c1
  have hM : bs' = bs ++ bytesOf (nTaps (l.map Tap.v)) := by rw [hp]; rw [← hll]; simp [nTaps, bytesOf, List.flatMap_map]
  subst hM
  have hnn : n' = n + 8 * (nTaps (l.map Tap.v)).length := by omega
  exact ⟨_, _, _, _, rfl, hnn, hO', s0⟩
 refine cT _ (decide_eq_true r0) ?_
 refine kT <| seqE <| blockE ?_
 obtain ⟨a0, e0, f0, b0, i0, t0⟩ := RdT.elem hR ((i : Nat) : Int)
 rw [Int.toNat_natCast] at b0
 have hl_x_17_weights := (hD a0 (List.mem_of_getElem? b0)).weights.len
 have hfl_x_17 := flat_le (f := (fun x => nTap x.v)) b0
 have hlx_x_17 : (nTap a0.v).length = 2 + a0.weights.l.length := nTap_len a0
 refine drawE [6, 12] [(5, ⟨e0, f0 + 0, none⟩, I a0.first), (11, ⟨e0, f0 + 1, none⟩, .slice a0.weights.a a0.weights.n a0.weights.k)] [(true, [0, 1, 2]), (true, [3]), (true, [4, 7, 8]), (true, [9]), (true, [10]), (true, [5]), (true, [11]), (false, [6]), (false, [12]), (true, [13])] rfl kr ⟨.inr ((i0.up 1 rfl).cell d0 (k := 0) rfl), .inr ((i0.up 1 rfl).cell d0 (k := 1) rfl), trivial⟩ ?_
 have d1 := d0.drew
 refine wU [0, 1, 2] ?_
 refine wS (.pointer (some ⟨e0, f0, none⟩)) rfl rfl rfl (fun w _ => Y_idx (a := la) (i := ((i : Nat) : Int)) (len := ln) (cap := lk) rfl Try.runUnderlying58 Try.sizeOf94 kr kr t0) ?_
 refine wU [4, 7, 8] ?_
 refine wS (.pointer (some ⟨e0, f0, none⟩)) rfl rfl rfl (fun w _ => Y_idx (a := la) (i := ((i : Nat) : Int)) (len := ln) (cap := lk) rfl Try.runUnderlying58 Try.sizeOf94 kr kr t0) ?_
 refine wU [10] ?_
 refine wS (I a0.first) rfl rfl rfl (fun w hF => Y_load rfl (Try.isAgg3 w) kr (hF 0 _ _ rfl)) ?_
 refine wS (.slice a0.weights.a a0.weights.n a0.weights.k) rfl rfl rfl (fun w hF => Y_load rfl (Try.isAgg22 w) kr (hF 1 _ _ rfl)) ?_
 refine wO rfl ?_
 have u0 := ((d1.pick 1 rfl).pick 1 rfl)
 change Sat _ _ (c' :: H :: F) at u0
 refine sF #[.slice a' n' k', I a0.first] Try.call35 (Calls.mono (ref_put W _ _ _ _ _ _ _ _ hO' a0.first om u0) ?_)
 rintro _ _ ⟨e1, f1, g1, v0, rfl, _, j0, k0⟩
 refine ⟨_, rfl, ?_⟩
 generalize h1 : bs' ++ bytesOf ([a0.first]) = i1 at j0
 have t1 := j0.len
 change Sat _ _ (v0 :: H :: F) at k0
 refine nilO ⟨⟨dI, .inr ((i0.up 1 rfl).cell k0 (k := 1) rfl), trivial⟩, ?_⟩
 refine wO rfl ?_
 have w0 := ((k0.pick 1 rfl).pick 1 rfl)
 change Sat _ _ (v0 :: H :: F) at w0
 refine sF #[.slice e1 f1 g1, .slice a0.weights.a a0.weights.n a0.weights.k] Try.call36 (Calls.mono (ref_puts W _ _ _ _ _ _ _ _ j0 _ _ _ _ (hD a0 (List.mem_of_getElem? b0)).weights om w0) ?_)
 rintro _ _ ⟨j1, k1, l1, l0, rfl, _, g0, x0⟩
 refine ⟨_, rfl, ?_⟩
 generalize m1 : i1 ++ bytesOf (nInts a0.weights.l) = y0 at g0
 have w1 := g0.len
 change Sat _ _ (l0 :: H :: F) at x0
 refine nilO ⟨dA, ?_⟩
 refine wU [13] ?_
 refine wN ?_
 refine blockK_n <| thenK_n <| regionE <| pu1 ?_
 refine sAdd ((i : Nat) : Int) 1 ?_
 refine pu1 <| nT ?_
 have z0 := ((x0.pick 1 rfl).pick 1 rfl)
 change Sat _ _ (l0 :: H :: F) at z0
 have hstep : y0 = bs' ++ bytesOf ((fun x => nTap x.v) a0) := by subst m1; subst h1; first | rfl | (simp only [bytesOf_one, bytesOf_app, bytesOf_cons, nTap, nOp, nPlane, nInts, List.append_assoc, List.cons_append, List.nil_append]; done) | (simp [bytesOf, nTap, nOp, nPlane, nInts, Plane.v, Tap.v]; done)
 have hfs := congrArg List.length (flat_step (f := (fun x => nTap x.v)) b0)
 rw [List.length_append] at hfs
 have hlb := congrArg List.length hstep; rw [List.length_append, bytesOf_len] at hlb
 have hll2 := g0.len
 exact ⟨(i + 1, j1, k1, l1, l0, y0), by dsimp only; omega, alA, z0, om, by rw [hstep, hp, flat_step b0, bytesOf_app, List.append_assoc], g0, hll2, om⟩
theorem ref_stage (W w : World) (H : Chunk) (F : List Chunk) (a : Option Addr) (n k : Nat) (c : Chunk) (bs : List Int) (hO : OwnT encB 5 1 a n k bs c) (q : Stage) (hq : Stage.Ok [H] q) (hb : n + 8 * (nStage q.v).length ≤ 1099511627776) (hS : Sat W w (c :: H :: F)) :
  Calls Try.prog 37 #[.slice a n k, .agg (encStage q).toArray] w fun e w' => ∃ (a' : Option Addr) (n' k' : Nat) (c' : Chunk), e = .returned (.slice a' n' k') ∧ n' = n + 8 * (nStage q.v).length ∧ OwnT encB 5 1 a' n' k' (bs ++ bytesOf (nStage q.v)) c' ∧ Sat W w' (c' :: H :: F) := by
 have hbl := hO.len
 have hl_weights := hq.weights.len; have hk_weights := hq.weights.le
 have hl_row := hq.row.len; have hk_row := hq.row.le
 have hl_col := hq.col.len; have hk_col := hq.col.le
 have hl_x := hq.x.len; have hk_x := hq.x.le
 have hl_y := hq.y.len; have hk_y := hq.y.le
 have hl_ops := hq.ops.len; have hk_ops := hq.ops.le
 have hnS := nStage_len q
 rw [hl_weights, hl_row, hl_col] at hnS
 have hop : (q.ops.l.flatMap nOp).length = 2 * q.ops.n := by rw [← hl_ops]; exact nOps_len _
 refine callsE (n := 96) Try.func37 rfl rfl (Nat.le_of_ble_eq_true rfl) ?_
 refine sR ?_
 refine sBox hS (.agg (encStage q).toArray) (encStage q).toArray ?_
 intro a0 _ s0
 refine pu1 <| nT <| sR <| pu1 <| nT ?_
 refine cutE (fun ρ w => ∃ (bv : Int), AllAt ρ [(0, .slice a n k), (3, Pt a0 0), (5, I bv)] ∧ Sat W w ([(a0, .cells (encStage q).toArray 61 (0, 0))] :: c :: H :: F) ∧ bv = nBool q.barrier) ?_ ?_
 ·refine sR <| pu1 ?_
  refine sL s0 0 3 (.bool q.barrier) (Try.isAgg4 _) ?_
  refine nT ?_
  rcases Classical.em (q.barrier = true) with f0 | f0
  ·refine cT _ f0 ?_
   refine regionE <| pu1 <| nT ?_
   exact ⟨1, alA, s0, by simp [nBool, f0]⟩
  refine cF _ (Bool.eq_false_iff.2 f0) ?_
  refine kT ?_
  exact ⟨0, alA, s0, by simp [nBool, f0]⟩
 rintro ρ _ ⟨bv, hA, d0, hbv⟩
 refine cAnchor hA (fun ρ => ?_)
 clear hA
 refine seqE <| sR <| pu1 ?_
 refine sL d0 0 0 (I q.kind) (Try.isAgg3 _) ?_
 refine pu1 ?_
 refine sL d0 0 1 (I q.a) (Try.isAgg3 _) ?_
 refine pu1 ?_
 refine sL d0 0 2 (I q.b) (Try.isAgg3 _) ?_
 refine pu3 ?_
 refine sL d0 0 4 (I q.edgePolicy) (Try.isAgg3 _) ?_
 refine pu2 ?_
 refine sL d0 0 5 (I q.edgeFill) (Try.isAgg3 _) ?_
 refine pu1 ?_
 refine sL d0 0 6 (I q.kW) (Try.isAgg3 _) ?_
 refine pu1 ?_
 refine sL d0 0 7 (I q.kH) (Try.isAgg3 _) ?_
 refine sBS d0 #[I q.kind, I q.a, I q.b, I bv, I q.edgePolicy, I q.edgeFill, I q.kW, I q.kH] Try.runUnderlying22 Try.sizeOf3 Try.zeroValue3 ?_
 intro b0 _ y1
 refine pu2 <| nT <| blockE ?_
 refine loopN 9 ?_
 refine roundS ?_
 refine sR <| pu1 <| nT <| seqE <| cTt <| kT <| seqE <| blockE <| sR ?_
 refine stepY (Pt b0 0) rfl rfl (Y_idx (a := (At b0 0)) (i := 0) (len := 8) (cap := 8) rfl Try.runUnderlying22 Try.sizeOf3 kr kr ⟨_, rfl, add_off _ 0 _, by decide, by decide⟩) ?_
 refine sL y1 0 0 (I q.kind) (Try.isAgg3 _) ?_
 refine pu1 <| nT <| regionE <| pu2 ?_
 have z1 := ((y1.pick 0 rfl).pick 2 rfl)
 try dsimp only [List.set, List.eraseIdx, Value.cells] at z1
 refine sF #[.slice a n k, I q.kind] Try.call35 (Calls.mono (ref_put W _ _ _ _ _ _ _ _ hO q.kind om z1) ?_)
 rintro _ _ ⟨g3, h3, i3, _, rfl, _, t0, u0⟩
 refine ⟨_, rfl, ?_⟩
 generalize j3 : bs ++ bytesOf ([q.kind]) = k3 at t0
 have j7 := t0.len
 try dsimp only [List.set, List.eraseIdx, Value.cells] at u0
 refine pu1 <| nB <| regionE <| pu2 <| nT ?_
 refine roundS ?_
 refine sR <| pu1 <| nT <| seqE <| cTt <| kT <| seqE <| blockE <| sR ?_
 refine stepY (Pt b0 1) rfl rfl (Y_idx (a := (At b0 0)) (i := 1) (len := 8) (cap := 8) rfl Try.runUnderlying22 Try.sizeOf3 kr kr ⟨_, rfl, add_off _ 0 _, by decide, by decide⟩) ?_
 refine sL u0 1 1 (I q.a) (Try.isAgg3 _) ?_
 refine pu1 <| nT <| regionE <| pu2 ?_
 have a2 := ((u0.pick 1 rfl).pick 1 rfl)
 try dsimp only [List.set, List.eraseIdx, Value.cells] at a2
 refine sF #[.slice g3 h3 i3, I q.a] Try.call35 (Calls.mono (ref_put W _ _ _ _ _ _ _ _ t0 q.a om a2) ?_)
 rintro _ _ ⟨l3, m3, n3, _, rfl, _, v0, w0⟩
 refine ⟨_, rfl, ?_⟩
 generalize o3 : k3 ++ bytesOf ([q.a]) = p3 at v0
 have n7 := v0.len
 try dsimp only [List.set, List.eraseIdx, Value.cells] at w0
 refine pu1 <| nB <| regionE <| pu2 <| nT ?_
 refine roundS ?_
 refine sR <| pu1 <| nT <| seqE <| cTt <| kT <| seqE <| blockE <| sR ?_
 refine stepY (Pt b0 2) rfl rfl (Y_idx (a := (At b0 0)) (i := 2) (len := 8) (cap := 8) rfl Try.runUnderlying22 Try.sizeOf3 kr kr ⟨_, rfl, add_off _ 0 _, by decide, by decide⟩) ?_
 refine sL w0 1 2 (I q.b) (Try.isAgg3 _) ?_
 refine pu1 <| nT <| regionE <| pu2 ?_
 have b2 := ((w0.pick 1 rfl).pick 1 rfl)
 try dsimp only [List.set, List.eraseIdx, Value.cells] at b2
 refine sF #[.slice l3 m3 n3, I q.b] Try.call35 (Calls.mono (ref_put W _ _ _ _ _ _ _ _ v0 q.b om b2) ?_)
 rintro _ _ ⟨q3, r3, s3, _, rfl, _, x0, y0⟩
 refine ⟨_, rfl, ?_⟩
 generalize t3 : p3 ++ bytesOf ([q.b]) = u3 at x0
 have r7 := x0.len
 try dsimp only [List.set, List.eraseIdx, Value.cells] at y0
 refine pu1 <| nB <| regionE <| pu2 <| nT ?_
 refine roundS ?_
 refine sR <| pu1 <| nT <| seqE <| cTt <| kT <| seqE <| blockE <| sR ?_
 refine stepY (Pt b0 3) rfl rfl (Y_idx (a := (At b0 0)) (i := 3) (len := 8) (cap := 8) rfl Try.runUnderlying22 Try.sizeOf3 kr kr ⟨_, rfl, add_off _ 0 _, by decide, by decide⟩) ?_
 refine sL y0 1 3 (I bv) (Try.isAgg3 _) ?_
 refine pu1 <| nT <| regionE <| pu2 ?_
 have c2 := ((y0.pick 1 rfl).pick 1 rfl)
 try dsimp only [List.set, List.eraseIdx, Value.cells] at c2
 refine sF #[.slice q3 r3 s3, I bv] Try.call35 (Calls.mono (ref_put W _ _ _ _ _ _ _ _ x0 bv om c2) ?_)
 rintro _ _ ⟨v3, w3, x3, _, rfl, _, z0, a1⟩
 refine ⟨_, rfl, ?_⟩
 generalize y3 : u3 ++ bytesOf ([bv]) = z3 at z0
 have v7 := z0.len
 try dsimp only [List.set, List.eraseIdx, Value.cells] at a1
 refine pu1 <| nB <| regionE <| pu2 <| nT ?_
 refine roundS ?_
 refine sR <| pu1 <| nT <| seqE <| cTt <| kT <| seqE <| blockE <| sR ?_
 refine stepY (Pt b0 4) rfl rfl (Y_idx (a := (At b0 0)) (i := 4) (len := 8) (cap := 8) rfl Try.runUnderlying22 Try.sizeOf3 kr kr ⟨_, rfl, add_off _ 0 _, by decide, by decide⟩) ?_
 refine sL a1 1 4 (I q.edgePolicy) (Try.isAgg3 _) ?_
 refine pu1 <| nT <| regionE <| pu2 ?_
 have d2 := ((a1.pick 1 rfl).pick 1 rfl)
 try dsimp only [List.set, List.eraseIdx, Value.cells] at d2
 refine sF #[.slice v3 w3 x3, I q.edgePolicy] Try.call35 (Calls.mono (ref_put W _ _ _ _ _ _ _ _ z0 q.edgePolicy om d2) ?_)
 rintro _ _ ⟨a4, b4, c4, _, rfl, _, b1, c1⟩
 refine ⟨_, rfl, ?_⟩
 generalize d4 : z3 ++ bytesOf ([q.edgePolicy]) = e4 at b1
 have z7 := b1.len
 try dsimp only [List.set, List.eraseIdx, Value.cells] at c1
 refine pu1 <| nB <| regionE <| pu2 <| nT ?_
 refine roundS ?_
 refine sR <| pu1 <| nT <| seqE <| cTt <| kT <| seqE <| blockE <| sR ?_
 refine stepY (Pt b0 5) rfl rfl (Y_idx (a := (At b0 0)) (i := 5) (len := 8) (cap := 8) rfl Try.runUnderlying22 Try.sizeOf3 kr kr ⟨_, rfl, add_off _ 0 _, by decide, by decide⟩) ?_
 refine sL c1 1 5 (I q.edgeFill) (Try.isAgg3 _) ?_
 refine pu1 <| nT <| regionE <| pu2 ?_
 have e2 := ((c1.pick 1 rfl).pick 1 rfl)
 try dsimp only [List.set, List.eraseIdx, Value.cells] at e2
 refine sF #[.slice a4 b4 c4, I q.edgeFill] Try.call35 (Calls.mono (ref_put W _ _ _ _ _ _ _ _ b1 q.edgeFill om e2) ?_)
 rintro _ _ ⟨f4, g4, h4, _, rfl, _, d1, e1⟩
 refine ⟨_, rfl, ?_⟩
 generalize i4 : e4 ++ bytesOf ([q.edgeFill]) = j4 at d1
 have d8 := d1.len
 try dsimp only [List.set, List.eraseIdx, Value.cells] at e1
 refine pu1 <| nB <| regionE <| pu2 <| nT ?_
 refine roundS ?_
 refine sR <| pu1 <| nT <| seqE <| cTt <| kT <| seqE <| blockE <| sR ?_
 refine stepY (Pt b0 6) rfl rfl (Y_idx (a := (At b0 0)) (i := 6) (len := 8) (cap := 8) rfl Try.runUnderlying22 Try.sizeOf3 kr kr ⟨_, rfl, add_off _ 0 _, by decide, by decide⟩) ?_
 refine sL e1 1 6 (I q.kW) (Try.isAgg3 _) ?_
 refine pu1 <| nT <| regionE <| pu2 ?_
 have f2 := ((e1.pick 1 rfl).pick 1 rfl)
 try dsimp only [List.set, List.eraseIdx, Value.cells] at f2
 refine sF #[.slice f4 g4 h4, I q.kW] Try.call35 (Calls.mono (ref_put W _ _ _ _ _ _ _ _ d1 q.kW om f2) ?_)
 rintro _ _ ⟨k4, l4, m4, _, rfl, _, f1, g1⟩
 refine ⟨_, rfl, ?_⟩
 generalize n4 : j4 ++ bytesOf ([q.kW]) = o4 at f1
 have h8 := f1.len
 try dsimp only [List.set, List.eraseIdx, Value.cells] at g1
 refine pu1 <| nB <| regionE <| pu2 <| nT ?_
 refine roundS ?_
 refine sR <| pu1 <| nT <| seqE <| cTt <| kT <| seqE <| blockE <| sR ?_
 refine stepY (Pt b0 7) rfl rfl (Y_idx (a := (At b0 0)) (i := 7) (len := 8) (cap := 8) rfl Try.runUnderlying22 Try.sizeOf3 kr kr ⟨_, rfl, add_off _ 0 _, by decide, by decide⟩) ?_
 refine sL g1 1 7 (I q.kH) (Try.isAgg3 _) ?_
 refine pu1 <| nT <| regionE <| pu2 ?_
 have g2 := ((g1.pick 1 rfl).pick 1 rfl)
 try dsimp only [List.set, List.eraseIdx, Value.cells] at g2
 refine sF #[.slice k4 l4 m4, I q.kH] Try.call35 (Calls.mono (ref_put W _ _ _ _ _ _ _ _ f1 q.kH om g2) ?_)
 rintro _ _ ⟨p4, q4, r4, _, rfl, _, h1, g0⟩
 refine ⟨_, rfl, ?_⟩
 generalize s4 : o4 ++ bytesOf ([q.kH]) = t4 at h1
 have l8 := h1.len
 try dsimp only [List.set, List.eraseIdx, Value.cells] at g0
 refine pu1 <| nB <| regionE <| pu2 <| nT ?_
 refine roundS ?_
 refine sR <| pu1 <| nT <| seqE <| cFf ?_
 refine exitE (xB <| ?_)
 refine thenK_n <| seqE ?_
 refine drawE [3, 6, 9] [(2, ⟨a0, 8, none⟩, .slice q.weights.a q.weights.n q.weights.k), (5, ⟨a0, 9, none⟩, .slice q.row.a q.row.n q.row.k), (8, ⟨a0, 10, none⟩, .slice q.col.a q.col.n q.col.k)] [(true, [0, 1, 4, 7]), (true, [2]), (true, [5]), (true, [8]), (false, [3]), (false, [6]), (false, [9]), (true, [10])] rfl kr ⟨.inr (g0.cell 2 rfl rfl), .inr (g0.cell 2 rfl rfl), .inr (g0.cell 2 rfl rfl), trivial⟩ ?_
 have u4 := g0.drew
 refine wU [0, 1, 4, 7] ?_
 refine wS (.slice q.weights.a q.weights.n q.weights.k) rfl rfl rfl (fun w hF => Y_load rfl (Try.isAgg22 w) kr (hF 0 _ _ rfl)) ?_
 refine wS (.slice q.row.a q.row.n q.row.k) rfl rfl rfl (fun w hF => Y_load rfl (Try.isAgg22 w) kr (hF 1 _ _ rfl)) ?_
 refine wS (.slice q.col.a q.col.n q.col.k) rfl rfl rfl (fun w hF => Y_load rfl (Try.isAgg22 w) kr (hF 2 _ _ rfl)) ?_
 refine wO rfl ?_
 have h2 := ((u4.pick 3 rfl).pick 1 rfl)
 try dsimp only [List.set, List.eraseIdx, Value.cells] at h2
 refine sF #[.slice p4 q4 r4, .slice q.weights.a q.weights.n q.weights.k] Try.call36 (Calls.mono (ref_puts W _ _ _ _ _ _ _ _ h1 _ _ _ _ hq.weights om h2) ?_)
 rintro _ _ ⟨v4, w4, x4, _, rfl, _, i1, j0⟩
 refine ⟨_, rfl, ?_⟩
 generalize y4 : t4 ++ bytesOf (nInts q.weights.l) = z4 at i1
 have p8 := i1.len
 try dsimp only [List.set, List.eraseIdx, Value.cells] at j0
 refine nilO ⟨⟨dI, .inr (j0.cell 3 rfl rfl), .inr (j0.cell 3 rfl rfl), trivial⟩, ?_⟩
 refine wO rfl ?_
 have i2 := ((j0.pick 1 rfl).pick 1 rfl)
 try dsimp only [List.set, List.eraseIdx, Value.cells] at i2
 refine sF #[.slice v4 w4 x4, .slice q.row.a q.row.n q.row.k] Try.call36 (Calls.mono (ref_puts W _ _ _ _ _ _ _ _ i1 _ _ _ _ hq.row om i2) ?_)
 rintro _ _ ⟨a5, b5, c5, _, rfl, _, j1, k1⟩
 refine ⟨_, rfl, ?_⟩
 generalize d5 : z4 ++ bytesOf (nInts q.row.l) = e5 at j1
 have t8 := j1.len
 try dsimp only [List.set, List.eraseIdx, Value.cells] at k1
 refine nilO ⟨⟨dI, dI, .inr (k1.cell 3 rfl rfl), trivial⟩, ?_⟩
 refine wO rfl ?_
 have j2 := ((k1.pick 1 rfl).pick 1 rfl)
 try dsimp only [List.set, List.eraseIdx, Value.cells] at j2
 refine sF #[.slice a5 b5 c5, .slice q.col.a q.col.n q.col.k] Try.call36 (Calls.mono (ref_puts W _ _ _ _ _ _ _ _ j1 _ _ _ _ hq.col om j2) ?_)
 rintro _ _ ⟨f5, g5, h5, _, rfl, _, l1, k0⟩
 refine ⟨_, rfl, ?_⟩
 generalize i5 : e5 ++ bytesOf (nInts q.col.l) = j5 at l1
 have x8 := l1.len
 try dsimp only [List.set, List.eraseIdx, Value.cells] at k0
 refine nilO ⟨dA, ?_⟩
 refine wU [10] ?_
 refine wN ?_
 refine thenK_n <| seqE ?_
 refine drawE [3, 6] [(2, ⟨a0, 11, none⟩, I q.shift), (5, ⟨a0, 12, none⟩, I q.shift2)] [(true, [0, 1, 4]), (true, [2]), (true, [5]), (false, [3]), (false, [6]), (true, [7])] rfl kr ⟨.inr (k0.cell 3 rfl rfl), .inr (k0.cell 3 rfl rfl), trivial⟩ ?_
 have k5 := k0.drew
 refine wU [0, 1, 4] ?_
 refine wS (I q.shift) rfl rfl rfl (fun w hF => Y_load rfl (Try.isAgg3 w) kr (hF 0 _ _ rfl)) ?_
 refine wS (I q.shift2) rfl rfl rfl (fun w hF => Y_load rfl (Try.isAgg3 w) kr (hF 1 _ _ rfl)) ?_
 refine wO rfl ?_
 have k2 := ((k5.pick 1 rfl).pick 1 rfl)
 try dsimp only [List.set, List.eraseIdx, Value.cells] at k2
 refine sF #[.slice f5 g5 h5, I q.shift] Try.call35 (Calls.mono (ref_put W _ _ _ _ _ _ _ _ l1 q.shift om k2) ?_)
 rintro _ _ ⟨l5, m5, n5, _, rfl, _, m1, n1⟩
 refine ⟨_, rfl, ?_⟩
 generalize o5 : j5 ++ bytesOf ([q.shift]) = p5 at m1
 have b9 := m1.len
 try dsimp only [List.set, List.eraseIdx, Value.cells] at n1
 refine nilO ⟨⟨dI, .inr (n1.cell 3 rfl rfl), trivial⟩, ?_⟩
 refine wO rfl ?_
 have l2 := ((n1.pick 1 rfl).pick 1 rfl)
 try dsimp only [List.set, List.eraseIdx, Value.cells] at l2
 refine sF #[.slice l5 m5 n5, I q.shift2] Try.call35 (Calls.mono (ref_put W _ _ _ _ _ _ _ _ m1 q.shift2 om l2) ?_)
 rintro _ _ ⟨q5, r5, s5, _, rfl, _, o1, h0⟩
 refine ⟨_, rfl, ?_⟩
 generalize t5 : p5 ++ bytesOf ([q.shift2]) = u5 at o1
 have f9 := o1.len
 try dsimp only [List.set, List.eraseIdx, Value.cells] at h0
 refine nilO ⟨dA, ?_⟩
 refine wU [7] ?_
 refine wN ?_
 refine thenK_n <| seqE ?_
 refine drawE [3, 6, 9] [(2, ⟨a0, 13, none⟩, .slice q.x.a q.x.n q.x.k), (5, ⟨a0, 14, none⟩, .slice q.y.a q.y.n q.y.k), (8, ⟨a0, 15, none⟩, I q.bins)] [(true, [0, 1, 4, 7]), (true, [2]), (true, [5]), (true, [8]), (false, [3]), (false, [6]), (false, [9]), (true, [10])] rfl kr ⟨.inr (h0.cell 3 rfl rfl), .inr (h0.cell 3 rfl rfl), .inr (h0.cell 3 rfl rfl), trivial⟩ ?_
 have v5 := h0.drew
 refine wU [0, 1, 4, 7] ?_
 refine wS (.slice q.x.a q.x.n q.x.k) rfl rfl rfl (fun w hF => Y_load rfl (Try.isAgg58 w) kr (hF 0 _ _ rfl)) ?_
 refine wS (.slice q.y.a q.y.n q.y.k) rfl rfl rfl (fun w hF => Y_load rfl (Try.isAgg58 w) kr (hF 1 _ _ rfl)) ?_
 refine wS (I q.bins) rfl rfl rfl (fun w hF => Y_load rfl (Try.isAgg3 w) kr (hF 2 _ _ rfl)) ?_
 refine wO rfl ?_
 have m2 := ((v5.pick 1 rfl).pick 1 rfl)
 try dsimp only [List.set, List.eraseIdx, Value.cells] at m2
 refine sF #[.slice q5 r5 s5, .slice q.x.a q.x.n q.x.k] Try.call48 (Calls.mono (ref_taps W _ _ _ _ _ _ _ _ o1 _ _ _ _ hq.x hq.xD om m2) ?_)
 rintro _ _ ⟨w5, x5, y5, _, rfl, _, p1, l0⟩
 refine ⟨_, rfl, ?_⟩
 generalize z5 : u5 ++ bytesOf (nTaps (q.x.l.map Tap.v)) = a6 at p1
 have j9 := p1.len
 try dsimp only [List.set, List.eraseIdx, Value.cells] at l0
 refine nilO ⟨⟨dI, .inr (l0.cell 3 rfl rfl), .inr (l0.cell 3 rfl rfl), trivial⟩, ?_⟩
 refine wO rfl ?_
 have n2 := ((l0.pick 1 rfl).pick 1 rfl)
 try dsimp only [List.set, List.eraseIdx, Value.cells] at n2
 refine sF #[.slice w5 x5 y5, .slice q.y.a q.y.n q.y.k] Try.call48 (Calls.mono (ref_taps W _ _ _ _ _ _ _ _ p1 _ _ _ _ hq.y hq.yD om n2) ?_)
 rintro _ _ ⟨b6, c6, d6, _, rfl, _, q1, r1⟩
 refine ⟨_, rfl, ?_⟩
 generalize e6 : a6 ++ bytesOf (nTaps (q.y.l.map Tap.v)) = f6 at q1
 have n9 := q1.len
 try dsimp only [List.set, List.eraseIdx, Value.cells] at r1
 refine nilO ⟨⟨dI, dI, .inr (r1.cell 3 rfl rfl), trivial⟩, ?_⟩
 refine wO rfl ?_
 have o2 := ((r1.pick 1 rfl).pick 1 rfl)
 try dsimp only [List.set, List.eraseIdx, Value.cells] at o2
 refine sF #[.slice b6 c6 d6, I q.bins] Try.call35 (Calls.mono (ref_put W _ _ _ _ _ _ _ _ q1 q.bins om o2) ?_)
 rintro _ _ ⟨g6, h6, i6, _, rfl, _, s1, t1⟩
 refine ⟨_, rfl, ?_⟩
 generalize j6 : f6 ++ bytesOf ([q.bins]) = k6 at s1
 have r9 := s1.len
 try dsimp only [List.set, List.eraseIdx, Value.cells] at t1
 refine nilO ⟨dA, ?_⟩
 refine wU [10] ?_
 refine wN ?_
 refine thenK_n <| sR <| pu2 ?_
 refine sL t1 3 16 (.slice q.ops.a q.ops.n q.ops.k) (Try.isAgg59 _) ?_
 refine pu1 ?_
 have p2 := ((t1.pick 1 rfl).pick 1 rfl)
 try dsimp only [List.set, List.eraseIdx, Value.cells] at p2
 refine sF #[.slice g6 h6 i6, I ((q.ops.n : Nat) : Int)] Try.call35 (Calls.mono (ref_put W _ _ _ _ _ _ _ _ s1 ((q.ops.n : Nat) : Int) om p2) ?_)
 rintro _ _ ⟨l6, q2, m6, r2, rfl, _, m0, s2⟩
 refine ⟨_, rfl, ?_⟩
 generalize n6 : k6 ++ bytesOf ([((q.ops.n : Nat) : Int)]) = t2 at m0
 have u9 := m0.len
 try dsimp only [List.set, List.eraseIdx, Value.cells] at s2
 refine pu1 <| nT <| seqE <| sR <| pu1 <| nT <| blockE ?_
 have u2 := ((((s2.pick 1 rfl).pick 3 rfl).pick 2 rfl).dropAt 3 rfl)
 change Sat _ _ (r2 :: [(a0, .cells (encStage q).toArray 61 (0, 0))] :: H :: F) at u2
 refine loopE (γ := Nat × (Option Addr) × Nat × Nat × Chunk × (List Int)) (fun ⟨i, a', n', k', c', bs'⟩ ρ w => AllAt ρ [(3, Pt a0 0), (0, .slice a' n' k'), (8, I ((i : Nat) : Int))] ∧ Sat W w (c' :: [(a0, .cells (encStage q).toArray 61 (0, 0))] :: H :: F) ∧ i ≤ q.ops.n ∧ bs' = t2 ++ bytesOf ((q.ops.l.take i).flatMap nOp) ∧ OwnT encB 5 1 a' n' k' bs' c' ∧ bs'.length = n' ∧ n' = q2 + 8 * ((q.ops.l.take i).flatMap nOp).length) (fun ⟨i, a', n', k', c', bs'⟩ => q.ops.n - i) (0, l6, q2, m6, r2, t2) ⟨alA, u2, Nat.zero_le _, by simp [bytesOf], m0, m0.len, by simp⟩ ?_
 skip
 rintro ⟨i, a', n', k', c', bs'⟩ ρ _ ⟨hA, e0, hi, hp, hO', hbl', hn'⟩
 refine cAnchor hA (fun ρ => ?_)
 clear hA
 refine seqE <| sR <| pu2 ?_
 refine sL e0 1 16 (.slice q.ops.a q.ops.n q.ops.k) (Try.isAgg59 _) ?_
 refine pu2 <| nT ?_
 by_cases v2 : (((i : Nat) : Int) : Int) < ((q.ops.n : Nat) : Int)
 rotate_left
 ·refine cF _ (decide_eq_false v2) ?_
  refine exitE (xB <| ?_)
  refine thenK_n <| seqE ?_
  have hfin := flat_all (f := nOp) (l := q.ops.l) (i := i) om
  rw [hfin] at hp hn'
  refine regionE <| pu2 ?_
  refine sL e0 1 17 (I q.max_) (Try.isAgg3 _) ?_
  have w2 := ((e0.pick 1 rfl).pick 1 rfl)
  change Sat _ _ (c' :: [(a0, .cells (encStage q).toArray 61 (0, 0))] :: H :: F) at w2
  refine sF #[.slice a' n' k', I q.max_] Try.call35 (Calls.mono (ref_put W _ _ _ _ _ _ _ _ hO' q.max_ om w2) ?_)
  rintro _ _ ⟨o6, p6, q6, x2, rfl, _, u1, y2⟩
  refine ⟨_, rfl, ?_⟩
  generalize r6 : bs' ++ bytesOf ([q.max_]) = s6 at u1
  have y9 := u1.len
  change Sat _ _ (x2 :: [(a0, .cells (encStage q).toArray 61 (0, 0))] :: H :: F) at y2
  refine pu1 <| nT <| retE <| retT [.slice o6 p6 q6] ?_
  have z2 := (((y2.pick 2 rfl).pick 1 rfl).dropAt 2 rfl)
  change Sat _ _ (x2 :: H :: F) at z2
  have hM : s6 = bs ++ bytesOf (nStage q.v) := by
   subst hbv
   subst r6; rw [hp]
   subst n6; subst j6; subst e6; subst z5; subst t5; subst o5; subst i5; subst d5; subst y4; subst s4; subst n4; subst i4; subst d4; subst y3; subst t3; subst o3; subst j3; simp [nStage, Stage.v, nTaps, nInts, nOps, bytesOf_app, bytesOf_cons, ← hl_ops, List.append_assoc, bytesOf]
  have hO9 := u1
  rw [hM] at hO9
  exact ⟨_, _, _, _, rfl, om, hO9, z2⟩
 refine cT _ (decide_eq_true v2) ?_
 refine kT <| seqE <| blockE ?_
 obtain ⟨c0, n0, o0, p0, v1, a3⟩ := RdT.elem hq.ops ((i : Nat) : Int)
 rw [Int.toNat_natCast] at p0
 have hfl_x_221 := flat_le (f := nOp) p0
 have hlx_x_221 : (nOp c0).length = 2 := rfl
 refine drawE [7, 14] [(2, ⟨a0, 16, none⟩, .slice q.ops.a q.ops.n q.ops.k), (6, ⟨n0, o0 + 0, none⟩, I c0.code), (9, ⟨a0, 16, none⟩, .slice q.ops.a q.ops.n q.ops.k), (13, ⟨n0, o0 + 1, none⟩, I c0.arg)] [(true, [0, 1, 3, 8, 10]), (true, [2]), (true, [4]), (true, [5]), (true, [6]), (true, [9]), (true, [11]), (true, [12]), (true, [13]), (false, [7]), (false, [14]), (true, [15])] rfl kr ⟨.inr (e0.cell 1 rfl rfl), .inr ((v1.up 2 rfl).cell e0 (k := 0) rfl), .inr (e0.cell 1 rfl rfl), .inr ((v1.up 2 rfl).cell e0 (k := 1) rfl), trivial⟩ ?_
 have t6 := e0.drew
 refine wU [0, 1, 3, 8, 10] ?_
 refine wS (.slice q.ops.a q.ops.n q.ops.k) rfl rfl rfl (fun w hF => Y_load rfl (Try.isAgg59 w) kr (hF 0 _ _ rfl)) ?_
 refine wS (.pointer (some ⟨n0, o0, none⟩)) rfl rfl rfl (fun w _ => Y_idx (a := q.ops.a) (i := ((i : Nat) : Int)) (len := q.ops.n) (cap := q.ops.k) rfl Try.runUnderlying59 Try.sizeOf66 kr kr a3) ?_
 refine wU [5] ?_
 refine wS (I c0.code) rfl rfl rfl (fun w hF => Y_load rfl (Try.isAgg3 w) kr (hF 1 _ _ rfl)) ?_
 refine wS (.slice q.ops.a q.ops.n q.ops.k) rfl rfl rfl (fun w hF => Y_load rfl (Try.isAgg59 w) kr (hF 2 _ _ rfl)) ?_
 refine wS (.pointer (some ⟨n0, o0, none⟩)) rfl rfl rfl (fun w _ => Y_idx (a := q.ops.a) (i := ((i : Nat) : Int)) (len := q.ops.n) (cap := q.ops.k) rfl Try.runUnderlying59 Try.sizeOf66 kr kr a3) ?_
 refine wU [12] ?_
 refine wS (I c0.arg) rfl rfl rfl (fun w hF => Y_load rfl (Try.isAgg3 w) kr (hF 3 _ _ rfl)) ?_
 refine wO rfl ?_
 have b3 := ((t6.pick 1 rfl).pick 1 rfl)
 change Sat _ _ (c' :: [(a0, .cells (encStage q).toArray 61 (0, 0))] :: H :: F) at b3
 refine sF #[.slice a' n' k', I c0.code] Try.call35 (Calls.mono (ref_put W _ _ _ _ _ _ _ _ hO' c0.code om b3) ?_)
 rintro _ _ ⟨u6, v6, w6, c3, rfl, _, w1, i0⟩
 refine ⟨_, rfl, ?_⟩
 generalize x6 : bs' ++ bytesOf ([c0.code]) = y6 at w1
 have ba := w1.len
 change Sat _ _ (c3 :: [(a0, .cells (encStage q).toArray 61 (0, 0))] :: H :: F) at i0
 refine nilO ⟨⟨.inr (i0.cell 1 rfl rfl), dI, .inr (i0.cell 1 rfl rfl), .inr ((v1.up 2 rfl).cell i0 (k := 1) rfl), trivial⟩, ?_⟩
 refine wO rfl ?_
 have d3 := ((i0.pick 1 rfl).pick 1 rfl)
 change Sat _ _ (c3 :: [(a0, .cells (encStage q).toArray 61 (0, 0))] :: H :: F) at d3
 refine sF #[.slice u6 v6 w6, I c0.arg] Try.call35 (Calls.mono (ref_put W _ _ _ _ _ _ _ _ w1 c0.arg om d3) ?_)
 rintro _ _ ⟨z6, a7, b7, x1, rfl, _, q0, r0⟩
 refine ⟨_, rfl, ?_⟩
 generalize c7 : y6 ++ bytesOf ([c0.arg]) = e3 at q0
 have ea := q0.len
 change Sat _ _ (x1 :: [(a0, .cells (encStage q).toArray 61 (0, 0))] :: H :: F) at r0
 refine nilO ⟨⟨.inr (r0.cell 1 rfl rfl), dI, .inr (r0.cell 1 rfl rfl), dI, trivial⟩, ?_⟩
 refine wU [15] ?_
 refine wN ?_
 refine blockK_n <| thenK_n <| regionE <| pu1 ?_
 refine sAdd ((i : Nat) : Int) 1 ?_
 refine pu1 <| nT ?_
 have f3 := (((r0.pick 2 rfl).pick 2 rfl).pick 2 rfl)
 change Sat _ _ (x1 :: [(a0, .cells (encStage q).toArray 61 (0, 0))] :: H :: F) at f3
 have hstep : e3 = bs' ++ bytesOf (nOp c0) := by subst c7; subst x6; first | rfl | (simp only [bytesOf_one, bytesOf_app, bytesOf_cons, nTap, nOp, nPlane, nInts, List.append_assoc, List.cons_append, List.nil_append]; done) | (simp [bytesOf, nTap, nOp, nPlane, nInts, Plane.v, Tap.v]; done)
 have hfs := congrArg List.length (flat_step (f := nOp) p0)
 rw [List.length_append] at hfs
 have hlb := congrArg List.length hstep; rw [List.length_append, bytesOf_len] at hlb
 have hll2 := q0.len
 exact ⟨(i + 1, z6, a7, b7, x1, e3), by dsimp only; omega, alA, f3, om, by rw [hstep, hp, flat_step p0, bytesOf_app, List.append_assoc], q0, hll2, om⟩
theorem ref_encode (W w : World) (H : Chunk) (F : List Chunk) (j : Job) (hj : Job.Ok [H] j) (hb : (nJob j.v).length ≤ 1000000000) (hS : Sat W w (H :: F)) :
  Calls Try.prog 14 #[.agg (encJob j).toArray] w fun e w' => (3 + 8 * (nJob j.v).length ≤ 262144 ∧ ∃ (a : Option Addr) (n k : Nat) (c : Chunk), e = .returned (.tuple #[.slice a n k, I 0]) ∧ OwnT encB 5 1 a n k ([84, 70, 1] ++ bytesOf (nJob j.v)) c ∧ Sat W w' (c :: H :: F)) ∨ (262144 < 3 + 8 * (nJob j.v).length ∧ e = .returned (.tuple #[.slice none 0 0, I 5]) ∧ Sat W w' (H :: F)) := by
 have hl_inputs := hj.inputs.len; have hk_inputs := hj.inputs.le
 have hl_stages := hj.stages.len; have hk_stages := hj.stages.le
 have hl_outputs := hj.outputs.len; have hk_outputs := hj.outputs.le
 have hnJ := nJob_len j
 rw [hl_outputs] at hnJ
 refine callsE (n := 79) Try.func14 rfl rfl (Nat.le_of_ble_eq_true rfl) ?_
 refine sR ?_
 refine sBox hS (.agg (encJob j).toArray) (encJob j).toArray ?_
 intro b0 _ r2
 refine pu2 <| nT <| sR ?_
 refine sBS r2 #[.int .u8 84, .int .u8 70, .int .u8 1] Try.runUnderlying31 Try.sizeOf5 Try.zeroValue5 ?_
 intro a1 _ b1
 refine pu1 ?_
 refine sL b1 1 3 (I j.priority) (Try.isAgg3 _) ?_
 have s2 := OwnT.blk (enc := encB) (sz := 1) (b := a1) (c := #[.int .u8 84, .int .u8 70, .int .u8 1]) (E := 5) (xs := [84, 70, 1]) fR 3 rfl rfl rfl om
 have c1 := ((b1.pick 1 rfl).pick 1 rfl)
 try dsimp only [List.set, List.eraseIdx, Value.cells] at c1
 refine sF #[.slice (At a1 0) 3 3, I j.priority] Try.call35 (Calls.mono (ref_put W _ _ _ _ _ _ _ _ s2 j.priority om c1) ?_)
 rintro _ _ ⟨t2, u2, v2, d1, rfl, _, q0, r0⟩
 refine ⟨_, rfl, ?_⟩
 generalize w2 : ([84, 70, 1]) ++ bytesOf ([j.priority]) = x2 at q0
 have t4 := q0.len
 change Sat _ _ (d1 :: [(b0, .cells (encJob j).toArray 28 (0, 0))] :: H :: F) at r0
 refine pu1 <| nT <| sR <| pu2 ?_
 refine sL r0 1 0 (.slice j.inputs.a j.inputs.n j.inputs.k) (Try.isAgg25 _) ?_
 refine pu1 ?_
 have e1 := ((r0.pick 1 rfl).pick 1 rfl)
 change Sat _ _ (d1 :: [(b0, .cells (encJob j).toArray 28 (0, 0))] :: H :: F) at e1
 refine sF #[.slice t2 u2 v2, I ((j.inputs.n : Nat) : Int)] Try.call35 (Calls.mono (ref_put W _ _ _ _ _ _ _ _ q0 ((j.inputs.n : Nat) : Int) om e1) ?_)
 rintro _ _ ⟨y2, z2, a3, s0, rfl, _, k0, f1⟩
 refine ⟨_, rfl, ?_⟩
 generalize b3 : x2 ++ bytesOf ([((j.inputs.n : Nat) : Int)]) = g1 at k0
 have w4 := k0.len
 change Sat _ _ (s0 :: [(b0, .cells (encJob j).toArray 28 (0, 0))] :: H :: F) at f1
 refine pu1 <| nilO ?_
 have c3 : Enc g1 [j.priority, (j.inputs.n : Int)] := .inl (by subst b3; subst w2; simp [bytesOf])
 refine thenK_n ?_
 refine cutE (fun ρ w => ∃ (a4 : Option Addr) (n4 : Nat) (k4 : Nat) (c4 : Chunk) (bs4 : List Int), AllAt ρ [(1, Pt b0 0), (4, .slice a4 n4 k4)] ∧ Sat W w (c4 :: [(b0, .cells (encJob j).toArray 28 (0, 0))] :: H :: F) ∧ Enc bs4 ([j.priority, (j.inputs.n : Int)] ++ j.inputs.l.flatMap (fun x => nPlane x.v)) ∧ OwnT encB 5 1 a4 n4 k4 bs4 c4 ∧ bs4.length = n4 ∧ n4 ≤ 8000000003) ?_ ?_
 ·refine sR <| pu1 <| nT <| blockE ?_
  have i1 := (((f1.pick 2 rfl).pick 2 rfl).pick 2 rfl)
  change Sat _ _ (s0 :: [(b0, .cells (encJob j).toArray 28 (0, 0))] :: H :: F) at i1
  refine loopE (γ := Nat × (Option Addr) × Nat × Nat × Chunk × (List Int)) (fun ⟨i, a', n', k', c', bs'⟩ ρ w => AllAt ρ [(1, Pt b0 0), (4, .slice a' n' k'), (5, I ((i : Nat) : Int))] ∧ Sat W w (c' :: [(b0, .cells (encJob j).toArray 28 (0, 0))] :: H :: F) ∧ i ≤ j.inputs.n ∧ Enc bs' ([j.priority, (j.inputs.n : Int)] ++ (j.inputs.l.take i).flatMap (fun x => nPlane x.v)) ∧ OwnT encB 5 1 a' n' k' bs' c' ∧ bs'.length = n') (fun ⟨i, a', n', k', c', bs'⟩ => j.inputs.n - i) (0, y2, z2, a3, s0, g1) ⟨alA, i1, Nat.zero_le _, by simpa using c3, k0, k0.len⟩ ?_
  skip
  rintro ⟨i, a', n', k', c', bs'⟩ ρ _ ⟨hA, e0, hi, hp, hO', hbl'⟩
  refine cAnchor hA (fun ρ => ?_)
  clear hA
  refine seqE <| sR <| pu2 ?_
  refine sL e0 1 0 (.slice j.inputs.a j.inputs.n j.inputs.k) (Try.isAgg25 _) ?_
  refine pu3 ?_
  by_cases j1 : (((i : Nat) : Int) : Int) < ((j.inputs.n : Nat) : Int)
  rotate_left
  ·refine sFix 22 _ false (decide_eq_false j1) ?_
   refine pu4 <| nT <| cFf ?_
   refine exitE (xB <| ?_)
   refine thenK_n ?_
   have k1 := (((e0.pick 2 rfl).pick 2 rfl).pick 2 rfl)
   change Sat _ _ (c' :: [(b0, .cells (encJob j).toArray 28 (0, 0))] :: H :: F) at k1
   have hEz : Enc bs' ([j.priority, (j.inputs.n : Int)] ++ j.inputs.l.flatMap (fun x => nPlane x.v)) := by
    by_cases hi2 : i = j.inputs.n
    ·rwa [flat_all om] at hp
    ·refine Enc.more om (Nat.le_trans hp.le ?_)
     simp only [List.length_append]
     have := flat_take_le (f := (fun x => nPlane x.v)) j.inputs.l i
     omega
   exact ⟨a', n', k', c', bs', alA, k1, hEz, hO', hbl', by have h1 := hEz.le; simp only [List.length_append, List.length_cons, List.length_nil] at h1; omega⟩
  refine sFix 22 _ true (decide_eq_true j1) ?_
  refine pu4 <| nT ?_
  by_cases l1 : (((n' : Nat) : Int) : Int) ≤ 262144
  rotate_left
  ·refine cF _ (decide_eq_false l1) ?_
   refine exitE (xB <| ?_)
   refine thenK_n ?_
   have m1 := (((e0.pick 2 rfl).pick 2 rfl).pick 2 rfl)
   change Sat _ _ (c' :: [(b0, .cells (encJob j).toArray 28 (0, 0))] :: H :: F) at m1
   have hEz : Enc bs' ([j.priority, (j.inputs.n : Int)] ++ j.inputs.l.flatMap (fun x => nPlane x.v)) := by
    by_cases hi2 : i = j.inputs.n
    ·rwa [flat_all om] at hp
    ·refine Enc.more om (Nat.le_trans hp.le ?_)
     simp only [List.length_append]
     have := flat_take_le (f := (fun x => nPlane x.v)) j.inputs.l i
     omega
   exact ⟨a', n', k', c', bs', alA, m1, hEz, hO', hbl', by have h1 := hEz.le; simp only [List.length_append, List.length_cons, List.length_nil] at h1; omega⟩
  refine cT _ (decide_eq_true l1) ?_
  refine kT <| seqE <| blockE <| sR <| pu1 ?_
  refine sL e0 1 0 (.slice j.inputs.a j.inputs.n j.inputs.k) (Try.isAgg25 _) ?_
  refine pu1 ?_
  refine sIdx hj.inputs ((i : Nat) : Int) Try.runUnderlying25 Try.sizeOf49 ?_
  intro a0 _ _ g0 d3
  rw [Int.toNat_natCast] at g0
  have hl_x_38_pix := (hj.inputsD a0 (List.mem_of_getElem? g0)).pix.len
  have hfl := flat_le (f := (fun x => nPlane x.v)) g0
  have hpl := nPlane_len a0
  have hEle := hp.le
  simp only [List.length_append, List.length_cons, List.length_nil] at hEle
  refine sLpA e0 (d3.up 2 rfl) 0 (encPlane a0) (Try.isAgg49 _) (Try.sizeOf49 _) ?_
  refine sAlloc e0 Try.zeroValue49 ?_
  intro l0 _ e3
  refine sT e3 0 0 (.agg (encPlane a0).toArray) (encPlane a0) (encPlane a0).toArray Try.sizeOf49 ?_
  intro _ h0
  refine nT ?_
  refine drawE [3, 6, 9, 12] [(2, ⟨l0, 0, none⟩, I a0.w), (5, ⟨l0, 1, none⟩, I a0.h), (8, ⟨l0, 2, none⟩, I a0.max_), (11, ⟨l0, 3, none⟩, .slice a0.pix.a a0.pix.n a0.pix.k)] [(true, [0, 1, 4, 7, 10]), (true, [2]), (true, [5]), (true, [8]), (true, [11]), (false, [3]), (false, [6]), (false, [9]), (false, [12]), (true, [13])] rfl kr ⟨.inr (h0.cell 0 rfl rfl), .inr (h0.cell 0 rfl rfl), .inr (h0.cell 0 rfl rfl), .inr (h0.cell 0 rfl rfl), trivial⟩ ?_
  have f3 := h0.drew
  refine wU [0, 1, 4, 7, 10] ?_
  refine wS (I a0.w) rfl rfl rfl (fun w hF => Y_load rfl (Try.isAgg3 w) kr (hF 0 _ _ rfl)) ?_
  refine wS (I a0.h) rfl rfl rfl (fun w hF => Y_load rfl (Try.isAgg3 w) kr (hF 1 _ _ rfl)) ?_
  refine wS (I a0.max_) rfl rfl rfl (fun w hF => Y_load rfl (Try.isAgg3 w) kr (hF 2 _ _ rfl)) ?_
  refine wS (.slice a0.pix.a a0.pix.n a0.pix.k) rfl rfl rfl (fun w hF => Y_load rfl (Try.isAgg22 w) kr (hF 3 _ _ rfl)) ?_
  refine wO rfl ?_
  have n1 := ((f3.pick 0 rfl).pick 1 rfl)
  try dsimp only [List.set, List.eraseIdx, Value.cells] at n1
  refine sF #[.slice a' n' k', I a0.w] Try.call35 (Calls.mono (ref_put W _ _ _ _ _ _ _ _ hO' a0.w om n1) ?_)
  rintro _ _ ⟨g3, h3, i3, _, rfl, _, t0, i0⟩
  refine ⟨_, rfl, ?_⟩
  generalize j3 : bs' ++ bytesOf ([a0.w]) = k3 at t0
  have f5 := t0.len
  try dsimp only [List.set, List.eraseIdx, Value.cells] at i0
  refine nilO ⟨⟨dI, .inr (i0.cell 1 rfl rfl), .inr (i0.cell 1 rfl rfl), .inr (i0.cell 1 rfl rfl), trivial⟩, ?_⟩
  refine wO rfl ?_
  have o1 := ((i0.pick 1 rfl).pick 1 rfl)
  try dsimp only [List.set, List.eraseIdx, Value.cells] at o1
  refine sF #[.slice g3 h3 i3, I a0.h] Try.call35 (Calls.mono (ref_put W _ _ _ _ _ _ _ _ t0 a0.h om o1) ?_)
  rintro _ _ ⟨l3, m3, n3, _, rfl, _, u0, m0⟩
  refine ⟨_, rfl, ?_⟩
  generalize o3 : k3 ++ bytesOf ([a0.h]) = p3 at u0
  have j5 := u0.len
  try dsimp only [List.set, List.eraseIdx, Value.cells] at m0
  refine nilO ⟨⟨dI, dI, .inr (m0.cell 1 rfl rfl), .inr (m0.cell 1 rfl rfl), trivial⟩, ?_⟩
  refine wO rfl ?_
  have p1 := ((m0.pick 1 rfl).pick 1 rfl)
  try dsimp only [List.set, List.eraseIdx, Value.cells] at p1
  refine sF #[.slice l3 m3 n3, I a0.max_] Try.call35 (Calls.mono (ref_put W _ _ _ _ _ _ _ _ u0 a0.max_ om p1) ?_)
  rintro _ _ ⟨q3, r3, s3, _, rfl, _, v0, w0⟩
  refine ⟨_, rfl, ?_⟩
  generalize t3 : p3 ++ bytesOf ([a0.max_]) = u3 at v0
  have n5 := v0.len
  try dsimp only [List.set, List.eraseIdx, Value.cells] at w0
  refine nilO ⟨⟨dI, dI, dI, .inr (w0.cell 1 rfl rfl), trivial⟩, ?_⟩
  refine wO rfl ?_
  have q1 := ((w0.pick 3 rfl).pick 1 rfl)
  try dsimp only [List.set, List.eraseIdx, Value.cells] at q1
  refine sF #[.slice q3 r3 s3, .slice a0.pix.a a0.pix.n a0.pix.k] Try.call36 (Calls.mono (ref_puts W _ _ _ _ _ _ _ _ v0 _ _ _ _ (hj.inputsD a0 (List.mem_of_getElem? g0)).pix om q1) ?_)
  rintro _ _ ⟨v3, w3, x3, r1, rfl, _, n0, s1⟩
  refine ⟨_, rfl, ?_⟩
  generalize y3 : u3 ++ bytesOf (nInts a0.pix.l) = t1 at n0
  have q5 := n0.len
  try dsimp only [List.set, List.eraseIdx, Value.cells] at s1
  refine nilO ⟨dA, ?_⟩
  refine wU [13] ?_
  refine wN ?_
  refine blockK_n <| thenK_n <| regionE <| pu1 ?_
  refine sAdd ((i : Nat) : Int) 1 ?_
  refine pu1 <| nT ?_
  have u1 := ((((s1.pick 1 rfl).pick 3 rfl).pick 2 rfl).dropAt 3 rfl)
  change Sat _ _ (r1 :: [(b0, .cells (encJob j).toArray 28 (0, 0))] :: H :: F) at u1
  have hstep : t1 = bs' ++ bytesOf ((fun x => nPlane x.v) a0) := by subst y3; subst t3; subst o3; subst j3; first | rfl | (simp only [bytesOf_one, bytesOf_app, bytesOf_cons, nTap, nOp, nPlane, nInts, List.append_assoc, List.cons_append, List.nil_append]; done) | (simp [bytesOf, nTap, nOp, nPlane, nInts, Plane.v, Tap.v]; done)
  have hEn := hp.app ((fun x => nPlane x.v) a0)
  rw [← hstep, List.append_assoc, ← flat_step (f := (fun x => nPlane x.v)) g0] at hEn
  exact ⟨(i + 1, v3, w3, x3, r1, t1), by dsimp only; omega, alA, u1, om, hEn, n0, n0.len⟩
 rintro ρ _ ⟨a4, n4, k4, c4, bs4, hA, v1, hE4, hO4, hbl4, hle4⟩
 refine cAnchor hA (fun ρ => ?_)
 clear hA
 refine sR <| pu2 ?_
 refine sL v1 1 1 (.slice j.stages.a j.stages.n j.stages.k) (Try.isAgg26 _) ?_
 refine pu1 ?_
 have w1 := ((v1.pick 1 rfl).pick 1 rfl)
 change Sat _ _ (c4 :: [(b0, .cells (encJob j).toArray 28 (0, 0))] :: H :: F) at w1
 refine sF #[.slice a4 n4 k4, I ((j.stages.n : Nat) : Int)] Try.call35 (Calls.mono (ref_put W _ _ _ _ _ _ _ _ hO4 ((j.stages.n : Nat) : Int) om w1) ?_)
 rintro _ _ ⟨z3, b4, d4, x0, rfl, _, o0, x1⟩
 refine ⟨_, rfl, ?_⟩
 generalize e4 : bs4 ++ bytesOf ([((j.stages.n : Nat) : Int)]) = y1 at o0
 have u5 := o0.len
 change Sat _ _ (x0 :: [(b0, .cells (encJob j).toArray 28 (0, 0))] :: H :: F) at x1
 refine pu1 <| nilO ?_
 have f4 : Enc y1 (([j.priority, (j.inputs.n : Int)] ++ j.inputs.l.flatMap (fun x => nPlane x.v)) ++ [(j.stages.n : Int)]) := by have e := hE4.app [(j.stages.n : Int)]; subst e4; exact e
 refine thenK_n ?_
 refine cutE (fun ρ w => ∃ (a10 : Option Addr) (n10 : Nat) (k10 : Nat) (c10 : Chunk) (bs10 : List Int), AllAt ρ [(1, Pt b0 0), (4, .slice a10 n10 k10)] ∧ Sat W w (c10 :: [(b0, .cells (encJob j).toArray 28 (0, 0))] :: H :: F) ∧ Enc bs10 ((([j.priority, (j.inputs.n : Int)] ++ j.inputs.l.flatMap (fun x => nPlane x.v)) ++ [(j.stages.n : Int)]) ++ j.stages.l.flatMap (fun x => nStage x.v)) ∧ OwnT encB 5 1 a10 n10 k10 bs10 c10 ∧ bs10.length = n10 ∧ n10 ≤ 8000000003) ?_ ?_
 rotate_left
 ·rintro ρ _ ⟨a10, n10, k10, c10, bs10, hA, z1, hE10, hO10, hbl10, hle10⟩
  refine cAnchor hA (fun ρ => ?_)
  clear hA
  refine sR <| pu2 ?_
  refine sL z1 1 2 (.slice j.outputs.a j.outputs.n j.outputs.k) (Try.isAgg22 _) ?_
  have a2 := ((z1.pick 2 rfl).pick 1 rfl)
  change Sat _ _ (c10 :: H :: [(b0, .cells (encJob j).toArray 28 (0, 0))] :: F) at a2
  refine sF #[.slice a10 n10 k10, .slice j.outputs.a j.outputs.n j.outputs.k] Try.call36 (Calls.mono (ref_puts W _ _ _ _ _ _ _ _ hO10 _ _ _ _ hj.outputs om a2) ?_)
  rintro _ _ ⟨g4, b2, h4, c2, rfl, _, j0, y0⟩
  refine ⟨_, rfl, ?_⟩
  generalize d2 : bs10 ++ bytesOf (nInts j.outputs.l) = e2 at j0
  have y5 := j0.len
  change Sat _ _ (c2 :: H :: [(b0, .cells (encJob j).toArray 28 (0, 0))] :: F) at y0
  refine pu1 <| nT <| seqE <| sR <| pu3 <| nT ?_
  by_cases f2 : (((b2 : Nat) : Int) : Int) > 262144
  ·refine cT _ (decide_eq_true f2) ?_
   refine sR <| pu2 <| nT ?_
   refine retE (thenK_r <| ?_)
   refine retT [.slice none 0 0, I 5] ?_
   have hEf : Enc e2 (nJob j.v) := by
    have e := hE10.app (nInts j.outputs.l)
    rw [show (((([j.priority, (j.inputs.n : Int)] ++ j.inputs.l.flatMap (fun x => nPlane x.v)) ++ [(j.stages.n : Int)]) ++ j.stages.l.flatMap (fun x => nStage x.v)) ++ nInts j.outputs.l) = nJob j.v from by simp only [nJob, nInts, Job.v, List.length_map, List.flatMap_map, hl_inputs, hl_stages, List.append_assoc, List.cons_append, List.nil_append]] at e
    subst d2; exact e
   have hlf := j0.len
   have g2 := (((y0.pick 1 rfl).dropAt 1 rfl).dropAt 1 rfl)
   change Sat _ _ (H :: F) at g2
   refine .inr ⟨by have := hEf.le; omega, rfl, g2⟩
  refine cF _ (decide_eq_false f2) ?_
  refine kT <| sR <| pu3 <| nT <| retE <| retT [.slice g4 b2 h4, I 0] ?_
  have hEf : Enc e2 (nJob j.v) := by
   have e := hE10.app (nInts j.outputs.l)
   rw [show (((([j.priority, (j.inputs.n : Int)] ++ j.inputs.l.flatMap (fun x => nPlane x.v)) ++ [(j.stages.n : Int)]) ++ j.stages.l.flatMap (fun x => nStage x.v)) ++ nInts j.outputs.l) = nJob j.v from by simp only [nJob, nInts, Job.v, List.length_map, List.flatMap_map, hl_inputs, hl_stages, List.append_assoc, List.cons_append, List.nil_append]] at e
   subst d2; exact e
  have hlf := j0.len
  have h2 := (((y0.pick 1 rfl).pick 1 rfl).dropAt 2 rfl)
  change Sat _ _ (c2 :: H :: F) at h2
  rcases hEf with hEf | hEf
  ·have hll := congrArg List.length hEf; simp only [List.length_append, bytesOf_len, List.length_cons, List.length_nil] at hll
   have hO9 := j0; rw [hEf] at hO9
   exact .inl ⟨om, _, _, _, _, rfl, hO9, h2⟩
  ·exact absurd hEf.1 om
 refine sR <| pu1 <| nT <| blockE ?_
 have i2 := (((x1.pick 2 rfl).pick 2 rfl).pick 2 rfl)
 change Sat _ _ (x0 :: [(b0, .cells (encJob j).toArray 28 (0, 0))] :: H :: F) at i2
 refine loopE (γ := Nat × (Option Addr) × Nat × Nat × Chunk × (List Int)) (fun ⟨i, a', n', k', c', bs'⟩ ρ w => AllAt ρ [(1, Pt b0 0), (4, .slice a' n' k'), (7, I ((i : Nat) : Int))] ∧ Sat W w (c' :: [(b0, .cells (encJob j).toArray 28 (0, 0))] :: H :: F) ∧ i ≤ j.stages.n ∧ Enc bs' ((([j.priority, (j.inputs.n : Int)] ++ j.inputs.l.flatMap (fun x => nPlane x.v)) ++ [(j.stages.n : Int)]) ++ (j.stages.l.take i).flatMap (fun x => nStage x.v)) ∧ OwnT encB 5 1 a' n' k' bs' c' ∧ bs'.length = n') (fun ⟨i, a', n', k', c', bs'⟩ => j.stages.n - i) (0, z3, b4, d4, x0, y1) ⟨alA, i2, Nat.zero_le _, by simpa using f4, o0, o0.len⟩ ?_
 skip
 rintro ⟨i, a', n', k', c', bs'⟩ ρ _ ⟨hA, f0, hi, hp, hO', hbl'⟩
 refine cAnchor hA (fun ρ => ?_)
 clear hA
 refine seqE <| sR <| pu2 ?_
 refine sL f0 1 1 (.slice j.stages.a j.stages.n j.stages.k) (Try.isAgg26 _) ?_
 refine pu3 ?_
 by_cases j2 : (((i : Nat) : Int) : Int) < ((j.stages.n : Nat) : Int)
 rotate_left
 ·refine sFix 57 _ false (decide_eq_false j2) ?_
  refine pu4 <| nT <| cFf ?_
  refine exitE (xB <| ?_)
  refine thenK_n ?_
  have k2 := (((f0.pick 2 rfl).pick 2 rfl).pick 2 rfl)
  change Sat _ _ (c' :: [(b0, .cells (encJob j).toArray 28 (0, 0))] :: H :: F) at k2
  have hEz : Enc bs' ((([j.priority, (j.inputs.n : Int)] ++ j.inputs.l.flatMap (fun x => nPlane x.v)) ++ [(j.stages.n : Int)]) ++ j.stages.l.flatMap (fun x => nStage x.v)) := by
   by_cases hi2 : i = j.stages.n
   ·rwa [flat_all om] at hp
   ·refine Enc.more om (Nat.le_trans hp.le ?_)
    simp only [List.length_append]
    have := flat_take_le (f := (fun x => nStage x.v)) j.stages.l i
    omega
  exact ⟨a', n', k', c', bs', alA, k2, hEz, hO', hbl', by have h1 := hEz.le; simp only [List.length_append, List.length_cons, List.length_nil] at h1; omega⟩
 refine sFix 57 _ true (decide_eq_true j2) ?_
 refine pu4 <| nT ?_
 by_cases l2 : (((n' : Nat) : Int) : Int) ≤ 262144
 rotate_left
 ·refine cF _ (decide_eq_false l2) ?_
  refine exitE (xB <| ?_)
  refine thenK_n ?_
  have m2 := (((f0.pick 2 rfl).pick 2 rfl).pick 2 rfl)
  change Sat _ _ (c' :: [(b0, .cells (encJob j).toArray 28 (0, 0))] :: H :: F) at m2
  have hEz : Enc bs' ((([j.priority, (j.inputs.n : Int)] ++ j.inputs.l.flatMap (fun x => nPlane x.v)) ++ [(j.stages.n : Int)]) ++ j.stages.l.flatMap (fun x => nStage x.v)) := by
   by_cases hi2 : i = j.stages.n
   ·rwa [flat_all om] at hp
   ·refine Enc.more om (Nat.le_trans hp.le ?_)
    simp only [List.length_append]
    have := flat_take_le (f := (fun x => nStage x.v)) j.stages.l i
    omega
  exact ⟨a', n', k', c', bs', alA, m2, hEz, hO', hbl', by have h1 := hEz.le; simp only [List.length_append, List.length_cons, List.length_nil] at h1; omega⟩
 refine cT _ (decide_eq_true l2) ?_
 refine kT <| seqE <| blockE <| regionE <| pu2 ?_
 refine sL f0 1 1 (.slice j.stages.a j.stages.n j.stages.k) (Try.isAgg26 _) ?_
 refine pu1 ?_
 refine sIdx hj.stages ((i : Nat) : Int) Try.runUnderlying26 Try.sizeOf61 ?_
 intro c0 _ _ d0 i4
 rw [Int.toNat_natCast] at d0
 have hl_x_120_weights := (hj.stagesD c0 (List.mem_of_getElem? d0)).weights.len
 have hl_x_120_row := (hj.stagesD c0 (List.mem_of_getElem? d0)).row.len
 have hl_x_120_col := (hj.stagesD c0 (List.mem_of_getElem? d0)).col.len
 have hl_x_120_x := (hj.stagesD c0 (List.mem_of_getElem? d0)).x.len
 have hl_x_120_y := (hj.stagesD c0 (List.mem_of_getElem? d0)).y.len
 have hl_x_120_ops := (hj.stagesD c0 (List.mem_of_getElem? d0)).ops.len
 have hfl := flat_le (f := (fun x => nStage x.v)) d0
 have hEle := hp.le
 simp only [List.length_append, List.length_cons, List.length_nil] at hEle
 refine sLpA f0 (i4.up 2 rfl) 0 (encStage c0) (Try.isAgg61 _) (Try.sizeOf61 _) ?_
 have n2 := ((f0.pick 2 rfl).pick 1 rfl)
 change Sat _ _ (c' :: H :: [(b0, .cells (encJob j).toArray 28 (0, 0))] :: F) at n2
 refine sF #[.slice a' n' k', .agg (encStage c0).toArray] Try.call37 (Calls.mono (ref_stage W _ _ _ _ _ _ _ _ hO' c0 (hj.stagesD c0 (List.mem_of_getElem? d0)) om n2) ?_)
 rintro _ _ ⟨j4, l4, m4, z0, rfl, _, p0, o2⟩
 refine ⟨_, rfl, ?_⟩
 generalize o4 : bs' ++ bytesOf (nStage c0.v) = p2 at p0
 have e6 := p0.len
 change Sat _ _ (z0 :: H :: [(b0, .cells (encJob j).toArray 28 (0, 0))] :: F) at o2
 refine pu1 <| nB <| regionE <| pu1 ?_
 refine sAdd ((i : Nat) : Int) 1 ?_
 refine pu1 <| nT ?_
 have q2 := (((o2.pick 1 rfl).pick 2 rfl).pick 2 rfl)
 change Sat _ _ (z0 :: [(b0, .cells (encJob j).toArray 28 (0, 0))] :: H :: F) at q2
 have hstep : p2 = bs' ++ bytesOf ((fun x => nStage x.v) c0) := by subst o4; first | rfl | (simp only [bytesOf_one, bytesOf_app, bytesOf_cons, nTap, nOp, nPlane, nInts, List.append_assoc, List.cons_append, List.nil_append]; done) | (simp [bytesOf, nTap, nOp, nPlane, nInts, Plane.v, Tap.v]; done)
 have hEn := hp.app ((fun x => nStage x.v) c0)
 rw [← hstep, List.append_assoc, ← flat_step (f := (fun x => nStage x.v)) d0] at hEn
 exact ⟨(i + 1, j4, l4, m4, z0, p2), by dsimp only; omega, alA, q2, om, hEn, p0, p0.len⟩
end Go.Proofs.Ytcddcpaodcjecaa
