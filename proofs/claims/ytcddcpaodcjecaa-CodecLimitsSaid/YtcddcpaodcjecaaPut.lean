import Derived.Test.YtcddcpaodcjecaaWr
namespace Go.Proofs.Ytcddcpaodcjecaa
open Go Go.E
set_option linter.unusedVariables false
set_option linter.unusedSimpArgs false
set_option linter.unnecessarySimpa false
set_option maxRecDepth 100000

theorem flat_step {α : Type} {f : α → List Int} {l : List α} {i : Nat} {x : α} (hx : l[i]? = some x) : (l.take (i + 1)).flatMap f = (l.take i).flatMap f ++ f x := by
  rw [List.take_add_one, hx, Option.toList_some, List.flatMap_append]; simp
theorem flat_le {α : Type} {f : α → List Int} {l : List α} {i : Nat} {x : α} (hx : l[i]? = some x) : ((l.take i).flatMap f).length + (f x).length ≤ (l.flatMap f).length := by
  have h := congrArg List.length (flat_step (f := f) hx)
  have h2 : l.flatMap f = (l.take (i + 1)).flatMap f ++ (l.drop (i + 1)).flatMap f := by rw [← List.flatMap_append, List.take_append_drop]
  have h3 := congrArg List.length h2
  simp only [List.length_append] at h h3
  omega
theorem flat_all {α : Type} {f : α → List Int} {l : List α} {i : Nat} (hi : i = l.length) : (l.take i).flatMap f = l.flatMap f := by subst hi; rw [List.take_length]
/-- What the reference has written of the numbers L: all, or too much already. -/
def Enc (bs L : List Int) : Prop := bs = [84, 70, 1] ++ bytesOf L ∨ (262144 < bs.length ∧ bs.length ≤ 3 + 8 * L.length)
theorem Enc.app {bs L : List Int} (h : Enc bs L) (M : List Int) : Enc (bs ++ bytesOf M) (L ++ M) := by
  rcases h with h | ⟨h1, h2⟩
  · left; rw [h, bytesOf_app]; simp
  · right; simp only [List.length_append, bytesOf_len]; omega
theorem Enc.more {bs L : List Int} (h : 262144 < bs.length) (h2 : bs.length ≤ 3 + 8 * L.length) : Enc bs L := .inr ⟨h, h2⟩
theorem Enc.le {bs L : List Int} (h : Enc bs L) : bs.length ≤ 3 + 8 * L.length := by
  rcases h with h | h
  · rw [h]; simp [bytesOf_len]; omega
  · exact h.2
theorem nTap_len (t : Tap) : (nTap t.v).length = 2 + t.weights.l.length := by simp [nTap, nInts, Tap.v]; omega
theorem nPlane_len (t : Plane) : (nPlane t.v).length = 4 + t.pix.l.length := by simp [nPlane, nInts, Plane.v]; omega
theorem nOps_len (l : List POp) : (l.flatMap nOp).length = 2 * l.length := by
  induction l with
  | nil => rfl
  | cons x l ih => simp [nOp, ih]; omega
theorem nStage_len (q : Stage) : (nStage q.v).length = 16 + q.weights.l.length + q.row.l.length + q.col.l.length + (nTaps (q.x.l.map Tap.v)).length + (nTaps (q.y.l.map Tap.v)).length + (q.ops.l.flatMap nOp).length := by
  simp only [nStage, nInts, nOps, Stage.v, List.length_append, List.length_cons, List.length_nil]; omega
theorem nJob_len (j : Job) : (nJob j.v).length = 4 + (j.inputs.l.flatMap (fun x => nPlane x.v)).length + (j.stages.l.flatMap (fun x => nStage x.v)).length + j.outputs.l.length := by
  simp only [nJob, nInts, Job.v, List.length_append, List.length_cons, List.length_nil, List.flatMap_map]; omega
theorem flat_take_le {α : Type} {f : α → List Int} (l : List α) (i : Nat) : ((l.take i).flatMap f).length ≤ (l.flatMap f).length := by
  conv => rhs; rw [← List.take_append_drop i l, List.flatMap_append, List.length_append]
  omega
theorem bytesOf_one (x : Int) : bytesOf [x] = be8 x := by simp [bytesOf]
theorem ref_put (W w : World) (H : Chunk) (F : List Chunk) (a : Option Addr) (n k : Nat) (c : Chunk) (bs : List Int) (hO : OwnT encB 5 1 a n k bs c) (x : Int) (hb : n + 8 ≤ 1099511627776) (hS : Sat W w (c :: H :: F)) :
    Calls Try.prog 35 #[.slice a n k, .int .i64 x] w fun e w' => ∃ (a' : Option Addr) (n' k' : Nat) (c' : Chunk), e = .returned (.slice a' n' k') ∧ n' = n + 8 ∧ OwnT encB 5 1 a' n' k' (bs ++ bytesOf ([x])) c' ∧ Sat W w' (c' :: H :: F) := by
  have hbl := hO.len
  refine callsE (n := 22) Try.func35 rfl rfl (Nat.le_of_ble_eq_true rfl) ?_
  refine seqE ?_
  refine regionE ?_
  refine p1 (by kernel_rfl) ?_
  refine nilO ?_
  refine thenK_n <| ?_
  refine seqE ?_
  refine regionE ?_
  refine p1 (by kernel_rfl) ?_
  refine stepY (.int .u64 (x % 18446744073709551616)) rfl rfl (Y_conv (k := .i64) (a := x) Try.underlying3 Try.underlying95 (wrap_u64 _) rfl (by kernel_rfl)) ?_
  refine p1 (by kernel_rfl) ?_
  refine nilO ?_
  refine thenK_n <| ?_
  refine seqE ?_
  refine seqE ?_
  refine regionE ?_
  refine p1 (by kernel_rfl) ?_
  refine nilO ?_
  refine thenK_n <| ?_
  refine blockE ?_
  refine loopN 9 ?_
  refine roundS ?_
  refine seqE ?_
  refine seqE ?_
  refine regionE ?_
  refine p2 (by kernel_rfl) ?_
  refine nilO ?_
  refine thenK_n <| ?_
  refine condE_true (by kernel_rfl) ?_
  refine skipE ?_
  refine thenK_n <| ?_
  refine seqE ?_
  refine blockE ?_
  refine regionE ?_
  refine p3 (by kernel_rfl) ?_
  refine stepY (.int .u64 56) rfl rfl (Y_conv (k := .i64) (a := 56) Try.underlying3 Try.underlying98 (by decide) rfl (by kernel_rfl)) ?_
  refine stepY (.int .u64 ((x % 18446744073709551616) / 72057594037927936)) rfl rfl (Y_shr .u64 .u64 (x % 18446744073709551616) 56 72057594037927936 rfl (by kernel_rfl) (by kernel_rfl) (by decide) (by decide)) ?_
  refine stepY (.int .u8 (((x % 18446744073709551616) / 72057594037927936) % 256)) rfl rfl (Y_conv (k := .u64) (a := ((x % 18446744073709551616) / 72057594037927936)) Try.underlying95 Try.underlying5 (wrap_u8 _) rfl (by kernel_rfl)) ?_
  refine sBS hS #[.int .u8 (((x % 18446744073709551616) / 72057594037927936) % 256)] Try.runUnderlying31 Try.sizeOf5 Try.zeroValue5 ?_
  intro b_1 w_2 hS_3
  refine sApp (nb := 1) hS_3 hO 1 (RdT.blk (enc := encB) (sz := 1) (xs := [(((x % 18446744073709551616) / 72057594037927936) % 256)]) (fun _ => rfl) 1 0 rfl rfl rfl (by omega)) Try.underlying31 (i := Try.t5) (by kernel_rfl) (fun _ => rfl) ?_
  intro a_4 cap_5 c_6 w_7 hO_8 hS_9
  try dsimp only [List.set, List.eraseIdx] at hS_9
  refine p1 (by kernel_rfl) ?_
  refine nilO ?_
  refine blockK_n <| thenK_n <| ?_
  refine regionE ?_
  refine p3 (by kernel_rfl) ?_
  refine nilO ?_
  refine thenK_n <| ?_
  refine roundS ?_
  refine seqE ?_
  refine seqE ?_
  refine regionE ?_
  refine p2 (by kernel_rfl) ?_
  refine nilO ?_
  refine thenK_n <| ?_
  refine condE_true (by kernel_rfl) ?_
  refine skipE ?_
  refine thenK_n <| ?_
  refine seqE ?_
  refine blockE ?_
  refine regionE ?_
  refine p3 (by kernel_rfl) ?_
  refine stepY (.int .u64 48) rfl rfl (Y_conv (k := .i64) (a := 48) Try.underlying3 Try.underlying98 (by decide) rfl (by kernel_rfl)) ?_
  refine stepY (.int .u64 ((x % 18446744073709551616) / 281474976710656)) rfl rfl (Y_shr .u64 .u64 (x % 18446744073709551616) 48 281474976710656 rfl (by kernel_rfl) (by kernel_rfl) (by decide) (by decide)) ?_
  refine stepY (.int .u8 (((x % 18446744073709551616) / 281474976710656) % 256)) rfl rfl (Y_conv (k := .u64) (a := ((x % 18446744073709551616) / 281474976710656)) Try.underlying95 Try.underlying5 (wrap_u8 _) rfl (by kernel_rfl)) ?_
  refine sBS hS_9 #[.int .u8 (((x % 18446744073709551616) / 281474976710656) % 256)] Try.runUnderlying31 Try.sizeOf5 Try.zeroValue5 ?_
  intro b_10 w_11 hS_12
  refine sApp (nb := 1) hS_12 hO_8 2 (RdT.blk (enc := encB) (sz := 1) (xs := [(((x % 18446744073709551616) / 281474976710656) % 256)]) (fun _ => rfl) 1 0 rfl rfl rfl (by omega)) Try.underlying31 (i := Try.t5) (by kernel_rfl) (fun _ => rfl) ?_
  intro a_13 cap_14 c_15 w_16 hO_17 hS_18
  try dsimp only [List.set, List.eraseIdx] at hS_18
  refine p1 (by kernel_rfl) ?_
  refine nilO ?_
  refine blockK_n <| thenK_n <| ?_
  refine regionE ?_
  refine p3 (by kernel_rfl) ?_
  refine nilO ?_
  refine thenK_n <| ?_
  refine roundS ?_
  refine seqE ?_
  refine seqE ?_
  refine regionE ?_
  refine p2 (by kernel_rfl) ?_
  refine nilO ?_
  refine thenK_n <| ?_
  refine condE_true (by kernel_rfl) ?_
  refine skipE ?_
  refine thenK_n <| ?_
  refine seqE ?_
  refine blockE ?_
  refine regionE ?_
  refine p3 (by kernel_rfl) ?_
  refine stepY (.int .u64 40) rfl rfl (Y_conv (k := .i64) (a := 40) Try.underlying3 Try.underlying98 (by decide) rfl (by kernel_rfl)) ?_
  refine stepY (.int .u64 ((x % 18446744073709551616) / 1099511627776)) rfl rfl (Y_shr .u64 .u64 (x % 18446744073709551616) 40 1099511627776 rfl (by kernel_rfl) (by kernel_rfl) (by decide) (by decide)) ?_
  refine stepY (.int .u8 (((x % 18446744073709551616) / 1099511627776) % 256)) rfl rfl (Y_conv (k := .u64) (a := ((x % 18446744073709551616) / 1099511627776)) Try.underlying95 Try.underlying5 (wrap_u8 _) rfl (by kernel_rfl)) ?_
  refine sBS hS_18 #[.int .u8 (((x % 18446744073709551616) / 1099511627776) % 256)] Try.runUnderlying31 Try.sizeOf5 Try.zeroValue5 ?_
  intro b_19 w_20 hS_21
  refine sApp (nb := 1) hS_21 hO_17 3 (RdT.blk (enc := encB) (sz := 1) (xs := [(((x % 18446744073709551616) / 1099511627776) % 256)]) (fun _ => rfl) 1 0 rfl rfl rfl (by omega)) Try.underlying31 (i := Try.t5) (by kernel_rfl) (fun _ => rfl) ?_
  intro a_22 cap_23 c_24 w_25 hO_26 hS_27
  try dsimp only [List.set, List.eraseIdx] at hS_27
  refine p1 (by kernel_rfl) ?_
  refine nilO ?_
  refine blockK_n <| thenK_n <| ?_
  refine regionE ?_
  refine p3 (by kernel_rfl) ?_
  refine nilO ?_
  refine thenK_n <| ?_
  refine roundS ?_
  refine seqE ?_
  refine seqE ?_
  refine regionE ?_
  refine p2 (by kernel_rfl) ?_
  refine nilO ?_
  refine thenK_n <| ?_
  refine condE_true (by kernel_rfl) ?_
  refine skipE ?_
  refine thenK_n <| ?_
  refine seqE ?_
  refine blockE ?_
  refine regionE ?_
  refine p3 (by kernel_rfl) ?_
  refine stepY (.int .u64 32) rfl rfl (Y_conv (k := .i64) (a := 32) Try.underlying3 Try.underlying98 (by decide) rfl (by kernel_rfl)) ?_
  refine stepY (.int .u64 ((x % 18446744073709551616) / 4294967296)) rfl rfl (Y_shr .u64 .u64 (x % 18446744073709551616) 32 4294967296 rfl (by kernel_rfl) (by kernel_rfl) (by decide) (by decide)) ?_
  refine stepY (.int .u8 (((x % 18446744073709551616) / 4294967296) % 256)) rfl rfl (Y_conv (k := .u64) (a := ((x % 18446744073709551616) / 4294967296)) Try.underlying95 Try.underlying5 (wrap_u8 _) rfl (by kernel_rfl)) ?_
  refine sBS hS_27 #[.int .u8 (((x % 18446744073709551616) / 4294967296) % 256)] Try.runUnderlying31 Try.sizeOf5 Try.zeroValue5 ?_
  intro b_28 w_29 hS_30
  refine sApp (nb := 1) hS_30 hO_26 4 (RdT.blk (enc := encB) (sz := 1) (xs := [(((x % 18446744073709551616) / 4294967296) % 256)]) (fun _ => rfl) 1 0 rfl rfl rfl (by omega)) Try.underlying31 (i := Try.t5) (by kernel_rfl) (fun _ => rfl) ?_
  intro a_31 cap_32 c_33 w_34 hO_35 hS_36
  try dsimp only [List.set, List.eraseIdx] at hS_36
  refine p1 (by kernel_rfl) ?_
  refine nilO ?_
  refine blockK_n <| thenK_n <| ?_
  refine regionE ?_
  refine p3 (by kernel_rfl) ?_
  refine nilO ?_
  refine thenK_n <| ?_
  refine roundS ?_
  refine seqE ?_
  refine seqE ?_
  refine regionE ?_
  refine p2 (by kernel_rfl) ?_
  refine nilO ?_
  refine thenK_n <| ?_
  refine condE_true (by kernel_rfl) ?_
  refine skipE ?_
  refine thenK_n <| ?_
  refine seqE ?_
  refine blockE ?_
  refine regionE ?_
  refine p3 (by kernel_rfl) ?_
  refine stepY (.int .u64 24) rfl rfl (Y_conv (k := .i64) (a := 24) Try.underlying3 Try.underlying98 (by decide) rfl (by kernel_rfl)) ?_
  refine stepY (.int .u64 ((x % 18446744073709551616) / 16777216)) rfl rfl (Y_shr .u64 .u64 (x % 18446744073709551616) 24 16777216 rfl (by kernel_rfl) (by kernel_rfl) (by decide) (by decide)) ?_
  refine stepY (.int .u8 (((x % 18446744073709551616) / 16777216) % 256)) rfl rfl (Y_conv (k := .u64) (a := ((x % 18446744073709551616) / 16777216)) Try.underlying95 Try.underlying5 (wrap_u8 _) rfl (by kernel_rfl)) ?_
  refine sBS hS_36 #[.int .u8 (((x % 18446744073709551616) / 16777216) % 256)] Try.runUnderlying31 Try.sizeOf5 Try.zeroValue5 ?_
  intro b_37 w_38 hS_39
  refine sApp (nb := 1) hS_39 hO_35 5 (RdT.blk (enc := encB) (sz := 1) (xs := [(((x % 18446744073709551616) / 16777216) % 256)]) (fun _ => rfl) 1 0 rfl rfl rfl (by omega)) Try.underlying31 (i := Try.t5) (by kernel_rfl) (fun _ => rfl) ?_
  intro a_40 cap_41 c_42 w_43 hO_44 hS_45
  try dsimp only [List.set, List.eraseIdx] at hS_45
  refine p1 (by kernel_rfl) ?_
  refine nilO ?_
  refine blockK_n <| thenK_n <| ?_
  refine regionE ?_
  refine p3 (by kernel_rfl) ?_
  refine nilO ?_
  refine thenK_n <| ?_
  refine roundS ?_
  refine seqE ?_
  refine seqE ?_
  refine regionE ?_
  refine p2 (by kernel_rfl) ?_
  refine nilO ?_
  refine thenK_n <| ?_
  refine condE_true (by kernel_rfl) ?_
  refine skipE ?_
  refine thenK_n <| ?_
  refine seqE ?_
  refine blockE ?_
  refine regionE ?_
  refine p3 (by kernel_rfl) ?_
  refine stepY (.int .u64 16) rfl rfl (Y_conv (k := .i64) (a := 16) Try.underlying3 Try.underlying98 (by decide) rfl (by kernel_rfl)) ?_
  refine stepY (.int .u64 ((x % 18446744073709551616) / 65536)) rfl rfl (Y_shr .u64 .u64 (x % 18446744073709551616) 16 65536 rfl (by kernel_rfl) (by kernel_rfl) (by decide) (by decide)) ?_
  refine stepY (.int .u8 (((x % 18446744073709551616) / 65536) % 256)) rfl rfl (Y_conv (k := .u64) (a := ((x % 18446744073709551616) / 65536)) Try.underlying95 Try.underlying5 (wrap_u8 _) rfl (by kernel_rfl)) ?_
  refine sBS hS_45 #[.int .u8 (((x % 18446744073709551616) / 65536) % 256)] Try.runUnderlying31 Try.sizeOf5 Try.zeroValue5 ?_
  intro b_46 w_47 hS_48
  refine sApp (nb := 1) hS_48 hO_44 6 (RdT.blk (enc := encB) (sz := 1) (xs := [(((x % 18446744073709551616) / 65536) % 256)]) (fun _ => rfl) 1 0 rfl rfl rfl (by omega)) Try.underlying31 (i := Try.t5) (by kernel_rfl) (fun _ => rfl) ?_
  intro a_49 cap_50 c_51 w_52 hO_53 hS_54
  try dsimp only [List.set, List.eraseIdx] at hS_54
  refine p1 (by kernel_rfl) ?_
  refine nilO ?_
  refine blockK_n <| thenK_n <| ?_
  refine regionE ?_
  refine p3 (by kernel_rfl) ?_
  refine nilO ?_
  refine thenK_n <| ?_
  refine roundS ?_
  refine seqE ?_
  refine seqE ?_
  refine regionE ?_
  refine p2 (by kernel_rfl) ?_
  refine nilO ?_
  refine thenK_n <| ?_
  refine condE_true (by kernel_rfl) ?_
  refine skipE ?_
  refine thenK_n <| ?_
  refine seqE ?_
  refine blockE ?_
  refine regionE ?_
  refine p3 (by kernel_rfl) ?_
  refine stepY (.int .u64 8) rfl rfl (Y_conv (k := .i64) (a := 8) Try.underlying3 Try.underlying98 (by decide) rfl (by kernel_rfl)) ?_
  refine stepY (.int .u64 ((x % 18446744073709551616) / 256)) rfl rfl (Y_shr .u64 .u64 (x % 18446744073709551616) 8 256 rfl (by kernel_rfl) (by kernel_rfl) (by decide) (by decide)) ?_
  refine stepY (.int .u8 (((x % 18446744073709551616) / 256) % 256)) rfl rfl (Y_conv (k := .u64) (a := ((x % 18446744073709551616) / 256)) Try.underlying95 Try.underlying5 (wrap_u8 _) rfl (by kernel_rfl)) ?_
  refine sBS hS_54 #[.int .u8 (((x % 18446744073709551616) / 256) % 256)] Try.runUnderlying31 Try.sizeOf5 Try.zeroValue5 ?_
  intro b_55 w_56 hS_57
  refine sApp (nb := 1) hS_57 hO_53 7 (RdT.blk (enc := encB) (sz := 1) (xs := [(((x % 18446744073709551616) / 256) % 256)]) (fun _ => rfl) 1 0 rfl rfl rfl (by omega)) Try.underlying31 (i := Try.t5) (by kernel_rfl) (fun _ => rfl) ?_
  intro a_58 cap_59 c_60 w_61 hO_62 hS_63
  try dsimp only [List.set, List.eraseIdx] at hS_63
  refine p1 (by kernel_rfl) ?_
  refine nilO ?_
  refine blockK_n <| thenK_n <| ?_
  refine regionE ?_
  refine p3 (by kernel_rfl) ?_
  refine nilO ?_
  refine thenK_n <| ?_
  refine roundS ?_
  refine seqE ?_
  refine seqE ?_
  refine regionE ?_
  refine p2 (by kernel_rfl) ?_
  refine nilO ?_
  refine thenK_n <| ?_
  refine condE_true (by kernel_rfl) ?_
  refine skipE ?_
  refine thenK_n <| ?_
  refine seqE ?_
  refine blockE ?_
  refine regionE ?_
  refine p3 (by kernel_rfl) ?_
  refine stepY (.int .u64 0) rfl rfl (Y_conv (k := .i64) (a := 0) Try.underlying3 Try.underlying98 (by decide) rfl (by kernel_rfl)) ?_
  refine stepY (.int .u64 ((x % 18446744073709551616) / 1)) rfl rfl (Y_shr .u64 .u64 (x % 18446744073709551616) 0 1 rfl (by kernel_rfl) (by kernel_rfl) (by decide) (by decide)) ?_
  refine stepY (.int .u8 (((x % 18446744073709551616) / 1) % 256)) rfl rfl (Y_conv (k := .u64) (a := ((x % 18446744073709551616) / 1)) Try.underlying95 Try.underlying5 (wrap_u8 _) rfl (by kernel_rfl)) ?_
  refine sBS hS_63 #[.int .u8 (((x % 18446744073709551616) / 1) % 256)] Try.runUnderlying31 Try.sizeOf5 Try.zeroValue5 ?_
  intro b_64 w_65 hS_66
  refine sApp (nb := 1) hS_66 hO_62 8 (RdT.blk (enc := encB) (sz := 1) (xs := [(((x % 18446744073709551616) / 1) % 256)]) (fun _ => rfl) 1 0 rfl rfl rfl (by omega)) Try.underlying31 (i := Try.t5) (by kernel_rfl) (fun _ => rfl) ?_
  intro a_67 cap_68 c_69 w_70 hO_71 hS_72
  try dsimp only [List.set, List.eraseIdx] at hS_72
  refine p1 (by kernel_rfl) ?_
  refine nilO ?_
  refine blockK_n <| thenK_n <| ?_
  refine regionE ?_
  refine p3 (by kernel_rfl) ?_
  refine nilO ?_
  refine thenK_n <| ?_
  refine roundS ?_
  refine seqE ?_
  refine seqE ?_
  refine regionE ?_
  refine p2 (by kernel_rfl) ?_
  refine nilO ?_
  refine thenK_n <| ?_
  refine condE_false (by kernel_rfl) ?_
  refine exitE (thenK_x <| thenK_x <| blockK_x <| ?_)
  refine thenK_n <| ?_
  refine seqE ?_
  refine regionE ?_
  refine p2 (by kernel_rfl) ?_
  refine nilO ?_
  refine thenK_n <| ?_
  refine retE ?_
  refine retN (vs := [.slice a_67 ((((((((n + 1) + 1) + 1) + 1) + 1) + 1) + 1) + 1) cap_68]) rfl (.cons (.tmp _ _ (by kernel_rfl)) .nil) <| ?_
  have hS_73 := hS_72.pick 9 rfl
  have hS_74 := hS_73.pick 9 rfl
  try dsimp only [List.set, List.eraseIdx] at hS_74
  have hS_75 := hS_74.dropAt 2 rfl
  have hS_76 := hS_75.dropAt 2 rfl
  have hS_77 := hS_76.dropAt 2 rfl
  have hS_78 := hS_77.dropAt 2 rfl
  have hS_79 := hS_78.dropAt 2 rfl
  have hS_80 := hS_79.dropAt 2 rfl
  have hS_81 := hS_80.dropAt 2 rfl
  have hS_82 := hS_81.dropAt 2 rfl
  change Sat _ _ (c_69 :: H :: F) at hS_82
  refine ⟨a_67, _, _, _, rfl, rfl, ?_, hS_82⟩
  have e := hO_71
  rw [bytesOf_one]; simpa only [be8, List.append_assoc, List.cons_append, List.nil_append] using e
theorem ref_puts (W w : World) (H : Chunk) (F : List Chunk) (a : Option Addr) (n k : Nat) (c : Chunk) (bs : List Int) (hO : OwnT encB 5 1 a n k bs c) (la : Option Addr) (ln lk : Nat) (l : List Int) (hR : RdT encI 1 [H] la ln lk l) (hb : n + 8 * (ln + 1) ≤ 1099511627776) (hS : Sat W w (c :: H :: F)) :
    Calls Try.prog 36 #[.slice a n k, .slice la ln lk] w fun e w' => ∃ (a' : Option Addr) (n' k' : Nat) (c' : Chunk), e = .returned (.slice a' n' k') ∧ n' = n + 8 * (ln + 1) ∧ OwnT encB 5 1 a' n' k' (bs ++ bytesOf (nInts l)) c' ∧ Sat W w' (c' :: H :: F) := by
  have hbl := hO.len
  have hle := hR.le; have hll := hR.len
  refine callsE (n := 23) Try.func36 rfl rfl (Nat.le_of_ble_eq_true rfl) ?_
  refine seqE ?_
  refine regionE ?_
  refine p1 (by kernel_rfl) ?_
  refine nilO ?_
  refine thenK_n <| ?_
  refine seqE ?_
  refine regionE ?_
  refine p3 (by kernel_rfl) ?_
  have hS_1 := hS.pick 1 rfl
  have hS_2 := hS_1.pick 1 rfl
  change Sat _ _ (c :: H :: F) at hS_2
  refine sF #[.slice a n k, .int .i64 ((ln : Nat) : Int)] Try.call35 (Calls.mono (ref_put W _ _ _ _ _ _ _ _ hO ((ln : Nat) : Int) (by omega) hS_2) ?_)
  rintro _ w_3 ⟨a_5, n_6, k_7, c_8, rfl, hn_9, hO_10, hS_4⟩
  refine ⟨_, rfl, ?_⟩
  generalize eb_12 : bs ++ bytesOf ([((ln : Nat) : Int)]) = bs_11 at hO_10
  have hbl_13 := hO_10.len
  change Sat _ _ (c_8 :: H :: F) at hS_4
  refine p1 (by kernel_rfl) ?_
  refine nilO ?_
  refine thenK_n <| ?_
  refine seqE ?_
  refine seqE ?_
  refine regionE ?_
  refine p1 (by kernel_rfl) ?_
  refine nilO ?_
  refine thenK_n <| ?_
  refine blockE ?_
  have hS_14 := hS_4.pick 1 rfl
  have hS_15 := hS_14.pick 1 rfl
  change Sat _ _ (c_8 :: H :: F) at hS_15
  change Sat _ _ (c_8 :: H :: F) at hS_15
  refine loopE (γ := Nat × (Option Addr) × Nat × Nat × Chunk × (List Int)) (fun ⟨i, a', n', k', c', bs'⟩ ρ w => AllAt ρ [(1, .slice la ln lk), (0, .slice a' n' k'), (5, .int .i64 ((i : Nat) : Int))] ∧ Sat W w (c' :: H :: F) ∧ i ≤ ln ∧ bs' = bs_11 ++ bytesOf ((l.take i).flatMap (fun x => [x])) ∧ OwnT encB 5 1 a' n' k' bs' c' ∧ bs'.length = n' ∧ n' = n_6 + 8 * ((l.take i).flatMap (fun x => [x])).length) (fun ⟨i, a', n', k', c', bs'⟩ => ln - i) (0, a_5, n_6, k_7, c_8, bs_11) ⟨⟨by kernel_rfl, by kernel_rfl, by kernel_rfl, trivial⟩, hS_15, Nat.zero_le _, by simp [bytesOf], hO_10, hO_10.len, by simp⟩ ?_
  skip
  rintro ⟨i, a', n', k', c', bs'⟩ ρ w_16 ⟨hA, hS_17, hi, hp, hO', hbl', hn'⟩
  refine cAnchor hA (fun ρ => ?_)
  clear hA
  refine seqE ?_
  refine seqE ?_
  refine regionE ?_
  refine p4 (by kernel_rfl) ?_
  refine nilO ?_
  refine thenK_n <| ?_
  by_cases hc_18 : (((i : Nat) : Int) : Int) < ((ln : Nat) : Int)
  · refine cT (decide ((((i : Nat) : Int) : Int) < ((ln : Nat) : Int))) (decide_eq_true hc_18) ?_
    refine skipE ?_
    refine thenK_n <| ?_
    refine seqE ?_
    refine blockE ?_
    have htk : ((l.take i).flatMap (fun x => [x])).length = i := by rw [flat_one]; simp; omega
    refine regionE ?_
    refine p3 (by kernel_rfl) ?_
    refine sIdx hR ((i : Nat) : Int) Try.runUnderlying22 Try.sizeOf3 ?_
    intro x_19 b_20 o_21 hx_22 hp_23
    rw [Int.toNat_natCast] at hx_22
    have hfl_x_19 := flat_le (f := (fun x => [x])) hx_22
    have hlx_x_19 : [x_19].length = 1 := rfl
    refine sLp hS_17 (hp_23.up 1 rfl) 0 (.int .i64 x_19) (Try.isAgg3 _) ?_
    have hS_24 := hS_17.pick 1 rfl
    have hS_25 := hS_24.pick 1 rfl
    change Sat _ _ (c' :: H :: F) at hS_25
    refine sF #[.slice a' n' k', .int .i64 x_19] Try.call35 (Calls.mono (ref_put W _ _ _ _ _ _ _ _ hO' x_19 (by omega) hS_25) ?_)
    rintro _ w_26 ⟨a_28, n_29, k_30, c_31, rfl, hn_32, hO_33, hS_27⟩
    refine ⟨_, rfl, ?_⟩
    generalize eb_35 : bs' ++ bytesOf ([x_19]) = bs_34 at hO_33
    have hbl_36 := hO_33.len
    change Sat _ _ (c_31 :: H :: F) at hS_27
    refine p1 (by kernel_rfl) ?_
    refine nilO ?_
    refine blockK_n <| thenK_n <| ?_
    refine regionE ?_
    refine p1 (by kernel_rfl) ?_
    refine sAdd ((i : Nat) : Int) 1 ?_
    refine p1 (by kernel_rfl) ?_
    refine nilO ?_
    refine thenK_n <| ?_
    have hS_37 := hS_27.pick 1 rfl
    have hS_38 := hS_37.pick 1 rfl
    change Sat _ _ (c_31 :: H :: F) at hS_38
    change Sat _ _ (c_31 :: H :: F) at hS_38
    have hstep : bs_34 = bs' ++ bytesOf ((fun x => [x]) x_19) := by subst eb_35; first | rfl | (simp only [bytesOf_one, bytesOf_app, bytesOf_cons, nTap, nOp, nPlane, nInts, List.append_assoc, List.cons_append, List.nil_append]; done) | (simp [bytesOf, nTap, nOp, nPlane, nInts, Plane.v, Tap.v]; done)
    have hfs := congrArg List.length (flat_step (f := (fun x => [x])) hx_22)
    rw [List.length_append] at hfs
    have hlb := congrArg List.length hstep; rw [List.length_append, bytesOf_len] at hlb
    have hll2 := hO_33.len
    exact ⟨(i + 1, a_28, n_29, k_30, c_31, bs_34), by dsimp only; omega, ⟨by kernel_rfl, by kernel_rfl, by kernel_rfl, trivial⟩, hS_38, by omega, by rw [hstep, hp, flat_step hx_22, bytesOf_app, List.append_assoc], hO_33, hll2, by omega⟩
  · refine cF (decide ((((i : Nat) : Int) : Int) < ((ln : Nat) : Int))) (decide_eq_false hc_18) ?_
    refine exitE (thenK_x <| thenK_x <| blockK_x <| ?_)
    refine thenK_n <| ?_
    refine seqE ?_
    refine regionE ?_
    refine p2 (by kernel_rfl) ?_
    refine nilO ?_
    refine thenK_n <| ?_
    refine retE ?_
    refine retN (vs := [.slice a' n' k']) rfl (.cons (.tmp _ _ (by kernel_rfl)) .nil) <| ?_
    have hS_39 := hS_17.pick 1 rfl
    have hS_40 := hS_39.pick 1 rfl
    change Sat _ _ (c' :: H :: F) at hS_40
    change Sat _ _ (c' :: H :: F) at hS_40
    have hfin := flat_all (f := (fun x => [x])) (l := l) (i := i) (by omega)
    rw [hfin] at hp hn'
    subst eb_12
    have hM : bs' = bs ++ bytesOf (nInts l) := by rw [hp]; rw [flat_one, ← hll]; simp [nInts, bytesOf]
    subst hM
    have hnn : n' = n + 8 * (ln + 1) := by rw [flat_one] at hn'; omega
    exact ⟨_, _, _, _, rfl, hnn, hO', hS_40⟩
theorem ref_taps (W w : World) (H : Chunk) (F : List Chunk) (a : Option Addr) (n k : Nat) (c : Chunk) (bs : List Int) (hO : OwnT encB 5 1 a n k bs c) (la : Option Addr) (ln lk : Nat) (l : List Tap) (hR : RdT encTap 2 [H] la ln lk l) (hD : ∀ z ∈ l, Tap.Ok [H] z) (hb : n + 8 * (nTaps (l.map Tap.v)).length ≤ 1099511627776) (hS : Sat W w (c :: H :: F)) :
    Calls Try.prog 48 #[.slice a n k, .slice la ln lk] w fun e w' => ∃ (a' : Option Addr) (n' k' : Nat) (c' : Chunk), e = .returned (.slice a' n' k') ∧ n' = n + 8 * (nTaps (l.map Tap.v)).length ∧ OwnT encB 5 1 a' n' k' (bs ++ bytesOf (nTaps (l.map Tap.v))) c' ∧ Sat W w' (c' :: H :: F) := by
  have hbl := hO.len
  have hle := hR.le; have hll := hR.len
  have hnt : (nTaps (l.map Tap.v)).length = 1 + (l.flatMap (fun x => nTap x.v)).length := by simp [nTaps, List.flatMap_map]; omega
  refine callsE (n := 30) Try.func48 rfl rfl (Nat.le_of_ble_eq_true rfl) ?_
  refine seqE ?_
  refine regionE ?_
  refine p1 (by kernel_rfl) ?_
  refine nilO ?_
  refine thenK_n <| ?_
  refine seqE ?_
  refine regionE ?_
  refine p3 (by kernel_rfl) ?_
  have hS_1 := hS.pick 1 rfl
  have hS_2 := hS_1.pick 1 rfl
  change Sat _ _ (c :: H :: F) at hS_2
  refine sF #[.slice a n k, .int .i64 ((ln : Nat) : Int)] Try.call35 (Calls.mono (ref_put W _ _ _ _ _ _ _ _ hO ((ln : Nat) : Int) (by omega) hS_2) ?_)
  rintro _ w_3 ⟨a_5, n_6, k_7, c_8, rfl, hn_9, hO_10, hS_4⟩
  refine ⟨_, rfl, ?_⟩
  generalize eb_12 : bs ++ bytesOf ([((ln : Nat) : Int)]) = bs_11 at hO_10
  have hbl_13 := hO_10.len
  change Sat _ _ (c_8 :: H :: F) at hS_4
  refine p1 (by kernel_rfl) ?_
  refine nilO ?_
  refine thenK_n <| ?_
  refine seqE ?_
  refine seqE ?_
  refine regionE ?_
  refine p1 (by kernel_rfl) ?_
  refine nilO ?_
  refine thenK_n <| ?_
  refine blockE ?_
  have hS_14 := hS_4.pick 1 rfl
  have hS_15 := hS_14.pick 1 rfl
  change Sat _ _ (c_8 :: H :: F) at hS_15
  change Sat _ _ (c_8 :: H :: F) at hS_15
  refine loopE (γ := Nat × (Option Addr) × Nat × Nat × Chunk × (List Int)) (fun ⟨i, a', n', k', c', bs'⟩ ρ w => AllAt ρ [(1, .slice la ln lk), (0, .slice a' n' k'), (5, .int .i64 ((i : Nat) : Int))] ∧ Sat W w (c' :: H :: F) ∧ i ≤ ln ∧ bs' = bs_11 ++ bytesOf ((l.take i).flatMap (fun x => nTap x.v)) ∧ OwnT encB 5 1 a' n' k' bs' c' ∧ bs'.length = n' ∧ n' = n_6 + 8 * ((l.take i).flatMap (fun x => nTap x.v)).length) (fun ⟨i, a', n', k', c', bs'⟩ => ln - i) (0, a_5, n_6, k_7, c_8, bs_11) ⟨⟨by kernel_rfl, by kernel_rfl, by kernel_rfl, trivial⟩, hS_15, Nat.zero_le _, by simp [bytesOf], hO_10, hO_10.len, by simp⟩ ?_
  skip
  rintro ⟨i, a', n', k', c', bs'⟩ ρ w_16 ⟨hA, hS_17, hi, hp, hO', hbl', hn'⟩
  refine cAnchor hA (fun ρ => ?_)
  clear hA
  refine seqE ?_
  refine seqE ?_
  refine regionE ?_
  refine p4 (by kernel_rfl) ?_
  refine nilO ?_
  refine thenK_n <| ?_
  by_cases hc_18 : (((i : Nat) : Int) : Int) < ((ln : Nat) : Int)
  · refine cT (decide ((((i : Nat) : Int) : Int) < ((ln : Nat) : Int))) (decide_eq_true hc_18) ?_
    refine skipE ?_
    refine thenK_n <| ?_
    refine seqE ?_
    refine blockE ?_
    obtain ⟨x_19, b_20, o_21, hx_22, hp_23, hq_24⟩ := RdT.elem hR ((i : Nat) : Int)
    rw [Int.toNat_natCast] at hx_22
    have hl_x_19_weights := (hD x_19 (List.mem_of_getElem? hx_22)).weights.len
    have hfl_x_19 := flat_le (f := (fun x => nTap x.v)) hx_22
    have hlx_x_19 : (nTap x_19.v).length = 2 + x_19.weights.l.length := nTap_len x_19
    refine drawE [6, 12] [(5, ⟨b_20, o_21 + 0, none⟩, .int .i64 x_19.first), (11, ⟨b_20, o_21 + 1, none⟩, .slice x_19.weights.a x_19.weights.n x_19.weights.k)] [(true, [0, 1, 2]), (true, [3]), (true, [4, 7, 8]), (true, [9]), (true, [10]), (true, [5]), (true, [11]), (false, [6]), (false, [12]), (true, [13])] rfl (by kernel_rfl) ⟨.inr ((hp_23.up 1 rfl).cell hS_17 (k := 0) rfl), .inr ((hp_23.up 1 rfl).cell hS_17 (k := 1) rfl), trivial⟩ ?_
    have hS_25 := hS_17.drew
    refine wP [0, 1, 2] rfl (by kernel_rfl) ?_
    refine wS (.pointer (some ⟨b_20, o_21, none⟩)) rfl rfl rfl (fun w _ => Y_idx (a := la) (i := ((i : Nat) : Int)) (len := ln) (cap := lk) rfl Try.runUnderlying58 Try.sizeOf94 (by kernel_rfl) (by kernel_rfl) hq_24) ?_
    refine wP [4, 7, 8] rfl (by kernel_rfl) ?_
    refine wS (.pointer (some ⟨b_20, o_21, none⟩)) rfl rfl rfl (fun w _ => Y_idx (a := la) (i := ((i : Nat) : Int)) (len := ln) (cap := lk) rfl Try.runUnderlying58 Try.sizeOf94 (by kernel_rfl) (by kernel_rfl) hq_24) ?_
    refine wP [10] rfl (by kernel_rfl) ?_
    refine wS (.int .i64 x_19.first) rfl rfl rfl (fun w hF => Y_load rfl (Try.isAgg3 w) (by kernel_rfl) (hF 0 _ _ rfl)) ?_
    refine wS (.slice x_19.weights.a x_19.weights.n x_19.weights.k) rfl rfl rfl (fun w hF => Y_load rfl (Try.isAgg22 w) (by kernel_rfl) (hF 1 _ _ rfl)) ?_
    refine wO rfl ?_
    have hS_26 := hS_25.pick 1 rfl
    have hS_27 := hS_26.pick 1 rfl
    change Sat _ _ (c' :: H :: F) at hS_27
    refine sF #[.slice a' n' k', .int .i64 x_19.first] Try.call35 (Calls.mono (ref_put W _ _ _ _ _ _ _ _ hO' x_19.first (by omega) hS_27) ?_)
    rintro _ w_28 ⟨a_30, n_31, k_32, c_33, rfl, hn_34, hO_35, hS_29⟩
    refine ⟨_, rfl, ?_⟩
    generalize eb_37 : bs' ++ bytesOf ([x_19.first]) = bs_36 at hO_35
    have hbl_38 := hO_35.len
    change Sat _ _ (c_33 :: H :: F) at hS_29
    refine nilO ⟨⟨.inl (by kernel_rfl), .inr ((hp_23.up 1 rfl).cell hS_29 (k := 1) rfl), trivial⟩, ?_⟩
    refine wO rfl ?_
    have hS_39 := hS_29.pick 1 rfl
    have hS_40 := hS_39.pick 1 rfl
    change Sat _ _ (c_33 :: H :: F) at hS_40
    refine sF #[.slice a_30 n_31 k_32, .slice x_19.weights.a x_19.weights.n x_19.weights.k] Try.call36 (Calls.mono (ref_puts W _ _ _ _ _ _ _ _ hO_35 _ _ _ _ (hD x_19 (List.mem_of_getElem? hx_22)).weights (by omega) hS_40) ?_)
    rintro _ w_41 ⟨a_43, n_44, k_45, c_46, rfl, hn_47, hO_48, hS_42⟩
    refine ⟨_, rfl, ?_⟩
    generalize eb_50 : bs_36 ++ bytesOf (nInts x_19.weights.l) = bs_49 at hO_48
    have hbl_51 := hO_48.len
    change Sat _ _ (c_46 :: H :: F) at hS_42
    refine nilO ⟨⟨.inl (by kernel_rfl), .inl (by kernel_rfl), trivial⟩, ?_⟩
    refine wP [13] rfl (by kernel_rfl) ?_
    refine wN ?_
    refine blockK_n <| thenK_n <| ?_
    refine regionE ?_
    refine p1 (by kernel_rfl) ?_
    refine sAdd ((i : Nat) : Int) 1 ?_
    refine p1 (by kernel_rfl) ?_
    refine nilO ?_
    refine thenK_n <| ?_
    have hS_52 := hS_42.pick 1 rfl
    have hS_53 := hS_52.pick 1 rfl
    change Sat _ _ (c_46 :: H :: F) at hS_53
    change Sat _ _ (c_46 :: H :: F) at hS_53
    have hstep : bs_49 = bs' ++ bytesOf ((fun x => nTap x.v) x_19) := by subst eb_50; subst eb_37; first | rfl | (simp only [bytesOf_one, bytesOf_app, bytesOf_cons, nTap, nOp, nPlane, nInts, List.append_assoc, List.cons_append, List.nil_append]; done) | (simp [bytesOf, nTap, nOp, nPlane, nInts, Plane.v, Tap.v]; done)
    have hfs := congrArg List.length (flat_step (f := (fun x => nTap x.v)) hx_22)
    rw [List.length_append] at hfs
    have hlb := congrArg List.length hstep; rw [List.length_append, bytesOf_len] at hlb
    have hll2 := hO_48.len
    exact ⟨(i + 1, a_43, n_44, k_45, c_46, bs_49), by dsimp only; omega, ⟨by kernel_rfl, by kernel_rfl, by kernel_rfl, trivial⟩, hS_53, by omega, by rw [hstep, hp, flat_step hx_22, bytesOf_app, List.append_assoc], hO_48, hll2, by omega⟩
  · refine cF (decide ((((i : Nat) : Int) : Int) < ((ln : Nat) : Int))) (decide_eq_false hc_18) ?_
    refine exitE (thenK_x <| thenK_x <| blockK_x <| ?_)
    refine thenK_n <| ?_
    refine seqE ?_
    refine regionE ?_
    refine p2 (by kernel_rfl) ?_
    refine nilO ?_
    refine thenK_n <| ?_
    refine retE ?_
    refine retN (vs := [.slice a' n' k']) rfl (.cons (.tmp _ _ (by kernel_rfl)) .nil) <| ?_
    have hS_54 := hS_17.pick 1 rfl
    have hS_55 := hS_54.pick 1 rfl
    change Sat _ _ (c' :: H :: F) at hS_55
    change Sat _ _ (c' :: H :: F) at hS_55
    have hfin := flat_all (f := (fun x => nTap x.v)) (l := l) (i := i) (by omega)
    rw [hfin] at hp hn'
    subst eb_12
    have hM : bs' = bs ++ bytesOf (nTaps (l.map Tap.v)) := by rw [hp]; rw [← hll]; simp [nTaps, bytesOf, List.flatMap_map]
    subst hM
    have hnn : n' = n + 8 * (nTaps (l.map Tap.v)).length := by omega
    exact ⟨_, _, _, _, rfl, hnn, hO', hS_55⟩
theorem ref_stage (W w : World) (H : Chunk) (F : List Chunk) (a : Option Addr) (n k : Nat) (c : Chunk) (bs : List Int) (hO : OwnT encB 5 1 a n k bs c) (q : Stage) (hq : Stage.Ok [H] q) (hb : n + 8 * (nStage q.v).length ≤ 1099511627776) (hS : Sat W w (c :: H :: F)) :
    Calls Try.prog 37 #[.slice a n k, .agg #[.int .i64 q.kind, .int .i64 q.a, .int .i64 q.b, .bool q.barrier, .int .i64 q.edgePolicy, .int .i64 q.edgeFill, .int .i64 q.kW, .int .i64 q.kH, .slice q.weights.a q.weights.n q.weights.k, .slice q.row.a q.row.n q.row.k, .slice q.col.a q.col.n q.col.k, .int .i64 q.shift, .int .i64 q.shift2, .slice q.x.a q.x.n q.x.k, .slice q.y.a q.y.n q.y.k, .int .i64 q.bins, .slice q.ops.a q.ops.n q.ops.k, .int .i64 q.max_]] w fun e w' => ∃ (a' : Option Addr) (n' k' : Nat) (c' : Chunk), e = .returned (.slice a' n' k') ∧ n' = n + 8 * (nStage q.v).length ∧ OwnT encB 5 1 a' n' k' (bs ++ bytesOf (nStage q.v)) c' ∧ Sat W w' (c' :: H :: F) := by
  have hbl := hO.len
  have hl_weights := hq.weights.len; have hk_weights := hq.weights.le
  have hl_row := hq.row.len; have hk_row := hq.row.le
  have hl_col := hq.col.len; have hk_col := hq.col.le
  have hl_x := hq.x.len; have hk_x := hq.x.le
  have hl_y := hq.y.len; have hk_y := hq.y.le
  have hl_ops := hq.ops.len; have hk_ops := hq.ops.le
  have hnS := nStage_len q
  rw [hl_weights, hl_row, hl_col] at hnS
  have hop : (q.ops.l.flatMap nOp).length = 2 * q.ops.n := by rw [← hl_ops]; exact nOps_len _
  refine callsE (n := 96) Try.func37 rfl rfl (Nat.le_of_ble_eq_true rfl) ?_
  refine seqE ?_
  refine regionE ?_
  refine sBox hS (.agg #[.int .i64 q.kind, .int .i64 q.a, .int .i64 q.b, .bool q.barrier, .int .i64 q.edgePolicy, .int .i64 q.edgeFill, .int .i64 q.kW, .int .i64 q.kH, .slice q.weights.a q.weights.n q.weights.k, .slice q.row.a q.row.n q.row.k, .slice q.col.a q.col.n q.col.k, .int .i64 q.shift, .int .i64 q.shift2, .slice q.x.a q.x.n q.x.k, .slice q.y.a q.y.n q.y.k, .int .i64 q.bins, .slice q.ops.a q.ops.n q.ops.k, .int .i64 q.max_]) #[.int .i64 q.kind, .int .i64 q.a, .int .i64 q.b, .bool q.barrier, .int .i64 q.edgePolicy, .int .i64 q.edgeFill, .int .i64 q.kW, .int .i64 q.kH, .slice q.weights.a q.weights.n q.weights.k, .slice q.row.a q.row.n q.row.k, .slice q.col.a q.col.n q.col.k, .int .i64 q.shift, .int .i64 q.shift2, .slice q.x.a q.x.n q.x.k, .slice q.y.a q.y.n q.y.k, .int .i64 q.bins, .slice q.ops.a q.ops.n q.ops.k, .int .i64 q.max_] ?_
  intro b_1 w_2 hS_3
  refine p1 (by kernel_rfl) ?_
  refine nilO ?_
  refine thenK_n <| ?_
  refine seqE ?_
  refine regionE ?_
  refine p1 (by kernel_rfl) ?_
  refine nilO ?_
  refine thenK_n <| ?_
  refine cutE (fun ρ w => ∃ (bv : Int), AllAt ρ [(0, .slice a n k), (3, .pointer (some ⟨b_1, 0, none⟩)), (5, .int .i64 bv)] ∧ Sat W w ([(b_1, .cells #[.int .i64 q.kind, .int .i64 q.a, .int .i64 q.b, .bool q.barrier, .int .i64 q.edgePolicy, .int .i64 q.edgeFill, .int .i64 q.kW, .int .i64 q.kH, .slice q.weights.a q.weights.n q.weights.k, .slice q.row.a q.row.n q.row.k, .slice q.col.a q.col.n q.col.k, .int .i64 q.shift, .int .i64 q.shift2, .slice q.x.a q.x.n q.x.k, .slice q.y.a q.y.n q.y.k, .int .i64 q.bins, .slice q.ops.a q.ops.n q.ops.k, .int .i64 q.max_] 61 (0, 0))] :: c :: H :: F) ∧ bv = nBool q.barrier) ?_ ?_
  · refine seqE ?_
    refine regionE ?_
    refine p1 (by kernel_rfl) ?_
    refine sL hS_3 0 3 (.bool q.barrier) (Try.isAgg4 _) ?_
    refine nilO ?_
    refine thenK_n <| ?_
    rcases Classical.em (q.barrier = true) with hc_4 | hc_4
    · refine cT q.barrier hc_4 ?_
      refine regionE ?_
      refine p1 (by kernel_rfl) ?_
      refine nilO ?_
      refine thenK_n <| ?_
      exact ⟨1, ⟨by kernel_rfl, by kernel_rfl, by kernel_rfl, trivial⟩, hS_3, by simp [nBool, hc_4]⟩
    · refine cF q.barrier (Bool.eq_false_iff.2 hc_4) ?_
      refine skipE ?_
      refine thenK_n <| ?_
      exact ⟨0, ⟨by kernel_rfl, by kernel_rfl, by kernel_rfl, trivial⟩, hS_3, by simp [nBool, hc_4]⟩
  · rintro ρ w_5 ⟨bv, hA, hS_6, hbv⟩
    refine cAnchor hA (fun ρ => ?_)
    clear hA
    refine seqE ?_
    refine seqE ?_
    refine regionE ?_
    refine p1 (by kernel_rfl) ?_
    refine sL hS_6 0 0 (.int .i64 q.kind) (Try.isAgg3 _) ?_
    refine p1 (by kernel_rfl) ?_
    refine sL hS_6 0 1 (.int .i64 q.a) (Try.isAgg3 _) ?_
    refine p1 (by kernel_rfl) ?_
    refine sL hS_6 0 2 (.int .i64 q.b) (Try.isAgg3 _) ?_
    refine p3 (by kernel_rfl) ?_
    refine sL hS_6 0 4 (.int .i64 q.edgePolicy) (Try.isAgg3 _) ?_
    refine p2 (by kernel_rfl) ?_
    refine sL hS_6 0 5 (.int .i64 q.edgeFill) (Try.isAgg3 _) ?_
    refine p1 (by kernel_rfl) ?_
    refine sL hS_6 0 6 (.int .i64 q.kW) (Try.isAgg3 _) ?_
    refine p1 (by kernel_rfl) ?_
    refine sL hS_6 0 7 (.int .i64 q.kH) (Try.isAgg3 _) ?_
    refine sBS hS_6 #[.int .i64 q.kind, .int .i64 q.a, .int .i64 q.b, .int .i64 bv, .int .i64 q.edgePolicy, .int .i64 q.edgeFill, .int .i64 q.kW, .int .i64 q.kH] Try.runUnderlying22 Try.sizeOf3 Try.zeroValue3 ?_
    intro b_7 w_8 hS_9
    refine p2 (by kernel_rfl) ?_
    refine nilO ?_
    refine thenK_n <| ?_
    refine blockE ?_
    refine loopN 9 ?_
    refine roundS ?_
    refine seqE ?_
    refine regionE ?_
    refine p1 (by kernel_rfl) ?_
    refine nilO ?_
    refine thenK_n <| ?_
    refine seqE ?_
    refine condE_true (by kernel_rfl) ?_
    refine skipE ?_
    refine thenK_n <| ?_
    refine seqE ?_
    refine blockE ?_
    refine seqE ?_
    refine regionE ?_
    refine stepY (.pointer (some ⟨b_7, 0, none⟩)) rfl rfl (Y_idx (a := (some ⟨b_7, 0, none⟩)) (i := 0) (len := 8) (cap := 8) rfl Try.runUnderlying22 Try.sizeOf3 (by kernel_rfl) (by kernel_rfl) ⟨_, rfl, add_off _ 0 _, by decide, by decide⟩) ?_
    refine sL hS_9 0 0 (.int .i64 q.kind) (Try.isAgg3 _) ?_
    refine p1 (by kernel_rfl) ?_
    refine nilO ?_
    refine thenK_n <| ?_
    refine regionE ?_
    refine p2 (by kernel_rfl) ?_
    have hS_10 := hS_9.pick 0 rfl
    have hS_11 := hS_10.pick 2 rfl
    try dsimp only [List.set, List.eraseIdx] at hS_11
    refine sF #[.slice a n k, .int .i64 q.kind] Try.call35 (Calls.mono (ref_put W _ _ _ _ _ _ _ _ hO q.kind (by omega) hS_11) ?_)
    rintro _ w_12 ⟨a_14, n_15, k_16, c_17, rfl, hn_18, hO_19, hS_13⟩
    refine ⟨_, rfl, ?_⟩
    generalize eb_21 : bs ++ bytesOf ([q.kind]) = bs_20 at hO_19
    have hbl_22 := hO_19.len
    try dsimp only [List.set, List.eraseIdx] at hS_13
    refine p1 (by kernel_rfl) ?_
    refine nilO ?_
    refine blockK_n <| thenK_n <| ?_
    refine regionE ?_
    refine p2 (by kernel_rfl) ?_
    refine nilO ?_
    refine thenK_n <| ?_
    refine roundS ?_
    refine seqE ?_
    refine regionE ?_
    refine p1 (by kernel_rfl) ?_
    refine nilO ?_
    refine thenK_n <| ?_
    refine seqE ?_
    refine condE_true (by kernel_rfl) ?_
    refine skipE ?_
    refine thenK_n <| ?_
    refine seqE ?_
    refine blockE ?_
    refine seqE ?_
    refine regionE ?_
    refine stepY (.pointer (some ⟨b_7, 1, none⟩)) rfl rfl (Y_idx (a := (some ⟨b_7, 0, none⟩)) (i := 1) (len := 8) (cap := 8) rfl Try.runUnderlying22 Try.sizeOf3 (by kernel_rfl) (by kernel_rfl) ⟨_, rfl, add_off _ 0 _, by decide, by decide⟩) ?_
    refine sL hS_13 1 1 (.int .i64 q.a) (Try.isAgg3 _) ?_
    refine p1 (by kernel_rfl) ?_
    refine nilO ?_
    refine thenK_n <| ?_
    refine regionE ?_
    refine p2 (by kernel_rfl) ?_
    have hS_23 := hS_13.pick 1 rfl
    have hS_24 := hS_23.pick 1 rfl
    try dsimp only [List.set, List.eraseIdx] at hS_24
    refine sF #[.slice a_14 n_15 k_16, .int .i64 q.a] Try.call35 (Calls.mono (ref_put W _ _ _ _ _ _ _ _ hO_19 q.a (by omega) hS_24) ?_)
    rintro _ w_25 ⟨a_27, n_28, k_29, c_30, rfl, hn_31, hO_32, hS_26⟩
    refine ⟨_, rfl, ?_⟩
    generalize eb_34 : bs_20 ++ bytesOf ([q.a]) = bs_33 at hO_32
    have hbl_35 := hO_32.len
    try dsimp only [List.set, List.eraseIdx] at hS_26
    refine p1 (by kernel_rfl) ?_
    refine nilO ?_
    refine blockK_n <| thenK_n <| ?_
    refine regionE ?_
    refine p2 (by kernel_rfl) ?_
    refine nilO ?_
    refine thenK_n <| ?_
    refine roundS ?_
    refine seqE ?_
    refine regionE ?_
    refine p1 (by kernel_rfl) ?_
    refine nilO ?_
    refine thenK_n <| ?_
    refine seqE ?_
    refine condE_true (by kernel_rfl) ?_
    refine skipE ?_
    refine thenK_n <| ?_
    refine seqE ?_
    refine blockE ?_
    refine seqE ?_
    refine regionE ?_
    refine stepY (.pointer (some ⟨b_7, 2, none⟩)) rfl rfl (Y_idx (a := (some ⟨b_7, 0, none⟩)) (i := 2) (len := 8) (cap := 8) rfl Try.runUnderlying22 Try.sizeOf3 (by kernel_rfl) (by kernel_rfl) ⟨_, rfl, add_off _ 0 _, by decide, by decide⟩) ?_
    refine sL hS_26 1 2 (.int .i64 q.b) (Try.isAgg3 _) ?_
    refine p1 (by kernel_rfl) ?_
    refine nilO ?_
    refine thenK_n <| ?_
    refine regionE ?_
    refine p2 (by kernel_rfl) ?_
    have hS_36 := hS_26.pick 1 rfl
    have hS_37 := hS_36.pick 1 rfl
    try dsimp only [List.set, List.eraseIdx] at hS_37
    refine sF #[.slice a_27 n_28 k_29, .int .i64 q.b] Try.call35 (Calls.mono (ref_put W _ _ _ _ _ _ _ _ hO_32 q.b (by omega) hS_37) ?_)
    rintro _ w_38 ⟨a_40, n_41, k_42, c_43, rfl, hn_44, hO_45, hS_39⟩
    refine ⟨_, rfl, ?_⟩
    generalize eb_47 : bs_33 ++ bytesOf ([q.b]) = bs_46 at hO_45
    have hbl_48 := hO_45.len
    try dsimp only [List.set, List.eraseIdx] at hS_39
    refine p1 (by kernel_rfl) ?_
    refine nilO ?_
    refine blockK_n <| thenK_n <| ?_
    refine regionE ?_
    refine p2 (by kernel_rfl) ?_
    refine nilO ?_
    refine thenK_n <| ?_
    refine roundS ?_
    refine seqE ?_
    refine regionE ?_
    refine p1 (by kernel_rfl) ?_
    refine nilO ?_
    refine thenK_n <| ?_
    refine seqE ?_
    refine condE_true (by kernel_rfl) ?_
    refine skipE ?_
    refine thenK_n <| ?_
    refine seqE ?_
    refine blockE ?_
    refine seqE ?_
    refine regionE ?_
    refine stepY (.pointer (some ⟨b_7, 3, none⟩)) rfl rfl (Y_idx (a := (some ⟨b_7, 0, none⟩)) (i := 3) (len := 8) (cap := 8) rfl Try.runUnderlying22 Try.sizeOf3 (by kernel_rfl) (by kernel_rfl) ⟨_, rfl, add_off _ 0 _, by decide, by decide⟩) ?_
    refine sL hS_39 1 3 (.int .i64 bv) (Try.isAgg3 _) ?_
    refine p1 (by kernel_rfl) ?_
    refine nilO ?_
    refine thenK_n <| ?_
    refine regionE ?_
    refine p2 (by kernel_rfl) ?_
    have hS_49 := hS_39.pick 1 rfl
    have hS_50 := hS_49.pick 1 rfl
    try dsimp only [List.set, List.eraseIdx] at hS_50
    refine sF #[.slice a_40 n_41 k_42, .int .i64 bv] Try.call35 (Calls.mono (ref_put W _ _ _ _ _ _ _ _ hO_45 bv (by omega) hS_50) ?_)
    rintro _ w_51 ⟨a_53, n_54, k_55, c_56, rfl, hn_57, hO_58, hS_52⟩
    refine ⟨_, rfl, ?_⟩
    generalize eb_60 : bs_46 ++ bytesOf ([bv]) = bs_59 at hO_58
    have hbl_61 := hO_58.len
    try dsimp only [List.set, List.eraseIdx] at hS_52
    refine p1 (by kernel_rfl) ?_
    refine nilO ?_
    refine blockK_n <| thenK_n <| ?_
    refine regionE ?_
    refine p2 (by kernel_rfl) ?_
    refine nilO ?_
    refine thenK_n <| ?_
    refine roundS ?_
    refine seqE ?_
    refine regionE ?_
    refine p1 (by kernel_rfl) ?_
    refine nilO ?_
    refine thenK_n <| ?_
    refine seqE ?_
    refine condE_true (by kernel_rfl) ?_
    refine skipE ?_
    refine thenK_n <| ?_
    refine seqE ?_
    refine blockE ?_
    refine seqE ?_
    refine regionE ?_
    refine stepY (.pointer (some ⟨b_7, 4, none⟩)) rfl rfl (Y_idx (a := (some ⟨b_7, 0, none⟩)) (i := 4) (len := 8) (cap := 8) rfl Try.runUnderlying22 Try.sizeOf3 (by kernel_rfl) (by kernel_rfl) ⟨_, rfl, add_off _ 0 _, by decide, by decide⟩) ?_
    refine sL hS_52 1 4 (.int .i64 q.edgePolicy) (Try.isAgg3 _) ?_
    refine p1 (by kernel_rfl) ?_
    refine nilO ?_
    refine thenK_n <| ?_
    refine regionE ?_
    refine p2 (by kernel_rfl) ?_
    have hS_62 := hS_52.pick 1 rfl
    have hS_63 := hS_62.pick 1 rfl
    try dsimp only [List.set, List.eraseIdx] at hS_63
    refine sF #[.slice a_53 n_54 k_55, .int .i64 q.edgePolicy] Try.call35 (Calls.mono (ref_put W _ _ _ _ _ _ _ _ hO_58 q.edgePolicy (by omega) hS_63) ?_)
    rintro _ w_64 ⟨a_66, n_67, k_68, c_69, rfl, hn_70, hO_71, hS_65⟩
    refine ⟨_, rfl, ?_⟩
    generalize eb_73 : bs_59 ++ bytesOf ([q.edgePolicy]) = bs_72 at hO_71
    have hbl_74 := hO_71.len
    try dsimp only [List.set, List.eraseIdx] at hS_65
    refine p1 (by kernel_rfl) ?_
    refine nilO ?_
    refine blockK_n <| thenK_n <| ?_
    refine regionE ?_
    refine p2 (by kernel_rfl) ?_
    refine nilO ?_
    refine thenK_n <| ?_
    refine roundS ?_
    refine seqE ?_
    refine regionE ?_
    refine p1 (by kernel_rfl) ?_
    refine nilO ?_
    refine thenK_n <| ?_
    refine seqE ?_
    refine condE_true (by kernel_rfl) ?_
    refine skipE ?_
    refine thenK_n <| ?_
    refine seqE ?_
    refine blockE ?_
    refine seqE ?_
    refine regionE ?_
    refine stepY (.pointer (some ⟨b_7, 5, none⟩)) rfl rfl (Y_idx (a := (some ⟨b_7, 0, none⟩)) (i := 5) (len := 8) (cap := 8) rfl Try.runUnderlying22 Try.sizeOf3 (by kernel_rfl) (by kernel_rfl) ⟨_, rfl, add_off _ 0 _, by decide, by decide⟩) ?_
    refine sL hS_65 1 5 (.int .i64 q.edgeFill) (Try.isAgg3 _) ?_
    refine p1 (by kernel_rfl) ?_
    refine nilO ?_
    refine thenK_n <| ?_
    refine regionE ?_
    refine p2 (by kernel_rfl) ?_
    have hS_75 := hS_65.pick 1 rfl
    have hS_76 := hS_75.pick 1 rfl
    try dsimp only [List.set, List.eraseIdx] at hS_76
    refine sF #[.slice a_66 n_67 k_68, .int .i64 q.edgeFill] Try.call35 (Calls.mono (ref_put W _ _ _ _ _ _ _ _ hO_71 q.edgeFill (by omega) hS_76) ?_)
    rintro _ w_77 ⟨a_79, n_80, k_81, c_82, rfl, hn_83, hO_84, hS_78⟩
    refine ⟨_, rfl, ?_⟩
    generalize eb_86 : bs_72 ++ bytesOf ([q.edgeFill]) = bs_85 at hO_84
    have hbl_87 := hO_84.len
    try dsimp only [List.set, List.eraseIdx] at hS_78
    refine p1 (by kernel_rfl) ?_
    refine nilO ?_
    refine blockK_n <| thenK_n <| ?_
    refine regionE ?_
    refine p2 (by kernel_rfl) ?_
    refine nilO ?_
    refine thenK_n <| ?_
    refine roundS ?_
    refine seqE ?_
    refine regionE ?_
    refine p1 (by kernel_rfl) ?_
    refine nilO ?_
    refine thenK_n <| ?_
    refine seqE ?_
    refine condE_true (by kernel_rfl) ?_
    refine skipE ?_
    refine thenK_n <| ?_
    refine seqE ?_
    refine blockE ?_
    refine seqE ?_
    refine regionE ?_
    refine stepY (.pointer (some ⟨b_7, 6, none⟩)) rfl rfl (Y_idx (a := (some ⟨b_7, 0, none⟩)) (i := 6) (len := 8) (cap := 8) rfl Try.runUnderlying22 Try.sizeOf3 (by kernel_rfl) (by kernel_rfl) ⟨_, rfl, add_off _ 0 _, by decide, by decide⟩) ?_
    refine sL hS_78 1 6 (.int .i64 q.kW) (Try.isAgg3 _) ?_
    refine p1 (by kernel_rfl) ?_
    refine nilO ?_
    refine thenK_n <| ?_
    refine regionE ?_
    refine p2 (by kernel_rfl) ?_
    have hS_88 := hS_78.pick 1 rfl
    have hS_89 := hS_88.pick 1 rfl
    try dsimp only [List.set, List.eraseIdx] at hS_89
    refine sF #[.slice a_79 n_80 k_81, .int .i64 q.kW] Try.call35 (Calls.mono (ref_put W _ _ _ _ _ _ _ _ hO_84 q.kW (by omega) hS_89) ?_)
    rintro _ w_90 ⟨a_92, n_93, k_94, c_95, rfl, hn_96, hO_97, hS_91⟩
    refine ⟨_, rfl, ?_⟩
    generalize eb_99 : bs_85 ++ bytesOf ([q.kW]) = bs_98 at hO_97
    have hbl_100 := hO_97.len
    try dsimp only [List.set, List.eraseIdx] at hS_91
    refine p1 (by kernel_rfl) ?_
    refine nilO ?_
    refine blockK_n <| thenK_n <| ?_
    refine regionE ?_
    refine p2 (by kernel_rfl) ?_
    refine nilO ?_
    refine thenK_n <| ?_
    refine roundS ?_
    refine seqE ?_
    refine regionE ?_
    refine p1 (by kernel_rfl) ?_
    refine nilO ?_
    refine thenK_n <| ?_
    refine seqE ?_
    refine condE_true (by kernel_rfl) ?_
    refine skipE ?_
    refine thenK_n <| ?_
    refine seqE ?_
    refine blockE ?_
    refine seqE ?_
    refine regionE ?_
    refine stepY (.pointer (some ⟨b_7, 7, none⟩)) rfl rfl (Y_idx (a := (some ⟨b_7, 0, none⟩)) (i := 7) (len := 8) (cap := 8) rfl Try.runUnderlying22 Try.sizeOf3 (by kernel_rfl) (by kernel_rfl) ⟨_, rfl, add_off _ 0 _, by decide, by decide⟩) ?_
    refine sL hS_91 1 7 (.int .i64 q.kH) (Try.isAgg3 _) ?_
    refine p1 (by kernel_rfl) ?_
    refine nilO ?_
    refine thenK_n <| ?_
    refine regionE ?_
    refine p2 (by kernel_rfl) ?_
    have hS_101 := hS_91.pick 1 rfl
    have hS_102 := hS_101.pick 1 rfl
    try dsimp only [List.set, List.eraseIdx] at hS_102
    refine sF #[.slice a_92 n_93 k_94, .int .i64 q.kH] Try.call35 (Calls.mono (ref_put W _ _ _ _ _ _ _ _ hO_97 q.kH (by omega) hS_102) ?_)
    rintro _ w_103 ⟨a_105, n_106, k_107, c_108, rfl, hn_109, hO_110, hS_104⟩
    refine ⟨_, rfl, ?_⟩
    generalize eb_112 : bs_98 ++ bytesOf ([q.kH]) = bs_111 at hO_110
    have hbl_113 := hO_110.len
    try dsimp only [List.set, List.eraseIdx] at hS_104
    refine p1 (by kernel_rfl) ?_
    refine nilO ?_
    refine blockK_n <| thenK_n <| ?_
    refine regionE ?_
    refine p2 (by kernel_rfl) ?_
    refine nilO ?_
    refine thenK_n <| ?_
    refine roundS ?_
    refine seqE ?_
    refine regionE ?_
    refine p1 (by kernel_rfl) ?_
    refine nilO ?_
    refine thenK_n <| ?_
    refine seqE ?_
    refine condE_false (by kernel_rfl) ?_
    refine exitE (thenK_x <| thenK_x <| blockK_x <| ?_)
    refine thenK_n <| ?_
    refine seqE ?_
    refine drawE [3, 6, 9] [(2, ⟨b_1, 8, none⟩, .slice q.weights.a q.weights.n q.weights.k), (5, ⟨b_1, 9, none⟩, .slice q.row.a q.row.n q.row.k), (8, ⟨b_1, 10, none⟩, .slice q.col.a q.col.n q.col.k)] [(true, [0, 1, 4, 7]), (true, [2]), (true, [5]), (true, [8]), (false, [3]), (false, [6]), (false, [9]), (true, [10])] rfl (by kernel_rfl) ⟨.inr (hS_104.cell 2 rfl rfl), .inr (hS_104.cell 2 rfl rfl), .inr (hS_104.cell 2 rfl rfl), trivial⟩ ?_
    have hS_114 := hS_104.drew
    refine wP [0, 1, 4, 7] rfl (by kernel_rfl) ?_
    refine wS (.slice q.weights.a q.weights.n q.weights.k) rfl rfl rfl (fun w hF => Y_load rfl (Try.isAgg22 w) (by kernel_rfl) (hF 0 _ _ rfl)) ?_
    refine wS (.slice q.row.a q.row.n q.row.k) rfl rfl rfl (fun w hF => Y_load rfl (Try.isAgg22 w) (by kernel_rfl) (hF 1 _ _ rfl)) ?_
    refine wS (.slice q.col.a q.col.n q.col.k) rfl rfl rfl (fun w hF => Y_load rfl (Try.isAgg22 w) (by kernel_rfl) (hF 2 _ _ rfl)) ?_
    refine wO rfl ?_
    have hS_115 := hS_114.pick 3 rfl
    have hS_116 := hS_115.pick 1 rfl
    try dsimp only [List.set, List.eraseIdx] at hS_116
    refine sF #[.slice a_105 n_106 k_107, .slice q.weights.a q.weights.n q.weights.k] Try.call36 (Calls.mono (ref_puts W _ _ _ _ _ _ _ _ hO_110 _ _ _ _ hq.weights (by omega) hS_116) ?_)
    rintro _ w_117 ⟨a_119, n_120, k_121, c_122, rfl, hn_123, hO_124, hS_118⟩
    refine ⟨_, rfl, ?_⟩
    generalize eb_126 : bs_111 ++ bytesOf (nInts q.weights.l) = bs_125 at hO_124
    have hbl_127 := hO_124.len
    try dsimp only [List.set, List.eraseIdx] at hS_118
    refine nilO ⟨⟨.inl (by kernel_rfl), .inr (hS_118.cell 3 rfl rfl), .inr (hS_118.cell 3 rfl rfl), trivial⟩, ?_⟩
    refine wO rfl ?_
    have hS_128 := hS_118.pick 1 rfl
    have hS_129 := hS_128.pick 1 rfl
    try dsimp only [List.set, List.eraseIdx] at hS_129
    refine sF #[.slice a_119 n_120 k_121, .slice q.row.a q.row.n q.row.k] Try.call36 (Calls.mono (ref_puts W _ _ _ _ _ _ _ _ hO_124 _ _ _ _ hq.row (by omega) hS_129) ?_)
    rintro _ w_130 ⟨a_132, n_133, k_134, c_135, rfl, hn_136, hO_137, hS_131⟩
    refine ⟨_, rfl, ?_⟩
    generalize eb_139 : bs_125 ++ bytesOf (nInts q.row.l) = bs_138 at hO_137
    have hbl_140 := hO_137.len
    try dsimp only [List.set, List.eraseIdx] at hS_131
    refine nilO ⟨⟨.inl (by kernel_rfl), .inl (by kernel_rfl), .inr (hS_131.cell 3 rfl rfl), trivial⟩, ?_⟩
    refine wO rfl ?_
    have hS_141 := hS_131.pick 1 rfl
    have hS_142 := hS_141.pick 1 rfl
    try dsimp only [List.set, List.eraseIdx] at hS_142
    refine sF #[.slice a_132 n_133 k_134, .slice q.col.a q.col.n q.col.k] Try.call36 (Calls.mono (ref_puts W _ _ _ _ _ _ _ _ hO_137 _ _ _ _ hq.col (by omega) hS_142) ?_)
    rintro _ w_143 ⟨a_145, n_146, k_147, c_148, rfl, hn_149, hO_150, hS_144⟩
    refine ⟨_, rfl, ?_⟩
    generalize eb_152 : bs_138 ++ bytesOf (nInts q.col.l) = bs_151 at hO_150
    have hbl_153 := hO_150.len
    try dsimp only [List.set, List.eraseIdx] at hS_144
    refine nilO ⟨⟨.inl (by kernel_rfl), .inl (by kernel_rfl), .inl (by kernel_rfl), trivial⟩, ?_⟩
    refine wP [10] rfl (by kernel_rfl) ?_
    refine wN ?_
    refine thenK_n <| ?_
    refine seqE ?_
    refine drawE [3, 6] [(2, ⟨b_1, 11, none⟩, .int .i64 q.shift), (5, ⟨b_1, 12, none⟩, .int .i64 q.shift2)] [(true, [0, 1, 4]), (true, [2]), (true, [5]), (false, [3]), (false, [6]), (true, [7])] rfl (by kernel_rfl) ⟨.inr (hS_144.cell 3 rfl rfl), .inr (hS_144.cell 3 rfl rfl), trivial⟩ ?_
    have hS_154 := hS_144.drew
    refine wP [0, 1, 4] rfl (by kernel_rfl) ?_
    refine wS (.int .i64 q.shift) rfl rfl rfl (fun w hF => Y_load rfl (Try.isAgg3 w) (by kernel_rfl) (hF 0 _ _ rfl)) ?_
    refine wS (.int .i64 q.shift2) rfl rfl rfl (fun w hF => Y_load rfl (Try.isAgg3 w) (by kernel_rfl) (hF 1 _ _ rfl)) ?_
    refine wO rfl ?_
    have hS_155 := hS_154.pick 1 rfl
    have hS_156 := hS_155.pick 1 rfl
    try dsimp only [List.set, List.eraseIdx] at hS_156
    refine sF #[.slice a_145 n_146 k_147, .int .i64 q.shift] Try.call35 (Calls.mono (ref_put W _ _ _ _ _ _ _ _ hO_150 q.shift (by omega) hS_156) ?_)
    rintro _ w_157 ⟨a_159, n_160, k_161, c_162, rfl, hn_163, hO_164, hS_158⟩
    refine ⟨_, rfl, ?_⟩
    generalize eb_166 : bs_151 ++ bytesOf ([q.shift]) = bs_165 at hO_164
    have hbl_167 := hO_164.len
    try dsimp only [List.set, List.eraseIdx] at hS_158
    refine nilO ⟨⟨.inl (by kernel_rfl), .inr (hS_158.cell 3 rfl rfl), trivial⟩, ?_⟩
    refine wO rfl ?_
    have hS_168 := hS_158.pick 1 rfl
    have hS_169 := hS_168.pick 1 rfl
    try dsimp only [List.set, List.eraseIdx] at hS_169
    refine sF #[.slice a_159 n_160 k_161, .int .i64 q.shift2] Try.call35 (Calls.mono (ref_put W _ _ _ _ _ _ _ _ hO_164 q.shift2 (by omega) hS_169) ?_)
    rintro _ w_170 ⟨a_172, n_173, k_174, c_175, rfl, hn_176, hO_177, hS_171⟩
    refine ⟨_, rfl, ?_⟩
    generalize eb_179 : bs_165 ++ bytesOf ([q.shift2]) = bs_178 at hO_177
    have hbl_180 := hO_177.len
    try dsimp only [List.set, List.eraseIdx] at hS_171
    refine nilO ⟨⟨.inl (by kernel_rfl), .inl (by kernel_rfl), trivial⟩, ?_⟩
    refine wP [7] rfl (by kernel_rfl) ?_
    refine wN ?_
    refine thenK_n <| ?_
    refine seqE ?_
    refine drawE [3, 6, 9] [(2, ⟨b_1, 13, none⟩, .slice q.x.a q.x.n q.x.k), (5, ⟨b_1, 14, none⟩, .slice q.y.a q.y.n q.y.k), (8, ⟨b_1, 15, none⟩, .int .i64 q.bins)] [(true, [0, 1, 4, 7]), (true, [2]), (true, [5]), (true, [8]), (false, [3]), (false, [6]), (false, [9]), (true, [10])] rfl (by kernel_rfl) ⟨.inr (hS_171.cell 3 rfl rfl), .inr (hS_171.cell 3 rfl rfl), .inr (hS_171.cell 3 rfl rfl), trivial⟩ ?_
    have hS_181 := hS_171.drew
    refine wP [0, 1, 4, 7] rfl (by kernel_rfl) ?_
    refine wS (.slice q.x.a q.x.n q.x.k) rfl rfl rfl (fun w hF => Y_load rfl (Try.isAgg58 w) (by kernel_rfl) (hF 0 _ _ rfl)) ?_
    refine wS (.slice q.y.a q.y.n q.y.k) rfl rfl rfl (fun w hF => Y_load rfl (Try.isAgg58 w) (by kernel_rfl) (hF 1 _ _ rfl)) ?_
    refine wS (.int .i64 q.bins) rfl rfl rfl (fun w hF => Y_load rfl (Try.isAgg3 w) (by kernel_rfl) (hF 2 _ _ rfl)) ?_
    refine wO rfl ?_
    have hS_182 := hS_181.pick 1 rfl
    have hS_183 := hS_182.pick 1 rfl
    try dsimp only [List.set, List.eraseIdx] at hS_183
    refine sF #[.slice a_172 n_173 k_174, .slice q.x.a q.x.n q.x.k] Try.call48 (Calls.mono (ref_taps W _ _ _ _ _ _ _ _ hO_177 _ _ _ _ hq.x hq.xD (by omega) hS_183) ?_)
    rintro _ w_184 ⟨a_186, n_187, k_188, c_189, rfl, hn_190, hO_191, hS_185⟩
    refine ⟨_, rfl, ?_⟩
    generalize eb_193 : bs_178 ++ bytesOf (nTaps (q.x.l.map Tap.v)) = bs_192 at hO_191
    have hbl_194 := hO_191.len
    try dsimp only [List.set, List.eraseIdx] at hS_185
    refine nilO ⟨⟨.inl (by kernel_rfl), .inr (hS_185.cell 3 rfl rfl), .inr (hS_185.cell 3 rfl rfl), trivial⟩, ?_⟩
    refine wO rfl ?_
    have hS_195 := hS_185.pick 1 rfl
    have hS_196 := hS_195.pick 1 rfl
    try dsimp only [List.set, List.eraseIdx] at hS_196
    refine sF #[.slice a_186 n_187 k_188, .slice q.y.a q.y.n q.y.k] Try.call48 (Calls.mono (ref_taps W _ _ _ _ _ _ _ _ hO_191 _ _ _ _ hq.y hq.yD (by omega) hS_196) ?_)
    rintro _ w_197 ⟨a_199, n_200, k_201, c_202, rfl, hn_203, hO_204, hS_198⟩
    refine ⟨_, rfl, ?_⟩
    generalize eb_206 : bs_192 ++ bytesOf (nTaps (q.y.l.map Tap.v)) = bs_205 at hO_204
    have hbl_207 := hO_204.len
    try dsimp only [List.set, List.eraseIdx] at hS_198
    refine nilO ⟨⟨.inl (by kernel_rfl), .inl (by kernel_rfl), .inr (hS_198.cell 3 rfl rfl), trivial⟩, ?_⟩
    refine wO rfl ?_
    have hS_208 := hS_198.pick 1 rfl
    have hS_209 := hS_208.pick 1 rfl
    try dsimp only [List.set, List.eraseIdx] at hS_209
    refine sF #[.slice a_199 n_200 k_201, .int .i64 q.bins] Try.call35 (Calls.mono (ref_put W _ _ _ _ _ _ _ _ hO_204 q.bins (by omega) hS_209) ?_)
    rintro _ w_210 ⟨a_212, n_213, k_214, c_215, rfl, hn_216, hO_217, hS_211⟩
    refine ⟨_, rfl, ?_⟩
    generalize eb_219 : bs_205 ++ bytesOf ([q.bins]) = bs_218 at hO_217
    have hbl_220 := hO_217.len
    try dsimp only [List.set, List.eraseIdx] at hS_211
    refine nilO ⟨⟨.inl (by kernel_rfl), .inl (by kernel_rfl), .inl (by kernel_rfl), trivial⟩, ?_⟩
    refine wP [10] rfl (by kernel_rfl) ?_
    refine wN ?_
    refine thenK_n <| ?_
    refine seqE ?_
    refine regionE ?_
    refine p2 (by kernel_rfl) ?_
    refine sL hS_211 3 16 (.slice q.ops.a q.ops.n q.ops.k) (Try.isAgg59 _) ?_
    refine p1 (by kernel_rfl) ?_
    have hS_221 := hS_211.pick 1 rfl
    have hS_222 := hS_221.pick 1 rfl
    try dsimp only [List.set, List.eraseIdx] at hS_222
    refine sF #[.slice a_212 n_213 k_214, .int .i64 ((q.ops.n : Nat) : Int)] Try.call35 (Calls.mono (ref_put W _ _ _ _ _ _ _ _ hO_217 ((q.ops.n : Nat) : Int) (by omega) hS_222) ?_)
    rintro _ w_223 ⟨a_225, n_226, k_227, c_228, rfl, hn_229, hO_230, hS_224⟩
    refine ⟨_, rfl, ?_⟩
    generalize eb_232 : bs_218 ++ bytesOf ([((q.ops.n : Nat) : Int)]) = bs_231 at hO_230
    have hbl_233 := hO_230.len
    try dsimp only [List.set, List.eraseIdx] at hS_224
    refine p1 (by kernel_rfl) ?_
    refine nilO ?_
    refine thenK_n <| ?_
    refine seqE ?_
    refine seqE ?_
    refine regionE ?_
    refine p1 (by kernel_rfl) ?_
    refine nilO ?_
    refine thenK_n <| ?_
    refine blockE ?_
    have hS_234 := hS_224.pick 1 rfl
    have hS_235 := hS_234.pick 3 rfl
    have hS_236 := hS_235.pick 2 rfl
    try dsimp only [List.set, List.eraseIdx] at hS_236
    have hS_237 := hS_236.dropAt 3 rfl
    try dsimp only [List.set, List.eraseIdx] at hS_237
    refine loopE (γ := Nat × (Option Addr) × Nat × Nat × Chunk × (List Int)) (fun ⟨i, a', n', k', c', bs'⟩ ρ w => AllAt ρ [(3, .pointer (some ⟨b_1, 0, none⟩)), (0, .slice a' n' k'), (8, .int .i64 ((i : Nat) : Int))] ∧ Sat W w (c' :: [(b_1, .cells #[.int .i64 q.kind, .int .i64 q.a, .int .i64 q.b, .bool q.barrier, .int .i64 q.edgePolicy, .int .i64 q.edgeFill, .int .i64 q.kW, .int .i64 q.kH, .slice q.weights.a q.weights.n q.weights.k, .slice q.row.a q.row.n q.row.k, .slice q.col.a q.col.n q.col.k, .int .i64 q.shift, .int .i64 q.shift2, .slice q.x.a q.x.n q.x.k, .slice q.y.a q.y.n q.y.k, .int .i64 q.bins, .slice q.ops.a q.ops.n q.ops.k, .int .i64 q.max_] 61 (0, 0))] :: H :: F) ∧ i ≤ q.ops.n ∧ bs' = bs_231 ++ bytesOf ((q.ops.l.take i).flatMap nOp) ∧ OwnT encB 5 1 a' n' k' bs' c' ∧ bs'.length = n' ∧ n' = n_226 + 8 * ((q.ops.l.take i).flatMap nOp).length) (fun ⟨i, a', n', k', c', bs'⟩ => q.ops.n - i) (0, a_225, n_226, k_227, c_228, bs_231) ⟨⟨by kernel_rfl, by kernel_rfl, by kernel_rfl, trivial⟩, hS_237, Nat.zero_le _, by simp [bytesOf], hO_230, hO_230.len, by simp⟩ ?_
    skip
    rintro ⟨i, a', n', k', c', bs'⟩ ρ w_238 ⟨hA, hS_239, hi, hp, hO', hbl', hn'⟩
    refine cAnchor hA (fun ρ => ?_)
    clear hA
    refine seqE ?_
    refine seqE ?_
    refine regionE ?_
    refine p2 (by kernel_rfl) ?_
    refine sL hS_239 1 16 (.slice q.ops.a q.ops.n q.ops.k) (Try.isAgg59 _) ?_
    refine p2 (by kernel_rfl) ?_
    refine nilO ?_
    refine thenK_n <| ?_
    by_cases hc_240 : (((i : Nat) : Int) : Int) < ((q.ops.n : Nat) : Int)
    · refine cT (decide ((((i : Nat) : Int) : Int) < ((q.ops.n : Nat) : Int))) (decide_eq_true hc_240) ?_
      refine skipE ?_
      refine thenK_n <| ?_
      refine seqE ?_
      refine blockE ?_
      obtain ⟨x_241, b_242, o_243, hx_244, hp_245, hq_246⟩ := RdT.elem hq.ops ((i : Nat) : Int)
      rw [Int.toNat_natCast] at hx_244
      have hfl_x_241 := flat_le (f := nOp) hx_244
      have hlx_x_241 : (nOp x_241).length = 2 := rfl
      refine drawE [7, 14] [(2, ⟨b_1, 16, none⟩, .slice q.ops.a q.ops.n q.ops.k), (6, ⟨b_242, o_243 + 0, none⟩, .int .i64 x_241.code), (9, ⟨b_1, 16, none⟩, .slice q.ops.a q.ops.n q.ops.k), (13, ⟨b_242, o_243 + 1, none⟩, .int .i64 x_241.arg)] [(true, [0, 1, 3, 8, 10]), (true, [2]), (true, [4]), (true, [5]), (true, [6]), (true, [9]), (true, [11]), (true, [12]), (true, [13]), (false, [7]), (false, [14]), (true, [15])] rfl (by kernel_rfl) ⟨.inr (hS_239.cell 1 rfl rfl), .inr ((hp_245.up 2 rfl).cell hS_239 (k := 0) rfl), .inr (hS_239.cell 1 rfl rfl), .inr ((hp_245.up 2 rfl).cell hS_239 (k := 1) rfl), trivial⟩ ?_
      have hS_247 := hS_239.drew
      refine wP [0, 1, 3, 8, 10] rfl (by kernel_rfl) ?_
      refine wS (.slice q.ops.a q.ops.n q.ops.k) rfl rfl rfl (fun w hF => Y_load rfl (Try.isAgg59 w) (by kernel_rfl) (hF 0 _ _ rfl)) ?_
      refine wS (.pointer (some ⟨b_242, o_243, none⟩)) rfl rfl rfl (fun w _ => Y_idx (a := q.ops.a) (i := ((i : Nat) : Int)) (len := q.ops.n) (cap := q.ops.k) rfl Try.runUnderlying59 Try.sizeOf66 (by kernel_rfl) (by kernel_rfl) hq_246) ?_
      refine wP [5] rfl (by kernel_rfl) ?_
      refine wS (.int .i64 x_241.code) rfl rfl rfl (fun w hF => Y_load rfl (Try.isAgg3 w) (by kernel_rfl) (hF 1 _ _ rfl)) ?_
      refine wS (.slice q.ops.a q.ops.n q.ops.k) rfl rfl rfl (fun w hF => Y_load rfl (Try.isAgg59 w) (by kernel_rfl) (hF 2 _ _ rfl)) ?_
      refine wS (.pointer (some ⟨b_242, o_243, none⟩)) rfl rfl rfl (fun w _ => Y_idx (a := q.ops.a) (i := ((i : Nat) : Int)) (len := q.ops.n) (cap := q.ops.k) rfl Try.runUnderlying59 Try.sizeOf66 (by kernel_rfl) (by kernel_rfl) hq_246) ?_
      refine wP [12] rfl (by kernel_rfl) ?_
      refine wS (.int .i64 x_241.arg) rfl rfl rfl (fun w hF => Y_load rfl (Try.isAgg3 w) (by kernel_rfl) (hF 3 _ _ rfl)) ?_
      refine wO rfl ?_
      have hS_248 := hS_247.pick 1 rfl
      have hS_249 := hS_248.pick 1 rfl
      try dsimp only [List.set, List.eraseIdx] at hS_249
      refine sF #[.slice a' n' k', .int .i64 x_241.code] Try.call35 (Calls.mono (ref_put W _ _ _ _ _ _ _ _ hO' x_241.code (by omega) hS_249) ?_)
      rintro _ w_250 ⟨a_252, n_253, k_254, c_255, rfl, hn_256, hO_257, hS_251⟩
      refine ⟨_, rfl, ?_⟩
      generalize eb_259 : bs' ++ bytesOf ([x_241.code]) = bs_258 at hO_257
      have hbl_260 := hO_257.len
      try dsimp only [List.set, List.eraseIdx] at hS_251
      refine nilO ⟨⟨.inr (hS_251.cell 1 rfl rfl), .inl (by kernel_rfl), .inr (hS_251.cell 1 rfl rfl), .inr ((hp_245.up 2 rfl).cell hS_251 (k := 1) rfl), trivial⟩, ?_⟩
      refine wO rfl ?_
      have hS_261 := hS_251.pick 1 rfl
      have hS_262 := hS_261.pick 1 rfl
      try dsimp only [List.set, List.eraseIdx] at hS_262
      refine sF #[.slice a_252 n_253 k_254, .int .i64 x_241.arg] Try.call35 (Calls.mono (ref_put W _ _ _ _ _ _ _ _ hO_257 x_241.arg (by omega) hS_262) ?_)
      rintro _ w_263 ⟨a_265, n_266, k_267, c_268, rfl, hn_269, hO_270, hS_264⟩
      refine ⟨_, rfl, ?_⟩
      generalize eb_272 : bs_258 ++ bytesOf ([x_241.arg]) = bs_271 at hO_270
      have hbl_273 := hO_270.len
      try dsimp only [List.set, List.eraseIdx] at hS_264
      refine nilO ⟨⟨.inr (hS_264.cell 1 rfl rfl), .inl (by kernel_rfl), .inr (hS_264.cell 1 rfl rfl), .inl (by kernel_rfl), trivial⟩, ?_⟩
      refine wP [15] rfl (by kernel_rfl) ?_
      refine wN ?_
      refine blockK_n <| thenK_n <| ?_
      refine regionE ?_
      refine p1 (by kernel_rfl) ?_
      refine sAdd ((i : Nat) : Int) 1 ?_
      refine p1 (by kernel_rfl) ?_
      refine nilO ?_
      refine thenK_n <| ?_
      have hS_274 := hS_264.pick 2 rfl
      have hS_275 := hS_274.pick 2 rfl
      have hS_276 := hS_275.pick 2 rfl
      try dsimp only [List.set, List.eraseIdx] at hS_276
      try dsimp only [List.set, List.eraseIdx] at hS_276
      have hstep : bs_271 = bs' ++ bytesOf (nOp x_241) := by subst eb_272; subst eb_259; first | rfl | (simp only [bytesOf_one, bytesOf_app, bytesOf_cons, nTap, nOp, nPlane, nInts, List.append_assoc, List.cons_append, List.nil_append]; done) | (simp [bytesOf, nTap, nOp, nPlane, nInts, Plane.v, Tap.v]; done)
      have hfs := congrArg List.length (flat_step (f := nOp) hx_244)
      rw [List.length_append] at hfs
      have hlb := congrArg List.length hstep; rw [List.length_append, bytesOf_len] at hlb
      have hll2 := hO_270.len
      exact ⟨(i + 1, a_265, n_266, k_267, c_268, bs_271), by dsimp only; omega, ⟨by kernel_rfl, by kernel_rfl, by kernel_rfl, trivial⟩, hS_276, by omega, by rw [hstep, hp, flat_step hx_244, bytesOf_app, List.append_assoc], hO_270, hll2, by omega⟩
    · refine cF (decide ((((i : Nat) : Int) : Int) < ((q.ops.n : Nat) : Int))) (decide_eq_false hc_240) ?_
      refine exitE (thenK_x <| thenK_x <| blockK_x <| ?_)
      refine thenK_n <| ?_
      refine seqE ?_
      have hfin := flat_all (f := nOp) (l := q.ops.l) (i := i) (by omega)
      rw [hfin] at hp hn'
      refine regionE ?_
      refine p2 (by kernel_rfl) ?_
      refine sL hS_239 1 17 (.int .i64 q.max_) (Try.isAgg3 _) ?_
      have hS_277 := hS_239.pick 1 rfl
      have hS_278 := hS_277.pick 1 rfl
      try dsimp only [List.set, List.eraseIdx] at hS_278
      refine sF #[.slice a' n' k', .int .i64 q.max_] Try.call35 (Calls.mono (ref_put W _ _ _ _ _ _ _ _ hO' q.max_ (by omega) hS_278) ?_)
      rintro _ w_279 ⟨a_281, n_282, k_283, c_284, rfl, hn_285, hO_286, hS_280⟩
      refine ⟨_, rfl, ?_⟩
      generalize eb_288 : bs' ++ bytesOf ([q.max_]) = bs_287 at hO_286
      have hbl_289 := hO_286.len
      try dsimp only [List.set, List.eraseIdx] at hS_280
      refine p1 (by kernel_rfl) ?_
      refine nilO ?_
      refine thenK_n <| ?_
      refine retE ?_
      refine retN (vs := [.slice a_281 n_282 k_283]) rfl (.cons (.tmp _ _ (by kernel_rfl)) .nil) <| ?_
      have hS_290 := hS_280.pick 2 rfl
      have hS_291 := hS_290.pick 1 rfl
      try dsimp only [List.set, List.eraseIdx] at hS_291
      have hS_292 := hS_291.dropAt 2 rfl
      change Sat _ _ (c_284 :: H :: F) at hS_292
      have hM : bs_287 = bs ++ bytesOf (nStage q.v) := by
        subst hbv
        subst eb_288; rw [hp]
        subst eb_232; subst eb_219; subst eb_206; subst eb_193; subst eb_179; subst eb_166; subst eb_152; subst eb_139; subst eb_126; subst eb_112; subst eb_99; subst eb_86; subst eb_73; subst eb_60; subst eb_47; subst eb_34; subst eb_21; simp [nStage, Stage.v, nTaps, nInts, nOps, bytesOf_app, bytesOf_cons, ← hl_ops, List.append_assoc, bytesOf]
      have hO9 := hO_286
      rw [hM] at hO9
      exact ⟨_, _, _, _, rfl, by omega, hO9, hS_292⟩
theorem ref_encode (W w : World) (H : Chunk) (F : List Chunk) (j : Job) (hj : Job.Ok [H] j) (hb : (nJob j.v).length ≤ 1000000000) (hS : Sat W w (H :: F)) :
    Calls Try.prog 14 #[.agg #[.slice j.inputs.a j.inputs.n j.inputs.k, .slice j.stages.a j.stages.n j.stages.k, .slice j.outputs.a j.outputs.n j.outputs.k, .int .i64 j.priority]] w fun e w' => (3 + 8 * (nJob j.v).length ≤ 262144 ∧ ∃ (a : Option Addr) (n k : Nat) (c : Chunk), e = .returned (.tuple #[.slice a n k, .int .i64 0]) ∧ OwnT encB 5 1 a n k ([84, 70, 1] ++ bytesOf (nJob j.v)) c ∧ Sat W w' (c :: H :: F)) ∨ (262144 < 3 + 8 * (nJob j.v).length ∧ e = .returned (.tuple #[.slice none 0 0, .int .i64 5]) ∧ Sat W w' (H :: F)) := by
  have hl_inputs := hj.inputs.len; have hk_inputs := hj.inputs.le
  have hl_stages := hj.stages.len; have hk_stages := hj.stages.le
  have hl_outputs := hj.outputs.len; have hk_outputs := hj.outputs.le
  have hnJ := nJob_len j
  rw [hl_outputs] at hnJ
  refine callsE (n := 79) Try.func14 rfl rfl (Nat.le_of_ble_eq_true rfl) ?_
  refine seqE ?_
  refine regionE ?_
  refine sBox hS (.agg #[.slice j.inputs.a j.inputs.n j.inputs.k, .slice j.stages.a j.stages.n j.stages.k, .slice j.outputs.a j.outputs.n j.outputs.k, .int .i64 j.priority]) #[.slice j.inputs.a j.inputs.n j.inputs.k, .slice j.stages.a j.stages.n j.stages.k, .slice j.outputs.a j.outputs.n j.outputs.k, .int .i64 j.priority] ?_
  intro b_1 w_2 hS_3
  refine p2 (by kernel_rfl) ?_
  refine nilO ?_
  refine thenK_n <| ?_
  refine seqE ?_
  refine regionE ?_
  refine sBS hS_3 #[.int .u8 84, .int .u8 70, .int .u8 1] Try.runUnderlying31 Try.sizeOf5 Try.zeroValue5 ?_
  intro b_4 w_5 hS_6
  refine p1 (by kernel_rfl) ?_
  refine sL hS_6 1 3 (.int .i64 j.priority) (Try.isAgg3 _) ?_
  have hO_7 := OwnT.blk (enc := encB) (sz := 1) (b := b_4) (c := #[.int .u8 84, .int .u8 70, .int .u8 1]) (E := 5) (xs := [84, 70, 1]) (fun _ => rfl) 3 rfl rfl rfl (by omega)
  have hS_8 := hS_6.pick 1 rfl
  have hS_9 := hS_8.pick 1 rfl
  try dsimp only [List.set, List.eraseIdx] at hS_9
  refine sF #[.slice (some ⟨b_4, 0, none⟩) 3 3, .int .i64 j.priority] Try.call35 (Calls.mono (ref_put W _ _ _ _ _ _ _ _ hO_7 j.priority (by omega) hS_9) ?_)
  rintro _ w_10 ⟨a_12, n_13, k_14, c_15, rfl, hn_16, hO_17, hS_11⟩
  refine ⟨_, rfl, ?_⟩
  generalize eb_19 : ([84, 70, 1]) ++ bytesOf ([j.priority]) = bs_18 at hO_17
  have hbl_20 := hO_17.len
  try dsimp only [List.set, List.eraseIdx] at hS_11
  refine p1 (by kernel_rfl) ?_
  refine nilO ?_
  refine thenK_n <| ?_
  refine seqE ?_
  refine regionE ?_
  refine p2 (by kernel_rfl) ?_
  refine sL hS_11 1 0 (.slice j.inputs.a j.inputs.n j.inputs.k) (Try.isAgg25 _) ?_
  refine p1 (by kernel_rfl) ?_
  have hS_21 := hS_11.pick 1 rfl
  have hS_22 := hS_21.pick 1 rfl
  try dsimp only [List.set, List.eraseIdx] at hS_22
  refine sF #[.slice a_12 n_13 k_14, .int .i64 ((j.inputs.n : Nat) : Int)] Try.call35 (Calls.mono (ref_put W _ _ _ _ _ _ _ _ hO_17 ((j.inputs.n : Nat) : Int) (by omega) hS_22) ?_)
  rintro _ w_23 ⟨a_25, n_26, k_27, c_28, rfl, hn_29, hO_30, hS_24⟩
  refine ⟨_, rfl, ?_⟩
  generalize eb_32 : bs_18 ++ bytesOf ([((j.inputs.n : Nat) : Int)]) = bs_31 at hO_30
  have hbl_33 := hO_30.len
  try dsimp only [List.set, List.eraseIdx] at hS_24
  refine p1 (by kernel_rfl) ?_
  refine nilO ?_
  have hE_34 : Enc bs_31 [j.priority, (j.inputs.n : Int)] := .inl (by subst eb_32; subst eb_19; simp [bytesOf])
  refine thenK_n <| ?_
  refine cutE (fun ρ w => ∃ (a4 : Option Addr) (n4 : Nat) (k4 : Nat) (c4 : Chunk) (bs4 : List Int), AllAt ρ [(1, .pointer (some ⟨b_1, 0, none⟩)), (4, .slice a4 n4 k4)] ∧ Sat W w (c4 :: [(b_1, .cells #[.slice j.inputs.a j.inputs.n j.inputs.k, .slice j.stages.a j.stages.n j.stages.k, .slice j.outputs.a j.outputs.n j.outputs.k, .int .i64 j.priority] 28 (0, 0))] :: H :: F) ∧ Enc bs4 ([j.priority, (j.inputs.n : Int)] ++ j.inputs.l.flatMap (fun x => nPlane x.v)) ∧ OwnT encB 5 1 a4 n4 k4 bs4 c4 ∧ bs4.length = n4 ∧ n4 ≤ 8000000003) ?_ ?_
  · refine seqE ?_
    refine regionE ?_
    refine p1 (by kernel_rfl) ?_
    refine nilO ?_
    refine thenK_n <| ?_
    refine blockE ?_
    have hS_35 := hS_24.pick 2 rfl
    have hS_36 := hS_35.pick 2 rfl
    have hS_37 := hS_36.pick 2 rfl
    try dsimp only [List.set, List.eraseIdx] at hS_37
    try dsimp only [List.set, List.eraseIdx] at hS_37
    refine loopE (γ := Nat × (Option Addr) × Nat × Nat × Chunk × (List Int)) (fun ⟨i, a', n', k', c', bs'⟩ ρ w => AllAt ρ [(1, .pointer (some ⟨b_1, 0, none⟩)), (4, .slice a' n' k'), (5, .int .i64 ((i : Nat) : Int))] ∧ Sat W w (c' :: [(b_1, .cells #[.slice j.inputs.a j.inputs.n j.inputs.k, .slice j.stages.a j.stages.n j.stages.k, .slice j.outputs.a j.outputs.n j.outputs.k, .int .i64 j.priority] 28 (0, 0))] :: H :: F) ∧ i ≤ j.inputs.n ∧ Enc bs' ([j.priority, (j.inputs.n : Int)] ++ (j.inputs.l.take i).flatMap (fun x => nPlane x.v)) ∧ OwnT encB 5 1 a' n' k' bs' c' ∧ bs'.length = n') (fun ⟨i, a', n', k', c', bs'⟩ => j.inputs.n - i) (0, a_25, n_26, k_27, c_28, bs_31) ⟨⟨by kernel_rfl, by kernel_rfl, by kernel_rfl, trivial⟩, hS_37, Nat.zero_le _, by simpa using hE_34, hO_30, hO_30.len⟩ ?_
    skip
    rintro ⟨i, a', n', k', c', bs'⟩ ρ w_38 ⟨hA, hS_39, hi, hp, hO', hbl'⟩
    refine cAnchor hA (fun ρ => ?_)
    clear hA
    refine seqE ?_
    refine seqE ?_
    refine regionE ?_
    refine p2 (by kernel_rfl) ?_
    refine sL hS_39 1 0 (.slice j.inputs.a j.inputs.n j.inputs.k) (Try.isAgg25 _) ?_
    refine p3 (by kernel_rfl) ?_
    by_cases hc_40 : (((i : Nat) : Int) : Int) < ((j.inputs.n : Nat) : Int)
    · refine sFix 22 (decide ((((i : Nat) : Int) : Int) < ((j.inputs.n : Nat) : Int))) true (decide_eq_true hc_40) ?_
      refine p4 (by kernel_rfl) ?_
      refine nilO ?_
      refine thenK_n <| ?_
      by_cases hc_41 : (((n' : Nat) : Int) : Int) ≤ 262144
      · refine cT (decide ((((n' : Nat) : Int) : Int) ≤ 262144)) (decide_eq_true hc_41) ?_
        refine skipE ?_
        refine thenK_n <| ?_
        refine seqE ?_
        refine blockE ?_
        refine seqE ?_
        refine regionE ?_
        refine p1 (by kernel_rfl) ?_
        refine sL hS_39 1 0 (.slice j.inputs.a j.inputs.n j.inputs.k) (Try.isAgg25 _) ?_
        refine p1 (by kernel_rfl) ?_
        refine sIdx hj.inputs ((i : Nat) : Int) Try.runUnderlying25 Try.sizeOf49 ?_
        intro x_42 b_43 o_44 hx_45 hp_46
        rw [Int.toNat_natCast] at hx_45
        have hl_x_42_pix := (hj.inputsD x_42 (List.mem_of_getElem? hx_45)).pix.len
        have hfl := flat_le (f := (fun x => nPlane x.v)) hx_45
        have hpl := nPlane_len x_42
        have hEle := hp.le
        simp only [List.length_append, List.length_cons, List.length_nil] at hEle
        refine sLpA hS_39 (hp_46.up 2 rfl) 0 [.int .i64 x_42.w, .int .i64 x_42.h, .int .i64 x_42.max_, .slice x_42.pix.a x_42.pix.n x_42.pix.k] (Try.isAgg49 _) (Try.sizeOf49 _) ?_
        refine sAlloc hS_39 Try.zeroValue49 ?_
        intro b_47 w_48 hS_49
        try dsimp only [List.set, List.eraseIdx] at hS_49
        refine sT hS_49 0 0 (.agg #[.int .i64 x_42.w, .int .i64 x_42.h, .int .i64 x_42.max_, .slice x_42.pix.a x_42.pix.n x_42.pix.k]) [.int .i64 x_42.w, .int .i64 x_42.h, .int .i64 x_42.max_, .slice x_42.pix.a x_42.pix.n x_42.pix.k] #[.int .i64 x_42.w, .int .i64 x_42.h, .int .i64 x_42.max_, .slice x_42.pix.a x_42.pix.n x_42.pix.k] Try.sizeOf49 ?_
        intro w_50 hS_51
        try dsimp only [List.set, List.eraseIdx] at hS_51
        refine nilO ?_
        refine thenK_n <| ?_
        refine drawE [3, 6, 9, 12] [(2, ⟨b_47, 0, none⟩, .int .i64 x_42.w), (5, ⟨b_47, 1, none⟩, .int .i64 x_42.h), (8, ⟨b_47, 2, none⟩, .int .i64 x_42.max_), (11, ⟨b_47, 3, none⟩, .slice x_42.pix.a x_42.pix.n x_42.pix.k)] [(true, [0, 1, 4, 7, 10]), (true, [2]), (true, [5]), (true, [8]), (true, [11]), (false, [3]), (false, [6]), (false, [9]), (false, [12]), (true, [13])] rfl (by kernel_rfl) ⟨.inr (hS_51.cell 0 rfl rfl), .inr (hS_51.cell 0 rfl rfl), .inr (hS_51.cell 0 rfl rfl), .inr (hS_51.cell 0 rfl rfl), trivial⟩ ?_
        have hS_52 := hS_51.drew
        refine wP [0, 1, 4, 7, 10] rfl (by kernel_rfl) ?_
        refine wS (.int .i64 x_42.w) rfl rfl rfl (fun w hF => Y_load rfl (Try.isAgg3 w) (by kernel_rfl) (hF 0 _ _ rfl)) ?_
        refine wS (.int .i64 x_42.h) rfl rfl rfl (fun w hF => Y_load rfl (Try.isAgg3 w) (by kernel_rfl) (hF 1 _ _ rfl)) ?_
        refine wS (.int .i64 x_42.max_) rfl rfl rfl (fun w hF => Y_load rfl (Try.isAgg3 w) (by kernel_rfl) (hF 2 _ _ rfl)) ?_
        refine wS (.slice x_42.pix.a x_42.pix.n x_42.pix.k) rfl rfl rfl (fun w hF => Y_load rfl (Try.isAgg22 w) (by kernel_rfl) (hF 3 _ _ rfl)) ?_
        refine wO rfl ?_
        have hS_53 := hS_52.pick 0 rfl
        have hS_54 := hS_53.pick 1 rfl
        try dsimp only [List.set, List.eraseIdx] at hS_54
        refine sF #[.slice a' n' k', .int .i64 x_42.w] Try.call35 (Calls.mono (ref_put W _ _ _ _ _ _ _ _ hO' x_42.w (by omega) hS_54) ?_)
        rintro _ w_55 ⟨a_57, n_58, k_59, c_60, rfl, hn_61, hO_62, hS_56⟩
        refine ⟨_, rfl, ?_⟩
        generalize eb_64 : bs' ++ bytesOf ([x_42.w]) = bs_63 at hO_62
        have hbl_65 := hO_62.len
        try dsimp only [List.set, List.eraseIdx] at hS_56
        refine nilO ⟨⟨.inl (by kernel_rfl), .inr (hS_56.cell 1 rfl rfl), .inr (hS_56.cell 1 rfl rfl), .inr (hS_56.cell 1 rfl rfl), trivial⟩, ?_⟩
        refine wO rfl ?_
        have hS_66 := hS_56.pick 1 rfl
        have hS_67 := hS_66.pick 1 rfl
        try dsimp only [List.set, List.eraseIdx] at hS_67
        refine sF #[.slice a_57 n_58 k_59, .int .i64 x_42.h] Try.call35 (Calls.mono (ref_put W _ _ _ _ _ _ _ _ hO_62 x_42.h (by omega) hS_67) ?_)
        rintro _ w_68 ⟨a_70, n_71, k_72, c_73, rfl, hn_74, hO_75, hS_69⟩
        refine ⟨_, rfl, ?_⟩
        generalize eb_77 : bs_63 ++ bytesOf ([x_42.h]) = bs_76 at hO_75
        have hbl_78 := hO_75.len
        try dsimp only [List.set, List.eraseIdx] at hS_69
        refine nilO ⟨⟨.inl (by kernel_rfl), .inl (by kernel_rfl), .inr (hS_69.cell 1 rfl rfl), .inr (hS_69.cell 1 rfl rfl), trivial⟩, ?_⟩
        refine wO rfl ?_
        have hS_79 := hS_69.pick 1 rfl
        have hS_80 := hS_79.pick 1 rfl
        try dsimp only [List.set, List.eraseIdx] at hS_80
        refine sF #[.slice a_70 n_71 k_72, .int .i64 x_42.max_] Try.call35 (Calls.mono (ref_put W _ _ _ _ _ _ _ _ hO_75 x_42.max_ (by omega) hS_80) ?_)
        rintro _ w_81 ⟨a_83, n_84, k_85, c_86, rfl, hn_87, hO_88, hS_82⟩
        refine ⟨_, rfl, ?_⟩
        generalize eb_90 : bs_76 ++ bytesOf ([x_42.max_]) = bs_89 at hO_88
        have hbl_91 := hO_88.len
        try dsimp only [List.set, List.eraseIdx] at hS_82
        refine nilO ⟨⟨.inl (by kernel_rfl), .inl (by kernel_rfl), .inl (by kernel_rfl), .inr (hS_82.cell 1 rfl rfl), trivial⟩, ?_⟩
        refine wO rfl ?_
        have hS_92 := hS_82.pick 3 rfl
        have hS_93 := hS_92.pick 1 rfl
        try dsimp only [List.set, List.eraseIdx] at hS_93
        refine sF #[.slice a_83 n_84 k_85, .slice x_42.pix.a x_42.pix.n x_42.pix.k] Try.call36 (Calls.mono (ref_puts W _ _ _ _ _ _ _ _ hO_88 _ _ _ _ (hj.inputsD x_42 (List.mem_of_getElem? hx_45)).pix (by omega) hS_93) ?_)
        rintro _ w_94 ⟨a_96, n_97, k_98, c_99, rfl, hn_100, hO_101, hS_95⟩
        refine ⟨_, rfl, ?_⟩
        generalize eb_103 : bs_89 ++ bytesOf (nInts x_42.pix.l) = bs_102 at hO_101
        have hbl_104 := hO_101.len
        try dsimp only [List.set, List.eraseIdx] at hS_95
        refine nilO ⟨⟨.inl (by kernel_rfl), .inl (by kernel_rfl), .inl (by kernel_rfl), .inl (by kernel_rfl), trivial⟩, ?_⟩
        refine wP [13] rfl (by kernel_rfl) ?_
        refine wN ?_
        refine blockK_n <| thenK_n <| ?_
        refine regionE ?_
        refine p1 (by kernel_rfl) ?_
        refine sAdd ((i : Nat) : Int) 1 ?_
        refine p1 (by kernel_rfl) ?_
        refine nilO ?_
        refine thenK_n <| ?_
        have hS_105 := hS_95.pick 1 rfl
        have hS_106 := hS_105.pick 3 rfl
        have hS_107 := hS_106.pick 2 rfl
        try dsimp only [List.set, List.eraseIdx] at hS_107
        have hS_108 := hS_107.dropAt 3 rfl
        try dsimp only [List.set, List.eraseIdx] at hS_108
        have hstep : bs_102 = bs' ++ bytesOf ((fun x => nPlane x.v) x_42) := by subst eb_103; subst eb_90; subst eb_77; subst eb_64; first | rfl | (simp only [bytesOf_one, bytesOf_app, bytesOf_cons, nTap, nOp, nPlane, nInts, List.append_assoc, List.cons_append, List.nil_append]; done) | (simp [bytesOf, nTap, nOp, nPlane, nInts, Plane.v, Tap.v]; done)
        have hEn := hp.app ((fun x => nPlane x.v) x_42)
        rw [← hstep, List.append_assoc, ← flat_step (f := (fun x => nPlane x.v)) hx_45] at hEn
        exact ⟨(i + 1, a_96, n_97, k_98, c_99, bs_102), by dsimp only; omega, ⟨by kernel_rfl, by kernel_rfl, by kernel_rfl, trivial⟩, hS_108, by omega, hEn, hO_101, hO_101.len⟩
      · refine cF (decide ((((n' : Nat) : Int) : Int) ≤ 262144)) (decide_eq_false hc_41) ?_
        refine exitE (thenK_x <| thenK_x <| blockK_x <| ?_)
        refine thenK_n <| ?_
        have hS_109 := hS_39.pick 2 rfl
        have hS_110 := hS_109.pick 2 rfl
        have hS_111 := hS_110.pick 2 rfl
        try dsimp only [List.set, List.eraseIdx] at hS_111
        try dsimp only [List.set, List.eraseIdx] at hS_111
        have hEz : Enc bs' ([j.priority, (j.inputs.n : Int)] ++ j.inputs.l.flatMap (fun x => nPlane x.v)) := by
          by_cases hi2 : i = j.inputs.n
          · rwa [flat_all (by omega)] at hp
          · refine Enc.more (by omega) (Nat.le_trans hp.le ?_)
            simp only [List.length_append]
            have := flat_take_le (f := (fun x => nPlane x.v)) j.inputs.l i
            omega
        exact ⟨a', n', k', c', bs', ⟨by kernel_rfl, by kernel_rfl, trivial⟩, hS_111, hEz, hO', hbl', by have h1 := hEz.le; simp only [List.length_append, List.length_cons, List.length_nil] at h1; omega⟩
    · refine sFix 22 (decide ((((i : Nat) : Int) : Int) < ((j.inputs.n : Nat) : Int))) false (decide_eq_false hc_40) ?_
      refine p4 (by kernel_rfl) ?_
      refine nilO ?_
      refine thenK_n <| ?_
      refine condE_false (by kernel_rfl) ?_
      refine exitE (thenK_x <| thenK_x <| blockK_x <| ?_)
      refine thenK_n <| ?_
      have hS_112 := hS_39.pick 2 rfl
      have hS_113 := hS_112.pick 2 rfl
      have hS_114 := hS_113.pick 2 rfl
      try dsimp only [List.set, List.eraseIdx] at hS_114
      try dsimp only [List.set, List.eraseIdx] at hS_114
      have hEz : Enc bs' ([j.priority, (j.inputs.n : Int)] ++ j.inputs.l.flatMap (fun x => nPlane x.v)) := by
        by_cases hi2 : i = j.inputs.n
        · rwa [flat_all (by omega)] at hp
        · refine Enc.more (by omega) (Nat.le_trans hp.le ?_)
          simp only [List.length_append]
          have := flat_take_le (f := (fun x => nPlane x.v)) j.inputs.l i
          omega
      exact ⟨a', n', k', c', bs', ⟨by kernel_rfl, by kernel_rfl, trivial⟩, hS_114, hEz, hO', hbl', by have h1 := hEz.le; simp only [List.length_append, List.length_cons, List.length_nil] at h1; omega⟩
  · rintro ρ w_115 ⟨a4, n4, k4, c4, bs4, hA, hS_116, hE4, hO4, hbl4, hle4⟩
    refine cAnchor hA (fun ρ => ?_)
    clear hA
    refine seqE ?_
    refine regionE ?_
    refine p2 (by kernel_rfl) ?_
    refine sL hS_116 1 1 (.slice j.stages.a j.stages.n j.stages.k) (Try.isAgg26 _) ?_
    refine p1 (by kernel_rfl) ?_
    have hS_117 := hS_116.pick 1 rfl
    have hS_118 := hS_117.pick 1 rfl
    try dsimp only [List.set, List.eraseIdx] at hS_118
    refine sF #[.slice a4 n4 k4, .int .i64 ((j.stages.n : Nat) : Int)] Try.call35 (Calls.mono (ref_put W _ _ _ _ _ _ _ _ hO4 ((j.stages.n : Nat) : Int) (by omega) hS_118) ?_)
    rintro _ w_119 ⟨a_121, n_122, k_123, c_124, rfl, hn_125, hO_126, hS_120⟩
    refine ⟨_, rfl, ?_⟩
    generalize eb_128 : bs4 ++ bytesOf ([((j.stages.n : Nat) : Int)]) = bs_127 at hO_126
    have hbl_129 := hO_126.len
    try dsimp only [List.set, List.eraseIdx] at hS_120
    refine p1 (by kernel_rfl) ?_
    refine nilO ?_
    have hE_130 : Enc bs_127 (([j.priority, (j.inputs.n : Int)] ++ j.inputs.l.flatMap (fun x => nPlane x.v)) ++ [(j.stages.n : Int)]) := by have e := hE4.app [(j.stages.n : Int)]; subst eb_128; exact e
    refine thenK_n <| ?_
    refine cutE (fun ρ w => ∃ (a10 : Option Addr) (n10 : Nat) (k10 : Nat) (c10 : Chunk) (bs10 : List Int), AllAt ρ [(1, .pointer (some ⟨b_1, 0, none⟩)), (4, .slice a10 n10 k10)] ∧ Sat W w (c10 :: [(b_1, .cells #[.slice j.inputs.a j.inputs.n j.inputs.k, .slice j.stages.a j.stages.n j.stages.k, .slice j.outputs.a j.outputs.n j.outputs.k, .int .i64 j.priority] 28 (0, 0))] :: H :: F) ∧ Enc bs10 ((([j.priority, (j.inputs.n : Int)] ++ j.inputs.l.flatMap (fun x => nPlane x.v)) ++ [(j.stages.n : Int)]) ++ j.stages.l.flatMap (fun x => nStage x.v)) ∧ OwnT encB 5 1 a10 n10 k10 bs10 c10 ∧ bs10.length = n10 ∧ n10 ≤ 8000000003) ?_ ?_
    · refine seqE ?_
      refine regionE ?_
      refine p1 (by kernel_rfl) ?_
      refine nilO ?_
      refine thenK_n <| ?_
      refine blockE ?_
      have hS_131 := hS_120.pick 2 rfl
      have hS_132 := hS_131.pick 2 rfl
      have hS_133 := hS_132.pick 2 rfl
      try dsimp only [List.set, List.eraseIdx] at hS_133
      try dsimp only [List.set, List.eraseIdx] at hS_133
      refine loopE (γ := Nat × (Option Addr) × Nat × Nat × Chunk × (List Int)) (fun ⟨i, a', n', k', c', bs'⟩ ρ w => AllAt ρ [(1, .pointer (some ⟨b_1, 0, none⟩)), (4, .slice a' n' k'), (7, .int .i64 ((i : Nat) : Int))] ∧ Sat W w (c' :: [(b_1, .cells #[.slice j.inputs.a j.inputs.n j.inputs.k, .slice j.stages.a j.stages.n j.stages.k, .slice j.outputs.a j.outputs.n j.outputs.k, .int .i64 j.priority] 28 (0, 0))] :: H :: F) ∧ i ≤ j.stages.n ∧ Enc bs' ((([j.priority, (j.inputs.n : Int)] ++ j.inputs.l.flatMap (fun x => nPlane x.v)) ++ [(j.stages.n : Int)]) ++ (j.stages.l.take i).flatMap (fun x => nStage x.v)) ∧ OwnT encB 5 1 a' n' k' bs' c' ∧ bs'.length = n') (fun ⟨i, a', n', k', c', bs'⟩ => j.stages.n - i) (0, a_121, n_122, k_123, c_124, bs_127) ⟨⟨by kernel_rfl, by kernel_rfl, by kernel_rfl, trivial⟩, hS_133, Nat.zero_le _, by simpa using hE_130, hO_126, hO_126.len⟩ ?_
      skip
      rintro ⟨i, a', n', k', c', bs'⟩ ρ w_134 ⟨hA, hS_135, hi, hp, hO', hbl'⟩
      refine cAnchor hA (fun ρ => ?_)
      clear hA
      refine seqE ?_
      refine seqE ?_
      refine regionE ?_
      refine p2 (by kernel_rfl) ?_
      refine sL hS_135 1 1 (.slice j.stages.a j.stages.n j.stages.k) (Try.isAgg26 _) ?_
      refine p3 (by kernel_rfl) ?_
      by_cases hc_136 : (((i : Nat) : Int) : Int) < ((j.stages.n : Nat) : Int)
      · refine sFix 57 (decide ((((i : Nat) : Int) : Int) < ((j.stages.n : Nat) : Int))) true (decide_eq_true hc_136) ?_
        refine p4 (by kernel_rfl) ?_
        refine nilO ?_
        refine thenK_n <| ?_
        by_cases hc_137 : (((n' : Nat) : Int) : Int) ≤ 262144
        · refine cT (decide ((((n' : Nat) : Int) : Int) ≤ 262144)) (decide_eq_true hc_137) ?_
          refine skipE ?_
          refine thenK_n <| ?_
          refine seqE ?_
          refine blockE ?_
          refine regionE ?_
          refine p2 (by kernel_rfl) ?_
          refine sL hS_135 1 1 (.slice j.stages.a j.stages.n j.stages.k) (Try.isAgg26 _) ?_
          refine p1 (by kernel_rfl) ?_
          refine sIdx hj.stages ((i : Nat) : Int) Try.runUnderlying26 Try.sizeOf61 ?_
          intro x_138 b_139 o_140 hx_141 hp_142
          rw [Int.toNat_natCast] at hx_141
          have hl_x_138_weights := (hj.stagesD x_138 (List.mem_of_getElem? hx_141)).weights.len
          have hl_x_138_row := (hj.stagesD x_138 (List.mem_of_getElem? hx_141)).row.len
          have hl_x_138_col := (hj.stagesD x_138 (List.mem_of_getElem? hx_141)).col.len
          have hl_x_138_x := (hj.stagesD x_138 (List.mem_of_getElem? hx_141)).x.len
          have hl_x_138_y := (hj.stagesD x_138 (List.mem_of_getElem? hx_141)).y.len
          have hl_x_138_ops := (hj.stagesD x_138 (List.mem_of_getElem? hx_141)).ops.len
          have hfl := flat_le (f := (fun x => nStage x.v)) hx_141
          have hEle := hp.le
          simp only [List.length_append, List.length_cons, List.length_nil] at hEle
          refine sLpA hS_135 (hp_142.up 2 rfl) 0 [.int .i64 x_138.kind, .int .i64 x_138.a, .int .i64 x_138.b, .bool x_138.barrier, .int .i64 x_138.edgePolicy, .int .i64 x_138.edgeFill, .int .i64 x_138.kW, .int .i64 x_138.kH, .slice x_138.weights.a x_138.weights.n x_138.weights.k, .slice x_138.row.a x_138.row.n x_138.row.k, .slice x_138.col.a x_138.col.n x_138.col.k, .int .i64 x_138.shift, .int .i64 x_138.shift2, .slice x_138.x.a x_138.x.n x_138.x.k, .slice x_138.y.a x_138.y.n x_138.y.k, .int .i64 x_138.bins, .slice x_138.ops.a x_138.ops.n x_138.ops.k, .int .i64 x_138.max_] (Try.isAgg61 _) (Try.sizeOf61 _) ?_
          have hS_143 := hS_135.pick 2 rfl
          have hS_144 := hS_143.pick 1 rfl
          try dsimp only [List.set, List.eraseIdx] at hS_144
          refine sF #[.slice a' n' k', .agg #[.int .i64 x_138.kind, .int .i64 x_138.a, .int .i64 x_138.b, .bool x_138.barrier, .int .i64 x_138.edgePolicy, .int .i64 x_138.edgeFill, .int .i64 x_138.kW, .int .i64 x_138.kH, .slice x_138.weights.a x_138.weights.n x_138.weights.k, .slice x_138.row.a x_138.row.n x_138.row.k, .slice x_138.col.a x_138.col.n x_138.col.k, .int .i64 x_138.shift, .int .i64 x_138.shift2, .slice x_138.x.a x_138.x.n x_138.x.k, .slice x_138.y.a x_138.y.n x_138.y.k, .int .i64 x_138.bins, .slice x_138.ops.a x_138.ops.n x_138.ops.k, .int .i64 x_138.max_]] Try.call37 (Calls.mono (ref_stage W _ _ _ _ _ _ _ _ hO' x_138 (hj.stagesD x_138 (List.mem_of_getElem? hx_141)) (by omega) hS_144) ?_)
          rintro _ w_145 ⟨a_147, n_148, k_149, c_150, rfl, hn_151, hO_152, hS_146⟩
          refine ⟨_, rfl, ?_⟩
          generalize eb_154 : bs' ++ bytesOf (nStage x_138.v) = bs_153 at hO_152
          have hbl_155 := hO_152.len
          try dsimp only [List.set, List.eraseIdx] at hS_146
          refine p1 (by kernel_rfl) ?_
          refine nilO ?_
          refine blockK_n <| thenK_n <| ?_
          refine regionE ?_
          refine p1 (by kernel_rfl) ?_
          refine sAdd ((i : Nat) : Int) 1 ?_
          refine p1 (by kernel_rfl) ?_
          refine nilO ?_
          refine thenK_n <| ?_
          have hS_156 := hS_146.pick 1 rfl
          have hS_157 := hS_156.pick 2 rfl
          have hS_158 := hS_157.pick 2 rfl
          try dsimp only [List.set, List.eraseIdx] at hS_158
          try dsimp only [List.set, List.eraseIdx] at hS_158
          have hstep : bs_153 = bs' ++ bytesOf ((fun x => nStage x.v) x_138) := by subst eb_154; first | rfl | (simp only [bytesOf_one, bytesOf_app, bytesOf_cons, nTap, nOp, nPlane, nInts, List.append_assoc, List.cons_append, List.nil_append]; done) | (simp [bytesOf, nTap, nOp, nPlane, nInts, Plane.v, Tap.v]; done)
          have hEn := hp.app ((fun x => nStage x.v) x_138)
          rw [← hstep, List.append_assoc, ← flat_step (f := (fun x => nStage x.v)) hx_141] at hEn
          exact ⟨(i + 1, a_147, n_148, k_149, c_150, bs_153), by dsimp only; omega, ⟨by kernel_rfl, by kernel_rfl, by kernel_rfl, trivial⟩, hS_158, by omega, hEn, hO_152, hO_152.len⟩
        · refine cF (decide ((((n' : Nat) : Int) : Int) ≤ 262144)) (decide_eq_false hc_137) ?_
          refine exitE (thenK_x <| thenK_x <| blockK_x <| ?_)
          refine thenK_n <| ?_
          have hS_159 := hS_135.pick 2 rfl
          have hS_160 := hS_159.pick 2 rfl
          have hS_161 := hS_160.pick 2 rfl
          try dsimp only [List.set, List.eraseIdx] at hS_161
          try dsimp only [List.set, List.eraseIdx] at hS_161
          have hEz : Enc bs' ((([j.priority, (j.inputs.n : Int)] ++ j.inputs.l.flatMap (fun x => nPlane x.v)) ++ [(j.stages.n : Int)]) ++ j.stages.l.flatMap (fun x => nStage x.v)) := by
            by_cases hi2 : i = j.stages.n
            · rwa [flat_all (by omega)] at hp
            · refine Enc.more (by omega) (Nat.le_trans hp.le ?_)
              simp only [List.length_append]
              have := flat_take_le (f := (fun x => nStage x.v)) j.stages.l i
              omega
          exact ⟨a', n', k', c', bs', ⟨by kernel_rfl, by kernel_rfl, trivial⟩, hS_161, hEz, hO', hbl', by have h1 := hEz.le; simp only [List.length_append, List.length_cons, List.length_nil] at h1; omega⟩
      · refine sFix 57 (decide ((((i : Nat) : Int) : Int) < ((j.stages.n : Nat) : Int))) false (decide_eq_false hc_136) ?_
        refine p4 (by kernel_rfl) ?_
        refine nilO ?_
        refine thenK_n <| ?_
        refine condE_false (by kernel_rfl) ?_
        refine exitE (thenK_x <| thenK_x <| blockK_x <| ?_)
        refine thenK_n <| ?_
        have hS_162 := hS_135.pick 2 rfl
        have hS_163 := hS_162.pick 2 rfl
        have hS_164 := hS_163.pick 2 rfl
        try dsimp only [List.set, List.eraseIdx] at hS_164
        try dsimp only [List.set, List.eraseIdx] at hS_164
        have hEz : Enc bs' ((([j.priority, (j.inputs.n : Int)] ++ j.inputs.l.flatMap (fun x => nPlane x.v)) ++ [(j.stages.n : Int)]) ++ j.stages.l.flatMap (fun x => nStage x.v)) := by
          by_cases hi2 : i = j.stages.n
          · rwa [flat_all (by omega)] at hp
          · refine Enc.more (by omega) (Nat.le_trans hp.le ?_)
            simp only [List.length_append]
            have := flat_take_le (f := (fun x => nStage x.v)) j.stages.l i
            omega
        exact ⟨a', n', k', c', bs', ⟨by kernel_rfl, by kernel_rfl, trivial⟩, hS_164, hEz, hO', hbl', by have h1 := hEz.le; simp only [List.length_append, List.length_cons, List.length_nil] at h1; omega⟩
    · rintro ρ w_165 ⟨a10, n10, k10, c10, bs10, hA, hS_166, hE10, hO10, hbl10, hle10⟩
      refine cAnchor hA (fun ρ => ?_)
      clear hA
      refine seqE ?_
      refine regionE ?_
      refine p2 (by kernel_rfl) ?_
      refine sL hS_166 1 2 (.slice j.outputs.a j.outputs.n j.outputs.k) (Try.isAgg22 _) ?_
      have hS_167 := hS_166.pick 2 rfl
      have hS_168 := hS_167.pick 1 rfl
      try dsimp only [List.set, List.eraseIdx] at hS_168
      refine sF #[.slice a10 n10 k10, .slice j.outputs.a j.outputs.n j.outputs.k] Try.call36 (Calls.mono (ref_puts W _ _ _ _ _ _ _ _ hO10 _ _ _ _ hj.outputs (by omega) hS_168) ?_)
      rintro _ w_169 ⟨a_171, n_172, k_173, c_174, rfl, hn_175, hO_176, hS_170⟩
      refine ⟨_, rfl, ?_⟩
      generalize eb_178 : bs10 ++ bytesOf (nInts j.outputs.l) = bs_177 at hO_176
      have hbl_179 := hO_176.len
      try dsimp only [List.set, List.eraseIdx] at hS_170
      refine p1 (by kernel_rfl) ?_
      refine nilO ?_
      refine thenK_n <| ?_
      refine seqE ?_
      refine seqE ?_
      refine regionE ?_
      refine p3 (by kernel_rfl) ?_
      refine nilO ?_
      refine thenK_n <| ?_
      by_cases hc_180 : (((n_172 : Nat) : Int) : Int) > 262144
      · refine cT (decide ((((n_172 : Nat) : Int) : Int) > 262144)) (decide_eq_true hc_180) ?_
        refine seqE ?_
        refine regionE ?_
        refine p2 (by kernel_rfl) ?_
        refine nilO ?_
        refine thenK_n <| ?_
        refine retE (thenK_r <| ?_)
        refine retN (vs := [.slice none 0 0, .int .i64 5]) rfl (.cons (.tmp _ _ (by kernel_rfl)) (.cons (.tmp _ _ (by kernel_rfl)) .nil)) <| ?_
        have hEf : Enc bs_177 (nJob j.v) := by
          have e := hE10.app (nInts j.outputs.l)
          rw [show (((([j.priority, (j.inputs.n : Int)] ++ j.inputs.l.flatMap (fun x => nPlane x.v)) ++ [(j.stages.n : Int)]) ++ j.stages.l.flatMap (fun x => nStage x.v)) ++ nInts j.outputs.l) = nJob j.v from by simp only [nJob, nInts, Job.v, List.length_map, List.flatMap_map, hl_inputs, hl_stages, List.append_assoc, List.cons_append, List.nil_append]] at e
          subst eb_178; exact e
        have hlf := hO_176.len
        have hS_181 := hS_170.pick 1 rfl
        try dsimp only [List.set, List.eraseIdx] at hS_181
        have hS_182 := hS_181.dropAt 1 rfl
        have hS_183 := hS_182.dropAt 1 rfl
        change Sat _ _ (H :: F) at hS_183
        refine .inr ⟨by have := hEf.le; omega, rfl, hS_183⟩
      · refine cF (decide ((((n_172 : Nat) : Int) : Int) > 262144)) (decide_eq_false hc_180) ?_
        refine skipE ?_
        refine thenK_n <| ?_
        refine seqE ?_
        refine regionE ?_
        refine p3 (by kernel_rfl) ?_
        refine nilO ?_
        refine thenK_n <| ?_
        refine retE ?_
        refine retN (vs := [.slice a_171 n_172 k_173, .int .i64 0]) rfl (.cons (.tmp _ _ (by kernel_rfl)) (.cons (.tmp _ _ (by kernel_rfl)) .nil)) <| ?_
        have hEf : Enc bs_177 (nJob j.v) := by
          have e := hE10.app (nInts j.outputs.l)
          rw [show (((([j.priority, (j.inputs.n : Int)] ++ j.inputs.l.flatMap (fun x => nPlane x.v)) ++ [(j.stages.n : Int)]) ++ j.stages.l.flatMap (fun x => nStage x.v)) ++ nInts j.outputs.l) = nJob j.v from by simp only [nJob, nInts, Job.v, List.length_map, List.flatMap_map, hl_inputs, hl_stages, List.append_assoc, List.cons_append, List.nil_append]] at e
          subst eb_178; exact e
        have hlf := hO_176.len
        have hS_184 := hS_170.pick 1 rfl
        have hS_185 := hS_184.pick 1 rfl
        try dsimp only [List.set, List.eraseIdx] at hS_185
        have hS_186 := hS_185.dropAt 2 rfl
        change Sat _ _ (c_174 :: H :: F) at hS_186
        rcases hEf with hEf | hEf
        · have hll := congrArg List.length hEf; simp only [List.length_append, bytesOf_len, List.length_cons, List.length_nil] at hll
          have hO9 := hO_176; rw [hEf] at hO9
          exact .inl ⟨by omega, _, _, _, _, rfl, hO9, hS_186⟩
        · exact absurd hEf.1 (by omega)
end Go.Proofs.Ytcddcpaodcjecaa
