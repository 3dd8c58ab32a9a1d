import Derived.Test.YtegmennaekipaaaBd2
namespace Go.Proofs.Ytegmennaekipaaa
open Go Go.E
set_option linter.unusedVariables false
set_option linter.unusedSimpArgs false
set_option linter.unnecessarySimpa false
set_option maxRecDepth 100000
set_option maxHeartbeats 2000000
variable {W w : World} {H : Chunk} {F : List Chunk}

theorem nextOf_len : ∀ (k : Nat) (D : List (List Int)) (j : Int), (nextOf k D j).length ≤ D.length
  | _, [], _ => by simp [nextOf]
  | k, d :: D, j => by
    have := nextOf_len (k + 1) D j
    simp only [nextOf, List.length_append, List.length_cons]
    split <;> simp <;> omega
theorem nx_short {es : List BEnt} {l : List Task} {n i q : Nat} {e : List Int} {x : BEnt} (h : es.map BEnt.v = (List.range n).map (entN l (i + 1) ((l.map (·.deps.l)).take i ++ [e]))) (hx : es[q]? = some x) (hi : i < 4096) : x.next.l.length ≤ 4096 := by
  have h1 := (ent_at h hx).2
  have h2 := congrArg BEntV.next h1
  have h3 := nextOf_len 0 ((l.map (·.deps.l)).take i ++ [e]) q
  have h4 : x.next.l = nextOf 0 ((l.map (·.deps.l)).take i ++ [e]) q := by simp only [BEnt.v, entN] at h2; rw [h2]; split <;> rfl
  rw [h4]; simp at h3; omega
theorem b_new (al : Option Addr) (nl kl : Nat) (l : List Task) (hl : RdT encTask 9 [H] al nl kl l) (dl : ∀ z ∈ l, Task.Ok [H] z) (hS : Sat W w (H :: F)) :
    Calls Try.prog 46 #[.slice al nl kl] w fun e w' => (validC l ≠ 0 ∧ e = .returned (.tuple #[.pointer none, .int .i64 (validC l)]) ∧ Sat W w' (H :: F)) ∨ (validC l = 0 ∧ ∃ (p : Nat) (M : Chunk), e = .returned (.tuple #[.pointer (some ⟨p, 0, none⟩), .int .i64 0]) ∧ BoardR p (newB l) M ∧ Sat W w' (M :: H :: F)) := by
  have hl_l := hl.le; have hn_l := hl.len
  refine callsA 95 Try.func46 rfl ?_
  refine seqE <| regionE <| pu2 <| nilO <| thenK_n <| seqE <| seqE <| regionE <| pu4 ?_
  refine sE 15 ((nl : Nat) : Int) 0 (fun hc_1 => ?_) (fun hc_1 => ?_)
  · refine pu4 <| nilO <| thenK_n <| cTt <| seqE <| regionE <| pu2 <| nilO <| thenK_n <| retE <| thenK_r <| retT [.pointer none, .int .i64 5] <| ?_
    exact .inl ⟨by rw [validC_lim (by omega)]; decide, by rw [validC_lim (by omega)]; rfl, hS⟩
  refine pu4 <| nilO <| thenK_n <| ?_
  refine cD (((nl : Nat) : Int) > 4096) (fun hc_2 => ?_) (fun hc_2 => ?_)
  · refine seqE <| regionE <| pu2 <| nilO <| thenK_n <| retE <| thenK_r <| retT [.pointer none, .int .i64 5] <| ?_
    exact .inl ⟨by rw [validC_lim (by omega)]; decide, by rw [validC_lim (by omega)]; rfl, hS⟩
  refine skipE <| thenK_n <| seqE <| seqE <| regionE <| pu3 <| nilO <| thenK_n <| blockE ?_
  refine loopA (γ := Nat) (fun i => [(0, .slice al nl kl), (20, .slice al nl kl), (21, .int .i64 ((nl : Nat) : Int)), (22, .int .i64 ((i : Nat) : Int))]) (fun i w => Sat W w (H :: F) ∧ i ≤ nl ∧ (tasksOK 0 (l.take i) = true) ∧ (0 < nl ∧ nl ≤ 4096)) (fun i => nl - i) 0 ⟨hS, by omega, by simp [tasksOK], by omega⟩ ?_
  rintro i ρ w_3 ⟨hS_4, hi, hVi, hl0⟩
  refine seqE <| regionE <| pu1 <| nilO <| thenK_n <| seqE ?_
  refine cD (((i : Nat) : Int) < ((nl : Nat) : Int)) (fun hc_5 => ?_) (fun hc_5 => ?_)
  · refine skipE <| thenK_n <| seqE <| blockE <| seqE <| regionE <| pu1 ?_
    refine sIdx hl ((i : Nat) : Int) Try.runUnderlying23 Try.sizeOf31 ?_
    intro x_6 b_7 o_8 hx_9 hp_10
    rw [Int.toNat_natCast] at hx_9
    refine sLpA hS_4 (hp_10.up 0 rfl) 0 (encTask x_6) (Try.isAgg31 _) (Try.sizeOf31 _) ?_
    refine sAlloc hS_4 Try.zeroValue31 ?_
    intro b_11 w_12 hS_13
    refine pu1 ?_
    refine sT hS_13 0 0 (.agg (encTask x_6).toArray) (encTask x_6) (encTask x_6).toArray Try.sizeOf31 ?_
    intro w_14 hS_15
    refine nilO <| thenK_n <| seqE <| regionE ?_
    refine lA hS_15 0 0 9 (Try.isAgg31 _) (Try.sizeOf31 _) ?_
    refine pu1 ?_
    refine cR Try.call76 (b_valid x_6 ((i : Nat) : Int) ⟨(RdT.flat ((dl x_6 (List.mem_of_getElem? hx_9)).deps.up 1 (by rfl)))⟩ (Sat.flat hS_15)) ?_
    intro w_16 hS_17
    refine pu1 <| nilO <| thenK_n <| ?_
    refine cBn (taskOK ((i : Nat) : Int) x_6) (fun hc_19 => ?_) (fun hc_19 => ?_)
    · refine skipE <| blockK_n <| thenK_n <| regionE ?_
      refine sAdd ((i : Nat) : Int) 1 ?_
      refine pu1 <| nilO <| thenK_n <| ?_
      have hS_20 := (hS_17.dropAt 0 rfl)
      exact ⟨i + 1, by first | omega | (dsimp only; omega), alA, hS_20, by omega, (by rw [tasksOK_take hx_9, hVi]; simpa using hc_19), by omega⟩
    refine seqE <| regionE <| pu2 <| nilO <| thenK_n <| retE <| blockK_r <| thenK_r <| thenK_r <| blockK_r <| thenK_r <| retT [.pointer none, .int .i64 1] <| ?_
    have hS_21 := (hS_17.dropAt 0 rfl)
    have hv1 := validC_bad (by omega) (by omega) (tasksOK_no hx_9 (by simpa using hc_19))
    exact .inl ⟨by rw [hv1]; decide, by rw [hv1]; rfl, hS_21⟩
  refine exitE <| thenK_x <| thenK_x <| blockK_x <| thenK_n <| seqE ?_
  have hV : tasksOK 0 l = true := by rw [← List.take_of_length_le (i := i) (l := l) (by omega)]; exact hVi
  refine regionE <| pu2 ?_
  refine sMake (kl := .i64) (kc := .i64) (enc := encBEnt) (sz := 4) (nb := 48) hS_4 ⟨0, 0, 0, ⟨none, 0, 0, []⟩⟩ nl ((nl : Nat) : Int) (rfl : ((nl : Nat) : Int) = ((nl : Nat) : Int)) Try.underlying120 (i := Try.t125) (by kernel_rfl) (fun _ => rfl) ?_
  intro b_22 c_23 w_25 hO_24 hS_26
  refine pu1 ?_
  refine sBox hS_26 (.agg #[.slice (some ⟨b_22, 0, none⟩) nl nl, .int .i64 0]) #[.slice (some ⟨b_22, 0, none⟩) nl nl, .int .i64 0] ?_
  intro b_27 w_28 hS_29
  refine pu1 <| nilO <| thenK_n <| seqE <| seqE <| regionE <| pu3 <| nilO <| thenK_n <| blockE ?_
  have hS_30 : Sat W _ ([(b_27, .cells #[.slice (some ⟨b_22, 0, none⟩) nl nl, .int .i64 0] 122 (0, 0))] :: c_23 :: (List.replicate nl ([] : Chunk)).flatten :: H :: F) := Sat.perm hS_29 (by simp)
  refine loopA (γ := Nat × (Option Addr) × Nat × (List BEnt) × Chunk × (List Chunk)) (fun ⟨i, ae, ke, es, c, cs⟩ => [(39, .int .i64 ((i : Nat) : Int)), (37, .slice al nl kl), (38, .int .i64 ((nl : Nat) : Int)), (6, .pointer (some ⟨b_27, 0, none⟩))]) (fun ⟨i, ae, ke, es, c, cs⟩ w => Sat W w ([(b_27, .cells #[.slice ae nl ke, .int .i64 0] 122 (0, 0))] :: c :: cs.flatten :: H :: F) ∧ i ≤ nl ∧ OwnT encBEnt 125 4 ae nl ke es c ∧ Nx es cs ∧ es.map BEnt.v = (List.range nl).map (entN l i ((l.map (·.deps.l)).take i))) (fun ⟨i, ae, ke, es, c, cs⟩ => nl - i) (0, (some ⟨b_22, 0, none⟩), nl, (List.replicate nl ⟨0, 0, 0, ⟨none, 0, 0, []⟩⟩), c_23, (List.replicate nl [])) ⟨hS_30, by omega, hO_24, Nx.rep _ _ rfl, (by rw [List.take_zero]; exact ents_init l nl _ rfl)⟩ ?_
  rintro ⟨i, ae, ke, es, c, cs⟩ ρ w_31 ⟨hS_32, hi, hO, hN, hE⟩
  have hlo := hO.le; have hlno := hO.len
  refine seqE <| regionE <| pu1 <| nilO <| thenK_n <| seqE ?_
  refine cD (((i : Nat) : Int) < ((nl : Nat) : Int)) (fun hc_33 => ?_) (fun hc_33 => ?_)
  rotate_left
  · refine exitE <| thenK_x <| thenK_x <| blockK_x <| thenK_n <| seqE <| regionE <| pu3 <| nilO <| thenK_n <| retE <| retT [.pointer (some ⟨b_27, 0, none⟩), .int .i64 0] <| ?_
    obtain rfl : nl = i := by omega
    have hE2 := ents_new (by omega) hE
    have hS_143 : Sat W _ (([(b_27, .cells #[.slice ae nl ke, .int .i64 0] 122 (0, 0))] ++ (c ++ cs.flatten)) :: H :: F) := Sat.perm hS_32 (by simp)
    exact .inr ⟨validC_ok (by omega) (by omega) hV, _, _, rfl, ⟨_, _, _, es, c, cs.flatten, by rw [done_new], hO, hN.ok, hE2⟩, hS_143⟩
  refine skipE <| thenK_n <| seqE <| blockE <| seqE <| regionE <| pu1 ?_
  refine sIdx hl ((i : Nat) : Int) Try.runUnderlying23 Try.sizeOf31 ?_
  intro x_34 b_35 o_36 hx_37 hp_38
  rw [Int.toNat_natCast] at hx_37
  refine sLpA hS_32 (hp_38.up 3 rfl) 0 (encTask x_34) (Try.isAgg31 _) (Try.sizeOf31 _) ?_
  refine sAlloc hS_32 Try.zeroValue31 ?_
  intro b_39 w_40 hS_41
  refine pu1 ?_
  refine sT hS_41 0 0 (.agg (encTask x_34).toArray) (encTask x_34) (encTask x_34).toArray Try.sizeOf31 ?_
  intro w_42 hS_43
  refine nilO ?_
  have hA := taskOK_asc (tasksOK_at hV hx_37)
  have hnd := (dl x_34 (List.mem_of_getElem? hx_37)).deps.len; have hld := (dl x_34 (List.mem_of_getElem? hx_37)).deps.le
  refine thenK_n <| seqE <| regionE <| pu3 ?_
  refine sL hS_43 1 0 (.slice ae nl ke) (Try.isAgg120 _) ?_
  refine pu1 ?_
  refine sIdxO hO ((i : Nat) : Int) i Try.runUnderlying120 Try.sizeOf125 ?_
  intro x_44 b_45 o_46 hx_47 hp_48 hq_49
  refine pu1 <| nilO <| thenK_n <| seqE <| regionE <| pu3 ?_
  refine sStF hS_43 hO hq_49 2 i 0 x_44 (⟨2, x_44.attempt, x_44.pending, x_44.next⟩ : BEnt) hx_47 (.int .i64 2) [.int .i64 2] Try.sizeOf3 ?_
  intro w_50 c_52 hO_53 hS_51
  refine nilO <| thenK_n <| seqE <| regionE <| pu2 ?_
  refine sL hS_51 0 6 (.slice x_34.deps.a x_34.deps.n x_34.deps.k) (Try.isAgg22 _) ?_
  refine pu3 ?_
  have hx_54 := set_at (y := (⟨2, x_44.attempt, x_44.pending, x_44.next⟩ : BEnt)) hx_47
  have hp_55 := OwnT.ptr hO_53 hq_49 hx_54
  refine sStF hS_51 hO_53 hq_49 2 i 2 (⟨2, x_44.attempt, x_44.pending, x_44.next⟩ : BEnt) (⟨2, x_44.attempt, ((x_34.deps.n : Nat) : Int), x_44.next⟩ : BEnt) hx_54 (.int .i64 ((x_34.deps.n : Nat) : Int)) [.int .i64 ((x_34.deps.n : Nat) : Int)] Try.sizeOf3 ?_
  intro w_56 c_58 hO_59 hS_57
  rw [List.set_set] at hO_59
  refine nilO <| thenK_n <| seqE <| seqE <| regionE <| pu3 ?_
  have hx_60 := set_at (y := (⟨2, x_44.attempt, ((x_34.deps.n : Nat) : Int), x_44.next⟩ : BEnt)) hx_47
  have hp_61 := OwnT.ptr hO_59 hq_49 hx_60
  refine sLp hS_57 (hp_61.up 2 rfl) 2 (.int .i64 ((x_34.deps.n : Nat) : Int)) (Try.isAgg3 _) ?_
  refine pu1 <| nilO <| thenK_n <| ?_
  refine cD (((x_34.deps.n : Nat) : Int) > 0) (fun hc_62 => ?_) (fun hc_62 => ?_)
  rotate_left
  · refine skipE <| thenK_n <| seqE <| regionE <| pu1 ?_
    refine sL hS_57 0 6 (.slice x_34.deps.a x_34.deps.n x_34.deps.k) (Try.isAgg22 _) ?_
    refine pu2 <| nilO <| thenK_n <| blockE ?_
    have hS_105 := (hS_57.dropAt 0 rfl)
    refine loopA (γ := Nat × (List BEnt) × Chunk × (List Chunk)) (fun ⟨j, es1, c1, cs1⟩ => [(70, .int .i64 ((j : Nat) : Int)), (68, .slice x_34.deps.a x_34.deps.n x_34.deps.k), (69, .int .i64 ((x_34.deps.n : Nat) : Int)), (7, .int .i64 ((i : Nat) : Int)), (6, .pointer (some ⟨b_27, 0, none⟩)), (39, .int .i64 ((i : Nat) : Int)), (37, .slice al nl kl), (38, .int .i64 ((nl : Nat) : Int))]) (fun ⟨j, es1, c1, cs1⟩ w => Sat W w ([(b_27, .cells #[.slice ae nl ke, .int .i64 0] 122 (0, 0))] :: c1 :: cs1.flatten :: H :: F) ∧ j ≤ x_34.deps.n ∧ OwnT encBEnt 125 4 ae nl ke es1 c1 ∧ Nx es1 cs1 ∧ es1.map BEnt.v = (List.range nl).map (entN l (i + 1) ((l.map (·.deps.l)).take i ++ [x_34.deps.l.take j]))) (fun ⟨j, es1, c1, cs1⟩ => x_34.deps.n - j) (0, (es.set i (⟨2, x_44.attempt, ((x_34.deps.n : Nat) : Int), x_44.next⟩ : BEnt)), c_58, cs) ⟨hS_105, by omega, hO_59, (Nx.keep hN hx_47 rfl), (ents_open hE hx_37 hx_47 (by simp only [st0]; first | rw [if_pos (by omega)] | rw [if_neg (by omega)]) rfl (by dsimp only; omega) rfl)⟩ ?_
    rintro ⟨j, es1, c1, cs1⟩ ρ w_106 ⟨hS_107, hj, hO1, hN1, hEj⟩
    have hlo1 := hO1.le; have hlno1 := hO1.len
    refine seqE <| regionE <| pu1 <| nilO <| thenK_n <| seqE ?_
    refine cD (((j : Nat) : Int) < ((x_34.deps.n : Nat) : Int)) (fun hc_108 => ?_) (fun hc_108 => ?_)
    rotate_left
    · refine exitE <| thenK_x <| thenK_x <| blockK_x <| blockK_n <| thenK_n <| regionE ?_
      refine sAdd ((i : Nat) : Int) 1 ?_
      refine pu1 <| nilO <| thenK_n <| ?_
      rw [show j = x_34.deps.l.length by omega] at hEj
      exact ⟨(i + 1, ae, ke, es1, c1, cs1), by first | omega | (dsimp only; omega), alA, hS_107, by omega, hO1, hN1, ents_done hEj hx_37⟩
    refine skipE <| thenK_n <| seqE <| blockE <| seqE <| regionE ?_
    refine sIdx (dl x_34 (List.mem_of_getElem? hx_37)).deps ((j : Nat) : Int) Try.runUnderlying22 Try.sizeOf3 ?_
    intro x_109 b_110 o_111 hx_112 hp_113
    rw [Int.toNat_natCast] at hx_112
    refine sLp hS_107 (hp_113.up 3 rfl) 0 (.int .i64 x_109) (Try.isAgg3 _) ?_
    refine pu1 <| nilO <| thenK_n <| ?_
    have hdm := asc_mem hA x_109 (List.mem_of_getElem? hx_112)
    obtain ⟨x_114, _, _, hx_115, _, _, _⟩ := OwnT.elem hO1 x_109
    obtain ⟨cx_116, hc_117, hOx_118⟩ := hN1.get hx_115
    have hlx := hOx_118.le; have hnx := hOx_118.len
    have hS_119 := Sat.openN (A := [[(b_27, .cells #[.slice ae nl ke, .int .i64 0] 122 (0, 0))], c1]) x_109.toNat hc_117 hS_107
    change Sat _ _ (cx_116 :: [(b_27, .cells #[.slice ae nl ke, .int .i64 0] 122 (0, 0))] :: c1 :: (cs1.eraseIdx x_109.toNat).flatten :: H :: F) at hS_119
    have hxb : x_114.next.l.length ≤ 4096 := nx_short hEj hx_115 (by omega)
    obtain ⟨x_120, b_121, o_122, hx_123, hp_124, hq_125, ha_126⟩ := OwnT.elem hO1 x_109
    obtain rfl : x_114 = x_120 := Option.some.inj (hx_115.symm.trans hx_123)
    refine drawE [14, 15, 18] [(3, ⟨b_27, 0, none⟩, .slice ae nl ke), (8, ⟨b_27, 0, none⟩, .slice ae nl ke), (12, ⟨b_121, o_122 + (x_109).toNat * 4 + 3, none⟩, .slice x_114.next.a x_114.next.n x_114.next.k)] [(true, [0, 1, 2, 4, 5, 6, 7, 9, 13]), (true, [3]), (true, [8]), (true, [10]), (true, [11]), (true, [12]), (false, [14]), (false, [15]), (true, [16]), (true, [17]), (false, [18])] rfl (by kernel_rfl) ⟨.inr (hS_119.cell 1 rfl rfl), .inr (hS_119.cell 1 rfl rfl), .inr ((hp_124.up 2 rfl).cell hS_119 (k := 3) rfl), trivial⟩ ?_
    have hS_127 := hS_119.drew
    refine wU [0, 1, 2, 4, 5, 6, 7, 9, 13] ?_
    refine wLd (.slice ae nl ke) 0 Try.isAgg120 ?_
    refine wLd (.slice ae nl ke) 1 Try.isAgg120 ?_
    refine wY (.pointer (some ⟨b_121, o_122 + (x_109).toNat * 4, none⟩)) rfl (fun w _ => Y_idx (a := ae) (i := x_109) (len := nl) (cap := ke) rfl Try.runUnderlying120 Try.sizeOf125 (by kernel_rfl) (by kernel_rfl) hq_125) ?_
    refine wU [11] ?_
    refine wLd (.slice x_114.next.a x_114.next.n x_114.next.k) 2 Try.isAgg22 ?_
    refine wO rfl ?_
    refine sBS hS_127 #[.int .i64 ((i : Nat) : Int)] Try.runUnderlying22 Try.sizeOf3 Try.zeroValue3 ?_
    intro b_128 w_129 hS_130
    refine nilO ⟨⟨.inr (hS_130.cell 2 rfl rfl), .inr (hS_130.cell 2 rfl rfl), .inr ((hp_124.up 3 rfl).cell hS_130 (k := 3) rfl), trivial⟩, ?_⟩
    refine wO rfl ?_
    refine sApp (nb := 8) hS_130 hOx_118 1 (RdT.blk (enc := encI) (sz := 1) (xs := [((i : Nat) : Int)]) (fun _ => rfl) 1 0 rfl rfl rfl (by omega)) Try.underlying22 (i := Try.t3) (by kernel_rfl) (fun _ => rfl) ?_
    intro a_131 cap_132 c_133 w_134 hO_135 hS_136
    refine nilO ⟨⟨.inr (hS_136.cell 2 rfl rfl), .inr (hS_136.cell 2 rfl rfl), .inl (by kernel_rfl), trivial⟩, ?_⟩
    refine wY (.pointer (some ⟨b_121, o_122 + (x_109).toNat * 4, none⟩)) rfl (fun w _ => Y_idx (a := ae) (i := x_109) (len := nl) (cap := ke) rfl Try.runUnderlying120 Try.sizeOf125 (by kernel_rfl) (by kernel_rfl) hq_125) ?_
    refine wU [17] ?_
    refine wO rfl ?_
    refine sStF hS_136 hO1 ha_126 3 (x_109).toNat 3 x_114 (⟨x_114.state, x_114.attempt, x_114.pending, ⟨a_131, (x_114.next.n + 1), cap_132, (x_114.next.l ++ [((i : Nat) : Int)])⟩⟩ : BEnt) hx_123 (.slice a_131 (x_114.next.n + 1) cap_132) [.slice a_131 (x_114.next.n + 1) cap_132] Try.sizeOf22 ?_
    intro w_137 c_139 hO_140 hS_138
    refine nilO ⟨⟨.inl (by kernel_rfl), .inl (by kernel_rfl), .inl (by kernel_rfl), trivial⟩, ?_⟩
    refine wN ?_
    have hS_141 := (hS_138.dropAt 0 rfl)
    have hS_142 := Sat.shutN (d := c_133) (A := [[(b_27, .cells #[.slice ae nl ke, .int .i64 0] 122 (0, 0))], c_139]) x_109.toNat hc_117 hS_141
    change Sat _ _ ([(b_27, .cells #[.slice ae nl ke, .int .i64 0] 122 (0, 0))] :: c_139 :: (cs1.set x_109.toNat c_133).flatten :: H :: F) at hS_142
    refine blockK_n <| thenK_n <| regionE ?_
    refine sAdd ((j : Nat) : Int) 1 ?_
    refine pu1 <| nilO <| thenK_n <| ?_
    exact ⟨(j + 1, (es1.set ((x_109).toNat) (⟨x_114.state, x_114.attempt, x_114.pending, ⟨a_131, (x_114.next.n + 1), cap_132, (x_114.next.l ++ [((i : Nat) : Int)])⟩⟩ : BEnt)), c_139, (cs1.set x_109.toNat c_133)), by first | omega | (dsimp only; omega), alA, hS_142, by omega, hO_140, (hN1.set hO_135), (ents_dep hEj hx_37 hx_112 hA hx_115 rfl rfl rfl rfl)⟩
  refine regionE <| pu3 ?_
  refine sStF hS_57 hO_59 hq_49 2 i 0 (⟨2, x_44.attempt, ((x_34.deps.n : Nat) : Int), x_44.next⟩ : BEnt) (⟨1, x_44.attempt, ((x_34.deps.n : Nat) : Int), x_44.next⟩ : BEnt) hx_60 (.int .i64 1) [.int .i64 1] Try.sizeOf3 ?_
  intro w_63 c_65 hO_66 hS_64
  rw [List.set_set] at hO_66
  refine nilO <| thenK_n <| seqE <| regionE <| pu1 ?_
  refine sL hS_64 0 6 (.slice x_34.deps.a x_34.deps.n x_34.deps.k) (Try.isAgg22 _) ?_
  refine pu2 <| nilO <| thenK_n <| blockE ?_
  have hS_67 := (hS_64.dropAt 0 rfl)
  refine loopA (γ := Nat × (List BEnt) × Chunk × (List Chunk)) (fun ⟨j, es1, c1, cs1⟩ => [(70, .int .i64 ((j : Nat) : Int)), (68, .slice x_34.deps.a x_34.deps.n x_34.deps.k), (69, .int .i64 ((x_34.deps.n : Nat) : Int)), (7, .int .i64 ((i : Nat) : Int)), (6, .pointer (some ⟨b_27, 0, none⟩)), (39, .int .i64 ((i : Nat) : Int)), (37, .slice al nl kl), (38, .int .i64 ((nl : Nat) : Int))]) (fun ⟨j, es1, c1, cs1⟩ w => Sat W w ([(b_27, .cells #[.slice ae nl ke, .int .i64 0] 122 (0, 0))] :: c1 :: cs1.flatten :: H :: F) ∧ j ≤ x_34.deps.n ∧ OwnT encBEnt 125 4 ae nl ke es1 c1 ∧ Nx es1 cs1 ∧ es1.map BEnt.v = (List.range nl).map (entN l (i + 1) ((l.map (·.deps.l)).take i ++ [x_34.deps.l.take j]))) (fun ⟨j, es1, c1, cs1⟩ => x_34.deps.n - j) (0, (es.set i (⟨1, x_44.attempt, ((x_34.deps.n : Nat) : Int), x_44.next⟩ : BEnt)), c_65, cs) ⟨hS_67, by omega, hO_66, (Nx.keep hN hx_47 rfl), (ents_open hE hx_37 hx_47 (by simp only [st0]; first | rw [if_pos (by omega)] | rw [if_neg (by omega)]) rfl (by dsimp only; omega) rfl)⟩ ?_
  rintro ⟨j, es1, c1, cs1⟩ ρ w_68 ⟨hS_69, hj, hO1, hN1, hEj⟩
  have hlo1 := hO1.le; have hlno1 := hO1.len
  refine seqE <| regionE <| pu1 <| nilO <| thenK_n <| seqE ?_
  refine cD (((j : Nat) : Int) < ((x_34.deps.n : Nat) : Int)) (fun hc_70 => ?_) (fun hc_70 => ?_)
  rotate_left
  · refine exitE <| thenK_x <| thenK_x <| blockK_x <| blockK_n <| thenK_n <| regionE ?_
    refine sAdd ((i : Nat) : Int) 1 ?_
    refine pu1 <| nilO <| thenK_n <| ?_
    rw [show j = x_34.deps.l.length by omega] at hEj
    exact ⟨(i + 1, ae, ke, es1, c1, cs1), by first | omega | (dsimp only; omega), alA, hS_69, by omega, hO1, hN1, ents_done hEj hx_37⟩
  refine skipE <| thenK_n <| seqE <| blockE <| seqE <| regionE ?_
  refine sIdx (dl x_34 (List.mem_of_getElem? hx_37)).deps ((j : Nat) : Int) Try.runUnderlying22 Try.sizeOf3 ?_
  intro x_71 b_72 o_73 hx_74 hp_75
  rw [Int.toNat_natCast] at hx_74
  refine sLp hS_69 (hp_75.up 3 rfl) 0 (.int .i64 x_71) (Try.isAgg3 _) ?_
  refine pu1 <| nilO <| thenK_n <| ?_
  have hdm := asc_mem hA x_71 (List.mem_of_getElem? hx_74)
  obtain ⟨x_76, _, _, hx_77, _, _, _⟩ := OwnT.elem hO1 x_71
  obtain ⟨cx_78, hc_79, hOx_80⟩ := hN1.get hx_77
  have hlx := hOx_80.le; have hnx := hOx_80.len
  have hS_81 := Sat.openN (A := [[(b_27, .cells #[.slice ae nl ke, .int .i64 0] 122 (0, 0))], c1]) x_71.toNat hc_79 hS_69
  change Sat _ _ (cx_78 :: [(b_27, .cells #[.slice ae nl ke, .int .i64 0] 122 (0, 0))] :: c1 :: (cs1.eraseIdx x_71.toNat).flatten :: H :: F) at hS_81
  have hxb : x_76.next.l.length ≤ 4096 := nx_short hEj hx_77 (by omega)
  obtain ⟨x_82, b_83, o_84, hx_85, hp_86, hq_87, ha_88⟩ := OwnT.elem hO1 x_71
  obtain rfl : x_76 = x_82 := Option.some.inj (hx_77.symm.trans hx_85)
  refine drawE [14, 15, 18] [(3, ⟨b_27, 0, none⟩, .slice ae nl ke), (8, ⟨b_27, 0, none⟩, .slice ae nl ke), (12, ⟨b_83, o_84 + (x_71).toNat * 4 + 3, none⟩, .slice x_76.next.a x_76.next.n x_76.next.k)] [(true, [0, 1, 2, 4, 5, 6, 7, 9, 13]), (true, [3]), (true, [8]), (true, [10]), (true, [11]), (true, [12]), (false, [14]), (false, [15]), (true, [16]), (true, [17]), (false, [18])] rfl (by kernel_rfl) ⟨.inr (hS_81.cell 1 rfl rfl), .inr (hS_81.cell 1 rfl rfl), .inr ((hp_86.up 2 rfl).cell hS_81 (k := 3) rfl), trivial⟩ ?_
  have hS_89 := hS_81.drew
  refine wU [0, 1, 2, 4, 5, 6, 7, 9, 13] ?_
  refine wLd (.slice ae nl ke) 0 Try.isAgg120 ?_
  refine wLd (.slice ae nl ke) 1 Try.isAgg120 ?_
  refine wY (.pointer (some ⟨b_83, o_84 + (x_71).toNat * 4, none⟩)) rfl (fun w _ => Y_idx (a := ae) (i := x_71) (len := nl) (cap := ke) rfl Try.runUnderlying120 Try.sizeOf125 (by kernel_rfl) (by kernel_rfl) hq_87) ?_
  refine wU [11] ?_
  refine wLd (.slice x_76.next.a x_76.next.n x_76.next.k) 2 Try.isAgg22 ?_
  refine wO rfl ?_
  refine sBS hS_89 #[.int .i64 ((i : Nat) : Int)] Try.runUnderlying22 Try.sizeOf3 Try.zeroValue3 ?_
  intro b_90 w_91 hS_92
  refine nilO ⟨⟨.inr (hS_92.cell 2 rfl rfl), .inr (hS_92.cell 2 rfl rfl), .inr ((hp_86.up 3 rfl).cell hS_92 (k := 3) rfl), trivial⟩, ?_⟩
  refine wO rfl ?_
  refine sApp (nb := 8) hS_92 hOx_80 1 (RdT.blk (enc := encI) (sz := 1) (xs := [((i : Nat) : Int)]) (fun _ => rfl) 1 0 rfl rfl rfl (by omega)) Try.underlying22 (i := Try.t3) (by kernel_rfl) (fun _ => rfl) ?_
  intro a_93 cap_94 c_95 w_96 hO_97 hS_98
  refine nilO ⟨⟨.inr (hS_98.cell 2 rfl rfl), .inr (hS_98.cell 2 rfl rfl), .inl (by kernel_rfl), trivial⟩, ?_⟩
  refine wY (.pointer (some ⟨b_83, o_84 + (x_71).toNat * 4, none⟩)) rfl (fun w _ => Y_idx (a := ae) (i := x_71) (len := nl) (cap := ke) rfl Try.runUnderlying120 Try.sizeOf125 (by kernel_rfl) (by kernel_rfl) hq_87) ?_
  refine wU [17] ?_
  refine wO rfl ?_
  refine sStF hS_98 hO1 ha_88 3 (x_71).toNat 3 x_76 (⟨x_76.state, x_76.attempt, x_76.pending, ⟨a_93, (x_76.next.n + 1), cap_94, (x_76.next.l ++ [((i : Nat) : Int)])⟩⟩ : BEnt) hx_85 (.slice a_93 (x_76.next.n + 1) cap_94) [.slice a_93 (x_76.next.n + 1) cap_94] Try.sizeOf22 ?_
  intro w_99 c_101 hO_102 hS_100
  refine nilO ⟨⟨.inl (by kernel_rfl), .inl (by kernel_rfl), .inl (by kernel_rfl), trivial⟩, ?_⟩
  refine wN ?_
  have hS_103 := (hS_100.dropAt 0 rfl)
  have hS_104 := Sat.shutN (d := c_95) (A := [[(b_27, .cells #[.slice ae nl ke, .int .i64 0] 122 (0, 0))], c_101]) x_71.toNat hc_79 hS_103
  change Sat _ _ ([(b_27, .cells #[.slice ae nl ke, .int .i64 0] 122 (0, 0))] :: c_101 :: (cs1.set x_71.toNat c_95).flatten :: H :: F) at hS_104
  refine blockK_n <| thenK_n <| regionE ?_
  refine sAdd ((j : Nat) : Int) 1 ?_
  refine pu1 <| nilO <| thenK_n <| ?_
  exact ⟨(j + 1, (es1.set ((x_71).toNat) (⟨x_76.state, x_76.attempt, x_76.pending, ⟨a_93, (x_76.next.n + 1), cap_94, (x_76.next.l ++ [((i : Nat) : Int)])⟩⟩ : BEnt)), c_101, (cs1.set x_71.toNat c_95)), by first | omega | (dsimp only; omega), alA, hS_104, by omega, hO_102, (hN1.set hO_97), (ents_dep hEj hx_37 hx_74 hA hx_77 rfl rfl rfl rfl)⟩

theorem map_zero {α : Type} (l : List α) : l.map (fun _ => (0 : Int)) = List.replicate l.length 0 := by
  induction l with
  | nil => rfl
  | cons x l ih => rw [List.map_cons, ih, List.length_cons, List.replicate_succ]
theorem st_step {l : List Task} {ss : List Int} {n i : Nat} {t : Task} {y : Int} (ht : l[i]? = some t) (h : ss = (l.take i).map (fun t => st0 t.deps.l) ++ List.replicate (n - i) 0) (hi : i < n) (hy : y = st0 t.deps.l) :
    ss.set i y = (l.take (i + 1)).map (fun t => st0 t.deps.l) ++ List.replicate (n - (i + 1)) 0 := by
  rw [h, hy]; exact set_rep (f := fun t : Task => st0 t.deps.l) ht hi
end Go.Proofs.Ytegmennaekipaaa
