import Derived.Test.YtimkhljglpookaaGreatBd2
namespace Go.Proofs.YtimkhljglpookaaGreat
open Go Go.E
set_option linter.unusedVariables false
set_option linter.unusedSimpArgs false
set_option linter.unnecessarySimpa false
set_option maxRecDepth 100000
set_option maxHeartbeats 2000000
variable {W w : World} {H : Chunk} {F : List Chunk}

theorem nextOf_len : ∀ (k : Nat) (D : List (List Int)) (j : Int), (nextOf k D j).length ≤ D.length
  | _, [], _ => by simp [nextOf]
  | k, d :: D, j => by
    have := nextOf_len (k + 1) D j
    simp only [nextOf, List.length_append, List.length_cons]
    split <;> simp <;> omega
theorem nx_short {es : List BEnt} {l : List Task} {n i q : Nat} {e : List Int} {x : BEnt} (h : es.map BEnt.v = (List.range n).map (entN l (i + 1) ((l.map (·.deps.l)).take i ++ [e]))) (hx : es[q]? = some x) (hi : i < 4096) : x.next.l.length ≤ 4096 := by
  have h1 := (ent_at h hx).2
  have h2 := congrArg BEntV.next h1
  have h3 := nextOf_len 0 ((l.map (·.deps.l)).take i ++ [e]) q
  have h4 : x.next.l = nextOf 0 ((l.map (·.deps.l)).take i ++ [e]) q := by simp only [BEnt.v, entN] at h2; rw [h2]; split <;> rfl
  rw [h4]; simp at h3; omega
theorem b_new (al : Option Addr) (nl kl : Nat) (l : List Task) (hl : RdT encTask 9 [H] al nl kl l) (dl : ∀ z ∈ l, Task.Ok [H] z) (hS : Sat W w (H :: F)) :
    Calls Tryz.prog 91 #[.slice al nl kl] w fun e w' => (validC l ≠ 0 ∧ e = .returned (.tuple #[.pointer none, .int .i64 (validC l)]) ∧ Sat W w' (H :: F)) ∨ (validC l = 0 ∧ ∃ (p : Nat) (M : Chunk), e = .returned (.tuple #[.pointer (some ⟨p, 0, none⟩), .int .i64 0]) ∧ BoardR p (newB l) M ∧ Sat W w' (M :: H :: F)) := by
  have hl_l := hl.le; have hn_l := hl.len
  refine callsA 95 Tryz.func91 rfl ?_
  refine seqE <| regionE <| pu2 <| nilO <| thenK_n <| seqE <| seqE <| regionE <| pu4 ?_
  refine sE 15 ((nl : Nat) : Int) 0 (fun hc_1 => ?_) (fun hc_1 => ?_)
  · refine pu4 <| nilO <| thenK_n <| cTt <| seqE <| regionE <| pu2 <| nilO <| thenK_n <| retE <| thenK_r <| retT [.pointer none, .int .i64 5] <| ?_
    exact .inl ⟨by rw [validC_lim (by omega)]; decide, by rw [validC_lim (by omega)]; rfl, hS⟩
  refine pu4 <| nilO <| thenK_n <| ?_
  refine cD (((nl : Nat) : Int) > 4096) (fun hc_2 => ?_) (fun hc_2 => ?_)
  · refine seqE <| regionE <| pu2 <| nilO <| thenK_n <| retE <| thenK_r <| retT [.pointer none, .int .i64 5] <| ?_
    exact .inl ⟨by rw [validC_lim (by omega)]; decide, by rw [validC_lim (by omega)]; rfl, hS⟩
  refine skipE <| thenK_n <| seqE <| seqE <| regionE <| pu3 <| nilO <| thenK_n <| blockE ?_
  refine loopA (γ := Nat) (fun i => [(0, .slice al nl kl), (20, .slice al nl kl), (21, .int .i64 ((nl : Nat) : Int)), (22, .int .i64 ((i : Nat) : Int))]) (fun i w => Sat W w (H :: F) ∧ i ≤ nl ∧ (tasksOK 0 (l.take i) = true) ∧ (0 < nl ∧ nl ≤ 4096)) (fun i => nl - i) 0 ⟨hS, by omega, by simp [tasksOK], by omega⟩ ?_
  rintro i ρ w_3 ⟨hS_4, hi, hVi, hl0⟩
  refine seqE <| regionE <| pu1 <| nilO <| thenK_n <| seqE ?_
  refine cD (((i : Nat) : Int) < ((nl : Nat) : Int)) (fun hc_5 => ?_) (fun hc_5 => ?_)
  · refine skipE <| thenK_n <| seqE <| blockE <| seqE <| regionE <| pu1 ?_
    refine sIdx hl ((i : Nat) : Int) Tryz.runUnderlying45 Tryz.sizeOf49 ?_
    intro x_6 b_7 o_8 hx_9 hp_10
    rw [Int.toNat_natCast] at hx_9
    refine sLpA hS_4 (hp_10.up 0 rfl) 0 (encTask x_6) (Tryz.isAgg49 _) (Tryz.sizeOf49 _) ?_
    refine sAlloc hS_4 Tryz.zeroValue49 ?_
    intro b_11 w_12 hS_13
    refine pu1 ?_
    refine sT hS_13 0 0 (.agg (encTask x_6).toArray) (encTask x_6) (encTask x_6).toArray Tryz.sizeOf49 ?_
    intro w_14 hS_15
    refine nilO <| thenK_n <| seqE <| regionE ?_
    refine lA hS_15 0 0 9 (Tryz.isAgg49 _) (Tryz.sizeOf49 _) ?_
    refine pu1 ?_
    refine cR Tryz.call104 (b_valid x_6 ((i : Nat) : Int) ⟨(RdT.flat ((dl x_6 (List.mem_of_getElem? hx_9)).deps.up 1 (by rfl)))⟩ (Sat.flat hS_15)) ?_
    intro w_16 hS_17
    refine pu1 <| nilO <| thenK_n <| ?_
    refine cBn (taskOK ((i : Nat) : Int) x_6) (fun hc_19 => ?_) (fun hc_19 => ?_)
    · refine skipE <| blockK_n <| thenK_n <| regionE ?_
      refine sAdd ((i : Nat) : Int) 1 ?_
      refine pu1 <| nilO <| thenK_n <| ?_
      have hS_20 := ((hS_17.pick 1 rfl).dropAt 1 rfl)
      exact ⟨i + 1, by first | omega | (dsimp only; omega), alA, hS_20, by omega, (by rw [tasksOK_take hx_9, hVi]; simpa using hc_19), by omega⟩
    refine seqE <| regionE <| pu2 <| nilO <| thenK_n <| retE <| blockK_r <| thenK_r <| thenK_r <| blockK_r <| thenK_r <| retT [.pointer none, .int .i64 1] <| ?_
    have hS_21 := ((hS_17.pick 1 rfl).dropAt 1 rfl)
    have hv1 := validC_bad (by omega) (by omega) (tasksOK_no hx_9 (by simpa using hc_19))
    exact .inl ⟨by rw [hv1]; decide, by rw [hv1]; rfl, hS_21⟩
  refine exitE <| thenK_x <| thenK_x <| blockK_x <| thenK_n <| seqE ?_
  have hV : tasksOK 0 l = true := by rw [← List.take_of_length_le (i := i) (l := l) (by omega)]; exact hVi
  refine regionE <| pu2 ?_
  refine sMake (kl := .i64) (kc := .i64) (enc := encBEnt) (sz := 4) (nb := 48) hS_4 ⟨0, 0, 0, ⟨none, 0, 0, []⟩⟩ nl ((nl : Nat) : Int) (rfl : ((nl : Nat) : Int) = ((nl : Nat) : Int)) Tryz.underlying162 (i := Tryz.t167) (by kernel_rfl) (fun _ => rfl) ?_
  intro b_22 c_23 w_25 hO_24 hS_26
  refine pu1 ?_
  refine sBox hS_26 (.agg #[.slice (some ⟨b_22, 0, none⟩) nl nl, .int .i64 0]) #[.slice (some ⟨b_22, 0, none⟩) nl nl, .int .i64 0] ?_
  intro b_27 w_28 hS_29
  refine pu1 <| nilO <| thenK_n <| seqE <| seqE <| regionE <| pu3 <| nilO <| thenK_n <| blockE ?_
  have hS_30 := (((hS_29.pick 2 rfl).pick 2 rfl).pick 2 rfl)
  have hS_31 : Sat W _ ([(b_27, .cells #[.slice (some ⟨b_22, 0, none⟩) nl nl, .int .i64 0] 164 (0, 0))] :: c_23 :: (List.replicate nl ([] : Chunk)).flatten :: H :: F) := Sat.perm hS_30 (by simp)
  refine loopA (γ := Nat × (Option Addr) × Nat × (List BEnt) × Chunk × (List Chunk)) (fun ⟨i, ae, ke, es, c, cs⟩ => [(39, .int .i64 ((i : Nat) : Int)), (37, .slice al nl kl), (38, .int .i64 ((nl : Nat) : Int)), (6, .pointer (some ⟨b_27, 0, none⟩))]) (fun ⟨i, ae, ke, es, c, cs⟩ w => Sat W w ([(b_27, .cells #[.slice ae nl ke, .int .i64 0] 164 (0, 0))] :: c :: cs.flatten :: H :: F) ∧ i ≤ nl ∧ OwnT encBEnt 167 4 ae nl ke es c ∧ Nx es cs ∧ es.map BEnt.v = (List.range nl).map (entN l i ((l.map (·.deps.l)).take i))) (fun ⟨i, ae, ke, es, c, cs⟩ => nl - i) (0, (some ⟨b_22, 0, none⟩), nl, (List.replicate nl ⟨0, 0, 0, ⟨none, 0, 0, []⟩⟩), c_23, (List.replicate nl [])) ⟨hS_31, by omega, hO_24, Nx.rep _ _ rfl, (by rw [List.take_zero]; exact ents_init l nl _ rfl)⟩ ?_
  rintro ⟨i, ae, ke, es, c, cs⟩ ρ w_32 ⟨hS_33, hi, hO, hN, hE⟩
  have hlo := hO.le; have hlno := hO.len
  refine seqE <| regionE <| pu1 <| nilO <| thenK_n <| seqE ?_
  refine cD (((i : Nat) : Int) < ((nl : Nat) : Int)) (fun hc_34 => ?_) (fun hc_34 => ?_)
  rotate_left
  · refine exitE <| thenK_x <| thenK_x <| blockK_x <| thenK_n <| seqE <| regionE <| pu3 <| nilO <| thenK_n <| retE <| retT [.pointer (some ⟨b_27, 0, none⟩), .int .i64 0] <| ?_
    have hS_148 := ((((hS_33.pick 3 rfl).pick 3 rfl).pick 3 rfl).pick 3 rfl)
    obtain rfl : nl = i := by omega
    have hE2 := ents_new (by omega) hE
    have hS_149 : Sat W _ (([(b_27, .cells #[.slice ae nl ke, .int .i64 0] 164 (0, 0))] ++ (c ++ cs.flatten)) :: H :: F) := Sat.perm hS_148 (by simp)
    exact .inr ⟨validC_ok (by omega) (by omega) hV, _, _, rfl, ⟨_, _, _, es, c, cs.flatten, by rw [done_new], hO, hN.ok, hE2⟩, hS_149⟩
  refine skipE <| thenK_n <| seqE <| blockE <| seqE <| regionE <| pu1 ?_
  refine sIdx hl ((i : Nat) : Int) Tryz.runUnderlying45 Tryz.sizeOf49 ?_
  intro x_35 b_36 o_37 hx_38 hp_39
  rw [Int.toNat_natCast] at hx_38
  refine sLpA hS_33 (hp_39.up 3 rfl) 0 (encTask x_35) (Tryz.isAgg49 _) (Tryz.sizeOf49 _) ?_
  refine sAlloc hS_33 Tryz.zeroValue49 ?_
  intro b_40 w_41 hS_42
  refine pu1 ?_
  refine sT hS_42 0 0 (.agg (encTask x_35).toArray) (encTask x_35) (encTask x_35).toArray Tryz.sizeOf49 ?_
  intro w_43 hS_44
  refine nilO ?_
  have hA := taskOK_asc (tasksOK_at hV hx_38)
  have hnd := (dl x_35 (List.mem_of_getElem? hx_38)).deps.len; have hld := (dl x_35 (List.mem_of_getElem? hx_38)).deps.le
  refine thenK_n <| seqE <| regionE <| pu3 ?_
  refine sL hS_44 1 0 (.slice ae nl ke) (Tryz.isAgg162 _) ?_
  refine pu1 ?_
  refine sIdxO hO ((i : Nat) : Int) i Tryz.runUnderlying162 Tryz.sizeOf167 ?_
  intro x_45 b_46 o_47 hx_48 hp_49 hq_50
  refine pu1 <| nilO <| thenK_n <| seqE <| regionE <| pu3 ?_
  refine sStF hS_44 hO hq_50 2 i 0 x_45 (⟨2, x_45.attempt, x_45.pending, x_45.next⟩ : BEnt) hx_48 (.int .i64 2) [.int .i64 2] Tryz.sizeOf3 ?_
  intro w_51 c_53 hO_54 hS_52
  refine nilO <| thenK_n <| seqE <| regionE <| pu2 ?_
  refine sL hS_52 0 6 (.slice x_35.deps.a x_35.deps.n x_35.deps.k) (Tryz.isAgg22 _) ?_
  refine pu3 ?_
  have hx_55 := set_at (y := (⟨2, x_45.attempt, x_45.pending, x_45.next⟩ : BEnt)) hx_48
  have hp_56 := OwnT.ptr hO_54 hq_50 hx_55
  refine sStF hS_52 hO_54 hq_50 2 i 2 (⟨2, x_45.attempt, x_45.pending, x_45.next⟩ : BEnt) (⟨2, x_45.attempt, ((x_35.deps.n : Nat) : Int), x_45.next⟩ : BEnt) hx_55 (.int .i64 ((x_35.deps.n : Nat) : Int)) [.int .i64 ((x_35.deps.n : Nat) : Int)] Tryz.sizeOf3 ?_
  intro w_57 c_59 hO_60 hS_58
  rw [List.set_set] at hO_60
  refine nilO <| thenK_n <| seqE <| seqE <| regionE <| pu3 ?_
  have hx_61 := set_at (y := (⟨2, x_45.attempt, ((x_35.deps.n : Nat) : Int), x_45.next⟩ : BEnt)) hx_48
  have hp_62 := OwnT.ptr hO_60 hq_50 hx_61
  refine sLp hS_58 (hp_62.up 2 rfl) 2 (.int .i64 ((x_35.deps.n : Nat) : Int)) (Tryz.isAgg3 _) ?_
  refine pu1 <| nilO <| thenK_n <| ?_
  refine cD (((x_35.deps.n : Nat) : Int) > 0) (fun hc_63 => ?_) (fun hc_63 => ?_)
  rotate_left
  · refine skipE <| thenK_n <| seqE <| regionE <| pu1 ?_
    refine sL hS_58 0 6 (.slice x_35.deps.a x_35.deps.n x_35.deps.k) (Tryz.isAgg22 _) ?_
    refine pu2 <| nilO <| thenK_n <| blockE ?_
    have hS_108 := (((((hS_58.pick 4 rfl).pick 4 rfl).pick 4 rfl).pick 4 rfl).dropAt 4 rfl)
    refine loopA (γ := Nat × (List BEnt) × Chunk × (List Chunk)) (fun ⟨j, es1, c1, cs1⟩ => [(70, .int .i64 ((j : Nat) : Int)), (68, .slice x_35.deps.a x_35.deps.n x_35.deps.k), (69, .int .i64 ((x_35.deps.n : Nat) : Int)), (7, .int .i64 ((i : Nat) : Int)), (6, .pointer (some ⟨b_27, 0, none⟩)), (39, .int .i64 ((i : Nat) : Int)), (37, .slice al nl kl), (38, .int .i64 ((nl : Nat) : Int))]) (fun ⟨j, es1, c1, cs1⟩ w => Sat W w ([(b_27, .cells #[.slice ae nl ke, .int .i64 0] 164 (0, 0))] :: c1 :: cs1.flatten :: H :: F) ∧ j ≤ x_35.deps.n ∧ OwnT encBEnt 167 4 ae nl ke es1 c1 ∧ Nx es1 cs1 ∧ es1.map BEnt.v = (List.range nl).map (entN l (i + 1) ((l.map (·.deps.l)).take i ++ [x_35.deps.l.take j]))) (fun ⟨j, es1, c1, cs1⟩ => x_35.deps.n - j) (0, (es.set i (⟨2, x_45.attempt, ((x_35.deps.n : Nat) : Int), x_45.next⟩ : BEnt)), c_59, cs) ⟨hS_108, by omega, hO_60, (Nx.keep hN hx_48 rfl), (ents_open hE hx_38 hx_48 (by simp only [st0]; first | rw [if_pos (by omega)] | rw [if_neg (by omega)]) rfl (by dsimp only; omega) rfl)⟩ ?_
    rintro ⟨j, es1, c1, cs1⟩ ρ w_109 ⟨hS_110, hj, hO1, hN1, hEj⟩
    have hlo1 := hO1.le; have hlno1 := hO1.len
    refine seqE <| regionE <| pu1 <| nilO <| thenK_n <| seqE ?_
    refine cD (((j : Nat) : Int) < ((x_35.deps.n : Nat) : Int)) (fun hc_111 => ?_) (fun hc_111 => ?_)
    rotate_left
    · refine exitE <| thenK_x <| thenK_x <| blockK_x <| blockK_n <| thenK_n <| regionE ?_
      refine sAdd ((i : Nat) : Int) 1 ?_
      refine pu1 <| nilO <| thenK_n <| ?_
      rw [show j = x_35.deps.l.length by omega] at hEj
      have hS_147 := ((((hS_110.pick 3 rfl).pick 3 rfl).pick 3 rfl).pick 3 rfl)
      exact ⟨(i + 1, ae, ke, es1, c1, cs1), by first | omega | (dsimp only; omega), alA, hS_147, by omega, hO1, hN1, ents_done hEj hx_38⟩
    refine skipE <| thenK_n <| seqE <| blockE <| seqE <| regionE ?_
    refine sIdx (dl x_35 (List.mem_of_getElem? hx_38)).deps ((j : Nat) : Int) Tryz.runUnderlying22 Tryz.sizeOf3 ?_
    intro x_112 b_113 o_114 hx_115 hp_116
    rw [Int.toNat_natCast] at hx_115
    refine sLp hS_110 (hp_116.up 3 rfl) 0 (.int .i64 x_112) (Tryz.isAgg3 _) ?_
    refine pu1 <| nilO <| thenK_n <| ?_
    have hdm := asc_mem hA x_112 (List.mem_of_getElem? hx_115)
    obtain ⟨x_117, _, _, hx_118, _, _, _⟩ := OwnT.elem hO1 x_112
    obtain ⟨cx_119, hc_120, hOx_121⟩ := hN1.get hx_118
    have hlx := hOx_121.le; have hnx := hOx_121.len
    have hS_122 := ((((hS_110.pick 3 rfl).pick 3 rfl).pick 3 rfl).pick 3 rfl)
    have hS_123 := Sat.openN (A := [[(b_27, .cells #[.slice ae nl ke, .int .i64 0] 164 (0, 0))], c1]) x_112.toNat hc_120 hS_122
    change Sat _ _ (cx_119 :: [(b_27, .cells #[.slice ae nl ke, .int .i64 0] 164 (0, 0))] :: c1 :: (cs1.eraseIdx x_112.toNat).flatten :: H :: F) at hS_123
    have hxb : x_117.next.l.length ≤ 4096 := nx_short hEj hx_118 (by omega)
    obtain ⟨x_124, b_125, o_126, hx_127, hp_128, hq_129, ha_130⟩ := OwnT.elem hO1 x_112
    obtain rfl : x_117 = x_124 := Option.some.inj (hx_118.symm.trans hx_127)
    refine drawE [14, 15, 18] [(3, ⟨b_27, 0, none⟩, .slice ae nl ke), (8, ⟨b_27, 0, none⟩, .slice ae nl ke), (12, ⟨b_125, o_126 + (x_112).toNat * 4 + 3, none⟩, .slice x_117.next.a x_117.next.n x_117.next.k)] [(true, [0, 1, 2, 4, 5, 6, 7, 9, 13]), (true, [3]), (true, [8]), (true, [10]), (true, [11]), (true, [12]), (false, [14]), (false, [15]), (true, [16]), (true, [17]), (false, [18])] rfl (by kernel_rfl) ⟨.inr (hS_123.cell 1 rfl rfl), .inr (hS_123.cell 1 rfl rfl), .inr ((hp_128.up 2 rfl).cell hS_123 (k := 3) rfl), trivial⟩ ?_
    have hS_131 := hS_123.drew
    refine wU [0, 1, 2, 4, 5, 6, 7, 9, 13] ?_
    refine wLd (.slice ae nl ke) 0 Tryz.isAgg162 ?_
    refine wLd (.slice ae nl ke) 1 Tryz.isAgg162 ?_
    refine wY (.pointer (some ⟨b_125, o_126 + (x_112).toNat * 4, none⟩)) rfl (fun w _ => Y_idx (a := ae) (i := x_112) (len := nl) (cap := ke) rfl Tryz.runUnderlying162 Tryz.sizeOf167 (by kernel_rfl) (by kernel_rfl) hq_129) ?_
    refine wU [11] ?_
    refine wLd (.slice x_117.next.a x_117.next.n x_117.next.k) 2 Tryz.isAgg22 ?_
    refine wO rfl ?_
    refine sBS hS_131 #[.int .i64 ((i : Nat) : Int)] Tryz.runUnderlying22 Tryz.sizeOf3 Tryz.zeroValue3 ?_
    intro b_132 w_133 hS_134
    refine nilO ⟨⟨.inr (hS_134.cell 2 rfl rfl), .inr (hS_134.cell 2 rfl rfl), .inr ((hp_128.up 3 rfl).cell hS_134 (k := 3) rfl), trivial⟩, ?_⟩
    refine wO rfl ?_
    refine sApp (nb := 8) hS_134 hOx_121 1 (RdT.blk (enc := encI) (sz := 1) (xs := [((i : Nat) : Int)]) (fun _ => rfl) 1 0 rfl rfl rfl (by omega)) Tryz.underlying22 (i := Tryz.t3) (by kernel_rfl) (fun _ => rfl) ?_
    intro a_135 cap_136 c_137 w_138 hO_139 hS_140
    refine nilO ⟨⟨.inr (hS_140.cell 2 rfl rfl), .inr (hS_140.cell 2 rfl rfl), .inl (by kernel_rfl), trivial⟩, ?_⟩
    refine wY (.pointer (some ⟨b_125, o_126 + (x_112).toNat * 4, none⟩)) rfl (fun w _ => Y_idx (a := ae) (i := x_112) (len := nl) (cap := ke) rfl Tryz.runUnderlying162 Tryz.sizeOf167 (by kernel_rfl) (by kernel_rfl) hq_129) ?_
    refine wU [17] ?_
    refine wO rfl ?_
    refine sStF hS_140 hO1 ha_130 3 (x_112).toNat 3 x_117 (⟨x_117.state, x_117.attempt, x_117.pending, ⟨a_135, (x_117.next.n + 1), cap_136, (x_117.next.l ++ [((i : Nat) : Int)])⟩⟩ : BEnt) hx_127 (.slice a_135 (x_117.next.n + 1) cap_136) [.slice a_135 (x_117.next.n + 1) cap_136] Tryz.sizeOf22 ?_
    intro w_141 c_143 hO_144 hS_142
    refine nilO ⟨⟨.inl (by kernel_rfl), .inl (by kernel_rfl), .inl (by kernel_rfl), trivial⟩, ?_⟩
    refine wN ?_
    have hS_145 := ((((((hS_142.pick 5 rfl).pick 5 rfl).pick 5 rfl).pick 5 rfl).pick 5 rfl).dropAt 5 rfl)
    have hS_146 := Sat.shutN (d := c_137) (A := [[(b_27, .cells #[.slice ae nl ke, .int .i64 0] 164 (0, 0))], c_143]) x_112.toNat hc_120 hS_145
    change Sat _ _ ([(b_27, .cells #[.slice ae nl ke, .int .i64 0] 164 (0, 0))] :: c_143 :: (cs1.set x_112.toNat c_137).flatten :: H :: F) at hS_146
    refine blockK_n <| thenK_n <| regionE ?_
    refine sAdd ((j : Nat) : Int) 1 ?_
    refine pu1 <| nilO <| thenK_n <| ?_
    exact ⟨(j + 1, (es1.set ((x_112).toNat) (⟨x_117.state, x_117.attempt, x_117.pending, ⟨a_135, (x_117.next.n + 1), cap_136, (x_117.next.l ++ [((i : Nat) : Int)])⟩⟩ : BEnt)), c_143, (cs1.set x_112.toNat c_137)), by first | omega | (dsimp only; omega), alA, hS_146, by omega, hO_144, (hN1.set hO_139), (ents_dep hEj hx_38 hx_115 hA hx_118 rfl rfl rfl rfl)⟩
  refine regionE <| pu3 ?_
  refine sStF hS_58 hO_60 hq_50 2 i 0 (⟨2, x_45.attempt, ((x_35.deps.n : Nat) : Int), x_45.next⟩ : BEnt) (⟨1, x_45.attempt, ((x_35.deps.n : Nat) : Int), x_45.next⟩ : BEnt) hx_61 (.int .i64 1) [.int .i64 1] Tryz.sizeOf3 ?_
  intro w_64 c_66 hO_67 hS_65
  rw [List.set_set] at hO_67
  refine nilO <| thenK_n <| seqE <| regionE <| pu1 ?_
  refine sL hS_65 0 6 (.slice x_35.deps.a x_35.deps.n x_35.deps.k) (Tryz.isAgg22 _) ?_
  refine pu2 <| nilO <| thenK_n <| blockE ?_
  have hS_68 := (((((hS_65.pick 4 rfl).pick 4 rfl).pick 4 rfl).pick 4 rfl).dropAt 4 rfl)
  refine loopA (γ := Nat × (List BEnt) × Chunk × (List Chunk)) (fun ⟨j, es1, c1, cs1⟩ => [(70, .int .i64 ((j : Nat) : Int)), (68, .slice x_35.deps.a x_35.deps.n x_35.deps.k), (69, .int .i64 ((x_35.deps.n : Nat) : Int)), (7, .int .i64 ((i : Nat) : Int)), (6, .pointer (some ⟨b_27, 0, none⟩)), (39, .int .i64 ((i : Nat) : Int)), (37, .slice al nl kl), (38, .int .i64 ((nl : Nat) : Int))]) (fun ⟨j, es1, c1, cs1⟩ w => Sat W w ([(b_27, .cells #[.slice ae nl ke, .int .i64 0] 164 (0, 0))] :: c1 :: cs1.flatten :: H :: F) ∧ j ≤ x_35.deps.n ∧ OwnT encBEnt 167 4 ae nl ke es1 c1 ∧ Nx es1 cs1 ∧ es1.map BEnt.v = (List.range nl).map (entN l (i + 1) ((l.map (·.deps.l)).take i ++ [x_35.deps.l.take j]))) (fun ⟨j, es1, c1, cs1⟩ => x_35.deps.n - j) (0, (es.set i (⟨1, x_45.attempt, ((x_35.deps.n : Nat) : Int), x_45.next⟩ : BEnt)), c_66, cs) ⟨hS_68, by omega, hO_67, (Nx.keep hN hx_48 rfl), (ents_open hE hx_38 hx_48 (by simp only [st0]; first | rw [if_pos (by omega)] | rw [if_neg (by omega)]) rfl (by dsimp only; omega) rfl)⟩ ?_
  rintro ⟨j, es1, c1, cs1⟩ ρ w_69 ⟨hS_70, hj, hO1, hN1, hEj⟩
  have hlo1 := hO1.le; have hlno1 := hO1.len
  refine seqE <| regionE <| pu1 <| nilO <| thenK_n <| seqE ?_
  refine cD (((j : Nat) : Int) < ((x_35.deps.n : Nat) : Int)) (fun hc_71 => ?_) (fun hc_71 => ?_)
  rotate_left
  · refine exitE <| thenK_x <| thenK_x <| blockK_x <| blockK_n <| thenK_n <| regionE ?_
    refine sAdd ((i : Nat) : Int) 1 ?_
    refine pu1 <| nilO <| thenK_n <| ?_
    rw [show j = x_35.deps.l.length by omega] at hEj
    have hS_107 := ((((hS_70.pick 3 rfl).pick 3 rfl).pick 3 rfl).pick 3 rfl)
    exact ⟨(i + 1, ae, ke, es1, c1, cs1), by first | omega | (dsimp only; omega), alA, hS_107, by omega, hO1, hN1, ents_done hEj hx_38⟩
  refine skipE <| thenK_n <| seqE <| blockE <| seqE <| regionE ?_
  refine sIdx (dl x_35 (List.mem_of_getElem? hx_38)).deps ((j : Nat) : Int) Tryz.runUnderlying22 Tryz.sizeOf3 ?_
  intro x_72 b_73 o_74 hx_75 hp_76
  rw [Int.toNat_natCast] at hx_75
  refine sLp hS_70 (hp_76.up 3 rfl) 0 (.int .i64 x_72) (Tryz.isAgg3 _) ?_
  refine pu1 <| nilO <| thenK_n <| ?_
  have hdm := asc_mem hA x_72 (List.mem_of_getElem? hx_75)
  obtain ⟨x_77, _, _, hx_78, _, _, _⟩ := OwnT.elem hO1 x_72
  obtain ⟨cx_79, hc_80, hOx_81⟩ := hN1.get hx_78
  have hlx := hOx_81.le; have hnx := hOx_81.len
  have hS_82 := ((((hS_70.pick 3 rfl).pick 3 rfl).pick 3 rfl).pick 3 rfl)
  have hS_83 := Sat.openN (A := [[(b_27, .cells #[.slice ae nl ke, .int .i64 0] 164 (0, 0))], c1]) x_72.toNat hc_80 hS_82
  change Sat _ _ (cx_79 :: [(b_27, .cells #[.slice ae nl ke, .int .i64 0] 164 (0, 0))] :: c1 :: (cs1.eraseIdx x_72.toNat).flatten :: H :: F) at hS_83
  have hxb : x_77.next.l.length ≤ 4096 := nx_short hEj hx_78 (by omega)
  obtain ⟨x_84, b_85, o_86, hx_87, hp_88, hq_89, ha_90⟩ := OwnT.elem hO1 x_72
  obtain rfl : x_77 = x_84 := Option.some.inj (hx_78.symm.trans hx_87)
  refine drawE [14, 15, 18] [(3, ⟨b_27, 0, none⟩, .slice ae nl ke), (8, ⟨b_27, 0, none⟩, .slice ae nl ke), (12, ⟨b_85, o_86 + (x_72).toNat * 4 + 3, none⟩, .slice x_77.next.a x_77.next.n x_77.next.k)] [(true, [0, 1, 2, 4, 5, 6, 7, 9, 13]), (true, [3]), (true, [8]), (true, [10]), (true, [11]), (true, [12]), (false, [14]), (false, [15]), (true, [16]), (true, [17]), (false, [18])] rfl (by kernel_rfl) ⟨.inr (hS_83.cell 1 rfl rfl), .inr (hS_83.cell 1 rfl rfl), .inr ((hp_88.up 2 rfl).cell hS_83 (k := 3) rfl), trivial⟩ ?_
  have hS_91 := hS_83.drew
  refine wU [0, 1, 2, 4, 5, 6, 7, 9, 13] ?_
  refine wLd (.slice ae nl ke) 0 Tryz.isAgg162 ?_
  refine wLd (.slice ae nl ke) 1 Tryz.isAgg162 ?_
  refine wY (.pointer (some ⟨b_85, o_86 + (x_72).toNat * 4, none⟩)) rfl (fun w _ => Y_idx (a := ae) (i := x_72) (len := nl) (cap := ke) rfl Tryz.runUnderlying162 Tryz.sizeOf167 (by kernel_rfl) (by kernel_rfl) hq_89) ?_
  refine wU [11] ?_
  refine wLd (.slice x_77.next.a x_77.next.n x_77.next.k) 2 Tryz.isAgg22 ?_
  refine wO rfl ?_
  refine sBS hS_91 #[.int .i64 ((i : Nat) : Int)] Tryz.runUnderlying22 Tryz.sizeOf3 Tryz.zeroValue3 ?_
  intro b_92 w_93 hS_94
  refine nilO ⟨⟨.inr (hS_94.cell 2 rfl rfl), .inr (hS_94.cell 2 rfl rfl), .inr ((hp_88.up 3 rfl).cell hS_94 (k := 3) rfl), trivial⟩, ?_⟩
  refine wO rfl ?_
  refine sApp (nb := 8) hS_94 hOx_81 1 (RdT.blk (enc := encI) (sz := 1) (xs := [((i : Nat) : Int)]) (fun _ => rfl) 1 0 rfl rfl rfl (by omega)) Tryz.underlying22 (i := Tryz.t3) (by kernel_rfl) (fun _ => rfl) ?_
  intro a_95 cap_96 c_97 w_98 hO_99 hS_100
  refine nilO ⟨⟨.inr (hS_100.cell 2 rfl rfl), .inr (hS_100.cell 2 rfl rfl), .inl (by kernel_rfl), trivial⟩, ?_⟩
  refine wY (.pointer (some ⟨b_85, o_86 + (x_72).toNat * 4, none⟩)) rfl (fun w _ => Y_idx (a := ae) (i := x_72) (len := nl) (cap := ke) rfl Tryz.runUnderlying162 Tryz.sizeOf167 (by kernel_rfl) (by kernel_rfl) hq_89) ?_
  refine wU [17] ?_
  refine wO rfl ?_
  refine sStF hS_100 hO1 ha_90 3 (x_72).toNat 3 x_77 (⟨x_77.state, x_77.attempt, x_77.pending, ⟨a_95, (x_77.next.n + 1), cap_96, (x_77.next.l ++ [((i : Nat) : Int)])⟩⟩ : BEnt) hx_87 (.slice a_95 (x_77.next.n + 1) cap_96) [.slice a_95 (x_77.next.n + 1) cap_96] Tryz.sizeOf22 ?_
  intro w_101 c_103 hO_104 hS_102
  refine nilO ⟨⟨.inl (by kernel_rfl), .inl (by kernel_rfl), .inl (by kernel_rfl), trivial⟩, ?_⟩
  refine wN ?_
  have hS_105 := ((((((hS_102.pick 5 rfl).pick 5 rfl).pick 5 rfl).pick 5 rfl).pick 5 rfl).dropAt 5 rfl)
  have hS_106 := Sat.shutN (d := c_97) (A := [[(b_27, .cells #[.slice ae nl ke, .int .i64 0] 164 (0, 0))], c_103]) x_72.toNat hc_80 hS_105
  change Sat _ _ ([(b_27, .cells #[.slice ae nl ke, .int .i64 0] 164 (0, 0))] :: c_103 :: (cs1.set x_72.toNat c_97).flatten :: H :: F) at hS_106
  refine blockK_n <| thenK_n <| regionE ?_
  refine sAdd ((j : Nat) : Int) 1 ?_
  refine pu1 <| nilO <| thenK_n <| ?_
  exact ⟨(j + 1, (es1.set ((x_72).toNat) (⟨x_77.state, x_77.attempt, x_77.pending, ⟨a_95, (x_77.next.n + 1), cap_96, (x_77.next.l ++ [((i : Nat) : Int)])⟩⟩ : BEnt)), c_103, (cs1.set x_72.toNat c_97)), by first | omega | (dsimp only; omega), alA, hS_106, by omega, hO_104, (hN1.set hO_99), (ents_dep hEj hx_38 hx_75 hA hx_78 rfl rfl rfl rfl)⟩

theorem map_zero {α : Type} (l : List α) : l.map (fun _ => (0 : Int)) = List.replicate l.length 0 := by
  induction l with
  | nil => rfl
  | cons x l ih => rw [List.map_cons, ih, List.length_cons, List.replicate_succ]
theorem st_step {l : List Task} {ss : List Int} {n i : Nat} {t : Task} {y : Int} (ht : l[i]? = some t) (h : ss = (l.take i).map (fun t => st0 t.deps.l) ++ List.replicate (n - i) 0) (hi : i < n) (hy : y = st0 t.deps.l) :
    ss.set i y = (l.take (i + 1)).map (fun t => st0 t.deps.l) ++ List.replicate (n - (i + 1)) 0 := by
  rw [h, hy]; exact set_rep (f := fun t : Task => st0 t.deps.l) ht hi
theorem r25_new (al : Option Addr) (nl kl : Nat) (l : List Task) (hl : RdT encTask 9 [H] al nl kl l) (dl : ∀ z ∈ l, Task.Ok [H] z) (hS : Sat W w (H :: F)) :
    Calls Tryz.prog 36 #[.slice al nl kl] w fun e w' => (validC l ≠ 0 ∧ e = .returned (.tuple #[.pointer none, .int .i64 (validC l)]) ∧ Sat W w' (H :: F)) ∨ (validC l = 0 ∧ ∃ (p : Nat) (M : Chunk), e = .returned (.tuple #[.pointer (some ⟨p, 0, none⟩), .int .i64 0]) ∧ RefR p (newB l) M ∧ Sat W w' (M :: H :: F)) := by
  have hl_l := hl.le; have hn_l := hl.len
  refine callsA 62 Tryz.func36 rfl ?_
  refine seqE <| regionE <| pu2 <| nilO <| thenK_n <| seqE <| seqE <| regionE <| pu1 ?_
  refine cR Tryz.call64 (r25_valid al nl kl l (RdT.flat (hl.up 0 (by rfl))) (fun z hz => (dl z hz).of_mem (mem_flat1 0 (by rfl))) (Sat.flat hS)) ?_
  intro w_1 hS_2
  refine pu1 <| nilO <| thenK_n <| seqE <| regionE <| pu2 <| nilO <| thenK_n <| ?_
  refine cN (validC l) 0 (fun hc_4 => ?_) (fun hc_4 => ?_)
  rotate_left
  · refine seqE <| regionE <| pu3 <| nilO <| thenK_n <| retE <| thenK_r <| retT [.pointer none, .int .i64 (validC l)] <| ?_
    exact .inl ⟨hc_4, rfl, hS_2⟩
  refine skipE <| thenK_n <| ?_
  refine cutA (γ := Nat × (Option Addr) × Nat × (Option Addr) × Nat × Chunk × Chunk) (fun ⟨p, sa, ks, aa, ka, cs, ca⟩ => [(0, .slice al nl kl), (5, .pointer (some ⟨p, 0, none⟩))]) (fun ⟨p, sa, ks, aa, ka, cs, ca⟩ w => Sat W w ([(p, .cells #[.slice none 0 0, .slice sa nl ks, .slice aa nl ka] 136 (0, 0))] :: cs :: ca :: H :: F) ∧ OwnT encI 3 1 sa nl ks (List.replicate nl 0) cs ∧ OwnT encI 3 1 aa nl ka (List.replicate nl 0) ca) ?_ ?_
  · have hv0 : validC l = 0 := hc_4
    have hvz := validC_zero hv0
    refine drawP [2, 5, 7] [] (Plan.sts [0, 1, 3, 4] <| .fk 2 5 (.ef 5 <| Plan.sts [6] <| .ef 7 <| Plan.sts [8] <| .fin) (.ef 2 <| Plan.sts [6] <| .ef 7 <| Plan.sts [8] <| .fin)) rfl (by kernel_rfl) trivial ?_
    have hS_5 := hS_2.drew
    refine qU [0, 1, 3, 4] ?_
    refine qF ?_ ?_
    · refine qO rfl ?_
      refine sMake (kl := .i64) (kc := .i64) (enc := encI) (sz := 1) (nb := 8) hS_5 0 nl ((nl : Nat) : Int) (rfl : ((nl : Nat) : Int) = ((nl : Nat) : Int)) Tryz.underlying22 (i := Tryz.t3) (by kernel_rfl) (fun _ => rfl) ?_
      intro b_6 c_7 w_9 hO_8 hS_10
      refine nilO ⟨trivial, ?_⟩
      refine qO rfl ?_
      refine sMake (kl := .i64) (kc := .i64) (enc := encI) (sz := 1) (nb := 8) hS_10 0 nl ((nl : Nat) : Int) (rfl : ((nl : Nat) : Int) = ((nl : Nat) : Int)) Tryz.underlying22 (i := Tryz.t3) (by kernel_rfl) (fun _ => rfl) ?_
      intro b_11 c_12 w_14 hO_13 hS_15
      refine nilO ⟨trivial, ?_⟩
      refine qU [6] ?_
      refine qO rfl ?_
      refine sBox hS_15 (.agg #[.slice none 0 0, .slice (some ⟨b_6, 0, none⟩) nl nl, .slice (some ⟨b_11, 0, none⟩) nl nl]) #[.slice none 0 0, .slice (some ⟨b_6, 0, none⟩) nl nl, .slice (some ⟨b_11, 0, none⟩) nl nl] ?_
      intro b_16 w_17 hS_18
      refine nilO ⟨trivial, ?_⟩
      refine qU [8] ?_
      refine qN ?_
      refine thenK_n <| ?_
      have hS_19 := ((((hS_18.pick 3 rfl).pick 2 rfl).pick 3 rfl).pick 3 rfl)
      exact ⟨(b_16, (some ⟨b_6, 0, none⟩), nl, (some ⟨b_11, 0, none⟩), nl, c_7, c_12), alA, hS_19, hO_8, hO_13⟩
    refine qO rfl ?_
    refine sMake (kl := .i64) (kc := .i64) (enc := encI) (sz := 1) (nb := 8) hS_5 0 nl ((nl : Nat) : Int) (rfl : ((nl : Nat) : Int) = ((nl : Nat) : Int)) Tryz.underlying22 (i := Tryz.t3) (by kernel_rfl) (fun _ => rfl) ?_
    intro b_20 c_21 w_23 hO_22 hS_24
    refine nilO ⟨trivial, ?_⟩
    refine qO rfl ?_
    refine sMake (kl := .i64) (kc := .i64) (enc := encI) (sz := 1) (nb := 8) hS_24 0 nl ((nl : Nat) : Int) (rfl : ((nl : Nat) : Int) = ((nl : Nat) : Int)) Tryz.underlying22 (i := Tryz.t3) (by kernel_rfl) (fun _ => rfl) ?_
    intro b_25 c_26 w_28 hO_27 hS_29
    refine nilO ⟨trivial, ?_⟩
    refine qU [6] ?_
    refine qO rfl ?_
    refine sBox hS_29 (.agg #[.slice none 0 0, .slice (some ⟨b_25, 0, none⟩) nl nl, .slice (some ⟨b_20, 0, none⟩) nl nl]) #[.slice none 0 0, .slice (some ⟨b_25, 0, none⟩) nl nl, .slice (some ⟨b_20, 0, none⟩) nl nl] ?_
    intro b_30 w_31 hS_32
    refine nilO ⟨trivial, ?_⟩
    refine qU [8] ?_
    refine qN ?_
    refine thenK_n <| ?_
    have hS_33 := ((((hS_32.pick 3 rfl).pick 3 rfl).pick 3 rfl).pick 3 rfl)
    exact ⟨(b_30, (some ⟨b_25, 0, none⟩), nl, (some ⟨b_20, 0, none⟩), nl, c_26, c_21), alA, hS_33, hO_27, hO_22⟩
  rintro ⟨p, sa, ks, aa, ka, cs, ca⟩ ρ w_34 ⟨hS_35, hOs, hOa⟩
  refine seqE <| seqE ?_
  have hv0 : validC l = 0 := hc_4
  have hvz := validC_zero hv0
  refine regionE <| pu1 <| nilO <| thenK_n <| blockE ?_
  have hS_36 := ((((hS_35.pick 3 rfl).pick 3 rfl).pick 3 rfl).pick 3 rfl)
  have hS_37 : Sat W _ ([(p, .cells #[.slice none 0 0, .slice sa nl ks, .slice aa nl ka] 136 (0, 0))] :: ([] : Chunk) :: ([] : Chunk) :: cs :: ca :: H :: F) := Sat.perm hS_36 (by simp)
  refine loopA (γ := Nat × (Option Addr) × Nat × Nat × (List Task) × Chunk × Chunk × (List Int) × Chunk) (fun ⟨i, at_, nt, kt, ts, ct, G, ss, cs1⟩ => [(0, .slice al nl kl), (5, .pointer (some ⟨p, 0, none⟩)), (6, .int .i64 ((i : Nat) : Int))]) (fun ⟨i, at_, nt, kt, ts, ct, G, ss, cs1⟩ w => Sat W w ([(p, .cells #[.slice at_ nt kt, .slice sa nl ks, .slice aa nl ka] 136 (0, 0))] :: ct :: G :: cs1 :: ca :: H :: F) ∧ i ≤ nl ∧ OwnT encTask 49 9 at_ nt kt ts ct ∧ (∀ z ∈ ts, Task.Ok [G] z) ∧ OwnT encI 3 1 sa nl ks ss cs1 ∧ ts.map (·.deps.l) = (l.map (·.deps.l)).take i ∧ ss = (l.take i).map (fun t => st0 t.deps.l) ++ List.replicate (nl - i) 0) (fun ⟨i, at_, nt, kt, ts, ct, G, ss, cs1⟩ => nl - i) (0, none, 0, 0, [], [], [], (List.replicate nl 0), cs) ⟨hS_37, by omega, OwnT.nil (fun _ => rfl), (fun z hz => by cases hz), hOs, (by simp), (by simp)⟩ ?_
  rintro ⟨i, at_, nt, kt, ts, ct, G, ss, cs1⟩ ρ w_38 ⟨hS_39, hi, hOt, hDt, hOs1, hte, hse⟩
  have hlt := hOt.le; have hlnt := hOt.len; have hls := hOs1.le; have hlns := hOs1.len; have hltm := congrArg List.length hte; simp only [List.length_map, List.length_take] at hltm
  refine seqE <| seqE <| regionE <| pu4 <| nilO <| thenK_n <| ?_
  refine cD (((i : Nat) : Int) < ((nl : Nat) : Int)) (fun hc_40 => ?_) (fun hc_40 => ?_)
  rotate_left
  · refine exitE <| thenK_x <| thenK_x <| blockK_x <| thenK_n <| seqE <| regionE <| pu3 <| nilO <| thenK_n <| retE <| retT [.pointer (some ⟨p, 0, none⟩), .int .i64 0] <| ?_
    have hS_98 := ((((((hS_39.pick 5 rfl).pick 5 rfl).pick 5 rfl).pick 5 rfl).pick 5 rfl).pick 5 rfl)
    obtain rfl : nl = i := by omega
    have hS_99 : Sat W _ (([(p, .cells #[.slice at_ nt kt, .slice sa nl ks, .slice aa nl ka] 136 (0, 0))] ++ (ct ++ (G ++ (cs1 ++ ca)))) :: H :: F) := Sat.perm hS_98 (by simp)
    rw [List.take_of_length_le (by simp; omega)] at hte; rw [List.take_of_length_le (by omega)] at hse
    exact .inr ⟨hv0, _, _, rfl, ⟨_, _, _, ts, _, _, _, _, _, _, ct, G, cs1, ca, rfl, hOt, hDt, (by rw [show (newB l).st = ss by rw [hse]; simp [newB]]; exact hOs1), (by rw [show (newB l).att = List.replicate nl 0 by simp only [newB]; rw [map_zero, hn_l]]; exact hOa), hte⟩, hS_99⟩
  refine skipE <| thenK_n <| seqE <| blockE <| seqE <| regionE <| pu2 ?_
  refine sIdx hl ((i : Nat) : Int) Tryz.runUnderlying45 Tryz.sizeOf49 ?_
  intro x_41 b_42 o_43 hx_44 hp_45
  rw [Int.toNat_natCast] at hx_44
  refine sLpA hS_39 (hp_45.up 5 rfl) 0 (encTask x_41) (Tryz.isAgg49 _) (Tryz.sizeOf49 _) ?_
  refine sAlloc hS_39 Tryz.zeroValue49 ?_
  intro b_46 w_47 hS_48
  refine sT hS_48 0 0 (.agg (encTask x_41).toArray) (encTask x_41) (encTask x_41).toArray Tryz.sizeOf49 ?_
  intro w_49 hS_50
  refine nilO ?_
  have hal := asc_len (by omega) (taskOK_asc (tasksOK_at hvz.2.2 hx_44)); have hnd := (dl x_41 (List.mem_of_getElem? hx_44)).deps.len; have hld := (dl x_41 (List.mem_of_getElem? hx_44)).deps.le
  refine thenK_n <| seqE <| regionE <| pu1 ?_
  refine sL hS_50 0 6 (.slice x_41.deps.a x_41.deps.n x_41.deps.k) (Tryz.isAgg22 _) ?_
  have hS_51 := Sat.nilc hS_50
  have hO_52 := OwnT.nil (enc := encI) (E := 3) (sz := 1) (fun _ => rfl)
  refine sApp (nb := 8) hS_51 hO_52 0 ((dl x_41 (List.mem_of_getElem? hx_44)).deps.up 7 rfl) Tryz.underlying22 (i := Tryz.t3) (by kernel_rfl) (fun _ => rfl) ?_
  intro a_53 cap_54 c_55 w_56 hO_57 hS_58
  refine pu1 ?_
  refine tW hS_58 1 6 (.slice a_53 (0 + x_41.deps.n) cap_54) Tryz.sizeOf22 ?_
  intro w_59 hS_60
  refine nilO <| thenK_n <| seqE ?_
  refine drawE [6, 7, 10] [(4, ⟨p, 0, none⟩, .slice at_ nt kt), (5, ⟨b_46, 0, none⟩, .int .i64 x_41.stage), (5, ⟨b_46, 1, none⟩, .int .i64 x_41.part), (5, ⟨b_46, 2, none⟩, .int .i64 x_41.rectX0), (5, ⟨b_46, 3, none⟩, .int .i64 x_41.rectY0), (5, ⟨b_46, 4, none⟩, .int .i64 x_41.rectX1), (5, ⟨b_46, 5, none⟩, .int .i64 x_41.rectY1), (5, ⟨b_46, 6, none⟩, .slice a_53 (0 + x_41.deps.n) cap_54), (5, ⟨b_46, 7, none⟩, .int .i64 x_41.rows), (5, ⟨b_46, 8, none⟩, .int .i64 x_41.scratch)] [(true, [0, 1, 2, 3]), (true, [4]), (true, [5]), (false, [6]), (false, [7]), (true, [8, 9]), (false, [10])] rfl (by kernel_rfl) ⟨.inr (hS_60.cell 2 rfl rfl), .inr (hS_60.cell 1 rfl rfl), .inr (hS_60.cell 1 rfl rfl), .inr (hS_60.cell 1 rfl rfl), .inr (hS_60.cell 1 rfl rfl), .inr (hS_60.cell 1 rfl rfl), .inr (hS_60.cell 1 rfl rfl), .inr (hS_60.cell 1 rfl rfl), .inr (hS_60.cell 1 rfl rfl), .inr (hS_60.cell 1 rfl rfl), trivial⟩ ?_
  have hS_61 := hS_60.drew
  refine wU [0, 1, 2, 3] ?_
  refine wLd (.slice at_ nt kt) 0 Tryz.isAgg45 ?_
  refine wY (.agg #[.int .i64 x_41.stage, .int .i64 x_41.part, .int .i64 x_41.rectX0, .int .i64 x_41.rectY0, .int .i64 x_41.rectX1, .int .i64 x_41.rectY1, .slice a_53 (0 + x_41.deps.n) cap_54, .int .i64 x_41.rows, .int .i64 x_41.scratch]) rfl (fun w hF => Y_loadF rfl (Tryz.isAgg49 w) (Tryz.sizeOf49 w) (by kernel_rfl) rfl ⟨hF 1 _ _ rfl, hF 2 _ _ rfl, hF 3 _ _ rfl, hF 4 _ _ rfl, hF 5 _ _ rfl, hF 6 _ _ rfl, hF 7 _ _ rfl, hF 8 _ _ rfl, hF 9 _ _ rfl, trivial⟩) ?_
  refine wO rfl ?_
  refine sBS hS_61 #[.int .i64 x_41.stage, .int .i64 x_41.part, .int .i64 x_41.rectX0, .int .i64 x_41.rectY0, .int .i64 x_41.rectX1, .int .i64 x_41.rectY1, .slice a_53 (0 + x_41.deps.n) cap_54, .int .i64 x_41.rows, .int .i64 x_41.scratch] Tryz.runUnderlying45 Tryz.sizeOf49 Tryz.zeroValue49 ?_
  intro b_62 w_63 hS_64
  refine nilO ⟨⟨.inr (hS_64.cell 3 rfl rfl), .inl (by kernel_rfl), .inl (by kernel_rfl), .inl (by kernel_rfl), .inl (by kernel_rfl), .inl (by kernel_rfl), .inl (by kernel_rfl), .inl (by kernel_rfl), .inl (by kernel_rfl), .inl (by kernel_rfl), trivial⟩, ?_⟩
  refine wO rfl ?_
  refine sApp (nb := 88) hS_64 hOt 4 (RdT.blk (enc := encTask) (sz := 9) (xs := [(⟨x_41.stage, x_41.part, x_41.rectX0, x_41.rectY0, x_41.rectX1, x_41.rectY1, ⟨a_53, (0 + x_41.deps.n), cap_54, ([] ++ x_41.deps.l)⟩, x_41.rows, x_41.scratch⟩ : Task)]) (fun _ => rfl) 1 0 rfl rfl rfl (by omega)) Tryz.underlying45 (i := Tryz.t49) (by kernel_rfl) (fun _ => rfl) ?_
  intro a_65 cap_66 c_67 w_68 hO_69 hS_70
  refine nilO ⟨⟨.inl (by kernel_rfl), .inl (by kernel_rfl), .inl (by kernel_rfl), .inl (by kernel_rfl), .inl (by kernel_rfl), .inl (by kernel_rfl), .inl (by kernel_rfl), .inl (by kernel_rfl), .inl (by kernel_rfl), .inl (by kernel_rfl), trivial⟩, ?_⟩
  refine wU [8, 9] ?_
  refine wO rfl ?_
  refine sT hS_70 3 0 (.slice a_65 (nt + 1) cap_66) [.slice a_65 (nt + 1) cap_66] #[.slice a_65 (nt + 1) cap_66, .slice sa nl ks, .slice aa nl ka] Tryz.sizeOf45 ?_
  intro w_71 hS_72
  refine nilO ⟨⟨.inl (by kernel_rfl), .inl (by kernel_rfl), .inl (by kernel_rfl), .inl (by kernel_rfl), .inl (by kernel_rfl), .inl (by kernel_rfl), .inl (by kernel_rfl), .inl (by kernel_rfl), .inl (by kernel_rfl), .inl (by kernel_rfl), trivial⟩, ?_⟩
  refine wN ?_
  refine thenK_n <| seqE <| regionE <| pu3 ?_
  refine sL hS_72 3 1 (.slice sa nl ks) (Tryz.isAgg22 _) ?_
  refine pu1 ?_
  refine sIdxO hOs1 ((i : Nat) : Int) i Tryz.runUnderlying22 Tryz.sizeOf3 ?_
  intro x_73 b_74 o_75 hx_76 hp_77 hq_78
  refine sStF hS_72 hOs1 hq_78 6 i 0 x_73 1 hx_76 (.int .i64 1) [.int .i64 1] Tryz.sizeOf3 ?_
  intro w_79 c_81 hO_82 hS_80
  refine nilO <| thenK_n <| seqE <| regionE <| pu1 ?_
  refine sL hS_80 2 6 (.slice a_53 (0 + x_41.deps.n) cap_54) (Tryz.isAgg22 _) ?_
  refine pu2 <| nilO <| thenK_n <| ?_
  refine cE (((0 + x_41.deps.n) : Nat) : Int) 0 (fun hc_83 => ?_) (fun hc_83 => ?_)
  rotate_left
  · refine skipE <| blockK_n <| thenK_n <| regionE <| pu1 ?_
    refine sAdd ((i : Nat) : Int) 1 ?_
    refine pu1 <| nilO <| thenK_n <| ?_
    have hS_96 := (((((((((hS_80.pick 8 rfl).pick 8 rfl).pick 8 rfl).pick 8 rfl).pick 5 rfl).pick 8 rfl).pick 8 rfl).dropAt 7 rfl).dropAt 7 rfl)
    have hS_97 : Sat W _ ([(p, .cells #[.slice a_65 (nt + 1) cap_66, .slice sa nl ks, .slice aa nl ka] 136 (0, 0))] :: c_67 :: (c_55 ++ G) :: c_81 :: ca :: H :: F) := Sat.perm hS_96 (by simp)
    exact ⟨(i + 1, a_65, (nt + 1), cap_66, (ts ++ [(⟨x_41.stage, x_41.part, x_41.rectX0, x_41.rectY0, x_41.rectX1, x_41.rectY1, ⟨a_53, (0 + x_41.deps.n), cap_54, ([] ++ x_41.deps.l)⟩, x_41.rows, x_41.scratch⟩ : Task)]), c_67, (c_55 ++ G), (ss.set i 1), c_81), by first | omega | (dsimp only; omega), alA, hS_97, by omega, hO_69, (by
        intro z hz
        rcases List.mem_append.1 hz with h | h
        · exact (hDt z h).of_mem (fun p hp => by simp at hp ⊢; simp [hp])
        · simp only [List.mem_singleton] at h; subst h; exact ⟨(hO_57.rdAt (cs := [c_55]) 0 rfl).of_mem (fun p hp => by simp at hp ⊢; simp [hp])⟩), hO_82, (by rw [List.map_append, hte, take_succ_at (x := x_41.deps.l) (by simp [hx_44])]; simp), (by first | exact st_step hx_44 hse (by omega) (by simp only [st0]; rw [if_neg (by omega)]) | (rw [List.set_set]; exact st_step hx_44 hse (by omega) (by simp only [st0]; rw [if_pos (by omega)])))⟩
  refine regionE <| pu3 ?_
  refine sL hS_80 3 1 (.slice sa nl ks) (Tryz.isAgg22 _) ?_
  refine pu1 ?_
  refine sIdxO hO_82 ((i : Nat) : Int) i Tryz.runUnderlying22 Tryz.sizeOf3 ?_
  intro x_84 b_85 o_86 hx_87 hp_88 hq_89
  refine sStF hS_80 hO_82 hq_89 6 i 0 x_84 2 hx_87 (.int .i64 2) [.int .i64 2] Tryz.sizeOf3 ?_
  intro w_90 c_92 hO_93 hS_91
  refine nilO <| blockK_n <| thenK_n <| regionE <| pu1 ?_
  refine sAdd ((i : Nat) : Int) 1 ?_
  refine pu1 <| nilO <| thenK_n <| ?_
  have hS_94 := (((((((((hS_91.pick 8 rfl).pick 8 rfl).pick 8 rfl).pick 8 rfl).pick 5 rfl).pick 8 rfl).pick 8 rfl).dropAt 7 rfl).dropAt 7 rfl)
  have hS_95 : Sat W _ ([(p, .cells #[.slice a_65 (nt + 1) cap_66, .slice sa nl ks, .slice aa nl ka] 136 (0, 0))] :: c_67 :: (c_55 ++ G) :: c_92 :: ca :: H :: F) := Sat.perm hS_94 (by simp)
  exact ⟨(i + 1, a_65, (nt + 1), cap_66, (ts ++ [(⟨x_41.stage, x_41.part, x_41.rectX0, x_41.rectY0, x_41.rectX1, x_41.rectY1, ⟨a_53, (0 + x_41.deps.n), cap_54, ([] ++ x_41.deps.l)⟩, x_41.rows, x_41.scratch⟩ : Task)]), c_67, (c_55 ++ G), ((ss.set i 1).set i 2), c_92), by first | omega | (dsimp only; omega), alA, hS_95, by omega, hO_69, (by
      intro z hz
      rcases List.mem_append.1 hz with h | h
      · exact (hDt z h).of_mem (fun p hp => by simp at hp ⊢; simp [hp])
      · simp only [List.mem_singleton] at h; subst h; exact ⟨(hO_57.rdAt (cs := [c_55]) 0 rfl).of_mem (fun p hp => by simp at hp ⊢; simp [hp])⟩), hO_93, (by rw [List.map_append, hte, take_succ_at (x := x_41.deps.l) (by simp [hx_44])]; simp), (by first | exact st_step hx_44 hse (by omega) (by simp only [st0]; rw [if_neg (by omega)]) | (rw [List.set_set]; exact st_step hx_44 hse (by omega) (by simp only [st0]; rw [if_pos (by omega)])))⟩
end Go.Proofs.YtimkhljglpookaaGreat
