import Derived.Test.YtimkhljglpookaaL25B
namespace Go.Proofs.Ytimkhljglpookaa
open Go Go.E
set_option linter.unusedVariables false
set_option linter.unusedSimpArgs false
set_option linter.unnecessarySimpa false
set_option maxRecDepth 100000
set_option maxHeartbeats 2000000
variable {W w : World} {H : Chunk} {F : List Chunk}

theorem ok_upd {xs : List Task} {C : List Chunk} {i : Nat} {x : Task} (h : ∀ z ∈ xs, Task.Ok C z) (hx : Task.Ok C x) : ∀ z ∈ xs.set i x, Task.Ok C z := by
  intro z hz
  rcases List.mem_or_eq_of_mem_set hz with h1 | rfl
  · exact h z h1
  · exact hx
theorem l25_new (W w : World) (H : Chunk) (F : List Chunk) (t : Option Addr) (nt kt : Nat) (xt : List Int) (l : Option Addr) (nl kl : Nat) (xl : List Task) (ht : RdT encI 1 [H] t nt kt xt) (hl : RdT encTask 9 [H] l nl kl xl) (dl : ∀ z ∈ xl, Task.Ok [H] z) (hS : Sat W w (H :: F)) :
    Calls Try.prog 3 #[.slice t nt kt, .slice l nl kl] w fun e w' => e = .returned (.bool true) ∧ Sat W w' (H :: F) := by
  have hlt := ht.le
  have hll := hl.le; have hnl := hl.len
  refine callsA 98 Try.func3 rfl ?_
  refine seqE <| regionE <| pu1 <| nilO <| thenK_n <| seqE <| regionE <| pu1 ?_
  refine cX Try.call8 (tape_new t nt kt hS) ?_
  rintro _ w_1 ⟨p_3, rfl, hS_2⟩
  have hle_4 := ht.le
  refine pu1 <| nilO <| thenK_n <| seqE <| seqE <| regionE <| pu1 <| nilO <| thenK_n <| blockE ?_
  have hS_5 := ((hS_2.pick 1 rfl).pick 1 rfl)
  refine loopA (γ := Nat × Int) (fun ⟨r, it⟩ => [(1, .slice l nl kl), (5, .pointer (some ⟨p_3, 0, none⟩)), (6, .int .i64 ((r : Nat) : Int))]) (fun ⟨r, it⟩ w => Sat W w ([(p_3, .cells #[.slice t nt kt, .int .i64 it] 62 (0, 0))] :: H :: F) ∧ r ≤ 4 ∧ (0 ≤ it ∧ it ≤ nt)) (fun ⟨r, it⟩ => 4 - r) (0, 0) ⟨hS_5, by omega, by omega⟩ ?_
  rintro ⟨r, it⟩ ρ w_6 ⟨hS_7, hr, hit⟩
  refine seqE <| seqE <| regionE <| pu2 <| nilO <| thenK_n <| ?_
  refine cD (((r : Nat) : Int) < 4) (fun hc_8 => ?_) (fun hc_8 => ?_)
  rotate_left
  · refine exitE <| thenK_x <| thenK_x <| blockK_x <| thenK_n <| seqE <| regionE ?_
    refine cX Try.call15 (l25_sane hS_7) ?_
    rintro _ w_186 ⟨rfl, hS_187⟩
    refine pu1 <| nilO <| thenK_n <| retE <| retT [.bool true] <| ?_
    have hS_188 := (hS_187.pick 1 rfl)
    have hS_189 := hS_188.dropAt 1 rfl
    exact ⟨rfl, hS_189⟩
  refine skipE <| thenK_n <| seqE <| blockE <| seqE <| regionE <| pu1 ?_
  refine cX Try.call9 (tg_tasks (RdT.flat (ht.up 0 (by rfl))) (by omega) (Sat.flat1 hS_7) 6 (by omega)) ?_
  rintro _ w_9 ⟨az_11, nz_12, kz_13, zs_14, C_15, G_16, rfl, hO_17, hD_18, hV_19, i_20, hi_21, hS_10⟩
  have hS_22 := Sat.unflat3 hS_10
  have hn_zs_14 := hO_17.len; have hl_zs_14 := hO_17.le
  refine pu1 <| nilO ?_
  have hz1 := hV_19.1; have hz2 := hV_19.2.1; have hztk := hV_19.2.2
  refine thenK_n <| seqE <| regionE <| pu3 ?_
  refine cX Try.call10 (tape_next (RdT.flat (ht.up 2 (by rfl))) (by omega) (Sat.flat1 hS_22) ((nz_12 : Nat) : Int) (by omega)) ?_
  rintro _ w_23 ⟨r_25, rfl, hr_26, i_27, hi_28, hS_24⟩
  have hS_29 := Sat.unflat1 hS_24
  refine pu1 <| nilO <| thenK_n <| ?_
  refine cutA (γ := (Option Addr) × Nat × Nat × Chunk × (List Task) × Int) (fun ⟨xa, xn, xk, X, xs, it1⟩ => [(1, .slice l nl kl), (5, .pointer (some ⟨p_3, 0, none⟩)), (6, .int .i64 ((r : Nat) : Int)), (7, .slice xa xn xk)]) (fun ⟨xa, xn, xk, X, xs, it1⟩ w => Sat W w ([(p_3, .cells #[.slice t nt kt, .int .i64 it1] 62 (0, 0))] :: (X ++ H) :: F) ∧ RdT encTask 9 [X ++ H] xa xn xk xs ∧ (∀ z ∈ xs, Task.Ok [X ++ H] z) ∧ (0 ≤ it1 ∧ it1 ≤ nt)) ?_ ?_
  rotate_left
  · rintro ⟨xa, xn, xk, X, xs, it1⟩ ρ w_138 ⟨hS_139, hRx, hDx, hit1⟩
    refine seqE <| seqE ?_
    have ht2 : RdT encI 1 [X ++ H] t nt kt xt := ht.of_mem (fun p hp => by simp at hp ⊢; simp [hp]); have hlx := hRx.le; have hnx := hRx.len
    refine regionE <| pu3 <| nilO <| thenK_n <| ?_
    refine cD (((xn : Nat) : Int) > 200) (fun hc_140 => ?_) (fun hc_140 => ?_)
    · refine exitE <| thenK_x <| blockK_x <| thenK_n <| regionE <| pu1 ?_
      refine sAdd ((r : Nat) : Int) 1 ?_
      refine pu1 <| nilO <| thenK_n <| ?_
      have hS_141 := ((hS_139.pick 1 rfl).pick 1 rfl)
      have hS_142 : Sat W _ ([(p_3, .cells #[.slice t nt kt, .int .i64 it1] 62 (0, 0))] :: X :: H :: F) := Sat.perm hS_141 (by simp)
      have hS_143 := hS_142.dropAt 1 rfl
      exact ⟨(r + 1, it1), by first | omega | (dsimp only; omega), alA, hS_143, by omega, by omega⟩
    refine skipE <| thenK_n <| seqE <| regionE <| pu1 ?_
    refine cX Try.call12 (b_new xa xn xk xs (RdT.flat (hRx.up 1 (by rfl))) (fun z hz => (hDx z hz).of_mem (mem_flat1 1 (by rfl))) (Sat.flat hS_139)) ?_
    rintro _ w_144 (⟨hv_148, rfl, hS_145⟩ | ⟨hv_148, p_146, M_147, rfl, hB_149, hS_145⟩)
    · have hS_150 := Sat.unflat hS_145
      refine pu5 <| nilO <| thenK_n <| seqE <| regionE <| pu1 ?_
      refine cX Try.call13 (r25_new xa xn xk xs (RdT.flat (hRx.up 1 (by rfl))) (fun z hz => (hDx z hz).of_mem (mem_flat1 1 (by rfl))) (Sat.flat hS_150)) ?_
      rintro _ w_151 (⟨hv_155, rfl, hS_152⟩ | ⟨hv_155, p_153, M_154, rfl, hB_156, hS_152⟩)
      rotate_left
      · have hS_164 := Sat.unflat1 hS_152
        have hW_165 := new_wf hv_155
        exact absurd hv_155 hv_148
      have hS_157 := Sat.unflat hS_152
      refine pu5 <| nilO <| thenK_n <| seqE <| regionE <| pu4 ?_
      have hc_158 : ((validC xs) : Int) = (validC xs) := rfl
      refine sFix 82 _ false (bne_eq_false_iff_eq.2 hc_158) ?_
      refine pu11 <| gY ?_
      refine cX Try.call14 (l25_same_nil ((xn : Nat) : Int) (by omega) hS_157) ?_
      rintro _ w_159 ⟨rfl, hS_160⟩
      refine pu2 <| nilO <| thenK_n <| cFf <| skipE <| blockK_n <| thenK_n <| regionE <| pu1 ?_
      refine sAdd ((r : Nat) : Int) 1 ?_
      refine pu1 <| nilO <| thenK_n <| ?_
      have hS_161 := ((hS_160.pick 1 rfl).pick 1 rfl)
      have hS_162 : Sat W _ ([(p_3, .cells #[.slice t nt kt, .int .i64 it1] 62 (0, 0))] :: X :: H :: F) := Sat.perm hS_161 (by simp)
      have hS_163 := hS_162.dropAt 1 rfl
      exact ⟨(r + 1, it1), by first | omega | (dsimp only; omega), alA, hS_163, by omega, by omega⟩
    have hS_166 := Sat.unflat1 hS_145
    have hW_167 := new_wf hv_148
    refine pu5 <| nilO <| thenK_n <| seqE <| regionE <| pu1 ?_
    refine cX Try.call13 (r25_new xa xn xk xs (RdT.flat (hRx.up 2 (by rfl))) (fun z hz => (hDx z hz).of_mem (mem_flat1 2 (by rfl))) (Sat.flat hS_166)) ?_
    rintro _ w_168 (⟨hv_172, rfl, hS_169⟩ | ⟨hv_172, p_170, M_171, rfl, hB_173, hS_169⟩)
    · have hS_174 := Sat.unflat hS_169
      exact absurd hv_148 hv_172
    have hS_175 := Sat.unflat1 hS_169
    have hW_176 := new_wf hv_172
    refine pu5 <| nilO <| thenK_n <| seqE <| regionE <| pu15 <| gY ?_
    have hS_177 := ((hS_175.pick 0 rfl).pick 1 rfl)
    refine cX Try.call14 (l25_same hB_149 hB_173 hW_167 ((xn : Nat) : Int) (by omega) (Sat.flat2 hS_177)) ?_
    rintro _ w_178 ⟨M_181, rfl, hB_182, hS_179⟩
    have hS_180 := Sat.unflat2 hS_179
    refine pu2 <| nilO <| thenK_n <| cFf <| skipE <| blockK_n <| thenK_n <| regionE <| pu1 ?_
    refine sAdd ((r : Nat) : Int) 1 ?_
    refine pu1 <| nilO <| thenK_n <| ?_
    have hS_183 := ((((hS_180.pick 3 rfl).pick 3 rfl).dropAt 2 rfl).dropAt 2 rfl)
    have hS_184 : Sat W _ ([(p_3, .cells #[.slice t nt kt, .int .i64 it1] 62 (0, 0))] :: X :: H :: F) := Sat.perm hS_183 (by simp)
    have hS_185 := hS_184.dropAt 1 rfl
    exact ⟨(r + 1, it1), by first | omega | (dsimp only; omega), alA, hS_185, by omega, by omega⟩
  refine seqE <| regionE <| pu1 <| nilO <| thenK_n <| blockE <| seqE <| regionE <| pu2 <| nilO <| thenK_n <| ?_
  refine cE ((r : Nat) : Int) 1 (fun hc_30 => ?_) (fun hc_30 => ?_)
  · refine regionE <| pu2 ?_
    refine sBS hS_29 #[] Try.runUnderlying22 Try.sizeOf3 Try.zeroValue3 ?_
    intro b_31 w_32 hS_33
    refine pu2 ?_
    refine sIdxO hO_17 r_25 (r_25).toNat Try.runUnderlying23 Try.sizeOf31 ?_
    intro x_34 b_35 o_36 hx_37 hp_38 hq_39
    have hal_41 := asc_len (by omega) (taskOK_asc (tasksOK_at hztk hx_37)); have hdq_40 := (hD_18 x_34 (List.mem_of_getElem? hx_37)).deps.len
    refine pu1 ?_
    refine sLp hS_33 (hp_38.up 2 rfl) 6 (.slice x_34.deps.a x_34.deps.n x_34.deps.k) (Try.isAgg22 _) ?_
    have hO_42 := OwnT.blk (enc := encI) (sz := 1) (b := b_31) (c := #[]) (E := 3) (xs := []) (fun _ => rfl) 0 rfl rfl rfl (by omega)
    refine sApp (nb := 8) hS_33 hO_42 0 ((hD_18 x_34 (List.mem_of_getElem? hx_37)).deps.up 3 rfl) Try.underlying22 (i := Try.t3) (by kernel_rfl) (fun _ => rfl) ?_
    intro a_43 cap_44 c_45 w_46 hO_47 hS_48
    refine pu3 ?_
    refine sAdd r_25 1 ?_
    refine sBS hS_48 #[.int .i64 r_25, .int .i64 (-1), .int .i64 0, .int .i64 (r_25 + 1)] Try.runUnderlying22 Try.sizeOf3 Try.zeroValue3 ?_
    intro b_49 w_50 hS_51
    have hS_52 := (hS_51.pick 2 rfl)
    refine cX Try.call11 (tape_pick (RdT.flat (ht.up 4 (by rfl))) (by omega) (Sat.flat1 hS_52) (RdT.flat (RdT.blk (enc := encI) (sz := 1) (xs := [r_25, -1, 0, (r_25 + 1)]) (fun _ => (by rfl)) 4 0 rfl rfl rfl (by omega))) (by omega) (by omega)) ?_
    rintro _ w_53 ⟨x_55, rfl, hx_56, i_57, hi_58, hS_54⟩
    have hS_59 := Sat.unflat1 hS_54
    have hx_60 : (x_55 : Int) = r_25 ∨ (x_55 : Int) = (-1) ∨ (x_55 : Int) = 0 ∨ (x_55 : Int) = (r_25 + 1) := by simpa using hx_56
    refine sBS hS_59 #[.int .i64 x_55] Try.runUnderlying22 Try.sizeOf3 Try.zeroValue3 ?_
    intro b_61 w_62 hS_63
    refine sApp (nb := 8) hS_63 hO_47 3 (RdT.blk (enc := encI) (sz := 1) (xs := [x_55]) (fun _ => rfl) 1 0 rfl rfl rfl (by omega)) Try.underlying22 (i := Try.t3) (by kernel_rfl) (fun _ => rfl) ?_
    intro a_64 cap_65 c_66 w_67 hO_68 hS_69
    refine sIdxO hO_17 r_25 (r_25).toNat Try.runUnderlying23 Try.sizeOf31 ?_
    intro x_70 b_71 o_72 hx_73 hp_74 hq_75
    obtain rfl : x_34 = x_70 := Option.some.inj (hx_37.symm.trans hx_73)
    have hal_77 := asc_len (by omega) (taskOK_asc (tasksOK_at hztk hx_73)); have hdq_76 := (hD_18 x_34 (List.mem_of_getElem? hx_73)).deps.len
    refine pu1 ?_
    refine sStF hS_69 hO_17 hq_75 4 (r_25).toNat 6 x_34 (⟨x_34.stage, x_34.part, x_34.rectX0, x_34.rectY0, x_34.rectX1, x_34.rectY1, ⟨a_64, ((0 + x_34.deps.n) + 1), cap_65, (([] ++ x_34.deps.l) ++ [x_55])⟩, x_34.rows, x_34.scratch⟩ : Task) hx_73 (.slice a_64 ((0 + x_34.deps.n) + 1) cap_65) [.slice a_64 ((0 + x_34.deps.n) + 1) cap_65] Try.sizeOf22 ?_
    intro w_78 c_80 hO_81 hS_79
    refine nilO <| blockK_n <| thenK_n <| ?_
    have hS_82 := (((((((hS_79.pick 6 rfl).pick 6 rfl).pick 6 rfl).pick 6 rfl).pick 5 rfl).dropAt 5 rfl).dropAt 5 rfl)
    have hS_83 : Sat W _ ([(p_3, .cells #[.slice t nt kt, .int .i64 i_57] 62 (0, 0))] :: ((c_66 ++ c_80 ++ G_16) ++ H) :: F) := Sat.perm hS_82 (by simp)
    exact ⟨(az_11, nz_12, kz_13, (c_66 ++ c_80 ++ G_16), (zs_14.set ((r_25).toNat) (⟨x_34.stage, x_34.part, x_34.rectX0, x_34.rectY0, x_34.rectX1, x_34.rectY1, ⟨a_64, ((0 + x_34.deps.n) + 1), cap_65, (([] ++ x_34.deps.l) ++ [x_55])⟩, x_34.rows, x_34.scratch⟩ : Task)), i_57), alA, hS_83, ((hO_81.rdAt (cs := [c_80]) 0 rfl).of_mem (fun p hp => by simp at hp ⊢; simp [hp])), (ok_upd (x := (⟨x_34.stage, x_34.part, x_34.rectX0, x_34.rectY0, x_34.rectX1, x_34.rectY1, ⟨a_64, ((0 + x_34.deps.n) + 1), cap_65, (([] ++ x_34.deps.l) ++ [x_55])⟩, x_34.rows, x_34.scratch⟩ : Task)) (fun z hz => (hD_18 z hz).of_mem (fun p hp => by simp at hp ⊢; simp [hp])) ⟨(hO_68.rdAt (cs := [c_66]) 0 rfl).of_mem (fun p hp => by simp at hp ⊢; simp [hp])⟩), by omega⟩
  refine seqE <| regionE <| pu2 <| nilO <| thenK_n <| ?_
  refine cE ((r : Nat) : Int) 2 (fun hc_84 => ?_) (fun hc_84 => ?_)
  rotate_left
  · refine seqE <| regionE <| pu2 <| nilO <| thenK_n <| ?_
    refine cE ((r : Nat) : Int) 3 (fun hc_133 => ?_) (fun hc_133 => ?_)
    · refine regionE <| pu2 <| nilO <| blockK_n <| thenK_n <| ?_
      have hS_134 := ((((hS_29.pick 3 rfl).pick 1 rfl).dropAt 2 rfl).dropAt 2 rfl)
      have hS_135 : Sat W _ ([(p_3, .cells #[.slice t nt kt, .int .i64 i_27] 62 (0, 0))] :: (([] : Chunk) ++ H) :: F) := hS_134
      exact ⟨(l, nl, kl, [], xl, i_27), alA, hS_135, hl, dl, by omega⟩
    refine skipE <| blockK_n <| thenK_n <| ?_
    have hS_136 := ((((hS_29.pick 3 rfl).pick 3 rfl).pick 3 rfl).pick 3 rfl)
    have hS_137 : Sat W _ ([(p_3, .cells #[.slice t nt kt, .int .i64 i_27] 62 (0, 0))] :: ((C_15 ++ G_16) ++ H) :: F) := Sat.perm hS_136 (by simp)
    exact ⟨(az_11, nz_12, kz_13, (C_15 ++ G_16), zs_14, i_27), alA, hS_137, ((hO_17.rdAt (cs := [C_15]) 0 rfl).of_mem (fun p hp => by simp at hp ⊢; simp [hp])), (fun z hz => (hD_18 z hz).of_mem (fun p hp => by simp at hp ⊢; simp [hp])), by omega⟩
  refine regionE <| pu5 ?_
  refine sBS hS_29 #[.int .i64 0, .int .i64 1, .int .i64 128, .int .i64 129, .int .i64 (-1)] Try.runUnderlying22 Try.sizeOf3 Try.zeroValue3 ?_
  intro b_85 w_86 hS_87
  have hS_88 := (hS_87.pick 1 rfl)
  refine cX Try.call11 (tape_pick (RdT.flat (ht.up 3 (by rfl))) (by omega) (Sat.flat1 hS_88) (RdT.flat (RdT.blk (enc := encI) (sz := 1) (xs := [0, 1, 128, 129, -1]) (fun _ => (by rfl)) 5 0 rfl rfl rfl (by omega))) (by omega) (by omega)) ?_
  rintro _ w_89 ⟨x_91, rfl, hx_92, i_93, hi_94, hS_90⟩
  have hS_95 := Sat.unflat1 hS_90
  have hx_96 : (x_91 : Int) = 0 ∨ (x_91 : Int) = 1 ∨ (x_91 : Int) = 128 ∨ (x_91 : Int) = 129 ∨ (x_91 : Int) = (-1) := by simpa using hx_92
  refine pu1 ?_
  refine sBS hS_95 #[.int .i64 0, .int .i64 (-1), .int .i64 1099511627776] Try.runUnderlying22 Try.sizeOf3 Try.zeroValue3 ?_
  intro b_97 w_98 hS_99
  have hS_100 := (hS_99.pick 1 rfl)
  refine cX Try.call11 (tape_pick (RdT.flat (ht.up 4 (by rfl))) (by omega) (Sat.flat1 hS_100) (RdT.flat (RdT.blk (enc := encI) (sz := 1) (xs := [0, -1, 1099511627776]) (fun _ => (by rfl)) 3 0 rfl rfl rfl (by omega))) (by omega) (by omega)) ?_
  rintro _ w_101 ⟨x_103, rfl, hx_104, i_105, hi_106, hS_102⟩
  have hS_107 := Sat.unflat1 hS_102
  have hx_108 : (x_103 : Int) = 0 ∨ (x_103 : Int) = (-1) ∨ (x_103 : Int) = 1099511627776 := by simpa using hx_104
  refine sIdxO hO_17 r_25 (r_25).toNat Try.runUnderlying23 Try.sizeOf31 ?_
  intro x_109 b_110 o_111 hx_112 hp_113 hq_114
  have hal_116 := asc_len (by omega) (taskOK_asc (tasksOK_at hztk hx_112)); have hdq_115 := (hD_18 x_109 (List.mem_of_getElem? hx_112)).deps.len
  refine pu1 ?_
  refine sStF hS_107 hO_17 hq_114 3 (r_25).toNat 7 x_109 (⟨x_109.stage, x_109.part, x_109.rectX0, x_109.rectY0, x_109.rectX1, x_109.rectY1, x_109.deps, x_91, x_109.scratch⟩ : Task) hx_112 (.int .i64 x_91) [.int .i64 x_91] Try.sizeOf3 ?_
  intro w_117 c_119 hO_120 hS_118
  refine sIdxO hO_120 r_25 (r_25).toNat Try.runUnderlying23 Try.sizeOf31 ?_
  intro x_121 b_122 o_123 hx_124 hp_125 hq_126
  refine pu1 ?_
  refine sStF hS_118 hO_120 hq_126 3 (r_25).toNat 8 x_121 (⟨x_121.stage, x_121.part, x_121.rectX0, x_121.rectY0, x_121.rectX1, x_121.rectY1, x_121.deps, x_121.rows, x_103⟩ : Task) hx_124 (.int .i64 x_103) [.int .i64 x_103] Try.sizeOf3 ?_
  intro w_127 c_129 hO_130 hS_128
  refine nilO <| blockK_n <| thenK_n <| ?_
  have hS_131 := ((((((hS_128.pick 5 rfl).pick 5 rfl).pick 5 rfl).pick 3 rfl).dropAt 4 rfl).dropAt 4 rfl)
  have hS_132 : Sat W _ ([(p_3, .cells #[.slice t nt kt, .int .i64 i_105] 62 (0, 0))] :: ((c_129 ++ G_16) ++ H) :: F) := Sat.perm hS_131 (by simp)
  exact ⟨(az_11, nz_12, kz_13, (c_129 ++ G_16), ((zs_14.set ((r_25).toNat) (⟨x_109.stage, x_109.part, x_109.rectX0, x_109.rectY0, x_109.rectX1, x_109.rectY1, x_109.deps, x_91, x_109.scratch⟩ : Task)).set ((r_25).toNat) (⟨x_121.stage, x_121.part, x_121.rectX0, x_121.rectY0, x_121.rectX1, x_121.rectY1, x_121.deps, x_121.rows, x_103⟩ : Task)), i_105), alA, hS_132, ((hO_130.rdAt (cs := [c_129]) 0 rfl).of_mem (fun p hp => by simp at hp ⊢; simp [hp])), (ok_upd (x := (⟨x_121.stage, x_121.part, x_121.rectX0, x_121.rectY0, x_121.rectX1, x_121.rectY1, x_121.deps, x_121.rows, x_103⟩ : Task)) (ok_upd (x := (⟨x_109.stage, x_109.part, x_109.rectX0, x_109.rectY0, x_109.rectX1, x_109.rectY1, x_109.deps, x_91, x_109.scratch⟩ : Task)) (fun z hz => (hD_18 z hz).of_mem (fun p hp => by simp at hp ⊢; simp [hp])) ⟨((fun z hz => (hD_18 z hz).of_mem (fun p hp => by simp at hp ⊢; simp [hp])) x_109 (List.mem_of_getElem? hx_112)).deps⟩) ⟨((ok_upd (x := (⟨x_109.stage, x_109.part, x_109.rectX0, x_109.rectY0, x_109.rectX1, x_109.rectY1, x_109.deps, x_91, x_109.scratch⟩ : Task)) (fun z hz => (hD_18 z hz).of_mem (fun p hp => by simp at hp ⊢; simp [hp])) ⟨((fun z hz => (hD_18 z hz).of_mem (fun p hp => by simp at hp ⊢; simp [hp])) x_109 (List.mem_of_getElem? hx_112)).deps⟩) x_121 (List.mem_of_getElem? hx_124)).deps⟩), by omega⟩
end Go.Proofs.Ytimkhljglpookaa
