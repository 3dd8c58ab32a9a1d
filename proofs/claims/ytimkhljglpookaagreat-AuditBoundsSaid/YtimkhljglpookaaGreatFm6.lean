import Derived.Test.YtimkhljglpookaaGreatFm5
namespace Go.Proofs.YtimkhljglpookaaGreat
open Go Go.E
set_option linter.unusedVariables false
set_option linter.unusedSimpArgs false
set_option linter.unnecessarySimpa false
set_option maxRecDepth 100000
set_option maxHeartbeats 2000000
variable {W w : World} {H : Chunk} {F : List Chunk}

def validCfg (c : Cfg) : Int := if (1 ≤ c.workers ∧ c.workers ≤ 64) ∧ (1 ≤ c.tileW ∧ c.tileW ≤ 64) ∧ (1 ≤ c.tileH ∧ c.tileH ≤ 64) ∧ (0 ≤ c.arena ∧ c.arena ≤ 1048576) ∧ (1 ≤ c.deque ∧ c.deque ≤ 256) ∧ (1 ≤ c.tasks ∧ c.tasks ≤ 4096) ∧ (1 ≤ c.cells ∧ c.cells ≤ 1048576) ∧ (1 ≤ c.jobs ∧ c.jobs ≤ 64) then 0 else 2
theorem validCfg_zero {c : Cfg} (h : validCfg c = 0) : (1 ≤ c.workers ∧ c.workers ≤ 64) ∧ (1 ≤ c.tileW ∧ c.tileW ≤ 64) ∧ (1 ≤ c.tileH ∧ c.tileH ≤ 64) ∧ (0 ≤ c.arena ∧ c.arena ≤ 1048576) ∧ (1 ≤ c.deque ∧ c.deque ≤ 256) ∧ (1 ≤ c.tasks ∧ c.tasks ≤ 4096) ∧ (1 ≤ c.cells ∧ c.cells ≤ 1048576) ∧ (1 ≤ c.jobs ∧ c.jobs ≤ 64) := by
  unfold validCfg at h
  split at h
  · assumption
  · omega
def newF (c : Cfg) : FS := ⟨c, List.replicate c.workers.toNat ⟨0, 0, 0, 0, 0, 0, 0⟩, List.replicate c.workers.toNat ⟨c.arena, 0, 0, []⟩, List.replicate c.workers.toNat ⟨c.deque, []⟩, ⟨c.tasks, [[], [], [], []]⟩, List.replicate 64 JS.zero, ⟨0, 0, 0, 0, 0, 0, 0, 0, 0, 0⟩⟩
def xZ : FJob := ⟨false, false, 0, ⟨none, 0, 0, []⟩, none⟩
theorem rep_at {α : Type} {n i : Nat} {a x : α} (h : (List.replicate n a)[i]? = some x) : x = a := by
  rw [List.getElem?_replicate] at h
  split at h
  · exact (Option.some.inj h).symm
  · cases h
theorem obs_zero : Obs JobM (List.replicate 64 xZ) (List.replicate 64 JS.zero) (List.replicate 64 ([] : Chunk)) := by
  refine ⟨by simp, by simp, ?_⟩
  intro i p s c h1 h2 h3
  obtain rfl := rep_at h1
  obtain rfl := rep_at h2
  obtain rfl := rep_at h3
  exact .inl ⟨rfl, rfl, rfl⟩
theorem newF_ok {c : Cfg} (h : validCfg c = 0) : FW (newF c) 0 ∧ StOk (newF c).st 0 := by
  obtain ⟨h1, _⟩ := validCfg_zero h
  refine ⟨⟨?_, ?_, ?_, ?_, ⟨by decide, by decide⟩, ?_, ?_, ?_, ?_⟩, ?_⟩
  · simp only [newF, List.length_replicate]; omega
  · simp only [newF, List.length_replicate]
  · simp only [newF, List.length_replicate]
  · simp only [newF, List.length_replicate]
  · intro j hj
    obtain rfl := List.eq_of_mem_replicate hj
    exact ⟨by simp [JS.zero], (fun h => by cases h), (fun h => by cases h)⟩
  · intro v hv
    obtain rfl := List.eq_of_mem_replicate hv
    exact ⟨⟨Int.le_refl 0, show (0 : Int) < 64 by decide⟩, ⟨Int.le_refl 0, Int.le_refl 0⟩, fun h => by dsimp only at h; omega⟩
  · intro d hd
    obtain rfl := List.eq_of_mem_replicate hd
    intro r hr; cases hr
  · intro l hl r hr
    simp only [newF] at hl
    simp at hl
    subst hl; cases hr
  · constructor <;> (simp only [newF]; decide)
theorem r26_in (n : Int) (a : Int) (b : Int) (hS : Sat W w (H :: F)) :
    Ro Tryz.prog 63 #[.int .i64 n, .int .i64 a, .int .i64 b] (.bool (decide ((a ≤ n ∧ n ≤ b)))) W w (H :: F) := by
  refine callsA 15 Tryz.func63 rfl ?_
  refine seqE <| regionE <| pu1 <| nilO <| thenK_n <| seqE <| regionE <| pu4 ?_
  refine sD 10 (n ≥ a) (fun hc_1 => ?_) (fun hc_1 => ?_)
  rotate_left
  · refine pu5 <| nilO <| thenK_n <| retE <| retT [.bool false] <| ?_
    exact ⟨congrArg (fun b => Ending.returned (.bool b)) ((decide_eq_false (by omega)).symm), hS⟩
  refine pu5 <| nilO <| thenK_n <| retE <| retT [.bool (decide ((n : Int) ≤ b))] <| ?_
  exact ⟨congrArg (fun b => Ending.returned (.bool b)) (by rw [Bool.eq_iff_iff]; simp only [decide_eq_true_eq, ge_iff_le]; omega), hS⟩
theorem r26_valid (c : Cfg) (hS : Sat W w (H :: F)) :
    Ro Tryz.prog 31 #[.agg (encCfg c).toArray] (.int .i64 (validCfg c)) W w (H :: F) := by
  refine callsA 41 Tryz.func31 rfl ?_
  refine seqE <| regionE ?_
  refine sBox hS (.agg (encCfg c).toArray) (encCfg c).toArray ?_
  intro b_1 w_2 hS_3
  refine pu1 <| nilO <| thenK_n <| seqE <| seqE <| regionE <| pu1 ?_
  refine sL hS_3 0 0 (.int .i64 c.workers) (Tryz.isAgg3 _) ?_
  refine cR Tryz.call63 (r26_in c.workers 1 64 (Sat.flat hS_3)) ?_
  intro w_4 hS_5
  refine pu1 ?_
  refine sD 6 ((1 ≤ c.workers ∧ c.workers ≤ 64)) (fun hc_7 => ?_) (fun hc_7 => ?_)
  rotate_left
  · refine pu16 <| pu16 <| pu2 <| nilO <| thenK_n <| cFf <| skipE <| thenK_n <| seqE <| regionE <| pu1 <| nilO <| thenK_n <| retE <| retT [.int .i64 2] <| ?_
    have hS_44 := (hS_5.dropAt 0 rfl)
    exact ⟨congrArg (fun z => Ending.returned (.int .i64 z)) (by unfold validCfg; rw [if_neg (by omega)]), hS_44⟩
  refine pu1 <| gY ?_
  refine sL hS_5 0 1 (.int .i64 c.tileW) (Tryz.isAgg3 _) ?_
  refine gY ?_
  refine cR Tryz.call63 (r26_in c.tileW 1 64 (Sat.flat hS_5)) ?_
  intro w_8 hS_9
  refine pu2 ?_
  refine sD 11 ((1 ≤ c.tileW ∧ c.tileW ≤ 64)) (fun hc_11 => ?_) (fun hc_11 => ?_)
  rotate_left
  · refine pu16 <| pu13 <| nilO <| thenK_n <| cFf <| skipE <| thenK_n <| seqE <| regionE <| pu1 <| nilO <| thenK_n <| retE <| retT [.int .i64 2] <| ?_
    have hS_43 := (hS_9.dropAt 0 rfl)
    exact ⟨congrArg (fun z => Ending.returned (.int .i64 z)) (by unfold validCfg; rw [if_neg (by omega)]), hS_43⟩
  refine pu1 <| gY ?_
  refine sL hS_9 0 2 (.int .i64 c.tileH) (Tryz.isAgg3 _) ?_
  refine gY ?_
  refine cR Tryz.call63 (r26_in c.tileH 1 64 (Sat.flat hS_9)) ?_
  intro w_12 hS_13
  refine pu2 ?_
  refine sD 16 ((1 ≤ c.tileH ∧ c.tileH ≤ 64)) (fun hc_15 => ?_) (fun hc_15 => ?_)
  rotate_left
  · refine pu16 <| pu8 <| nilO <| thenK_n <| cFf <| skipE <| thenK_n <| seqE <| regionE <| pu1 <| nilO <| thenK_n <| retE <| retT [.int .i64 2] <| ?_
    have hS_42 := (hS_13.dropAt 0 rfl)
    exact ⟨congrArg (fun z => Ending.returned (.int .i64 z)) (by unfold validCfg; rw [if_neg (by omega)]), hS_42⟩
  refine pu1 <| gY ?_
  refine sL hS_13 0 3 (.int .i64 c.arena) (Tryz.isAgg3 _) ?_
  refine gY ?_
  refine cR Tryz.call63 (r26_in c.arena 0 1048576 (Sat.flat hS_13)) ?_
  intro w_16 hS_17
  refine pu2 ?_
  refine sD 21 ((0 ≤ c.arena ∧ c.arena ≤ 1048576)) (fun hc_19 => ?_) (fun hc_19 => ?_)
  rotate_left
  · refine pu16 <| pu3 <| nilO <| thenK_n <| cFf <| skipE <| thenK_n <| seqE <| regionE <| pu1 <| nilO <| thenK_n <| retE <| retT [.int .i64 2] <| ?_
    have hS_41 := (hS_17.dropAt 0 rfl)
    exact ⟨congrArg (fun z => Ending.returned (.int .i64 z)) (by unfold validCfg; rw [if_neg (by omega)]), hS_41⟩
  refine pu1 <| gY ?_
  refine sL hS_17 0 4 (.int .i64 c.deque) (Tryz.isAgg3 _) ?_
  refine gY ?_
  refine cR Tryz.call63 (r26_in c.deque 1 256 (Sat.flat hS_17)) ?_
  intro w_20 hS_21
  refine pu2 ?_
  refine sD 26 ((1 ≤ c.deque ∧ c.deque ≤ 256)) (fun hc_23 => ?_) (fun hc_23 => ?_)
  rotate_left
  · refine pu14 <| nilO <| thenK_n <| cFf <| skipE <| thenK_n <| seqE <| regionE <| pu1 <| nilO <| thenK_n <| retE <| retT [.int .i64 2] <| ?_
    have hS_40 := (hS_21.dropAt 0 rfl)
    exact ⟨congrArg (fun z => Ending.returned (.int .i64 z)) (by unfold validCfg; rw [if_neg (by omega)]), hS_40⟩
  refine pu1 <| gY ?_
  refine sL hS_21 0 5 (.int .i64 c.tasks) (Tryz.isAgg3 _) ?_
  refine gY ?_
  refine cR Tryz.call63 (r26_in c.tasks 1 4096 (Sat.flat hS_21)) ?_
  intro w_24 hS_25
  refine pu2 ?_
  refine sD 31 ((1 ≤ c.tasks ∧ c.tasks ≤ 4096)) (fun hc_27 => ?_) (fun hc_27 => ?_)
  rotate_left
  · refine pu9 <| nilO <| thenK_n <| cFf <| skipE <| thenK_n <| seqE <| regionE <| pu1 <| nilO <| thenK_n <| retE <| retT [.int .i64 2] <| ?_
    have hS_39 := (hS_25.dropAt 0 rfl)
    exact ⟨congrArg (fun z => Ending.returned (.int .i64 z)) (by unfold validCfg; rw [if_neg (by omega)]), hS_39⟩
  refine pu1 <| gY ?_
  refine sL hS_25 0 6 (.int .i64 c.cells) (Tryz.isAgg3 _) ?_
  refine gY ?_
  refine cR Tryz.call63 (r26_in c.cells 1 1048576 (Sat.flat hS_25)) ?_
  intro w_28 hS_29
  refine pu2 ?_
  refine sD 36 ((1 ≤ c.cells ∧ c.cells ≤ 1048576)) (fun hc_31 => ?_) (fun hc_31 => ?_)
  rotate_left
  · refine pu4 <| nilO <| thenK_n <| cFf <| skipE <| thenK_n <| seqE <| regionE <| pu1 <| nilO <| thenK_n <| retE <| retT [.int .i64 2] <| ?_
    have hS_38 := (hS_29.dropAt 0 rfl)
    exact ⟨congrArg (fun z => Ending.returned (.int .i64 z)) (by unfold validCfg; rw [if_neg (by omega)]), hS_38⟩
  refine pu1 <| gY ?_
  refine sL hS_29 0 7 (.int .i64 c.jobs) (Tryz.isAgg3 _) ?_
  refine gY ?_
  refine cR Tryz.call63 (r26_in c.jobs 1 64 (Sat.flat hS_29)) ?_
  intro w_32 hS_33
  refine pu1 <| nilO <| thenK_n <| ?_
  refine cD ((1 ≤ c.jobs ∧ c.jobs ≤ 64)) (fun hc_35 => ?_) (fun hc_35 => ?_)
  · refine seqE <| regionE <| pu1 <| nilO <| thenK_n <| retE <| thenK_r <| retT [.int .i64 0] <| ?_
    have hS_36 := (hS_33.dropAt 0 rfl)
    exact ⟨congrArg (fun z => Ending.returned (.int .i64 z)) (by unfold validCfg; rw [if_pos (by omega)]), hS_36⟩
  refine skipE <| thenK_n <| seqE <| regionE <| pu1 <| nilO <| thenK_n <| retE <| retT [.int .i64 2] <| ?_
  have hS_37 := (hS_33.dropAt 0 rfl)
  exact ⟨congrArg (fun z => Ending.returned (.int .i64 z)) (by unfold validCfg; rw [if_neg (by omega)]), hS_37⟩
theorem f_new {cs : List Chunk} (c : Cfg) (hv : validCfg c = 0) (hS : Sat W w cs) :
    Calls Tryz.prog 17 #[.agg (encCfg c).toArray] w fun e w' => ∃ (p : Nat) (M : Chunk), e = .returned (.tuple #[.pointer (some ⟨p, 0, none⟩), .int .i64 0]) ∧ FarmR p (newF c) M ∧ Sat W w' (M :: cs) := by
  have hvc := validCfg_zero hv
  refine callsA 70 Tryz.func17 rfl ?_
  refine seqE <| regionE ?_
  refine sBox hS (.agg (encCfg c).toArray) (encCfg c).toArray ?_
  intro b_1 w_2 hS_3
  refine pu2 <| nilO <| thenK_n <| seqE <| seqE <| regionE ?_
  refine lA hS_3 0 0 8 (Tryz.isAgg24 _) (Tryz.sizeOf24 _) ?_
  refine cR Tryz.call31 (r26_valid c (Sat.flat hS_3)) ?_
  intro w_4 hS_5
  refine pu1 <| nilO <| thenK_n <| seqE <| regionE <| pu2 <| nilO <| thenK_n <| ?_
  have hc_7 : ((validCfg c) : Int) = 0 := hv
  refine cF _ (bne_eq_false_iff_eq.2 hc_7) ?_
  refine skipE <| thenK_n <| seqE ?_
  refine drawE [3, 5] [(0, ⟨b_1, 0, none⟩, .int .i64 c.workers), (0, ⟨b_1, 1, none⟩, .int .i64 c.tileW), (0, ⟨b_1, 2, none⟩, .int .i64 c.tileH), (0, ⟨b_1, 3, none⟩, .int .i64 c.arena), (0, ⟨b_1, 4, none⟩, .int .i64 c.deque), (0, ⟨b_1, 5, none⟩, .int .i64 c.tasks), (0, ⟨b_1, 6, none⟩, .int .i64 c.cells), (0, ⟨b_1, 7, none⟩, .int .i64 c.jobs), (2, ⟨b_1, 0, none⟩, .int .i64 c.workers)] [(true, [1]), (true, [0]), (true, [2]), (false, [3]), (true, [4]), (false, [5]), (true, [6])] rfl (by kernel_rfl) ⟨.inr (hS_5.cell 0 rfl rfl), .inr (hS_5.cell 0 rfl rfl), .inr (hS_5.cell 0 rfl rfl), .inr (hS_5.cell 0 rfl rfl), .inr (hS_5.cell 0 rfl rfl), .inr (hS_5.cell 0 rfl rfl), .inr (hS_5.cell 0 rfl rfl), .inr (hS_5.cell 0 rfl rfl), .inr (hS_5.cell 0 rfl rfl), trivial⟩ ?_
  have hS_8 := hS_5.drew
  refine wU [1] ?_
  refine wY (.agg (encCfg c).toArray) rfl (fun w hF => Y_loadF rfl (Tryz.isAgg24 w) (Tryz.sizeOf24 w) (by kernel_rfl) rfl ⟨hF 0 _ _ rfl, hF 1 _ _ rfl, hF 2 _ _ rfl, hF 3 _ _ rfl, hF 4 _ _ rfl, hF 5 _ _ rfl, hF 6 _ _ rfl, hF 7 _ _ rfl, trivial⟩) ?_
  refine wLd (.int .i64 c.workers) 8 Tryz.isAgg3 ?_
  refine wO rfl ?_
  refine sMake (kl := .i64) (kc := .i64) (enc := encWkr) (sz := 7) (nb := 56) hS_8 ⟨0, 0, 0, 0, 0, 0, 0⟩ (c.workers).toNat c.workers ((by omega) : c.workers = (((c.workers).toNat : Nat) : Int)) Tryz.underlying77 (i := Tryz.t101) (by kernel_rfl) (fun _ => rfl) ?_
  intro b_9 c_10 w_12 hO_11 hS_13
  refine nilO ⟨⟨.inr (hS_13.cell 1 rfl rfl), .inr (hS_13.cell 1 rfl rfl), .inr (hS_13.cell 1 rfl rfl), .inr (hS_13.cell 1 rfl rfl), .inr (hS_13.cell 1 rfl rfl), .inr (hS_13.cell 1 rfl rfl), .inr (hS_13.cell 1 rfl rfl), .inr (hS_13.cell 1 rfl rfl), .inl (by kernel_rfl), trivial⟩, ?_⟩
  refine wU [4] ?_
  refine wO rfl ?_
  refine sBox hS_13 (.agg #[.int .i64 c.workers, .int .i64 c.tileW, .int .i64 c.tileH, .int .i64 c.arena, .int .i64 c.deque, .int .i64 c.tasks, .int .i64 c.cells, .int .i64 c.jobs, .slice (some ⟨b_9, 0, none⟩) ((c.workers).toNat) ((c.workers).toNat), .slice none 0 0, .slice none 0 0, .pointer none, .bool false, .bool false, .int .i64 0, .slice none 0 0, .pointer none, .bool false, .bool false, .int .i64 0, .slice none 0 0, .pointer none, .bool false, .bool false, .int .i64 0, .slice none 0 0, .pointer none, .bool false, .bool false, .int .i64 0, .slice none 0 0, .pointer none, .bool false, .bool false, .int .i64 0, .slice none 0 0, .pointer none, .bool false, .bool false, .int .i64 0, .slice none 0 0, .pointer none, .bool false, .bool false, .int .i64 0, .slice none 0 0, .pointer none, .bool false, .bool false, .int .i64 0, .slice none 0 0, .pointer none, .bool false, .bool false, .int .i64 0, .slice none 0 0, .pointer none, .bool false, .bool false, .int .i64 0, .slice none 0 0, .pointer none, .bool false, .bool false, .int .i64 0, .slice none 0 0, .pointer none, .bool false, .bool false, .int .i64 0, .slice none 0 0, .pointer none, .bool false, .bool false, .int .i64 0, .slice none 0 0, .pointer none, .bool false, .bool false, .int .i64 0, .slice none 0 0, .pointer none, .bool false, .bool false, .int .i64 0, .slice none 0 0, .pointer none, .bool false, .bool false, .int .i64 0, .slice none 0 0, .pointer none, .bool false, .bool false, .int .i64 0, .slice none 0 0, .pointer none, .bool false, .bool false, .int .i64 0, .slice none 0 0, .pointer none, .bool false, .bool false, .int .i64 0, .slice none 0 0, .pointer none, .bool false, .bool false, .int .i64 0, .slice none 0 0, .pointer none, .bool false, .bool false, .int .i64 0, .slice none 0 0, .pointer none, .bool false, .bool false, .int .i64 0, .slice none 0 0, .pointer none, .bool false, .bool false, .int .i64 0, .slice none 0 0, .pointer none, .bool false, .bool false, .int .i64 0, .slice none 0 0, .pointer none, .bool false, .bool false, .int .i64 0, .slice none 0 0, .pointer none, .bool false, .bool false, .int .i64 0, .slice none 0 0, .pointer none, .bool false, .bool false, .int .i64 0, .slice none 0 0, .pointer none, .bool false, .bool false, .int .i64 0, .slice none 0 0, .pointer none, .bool false, .bool false, .int .i64 0, .slice none 0 0, .pointer none, .bool false, .bool false, .int .i64 0, .slice none 0 0, .pointer none, .bool false, .bool false, .int .i64 0, .slice none 0 0, .pointer none, .bool false, .bool false, .int .i64 0, .slice none 0 0, .pointer none, .bool false, .bool false, .int .i64 0, .slice none 0 0, .pointer none, .bool false, .bool false, .int .i64 0, .slice none 0 0, .pointer none, .bool false, .bool false, .int .i64 0, .slice none 0 0, .pointer none, .bool false, .bool false, .int .i64 0, .slice none 0 0, .pointer none, .bool false, .bool false, .int .i64 0, .slice none 0 0, .pointer none, .bool false, .bool false, .int .i64 0, .slice none 0 0, .pointer none, .bool false, .bool false, .int .i64 0, .slice none 0 0, .pointer none, .bool false, .bool false, .int .i64 0, .slice none 0 0, .pointer none, .bool false, .bool false, .int .i64 0, .slice none 0 0, .pointer none, .bool false, .bool false, .int .i64 0, .slice none 0 0, .pointer none, .bool false, .bool false, .int .i64 0, .slice none 0 0, .pointer none, .bool false, .bool false, .int .i64 0, .slice none 0 0, .pointer none, .bool false, .bool false, .int .i64 0, .slice none 0 0, .pointer none, .bool false, .bool false, .int .i64 0, .slice none 0 0, .pointer none, .bool false, .bool false, .int .i64 0, .slice none 0 0, .pointer none, .bool false, .bool false, .int .i64 0, .slice none 0 0, .pointer none, .bool false, .bool false, .int .i64 0, .slice none 0 0, .pointer none, .bool false, .bool false, .int .i64 0, .slice none 0 0, .pointer none, .bool false, .bool false, .int .i64 0, .slice none 0 0, .pointer none, .bool false, .bool false, .int .i64 0, .slice none 0 0, .pointer none, .bool false, .bool false, .int .i64 0, .slice none 0 0, .pointer none, .bool false, .bool false, .int .i64 0, .slice none 0 0, .pointer none, .bool false, .bool false, .int .i64 0, .slice none 0 0, .pointer none, .bool false, .bool false, .int .i64 0, .slice none 0 0, .pointer none, .bool false, .bool false, .int .i64 0, .slice none 0 0, .pointer none, .bool false, .bool false, .int .i64 0, .slice none 0 0, .pointer none, .bool false, .bool false, .int .i64 0, .slice none 0 0, .pointer none, .bool false, .bool false, .int .i64 0, .slice none 0 0, .pointer none, .bool false, .bool false, .int .i64 0, .slice none 0 0, .pointer none, .bool false, .bool false, .int .i64 0, .slice none 0 0, .pointer none, .bool false, .bool false, .int .i64 0, .slice none 0 0, .pointer none, .bool false, .bool false, .int .i64 0, .slice none 0 0, .pointer none, .int .i64 0, .int .i64 0, .int .i64 0, .int .i64 0, .int .i64 0, .int .i64 0, .int .i64 0, .int .i64 0, .int .i64 0, .int .i64 0]) #[.int .i64 c.workers, .int .i64 c.tileW, .int .i64 c.tileH, .int .i64 c.arena, .int .i64 c.deque, .int .i64 c.tasks, .int .i64 c.cells, .int .i64 c.jobs, .slice (some ⟨b_9, 0, none⟩) ((c.workers).toNat) ((c.workers).toNat), .slice none 0 0, .slice none 0 0, .pointer none, .bool false, .bool false, .int .i64 0, .slice none 0 0, .pointer none, .bool false, .bool false, .int .i64 0, .slice none 0 0, .pointer none, .bool false, .bool false, .int .i64 0, .slice none 0 0, .pointer none, .bool false, .bool false, .int .i64 0, .slice none 0 0, .pointer none, .bool false, .bool false, .int .i64 0, .slice none 0 0, .pointer none, .bool false, .bool false, .int .i64 0, .slice none 0 0, .pointer none, .bool false, .bool false, .int .i64 0, .slice none 0 0, .pointer none, .bool false, .bool false, .int .i64 0, .slice none 0 0, .pointer none, .bool false, .bool false, .int .i64 0, .slice none 0 0, .pointer none, .bool false, .bool false, .int .i64 0, .slice none 0 0, .pointer none, .bool false, .bool false, .int .i64 0, .slice none 0 0, .pointer none, .bool false, .bool false, .int .i64 0, .slice none 0 0, .pointer none, .bool false, .bool false, .int .i64 0, .slice none 0 0, .pointer none, .bool false, .bool false, .int .i64 0, .slice none 0 0, .pointer none, .bool false, .bool false, .int .i64 0, .slice none 0 0, .pointer none, .bool false, .bool false, .int .i64 0, .slice none 0 0, .pointer none, .bool false, .bool false, .int .i64 0, .slice none 0 0, .pointer none, .bool false, .bool false, .int .i64 0, .slice none 0 0, .pointer none, .bool false, .bool false, .int .i64 0, .slice none 0 0, .pointer none, .bool false, .bool false, .int .i64 0, .slice none 0 0, .pointer none, .bool false, .bool false, .int .i64 0, .slice none 0 0, .pointer none, .bool false, .bool false, .int .i64 0, .slice none 0 0, .pointer none, .bool false, .bool false, .int .i64 0, .slice none 0 0, .pointer none, .bool false, .bool false, .int .i64 0, .slice none 0 0, .pointer none, .bool false, .bool false, .int .i64 0, .slice none 0 0, .pointer none, .bool false, .bool false, .int .i64 0, .slice none 0 0, .pointer none, .bool false, .bool false, .int .i64 0, .slice none 0 0, .pointer none, .bool false, .bool false, .int .i64 0, .slice none 0 0, .pointer none, .bool false, .bool false, .int .i64 0, .slice none 0 0, .pointer none, .bool false, .bool false, .int .i64 0, .slice none 0 0, .pointer none, .bool false, .bool false, .int .i64 0, .slice none 0 0, .pointer none, .bool false, .bool false, .int .i64 0, .slice none 0 0, .pointer none, .bool false, .bool false, .int .i64 0, .slice none 0 0, .pointer none, .bool false, .bool false, .int .i64 0, .slice none 0 0, .pointer none, .bool false, .bool false, .int .i64 0, .slice none 0 0, .pointer none, .bool false, .bool false, .int .i64 0, .slice none 0 0, .pointer none, .bool false, .bool false, .int .i64 0, .slice none 0 0, .pointer none, .bool false, .bool false, .int .i64 0, .slice none 0 0, .pointer none, .bool false, .bool false, .int .i64 0, .slice none 0 0, .pointer none, .bool false, .bool false, .int .i64 0, .slice none 0 0, .pointer none, .bool false, .bool false, .int .i64 0, .slice none 0 0, .pointer none, .bool false, .bool false, .int .i64 0, .slice none 0 0, .pointer none, .bool false, .bool false, .int .i64 0, .slice none 0 0, .pointer none, .bool false, .bool false, .int .i64 0, .slice none 0 0, .pointer none, .bool false, .bool false, .int .i64 0, .slice none 0 0, .pointer none, .bool false, .bool false, .int .i64 0, .slice none 0 0, .pointer none, .bool false, .bool false, .int .i64 0, .slice none 0 0, .pointer none, .bool false, .bool false, .int .i64 0, .slice none 0 0, .pointer none, .bool false, .bool false, .int .i64 0, .slice none 0 0, .pointer none, .bool false, .bool false, .int .i64 0, .slice none 0 0, .pointer none, .bool false, .bool false, .int .i64 0, .slice none 0 0, .pointer none, .bool false, .bool false, .int .i64 0, .slice none 0 0, .pointer none, .bool false, .bool false, .int .i64 0, .slice none 0 0, .pointer none, .bool false, .bool false, .int .i64 0, .slice none 0 0, .pointer none, .bool false, .bool false, .int .i64 0, .slice none 0 0, .pointer none, .bool false, .bool false, .int .i64 0, .slice none 0 0, .pointer none, .bool false, .bool false, .int .i64 0, .slice none 0 0, .pointer none, .bool false, .bool false, .int .i64 0, .slice none 0 0, .pointer none, .bool false, .bool false, .int .i64 0, .slice none 0 0, .pointer none, .bool false, .bool false, .int .i64 0, .slice none 0 0, .pointer none, .bool false, .bool false, .int .i64 0, .slice none 0 0, .pointer none, .bool false, .bool false, .int .i64 0, .slice none 0 0, .pointer none, .bool false, .bool false, .int .i64 0, .slice none 0 0, .pointer none, .bool false, .bool false, .int .i64 0, .slice none 0 0, .pointer none, .int .i64 0, .int .i64 0, .int .i64 0, .int .i64 0, .int .i64 0, .int .i64 0, .int .i64 0, .int .i64 0, .int .i64 0, .int .i64 0] ?_
  intro b_14 w_15 hS_16
  refine nilO ⟨⟨.inr (hS_16.cell 2 rfl rfl), .inr (hS_16.cell 2 rfl rfl), .inr (hS_16.cell 2 rfl rfl), .inr (hS_16.cell 2 rfl rfl), .inr (hS_16.cell 2 rfl rfl), .inr (hS_16.cell 2 rfl rfl), .inr (hS_16.cell 2 rfl rfl), .inr (hS_16.cell 2 rfl rfl), .inl (by kernel_rfl), trivial⟩, ?_⟩
  refine wU [6] ?_
  refine wN ?_
  have hS_17 : Sat W _ ((Tri b_14 86 [.int .i64 c.workers, .int .i64 c.tileW, .int .i64 c.tileH, .int .i64 c.arena, .int .i64 c.deque, .int .i64 c.tasks, .int .i64 c.cells, .int .i64 c.jobs, .slice (some ⟨b_9, 0, none⟩) ((c.workers).toNat) ((c.workers).toNat), .slice none 0 0, .slice none 0 0, .pointer none] ((List.replicate 64 xZ).flatMap encFJob) [.int .i64 0, .int .i64 0, .int .i64 0, .int .i64 0, .int .i64 0, .int .i64 0, .int .i64 0, .int .i64 0, .int .i64 0, .int .i64 0]) :: c_10 :: [(b_1, .cells (encCfg c).toArray 24 (0, 0))] :: cs) := hS_16
  refine thenK_n <| seqE <| seqE <| regionE <| pu1 <| nilO <| thenK_n <| blockE ?_
  have hS_18 : Sat W _ ((Tri b_14 86 [.int .i64 c.workers, .int .i64 c.tileW, .int .i64 c.tileH, .int .i64 c.arena, .int .i64 c.deque, .int .i64 c.tasks, .int .i64 c.cells, .int .i64 c.jobs, .slice (some ⟨b_9, 0, none⟩) ((c.workers).toNat) ((c.workers).toNat), .slice none 0 0, .slice none 0 0, .pointer none] ((List.replicate 64 xZ).flatMap encFJob) [.int .i64 0, .int .i64 0, .int .i64 0, .int .i64 0, .int .i64 0, .int .i64 0, .int .i64 0, .int .i64 0, .int .i64 0, .int .i64 0]) :: c_10 :: [(b_1, .cells (encCfg c).toArray 24 (0, 0))] :: ([] : Chunk) :: ([] : Chunk) :: ([] : List Chunk).flatten :: ([] : List Chunk).flatten :: cs) := Sat.perm hS_17 (by simp)
  refine loopA (γ := Nat × (Option Addr) × Nat × Nat × Chunk × (List Nat) × (List Chunk) × (Option Addr) × Nat × Nat × Chunk × (List Nat) × (List Chunk)) (fun ⟨i, aa, an, ak, ac, ap, acs, da, dn, dk, dc, dp, dcs⟩ => [(1, .pointer (some ⟨b_1, 0, none⟩)), (5, .pointer (some ⟨b_14, 0, none⟩)), (6, .int .i64 ((i : Nat) : Int))]) (fun ⟨i, aa, an, ak, ac, ap, acs, da, dn, dk, dc, dp, dcs⟩ w => Sat W w ((Tri b_14 86 [.int .i64 c.workers, .int .i64 c.tileW, .int .i64 c.tileH, .int .i64 c.arena, .int .i64 c.deque, .int .i64 c.tasks, .int .i64 c.cells, .int .i64 c.jobs, .slice (some ⟨b_9, 0, none⟩) ((c.workers).toNat) ((c.workers).toNat), .slice aa an ak, .slice da dn dk, .pointer none] ((List.replicate 64 xZ).flatMap encFJob) [.int .i64 0, .int .i64 0, .int .i64 0, .int .i64 0, .int .i64 0, .int .i64 0, .int .i64 0, .int .i64 0, .int .i64 0, .int .i64 0]) :: c_10 :: [(b_1, .cells (encCfg c).toArray 24 (0, 0))] :: ac :: dc :: acs.flatten :: dcs.flatten :: cs) ∧ (i : Int) ≤ c.workers ∧ OwnT encP 87 1 aa an ak ap ac ∧ OwnT encP 90 1 da dn dk dp dc ∧ Obs ArR ap (List.replicate i (⟨c.arena, 0, 0, []⟩ : AS)) acs ∧ Obs DqR dp (List.replicate i (⟨c.deque, []⟩ : DS)) dcs) (fun ⟨i, aa, an, ak, ac, ap, acs, da, dn, dk, dc, dp, dcs⟩ => c.workers.toNat - i) (0, none, 0, 0, [], [], [], none, 0, 0, [], [], []) ⟨hS_18, by omega, OwnT.nil (fun _ => rfl), OwnT.nil (fun _ => rfl), Obs.nil _, Obs.nil _⟩ ?_
  rintro ⟨i, aa, an, ak, ac, ap, acs, da, dn, dk, dc, dp, dcs⟩ ρ w_19 ⟨hS_20, hi, hOa, hOd, hAs, hDs⟩
  have hal := hOa.len; have hak := hOa.le; have hdl := hOd.len; have hdk := hOd.le; have has1 := hAs.1; have hds1 := hDs.1; rw [List.length_replicate] at has1 hds1
  refine seqE <| seqE <| regionE <| pu2 ?_
  refine sL hS_20 2 0 (.int .i64 c.workers) (Tryz.isAgg3 _) ?_
  refine pu1 <| nilO <| thenK_n <| ?_
  refine cD (((i : Nat) : Int) < c.workers) (fun hc_21 => ?_) (fun hc_21 => ?_)
  rotate_left
  · refine exitE <| thenK_x <| thenK_x <| blockK_x <| thenK_n <| seqE <| regionE <| pu2 ?_
    refine sL hS_20 2 5 (.int .i64 c.tasks) (Tryz.isAgg3 _) ?_
    refine cX Tryz.call34 (r24_new c.tasks (by omega) hS_20) ?_
    rintro _ w_105 ⟨p_107, M_108, rfl, hR_109, hS_106⟩
    refine pu5 ?_
    refine sTpre hS_106 1 11 (.pointer (some ⟨p_107, 0, none⟩)) [.pointer (some ⟨p_107, 0, none⟩)] [.int .i64 c.workers, .int .i64 c.tileW, .int .i64 c.tileH, .int .i64 c.arena, .int .i64 c.deque, .int .i64 c.tasks, .int .i64 c.cells, .int .i64 c.jobs, .slice (some ⟨b_9, 0, none⟩) ((c.workers).toNat) ((c.workers).toNat), .slice aa an ak, .slice da dn dk, .pointer (some ⟨p_107, 0, none⟩)] Tryz.sizeOf80 ?_
    intro w_110 hS_111
    refine nilO <| thenK_n <| seqE <| regionE <| pu3 <| nilO <| thenK_n <| retE <| retT [.pointer (some ⟨b_14, 0, none⟩), .int .i64 0] <| ?_
    obtain rfl : i = c.workers.toNat := by omega
    have hS_112 : Sat W _ ((Tri b_14 86 (preF c (some ⟨b_9, 0, none⟩) ((c.workers).toNat) ((c.workers).toNat) aa an ak da dn dk p_107) ((List.replicate 64 xZ).flatMap encFJob) [.int .i64 0, .int .i64 0, .int .i64 0, .int .i64 0, .int .i64 0, .int .i64 0, .int .i64 0, .int .i64 0, .int .i64 0, .int .i64 0]) :: c_10 :: ac :: dc :: acs.flatten :: dcs.flatten :: M_108 :: [(b_1, .cells (encCfg c).toArray 24 (0, 0))] :: cs) := ((((((hS_111.pick 7 rfl).pick 7 rfl).pick 7 rfl).pick 7 rfl).pick 6 rfl).pick 6 rfl)
    have hS_113 := (hS_112.dropAt 7 rfl)
    have hS_114 : Sat W _ (((Tri b_14 86 (preF c (some ⟨b_9, 0, none⟩) ((c.workers).toNat) ((c.workers).toNat) aa an ak da dn dk p_107) ((List.replicate 64 xZ).flatMap encFJob) [.int .i64 0, .int .i64 0, .int .i64 0, .int .i64 0, .int .i64 0, .int .i64 0, .int .i64 0, .int .i64 0, .int .i64 0, .int .i64 0]) ++ (c_10 ++ (ac ++ (dc ++ (acs.flatten ++ (dcs.flatten ++ (M_108 ++ (List.replicate 64 ([] : Chunk)).flatten))))))) :: cs) := Sat.perm hS_113 (by simp)
    exact ⟨_, _, rfl, ⟨_, _, _, _, _, _, _, _, _, _, _, _, _, _, _, _, _, _, _, _, rfl, hO_11, hOa, hOd, hAs, hDs, hR_109, obs_zero, rfl⟩, hS_114⟩
  refine skipE <| thenK_n <| seqE <| blockE <| seqE <| regionE <| pu1 ?_
  refine sL hS_20 2 3 (.int .i64 c.arena) (Tryz.isAgg3 _) ?_
  refine cX Tryz.call32 (r22_new c.arena (by omega) hS_20) ?_
  rintro _ w_22 ⟨p_24, M_25, rfl, hR_26, hS_23⟩
  refine pu5 <| nilO <| thenK_n <| seqE <| regionE <| pu1 ?_
  refine sL hS_23 3 4 (.int .i64 c.deque) (Tryz.isAgg3 _) ?_
  refine cX Tryz.call33 (r23_new c.deque (by omega) hS_23) ?_
  rintro _ w_27 ⟨p_29, M_30, rfl, hR_31, hS_28⟩
  refine pu5 <| nilO <| thenK_n <| ?_
  refine drawP [7, 8, 14, 15, 18, 21] [(5, ⟨b_14, 9, none⟩, .slice aa an ak), (12, ⟨b_14, 10, none⟩, .slice da dn dk)] (Plan.sts [0, 1, 2, 3, 4, 6, 9, 10, 11, 13] <| Plan.sts [5] <| Plan.sts [12] <| .fk 7 14 (.fk 8 14 (.ef 14 <| .ef 15 <| Plan.sts [16, 17] <| .ef 18 <| Plan.sts [19, 20] <| .ef 21 <| .fin) (.ef 8 <| .ef 15 <| Plan.sts [16, 17] <| .ef 18 <| Plan.sts [19, 20] <| .ef 21 <| .fin)) (.ef 7 <| .ef 8 <| .ef 15 <| Plan.sts [16, 17] <| .ef 18 <| Plan.sts [19, 20] <| .ef 21 <| .fin)) rfl (by kernel_rfl) ⟨.inr (cell_up hS_28 2 rfl (k := 9) tri_pre rfl), .inr (cell_up hS_28 2 rfl (k := 10) tri_pre rfl), trivial⟩ ?_
  have hS_32 := hS_28.drew
  refine qU [0, 1, 2, 3, 4, 6, 9, 10, 11, 13] ?_
  refine qLd (.slice aa an ak) 0 Tryz.isAgg78 ?_
  refine qLd (.slice da dn dk) 1 Tryz.isAgg79 ?_
  refine qF ?_ ?_
  rotate_left
  · refine qO rfl ?_
    refine sBS hS_32 #[.pointer (some ⟨p_29, 0, none⟩)] Tryz.runUnderlying79 Tryz.sizeOf90 Tryz.zeroValue90 ?_
    intro b_80 w_81 hS_82
    refine nilO ⟨⟨.inr (cell_up hS_82 3 rfl (k := 9) tri_pre rfl), .inr (cell_up hS_82 3 rfl (k := 10) tri_pre rfl), trivial⟩, ?_⟩
    refine qO rfl ?_
    refine sBS hS_82 #[.pointer (some ⟨p_24, 0, none⟩)] Tryz.runUnderlying78 Tryz.sizeOf87 Tryz.zeroValue87 ?_
    intro b_83 w_84 hS_85
    refine nilO ⟨⟨.inr (cell_up hS_85 4 rfl (k := 9) tri_pre rfl), .inr (cell_up hS_85 4 rfl (k := 10) tri_pre rfl), trivial⟩, ?_⟩
    refine qO rfl ?_
    refine sApp (nb := 8) hS_85 hOa 7 (RdT.blk (enc := encP) (sz := 1) (xs := [p_24]) (fun _ => rfl) 1 0 rfl rfl rfl (by omega)) Tryz.underlying78 (i := Tryz.t87) (by kernel_rfl) (fun _ => rfl) ?_
    intro a_86 cap_87 c_88 w_89 hO_90 hS_91
    refine nilO ⟨⟨.inl (by kernel_rfl), .inr (cell_up hS_91 4 rfl (k := 10) tri_pre rfl), trivial⟩, ?_⟩
    refine qO rfl ?_
    refine sApp (nb := 8) hS_91 hOd 8 (RdT.blk (enc := encP) (sz := 1) (xs := [p_29]) (fun _ => rfl) 1 1 rfl rfl rfl (by omega)) Tryz.underlying79 (i := Tryz.t90) (by kernel_rfl) (fun _ => rfl) ?_
    intro a_92 cap_93 c_94 w_95 hO_96 hS_97
    refine nilO ⟨⟨.inl (by kernel_rfl), .inl (by kernel_rfl), trivial⟩, ?_⟩
    refine qU [16, 17] ?_
    refine qO rfl ?_
    refine sTpre hS_97 4 9 (.slice a_86 (an + 1) cap_87) [.slice a_86 (an + 1) cap_87] [.int .i64 c.workers, .int .i64 c.tileW, .int .i64 c.tileH, .int .i64 c.arena, .int .i64 c.deque, .int .i64 c.tasks, .int .i64 c.cells, .int .i64 c.jobs, .slice (some ⟨b_9, 0, none⟩) ((c.workers).toNat) ((c.workers).toNat), .slice a_86 (an + 1) cap_87, .slice da dn dk, .pointer none] Tryz.sizeOf78 ?_
    intro w_98 hS_99
    refine nilO ⟨⟨.inl (by kernel_rfl), .inl (by kernel_rfl), trivial⟩, ?_⟩
    refine qU [19, 20] ?_
    refine qO rfl ?_
    refine sTpre hS_99 4 10 (.slice a_92 (dn + 1) cap_93) [.slice a_92 (dn + 1) cap_93] [.int .i64 c.workers, .int .i64 c.tileW, .int .i64 c.tileH, .int .i64 c.arena, .int .i64 c.deque, .int .i64 c.tasks, .int .i64 c.cells, .int .i64 c.jobs, .slice (some ⟨b_9, 0, none⟩) ((c.workers).toNat) ((c.workers).toNat), .slice a_86 (an + 1) cap_87, .slice a_92 (dn + 1) cap_93, .pointer none] Tryz.sizeOf79 ?_
    intro w_100 hS_101
    refine nilO ⟨⟨.inl (by kernel_rfl), .inl (by kernel_rfl), trivial⟩, ?_⟩
    refine qN ?_
    refine blockK_n <| thenK_n <| regionE <| pu1 ?_
    refine sAdd ((i : Nat) : Int) 1 ?_
    refine pu1 <| nilO <| thenK_n <| ?_
    have hS_102 : Sat W _ ([(b_1, .cells (encCfg c).toArray 24 (0, 0))] :: c_88 :: c_94 :: acs.flatten :: M_25 :: dcs.flatten :: [(b_83, .cells #[.pointer (some ⟨p_24, 0, none⟩)] 87 (0, 0))] :: [(b_80, .cells #[.pointer (some ⟨p_29, 0, none⟩)] 90 (0, 0))] :: M_30 :: (Tri b_14 86 [.int .i64 c.workers, .int .i64 c.tileW, .int .i64 c.tileH, .int .i64 c.arena, .int .i64 c.deque, .int .i64 c.tasks, .int .i64 c.cells, .int .i64 c.jobs, .slice (some ⟨b_9, 0, none⟩) ((c.workers).toNat) ((c.workers).toNat), .slice a_86 (an + 1) cap_87, .slice a_92 (dn + 1) cap_93, .pointer none] ((List.replicate 64 xZ).flatMap encFJob) [.int .i64 0, .int .i64 0, .int .i64 0, .int .i64 0, .int .i64 0, .int .i64 0, .int .i64 0, .int .i64 0, .int .i64 0, .int .i64 0]) :: c_10 :: cs) := ((((((hS_101.pick 10 rfl).pick 4 rfl).pick 10 rfl).pick 10 rfl).pick 10 rfl).pick 10 rfl)
    have hS_103 := ((((hS_102.pick 10 rfl).pick 10 rfl).dropAt 8 rfl).dropAt 8 rfl)
    have hS_104 : Sat W _ ((Tri b_14 86 [.int .i64 c.workers, .int .i64 c.tileW, .int .i64 c.tileH, .int .i64 c.arena, .int .i64 c.deque, .int .i64 c.tasks, .int .i64 c.cells, .int .i64 c.jobs, .slice (some ⟨b_9, 0, none⟩) ((c.workers).toNat) ((c.workers).toNat), .slice a_86 (an + 1) cap_87, .slice a_92 (dn + 1) cap_93, .pointer none] ((List.replicate 64 xZ).flatMap encFJob) [.int .i64 0, .int .i64 0, .int .i64 0, .int .i64 0, .int .i64 0, .int .i64 0, .int .i64 0, .int .i64 0, .int .i64 0, .int .i64 0]) :: c_10 :: [(b_1, .cells (encCfg c).toArray 24 (0, 0))] :: c_88 :: c_94 :: (acs ++ [M_25]).flatten :: (dcs ++ [M_30]).flatten :: cs) := Sat.perm hS_103 (by simp)
    exact ⟨(i + 1, a_86, (an + 1), cap_87, c_88, (ap ++ [p_24]), (acs ++ [M_25]), a_92, (dn + 1), cap_93, c_94, (dp ++ [p_29]), (dcs ++ [M_30])), by first | omega | (dsimp only; omega), alA, hS_104, by omega, hO_90, hO_96, (by rw [List.replicate_succ']; exact Obs.snoc hAs hR_26), (by rw [List.replicate_succ']; exact Obs.snoc hDs hR_31)⟩
  refine qO rfl ?_
  refine sBS hS_32 #[.pointer (some ⟨p_24, 0, none⟩)] Tryz.runUnderlying78 Tryz.sizeOf87 Tryz.zeroValue87 ?_
  intro b_33 w_34 hS_35
  refine nilO ⟨⟨.inr (cell_up hS_35 3 rfl (k := 9) tri_pre rfl), .inr (cell_up hS_35 3 rfl (k := 10) tri_pre rfl), trivial⟩, ?_⟩
  refine qF ?_ ?_
  · refine qO rfl ?_
    refine sApp (nb := 8) hS_35 hOa 6 (RdT.blk (enc := encP) (sz := 1) (xs := [p_24]) (fun _ => rfl) 1 0 rfl rfl rfl (by omega)) Tryz.underlying78 (i := Tryz.t87) (by kernel_rfl) (fun _ => rfl) ?_
    intro a_36 cap_37 c_38 w_39 hO_40 hS_41
    refine nilO ⟨⟨.inl (by kernel_rfl), .inr (cell_up hS_41 3 rfl (k := 10) tri_pre rfl), trivial⟩, ?_⟩
    refine qO rfl ?_
    refine sBS hS_41 #[.pointer (some ⟨p_29, 0, none⟩)] Tryz.runUnderlying79 Tryz.sizeOf90 Tryz.zeroValue90 ?_
    intro b_42 w_43 hS_44
    refine nilO ⟨⟨.inl (by kernel_rfl), .inr (cell_up hS_44 4 rfl (k := 10) tri_pre rfl), trivial⟩, ?_⟩
    refine qO rfl ?_
    refine sApp (nb := 8) hS_44 hOd 8 (RdT.blk (enc := encP) (sz := 1) (xs := [p_29]) (fun _ => rfl) 1 0 rfl rfl rfl (by omega)) Tryz.underlying79 (i := Tryz.t90) (by kernel_rfl) (fun _ => rfl) ?_
    intro a_45 cap_46 c_47 w_48 hO_49 hS_50
    refine nilO ⟨⟨.inl (by kernel_rfl), .inl (by kernel_rfl), trivial⟩, ?_⟩
    refine qU [16, 17] ?_
    refine qO rfl ?_
    refine sTpre hS_50 4 9 (.slice a_36 (an + 1) cap_37) [.slice a_36 (an + 1) cap_37] [.int .i64 c.workers, .int .i64 c.tileW, .int .i64 c.tileH, .int .i64 c.arena, .int .i64 c.deque, .int .i64 c.tasks, .int .i64 c.cells, .int .i64 c.jobs, .slice (some ⟨b_9, 0, none⟩) ((c.workers).toNat) ((c.workers).toNat), .slice a_36 (an + 1) cap_37, .slice da dn dk, .pointer none] Tryz.sizeOf78 ?_
    intro w_51 hS_52
    refine nilO ⟨⟨.inl (by kernel_rfl), .inl (by kernel_rfl), trivial⟩, ?_⟩
    refine qU [19, 20] ?_
    refine qO rfl ?_
    refine sTpre hS_52 4 10 (.slice a_45 (dn + 1) cap_46) [.slice a_45 (dn + 1) cap_46] [.int .i64 c.workers, .int .i64 c.tileW, .int .i64 c.tileH, .int .i64 c.arena, .int .i64 c.deque, .int .i64 c.tasks, .int .i64 c.cells, .int .i64 c.jobs, .slice (some ⟨b_9, 0, none⟩) ((c.workers).toNat) ((c.workers).toNat), .slice a_36 (an + 1) cap_37, .slice a_45 (dn + 1) cap_46, .pointer none] Tryz.sizeOf79 ?_
    intro w_53 hS_54
    refine nilO ⟨⟨.inl (by kernel_rfl), .inl (by kernel_rfl), trivial⟩, ?_⟩
    refine qN ?_
    refine blockK_n <| thenK_n <| regionE <| pu1 ?_
    refine sAdd ((i : Nat) : Int) 1 ?_
    refine pu1 <| nilO <| thenK_n <| ?_
    have hS_55 : Sat W _ ([(b_1, .cells (encCfg c).toArray 24 (0, 0))] :: c_38 :: c_47 :: acs.flatten :: M_25 :: dcs.flatten :: [(b_42, .cells #[.pointer (some ⟨p_29, 0, none⟩)] 90 (0, 0))] :: [(b_33, .cells #[.pointer (some ⟨p_24, 0, none⟩)] 87 (0, 0))] :: M_30 :: (Tri b_14 86 [.int .i64 c.workers, .int .i64 c.tileW, .int .i64 c.tileH, .int .i64 c.arena, .int .i64 c.deque, .int .i64 c.tasks, .int .i64 c.cells, .int .i64 c.jobs, .slice (some ⟨b_9, 0, none⟩) ((c.workers).toNat) ((c.workers).toNat), .slice a_36 (an + 1) cap_37, .slice a_45 (dn + 1) cap_46, .pointer none] ((List.replicate 64 xZ).flatMap encFJob) [.int .i64 0, .int .i64 0, .int .i64 0, .int .i64 0, .int .i64 0, .int .i64 0, .int .i64 0, .int .i64 0, .int .i64 0, .int .i64 0]) :: c_10 :: cs) := ((((((hS_54.pick 10 rfl).pick 4 rfl).pick 10 rfl).pick 10 rfl).pick 10 rfl).pick 10 rfl)
    have hS_56 := ((((hS_55.pick 10 rfl).pick 10 rfl).dropAt 8 rfl).dropAt 8 rfl)
    have hS_57 : Sat W _ ((Tri b_14 86 [.int .i64 c.workers, .int .i64 c.tileW, .int .i64 c.tileH, .int .i64 c.arena, .int .i64 c.deque, .int .i64 c.tasks, .int .i64 c.cells, .int .i64 c.jobs, .slice (some ⟨b_9, 0, none⟩) ((c.workers).toNat) ((c.workers).toNat), .slice a_36 (an + 1) cap_37, .slice a_45 (dn + 1) cap_46, .pointer none] ((List.replicate 64 xZ).flatMap encFJob) [.int .i64 0, .int .i64 0, .int .i64 0, .int .i64 0, .int .i64 0, .int .i64 0, .int .i64 0, .int .i64 0, .int .i64 0, .int .i64 0]) :: c_10 :: [(b_1, .cells (encCfg c).toArray 24 (0, 0))] :: c_38 :: c_47 :: (acs ++ [M_25]).flatten :: (dcs ++ [M_30]).flatten :: cs) := Sat.perm hS_56 (by simp)
    exact ⟨(i + 1, a_36, (an + 1), cap_37, c_38, (ap ++ [p_24]), (acs ++ [M_25]), a_45, (dn + 1), cap_46, c_47, (dp ++ [p_29]), (dcs ++ [M_30])), by first | omega | (dsimp only; omega), alA, hS_57, by omega, hO_40, hO_49, (by rw [List.replicate_succ']; exact Obs.snoc hAs hR_26), (by rw [List.replicate_succ']; exact Obs.snoc hDs hR_31)⟩
  refine qO rfl ?_
  refine sBS hS_35 #[.pointer (some ⟨p_29, 0, none⟩)] Tryz.runUnderlying79 Tryz.sizeOf90 Tryz.zeroValue90 ?_
  intro b_58 w_59 hS_60
  refine nilO ⟨⟨.inr (cell_up hS_60 4 rfl (k := 9) tri_pre rfl), .inr (cell_up hS_60 4 rfl (k := 10) tri_pre rfl), trivial⟩, ?_⟩
  refine qO rfl ?_
  refine sApp (nb := 8) hS_60 hOa 7 (RdT.blk (enc := encP) (sz := 1) (xs := [p_24]) (fun _ => rfl) 1 1 rfl rfl rfl (by omega)) Tryz.underlying78 (i := Tryz.t87) (by kernel_rfl) (fun _ => rfl) ?_
  intro a_61 cap_62 c_63 w_64 hO_65 hS_66
  refine nilO ⟨⟨.inl (by kernel_rfl), .inr (cell_up hS_66 4 rfl (k := 10) tri_pre rfl), trivial⟩, ?_⟩
  refine qO rfl ?_
  refine sApp (nb := 8) hS_66 hOd 8 (RdT.blk (enc := encP) (sz := 1) (xs := [p_29]) (fun _ => rfl) 1 0 rfl rfl rfl (by omega)) Tryz.underlying79 (i := Tryz.t90) (by kernel_rfl) (fun _ => rfl) ?_
  intro a_67 cap_68 c_69 w_70 hO_71 hS_72
  refine nilO ⟨⟨.inl (by kernel_rfl), .inl (by kernel_rfl), trivial⟩, ?_⟩
  refine qU [16, 17] ?_
  refine qO rfl ?_
  refine sTpre hS_72 4 9 (.slice a_61 (an + 1) cap_62) [.slice a_61 (an + 1) cap_62] [.int .i64 c.workers, .int .i64 c.tileW, .int .i64 c.tileH, .int .i64 c.arena, .int .i64 c.deque, .int .i64 c.tasks, .int .i64 c.cells, .int .i64 c.jobs, .slice (some ⟨b_9, 0, none⟩) ((c.workers).toNat) ((c.workers).toNat), .slice a_61 (an + 1) cap_62, .slice da dn dk, .pointer none] Tryz.sizeOf78 ?_
  intro w_73 hS_74
  refine nilO ⟨⟨.inl (by kernel_rfl), .inl (by kernel_rfl), trivial⟩, ?_⟩
  refine qU [19, 20] ?_
  refine qO rfl ?_
  refine sTpre hS_74 4 10 (.slice a_67 (dn + 1) cap_68) [.slice a_67 (dn + 1) cap_68] [.int .i64 c.workers, .int .i64 c.tileW, .int .i64 c.tileH, .int .i64 c.arena, .int .i64 c.deque, .int .i64 c.tasks, .int .i64 c.cells, .int .i64 c.jobs, .slice (some ⟨b_9, 0, none⟩) ((c.workers).toNat) ((c.workers).toNat), .slice a_61 (an + 1) cap_62, .slice a_67 (dn + 1) cap_68, .pointer none] Tryz.sizeOf79 ?_
  intro w_75 hS_76
  refine nilO ⟨⟨.inl (by kernel_rfl), .inl (by kernel_rfl), trivial⟩, ?_⟩
  refine qN ?_
  refine blockK_n <| thenK_n <| regionE <| pu1 ?_
  refine sAdd ((i : Nat) : Int) 1 ?_
  refine pu1 <| nilO <| thenK_n <| ?_
  have hS_77 : Sat W _ ([(b_1, .cells (encCfg c).toArray 24 (0, 0))] :: c_63 :: c_69 :: acs.flatten :: M_25 :: dcs.flatten :: [(b_58, .cells #[.pointer (some ⟨p_29, 0, none⟩)] 90 (0, 0))] :: [(b_33, .cells #[.pointer (some ⟨p_24, 0, none⟩)] 87 (0, 0))] :: M_30 :: (Tri b_14 86 [.int .i64 c.workers, .int .i64 c.tileW, .int .i64 c.tileH, .int .i64 c.arena, .int .i64 c.deque, .int .i64 c.tasks, .int .i64 c.cells, .int .i64 c.jobs, .slice (some ⟨b_9, 0, none⟩) ((c.workers).toNat) ((c.workers).toNat), .slice a_61 (an + 1) cap_62, .slice a_67 (dn + 1) cap_68, .pointer none] ((List.replicate 64 xZ).flatMap encFJob) [.int .i64 0, .int .i64 0, .int .i64 0, .int .i64 0, .int .i64 0, .int .i64 0, .int .i64 0, .int .i64 0, .int .i64 0, .int .i64 0]) :: c_10 :: cs) := ((((((hS_76.pick 10 rfl).pick 4 rfl).pick 10 rfl).pick 10 rfl).pick 10 rfl).pick 10 rfl)
  have hS_78 := ((((hS_77.pick 10 rfl).pick 10 rfl).dropAt 8 rfl).dropAt 8 rfl)
  have hS_79 : Sat W _ ((Tri b_14 86 [.int .i64 c.workers, .int .i64 c.tileW, .int .i64 c.tileH, .int .i64 c.arena, .int .i64 c.deque, .int .i64 c.tasks, .int .i64 c.cells, .int .i64 c.jobs, .slice (some ⟨b_9, 0, none⟩) ((c.workers).toNat) ((c.workers).toNat), .slice a_61 (an + 1) cap_62, .slice a_67 (dn + 1) cap_68, .pointer none] ((List.replicate 64 xZ).flatMap encFJob) [.int .i64 0, .int .i64 0, .int .i64 0, .int .i64 0, .int .i64 0, .int .i64 0, .int .i64 0, .int .i64 0, .int .i64 0, .int .i64 0]) :: c_10 :: [(b_1, .cells (encCfg c).toArray 24 (0, 0))] :: c_63 :: c_69 :: (acs ++ [M_25]).flatten :: (dcs ++ [M_30]).flatten :: cs) := Sat.perm hS_78 (by simp)
  exact ⟨(i + 1, a_61, (an + 1), cap_62, c_63, (ap ++ [p_24]), (acs ++ [M_25]), a_67, (dn + 1), cap_68, c_69, (dp ++ [p_29]), (dcs ++ [M_30])), by first | omega | (dsimp only; omega), alA, hS_79, by omega, hO_65, hO_71, (by rw [List.replicate_succ']; exact Obs.snoc hAs hR_26), (by rw [List.replicate_succ']; exact Obs.snoc hDs hR_31)⟩
end Go.Proofs.YtimkhljglpookaaGreat
