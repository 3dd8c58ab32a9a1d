import Derived.Test.YtdingplbadblpaaGreatP2RowO
import Derived.Test.YtdingplbadblpaaGreatP2RefS
namespace Go.Proofs.YtdingplbadblpaaGreat
open Go Go.E
set_option linter.unusedVariables false
set_option linter.unusedSimpArgs false
set_option linter.unnecessarySimpa false
set_option maxRecDepth 100000
set_option maxHeartbeats 2000000
variable {W w : World} {H : Chunk} {F : List Chunk}
/-! ### scratch memory -/
-- squeezed
def bytOK (s : StageV) : Prop := (1 ≤ s.kind ∧ s.kind ≤ 6) ∧ (¬ s.kind = 1 ∨ ((1 ≤ s.kW ∧ s.kW ≤ 9) ∧ 1 ≤ s.kH ∧ s.kH ≤ 9)) ∧ (¬ s.kind = 2 ∨ (1 ≤ (s.col.length : Int) ∧ (s.col.length : Int) ≤ 9)) ∧ (¬ s.kind = 4 ∨ (1 ≤ s.bins ∧ s.bins ≤ 128))
theorem of_bytOK {q : StageV} {s t : Shape} (h : (ofV q s t).2 = 0) : bytOK q := by
 unfold ofV at h
 split at h
 ·rename_i hf
  have hk : 1 ≤ q.kind ∧ q.kind ≤ 6 := by unfold fieldsP at hf; omega
  refine ⟨hk, ?_⟩
  split at h
  ·split at h
   ·split at h
    ·rename_i h4
     unfold kernelV at h4
     clear h
     split at h4
     ·rename_i k
      unfold convCode at h4
      dsimp only at h4
      split at h4
      ·omega
      ·omega
     ·split at h4
      ·rename_i k
       unfold sepCode at h4
       dsimp only at h4
       split at h4
       ·omega
       ·omega
      ·split at h4
       ·omega
       ·split at h4
        ·split at h4
         ·omega
         ·simp at h4
        ·omega
    ·rename_i h4; exact absurd h h4
   ·simp at h
  ·simp at h
 ·simp at h
theorem cells_bd {s : StageV} {h : Int} {r : Rct} (hk : bytOK s) (hr : inP r) : 0 ≤ cellsV s h r ∧ cellsV s h r ≤ 20000 := by
 obtain ⟨h0, h1, h2, h4⟩ := hk
 unfold inP at hr
 unfold cellsV
 split
 ·exact mul_bd (A := 136) (B := 136) om om |>.imp id (fun h => by omega)
 ·split
  ·exact mul_bd (A := 136) (B := 136) om om |>.imp id (fun h => by omega)
  ·split
   ·have hl := need_len (s := s) (n := h) (a := r.y0) (b := r.y1) (size := if s.kind = 2 then s.col.length else s.kH) (t := s.y)
    exact mul_bd (A := 136) (B := 136) om (by unfold rowsV; omega) |>.imp id (fun h => by omega)
   ·split
    ·omega
    ·split <;> omega
theorem scr_no {s : StageV} {m : Shape} {p : Int} {r : Rct} (h : ¬ ((ofV s m m).2 = 0 ∧ belongP s.kind p ∧ inP r)) : scrV s m p r = 0 := by unfold scrV; rw [if_neg h]
theorem p20_belongs (x : Int) (p : Int) (hS : Sat W w (H :: F)) :
  Ro Tryz.prog 66 #[I x, I p] (.bool (decide (belongP x p))) W w (H :: F) := by
 refine callsA 15 Tryz.func66 rfl ?_
 refine sR <| pu1 <| nT <| seqE <| sR <| pu2 <| nT ?_
 refine cE x 4 (fun a0 => ?_) (fun a0 => ?_)
 rotate_left
 ·refine kT <| sR <| pu3 <| nT <| retE <| retT [.bool ((p : Int) == 0)] ?_
  refine ⟨congrArg (fun b => Ending.returned (.bool b)) ?_, hS⟩
  first | rfl | (rw [Bool.eq_iff_iff]; simp only [decide_eq_true_eq, beq_iff_eq, bne_iff_ne, ne_eq, Bool.not_eq_true', decide_eq_false_iff_not, true_iff, false_iff, iff_true, iff_false, Bool.false_eq_true, Bool.and_eq_true, Bool.or_eq_true, gt_iff_lt, ge_iff_le, belongP] <;> omega) | (rw [Bool.eq_iff_iff]; simp [belongP, *] <;> omega) | (simp_all; done)
 refine sR <| pu3 ?_
 refine sE 9 p 1 (fun b0 => ?_) (fun b0 => ?_)
 ·refine pu4 <| nT <| retE <| thenK_r <| retT [.bool true] ?_
  refine ⟨congrArg (fun b => Ending.returned (.bool b)) ?_, hS⟩
  first | rfl | (rw [Bool.eq_iff_iff]; simp only [decide_eq_true_eq, beq_iff_eq, bne_iff_ne, ne_eq, Bool.not_eq_true', decide_eq_false_iff_not, true_iff, false_iff, iff_true, iff_false, Bool.false_eq_true, Bool.and_eq_true, Bool.or_eq_true, gt_iff_lt, ge_iff_le, belongP] <;> omega) | (rw [Bool.eq_iff_iff]; simp [belongP, *] <;> omega) | (simp_all; done)
 refine pu4 <| nT <| retE <| thenK_r <| retT [.bool ((p : Int) == 2)] ?_
 refine ⟨congrArg (fun b => Ending.returned (.bool b)) ?_, hS⟩
 first | rfl | (rw [Bool.eq_iff_iff]; simp only [decide_eq_true_eq, beq_iff_eq, bne_iff_ne, ne_eq, Bool.not_eq_true', decide_eq_false_iff_not, true_iff, false_iff, iff_true, iff_false, Bool.false_eq_true, Bool.and_eq_true, Bool.or_eq_true, gt_iff_lt, ge_iff_le, belongP] <;> omega) | (rw [Bool.eq_iff_iff]; simp [belongP, *] <;> omega) | (simp_all; done)
theorem r20_belongs (x : Int) (p : Int) (hS : Sat W w (H :: F)) :
  Ro Tryz.prog 71 #[I x, I p] (.bool (decide (belongP x p))) W w (H :: F) := by
 refine callsA 15 Tryz.func71 rfl ?_
 refine sR <| pu1 <| nT <| seqE <| sR <| pu2 <| nT ?_
 refine cE x 4 (fun a0 => ?_) (fun a0 => ?_)
 rotate_left
 ·refine kT <| sR <| pu3 <| nT <| retE <| retT [.bool ((p : Int) == 0)] ?_
  refine ⟨congrArg (fun b => Ending.returned (.bool b)) ?_, hS⟩
  first | rfl | (rw [Bool.eq_iff_iff]; simp only [decide_eq_true_eq, beq_iff_eq, bne_iff_ne, ne_eq, Bool.not_eq_true', decide_eq_false_iff_not, true_iff, false_iff, iff_true, iff_false, Bool.false_eq_true, Bool.and_eq_true, Bool.or_eq_true, gt_iff_lt, ge_iff_le, belongP] <;> omega) | (rw [Bool.eq_iff_iff]; simp [belongP, *] <;> omega) | (simp_all; done)
 refine sR <| pu3 ?_
 refine sE 9 p 1 (fun b0 => ?_) (fun b0 => ?_)
 ·refine pu4 <| nT <| retE <| thenK_r <| retT [.bool true] ?_
  refine ⟨congrArg (fun b => Ending.returned (.bool b)) ?_, hS⟩
  first | rfl | (rw [Bool.eq_iff_iff]; simp only [decide_eq_true_eq, beq_iff_eq, bne_iff_ne, ne_eq, Bool.not_eq_true', decide_eq_false_iff_not, true_iff, false_iff, iff_true, iff_false, Bool.false_eq_true, Bool.and_eq_true, Bool.or_eq_true, gt_iff_lt, ge_iff_le, belongP] <;> omega) | (rw [Bool.eq_iff_iff]; simp [belongP, *] <;> omega) | (simp_all; done)
 refine pu4 <| nT <| retE <| thenK_r <| retT [.bool ((p : Int) == 2)] ?_
 refine ⟨congrArg (fun b => Ending.returned (.bool b)) ?_, hS⟩
 first | rfl | (rw [Bool.eq_iff_iff]; simp only [decide_eq_true_eq, beq_iff_eq, bne_iff_ne, ne_eq, Bool.not_eq_true', decide_eq_false_iff_not, true_iff, false_iff, iff_true, iff_false, Bool.false_eq_true, Bool.and_eq_true, Bool.or_eq_true, gt_iff_lt, ge_iff_le, belongP] <;> omega) | (rw [Bool.eq_iff_iff]; simp [belongP, *] <;> omega) | (simp_all; done)
theorem p20_bytes (q : Stage) (hh : Int) (r : Rct) (hq : Stage.Ok [H] q) (hk : bytOK q.v) (hr : inP r) (hS : Sat W w (H :: F)) :
  Ro Tryz.prog 69 #[.agg (encStage q).toArray, I hh, .agg (encRct r).toArray] (I (bytV q.v hh r)) W w (H :: F) := by
 have hl_q_weights := hq.weights.le; have hn_q_weights := hq.weights.len
 have hl_q_row := hq.row.le; have hn_q_row := hq.row.len
 have hl_q_col := hq.col.le; have hn_q_col := hq.col.len
 have hl_q_x := hq.x.le; have hn_q_x := hq.x.len
 have hl_q_y := hq.y.le; have hn_q_y := hq.y.len
 have hl_q_ops := hq.ops.le; have hn_q_ops := hq.ops.len
 have hnr := hn_q_row; have hnc := hn_q_col; have hcb := cells_bd (h := hh) hk hr; have hk0 := hk; unfold bytOK at hk0; simp only [Stage.v] at hk0; rw [hnc] at hk0; have hr0 := hr; unfold inP at hr0
 refine callsA 79 Tryz.func69 rfl ?_
 refine sR ?_
 refine sBox hS (.agg (encStage q).toArray) (encStage q).toArray ?_
 intro f0 _ g0
 refine sBox g0 (.agg (encRct r).toArray) (encRct r).toArray ?_
 intro b0 _ c0
 refine pu1 <| nT <| seqE ?_
 refine drawE [] [(1, ⟨b0, 2, none⟩, I r.x1), (3, ⟨b0, 0, none⟩, I r.x0), (6, ⟨b0, 3, none⟩, I r.y1), (8, ⟨b0, 1, none⟩, I r.y0)] [(true, [0, 2, 5, 7]), (true, [1]), (true, [3]), (true, [4]), (true, [10]), (true, [6]), (true, [8]), (true, [9]), (true, [11])] rfl kr ⟨.inr (c0.cell 0 rfl rfl), .inr (c0.cell 0 rfl rfl), .inr (c0.cell 0 rfl rfl), .inr (c0.cell 0 rfl rfl), trivial⟩ ?_
 have a0 := c0.drew
 refine wU [0, 2, 5, 7] ?_
 refine wLd (I r.x1) 0 Tryz.isAgg3 ?_
 refine wLd (I r.x0) 1 Tryz.isAgg3 ?_
 refine wSub r.x1 r.x0 ?_
 refine wU [10] ?_
 refine wLd (I r.y1) 2 Tryz.isAgg3 ?_
 refine wLd (I r.y0) 3 Tryz.isAgg3 ?_
 refine wSub r.y1 r.y0 ?_
 refine wU [11] ?_
 refine wN ?_
 refine thenK_n <| sR <| pu1 <| nT ?_
 refine cutA (γ := Unit) (fun _ => [(9, I (cellsV q.v hh r))]) (fun _ w => Sat W w ([(b0, .cells (encRct r).toArray 44 (0, 0))] :: [(f0, .cells (encStage q).toArray 38 (0, 0))] :: H :: F)) ?_ ?_
 rotate_left
 ·rintro _ ρ _ h0
  refine sR <| pu1 ?_
  refine sMul 8 (cellsV q.v hh r) ?_
  refine cR Tryz.call111 (p1_align (8 * (cellsV q.v hh r)) 16 1048576 (od) (Sat.flat h0)) ?_
  intro _ i0
  refine pu5 <| nT <| sR <| pu2 <| nT <| retE <| retT [I (alnX (8 * (cellsV q.v hh r)) 16 1048576)] ?_
  have j0 := (i0.drops [0, 0])
  exact ⟨by unfold bytV; rw [← aln_ok (l := 1048576) om om]; rfl, j0⟩
 refine sR <| pu1 ?_
 refine sL a0 1 0 (I q.kind) (Tryz.isAgg3 _) ?_
 refine nT <| blockE <| sR <| pu2 <| nT ?_
 refine cE q.kind 1 (fun k0 => ?_) (fun k0 => ?_)
 ·refine regionE <| pu2 ?_
  refine sL a0 1 6 (I q.kW) (Tryz.isAgg3 _) ?_
  refine sAdd (r.x1 - r.x0) q.kW ?_
  refine sSub ((r.x1 - r.x0) + q.kW) 1 ?_
  refine pu2 ?_
  refine sL a0 1 7 (I q.kH) (Tryz.isAgg3 _) ?_
  refine sAdd (r.y1 - r.y0) q.kH ?_
  refine sSub ((r.y1 - r.y0) + q.kH) 1 ?_
  have hml1 := mul_bd (a := (((r.x1 - r.x0) + q.kW) - 1)) (b := (((r.y1 - r.y0) + q.kH) - 1)) (A := 300) (B := 300) om om
  refine sMul (((r.x1 - r.x0) + q.kW) - 1) (((r.y1 - r.y0) + q.kH) - 1) ?_
  refine pu1 <| nB ?_
  exact ⟨(), ⟨(Eq.trans (b := I ((((r.x1 - r.x0) + q.kW) - 1) * (((r.y1 - r.y0) + q.kH) - 1))) kr (congrArg (fun z => Value.int .i64 z) (show ((((r.x1 - r.x0) + q.kW) - 1) * (((r.y1 - r.y0) + q.kH) - 1)) = cellsV q.v hh r from by unfold cellsV; rw [if_pos (show q.v.kind = 1 from by simp only [Stage.v]; omega)]; rfl))), trivial⟩, a0⟩
 refine sR <| pu2 <| nT ?_
 refine cE q.kind 2 (fun l0 => ?_) (fun l0 => ?_)
 ·refine regionE <| pu3 ?_
  refine sL a0 1 10 (.slice q.col.a q.col.n q.col.k) (Tryz.isAgg22 _) ?_
  refine pu1 ?_
  refine sAdd (r.y1 - r.y0) ((q.col.n : Nat) : Int) ?_
  refine sSub ((r.y1 - r.y0) + ((q.col.n : Nat) : Int)) 1 ?_
  have hml2 := mul_bd (a := (r.x1 - r.x0)) (b := (((r.y1 - r.y0) + ((q.col.n : Nat) : Int)) - 1)) (A := 300) (B := 300) om om
  refine sMul (r.x1 - r.x0) (((r.y1 - r.y0) + ((q.col.n : Nat) : Int)) - 1) ?_
  refine pu1 <| nB ?_
  exact ⟨(), ⟨(Eq.trans (b := I ((r.x1 - r.x0) * (((r.y1 - r.y0) + ((q.col.n : Nat) : Int)) - 1))) kr (congrArg (fun z => Value.int .i64 z) (show ((r.x1 - r.x0) * (((r.y1 - r.y0) + ((q.col.n : Nat) : Int)) - 1)) = cellsV q.v hh r from by unfold cellsV; rw [if_neg (show ¬ q.v.kind = 1 from by simp only [Stage.v]; omega), if_pos (show q.v.kind = 2 from by simp only [Stage.v]; omega), show q.v.col.length = q.col.n from hnc]))), trivial⟩, a0⟩
 refine sR <| pu2 <| nT ?_
 refine cE q.kind 3 (fun m0 => ?_) (fun m0 => ?_)
 ·refine regionE <| pu1 ?_
  refine lA a0 1 0 18 (Tryz.isAgg38 _) (Tryz.sizeOf38 _) ?_
  refine pu2 ?_
  refine sL a0 0 1 (I r.y0) (Tryz.isAgg3 _) ?_
  refine pu1 ?_
  refine sL a0 0 3 (I r.y1) (Tryz.isAgg3 _) ?_
  refine cX Tryz.call110 (p16_rows q hh r.y0 r.y1 ⟨(RdT.flat (hq.weights.up 2 (by rfl))), (RdT.flat (hq.row.up 2 (by rfl))), (RdT.flat (hq.col.up 2 (by rfl))), (RdT.flat (hq.x.up 2 (by rfl))), (fun z hz => (hq.xD z hz).of_mem (mem_flat1 2 (by rfl))), (RdT.flat (hq.y.up 2 (by rfl))), (fun z hz => (hq.yD z hz).of_mem (mem_flat1 2 (by rfl))), (RdT.flat (hq.ops.up 2 (by rfl)))⟩ (Sat.flat a0)) ?_
  rintro _ _ ⟨_, d0, _, _, rfl, e0, n0⟩
  have o0 := Sat.unflat1 n0
  have hn_az_14 := e0.len; have hl_az_14 := e0.le
  refine pu1 ?_
  have hrl := need_len (s := q.v) (n := hh) (a := r.y0) (b := r.y1) (size := if q.v.kind = 2 then q.v.col.length else q.v.kH) (t := q.v.y); have hrn := (e0).len; unfold rowsV at hrn; have hml9 := mul_bd (a := (r.x1 - r.x0)) (b := ((d0 : Nat) : Int)) (A := 300) (B := 300) om om
  refine sMul (r.x1 - r.x0) ((d0 : Nat) : Int) ?_
  refine pu1 <| nB ?_
  have p0 := (o0.dropAt 0 rfl)
  have hrw := (e0).len
  exact ⟨(), ⟨(Eq.trans (b := I ((r.x1 - r.x0) * ((d0 : Nat) : Int))) kr (congrArg (fun z => Value.int .i64 z) (show ((r.x1 - r.x0) * ((d0 : Nat) : Int)) = cellsV q.v hh r from by unfold cellsV; rw [if_neg (show ¬ q.v.kind = 1 from by simp only [Stage.v]; omega), if_neg (show ¬ q.v.kind = 2 from by simp only [Stage.v]; omega), if_pos (show q.v.kind = 3 from by simp only [Stage.v]; omega), hrw]))), trivial⟩, p0⟩
 refine sR <| pu2 <| nT ?_
 refine cE q.kind 4 (fun q0 => ?_) (fun q0 => ?_)
 ·refine regionE <| pu1 ?_
  refine sL a0 1 15 (I q.bins) (Tryz.isAgg3 _) ?_
  refine pu1 <| nB ?_
  exact ⟨(), ⟨(Eq.trans (b := I q.bins) kr (congrArg (fun z => Value.int .i64 z) (show q.bins = cellsV q.v hh r from by unfold cellsV; rw [if_neg (show ¬ q.v.kind = 1 from by simp only [Stage.v]; omega), if_neg (show ¬ q.v.kind = 2 from by simp only [Stage.v]; omega), if_neg (show ¬ q.v.kind = 3 from by simp only [Stage.v]; omega), if_pos (show q.v.kind = 4 from by simp only [Stage.v]; omega)]; rfl))), trivial⟩, a0⟩
 refine sR <| pu2 <| nT ?_
 refine cE q.kind 5 (fun r0 => ?_) (fun r0 => ?_)
 ·refine regionE <| pu2 ?_
  refine sAdd (r.x1 - r.x0) (r.y1 - r.y0) ?_
  refine sAdd ((r.x1 - r.x0) + (r.y1 - r.y0)) 1 ?_
  refine pu1 <| nB ?_
  exact ⟨(), ⟨(Eq.trans (b := I (((r.x1 - r.x0) + (r.y1 - r.y0)) + 1)) kr (congrArg (fun z => Value.int .i64 z) (show (((r.x1 - r.x0) + (r.y1 - r.y0)) + 1) = cellsV q.v hh r from by unfold cellsV; rw [if_neg (show ¬ q.v.kind = 1 from by simp only [Stage.v]; omega), if_neg (show ¬ q.v.kind = 2 from by simp only [Stage.v]; omega), if_neg (show ¬ q.v.kind = 3 from by simp only [Stage.v]; omega), if_neg (show ¬ q.v.kind = 4 from by simp only [Stage.v]; omega), if_pos (show q.v.kind = 5 from by simp only [Stage.v]; omega)]))), trivial⟩, a0⟩
 refine sR <| pu2 <| nT ?_
 refine cE q.kind 6 (fun s0 => ?_) (fun s0 => ?_)
 rotate_left
 ·refine skipE <| blockK_n <| thenK_n ?_
  exact ⟨(), ⟨(Eq.trans (b := I 0) kr (congrArg (fun z => Value.int .i64 z) (show (0 : Int) = cellsV q.v hh r from by exfalso; omega))), trivial⟩, a0⟩
 refine regionE <| pu2 <| nB ?_
 exact ⟨(), ⟨(Eq.trans (b := I (r.x1 - r.x0)) kr (congrArg (fun z => Value.int .i64 z) (show (r.x1 - r.x0) = cellsV q.v hh r from by unfold cellsV; rw [if_neg (show ¬ q.v.kind = 1 from by simp only [Stage.v]; omega), if_neg (show ¬ q.v.kind = 2 from by simp only [Stage.v]; omega), if_neg (show ¬ q.v.kind = 3 from by simp only [Stage.v]; omega), if_neg (show ¬ q.v.kind = 4 from by simp only [Stage.v]; omega), if_neg (show ¬ q.v.kind = 5 from by simp only [Stage.v]; omega)]))), trivial⟩, a0⟩
theorem p20_scratch (q : Stage) (s : Shape) (part : Int) (r : Rct) (hq : Stage.Ok [H] q) (hS : Sat W w (H :: F)) :
  Ro Tryz.prog 26 #[.agg (encStage q).toArray, .agg #[I s.w, I s.h, I s.max_], I part, .agg (encRct r).toArray] (I (scrV q.v s part r)) W w (H :: F) := by
 have hl_q_weights := hq.weights.le; have hn_q_weights := hq.weights.len
 have hl_q_row := hq.row.le; have hn_q_row := hq.row.len
 have hl_q_col := hq.col.le; have hn_q_col := hq.col.len
 have hl_q_x := hq.x.le; have hn_q_x := hq.x.len
 have hl_q_y := hq.y.le; have hn_q_y := hq.y.len
 have hl_q_ops := hq.ops.le; have hn_q_ops := hq.ops.len
 refine callsA 55 Tryz.func26 rfl ?_
 refine sR ?_
 refine sBox hS (.agg (encStage q).toArray) (encStage q).toArray ?_
 intro _ _ i0
 refine sBox i0 (.agg #[I s.w, I s.h, I s.max_]) #[I s.w, I s.h, I s.max_] ?_
 intro _ _ j0
 refine sBox j0 (.agg (encRct r).toArray) (encRct r).toArray ?_
 intro _ _ b0
 refine pu1 <| nT <| seqE <| sR ?_
 refine lA b0 2 0 18 (Tryz.isAgg38 _) (Tryz.sizeOf38 _) ?_
 refine lA b0 1 0 3 (Tryz.isAgg54 _) (Tryz.sizeOf54 _) ?_
 refine lA b0 1 0 3 (Tryz.isAgg54 _) (Tryz.sizeOf54 _) ?_
 refine cR Tryz.call65 (p15_of q s s ⟨(RdT.flat (hq.weights.up 3 (by rfl))), (RdT.flat (hq.row.up 3 (by rfl))), (RdT.flat (hq.col.up 3 (by rfl))), (RdT.flat (hq.x.up 3 (by rfl))), (fun z hz => (hq.xD z hz).of_mem (mem_flat1 3 (by rfl))), (RdT.flat (hq.y.up 3 (by rfl))), (fun z hz => (hq.yD z hz).of_mem (mem_flat1 3 (by rfl))), (RdT.flat (hq.ops.up 3 (by rfl)))⟩ (Sat.flat b0)) ?_
 intro _ k0
 refine pu3 ?_
 refine sAlloc k0 Tryz.zeroValue54 ?_
 intro _ _ l0
 refine sT l0 0 0 (.agg #[I ((ofV q.v s s).1.w), I ((ofV q.v s s).1.h), I ((ofV q.v s s).1.max_)]) [I ((ofV q.v s s).1.w), I ((ofV q.v s s).1.h), I ((ofV q.v s s).1.max_)] #[I ((ofV q.v s s).1.w), I ((ofV q.v s s).1.h), I ((ofV q.v s s).1.max_)] Tryz.sizeOf54 ?_
 intro _ c0
 refine pu1 <| nT <| sR <| pu2 <| nT ?_
 refine cN ((ofV q.v s s).2) 0 (fun f0 => ?_) (fun f0 => ?_)
 rotate_left
 ·refine sR <| pu1 <| nT <| retE <| thenK_r <| retT [I 0] ?_
  have m0 := (c0.drops [0, 0, 0, 0])
  have hz : scrV q.v s part r = 0 := scr_no (fun h => by
    obtain ⟨h1, h2, h3⟩ := h
    first | contradiction | omega | (exfalso; unfold inP at h3; omega) | (unfold inP at h3; unfold rvP cooP at *; omega))
  exact ⟨by rw [hz]; rfl, m0⟩
 refine kT <| seqE <| sR <| pu1 ?_
 refine sL c0 3 0 (I q.kind) (Tryz.isAgg3 _) ?_
 refine pu1 ?_
 refine cR Tryz.call66 (p20_belongs q.kind part (Sat.flat c0)) ?_
 intro _ d0
 refine pu1 <| nT ?_
 refine cDn (belongP q.kind part) (fun g0 => ?_) (fun g0 => ?_)
 rotate_left
 ·refine sR <| pu1 <| nT <| retE <| thenK_r <| retT [I 0] ?_
  have n0 := (d0.drops [0, 0, 0, 0])
  have hz : scrV q.v s part r = 0 := scr_no (fun h => by
    obtain ⟨h1, h2, h3⟩ := h
    first | contradiction | omega | (exfalso; unfold inP at h3; omega) | (unfold inP at h3; unfold rvP cooP at *; omega))
  exact ⟨by rw [hz]; rfl, n0⟩
 refine kT <| seqE <| sR ?_
 refine lA d0 1 0 4 (Tryz.isAgg44 _) (Tryz.sizeOf44 _) ?_
 refine cR Tryz.call67 (p2_empty r (Sat.flat d0)) ?_
 intro _ e0
 refine pu1 ?_
 refine sD 27 (r.x0 = 0 ∧ r.y0 = 0 ∧ r.x1 = 0 ∧ r.y1 = 0) (fun o0 => ?_) (fun o0 => ?_)
 ·refine pu4 <| nT <| cTt <| sR <| pu1 <| nT <| retE <| thenK_r <| retT [I 0] ?_
  have p0 := (e0.drops [0, 0, 0, 0])
  have hz : scrV q.v s part r = 0 := scr_no (fun h => by
    obtain ⟨h1, h2, h3⟩ := h
    first | contradiction | omega | (exfalso; unfold inP at h3; omega) | (unfold inP at h3; unfold rvP cooP at *; omega))
  exact ⟨by rw [hz]; rfl, p0⟩
 refine gY ?_
 refine lA e0 1 0 4 (Tryz.isAgg44 _) (Tryz.sizeOf44 _) ?_
 refine gY ?_
 refine cR Tryz.call68 (p2_valid r (Sat.flat e0)) ?_
 intro _ a0
 refine pu2 <| nT ?_
 refine cDn (rvP r) (fun h0 => ?_) (fun h0 => ?_)
 rotate_left
 ·refine sR <| pu1 <| nT <| retE <| thenK_r <| retT [I 0] ?_
  have q0 := (a0.drops [0, 0, 0, 0])
  have hz : scrV q.v s part r = 0 := scr_no (fun h => by
    obtain ⟨h1, h2, h3⟩ := h
    first | contradiction | omega | (exfalso; unfold inP at h3; omega) | (unfold inP at h3; unfold rvP cooP at *; omega))
  exact ⟨by rw [hz]; rfl, q0⟩
 refine kT <| seqE <| sR <| pu1 ?_
 refine sL a0 1 0 (I r.x0) (Tryz.isAgg3 _) ?_
 refine pu2 ?_
 refine sD 35 (r.x0 < 0) (fun r0 => ?_) (fun r0 => ?_)
 ·refine pu14 <| nT <| cTt <| sR <| pu1 <| nT <| retE <| thenK_r <| retT [I 0] ?_
  have s0 := (a0.drops [0, 0, 0, 0])
  have hz : scrV q.v s part r = 0 := scr_no (fun h => by
    obtain ⟨h1, h2, h3⟩ := h
    first | contradiction | omega | (exfalso; unfold inP at h3; omega) | (unfold inP at h3; unfold rvP cooP at *; omega))
  exact ⟨by rw [hz]; rfl, s0⟩
 refine pu1 <| gY ?_
 refine sL a0 1 1 (I r.y0) (Tryz.isAgg3 _) ?_
 refine pu3 ?_
 refine sD 40 (r.y0 < 0) (fun t0 => ?_) (fun t0 => ?_)
 ·refine pu9 <| nT <| cTt <| sR <| pu1 <| nT <| retE <| thenK_r <| retT [I 0] ?_
  have u0 := (a0.drops [0, 0, 0, 0])
  have hz : scrV q.v s part r = 0 := scr_no (fun h => by
    obtain ⟨h1, h2, h3⟩ := h
    first | contradiction | omega | (exfalso; unfold inP at h3; omega) | (unfold inP at h3; unfold rvP cooP at *; omega))
  exact ⟨by rw [hz]; rfl, u0⟩
 refine pu1 <| gY ?_
 refine sL a0 1 2 (I r.x1) (Tryz.isAgg3 _) ?_
 refine pu3 ?_
 refine sD 45 (r.x1 > 128) (fun v0 => ?_) (fun v0 => ?_)
 ·refine pu4 <| nT <| cTt <| sR <| pu1 <| nT <| retE <| thenK_r <| retT [I 0] ?_
  have w0 := (a0.drops [0, 0, 0, 0])
  have hz : scrV q.v s part r = 0 := scr_no (fun h => by
    obtain ⟨h1, h2, h3⟩ := h
    first | contradiction | omega | (exfalso; unfold inP at h3; omega) | (unfold inP at h3; unfold rvP cooP at *; omega))
  exact ⟨by rw [hz]; rfl, w0⟩
 refine pu1 <| gY ?_
 refine sL a0 1 3 (I r.y1) (Tryz.isAgg3 _) ?_
 refine pu2 <| nT ?_
 refine cD (r.y1 > 128) (fun z0 => ?_) (fun z0 => ?_)
 ·refine sR <| pu1 <| nT <| retE <| thenK_r <| retT [I 0] ?_
  have a1 := (a0.drops [0, 0, 0, 0])
  have hz : scrV q.v s part r = 0 := scr_no (fun h => by
    obtain ⟨h1, h2, h3⟩ := h
    first | contradiction | omega | (exfalso; unfold inP at h3; omega) | (unfold inP at h3; unfold rvP cooP at *; omega))
  exact ⟨by rw [hz]; rfl, a1⟩
 refine kT <| seqE ?_
 have hof : (ofV q.v s s).2 = 0 := f0
 have hbl : belongP q.kind part := g0
 have hrv : rvP r := h0; unfold rvP cooP at hrv
 have hin : inP r := by unfold inP; omega
 have hok := of_bytOK hof
 refine regionE ?_
 refine lA a0 3 0 18 (Tryz.isAgg38 _) (Tryz.sizeOf38 _) ?_
 refine pu1 ?_
 refine sL a0 2 1 (I s.h) (Tryz.isAgg3 _) ?_
 refine lA a0 1 0 4 (Tryz.isAgg44 _) (Tryz.sizeOf44 _) ?_
 refine cR Tryz.call69 (p20_bytes q s.h r ⟨(RdT.flat (hq.weights.up 4 (by rfl))), (RdT.flat (hq.row.up 4 (by rfl))), (RdT.flat (hq.col.up 4 (by rfl))), (RdT.flat (hq.x.up 4 (by rfl))), (fun z hz => (hq.xD z hz).of_mem (mem_flat1 4 (by rfl))), (RdT.flat (hq.y.up 4 (by rfl))), (fun z hz => (hq.yD z hz).of_mem (mem_flat1 4 (by rfl))), (RdT.flat (hq.ops.up 4 (by rfl)))⟩ hok hin (Sat.flat a0)) ?_
 intro _ b1
 refine pu1 <| nT <| retE <| retT [I (bytV q.v s.h r)] ?_
 have c1 := (b1.drops [0, 0, 0, 0])
 exact ⟨by unfold scrV; rw [if_pos ⟨hof, hbl, hin⟩]; rfl, c1⟩
theorem r20_scratch (q : Stage) (s : Shape) (part : Int) (r : Rct) (hq : Stage.Ok [H] q) (hS : Sat W w (H :: F)) :
  Ro Tryz.prog 27 #[.agg (encStage q).toArray, .agg #[I s.w, I s.h, I s.max_], I part, .agg (encRct r).toArray] (I (scrV q.v s part r)) W w (H :: F) := by
 have hl_q_weights := hq.weights.le; have hn_q_weights := hq.weights.len
 have hl_q_row := hq.row.le; have hn_q_row := hq.row.len
 have hl_q_col := hq.col.le; have hn_q_col := hq.col.len
 have hl_q_x := hq.x.le; have hn_q_x := hq.x.len
 have hl_q_y := hq.y.le; have hn_q_y := hq.y.len
 have hl_q_ops := hq.ops.le; have hn_q_ops := hq.ops.len
 refine callsA 123 Tryz.func27 rfl ?_
 refine sR ?_
 refine sBox hS (.agg (encStage q).toArray) (encStage q).toArray ?_
 intro h0 _ n0
 refine sBox n0 (.agg #[I s.w, I s.h, I s.max_]) #[I s.w, I s.h, I s.max_] ?_
 intro i0 _ o0
 refine sBox o0 (.agg (encRct r).toArray) (encRct r).toArray ?_
 intro c0 _ e0
 refine pu1 <| nT <| seqE <| sR ?_
 refine lA e0 2 0 18 (Tryz.isAgg38 _) (Tryz.sizeOf38 _) ?_
 refine lA e0 1 0 3 (Tryz.isAgg54 _) (Tryz.sizeOf54 _) ?_
 refine lA e0 1 0 3 (Tryz.isAgg54 _) (Tryz.sizeOf54 _) ?_
 refine cR Tryz.call70 (r15_of q s s ⟨(RdT.flat (hq.weights.up 3 (by rfl))), (RdT.flat (hq.row.up 3 (by rfl))), (RdT.flat (hq.col.up 3 (by rfl))), (RdT.flat (hq.x.up 3 (by rfl))), (fun z hz => (hq.xD z hz).of_mem (mem_flat1 3 (by rfl))), (RdT.flat (hq.y.up 3 (by rfl))), (fun z hz => (hq.yD z hz).of_mem (mem_flat1 3 (by rfl))), (RdT.flat (hq.ops.up 3 (by rfl)))⟩ (Sat.flat e0)) ?_
 intro _ p0
 refine pu3 ?_
 refine sAlloc p0 Tryz.zeroValue54 ?_
 intro m0 _ q0
 refine sT q0 0 0 (.agg #[I ((ofV q.v s s).1.w), I ((ofV q.v s s).1.h), I ((ofV q.v s s).1.max_)]) [I ((ofV q.v s s).1.w), I ((ofV q.v s s).1.h), I ((ofV q.v s s).1.max_)] #[I ((ofV q.v s s).1.w), I ((ofV q.v s s).1.h), I ((ofV q.v s s).1.max_)] Tryz.sizeOf54 ?_
 intro _ j0
 refine pu1 <| nT ?_
 refine cutA (γ := Unit) (fun _ => [(4, Pt h0 0), (5, Pt i0 0), (7, Pt c0 0), (56, .bool (decide (¬ ((ofV q.v s s).2 = 0 ∧ belongP q.kind part ∧ (rvP r ∧ ¬ (r.x0 = 0 ∧ r.y0 = 0 ∧ r.x1 = 0 ∧ r.y1 = 0)) ∧ 0 ≤ r.x0 ∧ 0 ≤ r.y0 ∧ r.x1 ≤ 128 ∧ r.y1 ≤ 128))))]) (fun _ w => Sat W w ([(m0, .cells #[I ((ofV q.v s s).1.w), I ((ofV q.v s s).1.h), I ((ofV q.v s s).1.max_)] 54 (0, 0))] :: [(c0, .cells (encRct r).toArray 44 (0, 0))] :: [(i0, .cells #[I s.w, I s.h, I s.max_] 54 (0, 0))] :: [(h0, .cells (encStage q).toArray 38 (0, 0))] :: H :: F)) ?_ ?_
 ·refine regionE <| pu3 ?_
  refine sN 25 ((ofV q.v s s).2) 0 (fun r0 => ?_) (fun r0 => ?_)
  rotate_left
  ·refine pu16 <| pu15 <| nT ?_
   exact ⟨(), ⟨kr, kr, kr, (Eq.trans (b := .bool true) kr (congrArg Value.bool (decide_eq_true (p := ¬ ((ofV q.v s s).2 = 0 ∧ belongP q.kind part ∧ (rvP r ∧ ¬ (r.x0 = 0 ∧ r.y0 = 0 ∧ r.x1 = 0 ∧ r.y1 = 0)) ∧ 0 ≤ r.x0 ∧ 0 ≤ r.y0 ∧ r.x1 ≤ 128 ∧ r.y1 ≤ 128)) (by (first | omega | (simp_all; done) | (intro h_; obtain ⟨h1, h2, h3, h4, h5, h6, h7⟩ := h_; first | omega | contradiction | (exact absurd h3.1 ‹_›) | simp_all) | (simp_all <;> omega)))).symm)), trivial⟩, j0⟩
  refine pu1 <| gY ?_
  refine sL j0 3 0 (I q.kind) (Tryz.isAgg3 _) ?_
  refine pu1 <| gY ?_
  refine cR Tryz.call71 (r20_belongs q.kind part (Sat.flat j0)) ?_
  intro _ k0
  refine pu3 ?_
  refine sDn 32 (belongP q.kind part) (fun s0 => ?_) (fun s0 => ?_)
  rotate_left
  ·refine pu16 <| pu8 <| nT ?_
   exact ⟨(), ⟨kr, kr, kr, (Eq.trans (b := .bool true) kr (congrArg Value.bool (decide_eq_true (p := ¬ ((ofV q.v s s).2 = 0 ∧ belongP q.kind part ∧ (rvP r ∧ ¬ (r.x0 = 0 ∧ r.y0 = 0 ∧ r.x1 = 0 ∧ r.y1 = 0)) ∧ 0 ≤ r.x0 ∧ 0 ≤ r.y0 ∧ r.x1 ≤ 128 ∧ r.y1 ≤ 128)) (by (first | omega | (simp_all; done) | (intro h_; obtain ⟨h1, h2, h3, h4, h5, h6, h7⟩ := h_; first | omega | contradiction | (exact absurd h3.1 ‹_›) | simp_all) | (simp_all <;> omega)))).symm)), trivial⟩, k0⟩
  refine gY ?_
  refine lA k0 1 0 4 (Tryz.isAgg44 _) (Tryz.sizeOf44 _) ?_
  refine gY ?_
  refine cR Tryz.call72 (r2_full r (Sat.flat k0)) ?_
  intro _ b0
  refine pu3 ?_
  refine sDn 37 (rvP r ∧ ¬ (r.x0 = 0 ∧ r.y0 = 0 ∧ r.x1 = 0 ∧ r.y1 = 0)) (fun t0 => ?_) (fun t0 => ?_)
  rotate_left
  ·refine pu16 <| pu3 <| nT ?_
   exact ⟨(), ⟨kr, kr, kr, (Eq.trans (b := .bool true) kr (congrArg Value.bool (decide_eq_true (p := ¬ ((ofV q.v s s).2 = 0 ∧ belongP q.kind part ∧ (rvP r ∧ ¬ (r.x0 = 0 ∧ r.y0 = 0 ∧ r.x1 = 0 ∧ r.y1 = 0)) ∧ 0 ≤ r.x0 ∧ 0 ≤ r.y0 ∧ r.x1 ≤ 128 ∧ r.y1 ≤ 128)) (by (first | omega | (simp_all; done) | (intro h_; obtain ⟨h1, h2, h3, h4, h5, h6, h7⟩ := h_; first | omega | contradiction | (exact absurd h3.1 ‹_›) | simp_all) | (simp_all <;> omega)))).symm)), trivial⟩, b0⟩
  refine pu1 <| gY ?_
  refine sL b0 1 0 (I r.x0) (Tryz.isAgg3 _) ?_
  refine pu3 ?_
  refine sD 42 (r.x0 < 0) (fun u0 => ?_) (fun u0 => ?_)
  ·refine pu14 <| nT ?_
   exact ⟨(), ⟨kr, kr, kr, (Eq.trans (b := .bool true) kr (congrArg Value.bool (decide_eq_true (p := ¬ ((ofV q.v s s).2 = 0 ∧ belongP q.kind part ∧ (rvP r ∧ ¬ (r.x0 = 0 ∧ r.y0 = 0 ∧ r.x1 = 0 ∧ r.y1 = 0)) ∧ 0 ≤ r.x0 ∧ 0 ≤ r.y0 ∧ r.x1 ≤ 128 ∧ r.y1 ≤ 128)) (by (first | omega | (simp_all; done) | (intro h_; obtain ⟨h1, h2, h3, h4, h5, h6, h7⟩ := h_; first | omega | contradiction | (exact absurd h3.1 ‹_›) | simp_all) | (simp_all <;> omega)))).symm)), trivial⟩, b0⟩
  refine pu1 <| gY ?_
  refine sL b0 1 1 (I r.y0) (Tryz.isAgg3 _) ?_
  refine pu3 ?_
  refine sD 47 (r.y0 < 0) (fun v0 => ?_) (fun v0 => ?_)
  ·refine pu9 <| nT ?_
   exact ⟨(), ⟨kr, kr, kr, (Eq.trans (b := .bool true) kr (congrArg Value.bool (decide_eq_true (p := ¬ ((ofV q.v s s).2 = 0 ∧ belongP q.kind part ∧ (rvP r ∧ ¬ (r.x0 = 0 ∧ r.y0 = 0 ∧ r.x1 = 0 ∧ r.y1 = 0)) ∧ 0 ≤ r.x0 ∧ 0 ≤ r.y0 ∧ r.x1 ≤ 128 ∧ r.y1 ≤ 128)) (by (first | omega | (simp_all; done) | (intro h_; obtain ⟨h1, h2, h3, h4, h5, h6, h7⟩ := h_; first | omega | contradiction | (exact absurd h3.1 ‹_›) | simp_all) | (simp_all <;> omega)))).symm)), trivial⟩, b0⟩
  refine pu1 <| gY ?_
  refine sL b0 1 2 (I r.x1) (Tryz.isAgg3 _) ?_
  refine pu3 ?_
  refine sD 52 (r.x1 > 128) (fun w0 => ?_) (fun w0 => ?_)
  ·refine pu4 <| nT ?_
   exact ⟨(), ⟨kr, kr, kr, (Eq.trans (b := .bool true) kr (congrArg Value.bool (decide_eq_true (p := ¬ ((ofV q.v s s).2 = 0 ∧ belongP q.kind part ∧ (rvP r ∧ ¬ (r.x0 = 0 ∧ r.y0 = 0 ∧ r.x1 = 0 ∧ r.y1 = 0)) ∧ 0 ≤ r.x0 ∧ 0 ≤ r.y0 ∧ r.x1 ≤ 128 ∧ r.y1 ≤ 128)) (by (first | omega | (simp_all; done) | (intro h_; obtain ⟨h1, h2, h3, h4, h5, h6, h7⟩ := h_; first | omega | contradiction | (exact absurd h3.1 ‹_›) | simp_all) | (simp_all <;> omega)))).symm)), trivial⟩, b0⟩
  refine pu1 <| gY ?_
  refine sL b0 1 3 (I r.y1) (Tryz.isAgg3 _) ?_
  refine pu2 <| nT ?_
  exact ⟨(), ⟨kr, kr, kr, (Eq.trans (b := .bool (decide ((r.y1 : Int) > 128))) kr (congrArg Value.bool (by rw [Bool.eq_iff_iff]; simp only [decide_eq_true_eq, beq_iff_eq, bne_iff_ne, ne_eq, Bool.not_eq_true', decide_eq_false_iff_not, gt_iff_lt, ge_iff_le, Bool.and_eq_true, Bool.or_eq_true, Bool.not_eq_eq_eq_not, Bool.not_true, Bool.and_eq_false_imp, beq_eq_false_iff_ne] <;> (first | omega | (simp_all; done) | (simp_all <;> omega) | (constructor <;> intro h_ <;> simp_all <;> omega))))), trivial⟩, b0⟩
 rintro _ ρ _ d0
 refine cD (¬ ((ofV q.v s s).2 = 0 ∧ belongP q.kind part ∧ (rvP r ∧ ¬ (r.x0 = 0 ∧ r.y0 = 0 ∧ r.x1 = 0 ∧ r.y1 = 0)) ∧ 0 ≤ r.x0 ∧ 0 ≤ r.y0 ∧ r.x1 ≤ 128 ∧ r.y1 ≤ 128)) (fun l0 => ?_) (fun l0 => ?_)
 ·refine sR <| pu1 <| nT <| retE <| thenK_r <| retT [I 0] ?_
  have z0 := (d0.drops [0, 0, 0, 0])
  have hz : scrV q.v s part r = 0 := scr_no (fun h => l0 ⟨h.1, h.2.1, ⟨by have := h.2.2; unfold inP at this; unfold rvP cooP; omega, by have := h.2.2; unfold inP at this; omega⟩, by have := h.2.2; unfold inP at this; omega⟩)
  exact ⟨by rw [hz]; rfl, z0⟩
 refine kT <| seqE ?_
 obtain ⟨hof, hbl, hrv, hi0⟩ := Classical.not_not.1 l0
 have hrv1 := hrv.1; have hrv2 := hrv.2; unfold rvP cooP at hrv1; have hin : inP r := by unfold inP; omega
 have hk := of_bytOK hof; have hcb := cells_bd (h := s.h) hk hin; have hk0 := hk; unfold bytOK at hk0; simp only [Stage.v] at hk0; have hnc := hn_q_col; rw [hnc] at hk0; have hr0 := hin; unfold inP at hr0; have hr := hin
 refine drawE [] [(1, ⟨c0, 2, none⟩, I r.x1), (3, ⟨c0, 0, none⟩, I r.x0), (6, ⟨c0, 3, none⟩, I r.y1), (8, ⟨c0, 1, none⟩, I r.y0)] [(true, [0, 2, 5, 7]), (true, [1]), (true, [3]), (true, [4]), (true, [10]), (true, [6]), (true, [8]), (true, [9]), (true, [11])] rfl kr ⟨.inr (d0.cell 1 rfl rfl), .inr (d0.cell 1 rfl rfl), .inr (d0.cell 1 rfl rfl), .inr (d0.cell 1 rfl rfl), trivial⟩ ?_
 have a0 := d0.drew
 refine wU [0, 2, 5, 7] ?_
 refine wLd (I r.x1) 0 Tryz.isAgg3 ?_
 refine wLd (I r.x0) 1 Tryz.isAgg3 ?_
 refine wSub r.x1 r.x0 ?_
 refine wU [10] ?_
 refine wLd (I r.y1) 2 Tryz.isAgg3 ?_
 refine wLd (I r.y0) 3 Tryz.isAgg3 ?_
 refine wSub r.y1 r.y0 ?_
 refine wU [11] ?_
 refine wN ?_
 refine thenK_n <| sR <| pu1 <| nT ?_
 refine cutA (γ := Unit) (fun _ => [(13, I (cellsV q.v s.h r))]) (fun _ w => Sat W w ([(m0, .cells #[I ((ofV q.v s s).1.w), I ((ofV q.v s s).1.h), I ((ofV q.v s s).1.max_)] 54 (0, 0))] :: [(c0, .cells (encRct r).toArray 44 (0, 0))] :: [(i0, .cells #[I s.w, I s.h, I s.max_] 54 (0, 0))] :: [(h0, .cells (encStage q).toArray 38 (0, 0))] :: H :: F)) ?_ ?_
 rotate_left
 ·rintro _ ρ _ a1
  refine sR <| pu1 ?_
  refine sMul 8 (cellsV q.v s.h r) ?_
  refine cR Tryz.call56 (r1_align (8 * (cellsV q.v s.h r)) 16 1099511627776 (od) (Sat.flat a1)) ?_
  intro _ b1
  refine pu5 <| nT <| sR <| pu2 <| nT <| retE <| retT [I (alnX (8 * (cellsV q.v s.h r)) 16 1099511627776)] ?_
  have c1 := (b1.drops [0, 0, 0, 0])
  exact ⟨by unfold scrV; rw [if_pos ⟨hof, hbl, hin⟩]; unfold bytV; rw [← aln_ok (l := 1099511627776) om om]; rfl, c1⟩
 refine sR <| pu1 ?_
 refine sL a0 3 0 (I q.kind) (Tryz.isAgg3 _) ?_
 refine nT <| blockE <| sR <| pu2 <| nT ?_
 refine cE q.kind 1 (fun d1 => ?_) (fun d1 => ?_)
 ·refine regionE <| pu2 ?_
  refine sL a0 3 6 (I q.kW) (Tryz.isAgg3 _) ?_
  refine sAdd (r.x1 - r.x0) q.kW ?_
  refine sSub ((r.x1 - r.x0) + q.kW) 1 ?_
  refine pu2 ?_
  refine sL a0 3 7 (I q.kH) (Tryz.isAgg3 _) ?_
  refine sAdd (r.y1 - r.y0) q.kH ?_
  refine sSub ((r.y1 - r.y0) + q.kH) 1 ?_
  have hml1 := mul_bd (a := (((r.x1 - r.x0) + q.kW) - 1)) (b := (((r.y1 - r.y0) + q.kH) - 1)) (A := 300) (B := 300) om om
  refine sMul (((r.x1 - r.x0) + q.kW) - 1) (((r.y1 - r.y0) + q.kH) - 1) ?_
  refine pu1 <| nB ?_
  exact ⟨(), ⟨(Eq.trans (b := I ((((r.x1 - r.x0) + q.kW) - 1) * (((r.y1 - r.y0) + q.kH) - 1))) kr (congrArg (fun z => Value.int .i64 z) (show ((((r.x1 - r.x0) + q.kW) - 1) * (((r.y1 - r.y0) + q.kH) - 1)) = cellsV q.v s.h r from by unfold cellsV; rw [if_pos (show q.v.kind = 1 from by simp only [Stage.v]; omega)]; rfl))), trivial⟩, a0⟩
 refine sR <| pu2 <| nT ?_
 refine cE q.kind 2 (fun e1 => ?_) (fun e1 => ?_)
 ·refine regionE <| pu3 ?_
  refine sL a0 3 10 (.slice q.col.a q.col.n q.col.k) (Tryz.isAgg22 _) ?_
  refine pu1 ?_
  refine sAdd (r.y1 - r.y0) ((q.col.n : Nat) : Int) ?_
  refine sSub ((r.y1 - r.y0) + ((q.col.n : Nat) : Int)) 1 ?_
  have hml2 := mul_bd (a := (r.x1 - r.x0)) (b := (((r.y1 - r.y0) + ((q.col.n : Nat) : Int)) - 1)) (A := 300) (B := 300) om om
  refine sMul (r.x1 - r.x0) (((r.y1 - r.y0) + ((q.col.n : Nat) : Int)) - 1) ?_
  refine pu1 <| nB ?_
  exact ⟨(), ⟨(Eq.trans (b := I ((r.x1 - r.x0) * (((r.y1 - r.y0) + ((q.col.n : Nat) : Int)) - 1))) kr (congrArg (fun z => Value.int .i64 z) (show ((r.x1 - r.x0) * (((r.y1 - r.y0) + ((q.col.n : Nat) : Int)) - 1)) = cellsV q.v s.h r from by unfold cellsV; rw [if_neg (show ¬ q.v.kind = 1 from by simp only [Stage.v]; omega), if_pos (show q.v.kind = 2 from by simp only [Stage.v]; omega), show q.v.col.length = q.col.n from hnc]))), trivial⟩, a0⟩
 refine sR <| pu2 <| nT ?_
 refine cE q.kind 3 (fun f1 => ?_) (fun f1 => ?_)
 ·refine regionE <| pu1 ?_
  refine lA a0 3 0 18 (Tryz.isAgg38 _) (Tryz.sizeOf38 _) ?_
  refine pu1 ?_
  refine sL a0 2 1 (I s.h) (Tryz.isAgg3 _) ?_
  refine pu1 ?_
  refine sL a0 1 1 (I r.y0) (Tryz.isAgg3 _) ?_
  refine pu1 ?_
  refine sL a0 1 3 (I r.y1) (Tryz.isAgg3 _) ?_
  refine cX Tryz.call73 (r16_rows q s.h r.y0 r.y1 ⟨(RdT.flat (hq.weights.up 4 (by rfl))), (RdT.flat (hq.row.up 4 (by rfl))), (RdT.flat (hq.col.up 4 (by rfl))), (RdT.flat (hq.x.up 4 (by rfl))), (fun z hz => (hq.xD z hz).of_mem (mem_flat1 4 (by rfl))), (RdT.flat (hq.y.up 4 (by rfl))), (fun z hz => (hq.yD z hz).of_mem (mem_flat1 4 (by rfl))), (RdT.flat (hq.ops.up 4 (by rfl)))⟩ (Sat.flat a0)) ?_
  rintro _ _ ⟨_, f0, _, _, rfl, g0, g1⟩
  have i1 := Sat.unflat1 g1
  have hn_az_41 := g0.len; have hl_az_41 := g0.le
  refine pu1 ?_
  have hrl := need_len (s := q.v) (n := s.h) (a := r.y0) (b := r.y1) (size := if q.v.kind = 2 then q.v.col.length else q.v.kH) (t := q.v.y); have hrn := (g0).len; unfold rowsV at hrn; have hml9 := mul_bd (a := (r.x1 - r.x0)) (b := ((f0 : Nat) : Int)) (A := 300) (B := 300) om om
  refine sMul (r.x1 - r.x0) ((f0 : Nat) : Int) ?_
  refine pu1 <| nB ?_
  have j1 := (i1.dropAt 0 rfl)
  have hrw := (g0).len
  exact ⟨(), ⟨(Eq.trans (b := I ((r.x1 - r.x0) * ((f0 : Nat) : Int))) kr (congrArg (fun z => Value.int .i64 z) (show ((r.x1 - r.x0) * ((f0 : Nat) : Int)) = cellsV q.v s.h r from by unfold cellsV; rw [if_neg (show ¬ q.v.kind = 1 from by simp only [Stage.v]; omega), if_neg (show ¬ q.v.kind = 2 from by simp only [Stage.v]; omega), if_pos (show q.v.kind = 3 from by simp only [Stage.v]; omega), hrw]))), trivial⟩, j1⟩
 refine sR <| pu2 <| nT ?_
 refine cE q.kind 4 (fun k1 => ?_) (fun k1 => ?_)
 ·refine regionE <| pu1 ?_
  refine sL a0 3 15 (I q.bins) (Tryz.isAgg3 _) ?_
  refine pu1 <| nB ?_
  exact ⟨(), ⟨(Eq.trans (b := I q.bins) kr (congrArg (fun z => Value.int .i64 z) (show q.bins = cellsV q.v s.h r from by unfold cellsV; rw [if_neg (show ¬ q.v.kind = 1 from by simp only [Stage.v]; omega), if_neg (show ¬ q.v.kind = 2 from by simp only [Stage.v]; omega), if_neg (show ¬ q.v.kind = 3 from by simp only [Stage.v]; omega), if_pos (show q.v.kind = 4 from by simp only [Stage.v]; omega)]; rfl))), trivial⟩, a0⟩
 refine sR <| pu2 <| nT ?_
 refine cE q.kind 5 (fun l1 => ?_) (fun l1 => ?_)
 rotate_left
 ·refine regionE <| pu2 <| nB ?_
  exact ⟨(), ⟨(Eq.trans (b := I (r.x1 - r.x0)) kr (congrArg (fun z => Value.int .i64 z) (show (r.x1 - r.x0) = cellsV q.v s.h r from by unfold cellsV; rw [if_neg (show ¬ q.v.kind = 1 from by simp only [Stage.v]; omega), if_neg (show ¬ q.v.kind = 2 from by simp only [Stage.v]; omega), if_neg (show ¬ q.v.kind = 3 from by simp only [Stage.v]; omega), if_neg (show ¬ q.v.kind = 4 from by simp only [Stage.v]; omega), if_neg (show ¬ q.v.kind = 5 from by simp only [Stage.v]; omega)]))), trivial⟩, a0⟩
 refine regionE <| pu2 ?_
 refine sAdd (r.x1 - r.x0) (r.y1 - r.y0) ?_
 refine sAdd ((r.x1 - r.x0) + (r.y1 - r.y0)) 1 ?_
 refine pu1 <| nB ?_
 exact ⟨(), ⟨(Eq.trans (b := I (((r.x1 - r.x0) + (r.y1 - r.y0)) + 1)) kr (congrArg (fun z => Value.int .i64 z) (show (((r.x1 - r.x0) + (r.y1 - r.y0)) + 1) = cellsV q.v s.h r from by unfold cellsV; rw [if_neg (show ¬ q.v.kind = 1 from by simp only [Stage.v]; omega), if_neg (show ¬ q.v.kind = 2 from by simp only [Stage.v]; omega), if_neg (show ¬ q.v.kind = 3 from by simp only [Stage.v]; omega), if_neg (show ¬ q.v.kind = 4 from by simp only [Stage.v]; omega), if_pos (show q.v.kind = 5 from by simp only [Stage.v]; omega)]))), trivial⟩, a0⟩
end Go.Proofs.YtdingplbadblpaaGreat

namespace Go.Proofs.YtdingplbadblpaaGreat
open Go Go.E
set_option linter.unusedVariables false
set_option linter.unusedSimpArgs false
set_option linter.unnecessarySimpa false
set_option maxRecDepth 100000
set_option maxHeartbeats 2000000
variable {W w : World} {H : Chunk} {F : List Chunk}

theorem tapsCode_side {l : List TapV} {n : Int} (h : tapsCode l n = 0) : 1 ≤ (l.length : Int) ∧ (l.length : Int) ≤ 128 := by
  unfold tapsCode at h
  split at h
  · omega
  · omega
theorem ofV_sz {q : StageV} {s t : Shape} (h : (ofV q s t).2 = 0) : szP (ofV q s t).1 := by
 unfold ofV at h ⊢
 split at h
 ·rename_i h1
  rw [if_pos h1]
  split at h
  ·rename_i h2
   rw [if_pos h2]
   split at h
   ·rename_i h3
    rw [if_pos h3]
    split at h
    ·rename_i h4
     rw [if_pos h4]
     have hs := h2.1
     unfold szP at hs
     clear h h1 h2 h3
     unfold kernelV at h4 ⊢
     split at h4
     ·rename_i k; rw [if_pos k]; unfold convCode at h4; unfold szP
      (repeat' split at h4) <;> first | (dsimp only; omega) | (exfalso; simp at h4; done) | (exfalso; omega)
     ·rename_i k1; rw [if_neg k1]
      split at h4
      ·rename_i k; rw [if_pos k]; unfold sepCode at h4; unfold szP
       (repeat' split at h4) <;> first | (dsimp only; omega) | (exfalso; simp at h4; done) | (exfalso; omega)
      ·rename_i k2; rw [if_neg k2]
       split at h4
       ·rename_i k; rw [if_pos k]; unfold resCode at h4; unfold szP
        split at h4
        ·rename_i e1; split at h4
         ·rename_i e2
          have l1 := tapsCode_side e1; have l2 := tapsCode_side e2
          (repeat' split at h4) <;> first | (dsimp only; omega) | (exfalso; simp at h4; done) | (exfalso; omega)
         ·rename_i e2; exact absurd h4 e2
        ·rename_i e1; exact absurd h4 e1
       ·rename_i k3; rw [if_neg k3]
        split at h4
        ·rename_i k; rw [if_pos k]; unfold szP
         split at h4
         ·rename_i k5; rw [if_pos k5]; have := mul_bd (a := s.w - 1) (b := s.h - 1) (A := s.w - 1) (B := s.h - 1) om om
          have e : (s.w - 1) * (s.h - 1) = s.w * s.h - s.w - s.h + 1 := by rw [Int.sub_mul, Int.mul_sub]; omega
          dsimp only; omega
         ·exfalso; simp at h4
        ·rename_i k4; rw [if_neg k4]
         split at h4
         ·rename_i k; rw [if_pos k]; unfold szP
          split at h4
          ·rename_i k5; rw [if_pos k5]; have h6 := of_decide_eq_true k5; have h7 : mostV s.w s.h s.max_ = s.w * s.h * s.max_ := by unfold mostV; rw [if_pos k5]
           have h8 : 0 < s.w * s.h := Int.mul_pos om om
           have h9 : 0 < s.w * s.h * s.max_ := Int.mul_pos h8 om
           dsimp only; rw [h7]; omega
          ·exfalso; simp at h4
         ·rename_i k5; rw [if_neg k5]; unfold szP
          split at h4
          ·rename_i k6; rw [if_pos k6]; unfold pwCode at k6
           split at h4
           ·exfalso; simp at h4
           ·rename_i k7; rw [if_neg k7]
            split at k6
            ·split at k6
             ·dsimp only; omega
             ·exfalso; omega
            ·exfalso; rename_i k8; exact k8 k6
          ·rename_i k6; exact absurd h4 k6
    ·rename_i h4; exact absurd h h4
   ·exfalso; simp at h
  ·exfalso; simp at h
 ·exfalso; simp at h
/-- Every stage's sources come before it. -/
def ordered (ni : Int) (S : List StageV) : Prop := ∀ (m : Nat) (s : StageV), S[m]? = some s → ∀ x ∈ srcs s, 0 ≤ x ∧ x < ni + m
structure Good (I : List PlaneV) (S : List StageV) (p : Int) : Prop where
  pl : I.all planeOK = true
  ni : 1 ≤ I.length ∧ I.length ≤ 2
  ns : S.length ≤ 8
  pr : 0 ≤ p ∧ p < 4
  od : ordered I.length S
theorem ordered_snoc {ni : Int} {S : List StageV} {s : StageV} (h : ordered ni S) (hs : ∀ x ∈ srcs s, 0 ≤ x ∧ x < ni + S.length) : ordered ni (S ++ [s]) := by
  intro m t ht
  by_cases hm : m < S.length
  · rw [List.getElem?_append_left hm] at ht
    exact h m t ht
  · rw [List.getElem?_append_right (by omega)] at ht
    have hm2 : m - S.length = 0 := by
      by_cases h0 : m - S.length = 0
      · exact h0
      · rw [List.getElem?_eq_none (by simp; omega)] at ht; cases ht
    rw [hm2] at ht
    simp at ht
    subst ht
    intro x hx
    have := hs x hx
    omega
theorem Good.snoc {I : List PlaneV} {S : List StageV} {p : Int} {s : StageV} (h : Good I S p) (hl : S.length + 1 ≤ 8) (hs : ∀ x ∈ srcs s, 0 ≤ x ∧ x < (I.length : Int) + S.length) : Good I (S ++ [s]) p :=
  ⟨h.pl, h.ni, by simp; omega, h.pr, ordered_snoc h.od hs⟩
end Go.Proofs.YtdingplbadblpaaGreat
