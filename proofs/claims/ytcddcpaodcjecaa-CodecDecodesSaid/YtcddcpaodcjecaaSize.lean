import Derived.Test.YtcddcpaodcjecaaSpoilJ
import Derived.Test.YtcddcpaodcjecaaL19
namespace Go.Proofs.Ytcddcpaodcjecaa
open Go Go.E
set_option linter.unusedVariables false
set_option linter.unusedSimpArgs false
set_option linter.unnecessarySimpa false
set_option maxRecDepth 100000
set_option maxHeartbeats 2000000

-- squeezed
theorem numS_wf {k : Nat} {z : Int} (h : numS k z) (hk : k ≤ 100) : WfI z := by unfold numS at h; unfold WfI; omega
theorem numB_wf {z : Int} (h : numB z) : WfI z := by unfold numB at h; unfold WfI; omega
theorem wfL_of {α : Type} {wf : α → Prop} {l : List α} (hl : l.length ≤ 1000000) (h : ∀ z ∈ l, wf z) : wfL wf l := ⟨by unfold WfI; omega, h⟩
theorem wfL_map {α β : Type} {wf : β → Prop} {f : α → β} {l : List α} (hl : l.length ≤ 1000000) (h : ∀ z ∈ l, wf (f z)) : wfL wf (l.map f) :=
  wfL_of (by rw [List.length_map]; exact hl) (fun y hy => by obtain ⟨z, hz, rfl⟩ := List.mem_map.1 hy; exact h z hz)
theorem tapB_wf {t : Tap} (h : tapB t) : wfTap t.v := ⟨numB_wf h.1, wfL_of (by have := h.2.1; simp only [Tap.v]; omega) (fun z hz => numB_wf (h.2.2 z hz))⟩
theorem planeS_wf {k : Nat} {q : Plane} (h : planeS k q) (hk : k ≤ 100) : wfPlane q.v :=
  ⟨numS_wf h.1.1 hk, numS_wf h.1.2.1 hk, numS_wf h.1.2.2 hk, wfL_of (by have := h.2.1; simp only [Plane.v]; omega) (fun z hz => numS_wf (h.2.2 z hz) hk)⟩
theorem stageB_wf {k : Nat} {q : Stage} (h : stageB k q) (hk : k ≤ 100) : wfStage q.v := by
 obtain ⟨⟨i0, i1, i2, i3, i4, i5, i6, i7, i8, i9, i10⟩, hw, hr, hc, hx, hy, ho⟩ := h
 have L : ∀ {l : List Int}, (l.length ≤ 64 ∧ ∀ z ∈ l, numB z) → wfL WfI l := fun h => wfL_of om (fun z hz => numB_wf (h.2 z hz))
 have T : ∀ {l : List Tap}, (l.length ≤ 6 + k ∧ ∀ z ∈ l, tapB z) → wfL wfTap (l.map Tap.v) := fun h => wfL_map om (fun z hz => tapB_wf (h.2 z hz))
 exact ⟨numB_wf i0, numB_wf i1, numB_wf i2, trivial, numB_wf i3, numB_wf i4, numB_wf i5, numB_wf i6, L hw, L hr, L hc, numB_wf i7, numB_wf i8, T hx, T hy, numB_wf i9,
  wfL_of (by have := ho.1; simp only [Stage.v]; omega) (fun z hz => ⟨numB_wf (ho.2 z hz).1, numB_wf (ho.2 z hz).2⟩), numB_wf i10⟩
theorem jobS_wf {k : Nat} {q : Job} (h : jobS k q) (hk : k ≤ 100) : wfJob q.v :=
  ⟨numB_wf h.2.2.2, wfL_map (by have := h.1.1; omega) (fun z hz => planeS_wf (h.1.2 z hz) hk), wfL_map (by have := h.2.1.1; omega) (fun z hz => stageB_wf (h.2.1.2 z hz) hk),
    wfL_of (by have := h.2.2.1.1; simp only [Job.v]; omega) (fun z hz => numB_wf (h.2.2.1.2 z hz))⟩
theorem flat_bd {α : Type} {f : α → List Int} {B : Nat} : ∀ {l : List α}, (∀ z ∈ l, (f z).length ≤ B) → (l.flatMap f).length ≤ l.length * B
  | [], _ => by simp
  | x :: l, h => by
    have h1 := h x (by simp)
    have h2 := flat_bd (l := l) (fun z hz => h z (by simp [hz]))
    simp only [List.flatMap_cons, List.length_append, List.length_cons, Nat.add_mul, Nat.one_mul]
    omega
theorem nTaps_bd {k : Nat} {l : List Tap} (h : l.length ≤ 6 + k ∧ ∀ z ∈ l, tapB z) (hk : k ≤ 10) : (nTaps (l.map Tap.v)).length ≤ 1 + 16 * 11 := by
  have h1 : ((l.map Tap.v).flatMap nTap).length ≤ (l.map Tap.v).length * 11 := flat_bd (fun z hz => by
    obtain ⟨t, ht, rfl⟩ := List.mem_map.1 hz
    rw [nTap_len]; have := (h.2 t ht).2.1; omega)
  rw [List.length_map] at h1
  simp only [nTaps, List.length_cons]
  omega
theorem nStage_bd {k : Nat} {q : Stage} (h : stageB k q) (hk : k ≤ 10) : (nStage q.v).length ≤ 700 := by
  obtain ⟨_, hw, hr, hc, hx, hy, ho⟩ := h
  rw [nStage_len, nOps_len]
  have h1 := nTaps_bd hx hk; have h2 := nTaps_bd hy hk
  omega
theorem nJob_bd {k : Nat} {q : Job} (h : jobS k q) (hk : k ≤ 10) : (nJob q.v).length ≤ 4000 := by
  rw [nJob_len]
  have h1 : (q.inputs.l.flatMap (fun x => nPlane x.v)).length ≤ q.inputs.l.length * 100 := flat_bd (fun z hz => by rw [nPlane_len]; have := (h.1.2 z hz).2.1; omega)
  have h2 : (q.stages.l.flatMap (fun x => nStage x.v)).length ≤ q.stages.l.length * 700 := flat_bd (fun z hz => nStage_bd (h.2.1.2 z hz) hk)
  have h3 := h.1.1; have h4 := h.2.1.1; have h5 := h.2.2.1.1
  omega
theorem enc_inj {x y : JobV} (hx : wfJob x) (hy : wfJob y) : ([84, 70, 1] ++ bytesOf (nJob x) = [84, 70, 1] ++ bytesOf (nJob y)) ↔ x = y := by
  constructor
  · intro h
    exact (pfJob x y [] [] hx hy (by simpa using h)).1
  · intro h; rw [h]
end Go.Proofs.Ytcddcpaodcjecaa
