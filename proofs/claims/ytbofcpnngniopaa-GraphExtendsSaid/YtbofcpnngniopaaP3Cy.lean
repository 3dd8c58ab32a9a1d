import Derived.Test.YtbofcpnngniopaaP3Gr3
import Derived.Test.YtbofcpnngniopaaP3Short
import Derived.Test.YtbofcpnngniopaaProg
namespace Go.Proofs.Ytbofcpnngniopaa
open Go Go.E
set_option linter.unusedVariables false
set_option linter.unusedSimpArgs false
set_option linter.unnecessarySimpa false
set_option maxRecDepth 100000
set_option maxHeartbeats 2000000
variable {W w : World} {H : Chunk} {F : List Chunk}
/-! ### the cycle that Cycle names -/
-- squeezed
def minV (f : Nat → Nat → Int) : Nat → Int × Int
  | 0 => (-1, 1000)
  | i + 1 => if f i i < (minV f i).2 then (((i : Nat) : Int), f i i) else minV f i
theorem minV_spec {f : Nat → Nat → Int} : ∀ (k : Nat), ((minV f k).1 = -1 ∧ (minV f k).2 = 1000 ∧ ∀ j, j < k → 1000 ≤ f j j) ∨ (∃ i, i < k ∧ (minV f k).1 = ((i : Nat) : Int) ∧ (minV f k).2 = f i i ∧ f i i < 1000 ∧ (∀ j, j < k → f i i ≤ f j j) ∧ ∀ j, j < i → f i i < f j j)
 | 0 => .inl ⟨rfl, rfl, fun j hj => by omega⟩
 | k + 1 => by
  unfold minV
  rcases minV_spec (f := f) k with ⟨h1, h2, h3⟩ | ⟨i, h1, h2, h3, h4, h5, h6⟩
  ·by_cases c : f k k < (minV f k).2
   ·right
    rw [if_pos c]
    refine ⟨k, om, rfl, rfl, om, fun j hj => ?_, fun j hj => ?_⟩
    ·by_cases e : j = k
     ·rw [e]; exact Int.le_refl _
     ·have := h3 j om; omega
    ·have := h3 j hj; omega
   ·left
    rw [if_neg c]
    refine ⟨h1, h2, fun j hj => ?_⟩
    by_cases e : j = k
    ·rw [e]; omega
    ·exact h3 j om
  ·right
   by_cases c : f k k < (minV f k).2
   ·rw [if_pos c]
    refine ⟨k, om, rfl, rfl, om, fun j hj => ?_, fun j hj => ?_⟩
    ·by_cases e : j = k
     ·rw [e]; exact Int.le_refl _
     ·have := h5 j om; omega
    ·have := h5 j hj; omega
   ·rw [if_neg c]
    refine ⟨i, om, h2, h3, h4, fun j hj => ?_, h6⟩
    by_cases e : j = k
    ·rw [e]; omega
    ·exact h5 j om
/-- The least of the numbers of which f is lf. -/
def NX (f : Nat → Int) (lf : Int) (l : List Int) (n : Int) : Prop := n ∈ l ∧ f n.toNat = lf ∧ ∀ m ∈ l, f m.toNat = lf → n ≤ m
def nxtF (f : Nat → Int) (lf : Int) : List Int → Option Int
  | [] => none
  | x :: l => if f x.toNat = lf then (match nxtF f lf l with | none => some x | some y => some (min x y)) else nxtF f lf l
theorem nxt_none {f : Nat → Int} {lf : Int} : ∀ {l : List Int}, nxtF f lf l = none → ∀ m ∈ l, ¬ f m.toNat = lf
  | [], _ => fun m hm => by cases hm
  | x :: l, h => by
    unfold nxtF at h
    by_cases c : f x.toNat = lf
    · rw [if_pos c] at h; revert h; split <;> (intro h; cases h)
    · rw [if_neg c] at h
      intro m hm
      rcases List.mem_cons.1 hm with rfl | hm
      · exact c
      · exact nxt_none h m hm
theorem nxt_some {f : Nat → Int} {lf : Int} : ∀ {l : List Int} {n : Int}, nxtF f lf l = some n → NX f lf l n
 | [], n, h => by cases h
 | x :: l, n, h => by
  unfold nxtF at h
  by_cases c : f x.toNat = lf
  ·rw [if_pos c] at h
   revert h
   split
   ·rename_i hn
    intro h
    obtain rfl := Option.some.inj h
    refine ⟨List.mem_cons_self, c, fun m hm hf => ?_⟩
    rcases List.mem_cons.1 hm with rfl | hm
    ·exact Int.le_refl _
    ·exact absurd hf (nxt_none hn m hm)
   ·rename_i y hy
    intro h
    obtain rfl := Option.some.inj h
    have h1 := nxt_some hy
    refine ⟨?_, ?_, fun m hm hf => ?_⟩
    ·by_cases e : x ≤ y
     ·rw [show min x y = x by omega]; exact List.mem_cons_self
     ·rw [show min x y = y by omega]; exact List.mem_cons_of_mem _ h1.1
    ·by_cases e : x ≤ y
     ·rw [show min x y = x by omega]; exact c
     ·rw [show min x y = y by omega]; exact h1.2.1
    ·rcases List.mem_cons.1 hm with rfl | hm
     ·omega
     ·have := h1.2.2 m hm hf; omega
  ·rw [if_neg c] at h
   have h1 := nxt_some h
   refine ⟨List.mem_cons_of_mem _ h1.1, h1.2.1, fun m hm hf => ?_⟩
   rcases List.mem_cons.1 hm with rfl | hm
   ·exact absurd hf c
   ·exact h1.2.2 m hm hf
theorem nxt_eq {f : Nat → Int} {lf : Int} {l : List Int} {n : Int} (h : NX f lf l n) : nxtF f lf l = some n := by
  cases hn : nxtF f lf l with
  | none => exact absurd h.2.1 (nxt_none hn n h.1)
  | some m =>
    have h1 := nxt_some hn
    have h2 := h.2.2 m h1.1 h1.2.1
    have h3 := h1.2.2 n h.1 h.2.1
    rw [show m = n by omega]
def wayF (f : Nat → Int) (S : Int → List Int) : Nat → Int → List Int
  | 0, _ => []
  | k + 1, a => (nxtF f (((k : Nat) : Int) + 1) (S a)).getD 0 :: wayF f S k ((nxtF f (((k : Nat) : Int) + 1) (S a)).getD 0)
theorem way_succ {f : Nat → Int} {S : Int → List Int} {a n lf : Int} (hlf : 0 < lf) (h : NX f lf (S a) n) : wayF f S lf.toNat a = n :: wayF f S (lf - 1).toNat n := by
  have e : lf.toNat = (lf - 1).toNat + 1 := by omega
  rw [e, wayF, show (((lf - 1).toNat : Nat) : Int) + 1 = lf by omega, nxt_eq h]; rfl
def srcG (ni : Nat) (D : List (List Int)) (a : Int) : List Int := D.getD (a - ((ni : Nat) : Int)).toNat []
def cycG (ni : Nat) (D : List (List Int)) : List Int :=
  if (minV (fwG (edgG ni D) 16) 16).1 < 0 then [] else (minV (fwG (edgG ni D) 16) 16).1 :: wayF (fun x => fwG (edgG ni D) 16 x (minV (fwG (edgG ni D) 16) 16).1.toNat) (srcG ni D) ((minV (fwG (edgG ni D) 16) 16).2 - 1).toNat (minV (fwG (edgG ni D) 16) 16).1
theorem fw_stage {ni N a b : Nat} {D : List (List Int)} (h : fwG (edgG ni D) N a b < 1000) : ni ≤ a ∧ a < ni + D.length := by
  obtain ⟨y, hy⟩ := walk_out (fw_sound h)
  exact edg_src a y hy
/-- A shortest way goes on. -/
theorem fw_next {ni a b : Nat} {D : List (List Int)} {lf : Int} (hR : RngG ni D) (hN : ni + D.length ≤ 16) (h : fwG (edgG ni D) 16 a b = lf + 1) (h1 : 1 ≤ lf) (h2 : lf + 1 < 1000) :
  ∃ c ∈ srcG ni D ((a : Nat) : Int), 0 ≤ c ∧ fwG (edgG ni D) 16 c.toNat b = lf := by
 obtain ⟨M, _, hM⟩ := lst_ex (fw_sound (e := edgG ni D) (k := 16) (a := a) (b := b) om)
 have hlt := lst_lt edg_src hM
 have e1 := lst_fw (edg_dst hR hN) hM om
 obtain ⟨L, rfl⟩ : ∃ L, M = L + 1 := ⟨M - 1, om⟩
 obtain ⟨c, hc1, hc2⟩ := lst_next hM
 have e2 := lst_fw (edg_dst hR hN) hc2 om
 obtain ⟨ha, s, hs, hm⟩ := edg_iff.1 hc1
 refine ⟨((c : Nat) : Int), ?_, om, by rw [Int.toNat_natCast, e2]; omega⟩
 unfold srcG
 rw [show (((a : Nat) : Int) - ((ni : Nat) : Int)).toNat = a - ni by omega, List.getD_eq_getElem?_getD, hs]; exact hm
/-- The way so far. -/
def WF (ni : Nat) (D : List (List Int)) (rt : Nat) (zs : List Int) (a lf : Int) : Prop :=
  (0 ≤ lf ∧ lf + 1 < 1000 ∧ 0 ≤ a) ∧ fwG (edgG ni D) 16 a.toNat rt = lf + 1 ∧ cycG ni D = zs ++ wayF (fun x => fwG (edgG ni D) 16 x rt) (srcG ni D) lf.toNat a
theorem WF.start {ni : Nat} {D : List (List Int)} {rt bs : Int} (hm : minV (fwG (edgG ni D) 16) 16 = (rt, bs)) (h : ¬ rt < 0) : WF ni D rt.toNat [rt] rt (bs - 1) ∧ 1 ≤ bs ∧ bs < 1000 ∧ 0 ≤ rt ∧ rt < 16 := by
  have hs := minV_spec (f := fwG (edgG ni D) 16) 16
  rw [hm] at hs
  rcases hs with ⟨h1, _⟩ | ⟨i, h1, h2, h3, h4, _⟩
  · simp only at h1; omega
  · simp only at h2 h3
    have hp := fw_pos (e := edgG ni D) (k := 16) (a := i) (b := i)
    refine ⟨⟨by omega, ?_, ?_⟩, by omega, by omega, by omega, by omega⟩
    · rw [show rt.toNat = i by omega]; omega
    · unfold cycG
      rw [hm]; simp only
      rw [if_neg h]; rfl
theorem WF.stage {ni rt : Nat} {D : List (List Int)} {zs : List Int} {a lf : Int} (h : WF ni D rt zs a lf) : ((ni : Nat) : Int) ≤ a ∧ a < ((ni : Nat) : Int) + ((D.length : Nat) : Int) := by
  have h1 := h.1; have h2 := h.2.1
  have := fw_stage (ni := ni) (D := D) (N := 16) (a := a.toNat) (b := rt) (by omega)
  omega
theorem WF.step {ni rt : Nat} {D : List (List Int)} {zs : List Int} {a lf n : Int} (h : WF ni D rt zs a lf) (hlf : 0 < lf) (hn : 0 ≤ n) (hN : NX (fun x => fwG (edgG ni D) 16 x rt) lf (srcG ni D a) n) : WF ni D rt (zs ++ [n]) n (lf - 1) := by
  refine ⟨by have := h.1; omega, ?_, ?_⟩
  · have h1 : fwG (edgG ni D) 16 n.toNat rt = lf := hN.2.1
    rw [h1]; omega
  · rw [h.2.2, way_succ hlf hN, List.append_assoc]; rfl
theorem WF.ex {ni rt : Nat} {D : List (List Int)} {zs : List Int} {a lf : Int} (h : WF ni D rt zs a lf) (hR : RngG ni D) (hN : ni + D.length ≤ 16) (hlf : 0 < lf) : ∃ c ∈ srcG ni D a, 0 ≤ c ∧ fwG (edgG ni D) 16 c.toNat rt = lf := by
  have h1 := h.1
  have := fw_next hR hN h.2.1 (by omega) (by omega)
  rw [show ((a.toNat : Nat) : Int) = a by omega] at this; exact this
theorem WF.fin {ni rt : Nat} {D : List (List Int)} {zs : List Int} {a lf : Int} (h : WF ni D rt zs a lf) (hlf : lf = 0) : cycG ni D = zs := by
  subst hlf
  rw [h.2.2]; simp [wayF]
theorem cyc_none {ni : Nat} {D : List (List Int)} {rt bs : Int} (hm : minV (fwG (edgG ni D) 16) 16 = (rt, bs)) (h : rt < 0) : cycG ni D = [] := by
  unfold cycG; rw [hm]; simp only; rw [if_pos h]
/-- The first hit in a sorted list. -/
theorem NX.of {f : Nat → Int} {lf : Int} {l ys : List Int} {m : Nat} {x : Int} (hp : ys.Perm l) (hs : ∀ (i j : Nat) (u v : Int), i < j → ys[i]? = some u → ys[j]? = some v → u ≤ v) (hx : ys[m]? = some x) (hf : f x.toNat = lf) (hno : ∀ u ∈ ys.take m, ¬ f u.toNat = lf) : NX f lf l x := by
  refine ⟨hp.mem_iff.1 (List.mem_of_getElem? hx), hf, fun u hu huf => ?_⟩
  obtain ⟨k, hk⟩ := List.mem_iff_getElem?.1 (hp.mem_iff.2 hu)
  by_cases c : k < m
  · refine absurd huf (hno u (List.mem_iff_getElem?.2 ⟨k, ?_⟩))
    rw [List.getElem?_take, if_pos c]; exact hk
  · by_cases e : k = m
    · subst e; rw [hx] at hk; rw [Option.some.inj hk]; exact Int.le_refl _
    · exact hs m k x u (by omega) hx hk
def cycV (j : JobV) : List Int := if (ordV j).2 = 7 then cycG j.inputs.length (j.stages.map srcs) else []
theorem ord7_chk {j : JobV} (h : (ordV j).2 = 7) : chkCode j = 0 := by
  by_cases c : chkCode j = 0
  · exact c
  · have e : (ordV j).2 = chkCode j := by unfold ordV; rw [if_neg c]
    rw [e] at h
    unfold chkCode at h
    repeat (first | (split at h) | omega)
theorem chk_rng {j : JobV} (h : chkCode j = 0) : RngG j.inputs.length (j.stages.map srcs) := by
  intro s hs x hx
  obtain ⟨q, hq, rfl⟩ := List.mem_map.1 hs
  have := chk_srcs h hq x hx
  rw [List.length_map]; omega
theorem p17_cycle (p : Job) (hp : Job.Ok [H] p) (hb : p.inputs.n ≤ 1000000 ∧ p.stages.n ≤ 1000000 ∧ p.outputs.n ≤ 1000000) (hS : Sat W w (H :: F)) :
  Calls Try.prog 18 #[.agg (encJob p).toArray] w fun e w' => ∃ (az : Option Addr) (nz kz : Nat) (G : Chunk), e = .returned (.slice az nz kz) ∧ OwnT encI 3 1 az nz kz (cycV p.v) G ∧ Sat W w' (G :: H :: F) := by
 have hl_p_inputs := hp.inputs.le; have hn_p_inputs := hp.inputs.len
 have hl_p_stages := hp.stages.le; have hn_p_stages := hp.stages.len
 have hl_p_outputs := hp.outputs.le; have hn_p_outputs := hp.outputs.len
 have hmi : (p.inputs.l.map Plane.v).length = p.inputs.n := by simp [hn_p_inputs]
 have hms : (p.stages.l.map Stage.v).length = p.stages.n := by simp [hn_p_stages]
 refine callsA 84 Try.func18 rfl ?_
 refine sR ?_
 refine sBox hS (.agg (encJob p).toArray) (encJob p).toArray ?_
 intro e0 _ w0
 refine pu1 <| nT <| seqE <| sR ?_
 refine lA w0 0 0 4 (Try.isAgg28 _) (Try.sizeOf28 _) ?_
 refine cX Try.call8 (p17_order p ⟨(RdT.flat (hp.inputs.up 1 (by rfl))), (fun z hz => (hp.inputsD z hz).of_mem (mem_flat1 1 (by rfl))), (RdT.flat (hp.stages.up 1 (by rfl))), (fun z hz => (hp.stagesD z hz).of_mem (mem_flat1 1 (by rfl))), (RdT.flat (hp.outputs.up 1 (by rfl)))⟩ (od) (Sat.flat w0)) ?_
 rintro _ _ ⟨_, _, _, l0, rfl, x0, a1⟩
 have o0 := Sat.unflat1 a1
 have hn_az_7 := x0.len; have hl_az_7 := x0.le
 refine pu5 <| nT <| sR <| pu2 <| nT ?_
 refine cN ((ordV p.v).2) 7 (fun b1 => ?_) (fun b1 => ?_)
 rotate_left
 ·refine seqE ?_
  have hk : cycV p.v = [] := by unfold cycV; rw [if_neg om]
  refine regionE <| pu1 <| nT <| retE <| thenK_r <| retT [.slice none 0 0] ?_
  have c1 := (o0.drops [0, 0])
  have d1 : Sat W _ ([] :: H :: F) := Sat.nilc c1
  have hl : ([] : List Int) = cycV p.v := (by rw [hk])
  have hrd := OwnT.nil (enc := encI) (E := 3) (sz := 1) fR
  rw [hl] at hrd
  exact ⟨_, _, _, _, rfl, hrd, d1⟩
 refine kT <| seqE ?_
 have ho7 : (ordV p.v).2 = 7 := by omega
 have hch := ord7_chk ho7; have hlb := chk_len hch; have hlb2 : p.inputs.n + p.stages.n ≤ 16 := (by have h := hlb; simp only [Job.v] at h; omega)
 have hsr16 : ∀ z ∈ p.stages.l, ∀ x ∈ srcs z.v, 0 ≤ x ∧ x < 16 := fun z hz x hx => by have h := chk_srcs hch (s := z.v) (List.mem_map_of_mem hz) x hx; simp only [Job.v] at h; omega
 have hR : RngG p.inputs.n ((p.stages.l.map Stage.v).map srcs) := by have h := chk_rng hch; rw [show p.v.inputs.length = p.inputs.n from hmi] at h; exact h
 have hDl : ((p.stages.l.map Stage.v).map srcs).length = p.stages.n := by rw [List.length_map, hms]
 have hk0 : cycV p.v = cycG p.inputs.n ((p.stages.l.map Stage.v).map srcs) := by unfold cycV; rw [if_pos ho7, show p.v.inputs.length = p.inputs.n from hmi]; rfl
 refine regionE ?_
 refine lA o0 1 0 4 (Try.isAgg28 _) (Try.sizeOf28 _) ?_
 refine cX Try.call23 (p17_dist ⟨(RdT.flat (hp.inputs.up 2 (by rfl))), (fun z hz => (hp.inputsD z hz).of_mem (mem_flat1 2 (by rfl))), (RdT.flat (hp.stages.up 2 (by rfl))), (fun z hz => (hp.stagesD z hz).of_mem (mem_flat1 2 (by rfl))), (RdT.flat (hp.outputs.up 2 (by rfl)))⟩ hlb2 hsr16 (Sat.flat o0)) ?_
 rintro _ _ ⟨p0, rfl, f0, e1⟩
 have f1 := Sat.unflat e1; have hdl := f0.1
 refine sAlloc f1 Try.zeroValue65 ?_
 intro a0 _ g1
 have i1 : Sat W _ ((Tri a0 65 [] ((List.replicate 256 0).flatMap encI) []) :: l0 :: [(e0, .cells (encJob p).toArray 28 (0, 0))] :: H :: F) := sat_hd kr g1
 refine sST i1 0 (ints_len (List.length_replicate (n := 256))) (ints_len f0.1) ints_one Try.sizeOf65 ?_
 intro _ j1
 refine nT <| sR <| pu2 <| nT <| seqE <| sR <| pu1 <| nT <| blockE ?_
 refine loopA (γ := Nat × Int × Int) (fun ⟨i, rt, bs⟩ => [(1, Pt e0 0), (5, Pt a0 0), (24, I ((i : Nat) : Int)), (6, I rt), (7, I bs)]) (fun ⟨i, rt, bs⟩ w => Sat W w ((Tri a0 65 [] (p0.flatMap encI) []) :: l0 :: [(e0, .cells (encJob p).toArray 28 (0, 0))] :: H :: F) ∧ i ≤ 16 ∧ (minV (fwG (edgG p.inputs.n ((p.stages.l.map Stage.v).map srcs)) 16) i = (rt, bs))) (fun ⟨i, rt, bs⟩ => 16 - i) (0, -1, 1000) ⟨j1, om, by rfl⟩ ?_
 rintro ⟨i, rt, bs⟩ ρ _ ⟨g0, hi, hmin⟩
 refine sR <| pu1 <| nT <| seqE ?_
 refine cD (((i : Nat) : Int) < 16) (fun k1 => ?_) (fun k1 => ?_)
 ·refine kT <| seqE <| blockE <| sR <| pu2 <| nT <| sR <| pu2 ?_
  refine sIdxA (b := a0) (off := 0) ((i : Nat) : Int) i Try.runUnderlying65 Try.sizeOf64 ?_
  obtain ⟨h0, q0⟩ := at_some f0.1 (k := (i * 16 + i)) om
  have hd_x_27 : h0 = fwG (edgG p.inputs.n ((p.stages.l.map Stage.v).map srcs)) 16 i i := MX.at f0 q0 om om rfl
  have hd2_x_27 := fw_rng (e := (edgG p.inputs.n ((p.stages.l.map Stage.v).map srcs))) (k := 16) (a := i) (b := i)
  refine sIdxB (b := a0) (off := 0 + i * 16) ((i : Nat) : Int) i (0 + (i * 16 + i) * 1) Try.runUnderlying64 Try.sizeOf3 ?_
  refine sLp g0 (ptr_up 0 rfl (tri_el (sz := 1) (n0 := 0) fR q0)) 0 (I h0) (Try.isAgg3 _) ?_
  refine pu2 <| nT ?_
  refine cD (h0 < bs) (fun l1 => ?_) (fun l1 => ?_)
  rotate_left
  ·refine skipE <| blockK_n <| thenK_n <| regionE ?_
   refine sAdd ((i : Nat) : Int) 1 ?_
   refine pu1 <| nT ?_
   exact ⟨(i + 1, rt, bs), od, alA, g0, om, (by unfold minV; rw [hmin, ← hd_x_27, if_neg ‹_›])⟩
  refine drawE [] [(5, ⟨a0, 0 + (i * 16 + i) * 1, none⟩, I h0)] [(true, [0, 1, 2]), (true, [3]), (true, [4]), (true, [6]), (true, [5]), (true, [7])] rfl kr ⟨.inr (cell_up g0 0 rfl (k := 0) (tri_el (sz := 1) (n0 := 0) fR q0) rfl), trivial⟩ ?_
  have m1 := g0.drew
  refine wU [0, 1, 2] ?_
  refine wY (.pointer (some ⟨a0, 0 + i * 16, none⟩)) rfl (fun w _ => Y_idxA (b := a0) (off := 0) ((i : Nat) : Int) i Try.runUnderlying65 Try.sizeOf64) ?_
  refine wY (.pointer (some ⟨a0, 0 + (i * 16 + i) * 1, none⟩)) rfl (fun w _ => Y_idxB (b := a0) (off := 0 + i * 16) ((i : Nat) : Int) i (0 + (i * 16 + i) * 1) Try.runUnderlying64 Try.sizeOf3) ?_
  refine wU [6] ?_
  refine wLd (I h0) 0 Try.isAgg3 ?_
  refine wU [7] ?_
  refine wN ?_
  refine blockK_n <| thenK_n <| regionE ?_
  refine sAdd ((i : Nat) : Int) 1 ?_
  refine pu1 <| nT ?_
  exact ⟨(i + 1, ((i : Nat) : Int), h0), od, alA, m1, om, (by unfold minV; rw [hmin, ← hd_x_27, if_pos ‹_›])⟩
 refine exitE <| xB <| thenK_n <| seqE <| seqE ?_
 have hi16 : i = 16 := by omega
 have hmn : minV (fwG (edgG p.inputs.n ((p.stages.l.map Stage.v).map srcs)) 16) 16 = (rt, bs) := by rw [hi16] at hmin; exact hmin
 refine regionE <| pu2 <| nT ?_
 refine cD (rt < 0) (fun n1 => ?_) (fun n1 => ?_)
 ·refine seqE ?_
  have hk : cycV p.v = [] := by rw [hk0]; exact cyc_none hmn om
  refine regionE <| pu1 <| nT <| retE <| thenK_r <| retT [.slice none 0 0] ?_
  have o1 := (g0.drops [0, 0, 0])
  have p1 : Sat W _ ([] :: H :: F) := Sat.nilc o1
  have hl : ([] : List Int) = cycV p.v := (by rw [hk])
  have hrd := OwnT.nil (enc := encI) (E := 3) (sz := 1) fR
  rw [hl] at hrd
  exact ⟨_, _, _, _, rfl, hrd, p1⟩
 refine kT <| seqE ?_
 obtain ⟨hw0, hbs1, hbs2, hrt0, hrt1⟩ := WF.start hmn om
 refine regionE <| pu1 ?_
 refine sBS g0 #[I rt] Try.runUnderlying22 Try.sizeOf3 Try.zeroValue3 ?_
 intro r0 _ q1
 refine pu1 <| nT <| seqE <| sR <| pu2 ?_
 refine sSub bs 1 ?_
 refine pu2 <| nT <| blockE ?_
 have r1 := OwnT.blk (enc := encI) (sz := 1) (b := r0) (c := #[I rt]) (E := 3) (xs := [rt]) fR 1 rfl rfl rfl om
 refine loopA (γ := Nat × Int × Int × (List Int) × (Option Addr) × Nat × Nat × Chunk) (fun ⟨k, at_, lf, zs, azs, nzs, kzs, czs⟩ => [(1, Pt e0 0), (5, Pt a0 0), (6, I rt), (10, I at_), (11, I lf), (9, .slice azs nzs kzs)]) (fun ⟨k, at_, lf, zs, azs, nzs, kzs, czs⟩ w => Sat W w (czs :: (Tri a0 65 [] (p0.flatMap encI) []) :: l0 :: [(e0, .cells (encJob p).toArray 28 (0, 0))] :: H :: F) ∧ k ≤ (bs - 1).toNat ∧ (zs.length = k + 1) ∧ (lf = bs - 1 - ((k : Nat) : Int)) ∧ (WF p.inputs.n ((p.stages.l.map Stage.v).map srcs) rt.toNat zs at_ lf) ∧ OwnT encI 3 1 azs nzs kzs zs czs) (fun ⟨k, at_, lf, zs, azs, nzs, kzs, czs⟩ => ((bs - 1).toNat) - k) (0, rt, (bs - 1), [rt], (At r0 0), 1, 1, [(r0, .cells #[I rt] 3 (0, 0))]) ⟨q1, om, by rfl, om, hw0, r1⟩ ?_
 rintro ⟨k, at_, lf, zs, azs, nzs, kzs, czs⟩ ρ _ ⟨i0, hk, hzk, hlf, hW, hOzs⟩
 have hn_zs := hOzs.len; have hl_zs := hOzs.le
 have hst := hW.stage; have hW1 := hW.1; rw [hDl] at hst
 refine seqE <| sR <| pu2 <| nT ?_
 refine cD (lf > 0) (fun s1 => ?_) (fun s1 => ?_)
 rotate_left
 ·refine exitE <| xB <| thenK_n <| sR <| pu2 <| nT <| retE <| retT [.slice azs nzs kzs] ?_
  have hk : cycV p.v = zs := by rw [hk0]; exact hW.fin om
  have t1 := (i0.drops [1, 1, 1])
  have hl : zs = cycV p.v := (by rw [hk])
  have hrd := hOzs
  rw [hl] at hrd
  exact ⟨_, _, _, _, rfl, hrd, t1⟩
 refine kT <| seqE <| blockE <| sR <| pu1 ?_
 refine sL i0 3 1 (.slice p.stages.a p.stages.n p.stages.k) (Try.isAgg26 _) ?_
 refine pu2 ?_
 refine sL i0 3 0 (.slice p.inputs.a p.inputs.n p.inputs.k) (Try.isAgg25 _) ?_
 refine pu1 ?_
 refine sSub at_ ((p.inputs.n : Nat) : Int) ?_
 refine sIdx hp.stages (at_ - ((p.inputs.n : Nat) : Int)) Try.runUnderlying26 Try.sizeOf40 ?_
 intro b0 _ _ d0 u1
 refine sLpA i0 (u1.up 4 rfl) 0 (encStage b0) (Try.isAgg40 _) (Try.sizeOf40 _) ?_
 refine cX Try.call21 (p15_sources b0 ⟨(RdT.flat ((hp.stagesD b0 (List.mem_of_getElem? d0)).weights.up 4 (by rfl))), (RdT.flat ((hp.stagesD b0 (List.mem_of_getElem? d0)).row.up 4 (by rfl))), (RdT.flat ((hp.stagesD b0 (List.mem_of_getElem? d0)).col.up 4 (by rfl))), (RdT.flat ((hp.stagesD b0 (List.mem_of_getElem? d0)).x.up 4 (by rfl))), (fun z hz => ((hp.stagesD b0 (List.mem_of_getElem? d0)).xD z hz).of_mem (mem_flat1 4 (by rfl))), (RdT.flat ((hp.stagesD b0 (List.mem_of_getElem? d0)).y.up 4 (by rfl))), (fun z hz => ((hp.stagesD b0 (List.mem_of_getElem? d0)).yD z hz).of_mem (mem_flat1 4 (by rfl))), (RdT.flat ((hp.stagesD b0 (List.mem_of_getElem? d0)).ops.up 4 (by rfl)))⟩ (Sat.flat i0)) ?_
 rintro _ _ ⟨v1, j0, w1, _, rfl, s0, x1⟩
 have y1 := Sat.unflat1 x1
 have hn_az_49 := s0.len; have hl_az_49 := s0.le
 have i3 : 1 ≤ (srcs b0.v).length ∧ (srcs b0.v).length ≤ 2 := srcs_len _
 refine pu1 <| nilO ?_
 have hsg : srcG p.inputs.n ((p.stages.l.map Stage.v).map srcs) at_ = srcs b0.v := by unfold srcG; rw [List.getD_eq_getElem?_getD, map_at (f := srcs) (map_at (f := Stage.v) d0)]; rfl
 refine thenK_n <| sR <| pu1 ?_
 refine cX Try.call24 (q_sort s0 om y1) ?_
 rintro _ _ ⟨y0, z1, rfl, t0, m0, a2, b2⟩
 refine nilO ?_
 have hyl := m0.length_eq; have hyn := t0.len; have hyl2 := t0.le
 refine thenK_n <| seqE <| sR <| pu3 <| nT <| blockE ?_
 refine loopA (γ := Nat) (fun m => [(1, Pt e0 0), (5, Pt a0 0), (6, I rt), (11, I lf), (9, .slice azs nzs kzs), (64, .slice v1 j0 w1), (65, I ((j0 : Nat) : Int)), (66, I ((m : Nat) : Int)), (10, I at_)]) (fun m w => Sat W w (z1 :: czs :: (Tri a0 65 [] (p0.flatMap encI) []) :: l0 :: [(e0, .cells (encJob p).toArray 28 (0, 0))] :: H :: F) ∧ m ≤ j0 ∧ (∀ u ∈ y0.take m, ¬ fwG (edgG p.inputs.n ((p.stages.l.map Stage.v).map srcs)) 16 u.toNat rt.toNat = lf)) (fun m => j0 - m) 0 ⟨b2, om, by intro u hu; simp at hu⟩ ?_
 rintro m ρ _ ⟨k0, hm, hY⟩
 refine sR <| pu1 <| nT <| seqE ?_
 refine cD (((m : Nat) : Int) < ((j0 : Nat) : Int)) (fun c2 => ?_) (fun c2 => ?_)
 rotate_left
 ·refine exitE <| xB <| thenK_n ?_
  have hno : False := by
   obtain ⟨c, hc1, hc2, hc3⟩ := hW.ex hR om om
   rw [hsg] at hc1
   have h1 := hY c (by rw [List.take_of_length_le om]; exact m0.mem_iff.2 hc1)
   exact h1 hc3
  refine regionE <| pu2 ?_
  refine sBS k0 #[I at_] Try.runUnderlying22 Try.sizeOf3 Try.zeroValue3 ?_
  intro _ _ d2
  refine sApp (nb := 8) d2 hOzs 2 (RdT.blk (enc := encI) (sz := 1) (xs := [at_]) fR 1 0 rfl rfl rfl om) Try.underlying22 (i := Try.t3) kr fR ?_
  intro e2 f2 g2 _ h2 i2
  refine pu1 <| nB <| regionE <| pu1 ?_
  refine sSub lf 1 ?_
  refine pu1 <| nT ?_
  have j2 := (i2.drops [0, 0])
  exact ⟨(k + 1, at_, (lf - 1), (zs ++ [at_]), e2, (nzs + 1), f2, g2), od, alA, j2, om, by simp; omega, om, hno.elim, h2⟩
 refine kT <| seqE <| blockE <| sR ?_
 refine sIdxO t0 ((m : Nat) : Int) m Try.runUnderlying22 Try.sizeOf3 ?_
 intro c0 _ _ u0 k2 _
 have hy_x_65 := hsr16 b0 (List.mem_of_getElem? d0) c0 (m0.mem_iff.1 (List.mem_of_getElem? u0))
 refine sLp k0 (k2.up 0 rfl) 0 (I c0) (Try.isAgg3 _) ?_
 refine pu1 <| nT <| sR <| pu2 ?_
 refine sIdxA (b := a0) (off := 0) c0 (c0.toNat) Try.runUnderlying65 Try.sizeOf64 ?_
 obtain ⟨v0, z0⟩ := at_some f0.1 (k := ((c0.toNat) * 16 + (rt.toNat))) om
 have hd_x_71 : v0 = fwG (edgG p.inputs.n ((p.stages.l.map Stage.v).map srcs)) 16 (c0.toNat) (rt.toNat) := MX.at f0 z0 om om rfl
 have hd2_x_71 := fw_rng (e := (edgG p.inputs.n ((p.stages.l.map Stage.v).map srcs))) (k := 16) (a := (c0.toNat)) (b := (rt.toNat))
 refine sIdxB (b := a0) (off := 0 + (c0.toNat) * 16) rt (rt.toNat) (0 + ((c0.toNat) * 16 + (rt.toNat)) * 1) Try.runUnderlying64 Try.sizeOf3 ?_
 refine sLp k0 (ptr_up 2 rfl (tri_el (sz := 1) (n0 := 0) fR z0)) 0 (I v0) (Try.isAgg3 _) ?_
 refine pu2 <| nT ?_
 refine cE v0 lf (fun l2 => ?_) (fun l2 => ?_)
 rotate_left
 ·refine skipE <| blockK_n <| thenK_n <| regionE ?_
  refine sAdd ((m : Nat) : Int) 1 ?_
  refine pu1 <| nT ?_
  have hY2 : ∀ u ∈ y0.take (m + 1), ¬ fwG (edgG p.inputs.n ((p.stages.l.map Stage.v).map srcs)) 16 u.toNat rt.toNat = lf := by
   rw [take_succ_at u0]; intro u hu
   rcases List.mem_append.1 hu with h | h
   ·exact hY u h
   ·rw [List.mem_singleton.1 h, ← hd_x_71]; omega
  exact ⟨m + 1, od, alA, k0, om, hY2⟩
 refine seqE ?_
 have hN : NX (fun x => fwG (edgG p.inputs.n ((p.stages.l.map Stage.v).map srcs)) 16 x rt.toNat) lf (srcG p.inputs.n ((p.stages.l.map Stage.v).map srcs) at_) c0 := by rw [hsg]; exact NX.of m0 (fun i j u v hij hu hv => a2 i j u v hij (by have := (List.getElem?_eq_some_iff.1 hv).1; omega) hu hv) u0 (by rw [← hd_x_71]; omega) hY
 refine regionE <| pu2 <| nT ?_
 refine exitE <| blockK_y rfl <| xB ?_
 refine thenK_n <| regionE <| pu2 ?_
 refine sBS k0 #[I c0] Try.runUnderlying22 Try.sizeOf3 Try.zeroValue3 ?_
 intro _ _ m2
 refine sApp (nb := 8) m2 hOzs 2 (RdT.blk (enc := encI) (sz := 1) (xs := [c0]) fR 1 0 rfl rfl rfl om) Try.underlying22 (i := Try.t3) kr fR ?_
 intro n2 o2 p2 _ q2 r2
 refine pu1 <| nB <| regionE <| pu1 ?_
 refine sSub lf 1 ?_
 refine pu1 <| nT ?_
 have s2 := (r2.drops [0, 0])
 exact ⟨(k + 1, c0, (lf - 1), (zs ++ [c0]), n2, (nzs + 1), o2, p2), od, alA, s2, om, by simp; omega, om, (hW.step om om hN), q2⟩
end Go.Proofs.Ytbofcpnngniopaa

namespace Go.Proofs.Ytbofcpnngniopaa
open Go Go.E
set_option linter.unusedVariables false
set_option linter.unusedSimpArgs false
set_option linter.unnecessarySimpa false
set_option maxRecDepth 100000
set_option maxHeartbeats 2000000
variable {W w : World} {H : Chunk} {F : List Chunk}
/-! ### the reference's steps and Cycle -/
section
variable {ni t : Nat} {D : List (List Int)}
def PS (ni t : Nat) (D : List (List Int)) (L i : Nat) (xs : List Int) : Prop := xs.length = D.length ∧ ∀ j, j < D.length → xs.getD j 0 = if j < i then (rndG ni t D ((L : Nat) : Int) (stG ni t D (L - 1))).getD j 0 else (stG ni t D (L - 1)).getD j 0
theorem PS.start {L : Nat} {xs : List Int} (h : xs = stG ni t D (L - 1)) : PS ni t D L 0 xs := ⟨by rw [h, st_len], fun j _ => by rw [h, if_neg (by omega)]⟩
theorem getD_ext {xs ys : List Int} (h : xs.length = ys.length) (e : ∀ j, j < xs.length → xs.getD j 0 = ys.getD j 0) : xs = ys := by
  refine List.ext_getElem h fun j h1 h2 => ?_
  have := e j h1
  rw [List.getD_eq_getElem?_getD, List.getD_eq_getElem?_getD, List.getElem?_eq_getElem h1, List.getElem?_eq_getElem h2] at this
  exact this
theorem PS.fin {L i : Nat} {xs : List Int} (h : PS ni t D L i xs) (hi : i = D.length) (hL : 1 ≤ L) : xs = stG ni t D L := by
  refine getD_ext (by rw [h.1, st_len]) fun j hj => ?_
  rw [h.1] at hj
  rw [h.2 j hj, if_pos (by omega)]
  obtain ⟨k, rfl⟩ : ∃ k, L = k + 1 := ⟨L - 1, by omega⟩
  rw [show k + 1 - 1 = k by omega]
  show _ = (rndG ni t D _ _).getD j 0
  rw [show (((k + 1 : Nat)) : Int) = ((k : Nat) : Int) + 1 by omega]
def hitP (ni t : Nat) (L : Int) (xs : List Int) (x : Int) : Prop := ((ni : Nat) : Int) ≤ x ∧ ((L = 1 ∧ x - ((ni : Nat) : Int) = ((t : Nat) : Int)) ∨ (1 < L ∧ xs.getD (x - ((ni : Nat) : Int)).toNat 0 = L - 1))
theorem PS.same {L i : Nat} {xs : List Int} (h : PS ni t D L i xs) {s : Nat} (hs : s < D.length) (hL : 1 < L) : xs.getD s 0 = ((L : Nat) : Int) - 1 ↔ (stG ni t D (L - 1)).getD s 0 = ((L : Nat) : Int) - 1 := by
  rw [h.2 s hs]
  split
  · rw [rnd_at hs]
    split
    · rename_i h1; omega
    · exact Iff.rfl
  · exact Iff.rfl
def QS (ni t : Nat) (D : List (List Int)) (L i k : Nat) (s : List Int) (xs : List Int) : Prop :=
  (PS ni t D L i xs ∧ ∀ x ∈ s.take k, ¬ hitP ni t ((L : Nat) : Int) (stG ni t D (L - 1)) x) ∨ (PS ni t D L (i + 1) xs ∧ ¬ xs.getD i 0 = 0)
theorem QS.start {L i : Nat} {s xs : List Int} (h : PS ni t D L i xs) : QS ni t D L i 0 s xs := .inl ⟨h, fun x hx => by simp at hx⟩
theorem QS.len {L i k : Nat} {s xs : List Int} (h : QS ni t D L i k s xs) : xs.length = D.length := by rcases h with h | h <;> exact h.1.1
theorem hit_any {L : Int} {out s : List Int} : hitG ni t out L s = true ↔ ∃ x ∈ s, hitP ni t L out x := by
  unfold hitG hitP
  rw [List.any_eq_true]
  simp only [decide_eq_true_eq]
theorem QS.fin {L i k : Nat} {s xs : List Int} (h : QS ni t D L i k s xs) (hs : D[i]? = some s) (he : s.length ≤ k ∨ ¬ xs.getD i 0 = 0) : PS ni t D L (i + 1) xs := by
 rcases h with ⟨h1, h2⟩ | h
 ·refine ⟨h1.1, fun j hj => ?_⟩
  rw [h1.2 j hj]
  by_cases c : j < i
  ·rw [if_pos c, if_pos om]
  ·rw [if_neg c]
   by_cases e : j = i
   ·subst e
    rw [if_pos om, rnd_at hj]
    have hx := h1.2 j hj
    rw [if_neg c] at hx
    rw [if_neg]
    rintro ⟨h3, h4⟩
    rw [hx] at he
    rw [List.getD_eq_getElem?_getD, hs] at h4
    obtain ⟨x, hm, hp⟩ := hit_any.1 h4
    rcases he with he | he
    ·exact h2 x (by rw [List.take_of_length_le he]; exact hm) hp
    ·exact he h3
   ·rw [if_neg om]
 ·exact h.1
theorem QS.zero {L i k : Nat} {s xs : List Int} (h : QS ni t D L i k s xs) (hx : xs[i]? = some 0) : PS ni t D L i xs ∧ ∀ x ∈ s.take k, ¬ hitP ni t ((L : Nat) : Int) (stG ni t D (L - 1)) x := by
  rcases h with h | h
  · exact h
  · refine absurd ?_ h.2
    rw [List.getD_eq_getElem?_getD, hx]; rfl
end
/-- The reference's search for the best first stage. -/
def RB (ni : Nat) (D : List (List Int)) (i : Nat) (first best : Int) : Prop :=
  (first = -1 ∧ best = 0 ∧ minV (fwG (edgG ni D) 16) (ni + i) = (-1, 1000)) ∨ (0 ≤ first ∧ first < ((D.length : Nat) : Int) ∧ 1 ≤ best ∧ best < 1000 ∧ minV (fwG (edgG ni D) 16) (ni + i) = (((ni : Nat) : Int) + first, best))
theorem minV_in {ni : Nat} {D : List (List Int)} : ∀ (k : Nat), k ≤ ni → minV (fwG (edgG ni D) 16) k = (-1, 1000)
  | 0, _ => rfl
  | k + 1, h => by
    unfold minV
    rw [minV_in k (by omega), fw_input (.inl (by omega)), if_neg (by omega)]
theorem RB.start {ni : Nat} {D : List (List Int)} : RB ni D 0 (-1) 0 := .inl ⟨rfl, rfl, minV_in ni (Nat.le_refl _)⟩
theorem st_val {ni t i : Nat} {D : List (List Int)} (hR : RngG ni D) (hN : ni + D.length ≤ 16) (ht : t < D.length) (hi : i < D.length) :
    ((stG ni t D D.length).getD i 0 = 0 ∧ fwG (edgG ni D) 16 (ni + i) (ni + t) = 1000) ∨ (1 ≤ (stG ni t D D.length).getD i 0 ∧ (stG ni t D D.length).getD i 0 < 1000 ∧ fwG (edgG ni D) 16 (ni + i) (ni + t) = (stG ni t D D.length).getD i 0) := by
  rcases st_fw hR hN (Nat.le_refl _) ht hi with ⟨h1, h2, _⟩ | ⟨M, h0, h1, h2, _⟩
  · exact .inl ⟨h1, h2⟩
  · exact .inr ⟨by omega, by omega, by omega⟩
theorem RB.take {ni i : Nat} {D : List (List Int)} {first best v : Int} (h : RB ni D i first best) (hR : RngG ni D) (hN : ni + D.length ≤ 16) (hi : i < D.length) (hv : (stG ni i D D.length)[i]? = some v) (h0 : v > 0) (hc : first < 0 ∨ v < best) : RB ni D (i + 1) ((i : Nat) : Int) v := by
 have hd : (stG ni i D D.length).getD i 0 = v := by rw [List.getD_eq_getElem?_getD, hv]; rfl
 have hs := st_val hR hN hi hi
 rw [hd] at hs
 rcases hs with hs | hs
 ·omega
 ·refine .inr ⟨om, om, om, om, ?_⟩
  rw [show ni + (i + 1) = (ni + i) + 1 by omega]
  unfold minV
  rcases h with ⟨_, _, h3⟩ | ⟨h1, _, _, h4, h5⟩
  ·rw [h3, hs.2.2, if_pos (by show v < 1000; omega)]
   rw [show (((ni + i : Nat)) : Int) = ((ni : Nat) : Int) + ((i : Nat) : Int) by omega]
  ·rw [h5, hs.2.2, if_pos (by show v < best; omega)]
   rw [show (((ni + i : Nat)) : Int) = ((ni : Nat) : Int) + ((i : Nat) : Int) by omega]
theorem RB.skip {ni i : Nat} {D : List (List Int)} {first best v : Int} (h : RB ni D i first best) (hR : RngG ni D) (hN : ni + D.length ≤ 16) (hi : i < D.length) (hv : (stG ni i D D.length)[i]? = some v) (hc : ¬ (v > 0 ∧ (first < 0 ∨ v < best))) : RB ni D (i + 1) first best := by
 have hd : (stG ni i D D.length).getD i 0 = v := by rw [List.getD_eq_getElem?_getD, hv]; rfl
 have hs := st_val hR hN hi hi
 rw [hd] at hs
 have e : ∀ r : Int × Int, minV (fwG (edgG ni D) 16) (ni + i) = r → ¬ fwG (edgG ni D) 16 (ni + i) (ni + i) < r.2 → minV (fwG (edgG ni D) 16) (ni + (i + 1)) = r := by
  intro r hr hn
  rw [show ni + (i + 1) = (ni + i) + 1 by omega]
  unfold minV
  rw [hr, if_neg hn]
 rcases h with ⟨h1, h2, h3⟩ | ⟨h1, h2, h3, h4, h5⟩
 ·exact .inl ⟨h1, h2, e _ h3 (by simp only; omega)⟩
 ·exact .inr ⟨h1, h2, h3, h4, e _ h5 (by simp only; omega)⟩
theorem minV_out {ni : Nat} {D : List (List Int)} {r : Int × Int} (hr : r.2 ≤ 1000) : ∀ (k : Nat), minV (fwG (edgG ni D) 16) (ni + D.length) = r → minV (fwG (edgG ni D) 16) (ni + D.length + k) = r
  | 0, h => h
  | k + 1, h => by
    rw [show ni + D.length + (k + 1) = (ni + D.length + k) + 1 by omega]
    unfold minV
    rw [minV_out hr k h, fw_input (.inr (by omega)), if_neg (by omega)]
theorem RB.fin {ni i : Nat} {D : List (List Int)} {first best : Int} (h : RB ni D i first best) (hi : i = D.length) (hN : ni + D.length ≤ 16) :
  (first = -1 ∧ minV (fwG (edgG ni D) 16) 16 = (-1, 1000)) ∨ (0 ≤ first ∧ first < ((D.length : Nat) : Int) ∧ 1 ≤ best ∧ best < 1000 ∧ minV (fwG (edgG ni D) 16) 16 = (((ni : Nat) : Int) + first, best)) := by
 subst hi
 have e : ∀ r : Int × Int, r.2 ≤ 1000 → minV (fwG (edgG ni D) 16) (ni + D.length) = r → minV (fwG (edgG ni D) 16) 16 = r := by
  intro r hr hm
  have := minV_out hr (16 - (ni + D.length)) hm
  rw [show ni + D.length + (16 - (ni + D.length)) = 16 by omega] at this; exact this
 rcases h with ⟨h1, h2, h3⟩ | ⟨h1, h2, h3, h4, h5⟩
 ·exact .inl ⟨h1, e _ (by simp) h3⟩
 ·exact .inr ⟨h1, h2, h3, h4, e _ (by simp only; omega) h5⟩
/-- The reference's search for the next stage. -/
def NS (f : Nat → Int) (lf : Int) (s : List Int) (ni k : Nat) (nx : Int) : Prop :=
  (nx = -1 ∧ ∀ u ∈ s.take k, ¬ f u.toNat = lf) ∨ (0 ≤ nx ∧ NX f lf (s.take k) (((ni : Nat) : Int) + nx))
section
variable {f : Nat → Int} {lf nx x : Int} {s : List Int} {ni k : Nat}
theorem NS.start : NS f lf s ni 0 (-1) := .inl ⟨rfl, fun u hu => by simp at hu⟩
theorem NS.fin (h : NS f lf s ni k nx) (hk : s.length ≤ k) (he : ∃ c ∈ s, 0 ≤ c ∧ f c.toNat = lf) : 0 ≤ nx ∧ NX f lf s (((ni : Nat) : Int) + nx) := by
  unfold NS at h
  rw [List.take_of_length_le hk] at h
  rcases h with ⟨_, h2⟩ | h
  · obtain ⟨c, h3, _, h4⟩ := he
    exact absurd h4 (h2 c h3)
  · exact h
end
end Go.Proofs.Ytbofcpnngniopaa

namespace Go.Proofs.Ytbofcpnngniopaa
open Go Go.E
set_option linter.unusedVariables false
set_option linter.unusedSimpArgs false
set_option linter.unnecessarySimpa false
set_option maxRecDepth 100000
set_option maxHeartbeats 2000000
variable {W w : World} {H : Chunk} {F : List Chunk}
theorem tape_new {cs : List Chunk} (a : Option Addr) (n k : Nat) (hS : Sat W w cs) :
    Calls Try.prog 5 #[.slice a n k] w fun e w' => ∃ p : Nat, e = .returned (.pointer (some ⟨p, 0, none⟩)) ∧ Sat W w' ([(p, .cells #[.slice a n k, .int .i64 0] 47 (0, 0))] :: cs) := by
  refine callsA 6 Try.func5 rfl ?_
  refine seqE <| regionE <| pu1 <| nilO <| thenK_n <| seqE <| regionE <| pu2 ?_
  refine sBox hS (.agg #[.slice a n k, .int .i64 0]) #[.slice a n k, .int .i64 0] ?_
  intro b_1 w_2 hS_3
  refine pu1 <| nilO <| thenK_n <| retE <| retT [.pointer (some ⟨b_1, 0, none⟩)] <| ?_
  exact ⟨_, rfl, hS_3⟩

theorem tmod_bd (v n : Int) (h : 0 < n) : -n < v.tmod n ∧ v.tmod n < n := by
  have h1 := Int.tmod_lt_of_pos v h
  have h2 := Int.lt_tmod_of_pos v h
  omega
theorem mod_ok {cs : List Chunk} (v n : Int) (hn : 0 < n) (hn2 : n ≤ 4611686018427387904) (hS : Sat W w cs) :
  Calls Try.prog 7 #[I v, I n] w fun e w' => ∃ r : Int, e = .returned (I r) ∧ (0 ≤ r ∧ r < n) ∧ Sat W w' cs := by
 have hm := tmod_bd v n hn
 refine callsA 15 Try.func7 rfl ?_
 refine sR <| pu1 <| nT <| sR <| pu2 ?_
 refine sRem v n ?_
 refine pu1 <| nT <| seqE <| sR <| pu2 <| nT ?_
 refine cD ((v.tmod n) < 0) (fun a0 => ?_) (fun a0 => ?_)
 rotate_left
 ·refine kT <| sR <| pu2 <| nT <| retE <| retT [I (v.tmod n)] ?_
  exact ⟨_, rfl, om, hS⟩
 refine regionE <| pu2 ?_
 refine sAdd (v.tmod n) n ?_
 refine pu1 <| nT <| sR <| pu2 <| nT <| retE <| retT [I ((v.tmod n) + n)] ?_
 exact ⟨_, rfl, om, hS⟩
theorem tape_next {p : Nat} {a : Option Addr} {n k : Nat} {i : Int} {xs : List Int} (hR : RdT encI 1 [H] a n k xs) (hi : 0 ≤ i ∧ i ≤ n) (hS : Sat W w ([(p, .cells #[.slice a n k, I i] 47 (0, 0))] :: H :: F)) (m : Int) (hm : m ≤ 4611686018427387904) :
  Calls Try.prog 13 #[Pt p 0, I m] w fun e w' => ∃ r : Int, e = .returned (I r) ∧ (0 ≤ r ∧ (r < m ∨ r = 0)) ∧ ∃ i' : Int, (0 ≤ i' ∧ i' ≤ n) ∧ Sat W w' ([(p, .cells #[.slice a n k, I i'] 47 (0, 0))] :: H :: F) := by
 have hle := hR.le
 refine callsA 39 Try.func13 rfl ?_
 refine sR <| pu1 <| nT <| seqE <| seqE ?_
 by_cases e0 : (m : Int) < 1
 ·refine drawE [] [] [(true, [0, 1, 2]), (true, [3, 4, 5, 7, 8, 9, 6, 10, 11, 12, 13])] rfl kr trivial ?_
  have h0 := hS.drew
  refine wU [0, 1, 2] ?_
  refine wFix 7 _ true (decide_eq_true e0) ?_
  refine wU [3, 4, 5, 7, 8, 9, 6, 10, 11, 12, 13] ?_
  refine wN ?_
  refine thenK_n <| cTt <| sR <| pu1 <| nT <| retE <| thenK_r <| retT [I 0] ?_
  exact ⟨_, rfl, om, _, om, h0⟩
 refine drawE [] [(6, ⟨p, 1, none⟩, I i), (10, ⟨p, 0, none⟩, .slice a n k)] [(true, [0, 1, 2]), (true, [3, 4, 5, 7, 8, 9]), (true, [6]), (true, [10]), (true, [11, 12, 13])] rfl kr ⟨.inr (hS.cell 0 rfl rfl), .inr (hS.cell 0 rfl rfl), trivial⟩ ?_
 have b0 := hS.drew
 refine wU [0, 1, 2] ?_
 refine wFix 7 _ false (decide_eq_false e0) ?_
 refine wU [3, 4, 5, 7, 8, 9] ?_
 refine wLd (I i) 0 Try.isAgg3 ?_
 refine wLd (.slice a n k) 1 Try.isAgg22 ?_
 refine wU [11, 12, 13] ?_
 refine wN ?_
 refine thenK_n ?_
 refine cD (i ≥ ((n : Nat) : Int)) (fun i0 => ?_) (fun i0 => ?_)
 ·refine sR <| pu1 <| nT <| retE <| thenK_r <| retT [I 0] ?_
  exact ⟨_, rfl, om, _, om, b0⟩
 refine kT <| sR <| pu3 ?_
 refine sL b0 0 1 (I i) (Try.isAgg3 _) ?_
 refine sAdd i 1 ?_
 refine pu2 ?_
 refine sT1 b0 0 1 (I (i + 1)) #[.slice a n k, I (i + 1)] Try.sizeOf3 ?_
 intro _ a0
 refine nT <| seqE ?_
 obtain ⟨c0, f0, g0, o0, j0, k0⟩ := RdT.elem hR ((i + 1) - 1)
 refine drawE [12] [(3, ⟨p, 0, none⟩, .slice a n k), (7, ⟨p, 1, none⟩, I (i + 1)), (10, ⟨f0, g0, none⟩, I c0)] [(true, [0, 1, 2, 4, 5, 6, 11]), (true, [3]), (true, [7]), (true, [8]), (true, [9]), (true, [10]), (false, [12]), (true, [13])] rfl kr ⟨.inr (a0.cell 0 rfl rfl), .inr (a0.cell 0 rfl rfl), .inr ((j0.up 1 rfl).cell a0 (k := 0) rfl), trivial⟩ ?_
 have l0 := a0.drew
 refine wU [0, 1, 2, 4, 5, 6, 11] ?_
 refine wLd (.slice a n k) 0 Try.isAgg22 ?_
 refine wLd (I (i + 1)) 1 Try.isAgg3 ?_
 refine wSub (i + 1) 1 ?_
 refine wY (.pointer (some ⟨f0, g0, none⟩)) rfl (fun w _ => Y_idx (a := a) (i := ((i + 1) - 1)) (len := n) (cap := k) rfl Try.runUnderlying22 Try.sizeOf3 kr kr k0) ?_
 refine wLd (I c0) 2 Try.isAgg3 ?_
 refine wO rfl ?_
 refine cX Try.call7 (mod_ok c0 m om om l0) ?_
 rintro _ _ ⟨m0, rfl, _, d0⟩
 refine nilO ⟨⟨.inr (d0.cell 0 rfl rfl), .inr (d0.cell 0 rfl rfl), dI, trivial⟩, ?_⟩
 refine wU [13] ?_
 refine wN ?_
 refine thenK_n <| retE <| retT [I m0] ?_
 exact ⟨_, rfl, om, _, om, d0⟩
end Go.Proofs.Ytbofcpnngniopaa

namespace Go.Proofs.Ytbofcpnngniopaa
open Go Go.E
set_option linter.unusedVariables false
set_option linter.unusedSimpArgs false
set_option linter.unnecessarySimpa false
set_option maxRecDepth 100000
set_option maxHeartbeats 2000000
variable {W w : World} {H : Chunk} {F : List Chunk}

def numB (z : Int) : Prop := -4611686018427387904 ≤ z ∧ z ≤ 4611686018427387904
theorem nb {z : Int} (h : numB z := by unfold numB; first | omega | (dsimp only; omega)) : numB z := h
theorem mem_set {α : Type} {P : α → Prop} {l : List α} {i : Nat} {x : α} (h : ∀ z ∈ l, P z) (hx : P x) : ∀ z ∈ l.set i x, P z := by
  intro z hz
  rcases List.mem_or_eq_of_mem_set hz with h1 | h1
  · exact h z h1
  · rw [h1]; exact hx
theorem mem_snoc {α : Type} {P : α → Prop} {l : List α} {x : α} (h : ∀ z ∈ l, P z) (hx : P x) : ∀ z ∈ l ++ [x], P z := by
  intro z hz
  rcases List.mem_append.1 hz with h1 | h1
  · exact h z h1
  · simp only [List.mem_singleton] at h1; rw [h1]; exact hx

end Go.Proofs.Ytbofcpnngniopaa

namespace Go.Proofs.Ytbofcpnngniopaa
open Go Go.E
set_option linter.unusedVariables false
set_option linter.unusedSimpArgs false
set_option linter.unnecessarySimpa false
set_option maxRecDepth 100000
set_option maxHeartbeats 2000000
variable {W w : World} {H : Chunk} {F : List Chunk}

/-- Every stage's sources come before it. -/
def ordered (ni : Int) (S : List StageV) : Prop := ∀ (m : Nat) (s : StageV), S[m]? = some s → ∀ x ∈ srcs s, 0 ≤ x ∧ x < ni + m
def jobOf (I : List PlaneV) (S : List StageV) (p : Int) : JobV := ⟨I, S, [0], p⟩
structure Good (I : List PlaneV) (S : List StageV) (p : Int) : Prop where
  pl : I.all planeOK = true
  ni : 1 ≤ I.length ∧ I.length ≤ 2
  ns : S.length ≤ 8
  pr : 0 ≤ p ∧ p < 4
  od : ordered I.length S
/-- The stage that always fits. -/
def safe (a : Int) : StageV := ⟨6, a, -1, false, 0, 0, 0, 0, [], [], [], 0, 0, [], [], 0, [⟨0, 0⟩], 255⟩
theorem ordered_snoc {ni : Int} {S : List StageV} {s : StageV} (h : ordered ni S) (hs : ∀ x ∈ srcs s, 0 ≤ x ∧ x < ni + S.length) : ordered ni (S ++ [s]) := by
  intro m t ht
  by_cases hm : m < S.length
  · rw [List.getElem?_append_left hm] at ht
    exact h m t ht
  · rw [List.getElem?_append_right (by omega)] at ht
    have hm2 : m - S.length = 0 := by
      by_cases h0 : m - S.length = 0
      · exact h0
      · rw [List.getElem?_eq_none (by simp; omega)] at ht; cases ht
    rw [hm2] at ht
    simp at ht
    subst ht
    intro x hx
    have := hs x hx
    omega
theorem Good.snoc {I : List PlaneV} {S : List StageV} {p : Int} {s : StageV} (h : Good I S p) (hl : S.length + 1 ≤ 8) (hs : ∀ x ∈ srcs s, 0 ≤ x ∧ x < (I.length : Int) + S.length) : Good I (S ++ [s]) p :=
 ⟨h.pl, h.ni, by simp; omega, h.pr, ordered_snoc h.od hs⟩
end Go.Proofs.Ytbofcpnngniopaa

namespace Go.Proofs.Ytbofcpnngniopaa
open Go Go.E
set_option linter.unusedVariables false
set_option linter.unusedSimpArgs false
set_option linter.unnecessarySimpa false
set_option maxRecDepth 100000
set_option maxHeartbeats 2000000
variable {W w : World} {H : Chunk} {F : List Chunk}

end Go.Proofs.Ytbofcpnngniopaa

namespace Go.Proofs.Ytbofcpnngniopaa
open Go Go.E
set_option linter.unusedVariables false
set_option linter.unusedSimpArgs false
set_option linter.unnecessarySimpa false
set_option maxRecDepth 100000
set_option maxHeartbeats 2000000
variable {W w : World} {H : Chunk} {F : List Chunk}

end Go.Proofs.Ytbofcpnngniopaa

namespace Go.Proofs.Ytbofcpnngniopaa
open Go Go.E
set_option linter.unusedVariables false
set_option linter.unusedSimpArgs false
set_option linter.unnecessarySimpa false
set_option maxRecDepth 100000
set_option maxHeartbeats 2000000
variable {W w : World} {H : Chunk} {F : List Chunk}

end Go.Proofs.Ytbofcpnngniopaa

namespace Go.Proofs.Ytbofcpnngniopaa
open Go Go.E
set_option linter.unusedVariables false
set_option linter.unusedSimpArgs false
set_option linter.unnecessarySimpa false
set_option maxRecDepth 100000
set_option maxHeartbeats 2000000
variable {W w : World} {H : Chunk} {F : List Chunk}
theorem tg_copyJob (W w : World) (H : Chunk) (F : List Chunk) (j0 : Job) (hj0 : Job.Ok [H] j0) (hb : j0.inputs.n ≤ 1000 ∧ j0.stages.n ≤ 1000 ∧ j0.outputs.n ≤ 1000) (hS : Sat W w (H :: F)) :
  Calls Try.prog 9 #[.agg (encJob j0).toArray] w fun e w' => ∃ (a1 a2 a3 : Option Addr) (n1 k1 n2 k2 n3 k3 : Nat) (c1 c2 c3 : Chunk), e = .returned (.agg #[.slice a1 n1 k1, .slice a2 n2 k2, .slice a3 n3 k3, I j0.priority]) ∧ OwnT encPlane 61 4 a1 n1 k1 j0.inputs.l c1 ∧ OwnT encStage 40 18 a2 n2 k2 j0.stages.l c2 ∧ OwnT encI 3 1 a3 n3 k3 j0.outputs.l c3 ∧ Sat W w' (c1 :: c2 :: c3 :: H :: F) := by
 have hl_j0_inputs := hj0.inputs.le; have hn_j0_inputs := hj0.inputs.len
 have hl_j0_stages := hj0.stages.le; have hn_j0_stages := hj0.stages.len
 have hl_j0_outputs := hj0.outputs.le; have hn_j0_outputs := hj0.outputs.len
 refine callsA 19 Try.func9 rfl ?_
 refine sR ?_
 refine sBox hS (.agg (encJob j0).toArray) (encJob j0).toArray ?_
 intro _ _ m0
 refine sAlloc m0 Try.zeroValue28 ?_
 intro _ _ n0
 refine nT <| sR ?_
 refine sBS n0 #[] Try.runUnderlying25 Try.sizeOf61 Try.zeroValue61 ?_
 intro o0 _ g0
 refine pu1 ?_
 refine sL g0 2 0 (.slice j0.inputs.a j0.inputs.n j0.inputs.k) (Try.isAgg25 _) ?_
 have p0 := OwnT.blk (enc := encPlane) (sz := 4) (b := o0) (c := #[]) (E := 61) (xs := []) fR 0 rfl rfl rfl om
 refine sApp (nb := 48) g0 p0 0 (hj0.inputs.up 3 rfl) Try.underlying25 (i := Try.t61) kr fR ?_
 intro a0 b0 _ _ q0 r0
 refine pu1 ?_
 refine tW r0 2 0 (.slice a0 (0 + j0.inputs.n) b0) Try.sizeOf25 ?_
 intro _ s0
 refine nT <| sR ?_
 refine sBS s0 #[] Try.runUnderlying26 Try.sizeOf40 Try.zeroValue40 ?_
 intro t0 _ h0
 refine pu1 ?_
 refine sL h0 3 1 (.slice j0.stages.a j0.stages.n j0.stages.k) (Try.isAgg26 _) ?_
 have u0 := OwnT.blk (enc := encStage) (sz := 18) (b := t0) (c := #[]) (E := 40) (xs := []) fR 0 rfl rfl rfl om
 refine sApp (nb := 240) h0 u0 0 (hj0.stages.up 4 rfl) Try.underlying26 (i := Try.t40) kr fR ?_
 intro c0 d0 _ _ v0 w0
 refine pu1 ?_
 refine tW w0 3 1 (.slice c0 (0 + j0.stages.n) d0) Try.sizeOf26 ?_
 intro _ x0
 refine nT <| sR ?_
 refine sBS x0 #[] Try.runUnderlying22 Try.sizeOf3 Try.zeroValue3 ?_
 intro y0 _ i0
 refine pu1 ?_
 refine sL i0 4 2 (.slice j0.outputs.a j0.outputs.n j0.outputs.k) (Try.isAgg22 _) ?_
 have z0 := OwnT.blk (enc := encI) (sz := 1) (b := y0) (c := #[]) (E := 3) (xs := []) fR 0 rfl rfl rfl om
 refine sApp (nb := 8) i0 z0 0 (hj0.outputs.up 5 rfl) Try.underlying22 (i := Try.t3) kr fR ?_
 intro e0 f0 _ _ b1 d1
 refine pu1 ?_
 refine tW d1 4 2 (.slice e0 (0 + j0.outputs.n) f0) Try.sizeOf22 ?_
 intro _ k0
 refine nT <| sR ?_
 refine lA k0 4 0 4 (Try.isAgg28 _) (Try.sizeOf28 _) ?_
 refine sTw k0 3 [.slice a0 (0 + j0.inputs.n) b0, .slice c0 (0 + j0.stages.n) d0, .slice e0 (0 + j0.outputs.n) f0, I j0.priority] Try.sizeOf28 ?_
 intro _ l0
 refine nT <| retE <| retN (vs := [.agg #[.slice a0 (0 + j0.inputs.n) b0, .slice c0 (0 + j0.stages.n) d0, .slice e0 (0 + j0.outputs.n) f0, I j0.priority]]) rfl (.cons (.cell _ _ _ _ kr (lvA l0 3 0 [.slice a0 (0 + j0.inputs.n) b0, .slice c0 (0 + j0.stages.n) d0, .slice e0 (0 + j0.outputs.n) f0, I j0.priority] (Try.isAgg28 _) (Try.sizeOf28 _) rfl rfl rfl)) .nil) ?_
 have e1 := ((l0.picks [1, 2]).drops [3, 3])
 exact ⟨_, _, _, _, _, _, _, _, _, _, _, _, rfl, (by have h := q0; rw [List.nil_append] at h; exact h), (by have h := v0; rw [List.nil_append] at h; exact h), (by have h := b1; rw [List.nil_append] at h; exact h), e1⟩

end Go.Proofs.Ytbofcpnngniopaa

namespace Go.Proofs.Ytbofcpnngniopaa
open Go Go.E
set_option linter.unusedVariables false
set_option linter.unusedSimpArgs false
set_option linter.unnecessarySimpa false
set_option maxRecDepth 100000
set_option maxHeartbeats 2000000
variable {W w : World} {H : Chunk} {F : List Chunk}
/-! ### jobs of copies -/
def pl0 : PlaneV := ⟨1, 1, 9, [5]⟩
def jobL (xs : List Int) : JobV := jobOf [pl0] (xs.map safe) 0
theorem cyc21 : cycG 1 [[2], [1]] = [1, 2] := by
 have hR : RngG 1 [[2], [1]] := by
  intro s hs x hx
  simp only [List.mem_cons, List.not_mem_nil, or_false] at hs
  rcases hs with rfl | rfl <;> (simp only [List.mem_cons, List.not_mem_nil, or_false] at hx; subst hx; decide)
 have h1 : RB 1 [[2], [1]] 1 0 2 := RB.start.take hR (by decide) (by decide) (i := 0) (v := 2) (by decide) (by decide) (.inl (by decide))
 have h2 : RB 1 [[2], [1]] 2 0 2 := h1.skip hR (by decide) (by decide) (v := 2) (by decide) (by decide)
 have hm := ((h2.fin rfl (by decide)).resolve_left (by rintro ⟨h, _⟩; omega)).2.2.2.2
 have hw := (WF.start hm (by decide)).1
 have hf : fwG (edgG 1 [[2], [1]]) 16 2 1 = 1 := by
  have := st_val hR (by decide) (t := 0) (i := 1) (by decide) (by decide)
  rcases this with h | h
  ·exact absurd h.1 (by decide)
  ·exact h.2.2.trans (by decide)
 have hw2 := hw.step (n := 2) (by decide) (by decide) ⟨by decide, hf, fun m hm _ => by
  have h3 : m ∈ [(2 : Int)] := hm
  rw [List.mem_singleton.1 h3]; exact Int.le_refl _⟩
 exact hw2.fin rfl
theorem ord20 : ordV (jobL [2, 0]) = ([2, 1], 0) := by decide
theorem ord21 : ordV (jobL [2, 1]) = ([], 7) := by decide
theorem cycV21 : cycV (jobL [2, 1]) = [1, 2] := by
  unfold cycV
  rw [ord21, if_pos rfl]
  exact cyc21
theorem shp0 : shpV (jobL [0]) = ([⟨1, 1, 9⟩, ⟨1, 1, 255⟩], 0, 0) := by decide
theorem eqve58 (w : World) (a0 a1 a2 b0 b1 b2 : Int) : ∀ x y, ((do eqGuard .eql 58 x y (.agg #[.int .i64 a0, .int .i64 a1, .int .i64 a2]) (.agg #[.int .i64 b0, .int .i64 b1, .int .i64 b2]); binOp .eql 58 (.agg #[.int .i64 a0, .int .i64 a1, .int .i64 a2]) (.agg #[.int .i64 b0, .int .i64 b1, .int .i64 b2])) : Sem Value).run Try.prog w = .ok (.bool ((a0 == b0) && (a1 == b1) && (a2 == b2))) w := by
  intro x y
  simp [go_sem, run_eqGuard_agg, run_eql_struct, run_equalIn_agg]
  by_cases h0 : a0 = b0 <;> by_cases h1 : a1 = b1 <;> by_cases h2 : a2 = b2 <;> simp [*]
theorem l17_point (a : Int) {F : List Chunk} (hS : Sat W w F) :
  Calls Try.prog 10 #[I a] w fun e w' => ∃ (q : Stage) (G : Chunk), e = .returned (.agg (encStage q).toArray) ∧ Stage.Ok [G] q ∧ q.v = safe a ∧ Sat W w' (G :: F) := by
 refine callsA 7 Try.func10 rfl ?_
 refine sR ?_
 refine sAlloc hS Try.zeroValue40 ?_
 intro _ _ c0
 refine nT <| sR <| pu2 ?_
 refine sBS c0 #[I 0, I 0] Try.runUnderlying38 Try.sizeOf53 Try.zeroValue53 ?_
 intro a0 _ d0
 refine pu1 ?_
 refine sTw d0 1 [I 6, I a, I (-1), .bool false, I 0, I 0, I 0, I 0, .slice none 0 0, .slice none 0 0, .slice none 0 0, I 0, I 0, .slice none 0 0, .slice none 0 0, I 0, .slice (At a0 0) 1 1, I 255] Try.sizeOf40 ?_
 intro _ b0
 refine nT <| retE <| retN (vs := [.agg #[I 6, I a, I (-1), .bool false, I 0, I 0, I 0, I 0, .slice none 0 0, .slice none 0 0, .slice none 0 0, I 0, I 0, .slice none 0 0, .slice none 0 0, I 0, .slice (At a0 0) 1 1, I 255]]) rfl (.cons (.cell _ _ _ _ kr (lvA b0 1 0 [I 6, I a, I (-1), .bool false, I 0, I 0, I 0, I 0, .slice none 0 0, .slice none 0 0, .slice none 0 0, I 0, I 0, .slice none 0 0, .slice none 0 0, I 0, .slice (At a0 0) 1 1, I 255] (Try.isAgg40 _) (Try.sizeOf40 _) rfl rfl rfl)) .nil) ?_
 have e0 := (b0.dropAt 1 rfl)
 exact ⟨(⟨6, a, -1, false, 0, 0, 0, 0, ⟨none, 0, 0, []⟩, ⟨none, 0, 0, []⟩, ⟨none, 0, 0, []⟩, 0, 0, ⟨none, 0, 0, []⟩, ⟨none, 0, 0, []⟩, 0, ⟨(At a0 0), 1, 1, [(⟨0, 0⟩ : POp)]⟩, 255⟩ : Stage), _, rfl, ⟨RdT.nil (enc := encI) (sz := 1) fR _, RdT.nil (enc := encI) (sz := 1) fR _, RdT.nil (enc := encI) (sz := 1) fR _, RdT.nil (enc := encTap) (sz := 2) fR _, (fun z hz => by cases hz), RdT.nil (enc := encTap) (sz := 2) fR _, (fun z hz => by cases hz), (RdT.blk (cs := [[(a0, .cells #[I 0, I 0] 53 (0, 0))]]) (enc := encPOp) (sz := 2) (xs := [(⟨0, 0⟩ : POp)]) fR 1 0 rfl rfl rfl om)⟩, rfl, e0⟩
theorem l17_job {a : Option Addr} {n k : Nat} {x : List Int} (hx : RdT encI 1 [H] a n k x) (hb : n ≤ 1000) (hS : Sat W w (H :: F)) :
  Calls Try.prog 14 #[.slice a n k] w fun e w' => ∃ (q : Job) (C G G2 : Chunk), e = .returned (.agg (encJob q).toArray) ∧ OwnT encStage 40 18 q.stages.a q.stages.n q.stages.k q.stages.l C ∧ (∀ z ∈ q.stages.l, Stage.Ok [G] z) ∧ RdT encPlane 4 [G2] q.inputs.a q.inputs.n q.inputs.k q.inputs.l ∧ (∀ z ∈ q.inputs.l, Plane.Ok [G2] z) ∧ RdT encI 1 [G2] q.outputs.a q.outputs.n q.outputs.k q.outputs.l ∧ (q.v = jobL x ∧ q.inputs.n = 1 ∧ q.stages.n = n ∧ q.outputs.n = 1) ∧ Sat W w' (C :: G :: G2 :: H :: F) := by
 have hnx := hx.len; have hlx := hx.le
 refine callsA 27 Try.func14 rfl ?_
 refine sR ?_
 refine sAlloc hS Try.zeroValue28 ?_
 intro f0 _ s0
 refine nT <| sR ?_
 refine sBS s0 #[I 5] Try.runUnderlying22 Try.sizeOf3 Try.zeroValue3 ?_
 intro a0 _ t0
 refine pu1 ?_
 refine sBS t0 #[I 1, I 1, I 9, .slice (At a0 0) 1 1] Try.runUnderlying25 Try.sizeOf61 Try.zeroValue61 ?_
 intro b0 _ u0
 refine sBS u0 #[I 0] Try.runUnderlying22 Try.sizeOf3 Try.zeroValue3 ?_
 intro c0 _ v0
 refine pu1 ?_
 refine sAlloc v0 Try.zeroValue28 ?_
 intro d0 _ w0
 refine sTw w0 0 [.slice (At b0 0) 1 1, .slice none 0 0, .slice (At c0 0) 1 1, I 0] Try.sizeOf28 ?_
 intro _ x0
 refine nT <| seqE <| sR <| pu1 <| nT <| blockE ?_
 have y0 := Sat.nilc x0
 have z0 := OwnT.nil (enc := encStage) (E := 40) (sz := 18) fR
 have a1 := Sat.nilc y0
 refine loopA (γ := Nat × (List Stage) × (Option Addr) × Nat × Nat × Chunk × Chunk) (fun ⟨i, ss, ass, nss, kss, css, Gss⟩ => [(0, .slice a n k), (2, Pt f0 0), (3, Pt d0 0), (4, I ((i : Nat) : Int))]) (fun ⟨i, ss, ass, nss, kss, css, Gss⟩ w => Sat W w (Gss :: css :: [(d0, .cells #[.slice (At b0 0) 1 1, .slice ass nss kss, .slice (At c0 0) 1 1, I 0] 28 (0, 0))] :: [(c0, .cells #[I 0] 3 (0, 0))] :: [(b0, .cells #[I 1, I 1, I 9, .slice (At a0 0) 1 1] 61 (0, 0))] :: [(a0, .cells #[I 5] 3 (0, 0))] :: [(f0, .cells #[.slice none 0 0, .slice none 0 0, .slice none 0 0, I 0] 28 (0, 0))] :: H :: F) ∧ i ≤ n ∧ (ss.map Stage.v = (x.take i).map safe) ∧ (ss.length = i) ∧ OwnT encStage 40 18 ass nss kss ss css ∧ (∀ z ∈ ss, Stage.Ok [Gss] z)) (fun ⟨i, ss, ass, nss, kss, css, Gss⟩ => n - i) (0, [], none, 0, 0, [], []) ⟨a1, om, by rfl, by rfl, z0, (by intro z hz; cases hz)⟩ ?_
 rintro ⟨i, ss, ass, nss, kss, css, Gss⟩ ρ _ ⟨e0, hi, hss, hsl, hOss, hDss⟩
 have hn_ss := hOss.len; have hl_ss := hOss.le
 refine seqE <| sR <| pu4 <| nT ?_
 refine cD (((i : Nat) : Int) < ((n : Nat) : Int)) (fun b1 => ?_) (fun b1 => ?_)
 rotate_left
 ·refine exitE <| xB <| thenK_n <| sR ?_
  refine lA e0 2 0 4 (Try.isAgg28 _) (Try.sizeOf28 _) ?_
  refine sTw e0 6 [.slice (At b0 0) 1 1, .slice ass nss kss, .slice (At c0 0) 1 1, I 0] Try.sizeOf28 ?_
  intro _ m0
  refine nT <| retE <| retN (vs := [.agg #[.slice (At b0 0) 1 1, .slice ass nss kss, .slice (At c0 0) 1 1, I 0]]) rfl (.cons (.cell _ _ _ _ kr (lvA m0 6 0 [.slice (At b0 0) 1 1, .slice ass nss kss, .slice (At c0 0) 1 1, I 0] (Try.isAgg28 _) (Try.sizeOf28 _) rfl rfl rfl)) .nil) ?_
  have c1 := ((m0.picks [4, 1, 2]).drops [3, 5])
  have d1 : Sat W _ (css :: Gss :: ([(b0, .cells #[I 1, I 1, I 9, .slice (At a0 0) 1 1] 61 (0, 0))] ++ [(c0, .cells #[I 0] 3 (0, 0))] ++ [(a0, .cells #[I 5] 3 (0, 0))]) :: (H :: F)) := Sat.perm (show Sat W _ (css :: Gss :: [(b0, .cells #[I 1, I 1, I 9, .slice (At a0 0) 1 1] 61 (0, 0))] :: [(c0, .cells #[I 0] 3 (0, 0))] :: [(a0, .cells #[I 5] 3 (0, 0))] :: H :: F) from c1) (by simp [Value.cells])
  have hfin : ss.map Stage.v = x.map safe := by rw [hss, List.take_of_length_le om]
  have hnn := hOss.len; have hln : ss.length = x.length := by have h := congrArg List.length hfin; simpa using h
  exact ⟨(⟨⟨(At b0 0), 1, 1, [(⟨1, 1, 9, ⟨(At a0 0), 1, 1, [5]⟩⟩ : Plane)]⟩, ⟨ass, nss, kss, ss⟩, ⟨(At c0 0), 1, 1, [0]⟩, 0⟩ : Job), _, _, ([(b0, .cells #[I 1, I 1, I 9, .slice (At a0 0) 1 1] 61 (0, 0))] ++ [(c0, .cells #[I 0] 3 (0, 0))] ++ [(a0, .cells #[I 5] 3 (0, 0))]), rfl, hOss, hDss, ((RdT.blk (cs := [[(b0, .cells #[I 1, I 1, I 9, .slice (At a0 0) 1 1] 61 (0, 0))]]) (enc := encPlane) (sz := 4) (xs := [(⟨1, 1, 9, ⟨(At a0 0), 1, 1, [5]⟩⟩ : Plane)]) fR 1 0 rfl rfl rfl om)).of_mem mS, (fun z hz => by rw [List.mem_singleton.1 hz]; exact ⟨((RdT.blk (cs := [[(a0, .cells #[I 5] 3 (0, 0))]]) (enc := encI) (sz := 1) (xs := [5]) fR 1 0 rfl rfl rfl om)).of_mem mS⟩), ((RdT.blk (cs := [[(c0, .cells #[I 0] 3 (0, 0))]]) (enc := encI) (sz := 1) (xs := [0]) fR 1 0 rfl rfl rfl om)).of_mem mS, ⟨by unfold Job.v jobL jobOf; rw [← hfin]; rfl, rfl, (show nss = n by omega), rfl⟩, d1⟩
 refine kT <| seqE <| blockE ?_
 obtain ⟨i0, n0, o0, p0, e1, f1⟩ := RdT.elem hx ((i : Nat) : Int)
 rw [Int.toNat_natCast] at p0
 refine drawE [6, 7, 8, 10] [(1, ⟨d0, 1, none⟩, .slice ass nss kss), (5, ⟨n0, o0, none⟩, I i0)] [(true, [0, 2, 3]), (true, [4]), (true, [1]), (true, [5]), (false, [6]), (false, [7]), (false, [8]), (true, [9]), (false, [10])] rfl kr ⟨.inr (e0.cell 2 rfl rfl), .inr ((e1.up 7 rfl).cell e0 (k := 0) rfl), trivial⟩ ?_
 have g1 := e0.drew
 refine wU [0, 2, 3] ?_
 refine wY (.pointer (some ⟨n0, o0, none⟩)) rfl (fun w _ => Y_idx (a := a) (i := ((i : Nat) : Int)) (len := n) (cap := k) rfl Try.runUnderlying22 Try.sizeOf3 kr kr f1) ?_
 refine wLd (.slice ass nss kss) 0 Try.isAgg26 ?_
 refine wLd (I i0) 1 Try.isAgg3 ?_
 refine wO rfl ?_
 refine cX Try.call10 (l17_point i0 g1) ?_
 rintro _ _ ⟨j0, k0, rfl, h1, i1, q0⟩
 refine nilO ⟨⟨.inr (q0.cell 3 rfl rfl), dI, trivial⟩, ?_⟩
 refine wO rfl ?_
 refine sBS q0 (encStage j0).toArray Try.runUnderlying26 Try.sizeOf40 Try.zeroValue40 ?_
 intro _ _ r0
 refine nilO ⟨⟨.inr (r0.cell 4 rfl rfl), dI, trivial⟩, ?_⟩
 refine wO rfl ?_
 refine sApp (nb := 240) r0 hOss 3 (RdT.blk (enc := encStage) (sz := 18) (xs := [j0]) fR 1 0 rfl rfl rfl om) Try.underlying26 (i := Try.t40) kr fR ?_
 intro g0 h0 l0 _ j1 k1
 refine nilO ⟨dA, ?_⟩
 refine wU [9] ?_
 refine wO rfl ?_
 refine tW k1 4 1 (.slice g0 (nss + 1) h0) Try.sizeOf26 ?_
 intro _ l1
 refine nilO ⟨dA, ?_⟩
 refine wN ?_
 refine blockK_n <| thenK_n <| regionE <| pu1 ?_
 refine sAdd ((i : Nat) : Int) 1 ?_
 refine pu1 <| nT ?_
 have m1 := (l1.dropAt 0 rfl)
 have n1 := (Sat.perm (cs' := (k0 ++ Gss) :: (l0 :: [(d0, .cells #[.slice (At b0 0) 1 1, .slice g0 (nss + 1) h0, .slice (At c0 0) 1 1, I 0] 28 (0, 0))] :: [(c0, .cells #[I 0] 3 (0, 0))] :: [(b0, .cells #[I 1, I 1, I 9, .slice (At a0 0) 1 1] 61 (0, 0))] :: [(a0, .cells #[I 5] 3 (0, 0))] :: [(f0, .cells #[.slice none 0 0, .slice none 0 0, .slice none 0 0, I 0] 28 (0, 0))] :: H :: F)) (show Sat W _ (k0 :: Gss :: l0 :: [(d0, .cells #[.slice (At b0 0) 1 1, .slice g0 (nss + 1) h0, .slice (At c0 0) 1 1, I 0] 28 (0, 0))] :: [(c0, .cells #[I 0] 3 (0, 0))] :: [(b0, .cells #[I 1, I 1, I 9, .slice (At a0 0) 1 1] 61 (0, 0))] :: [(a0, .cells #[I 5] 3 (0, 0))] :: [(f0, .cells #[.slice none 0 0, .slice none 0 0, .slice none 0 0, I 0] 28 (0, 0))] :: H :: F) from m1) (by simp))
 exact ⟨(i + 1, (ss ++ [j0]), g0, (nss + 1), h0, l0, (k0 ++ Gss)), od, alA, n1, om, (by rw [List.map_append, hss, take_succ_at p0, List.map_append, List.map_singleton, List.map_singleton, i1]), by simp; omega, j1, (by
   intro z hz
   rcases List.mem_append.1 hz with h | h
   ·exact (hDss z h).of_mem mS
   ·simp only [List.mem_singleton] at h; subst h; exact h1.of_mem mS)⟩
theorem l17_sane  (hS : Sat W w (H :: F)) :
  Ro Try.prog 11 #[] (.bool true) W w (H :: F) := by
 refine callsA 85 Try.func11 rfl ?_
 refine sR <| pu1 <| nT <| sR ?_
 refine sBS hS #[I 2, I 0] Try.runUnderlying22 Try.sizeOf3 Try.zeroValue3 ?_
 intro _ _ q0
 refine cX Try.call14 (l17_job (RdT.flat (RdT.blk (enc := encI) (sz := 1) (xs := [2, 0]) (fun _ => (by rfl)) 2 0 rfl rfl rfl om)) om (Sat.flat q0)) ?_
 rintro _ _ ⟨e0, _, _, _, rfl, r0, s0, t0, u0, v0, ⟨w0, _, _, _⟩, x0⟩
 have y0 := Sat.unflat3 x0
 refine cX Try.call8 (p17_order e0 ⟨(RdT.flat (t0.up 2 (by rfl))), (fun z hz => (u0 z hz).of_mem (mem_flat1 2 (by rfl))), (RdT.flat (r0.rdAt 0 (by rfl))), (fun z hz => (s0 z hz).of_mem (mem_flat1 1 (by rfl))), (RdT.flat (v0.up 2 (by rfl)))⟩ (od) (Sat.flat y0)) ?_
 rintro _ _ ⟨_, l0, _, _, rfl, c0, z0⟩
 have a1 := Sat.unflat1 z0
 have hn_az_23 := c0.len; have hl_az_23 := c0.le
 have hval0 : ordV e0.v = ([2, 1], 0) := by rw [w0]; exact ord20
 have hl0 : l0 = 2 := by have h := hn_az_23; rw [hval0] at h; exact h.symm
 refine pu5 <| nT <| sR ?_
 refine sBS a1 #[I 2, I 1] Try.runUnderlying22 Try.sizeOf3 Try.zeroValue3 ?_
 intro _ _ b1
 refine cX Try.call14 (l17_job (RdT.flat (RdT.blk (enc := encI) (sz := 1) (xs := [2, 1]) (fun _ => (by rfl)) 2 0 rfl rfl rfl om)) om (Sat.flat b1)) ?_
 rintro _ _ ⟨f0, _, _, _, rfl, c1, d1, e1, f1, g1, ⟨h1, _, _, _⟩, i1⟩
 have j1 := Sat.unflat3 i1
 refine cX Try.call8 (p17_order f0 ⟨(RdT.flat (e1.up 2 (by rfl))), (fun z hz => (f1 z hz).of_mem (mem_flat1 2 (by rfl))), (RdT.flat (c1.rdAt 0 (by rfl))), (fun z hz => (d1 z hz).of_mem (mem_flat1 1 (by rfl))), (RdT.flat (g1.up 2 (by rfl)))⟩ (od) (Sat.flat j1)) ?_
 rintro _ _ ⟨_, k1, _, _, rfl, m0, l1⟩
 have m1 := Sat.unflat1 l1
 have hn_az_50 := m0.len; have hl_az_50 := m0.le
 have hval1 : ordV f0.v = ([], 7) := by rw [h1]; exact ord21
 have hl1 : k1 = 0 := by have h := hn_az_50; rw [hval1] at h; exact h.symm
 refine pu5 <| nT <| sR ?_
 refine sBS m1 #[I 2, I 1] Try.runUnderlying22 Try.sizeOf3 Try.zeroValue3 ?_
 intro _ _ n1
 refine cX Try.call14 (l17_job (RdT.flat (RdT.blk (enc := encI) (sz := 1) (xs := [2, 1]) (fun _ => (by rfl)) 2 0 rfl rfl rfl om)) om (Sat.flat n1)) ?_
 rintro _ _ ⟨n0, _, _, _, rfl, o1, p1, q1, r1, s1, ⟨t1, _, _, _⟩, u1⟩
 have v1 := Sat.unflat3 u1
 refine cX Try.call18 (p17_cycle n0 ⟨(RdT.flat (q1.up 2 (by rfl))), (fun z hz => (r1 z hz).of_mem (mem_flat1 2 (by rfl))), (RdT.flat (o1.rdAt 0 (by rfl))), (fun z hz => (p1 z hz).of_mem (mem_flat1 1 (by rfl))), (RdT.flat (s1.up 2 (by rfl)))⟩ (od) (Sat.flat v1)) ?_
 rintro _ _ ⟨_, o0, _, _, rfl, g0, w1⟩
 have x1 := Sat.unflat1 w1
 have hn_az_77 := g0.len; have hl_az_77 := g0.le
 have hval2 : cycV n0.v = [1, 2] := by rw [t1]; exact cycV21
 have hl2 : o0 = 2 := by have h := hn_az_77; rw [hval2] at h; exact h.symm
 refine pu1 <| nT <| sR ?_
 refine sBS x1 #[I 0] Try.runUnderlying22 Try.sizeOf3 Try.zeroValue3 ?_
 intro _ _ y1
 refine cX Try.call14 (l17_job (RdT.flat (RdT.blk (enc := encI) (sz := 1) (xs := [0]) (fun _ => (by rfl)) 1 0 rfl rfl rfl om)) om (Sat.flat y1)) ?_
 rintro _ _ ⟨d0, _, _, _, rfl, z1, a2, b2, c2, d2, ⟨e2, _, _, _⟩, f2⟩
 have g2 := Sat.unflat3 f2
 refine cX Try.call19 (p17_shapes d0 ⟨(RdT.flat (b2.up 2 (by rfl))), (fun z hz => (c2 z hz).of_mem (mem_flat1 2 (by rfl))), (RdT.flat (z1.rdAt 0 (by rfl))), (fun z hz => (a2 z hz).of_mem (mem_flat1 1 (by rfl))), (RdT.flat (d2.up 2 (by rfl)))⟩ (od) (Sat.flat g2)) ?_
 rintro _ _ ⟨_, p0, _, _, rfl, h0, h2⟩
 have b0 := Sat.unflat1 h2
 have hn_az_104 := h0.len; have hl_az_104 := h0.le
 have hval3 : shpV d0.v = ([⟨1, 1, 9⟩, ⟨1, 1, 255⟩], 0, 0) := by rw [e2]; exact shp0
 have hl3 : p0 = 2 := by have h := hn_az_104; rw [hval3] at h; exact h.symm
 refine pu7 <| nT <| sR <| pu3 ?_
 have i2 : ((ordV e0.v).2 : Int) = 0 := by rw [hval0]
 refine sFix 33 _ true (beq_iff_eq.2 i2) ?_
 refine pu5 ?_
 have j2 : (((l0 : Nat) : Int) : Int) = 2 := by omega
 refine sFix 38 _ true (beq_iff_eq.2 j2) ?_
 refine pu1 <| gY ?_
 refine sIdxO c0 0 0 Try.runUnderlying22 Try.sizeOf3 ?_
 intro i0 _ _ k2 l2 _
 have hv_x_111 : i0 = 2 := by have h := k2; rw [hval0] at h; exact (Option.some.inj h).symm
 refine gY ?_
 refine sLp b0 (l2.up 15 rfl) 0 (I i0) (Try.isAgg3 _) ?_
 refine pu3 ?_
 have m2 : (i0 : Int) = 2 := by omega
 refine sFix 44 _ true (beq_iff_eq.2 m2) ?_
 refine pu1 <| gY ?_
 refine sIdxO c0 1 1 Try.runUnderlying22 Try.sizeOf3 ?_
 intro j0 _ _ n2 o2 _
 have hv_x_118 : j0 = 1 := by have h := n2; rw [hval0] at h; exact (Option.some.inj h).symm
 refine gY ?_
 refine sLp b0 (o2.up 15 rfl) 0 (I j0) (Try.isAgg3 _) ?_
 refine pu3 ?_
 have p2 : (j0 : Int) = 1 := by omega
 refine sFix 50 _ true (beq_iff_eq.2 p2) ?_
 refine pu4 ?_
 have q2 : ((ordV f0.v).2 : Int) = 7 := by rw [hval1]
 refine sFix 54 _ true (beq_iff_eq.2 q2) ?_
 refine pu5 ?_
 have r2 : (((o0 : Nat) : Int) : Int) = 2 := by omega
 refine sFix 59 _ true (beq_iff_eq.2 r2) ?_
 refine pu1 <| gY ?_
 refine sIdxO g0 0 0 Try.runUnderlying22 Try.sizeOf3 ?_
 intro k0 _ _ s2 t2 _
 have hv_x_127 : k0 = 1 := by have h := s2; rw [hval2] at h; exact (Option.some.inj h).symm
 refine gY ?_
 refine sLp b0 (t2.up 5 rfl) 0 (I k0) (Try.isAgg3 _) ?_
 refine pu3 ?_
 have u2 : (k0 : Int) = 1 := by omega
 refine sFix 65 _ true (beq_iff_eq.2 u2) ?_
 refine pu4 ?_
 have v2 : ((shpV d0.v).2.2 : Int) = 0 := by rw [hval3]
 refine sFix 69 _ true (beq_iff_eq.2 v2) ?_
 refine pu4 ?_
 have w2 : ((shpV d0.v).2.1 : Int) = 0 := by rw [hval3]
 refine sFix 73 _ true (beq_iff_eq.2 w2) ?_
 refine pu5 ?_
 have x2 : (((p0 : Nat) : Int) : Int) = 2 := by omega
 refine sFix 78 _ true (beq_iff_eq.2 x2) ?_
 refine pu1 <| gY ?_
 refine sIdxO h0 1 1 Try.runUnderlying54 Try.sizeOf58 ?_
 intro a0 _ _ y2 z2 _
 have hv_x_137 : a0 = (⟨1, 1, 255⟩ : Shape) := by have h := y2; rw [hval3] at h; exact (Option.some.inj h).symm
 refine gY ?_
 refine sLpA b0 (z2.up 0 rfl) 0 [I a0.w, I a0.h, I a0.max_] (Try.isAgg58 _) (Try.sizeOf58 _) ?_
 refine pu1 <| gY ?_
 refine stepY (.bool (((a0.w : Int) == 1) && ((a0.h : Int) == 1) && ((a0.max_ : Int) == 255))) rfl rfl (Y_eqS rfl kr kr (eqve58 _ a0.w a0.h a0.max_ 1 1 255)) ?_
 refine pu2 <| nT <| retE <| retT [.bool (((a0.w : Int) == 1) && ((a0.h : Int) == 1) && ((a0.max_ : Int) == 255))] ?_
 have a3 := (b0.drops [0, 0, 0, 0, 0, 0, 0, 0, 0, 0, 0, 0, 0, 0, 0, 0, 0, 0, 0, 0])
 exact ⟨by rw [hv_x_137]; rfl, a3⟩
end Go.Proofs.Ytbofcpnngniopaa
