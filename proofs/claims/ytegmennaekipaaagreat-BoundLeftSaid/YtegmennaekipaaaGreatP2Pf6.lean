import Derived.Test.YtegmennaekipaaaGreatP2Pf4
import Derived.Test.YtegmennaekipaaaGreatP2MapI
namespace Go.Proofs.YtegmennaekipaaaGreat
open Go Go.E
set_option linter.unusedVariables false
set_option linter.unusedSimpArgs false
set_option linter.unnecessarySimpa false
set_option maxRecDepth 100000
set_option maxHeartbeats 2000000
variable {W w : World} {H : Chunk} {F : List Chunk}
-- squeezed
theorem own_none {α : Type} {enc : α → List Value} {sz : Nat} {cs : List Chunk} {n k : Nat} {xs : List α} (h : RdT enc sz cs none n k xs) : xs = [] := by
  rcases h.2.2.2.2.2 with h0 | ⟨b, off, h1, _⟩
  · exact List.length_eq_zero_iff.1 (h.1.trans h0)
  · cases h1
theorem drop_same {α : Type} {zs l : List α} {i : Nat} {x t : α} (h : zs.drop i = l.drop i) (hx : zs[i]? = some x) (ht : l[i]? = some t) : x = t := by
  have e1 : (zs.drop i)[0]? = zs[i]? := by simp
  have e2 : (l.drop i)[0]? = l[i]? := by simp
  rw [h, e2, hx, ht] at e1; exact (Option.some.inj e1).symm
theorem cop_step {zs l : List Task} {i : Nat} {x y : Task} {G Z : Chunk} (hT : zs.drop i = l.drop i) (hV : zs.map Task.v = l.map Task.v) (hD : ∀ z ∈ zs.take i, Task.Ok [G] z) (hx : zs[i]? = some x) (hy : y.v = x.v) (hO : Task.Ok [Z] y) :
  (zs.set i y).drop (i + 1) = l.drop (i + 1) ∧ (zs.set i y).map Task.v = l.map Task.v ∧ ∀ z ∈ (zs.set i y).take (i + 1), Task.Ok [Z ++ G] z := by
 have hi := (List.getElem?_eq_some_iff.1 hx).1
 refine ⟨?_, ?_, ?_⟩
 ·rw [List.drop_set_of_lt om]
  have e1 : zs.drop (i + 1) = (zs.drop i).drop 1 := by simp
  have e2 : l.drop (i + 1) = (l.drop i).drop 1 := by simp
  rw [e1, e2, hT]
 ·rw [List.map_set, hy, ← hV]
  exact set_same (by rw [List.getElem?_map, hx]; rfl)
 ·intro z hz
  rw [take_succ_at (show (zs.set i y)[i]? = some y by rw [List.getElem?_set_self hi]), List.take_set_of_le (Nat.le_refl i)] at hz
  rcases List.mem_append.1 hz with h | h
  ·exact (hD z h).of_mem mS
  ·rw [List.mem_singleton.1 h]; exact hO.of_mem mS
/-! ### sums and lists over the jobs' map -/
def runJ9 (jobs : List JS) (k : Int) : Bool := (jobs.getD k.toNat default).running
def lenJ (jobs : List JS) (k : Int) : Int := if runJ9 jobs k then (((jobs.getD k.toNat default).tasks.length : Nat) : Int) else 0
theorem sum_perm {l m : List Int} (h : l.Perm m) : l.sum = m.sum := by
  induction h with
  | nil => rfl
  | cons x _ ih => simp only [List.sum_cons, ih]
  | swap x y l => simp only [List.sum_cons]; omega
  | trans _ _ ih1 ih2 => exact ih1.trans ih2
def allK (n : Nat) : List Int := (List.range n).map fun i => ((i : Nat) : Int)
theorem allK_nd (n : Nat) : (allK n).Nodup := by
  unfold allK
  exact List.pairwise_map.2 (List.Pairwise.imp (fun h e => h (Int.ofNat_inj.1 e)) List.nodup_range)
theorem mem_allK {n : Nat} {k : Int} : k ∈ allK n ↔ 0 ≤ k ∧ k < ((n : Nat) : Int) := by
  unfold allK
  constructor
  · intro h
    obtain ⟨i, hi, rfl⟩ := List.mem_map.1 h
    have := List.mem_range.1 hi
    omega
  · intro h
    exact List.mem_map.2 ⟨k.toNat, List.mem_range.2 (by omega), by omega⟩
theorem keys_perm {jobs : List JS} {jm : List (Int × Nat)} {jcs : List Chunk} (h : JobsP jobs jm jcs) : (jm.map (·.1)).Perm ((allK 64).filter fun k => (jobs.getD k.toNat default).added) := by
  rw [List.perm_ext_iff_of_nodup h.nd ((allK_nd 64).filter _)]
  intro k
  rw [h.k k, List.mem_filter, mem_allK]
  constructor
  · rintro ⟨h1, h2, h3⟩; exact ⟨⟨h1, h2⟩, h3⟩
  · rintro ⟨⟨h1, h2⟩, h3⟩; exact ⟨h1, h2, h3⟩
theorem load_range (jobs : List JS) : ∀ n, n ≤ jobs.length → ((allK n).map (lenJ jobs)).sum = loadL (jobs.take n)
  | 0, _ => rfl
  | n + 1, h => by
    have ih := load_range jobs n (by omega)
    have hj : jobs[n]? = some jobs[n] := List.getElem?_eq_getElem (by omega)
    rw [loadL_take hj, ← ih]
    unfold allK
    rw [List.range_succ, List.map_append, List.map_append, List.sum_append]
    simp only [List.map_cons, List.map_nil, List.sum_cons, List.sum_nil, Int.add_zero]
    unfold lenJ runJ9
    rw [Int.toNat_natCast, getD_some hj]
theorem sum_filter {f : Int → Int} {p : Int → Bool} : ∀ {l : List Int}, (∀ k ∈ l, p k = false → f k = 0) → ((l.filter p).map f).sum = (l.map f).sum
  | [], _ => rfl
  | x :: l, h => by
    have ih := sum_filter (f := f) (p := p) (l := l) fun k hk => h k (List.mem_cons_of_mem _ hk)
    rw [List.filter_cons]
    cases hx : p x with
    | true => simp only [if_true, List.map_cons, List.sum_cons, ih]
    | false =>
      have := h x List.mem_cons_self hx
      simp only [Bool.false_eq_true, if_false, List.map_cons, List.sum_cons, ih, this]; omega
theorem run_added {F : FS} {K : Int} (hF : FW F K) {k : Int} (h : (F.jobs.getD k.toNat default).added = false) : runJ9 F.jobs k = false := by
  unfold runJ9
  rcases getD_or F.jobs k.toNat with h1 | h1
  · cases hr : (F.jobs.getD k.toNat default).running with
    | false => rfl
    | true => have := (hF.j _ h1).r hr; rw [h] at this; cases this
  · rw [h1]; rfl
theorem load_map {F : FS} {K : Int} {jm : List (Int × Nat)} {jcs : List Chunk} (hF : FW F K) (h : JobsP F.jobs jm jcs) : ((jm.map (·.1)).map (lenJ F.jobs)).sum = loadL F.jobs := by
  rw [sum_perm ((keys_perm h).map _), sum_filter, load_range F.jobs 64 (by rw [h.l]; exact Nat.le_refl _), List.take_of_length_le (by rw [h.l]; exact Nat.le_refl _)]
  intro k _ hk
  unfold lenJ; rw [run_added hF hk]; rfl
theorem JobsP.mem {jobs : List JS} {jm : List (Int × Nat)} {jcs : List Chunk} {k : Int} {b : Nat} (h : JobsP jobs jm jcs) (hm : (k, b) ∈ jm) :
  ∃ (n : Nat) (c : Chunk) (j : JS), jm[n]? = some (k, b) ∧ jcs[n]? = some c ∧ JobP b j c ∧ jobs[k.toNat]? = some j ∧ j.added = true ∧ 0 ≤ k ∧ k < 64 := by
 obtain ⟨n, hn⟩ := List.getElem?_of_mem hm
 have hb : (jm.map (·.2))[n]? = some b := by rw [List.getElem?_map, hn]; rfl
 obtain ⟨s, c, hs, hc, hR⟩ := h.o.get hb
 rw [List.getElem?_map, hn] at hs
 have hk := (h.k k).1 (List.mem_map.2 ⟨_, hm, rfl⟩)
 have hl := h.l
 have hlt : k.toNat < jobs.length := by omega
 have hj : jobs[k.toNat]? = some jobs[k.toNat] := List.getElem?_eq_getElem hlt
 have e : jobs.getD k.toNat default = jobs[k.toNat] := getD_some hj
 obtain rfl := Option.some.inj hs
 refine ⟨n, c, jobs[k.toNat], hn, hc, ?_, hj, by rw [← e]; exact hk.2.2, hk.1, hk.2.1⟩
 have hR2 : JobP b (jobs.getD k.toNat default) c := hR
 rw [e] at hR2; exact hR2
/-- What a range over the jobs has still to hand out. -/
def RestJ (jm : List (Int × Nat)) (rs : List (Int × Value)) : Prop := ∃ l : List (Int × Nat), rs = kvJ l ∧ ∀ x ∈ l, x ∈ jm
theorem RestJ.all (jm : List (Int × Nat)) : RestJ jm (kvJ jm) := ⟨jm, rfl, fun _ h => h⟩
theorem RestJ.take {jm : List (Int × Nat)} {rs l1 l2 : List (Int × Value)} {q : Int × Value} (h : RestJ jm rs) (e : rs = l1 ++ q :: l2) : ∃ (k : Int) (b : Nat), q = (k, ptrV b) ∧ (k, b) ∈ jm ∧ RestJ jm (l1 ++ l2) := by
  obtain ⟨l, rfl, hm⟩ := h
  have e1 : l.map (fun x => (x.1, ptrV x.2)) = l1 ++ q :: l2 := e
  obtain ⟨a, b', rfl, ha, hb⟩ := List.map_eq_append_iff.1 e1
  obtain ⟨x, c, rfl, hx, hc⟩ := List.map_eq_cons_iff.1 hb
  refine ⟨x.1, x.2, hx.symm, hm x (by simp), a ++ c, ?_, fun y hy => hm y (by rcases List.mem_append.1 hy with h | h <;> simp [h])⟩
  rw [← ha, ← hc]; unfold kvJ; rw [List.map_append]
def sumJ (jobs : List JS) (rs : List (Int × Value)) : Int := ((rs.map (·.1)).map (lenJ jobs)).sum
theorem sumJ_all {F : FS} {K : Int} {jm : List (Int × Nat)} {jcs : List Chunk} (hF : FW F K) (h : JobsP F.jobs jm jcs) : sumJ F.jobs (kvJ jm) = loadL F.jobs := by
  rw [← load_map hF h]; unfold sumJ kvJ; simp only [List.map_map]; rfl
theorem sumJ_take {jobs : List JS} {rs l1 l2 : List (Int × Value)} {q : Int × Value} (e : rs = l1 ++ q :: l2) : sumJ jobs rs = sumJ jobs (l1 ++ l2) + lenJ jobs q.1 := by
  rw [e]; unfold sumJ; simp only [List.map_append, List.map_cons, List.sum_append, List.sum_cons]; omega
theorem sumJ_nil {jobs : List JS} : sumJ jobs [] = 0 := rfl
theorem lenJ_at {jobs : List JS} {k : Int} {j : JS} (hj : jobs[k.toNat]? = some j) : lenJ jobs k = if j.running = true then ((j.tasks.length : Nat) : Int) else 0 := by unfold lenJ runJ9; rw [getD_some hj]
theorem sumJ_nn {jobs : List JS} : ∀ {rs : List (Int × Value)}, 0 ≤ sumJ jobs rs
  | [] => Int.le_refl _
  | q :: rs => by
    have ih := sumJ_nn (jobs := jobs) (rs := rs)
    have h1 : 0 ≤ lenJ jobs q.1 := by unfold lenJ; split <;> omega
    unfold sumJ at *; simp only [List.map_cons, List.sum_cons]; omega
/-- The numbers of running jobs. -/
def runK (jobs : List JS) : List Int := (allK 64).filter (runJ9 jobs)
def keysR (jobs : List JS) (rs : List (Int × Value)) : List Int := (rs.map (·.1)).filter (runJ9 jobs)
theorem keysR_all {F : FS} {K : Int} {jm : List (Int × Nat)} {jcs : List Chunk} (hF : FW F K) (h : JobsP F.jobs jm jcs) : (keysR F.jobs (kvJ jm)).Perm (runK F.jobs) := by
  have h1 : (kvJ jm).map (·.1) = jm.map (·.1) := by unfold kvJ; rw [List.map_map]; rfl
  unfold keysR runK
  rw [h1]
  have h2 := (keys_perm h).filter (runJ9 F.jobs)
  rw [List.filter_filter] at h2
  refine h2.trans (List.Perm.of_eq ?_)
  apply List.filter_congr
  intro k _
  cases ha : (F.jobs.getD k.toNat default).added with
  | true => rw [Bool.and_true]
  | false => rw [run_added hF ha]; rfl
theorem keysR_take {jobs : List JS} {rs l1 l2 : List (Int × Value)} {q : Int × Value} {zs T : List Int} (e : rs = l1 ++ q :: l2) (hp : (zs ++ keysR jobs rs).Perm T) : (zs ++ (if runJ9 jobs q.1 then [q.1] else []) ++ keysR jobs (l1 ++ l2)).Perm T := by
  refine List.Perm.trans ?_ hp
  rw [e]
  unfold keysR
  simp only [List.map_append, List.map_cons, List.filter_append, List.filter_cons]
  rw [List.append_assoc]
  apply List.Perm.append_left
  split
  · rw [List.singleton_append]; exact List.perm_middle.symm
  · exact List.Perm.refl _
theorem load_max {F : FS} {K : Int} (hF : FW F K) : loadL F.jobs ≤ 300000 := by
  have h : ∀ l : List JS, (∀ j ∈ l, j.tasks.length ≤ 4096) → loadL l ≤ 4096 * ((l.length : Nat) : Int) := by
    intro l
    induction l with
    | nil => intro _; decide
    | cons j l ih =>
      intro h
      have h1 := ih fun y hy => h y (List.mem_cons_of_mem _ hy)
      have h2 := h j List.mem_cons_self
      rw [loadL_cons, List.length_cons]; split <;> omega
  have h1 := h F.jobs fun j hj => (hF.j j hj).n
  rw [hF.jl] at h1; omega
theorem cl_int_n (n k : Nat) (xs : List Int) (h : RdT encI 1 [H] none n k xs) (hb : n ≤ 4096) (hS : Sat W w (H :: F)) :
  Calls Tryz.prog 108 #[.slice none n k] w fun e w' => ∃ (az : Option Addr) (nz kz : Nat) (Z : Chunk), e = .returned (.slice az nz kz) ∧ OwnT encI 3 1 az nz kz xs Z ∧ Sat W w' (Z :: H :: F) := by
 have hn := h.len; have hl := h.le
 refine callsA 8 Tryz.func108 rfl ?_
 refine sR <| pu1 <| nT <| seqE <| sR <| pu2 <| nT <| cTt <| sR <| pu1 <| nT <| retE <| thenK_r <| retT [.slice none 0 0] ?_
 have hz := own_none h; have a0 := Sat.nilc hS
 exact ⟨_, _, _, _, rfl, by rw [hz]; exact OwnT.nil fR, a0⟩
theorem cl_int_s (a : Addr) (n k : Nat) (xs : List Int) (h : RdT encI 1 [H] (some a) n k xs) (hb : n ≤ 4096) (hS : Sat W w (H :: F)) :
  Calls Tryz.prog 108 #[.slice (some a) n k] w fun e w' => ∃ (az : Option Addr) (nz kz : Nat) (Z : Chunk), e = .returned (.slice az nz kz) ∧ OwnT encI 3 1 az nz kz xs Z ∧ Sat W w' (Z :: H :: F) := by
 have hn := h.len; have hl := h.le
 refine callsA 8 Tryz.func108 rfl ?_
 refine sR <| pu1 <| nT <| seqE <| sR <| pu2 <| nT <| cFf <| kT <| sR ?_
 refine sBS hS #[] Tryz.runUnderlying22 Tryz.sizeOf3 Tryz.zeroValue3 ?_
 intro a0 _ b0
 refine pu1 ?_
 have c0 := OwnT.blk (enc := encI) (sz := 1) (b := a0) (c := #[]) (E := 3) (xs := []) fR 0 rfl rfl rfl om
 refine sApp (nb := 8) b0 c0 0 (h.up 1 rfl) Tryz.underlying22 (i := Tryz.t3) kr fR ?_
 intro d0 e0 _ _ f0 g0
 refine pu1 <| nT <| retE <| retT [.slice d0 (0 + n) e0] ?_
 have hO9 := f0; rw [List.nil_append] at hO9
 exact ⟨_, _, _, _, rfl, hO9, g0⟩
theorem cl_int {W w : World} {H : Chunk} {F : List Chunk} (a : Option Addr) (n k : Nat) (xs : List Int) (h : RdT encI 1 [H] a n k xs) (hb : n ≤ 4096) (hS : Sat W w (H :: F)) :
    Calls Tryz.prog 108 #[.slice a n k] w fun e w' => ∃ (az : Option Addr) (nz kz : Nat) (Z : Chunk), e = .returned (.slice az nz kz) ∧ OwnT encI 3 1 az nz kz xs Z ∧ Sat W w' (Z :: H :: F) := by
  cases a with
  | none => exact cl_int_n n k xs h hb hS
  | some a => exact cl_int_s a n k xs h hb hS
theorem cl_task_n (n k : Nat) (xs : List Task) (h : RdT encTask 9 [H] none n k xs) (hb : n ≤ 4096) (hS : Sat W w (H :: F)) :
  Calls Tryz.prog 107 #[.slice none n k] w fun e w' => ∃ (az : Option Addr) (nz kz : Nat) (Z : Chunk), e = .returned (.slice az nz kz) ∧ OwnT encTask 45 9 az nz kz xs Z ∧ Sat W w' (Z :: H :: F) := by
 have hn := h.len; have hl := h.le
 refine callsA 8 Tryz.func107 rfl ?_
 refine sR <| pu1 <| nT <| seqE <| sR <| pu2 <| nT <| cTt <| sR <| pu1 <| nT <| retE <| thenK_r <| retT [.slice none 0 0] ?_
 have hz := own_none h; have a0 := Sat.nilc hS
 exact ⟨_, _, _, _, rfl, by rw [hz]; exact OwnT.nil fR, a0⟩
theorem cl_task_s (a : Addr) (n k : Nat) (xs : List Task) (h : RdT encTask 9 [H] (some a) n k xs) (hb : n ≤ 4096) (hS : Sat W w (H :: F)) :
  Calls Tryz.prog 107 #[.slice (some a) n k] w fun e w' => ∃ (az : Option Addr) (nz kz : Nat) (Z : Chunk), e = .returned (.slice az nz kz) ∧ OwnT encTask 45 9 az nz kz xs Z ∧ Sat W w' (Z :: H :: F) := by
 have hn := h.len; have hl := h.le
 refine callsA 8 Tryz.func107 rfl ?_
 refine sR <| pu1 <| nT <| seqE <| sR <| pu2 <| nT <| cFf <| kT <| sR ?_
 refine sBS hS #[] Tryz.runUnderlying39 Tryz.sizeOf45 Tryz.zeroValue45 ?_
 intro a0 _ b0
 refine pu1 ?_
 have c0 := OwnT.blk (enc := encTask) (sz := 9) (b := a0) (c := #[]) (E := 45) (xs := []) fR 0 rfl rfl rfl om
 refine sApp (nb := 88) b0 c0 0 (h.up 1 rfl) Tryz.underlying39 (i := Tryz.t45) kr fR ?_
 intro d0 e0 _ _ f0 g0
 refine pu1 <| nT <| retE <| retT [.slice d0 (0 + n) e0] ?_
 have hO9 := f0; rw [List.nil_append] at hO9
 exact ⟨_, _, _, _, rfl, hO9, g0⟩
theorem cl_task {W w : World} {H : Chunk} {F : List Chunk} (a : Option Addr) (n k : Nat) (xs : List Task) (h : RdT encTask 9 [H] a n k xs) (hb : n ≤ 4096) (hS : Sat W w (H :: F)) :
    Calls Tryz.prog 107 #[.slice a n k] w fun e w' => ∃ (az : Option Addr) (nz kz : Nat) (Z : Chunk), e = .returned (.slice az nz kz) ∧ OwnT encTask 45 9 az nz kz xs Z ∧ Sat W w' (Z :: H :: F) := by
  cases a with
  | none => exact cl_task_n n k xs h hb hS
  | some a => exact cl_task_s a n k xs h hb hS
theorem p_copies (al : Option Addr) (nl kl : Nat) (l : List Task) (hl : RdT encTask 9 [H] al nl kl l) (dl : ∀ z ∈ l, Task.Ok [H] z) (hb : nl ≤ 4096) (hdb : ∀ z ∈ l, z.deps.l.length ≤ 4096) (hS : Sat W w (H :: F)) :
  Calls Tryz.prog 53 #[.slice al nl kl] w fun e w' => ∃ (az : Option Addr) (nz kz : Nat) (zs : List Task) (C G : Chunk), e = .returned (.slice az nz kz) ∧ OwnT encTask 45 9 az nz kz zs C ∧ (∀ z ∈ zs, Task.Ok [G] z) ∧ zs.map Task.v = l.map Task.v ∧ Sat W w' (C :: G :: H :: F) := by
 have hl_l := hl.le; have hn_l := hl.len
 refine callsA 24 Tryz.func53 rfl ?_
 refine sR <| pu1 <| nT <| sR <| pu1 ?_
 refine cX Tryz.call107 (cl_task al nl kl l (RdT.flat (hl.up 0 (by rfl))) om (Sat.flat hS)) ?_
 rintro _ _ ⟨i0, d0, j0, p0, rfl, k0, q0⟩
 have r0 := Sat.unflat1 q0; have hn_az_4 := k0.len; have hl_az_4 := k0.le
 refine pu1 <| nT <| seqE <| sR <| pu3 <| nT <| blockE ?_
 have s0 := Sat.nilc r0
 refine loopA (γ := Nat × (List Task) × Chunk × Chunk) (fun ⟨i, zs, C, G⟩ => [(0, .slice al nl kl), (3, .slice i0 d0 j0), (8, I ((d0 : Nat) : Int)), (9, I ((i : Nat) : Int))]) (fun ⟨i, zs, C, G⟩ w => Sat W w (G :: C :: H :: F) ∧ i ≤ nl ∧ (OwnT encTask 45 9 i0 d0 j0 zs C) ∧ (zs.drop i = l.drop i) ∧ (zs.map Task.v = l.map Task.v) ∧ ((∀ z ∈ zs.take i, Task.Ok [G] z))) (fun ⟨i, zs, C, G⟩ => nl - i) (0, l, p0, []) ⟨s0, om, k0, rfl, rfl, (by intro z hz; simp at hz)⟩ ?_
 rintro ⟨i, zs, C, G⟩ ρ _ ⟨l0, hi, hOz, hT, hV, hD⟩
 have hzn := hOz.len; have hzk := hOz.le; have hvl := congrArg List.length hV; rw [List.length_map, List.length_map] at hvl
 refine sR <| pu1 <| nT <| seqE ?_
 refine cD (((i : Nat) : Int) < ((d0 : Nat) : Int)) (fun t0 => ?_) (fun t0 => ?_)
 rotate_left
 ·refine exitE <| xB <| thenK_n <| sR <| pu2 <| nT <| retE <| retT [.slice i0 d0 j0] ?_
  rw [List.take_of_length_le om] at hD
  have u0 := (l0.pick 1 rfl)
  exact ⟨_, _, _, _, _, _, rfl, hOz, hD, hV, u0⟩
 refine kT <| seqE <| blockE <| sR <| pu2 <| nT <| regionE <| pu4 ?_
 refine sIdx hl ((i : Nat) : Int) Tryz.runUnderlying39 Tryz.sizeOf45 ?_
 intro b0 _ _ c0 v0
 rw [Int.toNat_natCast] at c0
 have hdb_x_13 := hdb b0 (List.mem_of_getElem? c0); have hdn_x_13 := (dl b0 (List.mem_of_getElem? c0)).deps.len; have hdk_x_13 := (dl b0 (List.mem_of_getElem? c0)).deps.le
 refine pu1 ?_
 refine sLp l0 (v0.up 2 rfl) 6 (.slice b0.deps.a b0.deps.n b0.deps.k) (Tryz.isAgg22 _) ?_
 refine cX Tryz.call108 (cl_int b0.deps.a b0.deps.n b0.deps.k b0.deps.l (RdT.flat ((dl b0 (List.mem_of_getElem? c0)).deps.up 2 (by rfl))) om (Sat.flat l0)) ?_
 rintro _ _ ⟨e0, f0, g0, h0, rfl, m0, w0⟩
 have x0 := Sat.unflat1 w0; have hn_az_21 := m0.len; have hl_az_21 := m0.le
 refine sIdxO hOz ((i : Nat) : Int) i Tryz.runUnderlying39 Tryz.sizeOf45 ?_
 intro a0 _ _ n0 _ y0
 refine pu1 ?_
 refine sStF x0 hOz y0 2 i 6 a0 (⟨a0.stage, a0.part, a0.rectX0, a0.rectY0, a0.rectX1, a0.rectY1, ⟨e0, f0, g0, b0.deps.l⟩, a0.rows, a0.scratch⟩ : Task) n0 (.slice e0 f0 g0) [.slice e0 f0 g0] Tryz.sizeOf22 ?_
 intro _ o0 z0 a1
 refine nB <| regionE ?_
 refine sAdd ((i : Nat) : Int) 1 ?_
 refine pu1 <| nT ?_
 have hxt := drop_same hT n0 c0
 have hcs := cop_step (y := (⟨a0.stage, a0.part, a0.rectX0, a0.rectY0, a0.rectX1, a0.rectY1, ⟨e0, f0, g0, b0.deps.l⟩, a0.rows, a0.scratch⟩ : Task)) (Z := h0) hT hV hD n0 (by rw [hxt]; rfl) ⟨m0.rdAt (cs := [h0]) 0 rfl⟩
 have b1 := (Sat.perm (cs' := ((h0 ++ G) :: o0 :: H :: F)) a1 (by simp))
 exact ⟨(i + 1, (zs.set i (⟨a0.stage, a0.part, a0.rectX0, a0.rectY0, a0.rectX1, a0.rectY1, ⟨e0, f0, g0, b0.deps.l⟩, a0.rows, a0.scratch⟩ : Task)), o0, (h0 ++ G)), od, alA, b1, om, z0, hcs.1, hcs.2.1, hcs.2.2⟩
theorem pf_load {p : Nat} {F : FS} {M : Chunk} {F0 : List Chunk} (hR : FarmP p F M) {K : Int} (hF : FI F K)  (hS : Sat W w (M :: H :: F0)) :
  Calls Tryz.prog 52 #[Pt p 0] w fun e w' => e = .returned (I (loadL F.jobs)) ∧ Sat W w' (M :: H :: F0) := by
 obtain ⟨wb, wo, wn, wk, q, m, xs, jm, Wc, Qc, Jc, acs, dcs, jcs, rfl, hOw, hco, hAs, hDs, hQ, hM, hJs⟩ := hR
 have p0 : Sat W _ ((Tri p 85 (preP F.cfg wb wo wn wk q m) (([] : List Ref).flatMap encRef) (encStt F.st)) :: Wc :: acs.flatten :: dcs.flatten :: Qc :: Jc :: jcs.flatten :: H :: F0) := Sat.perm hS (by simp)
 have hwl := hOw.len; have hwk := hOw.le; have hcl := core_len hco; have has1 := hAs.1; have hds1 := hDs.1; rw [List.length_map] at has1 hds1; have hjl1 := hJs.l
 have hsj := sumJ_all hF.fw hJs; have hld9 := hF.q.ld; have hld8 : loadL F.jobs ≤ 300000 := load_max hF.fw
 refine callsA 25 Tryz.func52 rfl ?_
 refine sR <| pu1 <| nT <| sR <| pu1 <| nT <| seqE <| sR <| pu3 ?_
 refine sLp p0 (ptr_up 0 rfl tri_pre) 10 (.map (some m)) (Tryz.isAgg80 _) ?_
 refine sRangeI p0 5 hM Tryz.runUnderlying80 ?_
 intro q0 d1 _ e1 f1
 refine nT <| blockE ?_
 refine loopA (γ := (List (Int × Value)) × (Option (Int × Value)) × Chunk × Int) (fun ⟨rs, lt, ci, ln⟩ => [(10, Pt q0 0), (3, I ln)]) (fun ⟨rs, lt, ci, ln⟩ w => Sat W w (ci :: (Tri p 85 (preP F.cfg wb wo wn wk q m) (([] : List Ref).flatMap encRef) (encStt F.st)) :: Wc :: acs.flatten :: dcs.flatten :: Qc :: Jc :: jcs.flatten :: H :: F0) ∧ RngI q0 m (kvJ jm) rs lt Jc ci ∧ RestJ jm rs ∧ (ln + sumJ F.jobs rs = loadL F.jobs) ∧ (0 ≤ ln)) (fun ⟨rs, lt, ci, ln⟩ => rs.length) ((kvJ jm), none, d1, 0) ⟨f1, e1, (RestJ.all jm), om, om⟩ ?_
 rintro ⟨rs, lt, ci, ln⟩ ρ _ ⟨r0, hRg, hRJ, hln, hl0⟩
 have hnn9 := sumJ_nn (jobs := F.jobs) (rs := rs)
 refine sR ?_
 refine sNextI r0 6 0 hRg (fun g1 => ?_) (fun f0 e2 g0 s0 f2 b0 h0 t0 => ?_)
 ·refine pu1 <| nT <| seqE <| cFf <| exitE <| xB <| thenK_n <| sR <| pu2 <| nT <| retE <| retT [I ln] ?_
  have h1 := (r0.dropAt 0 rfl)
  have i1 := (h1.merge7)
  have hz9 := sumJ_nil (jobs := F.jobs); rw [← g1] at hz9
  exact ⟨congrArg (fun z => Ending.returned (I z)) om, i1⟩
 obtain ⟨i0, c0, rfl, j1, u0⟩ := hRJ.take b0
 refine pu1 <| nT <| seqE <| cTt <| kT <| blockE <| sR ?_
 refine sEntryI (q := (i0, ptrV c0)) t0 6 0 h0 ?_
 obtain ⟨j0, g2, a0, h2, d0, k1, k0, v0, hj_26_1, hj_26_2⟩ := JobsP.mem hJs j1
 obtain ⟨l0, e0, m0, i2, w0, x0, y0, rfl, z0, l1, a1, m1, _, n1⟩ := k1.open
 have o1 := (t0.pick 7 rfl)
 have p1 := Sat.openN (A := []) j0 d0 o1
 have q1 := p1.split3
 have hjo_j_25 := hF.fw.j a0 (List.mem_of_getElem? k0); obtain ⟨r1, s1, _, _⟩ := hjo_j_25.b v0; have hjn_j_25 := hjo_j_25.n
 have hn_taj_24 := z0.len; have hm_taj_24 := congrArg List.length a1; rw [List.length_map] at hm_taj_24
 refine pu2 <| nT <| sR <| pu1 ?_
 have t1 := (q1.picks [2, 2, 2])
 have u1 := t1.merge3
 refine cX Tryz.call71 (p_running (s := a0) (JobP.mk (s := a0) z0 l1 a1 m1 v0 n1 rfl) r1 s1 u1) ?_
 rintro _ _ ⟨rfl, v1⟩
 have n0 := v1.split3
 refine nT ?_
 refine cB a0.running (fun o0 => ?_) (fun o0 => ?_)
 rotate_left
 ·refine skipE <| blockK_n <| thenK_n ?_
  have w1 := (n0.picks [3, 3, 3, 3])
  have x1 := w1.merge3
  have b1 := Sat.shutN (d := ([(c0, .cells #[.slice l0 e0 m0, I a0.band, Pt w0 0, .bool (canc a0)] 118 (0, 0))] ++ (x0 ++ y0))) (A := []) j0 d0 x1
  rw [set_same d0] at b1
  have hst9 := sumJ_take (jobs := F.jobs) b0; rw [lenJ_at k0, if_neg o0] at hst9
  have y1 := (b1.picks [7, 7, 7, 7, 7, 7, 7])
  have hlen9 : ((f0 ++ g0)).length < rs.length := by rw [b0]; simp only [List.length_append, List.length_cons]; omega
  exact ⟨((f0 ++ g0), (some (i0, ptrV c0)), s0, ln), by first | exact hlen9 | (dsimp only; exact hlen9), alA, y1, h0, u0, om, om⟩
 refine regionE <| pu4 ?_
 refine sL n0 0 0 (.slice l0 e0 m0) (Tryz.isAgg39 _) ?_
 refine pu1 ?_
 refine sAdd ln ((e0 : Nat) : Int) ?_
 refine pu1 <| nB ?_
 have z1 := (n0.picks [3, 3, 3, 3])
 have a2 := z1.merge3
 have c1 := Sat.shutN (d := ([(c0, .cells #[.slice l0 e0 m0, I a0.band, Pt w0 0, .bool (canc a0)] 118 (0, 0))] ++ (x0 ++ y0))) (A := []) j0 d0 a2
 rw [set_same d0] at c1
 have hst9 := sumJ_take (jobs := F.jobs) b0; rw [lenJ_at k0, if_pos o0] at hst9
 have b2 := (c1.picks [7, 7, 7, 7, 7, 7, 7])
 have hlen9 : ((f0 ++ g0)).length < rs.length := by rw [b0]; simp only [List.length_append, List.length_cons]; omega
 exact ⟨((f0 ++ g0), (some (i0, ptrV c0)), s0, (ln + ((e0 : Nat) : Int))), by first | exact hlen9 | (dsimp only; exact hlen9), alA, b2, h0, u0, om, om⟩
theorem p_within (n : Int) (a : Int) (b : Int) (hS : Sat W w (H :: F)) :
  Ro Tryz.prog 104 #[I n, I a, I b] (.bool (decide ((a ≤ n ∧ n ≤ b)))) W w (H :: F) := by
 refine callsA 15 Tryz.func104 rfl ?_
 refine sR <| pu1 <| nT <| sR <| pu4 ?_
 refine sD 10 (n ≥ a) (fun a0 => ?_) (fun a0 => ?_)
 rotate_left
 ·refine pu5 <| nT <| retE <| retT [.bool false] ?_
  exact ⟨congrArg (fun b => Ending.returned (.bool b)) ((decide_eq_false om).symm), hS⟩
 refine pu5 <| nT <| retE <| retT [.bool (decide ((n : Int) ≤ b))] ?_
 exact ⟨congrArg (fun b => Ending.returned (.bool b)) (by rw [Bool.eq_iff_iff]; simp only [decide_eq_true_eq, ge_iff_le]; omega), hS⟩
theorem p_valid (c : Cfg) (hS : Sat W w (H :: F)) :
  Ro Tryz.prog 42 #[.agg (encCfg c).toArray] (I (validCfg c)) W w (H :: F) := by
 refine callsA 44 Tryz.func42 rfl ?_
 refine sR ?_
 refine sBox hS (.agg (encCfg c).toArray) (encCfg c).toArray ?_
 intro _ _ h0
 refine pu1 <| nT <| sR <| pu1 ?_
 refine sL h0 0 0 (I c.workers) (Tryz.isAgg3 _) ?_
 refine cR Tryz.call104 (p_within c.workers 1 64 (Sat.flat h0)) ?_
 intro _ a0
 refine pu1 ?_
 refine sD 7 ((1 ≤ c.workers ∧ c.workers ≤ 64)) (fun j0 => ?_) (fun j0 => ?_)
 rotate_left
 ·refine pu16 <| pu16 <| pu3 <| nT <| seqE <| sR <| pu2 <| nT <| cTt <| sR <| pu1 <| nT <| retE <| thenK_r <| retT [I 2] ?_
  have k0 := (a0.dropAt 0 rfl)
  exact ⟨congrArg (fun z => Ending.returned (I z)) (by unfold validCfg; rw [if_neg om]), k0⟩
 refine pu1 <| gY ?_
 refine sL a0 0 1 (I c.tileW) (Tryz.isAgg3 _) ?_
 refine gY ?_
 refine cR Tryz.call104 (p_within c.tileW 1 64 (Sat.flat a0)) ?_
 intro _ b0
 refine pu2 ?_
 refine sD 12 ((1 ≤ c.tileW ∧ c.tileW ≤ 64)) (fun l0 => ?_) (fun l0 => ?_)
 rotate_left
 ·refine pu16 <| pu14 <| nT <| seqE <| sR <| pu2 <| nT <| cTt <| sR <| pu1 <| nT <| retE <| thenK_r <| retT [I 2] ?_
  have m0 := (b0.dropAt 0 rfl)
  exact ⟨congrArg (fun z => Ending.returned (I z)) (by unfold validCfg; rw [if_neg om]), m0⟩
 refine pu1 <| gY ?_
 refine sL b0 0 2 (I c.tileH) (Tryz.isAgg3 _) ?_
 refine gY ?_
 refine cR Tryz.call104 (p_within c.tileH 1 64 (Sat.flat b0)) ?_
 intro _ c0
 refine pu2 ?_
 refine sD 17 ((1 ≤ c.tileH ∧ c.tileH ≤ 64)) (fun n0 => ?_) (fun n0 => ?_)
 rotate_left
 ·refine pu16 <| pu9 <| nT <| seqE <| sR <| pu2 <| nT <| cTt <| sR <| pu1 <| nT <| retE <| thenK_r <| retT [I 2] ?_
  have o0 := (c0.dropAt 0 rfl)
  exact ⟨congrArg (fun z => Ending.returned (I z)) (by unfold validCfg; rw [if_neg om]), o0⟩
 refine pu1 <| gY ?_
 refine sL c0 0 3 (I c.arena) (Tryz.isAgg3 _) ?_
 refine gY ?_
 refine cR Tryz.call104 (p_within c.arena 0 1048576 (Sat.flat c0)) ?_
 intro _ d0
 refine pu2 ?_
 refine sD 22 ((0 ≤ c.arena ∧ c.arena ≤ 1048576)) (fun p0 => ?_) (fun p0 => ?_)
 rotate_left
 ·refine pu16 <| pu4 <| nT <| seqE <| sR <| pu2 <| nT <| cTt <| sR <| pu1 <| nT <| retE <| thenK_r <| retT [I 2] ?_
  have q0 := (d0.dropAt 0 rfl)
  exact ⟨congrArg (fun z => Ending.returned (I z)) (by unfold validCfg; rw [if_neg om]), q0⟩
 refine pu1 <| gY ?_
 refine sL d0 0 4 (I c.deque) (Tryz.isAgg3 _) ?_
 refine gY ?_
 refine cR Tryz.call104 (p_within c.deque 1 256 (Sat.flat d0)) ?_
 intro _ e0
 refine pu2 ?_
 refine sD 27 ((1 ≤ c.deque ∧ c.deque ≤ 256)) (fun r0 => ?_) (fun r0 => ?_)
 rotate_left
 ·refine pu15 <| nT <| seqE <| sR <| pu2 <| nT <| cTt <| sR <| pu1 <| nT <| retE <| thenK_r <| retT [I 2] ?_
  have s0 := (e0.dropAt 0 rfl)
  exact ⟨congrArg (fun z => Ending.returned (I z)) (by unfold validCfg; rw [if_neg om]), s0⟩
 refine pu1 <| gY ?_
 refine sL e0 0 5 (I c.tasks) (Tryz.isAgg3 _) ?_
 refine gY ?_
 refine cR Tryz.call104 (p_within c.tasks 1 4096 (Sat.flat e0)) ?_
 intro _ f0
 refine pu2 ?_
 refine sD 32 ((1 ≤ c.tasks ∧ c.tasks ≤ 4096)) (fun t0 => ?_) (fun t0 => ?_)
 rotate_left
 ·refine pu10 <| nT <| seqE <| sR <| pu2 <| nT <| cTt <| sR <| pu1 <| nT <| retE <| thenK_r <| retT [I 2] ?_
  have u0 := (f0.dropAt 0 rfl)
  exact ⟨congrArg (fun z => Ending.returned (I z)) (by unfold validCfg; rw [if_neg om]), u0⟩
 refine pu1 <| gY ?_
 refine sL f0 0 6 (I c.cells) (Tryz.isAgg3 _) ?_
 refine gY ?_
 refine cR Tryz.call104 (p_within c.cells 1 1048576 (Sat.flat f0)) ?_
 intro _ g0
 refine pu2 ?_
 refine sD 37 ((1 ≤ c.cells ∧ c.cells ≤ 1048576)) (fun v0 => ?_) (fun v0 => ?_)
 rotate_left
 ·refine pu5 <| nT <| seqE <| sR <| pu2 <| nT <| cTt <| sR <| pu1 <| nT <| retE <| thenK_r <| retT [I 2] ?_
  have w0 := (g0.dropAt 0 rfl)
  exact ⟨congrArg (fun z => Ending.returned (I z)) (by unfold validCfg; rw [if_neg om]), w0⟩
 refine pu1 <| gY ?_
 refine sL g0 0 7 (I c.jobs) (Tryz.isAgg3 _) ?_
 refine gY ?_
 refine cR Tryz.call104 (p_within c.jobs 1 64 (Sat.flat g0)) ?_
 intro _ i0
 refine pu2 <| nT <| seqE <| sR <| pu2 <| nT ?_
 refine cDn ((1 ≤ c.jobs ∧ c.jobs ≤ 64)) (fun x0 => ?_) (fun x0 => ?_)
 rotate_left
 ·refine sR <| pu1 <| nT <| retE <| thenK_r <| retT [I 2] ?_
  have y0 := (i0.dropAt 0 rfl)
  exact ⟨congrArg (fun z => Ending.returned (I z)) (by unfold validCfg; rw [if_neg om]), y0⟩
 refine kT <| sR <| pu1 <| nT <| retE <| retT [I 0] ?_
 have z0 := (i0.dropAt 0 rfl)
 exact ⟨congrArg (fun z => Ending.returned (I z)) (by unfold validCfg; rw [if_pos om]), z0⟩
end Go.Proofs.YtegmennaekipaaaGreat

namespace Go.Proofs.YtegmennaekipaaaGreat
open Go Go.E
set_option linter.unusedVariables false
set_option linter.unusedSimpArgs false
set_option linter.unnecessarySimpa false
set_option maxRecDepth 100000
set_option maxHeartbeats 2000000
variable {W w : World} {H : Chunk} {F : List Chunk}
theorem valid_deps {l : List Task} (hv : validC l = 0) : ∀ z ∈ l, z.deps.l.length ≤ 4096 := by
  intro z hz
  obtain ⟨i, hi⟩ := List.getElem?_of_mem hz
  have h1 := tasksOK_at (validC_zero hv).2.2 hi
  have h3 := asc_len (by omega) (taskOK_asc h1)
  have h4 := (validC_zero hv).2.1
  have h5 := (List.getElem?_eq_some_iff.1 hi).1
  omega
theorem kv_snoc {jm : List (Int × Nat)} {k : Int} {b : Nat} : kvJ jm ++ [(k, ptrV b)] = kvJ (jm ++ [(k, b)]) := by unfold kvJ; rw [List.map_append]; rfl
theorem JobsP.add {jobs : List JS} {jm : List (Int × Nat)} {jcs : List Chunk} {k : Int} {b : Nat} {j2 : JS} {c2 : Chunk} (h : JobsP jobs jm jcs) (hk : 0 ≤ k ∧ k < 64) (hno : (jobs.getD k.toNat default).added = false) (hR : JobP b j2 c2) (ha : j2.added = true) :
  JobsP (jobs.set k.toNat j2) (jm ++ [(k, b)]) (jcs ++ [c2]) := by
 have hl := h.l
 have hkn : k ∉ jm.map (·.1) := fun hm => by have := ((h.k k).1 hm).2.2; rw [hno] at this; cases this
 have e : (jm.map fun x => (jobs.set k.toNat j2).getD x.1.toNat default) = (jm.map fun x => jobs.getD x.1.toNat default) := by
  apply List.map_congr_left
  intro x hx
  rw [getD_set' om, if_neg]
  intro q
  have hx1 := (h.k x.1).1 (List.mem_map.2 ⟨x, hx, rfl⟩)
  have q2 : k = x.1 := by omega
  exact hkn (by rw [q2]; exact List.mem_map.2 ⟨x, hx, rfl⟩)
 refine ⟨?_, ?_, ?_, by rw [List.length_set]; exact hl⟩
 ·rw [List.map_append, List.map_append, e]
  refine Obs.snoc h.o ?_
  show JobP b ((jobs.set k.toNat j2).getD k.toNat default) c2
  rw [getD_set' om, if_pos rfl]; exact hR
 ·rw [List.map_append, List.nodup_append]
  refine ⟨h.nd, by simp, ?_⟩
  intro a ha b' hb'
  obtain rfl : b' = k := by simpa using hb'
  exact fun q => hkn (by rw [← q]; exact ha)
 ·intro i
  rw [List.map_append, List.mem_append, h.k i, getD_set' om]
  constructor
  ·rintro (⟨h1, h2, h3⟩ | h1)
   ·refine ⟨h1, h2, ?_⟩
    split
    ·exact ha
    ·exact h3
   ·obtain rfl : i = k := by simpa using h1
    exact ⟨hk.1, hk.2, by rw [if_pos rfl]; exact ha⟩
  ·rintro ⟨h1, h2, h3⟩
   by_cases q : k = i
   ·right; subst q; simp
   ·left
    rw [if_neg om] at h3
    exact ⟨h1, h2, h3⟩
theorem own_some {α : Type} {enc : α → List Value} {E sz : Nat} {a : Option Addr} {n k : Nat} {xs : List α} {c : Chunk} (h : OwnT enc E sz a n k xs c) (hn : 0 < n) : ∃ b o : Nat, a = some ⟨b, o, none⟩ := by
  rcases h.2.2.2 with ⟨_, h0, _⟩ | ⟨b, off, _, h1, _⟩
  · omega
  · exact ⟨b, off, h1⟩
theorem jobs_zero : JobsP (List.replicate 64 JS.zero) [] [] := by
  refine ⟨Obs.nil _, by simp, ?_, by simp⟩
  intro i
  constructor
  · intro h; cases h
  · rintro ⟨_, _, h⟩
    have e : (List.replicate 64 JS.zero).getD i.toNat default = JS.zero := by
      rw [List.getD_eq_getElem?_getD, List.getElem?_replicate]; split <;> rfl
    rw [e] at h; cases h
theorem pf_add {p : Nat} {F : FS} {M : Chunk} {F0 : List Chunk} (hR : FarmP p F M) {K : Int} (hF : FI F K) {j : JS} (x : Int) (al : Option Addr) (nl kl : Nat) (l : List Task) (bd : Int) (hl : RdT encTask 9 [H] al nl kl l) (dl : ∀ z ∈ l, Task.Ok [H] z) (hx : 0 ≤ x ∧ x < 64) (hj : F.jobs[x.toNat]? = some j) (ha : j.added = false) (hb : 0 ≤ bd ∧ bd < 4) (hv : validC l = 0) (hsc : ∀ z ∈ l, z.scratch ≤ F.cfg.arena) (hct : 0 ≤ F.cfg.tasks ∧ F.cfg.tasks ≤ 4096) (htk : ((l.length : Nat) : Int) ≤ F.cfg.tasks - loadL F.jobs) (hS : Sat W w (M :: H :: F0)) :
  Calls Tryz.prog 17 #[Pt p 0, I x, .slice al nl kl, I bd] w fun e w' => ∃ M' : Chunk, e = .returned (I 0) ∧ FarmP p (addF F x l bd) M' ∧ Sat W w' (M' :: H :: F0) := by
 have hl_l := hl.le; have hn_l := hl.len
 obtain ⟨wb, wo, wn, wk, q, m, xs, jm, Wc, Qc, Jc, acs, dcs, jcs, rfl, hOw, hco, hAs, hDs, hQ, hM, hJs⟩ := hR
 have b1 : Sat W _ ((Tri p 85 (preP F.cfg wb wo wn wk q m) (([] : List Ref).flatMap encRef) (encStt F.st)) :: Wc :: acs.flatten :: dcs.flatten :: Qc :: Jc :: jcs.flatten :: H :: F0) := Sat.perm hS (by simp)
 have hwl := hOw.len; have hwk := hOw.le; have hcl := core_len hco; have has1 := hAs.1; have hds1 := hDs.1; rw [List.length_map] at has1 hds1; have hjl1 := hJs.l
 have hg := JobsP.no hJs (k := x) (fun h => by rw [getD_some hj, ha] at h; exact absurd h.2.2 (by decide))
 have hs1 := hF.st.a; have hs2 := hF.st.b; have hs3 := hF.st.c; have hs4 := hF.st.d; have hs5 := hF.st.e; have hs6 := hF.st.f; have hs7 := hF.st.g; have hn9 := hF.fw.n; have hvz := validC_zero hv; have hlb := hvz.2.1; have hl0 : 0 ≤ loadL F.jobs := Int.natCast_nonneg _; have hir := idx_le (y := 2) (s := (newB l).st) (k := 0); have hnl : (newB l).st.length = l.length := by simp [newB]
 refine callsA 98 Tryz.func17 rfl ?_
 refine sR <| pu1 <| nT <| seqE <| sR <| pu1 ?_
 refine cX Tryz.call50 (p_empty ⟨om, om⟩ b1) ?_
 rintro _ _ ⟨rfl, n0⟩
 refine nT <| cFf <| kT <| seqE <| sR <| pu3 ?_
 refine sD 19 (x < 0) (fun c1 => ?_) (fun c1 => ?_)
 ·refine pu3 <| nT <| cTt <| sR <| pu1 <| nT <| retE <| thenK_r <| retT [I 16] ?_
  omega
 refine pu3 <| nT ?_
 refine cD (x ≥ 64) (fun d1 => ?_) (fun d1 => ?_)
 ·refine sR <| pu1 <| nT <| retE <| thenK_r <| retT [I 16] ?_
  omega
 refine kT <| seqE <| sR <| pu3 ?_
 refine sLp n0 (ptr_up 0 rfl tri_pre) 10 (.map (some m)) (Tryz.isAgg80 _) ?_
 refine pu1 ?_
 refine stepY (.pointer none) rfl rfl (Y_iget (k := x) n0 5 hM (by rw [hg]; rfl) Tryz.runUnderlying80 Tryz.runUnderlying3 Tryz.zeroValue111) ?_
 refine pu1 <| nT <| cFf <| kT <| seqE <| sR <| pu3 ?_
 refine sD 32 (bd < 0) (fun e1 => ?_) (fun e1 => ?_)
 ·refine pu3 <| nT <| cTt <| sR <| pu1 <| nT <| retE <| thenK_r <| retT [I 2] ?_
  omega
 refine pu3 <| nT ?_
 refine cD (bd ≥ 4) (fun f1 => ?_) (fun f1 => ?_)
 ·refine sR <| pu1 <| nT <| retE <| thenK_r <| retT [I 2] ?_
  omega
 refine kT <| sR <| pu1 ?_
 refine cX Tryz.call51 (b_new al nl kl l (RdT.flat (hl.up 7 (by rfl))) (fun z hz => (dl z hz).of_mem (mem_flat1 7 (by rfl))) (Sat.flat n0)) ?_
 rintro _ _ (⟨o0, rfl, p0⟩ | ⟨o0, b0, g1, rfl, h1, p0⟩)
 ·have z2 := Sat.unflat p0
  refine pu5 <| nT <| seqE <| sR <| pu2 <| nT ?_
  have i1 : ¬ (((validC l) : Int) = 0) := o0
  refine cT _ (bne_iff_ne.2 i1) ?_
  refine sR <| pu2 <| nT <| retE <| thenK_r <| retT [I (validC l)] ?_
  exact absurd hv o0
 have j1 := Sat.unflat1 p0
 refine pu5 <| nT <| seqE <| sR <| pu2 <| nT <| cFf <| kT <| seqE <| sR <| pu3 <| nT <| blockE ?_
 refine loopA (γ := Nat) (fun i => [(0, Pt p 0), (1, I x), (2, .slice al nl kl), (3, I bd), (9, Pt b0 0), (44, .slice al nl kl), (45, I ((nl : Nat) : Int)), (46, I ((i : Nat) : Int))]) (fun i w => Sat W w (g1 :: (Tri p 85 (preP F.cfg wb wo wn wk q m) (([] : List Ref).flatMap encRef) (encStt F.st)) :: Wc :: acs.flatten :: dcs.flatten :: Qc :: Jc :: jcs.flatten :: H :: F0) ∧ i ≤ nl) (fun i => nl - i) 0 ⟨j1, om⟩ ?_
 rintro i ρ _ ⟨j0, hi⟩
 refine sR <| pu1 <| nT <| seqE ?_
 refine cD (((i : Nat) : Int) < ((nl : Nat) : Int)) (fun k1 => ?_) (fun k1 => ?_)
 ·refine kT <| seqE <| blockE <| sR ?_
  refine sIdx hl ((i : Nat) : Int) Tryz.runUnderlying39 Tryz.sizeOf45 ?_
  intro a0 _ _ w0 l1
  rw [Int.toNat_natCast] at w0
  have hsc_x_21 := hsc a0 (List.mem_of_getElem? w0)
  refine sLpA j0 (l1.up 8 rfl) 0 (encTask a0) (Tryz.isAgg45 _) (Tryz.sizeOf45 _) ?_
  refine sAlloc j0 Tryz.zeroValue45 ?_
  intro m1 _ n1
  refine sT n1 0 0 (.agg (encTask a0).toArray) (encTask a0) (encTask a0).toArray Tryz.sizeOf45 ?_
  intro _ q0
  refine nT <| seqE ?_
  refine drawE [] [(1, ⟨m1, 8, none⟩, I a0.scratch), (6, ⟨p, 3, none⟩, I F.cfg.arena)] [(true, [0, 2, 3, 4, 5]), (true, [1]), (true, [6]), (true, [7])] rfl kr ⟨.inr (q0.cell 0 rfl rfl), .inr (cell_up q0 2 rfl (k := 3) tri_pre rfl), trivial⟩ ?_
  have o1 := q0.drew
  refine wU [0, 2, 3, 4, 5] ?_
  refine wLd (I a0.scratch) 0 Tryz.isAgg3 ?_
  refine wLd (I F.cfg.arena) 1 Tryz.isAgg3 ?_
  refine wU [7] ?_
  refine wN ?_
  refine thenK_n ?_
  refine cD (a0.scratch > F.cfg.arena) (fun p1 => ?_) (fun p1 => ?_)
  ·refine sR <| pu1 <| nT <| retE <| blockK_r <| thenK_r <| tR <| thenK_r <| retT [I 12] ?_
   omega
  refine skipE <| blockK_n <| thenK_n <| regionE ?_
  refine sAdd ((i : Nat) : Int) 1 ?_
  refine pu1 <| nT ?_
  have q1 := (o1.dropAt 0 rfl)
  exact ⟨i + 1, od, alA, q1, om⟩
 refine exitE <| xB <| thenK_n <| seqE <| seqE ?_
 refine drawE [3] [(9, ⟨p, 5, none⟩, I F.cfg.tasks)] [(true, [0, 1, 2, 5, 6, 7, 8]), (true, [9]), (false, [3]), (true, [4]), (true, [10])] rfl kr ⟨.inr (cell_up j0 1 rfl (k := 5) tri_pre rfl), trivial⟩ ?_
 have r1 := j0.drew
 refine wU [0, 1, 2, 5, 6, 7, 8] ?_
 refine wLd (I F.cfg.tasks) 0 Tryz.isAgg3 ?_
 refine wO rfl ?_
 have s1 := (r1.picks [7, 7, 7, 7, 7, 7, 7])
 have t1 := (s1.merge7)
 have u1 : FarmP p F ((Tri p 85 (preP F.cfg wb wo wn wk q m) (([] : List Ref).flatMap encRef) (encStt F.st)) ++ (Wc ++ (acs.flatten ++ (dcs.flatten ++ (Qc ++ (Jc ++ jcs.flatten)))))) := ⟨_, _, _, _, _, _, _, _, _, _, _, _, _, _, rfl, hOw, hco, hAs, hDs, hQ, hM, hJs⟩
 refine cX Tryz.call52 (pf_load u1 hF (Sat.flat1 t1)) ?_
 rintro _ _ ⟨rfl, v1⟩
 have w1 := Sat.unflat1 v1
 have r0 := w1.split7
 refine nilO ⟨⟨.inr (cell_up r0 0 rfl (k := 5) tri_pre rfl), trivial⟩, ?_⟩
 refine wAdd ((nl : Nat) : Int) (loadL F.jobs) ?_
 refine wU [10] ?_
 refine wN ?_
 refine thenK_n ?_
 have x1 : ¬ (((((nl : Nat) : Int) + (loadL F.jobs)) : Int) > F.cfg.tasks) := om
 refine cF _ (decide_eq_false x1) ?_
 refine kT <| seqE ?_
 refine drawE [6, 10, 11] [(3, ⟨p, 10, none⟩, .map (some m))] [(true, [0, 1, 2, 4, 5, 7, 8]), (true, [3]), (false, [6]), (true, [9]), (false, [10]), (false, [11])] rfl kr ⟨.inr (cell_up r0 0 rfl (k := 10) tri_pre rfl), trivial⟩ ?_
 have y1 := r0.drew
 refine wU [0, 1, 2, 4, 5, 7, 8] ?_
 refine wLd (.map (some m)) 0 Tryz.isAgg80 ?_
 refine wO rfl ?_
 refine cX Tryz.call53 (p_copies al nl kl l (RdT.flat (hl.up 8 (by rfl))) (fun z hz => (dl z hz).of_mem (mem_flat1 8 (by rfl))) om (valid_deps hv) (Sat.flat y1)) ?_
 rintro _ _ ⟨d0, e0, f0, _, g0, h0, rfl, s0, z1, x0, a2⟩
 have y0 := Sat.unflat2 a2; have hn_az_47 := s0.len; have hl_az_47 := s0.le; have hv_az_47 := congrArg List.length x0; rw [List.length_map, List.length_map] at hv_az_47
 refine nilO ⟨⟨.inr (cell_up y0 2 rfl (k := 10) tri_pre rfl), trivial⟩, ?_⟩
 refine wU [9] ?_
 refine wO rfl ?_
 refine sBox y0 (.agg #[.slice d0 e0 f0, I bd, Pt b0 0, .bool false]) #[.slice d0 e0 f0, I bd, Pt b0 0, .bool false] ?_
 intro c0 _ z0
 refine nilO ⟨⟨.inr (cell_up z0 3 rfl (k := 10) tri_pre rfl), trivial⟩, ?_⟩
 refine wO rfl ?_
 refine sIAdd (k := x) (v := Pt c0 0) z0 8 hM hg Tryz.runUnderlying80 Tryz.runUnderlying3 ?_
 intro k0 _ b2 d2
 have hM_60_ : MapI m (kvJ (jm ++ [(x, c0)])) k0 := by rw [← kv_snoc]; exact b2
 refine nilO ⟨dA, ?_⟩
 refine wN ?_
 refine thenK_n <| seqE <| sR <| pu1 ?_
 have e2 := (d2.pick 10 rfl)
 refine cX Tryz.call54 (b_ready h1 (new_wf hv) (Sat.flat1 e2)) ?_
 rintro _ _ ⟨f2, i0, g2, t0, l0, rfl, u0, h2, i2⟩
 have j2 := Sat.unflat2 i2; have hn_az_67 := u0.len; have hl_az_67 := u0.le
 refine pu2 <| nT <| blockE ?_
 refine loopA (γ := Nat × QS × Chunk) (fun ⟨i, qi, Qci⟩ => [(0, Pt p 0), (1, I x), (3, I bd), (82, .slice f2 i0 g2), (83, I ((i0 : Nat) : Int)), (84, I ((i : Nat) : Int))]) (fun ⟨i, qi, Qci⟩ w => Sat W w (t0 :: l0 :: [(c0, .cells #[.slice d0 e0 f0, I bd, Pt b0 0, .bool false] 118 (0, 0))] :: g0 :: h0 :: (Tri p 85 (preP F.cfg wb wo wn wk q m) (([] : List Ref).flatMap encRef) (encStt F.st)) :: Wc :: acs.flatten :: dcs.flatten :: Qci :: k0 :: jcs.flatten :: H :: F0) ∧ i ≤ i0 ∧ (InjP q qi Qci) ∧ (qi = readyQ x bd F.q ((idxOf 2 0 (newB l).st).take i))) (fun ⟨i, qi, Qci⟩ => i0 - i) (0, F.q, Qc) ⟨j2, om, hQ, rfl⟩ ?_
 rintro ⟨i, qi, Qci⟩ ρ _ ⟨m0, hi, hQi, hqe⟩
 refine sR <| pu1 <| nT <| seqE ?_
 refine cD (((i : Nat) : Int) < ((i0 : Nat) : Int)) (fun k2 => ?_) (fun k2 => ?_)
 ·refine kT <| seqE <| blockE <| sR ?_
  refine sIdx u0 ((i : Nat) : Int) Tryz.runUnderlying22 Tryz.sizeOf3 ?_
  intro v0 _ _ a1 l2
  rw [Int.toNat_natCast] at a1
  refine sLp m0 (l2.up 0 rfl) 0 (I v0) (Tryz.isAgg3 _) ?_
  refine pu1 <| nT <| regionE <| pu3 ?_
  refine sLp m0 (ptr_up 5 rfl tri_pre) 9 (Pt q 0) (Tryz.isAgg77 _) ?_
  refine pu4 ?_
  have m2 := (m0.pick 9 rfl)
  refine cX Tryz.call55 (pq_push hQi (⟨x, v0⟩ : Ref) bd om (Sat.flat1 m2)) ?_
  rintro _ _ ⟨n2, rfl, o2, p2⟩
  have q2 := Sat.unflat1 p2
  refine nB <| regionE ?_
  refine sAdd ((i : Nat) : Int) 1 ?_
  refine pu1 <| nT ?_
  have r2 := (q2.picks [9, 9, 9, 9, 9, 9, 9, 9, 9])
  exact ⟨(i + 1, (pushQ qi (⟨x, v0⟩ : Ref) bd), n2), od, alA, r2, om, o2, (by rw [ready_take a1, ← hqe])⟩
 refine exitE <| xB <| thenK_n <| sR <| pu1 <| nT <| retE <| retT [I 0] ?_
 have s2 := (m0.picks [1, 3, 4, 4, 11])
 have t2 : Sat W _ ((jcs ++ [([(c0, Obj.cells #[.slice d0 e0 f0, I bd, Pt b0 0, .bool false] 118 (0, 0))] ++ ((h0 ++ g0) ++ l0))]).flatten :: t0 :: (Tri p 85 (preP F.cfg wb wo wn wk q m) (([] : List Ref).flatMap encRef) (encStt F.st)) :: Wc :: acs.flatten :: dcs.flatten :: Qci :: k0 :: H :: F0) := Sat.perm (show Sat W _ (jcs.flatten :: [(c0, .cells #[.slice d0 e0 f0, I bd, Pt b0 0, .bool false] 118 (0, 0))] :: h0 :: g0 :: l0 :: t0 :: (Tri p 85 (preP F.cfg wb wo wn wk q m) (([] : List Ref).flatMap encRef) (encStt F.st)) :: Wc :: acs.flatten :: dcs.flatten :: Qci :: k0 :: H :: F0) from s2) (by simp)
 have u2 := JobsP.add (b := c0) (c2 := ([(c0, Obj.cells #[.slice d0 e0 f0, I bd, Pt b0 0, .bool false] 118 (0, 0))] ++ ((h0 ++ g0) ++ l0))) hJs (k := x) hx (by rw [getD_some hj]; exact ha) (JobP.mk (s := jobN l bd) (cn := false) (T := (h0 ++ g0)) ((s0.rdAt (cs := [h0, g0]) 1 rfl).of_mem (fun p hp => by simp at hp ⊢; exact hp)) (fun z hz => (z1 z hz).of_mem mS) x0 h2 rfl (fun _ => by show doneOf (newB l) < (((l.map Task.v).length : Nat) : Int); rw [done_new, List.length_map]; omega) (canc_run rfl).symm) rfl
 have v2 := ((t2.picks [7, 7, 7, 7, 7, 7]).dropAt 7 rfl)
 have w2 := (v2.merge7)
 have he : addF F x l bd = (⟨F.cfg, F.ws, F.ar, F.dq, qi, (F.jobs.set x.toNat (jobN l bd)), F.st⟩ : FS) := by unfold addF; rw [hqe, List.take_of_length_le om]
 exact ⟨_, rfl, by rw [he]; exact ⟨_, _, _, _, _, _, _, _, _, _, _, _, _, _, rfl, hOw, hco, hAs, hDs, hQi, hM_60_, u2⟩, w2⟩
theorem pf_new {cs : List Chunk} (c : Cfg) (hv : validCfg c = 0) (hS : Sat W w cs) :
  Calls Tryz.prog 12 #[.agg (encCfg c).toArray] w fun e w' => ∃ (p : Nat) (M : Chunk), e = .returned (.tuple #[Pt p 0, I 0]) ∧ FarmP p (newF c) M ∧ Sat W w' (M :: cs) := by
 have hvc := validCfg_zero hv
 refine callsA 66 Tryz.func12 rfl ?_
 refine sR ?_
 refine sBox hS (.agg (encCfg c).toArray) (encCfg c).toArray ?_
 intro f0 _ o0
 refine pu2 <| nT <| seqE <| sR ?_
 refine lA o0 0 0 8 (Tryz.isAgg26 _) (Tryz.sizeOf26 _) ?_
 refine cR Tryz.call42 (p_valid c (Sat.flat o0)) ?_
 intro _ p0
 refine pu1 <| nT <| sR <| pu2 <| nT ?_
 have u0 : ((validCfg c) : Int) = 0 := hv
 refine cF _ (bne_eq_false_iff_eq.2 u0) ?_
 refine kT <| sR <| pu1 ?_
 refine sL p0 0 5 (I c.tasks) (Tryz.isAgg3 _) ?_
 refine cX Tryz.call43 (pq_new c.tasks om p0) ?_
 rintro _ _ ⟨a0, d0, rfl, v0, q0⟩
 refine pu5 <| nT <| seqE <| sR <| pu2 <| nT <| cFf <| kT <| sR ?_
 refine lA q0 1 0 8 (Tryz.isAgg26 _) (Tryz.sizeOf26 _) ?_
 refine pu1 ?_
 refine sMakeMapI q0 ?_
 intro b0 e0 _ w0 x0
 refine pu1 ?_
 refine sBox x0 (.agg #[I c.workers, I c.tileW, I c.tileH, I c.arena, I c.deque, I c.tasks, I c.cells, I c.jobs, .slice none 0 0, Pt a0 0, .map (some b0), I 0, I 0, I 0, I 0, I 0, I 0, I 0, I 0, I 0, I 0]) #[I c.workers, I c.tileW, I c.tileH, I c.arena, I c.deque, I c.tasks, I c.cells, I c.jobs, .slice none 0 0, Pt a0 0, .map (some b0), I 0, I 0, I 0, I 0, I 0, I 0, I 0, I 0, I 0, I 0] ?_
 intro c0 _ r0
 refine pu1 <| nT <| seqE <| sR <| pu1 ?_
 refine sL r0 3 0 (I c.workers) (Tryz.isAgg3 _) ?_
 refine pu1 <| nT <| blockE ?_
 have y0 := (r0.picks [2, 3, 2])
 have z0 : Sat W _ ([(c0, .cells #[I c.workers, I c.tileW, I c.tileH, I c.arena, I c.deque, I c.tasks, I c.cells, I c.jobs, .slice none 0 0, Pt a0 0, .map (some b0), I 0, I 0, I 0, I 0, I 0, I 0, I 0, I 0, I 0, I 0] 85 (0, 0))] :: ([] : Chunk) :: ([] : List Chunk).flatten :: ([] : List Chunk).flatten :: [(f0, .cells (encCfg c).toArray 26 (0, 0))] :: d0 :: e0 :: cs) := Sat.perm (show Sat W _ ([(c0, .cells #[I c.workers, I c.tileW, I c.tileH, I c.arena, I c.deque, I c.tasks, I c.cells, I c.jobs, .slice none 0 0, Pt a0 0, .map (some b0), I 0, I 0, I 0, I 0, I 0, I 0, I 0, I 0, I 0, I 0] 85 (0, 0))] :: [(f0, .cells (encCfg c).toArray 26 (0, 0))] :: d0 :: e0 :: cs) from y0) (by simp)
 refine loopA (γ := Nat × (Option Addr) × Nat × Nat × Chunk × (List PW) × (List Chunk) × (List Chunk)) (fun ⟨i, wa, wn, wk, wc, xs, acs, dcs⟩ => [(1, Pt f0 0), (7, Pt c0 0), (31, I c.workers), (32, I ((i : Nat) : Int))]) (fun ⟨i, wa, wn, wk, wc, xs, acs, dcs⟩ w => Sat W w ([(c0, .cells #[I c.workers, I c.tileW, I c.tileH, I c.arena, I c.deque, I c.tasks, I c.cells, I c.jobs, .slice wa wn wk, Pt a0 0, .map (some b0), I 0, I 0, I 0, I 0, I 0, I 0, I 0, I 0, I 0, I 0] 85 (0, 0))] :: wc :: acs.flatten :: dcs.flatten :: [(f0, .cells (encCfg c).toArray 26 (0, 0))] :: d0 :: e0 :: cs) ∧ (i : Int) ≤ c.workers ∧ OwnT encPW 93 7 wa wn wk xs wc ∧ xs.map PW.core = List.replicate i (⟨0, 0, 0, 0, 0⟩ : Core) ∧ Obs PaR (xs.map (·.a)) (List.replicate i (⟨c.arena, 0, 0, []⟩ : AS)) acs ∧ Obs DqP (xs.map (·.d)) (List.replicate i (⟨c.deque, []⟩ : DS)) dcs) (fun ⟨i, wa, wn, wk, wc, xs, acs, dcs⟩ => c.workers.toNat - i) (0, none, 0, 0, [], [], [], []) ⟨z0, om, OwnT.nil fR, rfl, Obs.nil _, Obs.nil _⟩ ?_
 rintro ⟨i, wa, wn, wk, wc, xs, acs, dcs⟩ ρ _ ⟨i0, hi, hOw, hco, hAs, hDs⟩
 have hwl := hOw.len; have hwk := hOw.le; have hcl := congrArg List.length hco; rw [List.length_map, List.length_replicate] at hcl
 refine sR <| pu1 <| nT <| seqE ?_
 refine cD (((i : Nat) : Int) < c.workers) (fun a1 => ?_) (fun a1 => ?_)
 rotate_left
 ·refine exitE <| xB <| thenK_n <| sR <| pu3 <| nT <| retE <| retT [Pt c0 0, I 0] ?_
  obtain rfl : i = c.workers.toNat := by omega
  obtain ⟨wb, wo, rfl⟩ := own_some hOw om
  have b1 := (i0.dropAt 4 rfl)
  have c1 : Sat W _ (((Tri c0 85 (preP c wb wo wn wk a0 b0) (([] : List Ref).flatMap encRef) (encStt (newF c).st)) ++ (wc ++ (acs.flatten ++ (dcs.flatten ++ (d0 ++ (e0 ++ ([] : List Chunk).flatten)))))) :: cs) := Sat.perm (show Sat W _ ((Tri c0 85 (preP c wb wo wn wk a0 b0) (([] : List Ref).flatMap encRef) (encStt (newF c).st)) :: wc :: acs.flatten :: dcs.flatten :: d0 :: e0 :: cs) from b1) (by simp)
  exact ⟨_, _, rfl, ⟨_, _, _, _, _, _, _, _, _, _, _, _, _, _, rfl, hOw, by rw [hco]; unfold newF; rw [List.map_replicate]; rfl, hAs, hDs, v0, w0, jobs_zero⟩, c1⟩
 refine kT <| seqE <| blockE <| sR <| pu1 ?_
 refine sL i0 4 3 (I c.arena) (Tryz.isAgg3 _) ?_
 refine cX Tryz.call44 (pa_new c.arena om i0) ?_
 rintro _ _ ⟨j0, k0, rfl, d1, s0⟩
 refine pu5 <| nT <| seqE <| sR <| pu2 <| nT <| cFf <| kT <| sR <| pu1 ?_
 refine sL s0 5 4 (I c.deque) (Tryz.isAgg3 _) ?_
 refine cX Tryz.call45 (pd_new c.deque om s0) ?_
 rintro _ _ ⟨l0, m0, rfl, e1, t0⟩
 refine pu5 <| nT <| seqE <| sR <| pu2 <| nT <| cFf <| kT <| regionE <| pu4 ?_
 refine sL t0 2 8 (.slice wa wn wk) (Tryz.isAgg81 _) ?_
 refine pu3 ?_
 refine sBS t0 #[I 0, I 0, I 0, I 0, I 0, Pt j0 0, Pt l0 0] Tryz.runUnderlying81 Tryz.sizeOf93 Tryz.zeroValue93 ?_
 intro _ _ f1
 refine sApp (nb := 56) f1 hOw 4 (RdT.blk (enc := encPW) (sz := 7) (xs := [(⟨0, 0, 0, 0, 0, j0, l0⟩ : PW)]) fR 1 0 rfl rfl rfl om) Tryz.underlying81 (i := Tryz.t93) kr fR ?_
 intro g0 h0 n0 _ g1 h1
 refine pu2 ?_
 refine tW h1 3 8 (.slice g0 (wn + 1) h0) Tryz.sizeOf81 ?_
 intro _ i1
 refine nB <| regionE ?_
 refine sAdd ((i : Nat) : Int) 1 ?_
 refine pu1 <| nT ?_
 have j1 := ((i1.picks [6, 3, 6, 6, 6]).dropAt 5 rfl)
 have k1 : Sat W _ ([(c0, .cells #[I c.workers, I c.tileW, I c.tileH, I c.arena, I c.deque, I c.tasks, I c.cells, I c.jobs, .slice g0 (wn + 1) h0, Pt a0 0, .map (some b0), I 0, I 0, I 0, I 0, I 0, I 0, I 0, I 0, I 0, I 0] 85 (0, 0))] :: n0 :: (acs ++ [k0]).flatten :: (dcs ++ [m0]).flatten :: [(f0, .cells (encCfg c).toArray 26 (0, 0))] :: d0 :: e0 :: cs) := Sat.perm (show Sat W _ ([(c0, .cells #[I c.workers, I c.tileW, I c.tileH, I c.arena, I c.deque, I c.tasks, I c.cells, I c.jobs, .slice g0 (wn + 1) h0, Pt a0 0, .map (some b0), I 0, I 0, I 0, I 0, I 0, I 0, I 0, I 0, I 0, I 0] 85 (0, 0))] :: n0 :: acs.flatten :: k0 :: dcs.flatten :: m0 :: [(f0, .cells (encCfg c).toArray 26 (0, 0))] :: d0 :: e0 :: cs) from j1) (by simp)
 exact ⟨(i + 1, g0, (wn + 1), h0, n0, (xs ++ [(⟨0, 0, 0, 0, 0, j0, l0⟩ : PW)]), (acs ++ [k0]), (dcs ++ [m0])), od, alA, k1, om, g1, (by rw [List.map_append, hco, List.replicate_succ']; rfl), (by rw [List.replicate_succ', List.map_append]; exact Obs.snoc hAs d1), (by rw [List.replicate_succ', List.map_append]; exact Obs.snoc hDs e1)⟩
end Go.Proofs.YtegmennaekipaaaGreat

namespace Go.Proofs.YtegmennaekipaaaGreat
open Go Go.E
set_option linter.unusedVariables false
set_option linter.unusedSimpArgs false
set_option linter.unnecessarySimpa false
set_option maxRecDepth 100000
set_option maxHeartbeats 2000000
variable {W w : World} {H : Chunk} {F : List Chunk}
/-- Ascending up to place i. -/
def SortTo (zs : List Int) (i : Nat) : Prop := ∀ (p q : Nat) (u v : Int), p < q → q < i → zs[p]? = some u → zs[q]? = some v → u ≤ v
def InsI (ys : List Int) (i j : Nat) : Prop := ∀ (p q : Nat) (u v : Int), p < q → q ≤ i → q ≠ j → ys[p]? = some u → ys[q]? = some v → u ≤ v
theorem SortTo.one (zs : List Int) {i : Nat} (h : i ≤ 1) : SortTo zs i := fun p q u v h1 h2 => by omega
theorem SortTo.ins {zs : List Int} {i : Nat} (h : SortTo zs i) : InsI zs i i := fun p q u v h1 h2 h3 => h p q u v h1 (by omega)
theorem InsI.zero {ys : List Int} {i j : Nat} (h : InsI ys i j) (hj : j = 0) : SortTo ys (i + 1) := fun p q u v h1 h2 => h p q u v h1 (by omega) (by omega)
theorem InsI.done {ys : List Int} {i j : Nat} {a b : Int} (h : InsI ys i j) (hj : 0 < j) (ha : ys[j - 1]? = some a) (hb : ys[j]? = some b) (hab : a ≤ b) : SortTo ys (i + 1) := by
  intro p q u v h1 h2 hu hv
  by_cases e : q = j
  · subst e
    rw [hb] at hv; obtain rfl := Option.some.inj hv
    by_cases e2 : p = q - 1
    · subst e2; rw [ha] at hu; obtain rfl := Option.some.inj hu; exact hab
    · exact Int.le_trans (h p (q - 1) u a (by omega) (by omega) (by omega) hu ha) hab
  · exact h p q u v h1 (by omega) e hu hv
theorem adj {ys : List Int} {j : Nat} {a b : Int} (hj : 0 < j) (ha : ys[j - 1]? = some a) (hb : ys[j]? = some b) : ∃ A B, ys = A ++ a :: b :: B ∧ A.length = j - 1 := by
  obtain ⟨h1, e1⟩ := List.getElem?_eq_some_iff.1 ha
  obtain ⟨h2, e2⟩ := List.getElem?_eq_some_iff.1 hb
  refine ⟨ys.take (j - 1), ys.drop (j + 1), ?_, by rw [List.length_take]; omega⟩
  have d1 : ys.drop (j - 1) = a :: ys.drop j := by rw [List.drop_eq_getElem_cons h1, e1, show j - 1 + 1 = j by omega]
  have d2 : ys.drop j = b :: ys.drop (j + 1) := by rw [List.drop_eq_getElem_cons h2, e2]
  rw [← d2, ← d1, List.take_append_drop]
theorem swap_eq {A B : List Int} {a b : Int} {j : Nat} (hj : 0 < j) (hA : A.length = j - 1) : ((A ++ a :: b :: B).set j a).set (j - 1) b = A ++ b :: a :: B := by
  rw [List.set_append_right _ _ (by omega), List.set_append_right _ _ (by omega), hA, Nat.sub_self, show j - (j - 1) = 1 by omega]; rfl
theorem swap_perm {ys : List Int} {j : Nat} {a b : Int} (hj : 0 < j) (ha : ys[j - 1]? = some a) (hb : ys[j]? = some b) : ((ys.set j a).set (j - 1) b).Perm ys := by
  obtain ⟨A, B, rfl, hA⟩ := adj hj ha hb
  rw [swap_eq hj hA]
  exact List.Perm.append_left A (List.Perm.swap a b B)
theorem InsI.swap {ys : List Int} {i j : Nat} {a b : Int} (h : InsI ys i j) (hj : 0 < j) (hji : j ≤ i) (ha : ys[j - 1]? = some a) (hb : ys[j]? = some b) (hab : b < a) : InsI ((ys.set j a).set (j - 1) b) i (j - 1) := by
 have hlj := (List.getElem?_eq_some_iff.1 hb).1
 intro p q u v h1 h2 h3 hu hv
 have get : ∀ k w, ((ys.set j a).set (j - 1) b)[k]? = some w → (k = j - 1 ∧ w = b) ∨ (k = j ∧ w = a) ∨ (k ≠ j ∧ k ≠ j - 1 ∧ ys[k]? = some w) := by
  intro k w hw
  rw [List.getElem?_set, List.length_set] at hw
  by_cases e : j - 1 = k
  ·rw [if_pos e, if_pos om] at hw; exact .inl ⟨e.symm, (Option.some.inj hw).symm⟩
  ·rw [if_neg e, List.getElem?_set] at hw
   by_cases e2 : j = k
   ·rw [if_pos e2, if_pos om] at hw; exact .inr (.inl ⟨e2.symm, (Option.some.inj hw).symm⟩)
   ·rw [if_neg e2] at hw; exact .inr (.inr ⟨fun z => e2 z.symm, fun z => e z.symm, hw⟩)
 rcases get q v hv with ⟨rfl, rfl⟩ | ⟨rfl, rfl⟩ | ⟨q1, q2, hq⟩
 ·exact absurd rfl h3
 ·rcases get p u hu with ⟨rfl, rfl⟩ | ⟨rfl, _⟩ | ⟨p1, p2, hp⟩
  ·omega
  ·omega
  ·exact h p (q - 1) u v om om om hp ha
 ·rcases get p u hu with ⟨rfl, rfl⟩ | ⟨rfl, rfl⟩ | ⟨p1, p2, hp⟩
  ·exact h j q u v om h2 q1 hb hq
  ·exact h (p - 1) q u v om h2 q1 ha hq
  ·exact h p q u v h1 h2 q1 hp hq
theorem asc_unique : ∀ {l m : List Int}, l.Perm m → SortTo l l.length → SortTo m m.length → l = m
 | [], m, h, _, _ => by rw [List.nil_perm.1 h]
 | x :: l, [], h, _, _ => by have := h.length_eq; simp at this
 | x :: l, y :: m, h, hl, hm => by
  have hx : x ∈ y :: m := h.subset List.mem_cons_self
  have hy : y ∈ x :: l := h.symm.subset List.mem_cons_self
  have e : x = y := by
   have h1 : y ≤ x := by
    rcases List.mem_cons.1 hx with e | hx
    ·omega
    ·obtain ⟨k, hk⟩ := List.getElem?_of_mem hx
     exact hm 0 (k + 1) y x om (by have := (List.getElem?_eq_some_iff.1 hk).1; simp; omega) rfl (by simpa using hk)
   have h2 : x ≤ y := by
    rcases List.mem_cons.1 hy with e | hy
    ·omega
    ·obtain ⟨k, hk⟩ := List.getElem?_of_mem hy
     exact hl 0 (k + 1) x y om (by have := (List.getElem?_eq_some_iff.1 hk).1; simp; omega) rfl (by simpa using hk)
   omega
  subst e
  have tl : ∀ {z : Int} {n : List Int}, SortTo (z :: n) (z :: n).length → SortTo n n.length := fun h p q u v h1 h2 hu hv => h (p + 1) (q + 1) u v om (by simp; omega) (by simpa using hu) (by simpa using hv)
  rw [asc_unique ((List.perm_cons x).1 h) (tl hl) (tl hm)]
theorem q_ins {a : Option Addr} {n k : Nat} {xs : List Int} {c : Chunk} {F : List Chunk} (hO : OwnT encI 3 1 a n k xs c) (hS : Sat W w (c :: F)) :
  Calls Tryz.prog 162 #[.slice a n k, I 0, I ((n : Nat) : Int)] w fun e w' => ∃ (ys : List Int) (c' : Chunk), e = .returned (.tuple #[]) ∧ OwnT encI 3 1 a n k ys c' ∧ ys.Perm xs ∧ SortTo ys ys.length ∧ Sat W w' (c' :: F) := by
 have hn := hO.len; have hl := hO.le
 refine callsA 49 Tryz.func162 rfl ?_
 refine sR <| pu3 <| nT <| blockE ?_
 refine loopA (γ := Nat × (List Int) × Chunk) (fun ⟨i, zs, C⟩ => [(0, .slice a n k), (1, I 0), (2, I ((n : Nat) : Int)), (6, I ((i : Nat) : Int))]) (fun ⟨i, zs, C⟩ w => Sat W w (C :: F) ∧ (1 ≤ i ∧ i ≤ max n 1) ∧ OwnT encI 3 1 a n k zs C ∧ zs.Perm xs ∧ SortTo zs i) (fun ⟨i, zs, C⟩ => n - i) (1, xs, c) ⟨hS, om, hO, (List.Perm.refl _), (SortTo.one _ (Nat.le_refl 1))⟩ ?_
 rintro ⟨i, zs, C⟩ ρ _ ⟨k0, hi, hOz, hPz, hSz⟩
 refine seqE <| sR <| pu3 <| nT ?_
 refine cD (((i : Nat) : Int) < ((n : Nat) : Int)) (fun v0 => ?_) (fun v0 => ?_)
 rotate_left
 ·refine exitE <| xB ?_
  refine ret0n rfl ?_
  have hnz := hOz.len
  exact ⟨zs, C, rfl, hOz, hPz, (by by_cases h1 : n ≤ 1; exact SortTo.one _ om; rw [show zs.length = i by omega]; exact hSz), k0⟩
 refine kT <| seqE <| blockE <| sR <| pu2 <| nT <| blockE ?_
 refine loopA (γ := Nat × Int × (List Int) × Chunk) (fun ⟨j, jj, ys, D⟩ => [(0, .slice a n k), (1, I 0), (2, I ((n : Nat) : Int)), (6, I ((i : Nat) : Int)), (7, I jj)]) (fun ⟨j, jj, ys, D⟩ w => Sat W w (D :: F) ∧ (j ≤ i ∧ jj = ((j : Nat) : Int)) ∧ OwnT encI 3 1 a n k ys D ∧ ys.Perm xs ∧ InsI ys i j) (fun ⟨j, jj, ys, D⟩ => j) (i, ((i : Nat) : Int), zs, C) ⟨k0, ⟨Nat.le_refl i, rfl⟩, hOz, hPz, hSz.ins⟩ ?_
 rintro ⟨j, jj, ys, D⟩ ρ _ ⟨c0, hji, hOy, hPy, hIj⟩
 refine seqE <| seqE ?_
 by_cases l0 : (jj : Int) > 0
 rotate_left
 ·refine drawE [13] [] [(true, [0, 1, 2, 3]), (true, [4, 5, 6, 8, 9, 10, 11, 7, 12]), (false, [13]), (true, [14])] rfl kr trivial ?_
  have w0 := c0.drew
  refine wU [0, 1, 2, 3] ?_
  refine wFix 19 _ false (decide_eq_false l0) ?_
  refine wU [4, 5, 6, 8, 9, 10, 11, 7, 12] ?_
  refine wO rfl ?_
  refine pu1 ?_
  refine nilO ⟨trivial, ?_⟩
  refine wU [14] ?_
  refine wN ?_
  refine thenK_n <| cFf <| exitE <| xB <| blockK_n <| thenK_n <| regionE <| pu1 ?_
  refine sAdd ((i : Nat) : Int) 1 ?_
  refine pu1 <| nT ?_
  exact ⟨(i + 1, ys, D), od, alA, w0, om, hOy, hPy, (hIj.zero om)⟩
 obtain ⟨b0, m0, n0, e0, x0, y0, s1⟩ := OwnT.elem hOy jj
 obtain ⟨a0, o0, p0, f0, z0, a1, t1⟩ := OwnT.elem hOy (jj - 1)
 refine drawE [13] [(7, ⟨m0, n0 + (jj).toNat * 1, none⟩, I b0), (12, ⟨o0, p0 + ((jj - 1)).toNat * 1, none⟩, I a0)] [(true, [0, 1, 2, 3]), (true, [4, 5]), (true, [6]), (true, [8, 9]), (true, [10]), (true, [11]), (true, [7]), (true, [12]), (false, [13]), (true, [14])] rfl kr ⟨.inr ((x0.up 0 rfl).cell c0 (k := 0) rfl), .inr ((z0.up 0 rfl).cell c0 (k := 0) rfl), trivial⟩ ?_
 have b1 := c0.drew
 refine wU [0, 1, 2, 3] ?_
 refine wFix 19 _ true (decide_eq_true l0) ?_
 refine wU [4, 5] ?_
 refine wY (.pointer (some ⟨m0, n0 + (jj).toNat * 1, none⟩)) rfl (fun w _ => Y_idx (a := a) (i := jj) (len := n) (cap := k) rfl Tryz.runUnderlying22 Tryz.sizeOf3 kr kr y0) ?_
 refine wU [8, 9] ?_
 refine wSub jj 1 ?_
 refine wY (.pointer (some ⟨o0, p0 + ((jj - 1)).toNat * 1, none⟩)) rfl (fun w _ => Y_idx (a := a) (i := (jj - 1)) (len := n) (cap := k) rfl Tryz.runUnderlying22 Tryz.sizeOf3 kr kr a1) ?_
 refine wLd (I b0) 0 Tryz.isAgg3 ?_
 refine wLd (I a0) 1 Tryz.isAgg3 ?_
 refine wO rfl ?_
 refine gY ?_
 refine cR Tryz.call168 (s_less b0 a0 (Sat.flat b1)) ?_
 intro _ d0
 refine nilO ⟨dA, ?_⟩
 refine wU [14] ?_
 refine wN ?_
 refine thenK_n ?_
 refine cD (b0 < a0) (fun c1 => ?_) (fun c1 => ?_)
 rotate_left
 ·refine exitE <| xB <| blockK_n <| thenK_n <| regionE <| pu1 ?_
  refine sAdd ((i : Nat) : Int) 1 ?_
  refine pu1 <| nT ?_
  have ha9 : ys[j - 1]? = some a0 := by rw [show j - 1 = (jj - 1).toNat by omega]; exact f0
  have hb9 : ys[j]? = some b0 := by rw [show j = jj.toNat by omega]; exact e0
  exact ⟨(i + 1, ys, D), od, alA, d0, om, hOy, hPy, (hIj.done om ha9 hb9 om)⟩
 refine kT <| seqE <| blockE ?_
 obtain ⟨d1, g0, h0, q0, e1, r0, f1⟩ := OwnT.elem hOy (jj - 1)
 obtain rfl : a0 = d1 := Option.some.inj (f0.symm.trans q0)
 obtain ⟨g1, i0, j0, s0, i1, t0, j1⟩ := OwnT.elem hOy jj
 obtain rfl : b0 = g1 := Option.some.inj (e0.symm.trans s0)
 refine drawE [15, 17] [(9, ⟨g0, h0 + ((jj - 1)).toNat * 1, none⟩, I a0), (13, ⟨i0, j0 + (jj).toNat * 1, none⟩, I b0)] [(true, [0, 1, 2, 3]), (true, [4]), (true, [5, 6]), (true, [7]), (true, [8]), (true, [10, 11]), (true, [12]), (true, [9]), (true, [13]), (true, [14]), (false, [15]), (true, [16]), (false, [17])] rfl kr ⟨.inr ((e1.up 0 rfl).cell d0 (k := 0) rfl), .inr ((i1.up 0 rfl).cell d0 (k := 0) rfl), trivial⟩ ?_
 have k1 := d0.drew
 refine wU [0, 1, 2, 3] ?_
 refine wSub jj 1 ?_
 refine wU [5, 6] ?_
 refine wSub jj 1 ?_
 refine wY (.pointer (some ⟨g0, h0 + ((jj - 1)).toNat * 1, none⟩)) rfl (fun w _ => Y_idx (a := a) (i := (jj - 1)) (len := n) (cap := k) rfl Tryz.runUnderlying22 Tryz.sizeOf3 kr kr r0) ?_
 refine wU [10, 11] ?_
 refine wY (.pointer (some ⟨i0, j0 + (jj).toNat * 1, none⟩)) rfl (fun w _ => Y_idx (a := a) (i := jj) (len := n) (cap := k) rfl Tryz.runUnderlying22 Tryz.sizeOf3 kr kr t0) ?_
 refine wLd (I a0) 0 Tryz.isAgg3 ?_
 refine wLd (I b0) 1 Tryz.isAgg3 ?_
 refine wY (.pointer (some ⟨i0, j0 + (jj).toNat * 1, none⟩)) rfl (fun w _ => Y_idx (a := a) (i := jj) (len := n) (cap := k) rfl Tryz.runUnderlying22 Tryz.sizeOf3 kr kr t0) ?_
 refine wO rfl ?_
 refine sStF k1 hOy j1 0 (jj).toNat 0 b0 a0 s0 (I a0) [I a0] Tryz.sizeOf3 ?_
 intro _ _ l1 m1
 refine nilO ⟨dA, ?_⟩
 refine wY (.pointer (some ⟨g0, h0 + ((jj - 1)).toNat * 1, none⟩)) rfl (fun w _ => Y_idx (a := a) (i := (jj - 1)) (len := n) (cap := k) rfl Tryz.runUnderlying22 Tryz.sizeOf3 kr kr r0) ?_
 refine wO rfl ?_
 have n1 : (ys.set ((jj).toNat) a0)[((jj - 1)).toNat]? = some a0 := by rw [List.getElem?_set, if_neg om]; exact q0
 refine sStF m1 l1 f1 0 ((jj - 1)).toNat 0 a0 b0 n1 (I b0) [I b0] Tryz.sizeOf3 ?_
 intro _ u0 o1 p1
 refine nilO ⟨dA, ?_⟩
 refine wN ?_
 refine blockK_n <| thenK_n <| regionE <| pu1 ?_
 refine sSub jj 1 ?_
 refine pu1 <| nT ?_
 have ha9 : ys[j - 1]? = some a0 := by rw [show j - 1 = (jj - 1).toNat by omega]; exact f0
 have hb9 : ys[j]? = some b0 := by rw [show j = jj.toNat by omega]; exact e0
 have hO9 : OwnT encI 3 1 a n k ((ys.set j a0).set (j - 1) b0) u0 := by rw [show j - 1 = (jj - 1).toNat by omega, show j = jj.toNat by omega]; exact o1
 exact ⟨((j - 1), (jj - 1), ((ys.set j a0).set (j - 1) b0), u0), od, alA, p1, ⟨om, om⟩, hO9, ((swap_perm om ha9 hb9).trans hPy), (hIj.swap om hji.1 ha9 hb9 om)⟩
theorem q_pdq {a : Option Addr} {n k : Nat} {xs : List Int} {c : Chunk} {F : List Chunk} (hO : OwnT encI 3 1 a n k xs c) (m : Int) (h12 : n ≤ 12) (hS : Sat W w (c :: F)) :
  Calls Tryz.prog 149 #[.slice a n k, I 0, I ((n : Nat) : Int), I m] w fun e w' => ∃ (ys : List Int) (c' : Chunk), e = .returned (.tuple #[]) ∧ OwnT encI 3 1 a n k ys c' ∧ ys.Perm xs ∧ SortTo ys ys.length ∧ Sat W w' (c' :: F) := by
 have hn := hO.len; have hl := hO.le
 refine callsA 134 Tryz.func149 rfl ?_
 refine sR <| pu1 <| nT <| sR <| pu1 <| nT <| blockE ?_
 refine loopN 1 ?_
 refine roundS ?_
 refine blockE <| sR <| pu2 ?_
 refine sSub ((n : Nat) : Int) 0 ?_
 refine pu1 <| nT <| seqE <| sR <| pu2 <| nT ?_
 have a0 : ((((n : Nat) : Int) - 0) : Int) ≤ 12 := by omega
 refine cT _ (decide_eq_true a0) ?_
 refine sR <| pu3 ?_
 refine cX Tryz.call162 (q_ins hO  hS) ?_
 rintro _ _ ⟨_, _, rfl, b0, c0, d0, e0⟩
 refine nT <| retE <| tR <| tR ?_
 refine ret0 rfl ?_
 exact ⟨_, _, rfl, b0, c0, d0, e0⟩
theorem q_sort {a : Option Addr} {n k : Nat} {xs : List Int} {c : Chunk} {F : List Chunk} (hO : OwnT encI 3 1 a n k xs c) (h12 : n ≤ 12) (hS : Sat W w (c :: F)) :
  Calls Tryz.prog 101 #[.slice a n k] w fun e w' => ∃ (ys : List Int) (c' : Chunk), e = .returned (.tuple #[]) ∧ OwnT encI 3 1 a n k ys c' ∧ ys.Perm xs ∧ SortTo ys ys.length ∧ Sat W w' (c' :: F) := by
 have hn := hO.len; have hl := hO.le
 refine callsA 11 Tryz.func101 rfl ?_
 refine sR <| pu3 <| nT <| regionE <| pu3 ?_
 refine stepY (.int .u64 (((n : Nat) : Int) % 18446744073709551616)) rfl rfl (Y_conv (k := .i64) (a := ((n : Nat) : Int)) Tryz.underlying3 Tryz.underlying188 (wrap_u64 _) rfl kr) ?_
 refine cX Tryz.call150 (s_len (((n : Nat) : Int) % 18446744073709551616) om hS) ?_
 rintro _ _ ⟨a0, rfl, _, b0⟩
 refine cX Tryz.call149 (q_pdq hO a0 om b0) ?_
 rintro _ _ ⟨_, _, rfl, c0, d0, e0, f0⟩
 refine nilO ?_
 refine ret0n rfl ?_
 exact ⟨_, _, rfl, c0, d0, e0, f0⟩
end Go.Proofs.YtegmennaekipaaaGreat
