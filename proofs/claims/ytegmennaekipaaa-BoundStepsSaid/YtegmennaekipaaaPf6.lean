import Derived.Test.YtegmennaekipaaaPf5
namespace Go.Proofs.Ytegmennaekipaaa
open Go Go.E
set_option linter.unusedVariables false
set_option linter.unusedSimpArgs false
set_option linter.unnecessarySimpa false
set_option maxRecDepth 100000
set_option maxHeartbeats 2000000
variable {W w : World} {H : Chunk} {F : List Chunk}
theorem own_none {α : Type} {enc : α → List Value} {sz : Nat} {cs : List Chunk} {n k : Nat} {xs : List α} (h : RdT enc sz cs none n k xs) : xs = [] := by
  rcases h.2.2.2.2.2 with h0 | ⟨b, off, h1, _⟩
  · exact List.length_eq_zero_iff.1 (h.1.trans h0)
  · cases h1
theorem drop_same {α : Type} {zs l : List α} {i : Nat} {x t : α} (h : zs.drop i = l.drop i) (hx : zs[i]? = some x) (ht : l[i]? = some t) : x = t := by
  have e1 : (zs.drop i)[0]? = zs[i]? := by simp
  have e2 : (l.drop i)[0]? = l[i]? := by simp
  rw [h, e2, hx, ht] at e1; exact (Option.some.inj e1).symm
theorem cop_step {zs l : List Task} {i : Nat} {x y : Task} {G Z : Chunk} (hT : zs.drop i = l.drop i) (hV : zs.map Task.v = l.map Task.v) (hD : ∀ z ∈ zs.take i, Task.Ok [G] z) (hx : zs[i]? = some x) (hy : y.v = x.v) (hO : Task.Ok [Z] y) :
    (zs.set i y).drop (i + 1) = l.drop (i + 1) ∧ (zs.set i y).map Task.v = l.map Task.v ∧ ∀ z ∈ (zs.set i y).take (i + 1), Task.Ok [Z ++ G] z := by
  have hi := (List.getElem?_eq_some_iff.1 hx).1
  refine ⟨?_, ?_, ?_⟩
  · rw [List.drop_set_of_lt (by omega)]
    have e1 : zs.drop (i + 1) = (zs.drop i).drop 1 := by simp
    have e2 : l.drop (i + 1) = (l.drop i).drop 1 := by simp
    rw [e1, e2, hT]
  · rw [List.map_set, hy, ← hV]
    exact set_same (by rw [List.getElem?_map, hx]; rfl)
  · intro z hz
    rw [take_succ_at (show (zs.set i y)[i]? = some y by rw [List.getElem?_set_self hi]), List.take_set_of_le (Nat.le_refl i)] at hz
    rcases List.mem_append.1 hz with h | h
    · exact (hD z h).of_mem (fun p hp => by simp at hp ⊢; simp [hp])
    · rw [List.mem_singleton.1 h]; exact hO.of_mem (fun p hp => by simp at hp ⊢; simp [hp])
/-! ### sums and lists over the jobs' map -/
def runJ9 (jobs : List JS) (k : Int) : Bool := (jobs.getD k.toNat default).running
def lenJ (jobs : List JS) (k : Int) : Int := if runJ9 jobs k then (((jobs.getD k.toNat default).tasks.length : Nat) : Int) else 0
theorem sum_perm {l m : List Int} (h : l.Perm m) : l.sum = m.sum := by
  induction h with
  | nil => rfl
  | cons x _ ih => simp only [List.sum_cons, ih]
  | swap x y l => simp only [List.sum_cons]; omega
  | trans _ _ ih1 ih2 => exact ih1.trans ih2
def allK (n : Nat) : List Int := (List.range n).map fun i => ((i : Nat) : Int)
theorem allK_nd (n : Nat) : (allK n).Nodup := by
  unfold allK
  exact List.pairwise_map.2 (List.Pairwise.imp (fun h e => h (Int.ofNat_inj.1 e)) List.nodup_range)
theorem mem_allK {n : Nat} {k : Int} : k ∈ allK n ↔ 0 ≤ k ∧ k < ((n : Nat) : Int) := by
  unfold allK
  constructor
  · intro h
    obtain ⟨i, hi, rfl⟩ := List.mem_map.1 h
    have := List.mem_range.1 hi
    omega
  · intro h
    exact List.mem_map.2 ⟨k.toNat, List.mem_range.2 (by omega), by omega⟩
theorem keys_perm {jobs : List JS} {jm : List (Int × Nat)} {jcs : List Chunk} (h : JobsP jobs jm jcs) : (jm.map (·.1)).Perm ((allK 64).filter fun k => (jobs.getD k.toNat default).added) := by
  rw [List.perm_ext_iff_of_nodup h.nd ((allK_nd 64).filter _)]
  intro k
  rw [h.k k, List.mem_filter, mem_allK]
  constructor
  · rintro ⟨h1, h2, h3⟩; exact ⟨⟨h1, h2⟩, h3⟩
  · rintro ⟨⟨h1, h2⟩, h3⟩; exact ⟨h1, h2, h3⟩
theorem load_range (jobs : List JS) : ∀ n, n ≤ jobs.length → ((allK n).map (lenJ jobs)).sum = loadL (jobs.take n)
  | 0, _ => rfl
  | n + 1, h => by
    have ih := load_range jobs n (by omega)
    have hj : jobs[n]? = some jobs[n] := List.getElem?_eq_getElem (by omega)
    rw [loadL_take hj, ← ih]
    unfold allK
    rw [List.range_succ, List.map_append, List.map_append, List.sum_append]
    simp only [List.map_cons, List.map_nil, List.sum_cons, List.sum_nil, Int.add_zero]
    unfold lenJ runJ9
    rw [Int.toNat_natCast, getD_some hj]
theorem sum_filter {f : Int → Int} {p : Int → Bool} : ∀ {l : List Int}, (∀ k ∈ l, p k = false → f k = 0) → ((l.filter p).map f).sum = (l.map f).sum
  | [], _ => rfl
  | x :: l, h => by
    have ih := sum_filter (f := f) (p := p) (l := l) fun k hk => h k (List.mem_cons_of_mem _ hk)
    rw [List.filter_cons]
    cases hx : p x with
    | true => simp only [if_true, List.map_cons, List.sum_cons, ih]
    | false =>
      have := h x List.mem_cons_self hx
      simp only [Bool.false_eq_true, if_false, List.map_cons, List.sum_cons, ih, this]; omega
theorem run_added {F : FS} {K : Int} (hF : FW F K) {k : Int} (h : (F.jobs.getD k.toNat default).added = false) : runJ9 F.jobs k = false := by
  unfold runJ9
  rcases getD_or F.jobs k.toNat with h1 | h1
  · cases hr : (F.jobs.getD k.toNat default).running with
    | false => rfl
    | true => have := (hF.j _ h1).r hr; rw [h] at this; cases this
  · rw [h1]; rfl
theorem load_map {F : FS} {K : Int} {jm : List (Int × Nat)} {jcs : List Chunk} (hF : FW F K) (h : JobsP F.jobs jm jcs) : ((jm.map (·.1)).map (lenJ F.jobs)).sum = loadL F.jobs := by
  rw [sum_perm ((keys_perm h).map _), sum_filter, load_range F.jobs 64 (by rw [h.l]; exact Nat.le_refl _), List.take_of_length_le (by rw [h.l]; exact Nat.le_refl _)]
  intro k _ hk
  unfold lenJ; rw [run_added hF hk]; rfl
theorem JobsP.mem {jobs : List JS} {jm : List (Int × Nat)} {jcs : List Chunk} {k : Int} {b : Nat} (h : JobsP jobs jm jcs) (hm : (k, b) ∈ jm) :
    ∃ (n : Nat) (c : Chunk) (j : JS), jm[n]? = some (k, b) ∧ jcs[n]? = some c ∧ JobP b j c ∧ jobs[k.toNat]? = some j ∧ j.added = true ∧ 0 ≤ k ∧ k < 64 := by
  obtain ⟨n, hn⟩ := List.getElem?_of_mem hm
  have hb : (jm.map (·.2))[n]? = some b := by rw [List.getElem?_map, hn]; rfl
  obtain ⟨s, c, hs, hc, hR⟩ := h.o.get hb
  rw [List.getElem?_map, hn] at hs
  have hk := (h.k k).1 (List.mem_map.2 ⟨_, hm, rfl⟩)
  have hl := h.l
  have hlt : k.toNat < jobs.length := by omega
  have hj : jobs[k.toNat]? = some jobs[k.toNat] := List.getElem?_eq_getElem hlt
  have e : jobs.getD k.toNat default = jobs[k.toNat] := getD_some hj
  obtain rfl := Option.some.inj hs
  refine ⟨n, c, jobs[k.toNat], hn, hc, ?_, hj, by rw [← e]; exact hk.2.2, hk.1, hk.2.1⟩
  have hR2 : JobP b (jobs.getD k.toNat default) c := hR
  rw [e] at hR2; exact hR2
/-- What a range over the jobs has still to hand out. -/
def RestJ (jm : List (Int × Nat)) (rs : List (Int × Value)) : Prop := ∃ l : List (Int × Nat), rs = kvJ l ∧ ∀ x ∈ l, x ∈ jm
theorem RestJ.all (jm : List (Int × Nat)) : RestJ jm (kvJ jm) := ⟨jm, rfl, fun _ h => h⟩
theorem RestJ.take {jm : List (Int × Nat)} {rs l1 l2 : List (Int × Value)} {q : Int × Value} (h : RestJ jm rs) (e : rs = l1 ++ q :: l2) : ∃ (k : Int) (b : Nat), q = (k, ptrV b) ∧ (k, b) ∈ jm ∧ RestJ jm (l1 ++ l2) := by
  obtain ⟨l, rfl, hm⟩ := h
  have e1 : l.map (fun x => (x.1, ptrV x.2)) = l1 ++ q :: l2 := e
  obtain ⟨a, b', rfl, ha, hb⟩ := List.map_eq_append_iff.1 e1
  obtain ⟨x, c, rfl, hx, hc⟩ := List.map_eq_cons_iff.1 hb
  refine ⟨x.1, x.2, hx.symm, hm x (by simp), a ++ c, ?_, fun y hy => hm y (by rcases List.mem_append.1 hy with h | h <;> simp [h])⟩
  rw [← ha, ← hc]; unfold kvJ; rw [List.map_append]
def sumJ (jobs : List JS) (rs : List (Int × Value)) : Int := ((rs.map (·.1)).map (lenJ jobs)).sum
theorem sumJ_all {F : FS} {K : Int} {jm : List (Int × Nat)} {jcs : List Chunk} (hF : FW F K) (h : JobsP F.jobs jm jcs) : sumJ F.jobs (kvJ jm) = loadL F.jobs := by
  rw [← load_map hF h]; unfold sumJ kvJ; simp only [List.map_map]; rfl
theorem sumJ_take {jobs : List JS} {rs l1 l2 : List (Int × Value)} {q : Int × Value} (e : rs = l1 ++ q :: l2) : sumJ jobs rs = sumJ jobs (l1 ++ l2) + lenJ jobs q.1 := by
  rw [e]; unfold sumJ; simp only [List.map_append, List.map_cons, List.sum_append, List.sum_cons]; omega
theorem sumJ_nil {jobs : List JS} : sumJ jobs [] = 0 := rfl
theorem lenJ_at {jobs : List JS} {k : Int} {j : JS} (hj : jobs[k.toNat]? = some j) : lenJ jobs k = if j.running = true then ((j.tasks.length : Nat) : Int) else 0 := by unfold lenJ runJ9; rw [getD_some hj]
theorem sumJ_nn {jobs : List JS} : ∀ {rs : List (Int × Value)}, 0 ≤ sumJ jobs rs
  | [] => Int.le_refl _
  | q :: rs => by
    have ih := sumJ_nn (jobs := jobs) (rs := rs)
    have h1 : 0 ≤ lenJ jobs q.1 := by unfold lenJ; split <;> omega
    unfold sumJ at *; simp only [List.map_cons, List.sum_cons]; omega
/-- The numbers of running jobs. -/
def runK (jobs : List JS) : List Int := (allK 64).filter (runJ9 jobs)
def keysR (jobs : List JS) (rs : List (Int × Value)) : List Int := (rs.map (·.1)).filter (runJ9 jobs)
theorem keysR_all {F : FS} {K : Int} {jm : List (Int × Nat)} {jcs : List Chunk} (hF : FW F K) (h : JobsP F.jobs jm jcs) : (keysR F.jobs (kvJ jm)).Perm (runK F.jobs) := by
  have h1 : (kvJ jm).map (·.1) = jm.map (·.1) := by unfold kvJ; rw [List.map_map]; rfl
  unfold keysR runK
  rw [h1]
  have h2 := (keys_perm h).filter (runJ9 F.jobs)
  rw [List.filter_filter] at h2
  refine h2.trans (List.Perm.of_eq ?_)
  apply List.filter_congr
  intro k _
  cases ha : (F.jobs.getD k.toNat default).added with
  | true => rw [Bool.and_true]
  | false => rw [run_added hF ha]; rfl
theorem keysR_take {jobs : List JS} {rs l1 l2 : List (Int × Value)} {q : Int × Value} {zs T : List Int} (e : rs = l1 ++ q :: l2) (hp : (zs ++ keysR jobs rs).Perm T) : (zs ++ (if runJ9 jobs q.1 then [q.1] else []) ++ keysR jobs (l1 ++ l2)).Perm T := by
  refine List.Perm.trans ?_ hp
  rw [e]
  unfold keysR
  simp only [List.map_append, List.map_cons, List.filter_append, List.filter_cons]
  rw [List.append_assoc]
  apply List.Perm.append_left
  split
  · rw [List.singleton_append]; exact List.perm_middle.symm
  · exact List.Perm.refl _
theorem load_max {F : FS} {K : Int} (hF : FW F K) : loadL F.jobs ≤ 300000 := by
  have h : ∀ l : List JS, (∀ j ∈ l, j.tasks.length ≤ 4096) → loadL l ≤ 4096 * ((l.length : Nat) : Int) := by
    intro l
    induction l with
    | nil => intro _; decide
    | cons j l ih =>
      intro h
      have h1 := ih fun y hy => h y (List.mem_cons_of_mem _ hy)
      have h2 := h j List.mem_cons_self
      rw [loadL_cons, List.length_cons]; split <;> omega
  have h1 := h F.jobs fun j hj => (hF.j j hj).n
  rw [hF.jl] at h1; omega
theorem cl_int_n (n k : Nat) (xs : List Int) (h : RdT encI 1 [H] none n k xs) (hb : n ≤ 4096) (hS : Sat W w (H :: F)) :
    Calls Try.prog 78 #[.slice none n k] w fun e w' => ∃ (az : Option Addr) (nz kz : Nat) (Z : Chunk), e = .returned (.slice az nz kz) ∧ OwnT encI 3 1 az nz kz xs Z ∧ Sat W w' (Z :: H :: F) := by
  have hn := h.len; have hl := h.le
  refine callsA 8 Try.func78 rfl ?_
  refine seqE <| regionE <| pu1 <| nilO <| thenK_n <| seqE <| seqE <| regionE <| pu2 <| nilO <| thenK_n <| cTt <| seqE <| regionE <| pu1 <| nilO <| thenK_n <| retE <| thenK_r <| retT [.slice none 0 0] <| ?_
  have hz := own_none h; have hS_1 := Sat.nilc hS
  exact ⟨_, _, _, _, rfl, by rw [hz]; exact OwnT.nil (fun _ => rfl), hS_1⟩
theorem cl_int_s (a : Addr) (n k : Nat) (xs : List Int) (h : RdT encI 1 [H] (some a) n k xs) (hb : n ≤ 4096) (hS : Sat W w (H :: F)) :
    Calls Try.prog 78 #[.slice (some a) n k] w fun e w' => ∃ (az : Option Addr) (nz kz : Nat) (Z : Chunk), e = .returned (.slice az nz kz) ∧ OwnT encI 3 1 az nz kz xs Z ∧ Sat W w' (Z :: H :: F) := by
  have hn := h.len; have hl := h.le
  refine callsA 8 Try.func78 rfl ?_
  refine seqE <| regionE <| pu1 <| nilO <| thenK_n <| seqE <| seqE <| regionE <| pu2 <| nilO <| thenK_n <| cFf <| skipE <| thenK_n <| seqE <| regionE ?_
  refine sBS hS #[] Try.runUnderlying22 Try.sizeOf3 Try.zeroValue3 ?_
  intro b_1 w_2 hS_3
  refine pu1 ?_
  have hO_4 := OwnT.blk (enc := encI) (sz := 1) (b := b_1) (c := #[]) (E := 3) (xs := []) (fun _ => rfl) 0 rfl rfl rfl (by omega)
  refine sApp (nb := 8) hS_3 hO_4 0 (h.up 1 rfl) Try.underlying22 (i := Try.t3) (by kernel_rfl) (fun _ => rfl) ?_
  intro a_5 cap_6 c_7 w_8 hO_9 hS_10
  refine pu1 <| nilO <| thenK_n <| retE <| retT [.slice a_5 (0 + n) cap_6] <| ?_
  have hO9 := hO_9; rw [List.nil_append] at hO9
  exact ⟨_, _, _, _, rfl, hO9, hS_10⟩
theorem cl_int {W w : World} {H : Chunk} {F : List Chunk} (a : Option Addr) (n k : Nat) (xs : List Int) (h : RdT encI 1 [H] a n k xs) (hb : n ≤ 4096) (hS : Sat W w (H :: F)) :
    Calls Try.prog 78 #[.slice a n k] w fun e w' => ∃ (az : Option Addr) (nz kz : Nat) (Z : Chunk), e = .returned (.slice az nz kz) ∧ OwnT encI 3 1 az nz kz xs Z ∧ Sat W w' (Z :: H :: F) := by
  cases a with
  | none => exact cl_int_n n k xs h hb hS
  | some a => exact cl_int_s a n k xs h hb hS
theorem cl_task_n (n k : Nat) (xs : List Task) (h : RdT encTask 9 [H] none n k xs) (hb : n ≤ 4096) (hS : Sat W w (H :: F)) :
    Calls Try.prog 77 #[.slice none n k] w fun e w' => ∃ (az : Option Addr) (nz kz : Nat) (Z : Chunk), e = .returned (.slice az nz kz) ∧ OwnT encTask 31 9 az nz kz xs Z ∧ Sat W w' (Z :: H :: F) := by
  have hn := h.len; have hl := h.le
  refine callsA 8 Try.func77 rfl ?_
  refine seqE <| regionE <| pu1 <| nilO <| thenK_n <| seqE <| seqE <| regionE <| pu2 <| nilO <| thenK_n <| cTt <| seqE <| regionE <| pu1 <| nilO <| thenK_n <| retE <| thenK_r <| retT [.slice none 0 0] <| ?_
  have hz := own_none h; have hS_1 := Sat.nilc hS
  exact ⟨_, _, _, _, rfl, by rw [hz]; exact OwnT.nil (fun _ => rfl), hS_1⟩
theorem cl_task_s (a : Addr) (n k : Nat) (xs : List Task) (h : RdT encTask 9 [H] (some a) n k xs) (hb : n ≤ 4096) (hS : Sat W w (H :: F)) :
    Calls Try.prog 77 #[.slice (some a) n k] w fun e w' => ∃ (az : Option Addr) (nz kz : Nat) (Z : Chunk), e = .returned (.slice az nz kz) ∧ OwnT encTask 31 9 az nz kz xs Z ∧ Sat W w' (Z :: H :: F) := by
  have hn := h.len; have hl := h.le
  refine callsA 8 Try.func77 rfl ?_
  refine seqE <| regionE <| pu1 <| nilO <| thenK_n <| seqE <| seqE <| regionE <| pu2 <| nilO <| thenK_n <| cFf <| skipE <| thenK_n <| seqE <| regionE ?_
  refine sBS hS #[] Try.runUnderlying23 Try.sizeOf31 Try.zeroValue31 ?_
  intro b_1 w_2 hS_3
  refine pu1 ?_
  have hO_4 := OwnT.blk (enc := encTask) (sz := 9) (b := b_1) (c := #[]) (E := 31) (xs := []) (fun _ => rfl) 0 rfl rfl rfl (by omega)
  refine sApp (nb := 88) hS_3 hO_4 0 (h.up 1 rfl) Try.underlying23 (i := Try.t31) (by kernel_rfl) (fun _ => rfl) ?_
  intro a_5 cap_6 c_7 w_8 hO_9 hS_10
  refine pu1 <| nilO <| thenK_n <| retE <| retT [.slice a_5 (0 + n) cap_6] <| ?_
  have hO9 := hO_9; rw [List.nil_append] at hO9
  exact ⟨_, _, _, _, rfl, hO9, hS_10⟩
theorem cl_task {W w : World} {H : Chunk} {F : List Chunk} (a : Option Addr) (n k : Nat) (xs : List Task) (h : RdT encTask 9 [H] a n k xs) (hb : n ≤ 4096) (hS : Sat W w (H :: F)) :
    Calls Try.prog 77 #[.slice a n k] w fun e w' => ∃ (az : Option Addr) (nz kz : Nat) (Z : Chunk), e = .returned (.slice az nz kz) ∧ OwnT encTask 31 9 az nz kz xs Z ∧ Sat W w' (Z :: H :: F) := by
  cases a with
  | none => exact cl_task_n n k xs h hb hS
  | some a => exact cl_task_s a n k xs h hb hS
theorem cl_ref_n (n k : Nat) (xs : List Ref) (h : RdT encRef 2 [H] none n k xs) (hb : n ≤ 4096) (hS : Sat W w (H :: F)) :
    Calls Try.prog 87 #[.slice none n k] w fun e w' => ∃ (az : Option Addr) (nz kz : Nat) (Z : Chunk), e = .returned (.slice az nz kz) ∧ OwnT encRef 48 2 az nz kz xs Z ∧ Sat W w' (Z :: H :: F) := by
  have hn := h.len; have hl := h.le
  refine callsA 8 Try.func87 rfl ?_
  refine seqE <| regionE <| pu1 <| nilO <| thenK_n <| seqE <| seqE <| regionE <| pu2 <| nilO <| thenK_n <| cTt <| seqE <| regionE <| pu1 <| nilO <| thenK_n <| retE <| thenK_r <| retT [.slice none 0 0] <| ?_
  have hz := own_none h; have hS_1 := Sat.nilc hS
  exact ⟨_, _, _, _, rfl, by rw [hz]; exact OwnT.nil (fun _ => rfl), hS_1⟩
theorem cl_ref_s (a : Addr) (n k : Nat) (xs : List Ref) (h : RdT encRef 2 [H] (some a) n k xs) (hb : n ≤ 4096) (hS : Sat W w (H :: F)) :
    Calls Try.prog 87 #[.slice (some a) n k] w fun e w' => ∃ (az : Option Addr) (nz kz : Nat) (Z : Chunk), e = .returned (.slice az nz kz) ∧ OwnT encRef 48 2 az nz kz xs Z ∧ Sat W w' (Z :: H :: F) := by
  have hn := h.len; have hl := h.le
  refine callsA 8 Try.func87 rfl ?_
  refine seqE <| regionE <| pu1 <| nilO <| thenK_n <| seqE <| seqE <| regionE <| pu2 <| nilO <| thenK_n <| cFf <| skipE <| thenK_n <| seqE <| regionE ?_
  refine sBS hS #[] Try.runUnderlying52 Try.sizeOf48 Try.zeroValue48 ?_
  intro b_1 w_2 hS_3
  refine pu1 ?_
  have hO_4 := OwnT.blk (enc := encRef) (sz := 2) (b := b_1) (c := #[]) (E := 48) (xs := []) (fun _ => rfl) 0 rfl rfl rfl (by omega)
  refine sApp (nb := 16) hS_3 hO_4 0 (h.up 1 rfl) Try.underlying52 (i := Try.t48) (by kernel_rfl) (fun _ => rfl) ?_
  intro a_5 cap_6 c_7 w_8 hO_9 hS_10
  refine pu1 <| nilO <| thenK_n <| retE <| retT [.slice a_5 (0 + n) cap_6] <| ?_
  have hO9 := hO_9; rw [List.nil_append] at hO9
  exact ⟨_, _, _, _, rfl, hO9, hS_10⟩
theorem cl_ref {W w : World} {H : Chunk} {F : List Chunk} (a : Option Addr) (n k : Nat) (xs : List Ref) (h : RdT encRef 2 [H] a n k xs) (hb : n ≤ 4096) (hS : Sat W w (H :: F)) :
    Calls Try.prog 87 #[.slice a n k] w fun e w' => ∃ (az : Option Addr) (nz kz : Nat) (Z : Chunk), e = .returned (.slice az nz kz) ∧ OwnT encRef 48 2 az nz kz xs Z ∧ Sat W w' (Z :: H :: F) := by
  cases a with
  | none => exact cl_ref_n n k xs h hb hS
  | some a => exact cl_ref_s a n k xs h hb hS
theorem p_copies (al : Option Addr) (nl kl : Nat) (l : List Task) (hl : RdT encTask 9 [H] al nl kl l) (dl : ∀ z ∈ l, Task.Ok [H] z) (hb : nl ≤ 4096) (hdb : ∀ z ∈ l, z.deps.l.length ≤ 4096) (hS : Sat W w (H :: F)) :
    Calls Try.prog 48 #[.slice al nl kl] w fun e w' => ∃ (az : Option Addr) (nz kz : Nat) (zs : List Task) (C G : Chunk), e = .returned (.slice az nz kz) ∧ OwnT encTask 31 9 az nz kz zs C ∧ (∀ z ∈ zs, Task.Ok [G] z) ∧ zs.map Task.v = l.map Task.v ∧ Sat W w' (C :: G :: H :: F) := by
  have hl_l := hl.le; have hn_l := hl.len
  refine callsA 24 Try.func48 rfl ?_
  refine seqE <| regionE <| pu1 <| nilO <| thenK_n <| seqE <| regionE <| pu1 ?_
  refine cX Try.call77 (cl_task al nl kl l (RdT.flat (hl.up 0 (by rfl))) (by omega) (Sat.flat hS)) ?_
  rintro _ w_1 ⟨az_4, nz_5, kz_6, Z_7, rfl, hO_8, hS_2⟩
  have hS_3 := Sat.unflat1 hS_2; have hn_az_4 := hO_8.len; have hl_az_4 := hO_8.le
  refine pu1 <| nilO <| thenK_n <| seqE <| seqE <| regionE <| pu3 <| nilO <| thenK_n <| blockE ?_
  have hS_9 := Sat.nilc hS_3
  refine loopA (γ := Nat × (List Task) × Chunk × Chunk) (fun ⟨i, zs, C, G⟩ => [(0, .slice al nl kl), (3, .slice az_4 nz_5 kz_6), (8, .int .i64 ((nz_5 : Nat) : Int)), (9, .int .i64 ((i : Nat) : Int))]) (fun ⟨i, zs, C, G⟩ w => Sat W w (G :: C :: H :: F) ∧ i ≤ nl ∧ (OwnT encTask 31 9 az_4 nz_5 kz_6 zs C) ∧ (zs.drop i = l.drop i) ∧ (zs.map Task.v = l.map Task.v) ∧ ((∀ z ∈ zs.take i, Task.Ok [G] z))) (fun ⟨i, zs, C, G⟩ => nl - i) (0, l, Z_7, []) ⟨hS_9, by omega, hO_8, rfl, rfl, (by intro z hz; simp at hz)⟩ ?_
  rintro ⟨i, zs, C, G⟩ ρ w_10 ⟨hS_11, hi, hOz, hT, hV, hD⟩
  have hzn := hOz.len; have hzk := hOz.le; have hvl := congrArg List.length hV; rw [List.length_map, List.length_map] at hvl
  refine seqE <| regionE <| pu1 <| nilO <| thenK_n <| seqE ?_
  refine cD (((i : Nat) : Int) < ((nz_5 : Nat) : Int)) (fun hc_12 => ?_) (fun hc_12 => ?_)
  rotate_left
  · refine exitE <| thenK_x <| thenK_x <| blockK_x <| thenK_n <| seqE <| regionE <| pu2 <| nilO <| thenK_n <| retE <| retT [.slice az_4 nz_5 kz_6] <| ?_
    rw [List.take_of_length_le (by omega)] at hD
    have hS_37 := (hS_11.pick 1 rfl)
    exact ⟨_, _, _, _, _, _, rfl, hOz, hD, hV, hS_37⟩
  refine skipE <| thenK_n <| seqE <| blockE <| seqE <| regionE <| pu2 <| nilO <| thenK_n <| regionE <| pu4 ?_
  refine sIdx hl ((i : Nat) : Int) Try.runUnderlying23 Try.sizeOf31 ?_
  intro x_13 b_14 o_15 hx_16 hp_17
  rw [Int.toNat_natCast] at hx_16
  have hdb_x_13 := hdb x_13 (List.mem_of_getElem? hx_16); have hdn_x_13 := (dl x_13 (List.mem_of_getElem? hx_16)).deps.len; have hdk_x_13 := (dl x_13 (List.mem_of_getElem? hx_16)).deps.le
  refine pu1 ?_
  refine sLp hS_11 (hp_17.up 2 rfl) 6 (.slice x_13.deps.a x_13.deps.n x_13.deps.k) (Try.isAgg22 _) ?_
  refine cX Try.call78 (cl_int x_13.deps.a x_13.deps.n x_13.deps.k x_13.deps.l (RdT.flat ((dl x_13 (List.mem_of_getElem? hx_16)).deps.up 2 (by rfl))) (by omega) (Sat.flat hS_11)) ?_
  rintro _ w_18 ⟨az_21, nz_22, kz_23, Z_24, rfl, hO_25, hS_19⟩
  have hS_20 := Sat.unflat1 hS_19; have hn_az_21 := hO_25.len; have hl_az_21 := hO_25.le
  refine sIdxO hOz ((i : Nat) : Int) i Try.runUnderlying23 Try.sizeOf31 ?_
  intro x_26 b_27 o_28 hx_29 hp_30 hq_31
  refine pu1 ?_
  refine sStF hS_20 hOz hq_31 2 i 6 x_26 (⟨x_26.stage, x_26.part, x_26.rectX0, x_26.rectY0, x_26.rectX1, x_26.rectY1, ⟨az_21, nz_22, kz_23, x_13.deps.l⟩, x_26.rows, x_26.scratch⟩ : Task) hx_29 (.slice az_21 nz_22 kz_23) [.slice az_21 nz_22 kz_23] Try.sizeOf22 ?_
  intro w_32 c_34 hO_35 hS_33
  refine nilO <| blockK_n <| thenK_n <| regionE ?_
  refine sAdd ((i : Nat) : Int) 1 ?_
  refine pu1 <| nilO <| thenK_n <| ?_
  have hxt := drop_same hT hx_29 hx_16
  have hcs := cop_step (y := (⟨x_26.stage, x_26.part, x_26.rectX0, x_26.rectY0, x_26.rectX1, x_26.rectY1, ⟨az_21, nz_22, kz_23, x_13.deps.l⟩, x_26.rows, x_26.scratch⟩ : Task)) (Z := Z_24) hT hV hD hx_29 (by rw [hxt]; rfl) ⟨hO_25.rdAt (cs := [Z_24]) 0 rfl⟩
  have hS_36 := (Sat.perm (cs' := ((Z_24 ++ G) :: c_34 :: H :: F)) hS_33 (by simp))
  exact ⟨(i + 1, (zs.set i (⟨x_26.stage, x_26.part, x_26.rectX0, x_26.rectY0, x_26.rectX1, x_26.rectY1, ⟨az_21, nz_22, kz_23, x_13.deps.l⟩, x_26.rows, x_26.scratch⟩ : Task)), c_34, (Z_24 ++ G)), by first | omega | (dsimp only; omega), alA, hS_36, by omega, hO_35, hcs.1, hcs.2.1, hcs.2.2⟩
theorem pf_load {p : Nat} {F : FS} {M : Chunk} {F0 : List Chunk} (hR : FarmP p F M) {K : Int} (hF : FI F K)  (hS : Sat W w (M :: H :: F0)) :
    Calls Try.prog 47 #[.pointer (some ⟨p, 0, none⟩)] w fun e w' => e = .returned (.int .i64 (loadL F.jobs)) ∧ Sat W w' (M :: H :: F0) := by
  obtain ⟨wb, wo, wn, wk, q, m, xs, jm, Wc, Qc, Jc, acs, dcs, jcs, rfl, hOw, hco, hAs, hDs, hQ, hM, hJs⟩ := hR
  have hS_1 : Sat W _ ((Tri p 81 (preP F.cfg wb wo wn wk q m) (([] : List Ref).flatMap encRef) (encStt F.st)) :: Wc :: acs.flatten :: dcs.flatten :: Qc :: Jc :: jcs.flatten :: H :: F0) := Sat.perm hS (by simp)
  have hwl := hOw.len; have hwk := hOw.le; have hcl := core_len hco; have has1 := hAs.1; have hds1 := hDs.1; rw [List.length_map] at has1 hds1; have hjl1 := hJs.l
  have hsj := sumJ_all hF.fw hJs; have hld9 := hF.q.ld; have hld8 : loadL F.jobs ≤ 300000 := load_max hF.fw
  refine callsA 25 Try.func47 rfl ?_
  refine seqE <| regionE <| pu1 <| nilO <| thenK_n <| seqE <| regionE <| pu1 <| nilO <| thenK_n <| seqE <| seqE <| regionE <| pu3 ?_
  refine sLp hS_1 (ptr_up 0 rfl tri_pre) 10 (.map (some m)) (Try.isAgg78 _) ?_
  refine sRangeI hS_1 5 hM Try.runUnderlying78 ?_
  intro it_4 ci_5 w_2 hR_6 hS_3
  refine nilO <| thenK_n <| blockE ?_
  refine loopA (γ := (List (Int × Value)) × (Option (Int × Value)) × Chunk × Int) (fun ⟨rs, lt, ci, ln⟩ => [(10, .pointer (some ⟨it_4, 0, none⟩)), (3, .int .i64 ln)]) (fun ⟨rs, lt, ci, ln⟩ w => Sat W w (ci :: (Tri p 81 (preP F.cfg wb wo wn wk q m) (([] : List Ref).flatMap encRef) (encStt F.st)) :: Wc :: acs.flatten :: dcs.flatten :: Qc :: Jc :: jcs.flatten :: H :: F0) ∧ RngI it_4 m (kvJ jm) rs lt Jc ci ∧ RestJ jm rs ∧ (ln + sumJ F.jobs rs = loadL F.jobs) ∧ (0 ≤ ln)) (fun ⟨rs, lt, ci, ln⟩ => rs.length) ((kvJ jm), none, ci_5, 0) ⟨hS_3, hR_6, (RestJ.all jm), by omega, by omega⟩ ?_
  rintro ⟨rs, lt, ci, ln⟩ ρ w_7 ⟨hS_8, hRg, hRJ, hln, hl0⟩
  have hnn9 := sumJ_nn (jobs := F.jobs) (rs := rs)
  refine seqE <| regionE ?_
  refine sNextI hS_8 6 0 hRg (fun hn_10 => ?_) (fun la_11 q_12 lb_13 ci_14 w_9 he_15 hR_16 hS_17 => ?_)
  · refine pu1 <| nilO <| thenK_n <| seqE <| cFf <| exitE <| thenK_x <| thenK_x <| blockK_x <| thenK_n <| seqE <| regionE <| pu2 <| nilO <| thenK_n <| retE <| retT [.int .i64 ln] <| ?_
    have hS_22 := (hS_8.dropAt 0 rfl)
    have hS_23 : Sat W _ (((Tri p 81 (preP F.cfg wb wo wn wk q m) (([] : List Ref).flatMap encRef) (encStt F.st)) ++ (Wc ++ (acs.flatten ++ (dcs.flatten ++ (Qc ++ (Jc ++ jcs.flatten)))))) :: H :: F0) := Sat.perm (show Sat W _ ((Tri p 81 (preP F.cfg wb wo wn wk q m) (([] : List Ref).flatMap encRef) (encStt F.st)) :: Wc :: acs.flatten :: dcs.flatten :: Qc :: Jc :: jcs.flatten :: H :: F0) from hS_22) (by simp)
    have hz9 := sumJ_nil (jobs := F.jobs); rw [← hn_10] at hz9
    exact ⟨congrArg (fun z => Ending.returned (.int .i64 z)) (by omega), hS_23⟩
  obtain ⟨k_18, b_19, rfl, hm_20, hJ_21⟩ := hRJ.take he_15
  refine pu1 <| nilO <| thenK_n <| seqE <| cTt <| skipE <| thenK_n <| blockE <| seqE <| regionE ?_
  refine sEntryI (q := (k_18, ptrV b_19)) hS_17 6 0 hR_16 ?_
  obtain ⟨nj_24, cj_24, j_25, hjmj_24, hjcj_24, hJj_24, hj_26, ha_27, hj_26_1, hj_26_2⟩ := JobsP.mem hJs hm_20
  obtain ⟨taj_24, tnj_24, tkj_24, tlj_24, bbj_24, Tj_24, Mbj_24, rfl, hTj_24, hDj_24, hVj_24, hBj_24, _, hrj_24⟩ := hJj_24.open
  have hS_30 := (hS_17.pick 7 rfl)
  have hS_31 := Sat.openN (A := []) nj_24 hjcj_24 hS_30
  have hS_32 : Sat W _ ([(b_19, .cells #[.slice taj_24 tnj_24 tkj_24, .int .i64 j_25.band, .pointer (some ⟨bbj_24, 0, none⟩), .bool (canc j_25)] 97 (0, 0))] :: Tj_24 :: Mbj_24 :: (jcs.eraseIdx nj_24).flatten :: ci_14 :: (Tri p 81 (preP F.cfg wb wo wn wk q m) (([] : List Ref).flatMap encRef) (encStt F.st)) :: Wc :: acs.flatten :: dcs.flatten :: Qc :: Jc :: H :: F0) := Sat.perm hS_31 (by simp)
  have hjo_j_25 := hF.fw.j j_25 (List.mem_of_getElem? hj_26); obtain ⟨hBW_28, hdl_29, _, _⟩ := hjo_j_25.b ha_27; have hjn_j_25 := hjo_j_25.n
  have hn_taj_24 := hTj_24.len; have hm_taj_24 := congrArg List.length hVj_24; rw [List.length_map] at hm_taj_24
  refine pu2 <| nilO <| thenK_n <| seqE <| regionE <| pu1 ?_
  have hS_33 := (((hS_32.pick 2 rfl).pick 2 rfl).pick 2 rfl)
  have hS_34 : Sat W _ (([(b_19, .cells #[.slice taj_24 tnj_24 tkj_24, .int .i64 j_25.band, .pointer (some ⟨bbj_24, 0, none⟩), .bool (canc j_25)] 97 (0, 0))] ++ (Tj_24 ++ Mbj_24)) :: (jcs.eraseIdx nj_24).flatten :: ci_14 :: (Tri p 81 (preP F.cfg wb wo wn wk q m) (([] : List Ref).flatMap encRef) (encStt F.st)) :: Wc :: acs.flatten :: dcs.flatten :: Qc :: Jc :: H :: F0) := Sat.perm (show Sat W _ ([(b_19, .cells #[.slice taj_24 tnj_24 tkj_24, .int .i64 j_25.band, .pointer (some ⟨bbj_24, 0, none⟩), .bool (canc j_25)] 97 (0, 0))] :: Tj_24 :: Mbj_24 :: (jcs.eraseIdx nj_24).flatten :: ci_14 :: (Tri p 81 (preP F.cfg wb wo wn wk q m) (([] : List Ref).flatMap encRef) (encStt F.st)) :: Wc :: acs.flatten :: dcs.flatten :: Qc :: Jc :: H :: F0) from hS_33) (by simp)
  refine cX Try.call64 (p_running (s := j_25) (JobP.mk (s := j_25) hTj_24 hDj_24 hVj_24 hBj_24 ha_27 hrj_24 rfl) hBW_28 hdl_29 hS_34) ?_
  rintro _ w_37 ⟨rfl, hS_35⟩
  have hS_36 : Sat W _ ([(b_19, .cells #[.slice taj_24 tnj_24 tkj_24, .int .i64 j_25.band, .pointer (some ⟨bbj_24, 0, none⟩), .bool (canc j_25)] 97 (0, 0))] :: Tj_24 :: Mbj_24 :: (jcs.eraseIdx nj_24).flatten :: ci_14 :: (Tri p 81 (preP F.cfg wb wo wn wk q m) (([] : List Ref).flatMap encRef) (encStt F.st)) :: Wc :: acs.flatten :: dcs.flatten :: Qc :: Jc :: H :: F0) := Sat.perm hS_35 (by simp)
  refine nilO <| thenK_n <| ?_
  refine cB j_25.running (fun hc_38 => ?_) (fun hc_38 => ?_)
  rotate_left
  · refine skipE <| blockK_n <| thenK_n <| ?_
    have hS_48 := ((((hS_36.pick 3 rfl).pick 3 rfl).pick 3 rfl).pick 3 rfl)
    have hS_45 : Sat W _ (([(b_19, .cells #[.slice taj_24 tnj_24 tkj_24, .int .i64 j_25.band, .pointer (some ⟨bbj_24, 0, none⟩), .bool (canc j_25)] 97 (0, 0))] ++ (Tj_24 ++ Mbj_24)) :: (jcs.eraseIdx nj_24).flatten :: ci_14 :: (Tri p 81 (preP F.cfg wb wo wn wk q m) (([] : List Ref).flatMap encRef) (encStt F.st)) :: Wc :: acs.flatten :: dcs.flatten :: Qc :: Jc :: H :: F0) := Sat.perm (show Sat W _ ([(b_19, .cells #[.slice taj_24 tnj_24 tkj_24, .int .i64 j_25.band, .pointer (some ⟨bbj_24, 0, none⟩), .bool (canc j_25)] 97 (0, 0))] :: Tj_24 :: Mbj_24 :: (jcs.eraseIdx nj_24).flatten :: ci_14 :: (Tri p 81 (preP F.cfg wb wo wn wk q m) (([] : List Ref).flatMap encRef) (encStt F.st)) :: Wc :: acs.flatten :: dcs.flatten :: Qc :: Jc :: H :: F0) from hS_48) (by simp)
    have hS_46 := Sat.shutN (d := ([(b_19, .cells #[.slice taj_24 tnj_24 tkj_24, .int .i64 j_25.band, .pointer (some ⟨bbj_24, 0, none⟩), .bool (canc j_25)] 97 (0, 0))] ++ (Tj_24 ++ Mbj_24))) (A := []) nj_24 hjcj_24 hS_45
    rw [set_same hjcj_24] at hS_46
    have hst9 := sumJ_take (jobs := F.jobs) he_15; rw [lenJ_at hj_26, if_neg hc_38] at hst9
    have hS_49 : Sat W _ ((Tri p 81 (preP F.cfg wb wo wn wk q m) (([] : List Ref).flatMap encRef) (encStt F.st)) :: Wc :: acs.flatten :: dcs.flatten :: Qc :: Jc :: jcs.flatten :: ci_14 :: H :: F0) := ((((((hS_46.pick 7 rfl).pick 7 rfl).pick 7 rfl).pick 7 rfl).pick 7 rfl).pick 7 rfl)
    have hS_50 := (hS_49.pick 7 rfl)
    have hlen9 : ((la_11 ++ lb_13)).length < rs.length := by rw [he_15]; simp only [List.length_append, List.length_cons]; omega
    exact ⟨((la_11 ++ lb_13), (some (k_18, ptrV b_19)), ci_14, ln), by first | exact hlen9 | (dsimp only; exact hlen9), alA, hS_50, hR_16, hJ_21, by omega, by omega⟩
  refine regionE <| pu4 ?_
  refine sL hS_36 0 0 (.slice taj_24 tnj_24 tkj_24) (Try.isAgg23 _) ?_
  refine pu1 ?_
  refine sAdd ln ((tnj_24 : Nat) : Int) ?_
  refine pu1 <| nilO <| blockK_n <| thenK_n <| ?_
  have hS_42 := ((((hS_36.pick 3 rfl).pick 3 rfl).pick 3 rfl).pick 3 rfl)
  have hS_39 : Sat W _ (([(b_19, .cells #[.slice taj_24 tnj_24 tkj_24, .int .i64 j_25.band, .pointer (some ⟨bbj_24, 0, none⟩), .bool (canc j_25)] 97 (0, 0))] ++ (Tj_24 ++ Mbj_24)) :: (jcs.eraseIdx nj_24).flatten :: ci_14 :: (Tri p 81 (preP F.cfg wb wo wn wk q m) (([] : List Ref).flatMap encRef) (encStt F.st)) :: Wc :: acs.flatten :: dcs.flatten :: Qc :: Jc :: H :: F0) := Sat.perm (show Sat W _ ([(b_19, .cells #[.slice taj_24 tnj_24 tkj_24, .int .i64 j_25.band, .pointer (some ⟨bbj_24, 0, none⟩), .bool (canc j_25)] 97 (0, 0))] :: Tj_24 :: Mbj_24 :: (jcs.eraseIdx nj_24).flatten :: ci_14 :: (Tri p 81 (preP F.cfg wb wo wn wk q m) (([] : List Ref).flatMap encRef) (encStt F.st)) :: Wc :: acs.flatten :: dcs.flatten :: Qc :: Jc :: H :: F0) from hS_42) (by simp)
  have hS_40 := Sat.shutN (d := ([(b_19, .cells #[.slice taj_24 tnj_24 tkj_24, .int .i64 j_25.band, .pointer (some ⟨bbj_24, 0, none⟩), .bool (canc j_25)] 97 (0, 0))] ++ (Tj_24 ++ Mbj_24))) (A := []) nj_24 hjcj_24 hS_39
  rw [set_same hjcj_24] at hS_40
  have hst9 := sumJ_take (jobs := F.jobs) he_15; rw [lenJ_at hj_26, if_pos hc_38] at hst9
  have hS_43 : Sat W _ ((Tri p 81 (preP F.cfg wb wo wn wk q m) (([] : List Ref).flatMap encRef) (encStt F.st)) :: Wc :: acs.flatten :: dcs.flatten :: Qc :: Jc :: jcs.flatten :: ci_14 :: H :: F0) := ((((((hS_40.pick 7 rfl).pick 7 rfl).pick 7 rfl).pick 7 rfl).pick 7 rfl).pick 7 rfl)
  have hS_44 := (hS_43.pick 7 rfl)
  have hlen9 : ((la_11 ++ lb_13)).length < rs.length := by rw [he_15]; simp only [List.length_append, List.length_cons]; omega
  exact ⟨((la_11 ++ lb_13), (some (k_18, ptrV b_19)), ci_14, (ln + ((tnj_24 : Nat) : Int))), by first | exact hlen9 | (dsimp only; exact hlen9), alA, hS_44, hR_16, hJ_21, by omega, by omega⟩
theorem p_within (n : Int) (a : Int) (b : Int) (hS : Sat W w (H :: F)) :
    Ro Try.prog 75 #[.int .i64 n, .int .i64 a, .int .i64 b] (.bool (decide ((a ≤ n ∧ n ≤ b)))) W w (H :: F) := by
  refine callsA 15 Try.func75 rfl ?_
  refine seqE <| regionE <| pu1 <| nilO <| thenK_n <| seqE <| regionE <| pu4 ?_
  refine sD 10 (n ≥ a) (fun hc_1 => ?_) (fun hc_1 => ?_)
  rotate_left
  · refine pu5 <| nilO <| thenK_n <| retE <| retT [.bool false] <| ?_
    exact ⟨congrArg (fun b => Ending.returned (.bool b)) ((decide_eq_false (by omega)).symm), hS⟩
  refine pu5 <| nilO <| thenK_n <| retE <| retT [.bool (decide ((n : Int) ≤ b))] <| ?_
  exact ⟨congrArg (fun b => Ending.returned (.bool b)) (by rw [Bool.eq_iff_iff]; simp only [decide_eq_true_eq, ge_iff_le]; omega), hS⟩
theorem p_valid (c : Cfg) (hS : Sat W w (H :: F)) :
    Ro Try.prog 41 #[.agg (encCfg c).toArray] (.int .i64 (validCfg c)) W w (H :: F) := by
  refine callsA 44 Try.func41 rfl ?_
  refine seqE <| regionE ?_
  refine sBox hS (.agg (encCfg c).toArray) (encCfg c).toArray ?_
  intro b_1 w_2 hS_3
  refine pu1 <| nilO <| thenK_n <| seqE <| regionE <| pu1 ?_
  refine sL hS_3 0 0 (.int .i64 c.workers) (Try.isAgg3 _) ?_
  refine cR Try.call75 (p_within c.workers 1 64 (Sat.flat hS_3)) ?_
  intro w_4 hS_5
  refine pu1 ?_
  refine sD 7 ((1 ≤ c.workers ∧ c.workers ≤ 64)) (fun hc_7 => ?_) (fun hc_7 => ?_)
  rotate_left
  · refine pu16 <| pu16 <| pu3 <| nilO <| thenK_n <| seqE <| seqE <| regionE <| pu2 <| nilO <| thenK_n <| cTt <| seqE <| regionE <| pu1 <| nilO <| thenK_n <| retE <| thenK_r <| retT [.int .i64 2] <| ?_
    have hS_44 := (hS_5.dropAt 0 rfl)
    exact ⟨congrArg (fun z => Ending.returned (.int .i64 z)) (by unfold validCfg; rw [if_neg (by omega)]), hS_44⟩
  refine pu1 <| gY ?_
  refine sL hS_5 0 1 (.int .i64 c.tileW) (Try.isAgg3 _) ?_
  refine gY ?_
  refine cR Try.call75 (p_within c.tileW 1 64 (Sat.flat hS_5)) ?_
  intro w_8 hS_9
  refine pu2 ?_
  refine sD 12 ((1 ≤ c.tileW ∧ c.tileW ≤ 64)) (fun hc_11 => ?_) (fun hc_11 => ?_)
  rotate_left
  · refine pu16 <| pu14 <| nilO <| thenK_n <| seqE <| seqE <| regionE <| pu2 <| nilO <| thenK_n <| cTt <| seqE <| regionE <| pu1 <| nilO <| thenK_n <| retE <| thenK_r <| retT [.int .i64 2] <| ?_
    have hS_43 := (hS_9.dropAt 0 rfl)
    exact ⟨congrArg (fun z => Ending.returned (.int .i64 z)) (by unfold validCfg; rw [if_neg (by omega)]), hS_43⟩
  refine pu1 <| gY ?_
  refine sL hS_9 0 2 (.int .i64 c.tileH) (Try.isAgg3 _) ?_
  refine gY ?_
  refine cR Try.call75 (p_within c.tileH 1 64 (Sat.flat hS_9)) ?_
  intro w_12 hS_13
  refine pu2 ?_
  refine sD 17 ((1 ≤ c.tileH ∧ c.tileH ≤ 64)) (fun hc_15 => ?_) (fun hc_15 => ?_)
  rotate_left
  · refine pu16 <| pu9 <| nilO <| thenK_n <| seqE <| seqE <| regionE <| pu2 <| nilO <| thenK_n <| cTt <| seqE <| regionE <| pu1 <| nilO <| thenK_n <| retE <| thenK_r <| retT [.int .i64 2] <| ?_
    have hS_42 := (hS_13.dropAt 0 rfl)
    exact ⟨congrArg (fun z => Ending.returned (.int .i64 z)) (by unfold validCfg; rw [if_neg (by omega)]), hS_42⟩
  refine pu1 <| gY ?_
  refine sL hS_13 0 3 (.int .i64 c.arena) (Try.isAgg3 _) ?_
  refine gY ?_
  refine cR Try.call75 (p_within c.arena 0 1048576 (Sat.flat hS_13)) ?_
  intro w_16 hS_17
  refine pu2 ?_
  refine sD 22 ((0 ≤ c.arena ∧ c.arena ≤ 1048576)) (fun hc_19 => ?_) (fun hc_19 => ?_)
  rotate_left
  · refine pu16 <| pu4 <| nilO <| thenK_n <| seqE <| seqE <| regionE <| pu2 <| nilO <| thenK_n <| cTt <| seqE <| regionE <| pu1 <| nilO <| thenK_n <| retE <| thenK_r <| retT [.int .i64 2] <| ?_
    have hS_41 := (hS_17.dropAt 0 rfl)
    exact ⟨congrArg (fun z => Ending.returned (.int .i64 z)) (by unfold validCfg; rw [if_neg (by omega)]), hS_41⟩
  refine pu1 <| gY ?_
  refine sL hS_17 0 4 (.int .i64 c.deque) (Try.isAgg3 _) ?_
  refine gY ?_
  refine cR Try.call75 (p_within c.deque 1 256 (Sat.flat hS_17)) ?_
  intro w_20 hS_21
  refine pu2 ?_
  refine sD 27 ((1 ≤ c.deque ∧ c.deque ≤ 256)) (fun hc_23 => ?_) (fun hc_23 => ?_)
  rotate_left
  · refine pu15 <| nilO <| thenK_n <| seqE <| seqE <| regionE <| pu2 <| nilO <| thenK_n <| cTt <| seqE <| regionE <| pu1 <| nilO <| thenK_n <| retE <| thenK_r <| retT [.int .i64 2] <| ?_
    have hS_40 := (hS_21.dropAt 0 rfl)
    exact ⟨congrArg (fun z => Ending.returned (.int .i64 z)) (by unfold validCfg; rw [if_neg (by omega)]), hS_40⟩
  refine pu1 <| gY ?_
  refine sL hS_21 0 5 (.int .i64 c.tasks) (Try.isAgg3 _) ?_
  refine gY ?_
  refine cR Try.call75 (p_within c.tasks 1 4096 (Sat.flat hS_21)) ?_
  intro w_24 hS_25
  refine pu2 ?_
  refine sD 32 ((1 ≤ c.tasks ∧ c.tasks ≤ 4096)) (fun hc_27 => ?_) (fun hc_27 => ?_)
  rotate_left
  · refine pu10 <| nilO <| thenK_n <| seqE <| seqE <| regionE <| pu2 <| nilO <| thenK_n <| cTt <| seqE <| regionE <| pu1 <| nilO <| thenK_n <| retE <| thenK_r <| retT [.int .i64 2] <| ?_
    have hS_39 := (hS_25.dropAt 0 rfl)
    exact ⟨congrArg (fun z => Ending.returned (.int .i64 z)) (by unfold validCfg; rw [if_neg (by omega)]), hS_39⟩
  refine pu1 <| gY ?_
  refine sL hS_25 0 6 (.int .i64 c.cells) (Try.isAgg3 _) ?_
  refine gY ?_
  refine cR Try.call75 (p_within c.cells 1 1048576 (Sat.flat hS_25)) ?_
  intro w_28 hS_29
  refine pu2 ?_
  refine sD 37 ((1 ≤ c.cells ∧ c.cells ≤ 1048576)) (fun hc_31 => ?_) (fun hc_31 => ?_)
  rotate_left
  · refine pu5 <| nilO <| thenK_n <| seqE <| seqE <| regionE <| pu2 <| nilO <| thenK_n <| cTt <| seqE <| regionE <| pu1 <| nilO <| thenK_n <| retE <| thenK_r <| retT [.int .i64 2] <| ?_
    have hS_38 := (hS_29.dropAt 0 rfl)
    exact ⟨congrArg (fun z => Ending.returned (.int .i64 z)) (by unfold validCfg; rw [if_neg (by omega)]), hS_38⟩
  refine pu1 <| gY ?_
  refine sL hS_29 0 7 (.int .i64 c.jobs) (Try.isAgg3 _) ?_
  refine gY ?_
  refine cR Try.call75 (p_within c.jobs 1 64 (Sat.flat hS_29)) ?_
  intro w_32 hS_33
  refine pu2 <| nilO <| thenK_n <| seqE <| seqE <| regionE <| pu2 <| nilO <| thenK_n <| ?_
  refine cDn ((1 ≤ c.jobs ∧ c.jobs ≤ 64)) (fun hc_35 => ?_) (fun hc_35 => ?_)
  rotate_left
  · refine seqE <| regionE <| pu1 <| nilO <| thenK_n <| retE <| thenK_r <| retT [.int .i64 2] <| ?_
    have hS_37 := (hS_33.dropAt 0 rfl)
    exact ⟨congrArg (fun z => Ending.returned (.int .i64 z)) (by unfold validCfg; rw [if_neg (by omega)]), hS_37⟩
  refine skipE <| thenK_n <| seqE <| regionE <| pu1 <| nilO <| thenK_n <| retE <| retT [.int .i64 0] <| ?_
  have hS_36 := (hS_33.dropAt 0 rfl)
  exact ⟨congrArg (fun z => Ending.returned (.int .i64 z)) (by unfold validCfg; rw [if_pos (by omega)]), hS_36⟩
end Go.Proofs.Ytegmennaekipaaa
