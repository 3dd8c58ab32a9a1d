import Derived.Test.YtdingplbadblpaaGreatQ1Lf
namespace Go.Proofs.YtdingplbadblpaaGreat
open Go Go.E Go.Proofs.Tryz
set_option linter.all false
set_option maxRecDepth 100000
set_option maxHeartbeats 2000000
variable {W w : World} {H : Chunk} {F : List Chunk}
theorem ord_outs {I : List PlaneV} {S : List StageV} {O : List Int} {p : Int} (h1 : chkCode ⟨I, S, O, p⟩ = 0) (h2 : chkCode (jobOf I S p) = 0) : ordV ⟨I, S, O, p⟩ = ordV (jobOf I S p) := by
  unfold ordV
  rw [if_pos h1, if_pos h2]; rfl
theorem good_chk {I : List PlaneV} {S : List StageV} {O : List Int} {p : Int} (h : Good I S p) (h1 : 1 <= S.length) (hO : 1 <= O.length /\ O.length <= 2) (hr : inR ((I.length : Nat) + (S.length : Nat)) O = true) : chkCode ⟨I, S, O, p⟩ = 0 := by
  unfold chkCode
  dsimp only
  have hn := h.ni; have hs := h.ns; have hp := h.pr
  rw [if_pos (by omega), if_pos hp, if_pos, if_pos hr]
  rw [List.all_eq_true]
  intro s hs2
  obtain ⟨m, hm⟩ := List.getElem?_of_mem hs2
  unfold inR
  rw [List.all_eq_true]
  intro x hx
  have := h.od m s hm x hx
  have hml : m < S.length := (List.getElem?_eq_some_iff.1 hm).1
  exact decide_eq_true (by omega)
theorem shp_outs {I : List PlaneV} {S : List StageV} {O : List Int} {p : Int} {l : List Shape} (h : Good I S p) (hr : runS (I.map shpOf) S = some l) (h1 : 1 <= S.length) (hO : 1 <= O.length /\ O.length <= 2) (hi : inR ((I.length : Nat) + (S.length : Nat)) O = true) : shpV ⟨I, S, O, p⟩ = (l, 0, 0) := by
  have c1 := good_chk h h1 hO hi
  have c2 := good_chk (O := [0]) h h1 (by simp) (by unfold inR; simp; have := h.ni; omega)
  have e := (shp_run h h1).1 l hr
  have eo := ord_outs c1 c2
  unfold shpV at e ⊢
  rw [eo]
  exact e
theorem runS_pre : ∀ (S : List StageV) (out l : List Shape), runS out S = some l -> ∃ z, l = out ++ z
  | [], out, l, h => by simp only [runS, Option.some.injEq] at h; exact ⟨[], by simp [h]⟩
  | s :: S, out, l, h => by
    rw [runS] at h
    split at h
    · obtain ⟨z, hz⟩ := runS_pre S _ l h
      exact ⟨_, by rw [hz, List.append_assoc]⟩
    · cases h
theorem runS_len : ∀ (S : List StageV) (out l : List Shape), runS out S = some l -> l.length = out.length + S.length
  | [], out, l, h => by simp only [runS, Option.some.injEq] at h; subst h; simp
  | s :: S, out, l, h => by
    rw [runS] at h
    split at h
    · rw [runS_len S _ l h]; simp; omega
    · cases h
theorem runS_at : ∀ (S : List StageV) (out l : List Shape) (m : Nat) (s : StageV), runS out S = some l -> S[m]? = some s -> ∃ cur z, cur.length = out.length + m /\ l = cur ++ z /\ (stOf cur s).2 = 0 /\ l[out.length + m]? = some (stOf cur s).1
 | s :: S, out, l, 0, t, h, hm => by
  obtain rfl : s = t := by simpa using hm
  rw [runS] at h
  split at h
  ·rename_i hc
   obtain ⟨z, hz⟩ := runS_pre S _ l h
   refine ⟨out, (stOf out s).1 :: z, rfl, by rw [hz, List.append_assoc]; rfl, hc, ?_⟩
   rw [hz, List.append_assoc, Nat.add_zero, List.getElem?_append_right (Nat.le_refl _), Nat.sub_self]; rfl
  ·cases h
 | s :: S, out, l, m + 1, t, h, hm => by
  rw [runS] at h
  split at h
  ·obtain ⟨cur, z, h1, h2, h3, h4⟩ := runS_at S _ l m t h (by simpa using hm)
   rw [List.length_append, List.length_singleton] at h1 h4
   exact ⟨cur, z, om, h2, h3, by rw [show out.length + (m + 1) = out.length + 1 + m by omega]; exact h4⟩
  ·cases h
theorem runsIn {I : List PlaneV} {S : List StageV} {l : List Shape} {i : Nat} {z : PlaneV} {x : Shape} (hr : runS (I.map shpOf) S = some l) (hz : I[i]? = some z) (hx : l[i]? = some x) : x = shpOf z := by
  obtain ⟨y, rfl⟩ := runS_pre _ _ _ hr
  have hi := (List.getElem?_eq_some_iff.1 hz).1
  rw [List.getElem?_append_left (by rw [List.length_map]; exact hi), List.getElem?_map, hz] at hx
  exact (Option.some.inj hx).symm
theorem run_st {I : List PlaneV} {S : List StageV} {p : Int} {l : List Shape} {m k : Nat} {s : StageV} {x : Shape} (h : Good I S p) (hr : runS (I.map shpOf) S = some l) (hs : S[m]? = some s) (hx : l[k]? = some x) (hk : k = I.length + m) : ofV s (shpAt l s.a) (if twoP s then shpAt l s.b else ⟨0, 0, 0⟩) = (x, 0) := by
 subst hk
 obtain ⟨cur, z, h1, h2, h3, h4⟩ := runS_at S _ l m s hr hs
 rw [List.length_map] at h1 h4
 rw [hx] at h4
 have ha := h.od m s hs s.a (by unfold srcs; split <;> simp)
 have e1 : shpAt l s.a = shpAt cur s.a := by rw [h2]; exact shpAt_app ha.1 om
 have e2 : (if twoP s then shpAt l s.b else ⟨0, 0, 0⟩) = (if twoP s then shpAt cur s.b else ⟨0, 0, 0⟩) := by
  by_cases ht : twoP s
  ·rw [if_pos ht, if_pos ht, h2]
   have hb := h.od m s hs s.b (by unfold srcs; rw [if_pos ht]; simp)
   exact shpAt_app hb.1 om
  ·rw [if_neg ht, if_neg ht]
 rw [e1, e2]
 show stOf cur s = _
 rw [Option.some.inj h4, <- h3]
theorem of_small {q : StageV} {s t x : Shape} (h : ofV q s t = (x, 0)) (hs : s.w * s.h <= 128) (hx : q.x.length <= 6) (hy : q.y.length <= 6) : x.w * x.h <= 128 := by
 have hk : ∀ z, kernelV q s t = (z, 0) -> z.w * z.h <= 128 := by
  intro z hz
  unfold kernelV at hz
  by_cases h1 : q.kind = 1
  ·rw [if_pos h1] at hz; rw [<- (Prod.mk.inj hz).1]; exact hs
  rw [if_neg h1] at hz
  by_cases h2 : q.kind = 2
  ·rw [if_pos h2] at hz; rw [<- (Prod.mk.inj hz).1]; exact hs
  rw [if_neg h2] at hz
  by_cases h3 : q.kind = 3
  ·rw [if_pos h3] at hz; rw [<- (Prod.mk.inj hz).1]
   have := mul_bd (a := (q.x.length : Int)) (b := q.y.length) (A := 6) (B := 6) om om
   dsimp only; omega
  rw [if_neg h3] at hz
  by_cases h4 : q.kind = 4
  ·rw [if_pos h4] at hz
   split at hz
   ·rw [<- (Prod.mk.inj hz).1]; dsimp only; omega
   ·exact absurd (Prod.mk.inj hz).2 om
  rw [if_neg h4] at hz
  by_cases h5 : q.kind = 5
  ·rw [if_pos h5] at hz
   split at hz <;> (rw [<- (Prod.mk.inj hz).1]; exact hs)
  rw [if_neg h5] at hz
  split at hz
  ·split at hz <;> (rw [<- (Prod.mk.inj hz).1]; exact hs)
  ·rw [<- (Prod.mk.inj hz).1]; exact hs
 unfold ofV at h
 split at h
 ·split at h
  ·split at h
   ·split at h
    ·rename_i h0; exact hk x (by rw [<- (Prod.mk.inj h).1, <- h0])
    ·rename_i h0; exact absurd (Prod.mk.inj h).2 h0
   ·exact absurd (Prod.mk.inj h).2 om
  ·exact absurd (Prod.mk.inj h).2 om
 ·exact absurd (Prod.mk.inj h).2 om
theorem made_small {I : List PlaneV} {S : List StageV} {p : Int} {l : List Shape} (h : Good I S p) (hr : runS (I.map shpOf) S = some l) (hI : ∀ z ∈ I, z.pix.length <= 64) (hS : ∀ s ∈ S, s.x.length <= 6 /\ s.y.length <= 6) :
  ∀ (b k : Nat), k <= b -> ∀ x : Shape, l[k]? = some x -> x.w * x.h <= 128 := by
 intro b
 induction b with
 | zero =>
  intro k hk x hx
  have h1 := h.ni
  obtain ⟨z, hz⟩ : ∃ z, I[k]? = some z := ⟨_, List.getElem?_eq_getElem om⟩
  rw [runsIn hr hz hx]
  have hp := List.all_eq_true.1 h.pl z (List.mem_of_getElem? hz)
  unfold planeOK at hp
  rw [Bool.and_eq_true] at hp
  have h2 := (of_decide_eq_true hp.1).2
  have := hI z (List.mem_of_getElem? hz)
  show z.w * z.h <= 128
  omega
 | succ b ih =>
  intro k hkb x hx
  by_cases hk : k < I.length
  ·obtain ⟨z, hz⟩ : ∃ z, I[k]? = some z := ⟨_, List.getElem?_eq_getElem hk⟩
   rw [runsIn hr hz hx]
   have hp := List.all_eq_true.1 h.pl z (List.mem_of_getElem? hz)
   unfold planeOK at hp
   rw [Bool.and_eq_true] at hp
   have h2 := (of_decide_eq_true hp.1).2
   have := hI z (List.mem_of_getElem? hz)
   show z.w * z.h <= 128
   omega
  ·have hl := runS_len S _ l hr
   rw [List.length_map] at hl
   have hkl := (List.getElem?_eq_some_iff.1 hx).1
   obtain ⟨s, hs⟩ : ∃ s, S[k - I.length]? = some s := ⟨_, List.getElem?_eq_getElem om⟩
   have ho := run_st h hr hs hx om
   have ha := h.od _ s hs s.a (by unfold srcs; split <;> simp)
   have hxy := hS s (List.mem_of_getElem? hs)
   obtain ⟨y, hy⟩ : ∃ y, l[s.a.toNat]? = some y := ⟨_, List.getElem?_eq_getElem om⟩
   have hi := ih s.a.toNat om y hy
   refine of_small ho ?_ hxy.1 hxy.2
   have e : shpAt l s.a = y := by unfold shpAt; rw [hy]; rfl
   rw [e]; exact hi
theorem ceil_le {a b : Int} (ha : 1 <= a) (hb : 1 <= b) : ceilV a b <= a := by
  unfold ceilV
  rw [if_pos (by omega)]
  have h1 := Int.emod_def a b
  have h2 := Int.emod_nonneg a (show b ≠ 0 by omega)
  have h4 : 0 <= a / b := Int.ediv_nonneg (by omega) (by omega)
  have h5 : a / b <= b * (a / b) := by
    have := Int.mul_le_mul_of_nonneg_right hb h4
    omega
  split <;> omega
theorem made_cnt {L : Lay} (g : LayG L) (hs : ∀ x : Int, 0 <= x -> x < L.ni + (L.ss.length : Int) -> (shpAt L.sh x).w * (shpAt L.sh x).h <= 128) {n : Int} (hn : n ∈ L.od) : L.cnt n <= 129 := by
 have hf := g.fine hn
 have hc : (L.cut n).w * (L.cut n).h <= 128 := by
  unfold Lay.cut
  have hr := g.rng n hn
  have hni := g.ni
  split
  ·have := g.src hn _ (a_src _); exact hs _ this.1 this.2.1
  ·exact hs _ om hr.2
 have hg := g.grid hn
 have h1 : L.nx n <= (L.cut n).w := by unfold Lay.nx colsN; rw [if_pos hf]; exact ceil_le hf.1.1 hf.2.2.1.1
 have h2 : L.ny n <= (L.cut n).h := by unfold Lay.ny rowsN; rw [if_pos hf]; exact ceil_le hf.2.1.1 hf.2.2.2.1
 have h3 : L.nx n * L.ny n <= (L.cut n).w * (L.cut n).h := Int.mul_le_mul h1 h2 om (by have := hf.1.1; omega)
 unfold Lay.cnt
 split <;> omega
theorem sum_le {f : Int -> Int} {c : Int} : ∀ l : List Int, (∀ x ∈ l, f x <= c) -> (l.map f).sum <= c * l.length
  | [], _ => by simp
  | x :: l, h => by
    have h1 := sum_le l (fun y hy => h y (by simp [hy]))
    have h2 := h x (by simp)
    simp only [List.map_cons, List.sum_cons, List.length_cons]
    rw [show c * ((l.length + 1 : Nat) : Int) = c * l.length + c by push_cast; rw [Int.mul_add, Int.mul_one]]
    omega
structure MadeL (j : JobV) (tw th : Int) : Prop where
  z : lowC j tw th = 0
  v : lowV j tw th = (layV j tw th).all
  g : LayG (layV j tw th)
  c : ∀ n ∈ (layV j tw th).od, (layV j tw th).cnt n <= 129
  s : j.stages.length <= 4 /\ 1 <= j.stages.length
  t : (layV j tw th).total <= 516
theorem made_low {j : JobV} {l : List Shape} (h : Good j.inputs j.stages j.priority) (hr : runS (j.inputs.map shpOf) j.stages = some l) (hI : ∀ z ∈ j.inputs, z.pix.length <= 64) (hS : ∀ s ∈ j.stages, s.x.length <= 6 /\ s.y.length <= 6)
  (h1 : 1 <= j.stages.length /\ j.stages.length <= 4) (hO : 1 <= j.outputs.length /\ j.outputs.length <= 2) (hi : inR ((j.inputs.length : Nat) + (j.stages.length : Nat)) j.outputs = true) {tw th : Int} (ht : tileP tw th) : MadeL j tw th := by
 have hv : shpV j = (l, 0, 0) := shp_outs h hr h1.1 hO hi
 have hg : LayG (layV j tw th) := lay_ok (shp_ok (by rw [hv])) ht
 have hll := runS_len j.stages _ l hr
 rw [List.length_map] at hll
 have hc : ∀ n ∈ (layV j tw th).od, (layV j tw th).cnt n <= 129 := by
  intro n hn
  refine made_cnt hg ?_ hn
  intro x h0 h2
  have h2' : x < (j.inputs.length : Int) + j.stages.length := h2
  obtain ⟨y, hy⟩ : ∃ y, l[x.toNat]? = some y := ⟨_, List.getElem?_eq_getElem om⟩
  have e : shpAt (layV j tw th).sh x = y := by unfold shpAt layV; dsimp only; rw [hv]; dsimp only; rw [hy]; rfl
  rw [e]
  exact made_small h hr hI hS x.toNat x.toNat (Nat.le_refl _) y hy
 have htot : (layV j tw th).total <= 516 := by
  have h2 := sum_le (layV j tw th).od hc
  have h3 : (layV j tw th).od.length = j.stages.length := hg.ln
  unfold Lay.total
  omega
 have hz : lowC j tw th = 0 := by unfold lowC; rw [if_pos (by rw [hv]), if_pos ht, if_pos om]
 exact ⟨hz, by unfold lowV; rw [if_pos hz], hg, hc, ⟨h1.2, h1.1⟩, htot⟩
theorem flat_at {α : Type} {f : Int -> List α} : ∀ (l : List Int) (i : Nat) (z : α), (l.flatMap f)[i]? = some z -> ∃ p x q j, l = p ++ x :: q /\ (f x)[j]? = some z /\ i = (p.flatMap f).length + j
  | [], i, z, h => by simp at h
  | x :: l, i, z, h => by
    rw [List.flatMap_cons] at h
    by_cases hi : i < (f x).length
    · rw [List.getElem?_append_left hi] at h
      exact ⟨[], x, l, i, rfl, h, by simp⟩
    · rw [List.getElem?_append_right (by omega)] at h
      obtain ⟨p, y, q, j, e, hz, hj⟩ := flat_at l _ z h
      exact ⟨x :: p, y, q, j, by rw [e]; rfl, hz, by rw [List.flatMap_cons, List.length_append]; omega⟩
theorem flat_get {α : Type} {f : Int -> List α} {p q : List Int} {x : Int} {j : Nat} {z : α} (h : (f x)[j]? = some z) : ((p ++ x :: q).flatMap f)[(p.flatMap f).length + j]? = some z := by
  rw [List.flatMap_append, List.getElem?_append_right (by omega), List.flatMap_cons, List.getElem?_append_left (by have := (List.getElem?_eq_some_iff.1 h).1; omega)]
  rw [show (p.flatMap f).length + j - (p.flatMap f).length = j by omega]; exact h
section
variable {L : Lay} (g : LayG L)
include g
theorem pre_len {p q : List Int} {x : Int} (e : L.od = p ++ x :: q) : ((p.flatMap L.tasks).length : Int) = L.first x := by
  rw [tasks_sum g p (fun y hy => by rw [e]; simp [hy]), (g.first_at e).1]
theorem all_at {i : Nat} {z : TaskV} (h : L.all[i]? = some z) : ∃ n j, n ∈ L.od /\ (L.tasks n)[j]? = some z /\ (i : Int) = L.first n + (j : Nat) := by
  obtain ⟨p, x, q, j, e, hz, hj⟩ := flat_at _ _ _ h
  refine ⟨x, j, by rw [e]; simp, hz, ?_⟩
  have := pre_len g e
  omega
theorem at_all {n : Int} {j : Nat} {z : TaskV} (hn : n ∈ L.od) (h : (L.tasks n)[j]? = some z) : L.all[(L.first n + (j : Nat)).toNat]? = some z := by
  obtain ⟨p, q, e⟩ := List.append_of_mem hn
  have hp := pre_len g e
  have hf := flat_get (f := L.tasks) (p := p) (q := q) h
  rw [<- e] at hf
  rw [show (L.first n + (j : Int)).toNat = (p.flatMap L.tasks).length + j by omega]
  exact hf
theorem tasks_at {n : Int} {j : Nat} {z : TaskV} (hn : n ∈ L.od) (h : (L.tasks n)[j]? = some z) : ((j : Int) < L.nx n * L.ny n /\ z = L.tileT n j) \/ ((L.st n).kind = 4 /\ (j : Int) = L.nx n * L.ny n /\ z = L.mergeT n) := by
 have hg := (g.grid hn).2.2
 unfold Lay.tasks at h
 by_cases hj : j < (L.nx n * L.ny n).toNat
 ·rw [List.getElem?_append_left (by rw [List.length_map, upto_len]; exact hj)] at h
  left
  refine ⟨om, ?_⟩
  rw [List.getElem?_map] at h
  have hu : (uptoV (L.nx n * L.ny n).toNat)[j]? = some (j : Int) := by unfold uptoV; rw [List.getElem?_map, List.getElem?_range hj]; rfl
  rw [hu] at h
  exact (Option.some.inj h).symm
 ·rw [List.getElem?_append_right (by rw [List.length_map, upto_len]; omega), List.length_map, upto_len] at h
  by_cases hk : (L.st n).kind = 4
  ·rw [if_pos hk] at h
   have hl := (List.getElem?_eq_some_iff.1 h).1
   simp only [List.length_singleton] at hl
   have e : j - (L.nx n * L.ny n).toNat = 0 := by omega
   rw [e] at h
   exact .inr ⟨hk, om, (Option.some.inj h).symm⟩
  ·rw [if_neg hk] at h; simp at h
theorem at_tasks {n : Int} {j : Int} (hn : n ∈ L.od) (h0 : 0 <= j) (h : j < L.cnt n) : ∃ z, (L.tasks n)[j.toNat]? = some z /\ z.stage = n := by
  have hl := tasks_len g hn
  obtain ⟨z, hz⟩ : ∃ z, (L.tasks n)[j.toNat]? = some z := ⟨_, List.getElem?_eq_getElem (by omega)⟩
  refine ⟨z, hz, ?_⟩
  rcases tasks_at g hn hz with ⟨_, rfl⟩ | ⟨_, _, rfl⟩ <;> rfl
theorem dep_src {s : StageV} {r : Rct} {x d : Int} (hx : x < L.ni \/ x ∈ L.od) (h : d ∈ L.srcDeps s r x) : x ∈ L.od /\ ∃ k, 0 <= k /\ k < L.cnt x /\ d = L.first x + k := by
 unfold Lay.srcDeps at h
 split at h
 ·simp at h
 rename_i hni
 have hxo : x ∈ L.od := by rcases hx with h1 | h1; exact absurd h1 hni; exact h1
 refine ⟨hxo, ?_⟩
 have hcb := g.cntb hxo
 split at h
 ·obtain ⟨k, hk, rfl⟩ := List.mem_map.1 h
  rw [mem_upto] at hk
  exact ⟨k, hk.1, om, rfl⟩
 split at h
 ·simp only [List.mem_singleton] at h
  exact ⟨L.cnt x - 1, om, om, om⟩
 rename_i hk4
 obtain ⟨k, hk, rfl⟩ := List.mem_map.1 h
 have hk := (List.mem_filter.1 hk).1
 rw [mem_upto] at hk
 refine ⟨k, hk.1, ?_, rfl⟩
 have hgr := (g.grid hxo).2.2
 have hnx : L.nx x = colsN (shpAt L.sh x).w (shpAt L.sh x).h L.tw L.th := by unfold Lay.nx Lay.cut; rw [if_neg hk4]
 have hny : L.ny x = rowsN (shpAt L.sh x).w (shpAt L.sh x).h L.tw L.th := by unfold Lay.ny Lay.cut; rw [if_neg hk4]
 unfold Lay.cnt
 rw [if_neg hk4]
 unfold tilN at hk
 rw [<- hnx, <- hny] at hk
 omega
theorem src_first {n y : Int} (hn : n ∈ L.od) (hy : y ∈ srcs (L.st n)) (hyo : y ∈ L.od) : L.first y + L.cnt y <= L.first n := by
  obtain ⟨p, q, e⟩ := List.append_of_mem hn
  have hb := g.bef p n q e y hy
  have hyp : y ∈ p := by
    rcases hb.2 with h | h
    · have := g.rng y hyo; omega
    · exact h
  obtain ⟨p1, p2, e1⟩ := List.append_of_mem hyp
  have e2 : L.od = p1 ++ y :: (p2 ++ n :: q) := by rw [e, e1]; simp
  rw [(g.first_at e).1, (g.first_at e2).1, e1]
  have hp2 : 0 <= (p2.map L.cnt).sum := sum_nn _ (fun x hx => by have := g.cntb (show x ∈ L.od by rw [e, e1]; simp [hx]); omega)
  simp only [List.map_append, List.map_cons, List.sum_append, List.sum_cons]
  omega
end
theorem asc_lt {l : List Int} (h : Asc l) {a b : Nat} {x y : Int} (hab : a < b) (hx : l[a]? = some x) (hy : l[b]? = some y) : x < y := by
  obtain ⟨ha, e1⟩ := List.getElem?_eq_some_iff.1 hx
  obtain ⟨hb, e2⟩ := List.getElem?_eq_some_iff.1 hy
  have := List.pairwise_iff_getElem.1 h a b ha hb hab
  rw [e1, e2] at this
  exact this
section
variable {L : Lay} (g : LayG L)
include g
theorem all_st {i : Nat} {z : TaskV} (h : L.all[i]? = some z) : z.stage ∈ L.od /\ ∃ j : Nat, (L.tasks z.stage)[j]? = some z /\ (i : Int) = L.first z.stage + (j : Nat) := by
  obtain ⟨n, j, hn, hz, hi⟩ := all_at g h
  have e : z.stage = n := by rcases tasks_at g hn hz with ⟨_, rfl⟩ | ⟨_, _, rfl⟩ <;> rfl
  rw [e]; exact ⟨hn, j, hz, hi⟩
theorem all_get {n k : Int} (hn : n ∈ L.od) (h0 : 0 <= k) (h : k < L.cnt n) : ∃ y, L.all[(L.first n + k).toNat]? = some y /\ y.stage = n := by
  obtain ⟨y, hy, hs⟩ := at_tasks g hn h0 h
  refine ⟨y, ?_, hs⟩
  have := at_all g hn hy
  rw [show (k.toNat : Int) = k by omega] at this
  exact this
theorem needs_src {n d : Int} (hn : n ∈ L.od) {r : Rct} (h : d ∈ L.needs (L.st n) r) : ∃ y k, y ∈ srcs (L.st n) /\ y ∈ L.od /\ 0 <= k /\ k < L.cnt y /\ d = L.first y + k := by
  unfold Lay.needs at h
  obtain ⟨y, hy, hd⟩ := List.mem_flatMap.1 h
  obtain ⟨hyo, k, h1, h2, h3⟩ := dep_src g (g.src hn y hy).2.2 hd
  exact ⟨y, k, hy, hyo, h1, h2, h3⟩
theorem own_at {n j d : Int} (hn : n ∈ L.od) (hj : 0 <= j /\ j < L.nx n * L.ny n) (h : d ∈ L.own n j) : (L.st n).kind = 5 /\ ∃ k, 0 <= k /\ k < j /\ d = L.first n + k := by
 unfold Lay.own at h
 split at h
 ·rename_i h5
  refine ⟨h5, ?_⟩
  have hg := (g.grid hn).1
  rcases List.mem_append.1 h with h | h
  ·split at h
   ·rename_i hm
    have hj0 : 0 < j := by
     rcases Int.lt_or_eq_of_le hj.1 with h0 | h0
     ·exact h0
     ·rw [<- h0] at hm; simp at hm
    simp only [List.mem_singleton] at h
    exact ⟨j - 1, om, om, om⟩
   ·simp at h
  ·split at h
   ·simp only [List.mem_singleton] at h
    exact ⟨j - L.nx n, om, om, om⟩
   ·simp at h
 ·simp at h
theorem dep_ok {i : Nat} {z : TaskV} {d : Int} (h : L.all[i]? = some z) (hd : d ∈ z.deps) :
  (0 <= d /\ d < (i : Int)) /\ ∃ y, L.all[d.toNat]? = some y /\ ((y.stage = z.stage /\ ((L.st z.stage).kind = 5 \/ z.part = 2)) \/ y.stage = (L.st z.stage).a \/ ((L.st z.stage).kind = 6 /\ y.stage = (L.st z.stage).b)) := by
 obtain ⟨hn, j, hz, hi⟩ := all_st g h
 generalize z.stage = n at hn hz hi ⊢
 have hfb := g.firstb hn
 have hgr := (g.grid hn).2.2
 rcases tasks_at g hn hz with ⟨hj, rfl⟩ | ⟨h4, hj, rfl⟩
 ·have hd' : d ∈ L.needs (L.st n) (L.tile n j) ++ L.own n j := mem_canon.1 hd
  rcases List.mem_append.1 hd' with h1 | h1
  ·obtain ⟨y, k, hy, hyo, h0, hk, rfl⟩ := needs_src g hn h1
   have hs := src_first g hn hy hyo
   have hb := g.firstb hyo
   obtain ⟨t, ht, hts⟩ := all_get g hyo h0 hk
   refine ⟨om, t, ht, ?_⟩
   rw [hts]
   unfold srcs at hy
   split at hy
   ·rename_i h2
    simp only [List.mem_cons, List.not_mem_nil, or_false] at hy
    rcases hy with e | e
    ·exact .inr (.inl e)
    ·exact .inr (.inr ⟨h2.1, e⟩)
   ·simp only [List.mem_singleton] at hy
    exact .inr (.inl hy)
  ·obtain ⟨h5, k, h0, hk, rfl⟩ := own_at g hn ⟨om, hj⟩ h1
   have hcn : L.cnt n = L.nx n * L.ny n := by unfold Lay.cnt; rw [if_neg om]
   obtain ⟨t, ht, hts⟩ := all_get g hn h0 om
   exact ⟨om, t, ht, .inl ⟨hts, .inl h5⟩⟩
 ·have hd' : d ∈ (uptoV (L.nx n * L.ny n).toNat).map (L.first n + ·) := mem_canon.1 hd
  obtain ⟨k, hk, rfl⟩ := List.mem_map.1 hd'
  rw [mem_upto] at hk
  have hcn : L.cnt n = L.nx n * L.ny n + 1 := by unfold Lay.cnt; rw [if_pos h4]
  obtain ⟨t, ht, hts⟩ := all_get g hn hk.1 om
  exact ⟨om, t, ht, .inl ⟨hts, .inr rfl⟩⟩
theorem dep_asc {i : Nat} {z : TaskV} (h : L.all[i]? = some z) : Asc z.deps := by
  obtain ⟨hn, j, hz, hi⟩ := all_st g h
  rcases tasks_at g hn hz with ⟨_, e⟩ | ⟨_, _, e⟩ <;> (rw [e]; exact asc_canon _)
end
def ofSt (L : Lay) (a d : Int) : Bool := decide ((L.all[d.toNat]?.map TaskV.stage) = some a)
def isSt (a : Int) (z : TaskV) : Bool := decide (z.stage = a)
theorem count_step {α : Type} {p : α -> Bool} {l : List α} {i : Nat} {x : α} (h : l[i]? = some x) : (((l.take (i + 1)).countP p : Nat) : Int) = ((l.take i).countP p : Nat) + (if p x = true then 1 else 0) := by
  rw [List.take_add_one, h]
  simp only [Option.toList_some, List.countP_append, List.countP_singleton]
  split <;> simp
theorem of_at {L : Lay} {d a : Int} {z : TaskV} (h : L.all[d.toNat]? = some z) : (if ofSt L a d = true then (1 : Int) else 0) = if z.stage = a then 1 else 0 := by
  have e : (ofSt L a d = true) ↔ z.stage = a := by unfold ofSt; rw [h]; simp
  by_cases hz : z.stage = a
  · rw [if_pos hz, if_pos (e.2 hz)]
  · rw [if_neg hz, if_neg (fun h2 => hz (e.1 h2))]
theorem count_st {l : List TaskV} {i : Nat} {z : TaskV} (a : Int) (h : l[i]? = some z) : ((((l.take (i + 1)).countP (isSt a) : Nat) : Int) = ((l.take i).countP (isSt a) : Nat) + 1 /\ z.stage = a) \/ ((((l.take (i + 1)).countP (isSt a) : Nat) : Int) = ((l.take i).countP (isSt a) : Nat) /\ ¬ z.stage = a) := by
  have hc := count_step (p := isSt a) h
  by_cases e : z.stage = a
  · rw [if_pos (by unfold isSt; exact decide_eq_true e)] at hc; exact .inl ⟨hc, e⟩
  · rw [if_neg (by unfold isSt; simp [e])] at hc; exact .inr ⟨by omega, e⟩
theorem count_dep {L : Lay} {l : List Int} {n : Nat} {d : Int} {z : TaskV} (a : Int) (h : l[n]? = some d) (hz : L.all[d.toNat]? = some z) : ((((l.take (n + 1)).countP (ofSt L a) : Nat) : Int) = ((l.take n).countP (ofSt L a) : Nat) + 1 /\ z.stage = a) \/ ((((l.take (n + 1)).countP (ofSt L a) : Nat) : Int) = ((l.take n).countP (ofSt L a) : Nat) /\ ¬ z.stage = a) := by
  have hc := count_step (p := ofSt L a) h
  rw [of_at hz] at hc
  by_cases e : z.stage = a
  · rw [if_pos e] at hc; exact .inl ⟨hc, e⟩
  · rw [if_neg e] at hc; exact .inr ⟨by omega, e⟩
theorem cnt_le2 (l : List TaskV) (n : Nat) (a : Int) : (l.take n).countP (isSt a) <= n := by
  have := List.countP_le_length (p := isSt a) (l := l.take n)
  rw [List.length_take] at this
  omega
theorem cnt_le {L : Lay} (l : List Int) (n : Nat) (a : Int) : (l.take n).countP (ofSt L a) <= n := by
  have := List.countP_le_length (p := ofSt L a) (l := l.take n)
  rw [List.length_take] at this
  omega
section
variable {L : Lay} (g : LayG L)
include g
theorem count_flat {a : Int} : ∀ l : List Int, (∀ x ∈ l, x ∈ L.od) -> l.Nodup -> (((l.flatMap L.tasks).countP (isSt a) : Nat) : Int) = if a ∈ l then L.cnt a else 0
 | [], _, _ => by simp
 | x :: l, h, hd => by
  have hx : x ∈ L.od := h x (by simp)
  have ih := count_flat (a := a) l (fun y hy => h y (by simp [hy])) (List.nodup_cons.1 hd).2
  have hall : ∀ z ∈ L.tasks x, z.stage = x := by
   intro z hz
   obtain ⟨k, hk⟩ := List.mem_iff_getElem?.1 hz
   rcases tasks_at g hx hk with ⟨_, rfl⟩ | ⟨_, _, rfl⟩ <;> rfl
  rw [List.flatMap_cons, List.countP_append]
  by_cases e : x = a
  ·subst e
   have h1 : (L.tasks x).countP (isSt x) = (L.tasks x).length := List.countP_eq_length.2 (fun z hz => by unfold isSt; rw [hall z hz]; exact decide_eq_true rfl)
   have h2 : x ∉ l := (List.nodup_cons.1 hd).1
   rw [if_neg h2] at ih
   rw [if_pos (by simp), h1]
   have := tasks_len g hx
   push_cast; omega
  ·have h1 : (L.tasks x).countP (isSt a) = 0 := List.countP_eq_zero.2 (fun z hz => by unfold isSt; rw [hall z hz]; simp [e])
   rw [h1]
   have : (a ∈ x :: l) ↔ a ∈ l := by simp [show ¬ a = x from fun h => e h.symm]
   simp only [this]
   push_cast; omega
theorem count_all {a : Int} (ha : a ∈ L.od) : ((L.all.countP (isSt a) : Nat) : Int) = L.cnt a := by
  have := count_flat g (a := a) L.od (fun _ h => h) g.nd
  rw [if_pos ha] at this
  exact this
theorem stage_eq {y k b : Int} (hy : y ∈ L.od) (h0 : 0 <= k) (h : k < L.cnt y) : ofSt L b (L.first y + k) = true ↔ y = b := by
  obtain ⟨t, ht, hts⟩ := all_get g hy h0 h
  unfold ofSt
  rw [ht, decide_eq_true_iff]
  simp only [Option.map_some, Option.some.injEq]
  rw [hts]
theorem bar_count {i : Nat} {z : TaskV} (h : L.all[i]? = some z) (hb : (L.st z.stage).barrier = true) (hp : ¬ z.part = 2) (ha : L.ni <= (L.st z.stage).a) : ((z.deps.countP (ofSt L (L.st z.stage).a) : Nat) : Int) = (L.all.countP (isSt (L.st z.stage).a) : Nat) := by
 obtain ⟨hn, j, hz, hi⟩ := all_st g h
 generalize z.stage = n at hn hz hi hb ha ⊢
 have has := g.src hn (L.st n).a (a_src _)
 have hao : (L.st n).a ∈ L.od := by rcases has.2.2 with h1 | h1; omega; exact h1
 rw [count_all g hao]
 have ht : (j : Int) < L.nx n * L.ny n /\ z = L.tileT n j := by
  rcases tasks_at g hn hz with h1 | ⟨_, _, e⟩
  ·exact h1
  ·exact absurd (by rw [e]; rfl) hp
 obtain ⟨hj, rfl⟩ := ht
 have hsf := src_first g hn (a_src (L.st n)) hao
 have hcb := g.cntb hao
 have e : ((L.tileT n j).deps.filter (ofSt L (L.st n).a)) = (uptoV (L.cnt (L.st n).a).toNat).map (L.first (L.st n).a + ·) := by
  refine asc_ext ((asc_canon _).filter _) ?_ ?_
  ·have h1 := asc_upto (L.cnt (L.st n).a).toNat
   exact List.Pairwise.map _ (fun a b hab => by omega) h1
  ·intro d
   rw [List.mem_filter]
   constructor
   ·rintro ⟨hd, ho⟩
    have hd' : d ∈ L.needs (L.st n) (L.tile n j) ++ L.own n j := mem_canon.1 hd
    rcases List.mem_append.1 hd' with h1 | h1
    ·obtain ⟨y, k, hy, hyo, h0, hk, rfl⟩ := needs_src g hn h1
     have ey := (stage_eq g hyo h0 hk).1 ho
     rw [<- ey]
     exact List.mem_map.2 ⟨k, mem_upto.2 ⟨h0, om⟩, rfl⟩
    ·obtain ⟨h5, k, h0, hk, rfl⟩ := own_at g hn ⟨om, hj⟩ h1
     have hcn : L.cnt n = L.nx n * L.ny n := by unfold Lay.cnt; rw [if_neg om]
     have ey := (stage_eq g hn h0 om).1 ho
     rw [<- ey] at hsf hcb
     omega
   ·intro hd
    obtain ⟨k, hk, rfl⟩ := List.mem_map.1 hd
    rw [mem_upto] at hk
    refine ⟨mem_canon.2 (List.mem_append.2 (.inl ?_)), (stage_eq g hao hk.1 om).2 rfl⟩
    unfold Lay.needs
    refine List.mem_flatMap.2 ⟨_, a_src _, ?_⟩
    unfold Lay.srcDeps
    rw [if_neg om, if_pos hb]
    exact List.mem_map.2 ⟨k, mem_upto.2 hk, rfl⟩
 rw [List.countP_eq_length_filter, e, List.length_map, upto_len]
 omega
end
theorem l20_depends (W w : World) (H : Chunk) (F : List Chunk) (t : Option Addr) (nt kt : Nat) (xt : List Int) (ht : RdT Go.E.encI 1 [H] t nt kt xt) (hS : Sat W w (H :: F)) :
  Calls prog 7 #[.slice t nt kt] w fun e w' => e = .returned (.bool true) /\ Sat W w' (H :: F) := by
 have hlt := ht.le
 refine callsA 189 func7 rfl <| sR <| pu1 <| zS <| pu1 <| cX call11 (tape_new t nt kt hS) ?_
 rintro _ _ ⟨c1, rfl, d2⟩
 have u5 := ht.le
 refine pu1 <| zS <| pu1 <| cX call12 (tg_job (RdT.flat (ht.up 0 (by rfl))) om d2.flat1 4 om) ?_
 rintro _ _ ⟨d0, d1, rfl, r0, e2, f2, g2, _, _, i2⟩
 have j2 := i2.unflat2
 obtain ⟨hgd, l0, hrn⟩ := f2
 have hns := (r0).stages.len; have hni := (r0).inputs.len; have hno := (r0).outputs.len; have hjO := g2; have hjB := e2
 have hb : d0.inputs.n <= 1000000 /\ d0.stages.n <= 1000000 /\ d0.outputs.n <= 1000000 := by have h1 := hgd.ni; have h2 := hgd.ns; rw [List.length_map] at h1 h2; omega
 have hns4 := hjB.2.1.1
 refine pu1 <| cX call13 (tape_next (RdT.flat (ht.up 1 (by rfl))) om j2.flat1 4 om) ?_
 rintro _ _ ⟨u0, rfl, _, _, _, k2⟩
 have l2 := k2.unflat1
 refine sAdd 1 u0 <| pu1 <| cX call13 (tape_next (RdT.flat (ht.up 1 (by rfl))) om l2.flat1 4 om) ?_
 rintro _ _ ⟨v0, rfl, _, e1, _, m2⟩
 have n2 := m2.unflat1
 refine sAdd 1 v0 <| sAlloc n2 zeroValue28 fun s0 _ o2 => ?_
 refine sT o2 0 0 (.agg (encJob d0).toArray) (encJob d0) (encJob d0).toArray sizeOf28 fun _ o1 => pu2 <| zS <| lA o1 0 0 4 (isAgg28 _) (sizeOf28 _) <| pu2 <| cX call16 (p20_low (F := []) d0 (1 + u0) (1 + v0) ⟨(RdT.flat (r0.inputs.up 2 (by rfl))), (fun z hz => (r0.inputsD z hz).of_mem (mem_flat1 2 (by rfl))), (RdT.flat (r0.stages.up 2 (by rfl))), (fun z hz => (r0.stagesD z hz).of_mem (mem_flat1 2 (by rfl))), (RdT.flat (r0.outputs.up 2 (by rfl)))⟩ om o1.flat) ?_
 rintro _ _ ⟨w0, m0, x0, q2, f1, g1, rfl, k0, t0, r2, s2⟩
 have t2 := s2.unflat2; have hn_az_38 := k0.len; have hl_az_38 := k0.le
 have hmd : MadeL d0.v (1 + u0) (1 + v0) := made_low hgd hrn (fun z hz => by obtain ⟨y, hy, rfl⟩ := List.mem_map.1 hz; exact (hjB.1.2 y hy).1.1) (fun z hz => by obtain ⟨y, hy, rfl⟩ := List.mem_map.1 hz; have h := hjB.2.1.2 y hy; unfold stageB at h; simp only [Stage.v, List.length_map]; omega) (by show 1 <= (d0.stages.l.map Stage.v).length /\ (d0.stages.l.map Stage.v).length <= 4; rw [List.length_map]; omega) hjO.2.1 hjO.2.2 (show tileP _ _ by unfold tileP; omega)
 obtain ⟨L, hLe⟩ : ∃ z : Lay, z = (layV d0.v (1 + u0) (1 + v0)) := ⟨_, rfl⟩
 have hzv : q2.map Task.v = L.all := by rw [hLe, r2]; exact hmd.v
 have hg : LayG L := by rw [hLe]; exact hmd.g
 have hLn : (L.ni = (d0.inputs.n : Int)) /\ (L.ss.length : Int) = d0.stages.n /\ L.ss = d0.stages.l.map Stage.v := by rw [hLe]; unfold layV Job.v; dsimp only; refine ⟨?_, ?_, rfl⟩ <;> (rw [List.length_map]; omega)
 have hnz : (m0 : Int) = L.total /\ 1 <= L.total /\ L.total <= 516 := by
  have h1 := congrArg List.length hzv; rw [List.length_map] at h1
  have h2 := tasks_sum hg L.od (fun _ h => h)
  have h3 := hmd.t; rw [<- hLe] at h3
  have h4 := hg.ln; have h5 := hg.ni
  have h6 : 1 <= L.total := by
   obtain ⟨x, hx⟩ : ∃ x, x ∈ L.od := ⟨L.od[0]'om, List.getElem_mem _⟩
   have h7 := hg.firstb hx; have h8 := hg.cntb hx; omega
  have h9 : (L.all.length : Int) = L.total := h2
  omega
 refine pu5 <| zQ <| pu3 ?_
 have u2 : ((lowC d0.v (1 + u0) (1 + v0)) : Int) = 0 := hmd.z
 refine sFix 36 _ false (bne_eq_false_iff_eq.2 u2) <| pu4 <| nT <| cE (m0 : Int) 0 (fun v2 => ?_) (fun v2 => ?_)
 ·refine sR <| pu1 <| zR <| retT [.bool false] ?_
  first | omega
 refine kT <| seqE <| sR <| pu1 <| nT <| blockE <| loopA (γ := Nat) (fun i => [(4, Pt s0 0), (7, .slice w0 m0 x0), (9, I (i : Int))]) (fun i w => Sat W w (f1 :: g1 :: [(s0, .cells (encJob d0).toArray 28 (0, 0))] :: [(c1, .cells #[.slice t nt kt, I e1] 85 (0, 0))] :: d1 :: H :: F) /\ i <= m0) (fun i => m0 - i) 0 ⟨t2, om⟩ ?_
 rintro i ρ _ ⟨f0, hi⟩
 refine seqE <| sR <| pu4 <| nT <| cD ((i : Int) < (m0 : Int)) (fun w2 => ?_) (fun w2 => ?_)
 rotate_left
 ·refine exitE <| xB <| tN <| sR <| cR call17 (l20_sane  f0.flat) fun _ x2 => pu1 <| zE <| retT [.bool true] ?_
  have y2 := (x2.pick 5 rfl)
  have z2 := y2.dropAt 1 rfl
  have a3 := z2.dropAt 1 rfl
  have b3 := a3.dropAt 1 rfl
  have c3 := b3.dropAt 1 rfl
  exact ⟨rfl, (c3.dropAt 1 rfl)⟩
 refine kT <| seqE <| blockE <| seqE ?_
 obtain ⟨b0, q1, r1, n0, i1, s1, l6⟩ := OwnT.elem k0 (i : Int)
 rw [Int.toNat_natCast] at n0 i1 s1
 have hz_x_52 : L.all[i]? = some b0.v := by rw [<- hzv]; exact map_at (f := Task.v) n0
 have hzo := (all_st hg hz_x_52).1; have hzr := hg.rng _ hzo; simp only [Task.v] at hzr; have hza := dep_asc hg hz_x_52; have hdn := (t0 b0 (List.mem_of_getElem? n0)).deps.len; have hdle := (t0 b0 (List.mem_of_getElem? n0)).deps.le
 obtain ⟨a0, h0, i0, e3, e0, f3⟩ := RdT.elem r0.stages (b0.stage - (d0.inputs.n : Int))
 have hst : L.st b0.v.stage = a0.v := by unfold Lay.st stgAt; rw [hLn.1, hLn.2.2, show (d0.stages.l.map Stage.v)[(b0.v.stage - (d0.inputs.n : Int)).toNat]? = some a0.v from map_at (f := Stage.v) e3]; rfl
 refine drawE [13, 14] [(1, ⟨s0, 1, none⟩, .slice d0.stages.a d0.stages.n d0.stages.k), (6, ⟨q1, r1 + i * 9 + 0, none⟩, I b0.stage), (8, ⟨s0, 0, none⟩, .slice d0.inputs.a d0.inputs.n d0.inputs.k), (12, ⟨h0, i0 + 0, none⟩, I a0.kind), (12, ⟨h0, i0 + 1, none⟩, I a0.a), (12, ⟨h0, i0 + 2, none⟩, I a0.b), (12, ⟨h0, i0 + 3, none⟩, .bool a0.barrier), (12, ⟨h0, i0 + 4, none⟩, I a0.edgePolicy), (12, ⟨h0, i0 + 5, none⟩, I a0.edgeFill), (12, ⟨h0, i0 + 6, none⟩, I a0.kW), (12, ⟨h0, i0 + 7, none⟩, I a0.kH), (12, ⟨h0, i0 + 8, none⟩, .slice a0.weights.a a0.weights.n a0.weights.k), (12, ⟨h0, i0 + 9, none⟩, .slice a0.row.a a0.row.n a0.row.k), (12, ⟨h0, i0 + 10, none⟩, .slice a0.col.a a0.col.n a0.col.k), (12, ⟨h0, i0 + 11, none⟩, I a0.shift), (12, ⟨h0, i0 + 12, none⟩, I a0.shift2), (12, ⟨h0, i0 + 13, none⟩, .slice a0.x.a a0.x.n a0.x.k), (12, ⟨h0, i0 + 14, none⟩, .slice a0.y.a a0.y.n a0.y.k), (12, ⟨h0, i0 + 15, none⟩, I a0.bins), (12, ⟨h0, i0 + 16, none⟩, .slice a0.ops.a a0.ops.n a0.ops.k), (12, ⟨h0, i0 + 17, none⟩, I a0.max_)] [(true, [0, 2, 3]), (true, [4]), (true, [5, 7]), (true, [1]), (true, [6]), (true, [8]), (true, [9]), (true, [10]), (true, [11]), (true, [12]), (false, [13]), (false, [14])] rfl kr ⟨cI f0 2, .inr ((i1.up 0 rfl).cell f0 (k := 0) rfl), cI f0 2, .inr ((e0.up 4 rfl).cell f0 (k := 0) rfl), .inr ((e0.up 4 rfl).cell f0 (k := 1) rfl), .inr ((e0.up 4 rfl).cell f0 (k := 2) rfl), .inr ((e0.up 4 rfl).cell f0 (k := 3) rfl), .inr ((e0.up 4 rfl).cell f0 (k := 4) rfl), .inr ((e0.up 4 rfl).cell f0 (k := 5) rfl), .inr ((e0.up 4 rfl).cell f0 (k := 6) rfl), .inr ((e0.up 4 rfl).cell f0 (k := 7) rfl), .inr ((e0.up 4 rfl).cell f0 (k := 8) rfl), .inr ((e0.up 4 rfl).cell f0 (k := 9) rfl), .inr ((e0.up 4 rfl).cell f0 (k := 10) rfl), .inr ((e0.up 4 rfl).cell f0 (k := 11) rfl), .inr ((e0.up 4 rfl).cell f0 (k := 12) rfl), .inr ((e0.up 4 rfl).cell f0 (k := 13) rfl), .inr ((e0.up 4 rfl).cell f0 (k := 14) rfl), .inr ((e0.up 4 rfl).cell f0 (k := 15) rfl), .inr ((e0.up 4 rfl).cell f0 (k := 16) rfl), .inr ((e0.up 4 rfl).cell f0 (k := 17) rfl), trivial⟩ ?_
 have g3 := f0.drew
 refine wU [0, 2, 3] <| wY (.pointer (some ⟨q1, r1 + i * 9, none⟩)) rfl (fun w _ => Y_idx (a := w0) (i := (i : Int)) (len := m0) (cap := x0) rfl runUnderlying39 sizeOf46 kr kr s1) <| wU [5, 7] <| wLd (.slice d0.stages.a d0.stages.n d0.stages.k) 0 isAgg26 <| wLd (I b0.stage) 1 isAgg3 <| wLd (.slice d0.inputs.a d0.inputs.n d0.inputs.k) 2 isAgg25 <| wU [9] <| wSub b0.stage (d0.inputs.n : Int) <| wY (.pointer (some ⟨h0, i0, none⟩)) rfl (fun w _ => Y_idx (a := d0.stages.a) (i := (b0.stage - (d0.inputs.n : Int))) (len := d0.stages.n) (cap := d0.stages.k) rfl runUnderlying26 sizeOf38 kr kr f3) ?_
 refine wY (.agg (encStage a0).toArray) rfl (fun w hF => Y_loadF rfl (isAgg38 w) (sizeOf38 w) kr rfl ⟨hF 3 _ _ rfl, hF 4 _ _ rfl, hF 5 _ _ rfl, hF 6 _ _ rfl, hF 7 _ _ rfl, hF 8 _ _ rfl, hF 9 _ _ rfl, hF 10 _ _ rfl, hF 11 _ _ rfl, hF 12 _ _ rfl, hF 13 _ _ rfl, hF 14 _ _ rfl, hF 15 _ _ rfl, hF 16 _ _ rfl, hF 17 _ _ rfl, hF 18 _ _ rfl, hF 19 _ _ rfl, hF 20 _ _ rfl, trivial⟩) <| wO rfl <| sAlloc g3 zeroValue38 fun y0 _ g0 => ?_
 refine nilO ⟨⟨cI g0 3, .inr ((i1.up 1 rfl).cell g0 (k := 0) rfl), cI g0 3, .inr ((e0.up 5 rfl).cell g0 (k := 0) rfl), .inr ((e0.up 5 rfl).cell g0 (k := 1) rfl), .inr ((e0.up 5 rfl).cell g0 (k := 2) rfl), .inr ((e0.up 5 rfl).cell g0 (k := 3) rfl), .inr ((e0.up 5 rfl).cell g0 (k := 4) rfl), .inr ((e0.up 5 rfl).cell g0 (k := 5) rfl), .inr ((e0.up 5 rfl).cell g0 (k := 6) rfl), .inr ((e0.up 5 rfl).cell g0 (k := 7) rfl), .inr ((e0.up 5 rfl).cell g0 (k := 8) rfl), .inr ((e0.up 5 rfl).cell g0 (k := 9) rfl), .inr ((e0.up 5 rfl).cell g0 (k := 10) rfl), .inr ((e0.up 5 rfl).cell g0 (k := 11) rfl), .inr ((e0.up 5 rfl).cell g0 (k := 12) rfl), .inr ((e0.up 5 rfl).cell g0 (k := 13) rfl), .inr ((e0.up 5 rfl).cell g0 (k := 14) rfl), .inr ((e0.up 5 rfl).cell g0 (k := 15) rfl), .inr ((e0.up 5 rfl).cell g0 (k := 16) rfl), .inr ((e0.up 5 rfl).cell g0 (k := 17) rfl), trivial⟩, ?_⟩
 refine wO rfl <| sT g0 0 0 (.agg (encStage a0).toArray) (encStage a0) (encStage a0).toArray sizeOf38 fun _ i3 => nilO ⟨dA, ?_⟩
 refine wN <| tN <| sR <| pu1 <| zQ <| pu1 <| nT <| blockE <| loopA (γ := Nat × Int) (fun ⟨n, cnt⟩ => [(4, Pt s0 0), (7, .slice w0 m0 x0), (9, I (i : Int)), (10, Pt y0 0), (12, I (n : Int)), (11, I cnt)]) (fun ⟨n, cnt⟩ w => Sat W w ([(y0, .cells (encStage a0).toArray 38 (0, 0))] :: f1 :: g1 :: [(s0, .cells (encJob d0).toArray 28 (0, 0))] :: [(c1, .cells #[.slice t nt kt, I e1] 85 (0, 0))] :: d1 :: H :: F) /\ n <= b0.deps.n /\ (cnt = (((b0.v.deps.take n).countP (ofSt L a0.a) : Nat) : Int))) (fun ⟨n, cnt⟩ => b0.deps.n - n) (0, 0) ⟨i3, om, (by simp)⟩ ?_
 rintro ⟨n, cnt⟩ ρ _ ⟨c0, hn, hcnt⟩
 have hcb := cnt_le (L := L) b0.v.deps n a0.a
 refine seqE <| sR <| pu3 <| sIdxO k0 (i : Int) i runUnderlying39 sizeOf46 fun j3 _ _ z0 k3 _ => ?_
 obtain rfl : b0 = j3 := Option.some.inj (n0.symm.trans z0)
 have hz_x_52 : L.all[i]? = some b0.v := by rw [<- hzv]; exact map_at (f := Task.v) z0
 have hzo := (all_st hg hz_x_52).1; have hzr := hg.rng _ hzo; simp only [Task.v] at hzr; have hza := dep_asc hg hz_x_52; have hdn := (t0 b0 (List.mem_of_getElem? z0)).deps.len; have hdle := (t0 b0 (List.mem_of_getElem? z0)).deps.le
 refine pu1 <| sLp c0 (k3.up 1 rfl) 6 (.slice b0.deps.a b0.deps.n b0.deps.k) (isAgg22 _) <| pu2 <| nT <| cD ((n : Int) < (b0.deps.n : Int)) (fun l3 => ?_) (fun l3 => ?_)
 rotate_left
 ·refine exitE <| xB <| tN <| sR <| pu1 <| sL c0 0 3 (.bool a0.barrier) (isAgg4 _) <| pu1 <| sB 154 a0.barrier (fun m3 => ?_) (fun m3 => ?_)
  rotate_left
  ·exact pu15 <| nT <| cFf <| skipE <| bN <| tN <| rE <| pu1 <| sAdd (i : Int) 1 <| pu1 <| nT <| ⟨i + 1, od, alA, (c0.dropAt 0 rfl), om⟩
  refine pu2 <| gY <| sIdxO k0 (i : Int) i runUnderlying39 sizeOf46 fun o3 _ _ p3 q3 _ => ?_
  obtain rfl : b0 = o3 := Option.some.inj (n0.symm.trans p3)
  refine pu1 <| gY <| sLp c0 (q3.up 1 rfl) 1 (I b0.part) (isAgg3 _) <| pu3 <| sN 162 b0.part 2 (fun r3 => ?_) (fun r3 => ?_)
  ·exact pu7 <| nT <| cFf <| skipE <| bN <| tN <| rE <| pu1 <| sAdd (i : Int) 1 <| pu1 <| nT <| ⟨i + 1, od, alA, (c0.dropAt 0 rfl), om⟩
  refine pu1 <| gY <| sL c0 0 1 (I a0.a) (isAgg3 _) <| pu1 <| gY <| sL c0 3 0 (.slice d0.inputs.a d0.inputs.n d0.inputs.k) (isAgg25 _) <| pu3 <| nT <| cD (a0.a >= (d0.inputs.n : Int)) (fun t3 => ?_) (fun t3 => ?_)
  rotate_left
  ·exact skipE <| bN <| tN <| rE <| pu1 <| sAdd (i : Int) 1 <| pu1 <| nT <| ⟨i + 1, od, alA, (c0.dropAt 0 rfl), om⟩
  refine seqE <| sR <| pu1 <| nT <| blockE <| loopA (γ := Nat × Int) (fun ⟨m, c2⟩ => [(4, Pt s0 0), (7, .slice w0 m0 x0), (9, I (i : Int)), (10, Pt y0 0), (16, I (m : Int)), (11, I c2)]) (fun ⟨m, c2⟩ w => Sat W w ([(y0, .cells (encStage a0).toArray 38 (0, 0))] :: f1 :: g1 :: [(s0, .cells (encJob d0).toArray 28 (0, 0))] :: [(c1, .cells #[.slice t nt kt, I e1] 85 (0, 0))] :: d1 :: H :: F) /\ m <= m0 /\ (c2 = cnt - (((L.all.take m).countP (isSt a0.a) : Nat) : Int))) (fun ⟨m, c2⟩ => m0 - m) (0, cnt) ⟨c0, om, (by simp)⟩ ?_
  rintro ⟨m, c2⟩ ρ _ ⟨a1, hm, hc2⟩
  have hcm := cnt_le2 L.all m a0.a; have hcn0 := cnt_le (L := L) b0.v.deps n a0.a
  refine seqE <| sR <| pu4 <| nT <| cD ((m : Int) < (m0 : Int)) (fun v3 => ?_) (fun v3 => ?_)
  rotate_left
  ·refine exitE <| xB <| tN <| seqE ?_
   have hbc := bar_count hg hz_x_52 (by rw [hst]; show a0.barrier = true; first | assumption | simp_all) (by show ¬ b0.part = 2; first | assumption | omega) (by rw [hst]; show L.ni <= a0.a; omega)
   rw [hst] at hbc; have ht1 : b0.v.deps.take n = b0.v.deps := List.take_of_length_le (by show b0.deps.l.length <= n; omega); have ht2 : L.all.take m = L.all := List.take_of_length_le (by have h := congrArg List.length hzv; rw [List.length_map] at h; omega)
   rw [ht1] at hcnt; rw [ht2] at hc2; simp only [Stage.v] at hbc
   refine rE <| pu2 <| nT <| cN c2 0 (fun w3 => ?_) (fun w3 => ?_)
   rotate_left
   ·refine sR <| pu1 <| zB <| tR <| tK <| retT [.bool false] ?_
    first | omega
   exact skipE <| bN <| tN <| rE <| pu1 <| sAdd (i : Int) 1 <| pu1 <| nT <| ⟨i + 1, od, alA, (a1.dropAt 0 rfl), om⟩
  refine kT <| seqE <| blockE <| seqE ?_
  obtain ⟨b1, t1, u1, v1, w1, x1, w6⟩ := OwnT.elem k0 (m : Int)
  rw [Int.toNat_natCast] at v1 w1 x1
  have hz_x_177 : L.all[m]? = some b1.v := by rw [<- hzv]; exact map_at (f := Task.v) v1
  refine drawE [] [(4, ⟨t1, u1 + m * 9 + 0, none⟩, I b1.stage), (6, ⟨y0, 1, none⟩, I a0.a)] [(true, [0, 1]), (true, [2]), (true, [3, 5]), (true, [4]), (true, [6]), (true, [7])] rfl kr ⟨.inr ((w1.up 1 rfl).cell a1 (k := 0) rfl), cI a1 0, trivial⟩ ?_
  have y1 := a1.drew
  refine wU [0, 1] <| wY (.pointer (some ⟨t1, u1 + m * 9, none⟩)) rfl (fun w _ => Y_idx (a := w0) (i := (m : Int)) (len := m0) (cap := x0) rfl runUnderlying39 sizeOf46 kr kr x1) <| wU [3, 5] <| wLd (I b1.stage) 0 isAgg3 <| wLd (I a0.a) 1 isAgg3 <| wU [7] <| wN <| tN <| cE b1.stage a0.a (fun y3 => ?_) (fun y3 => ?_)
  rotate_left
  ·exact skipE <| bN <| tN <| rE <| pu1 <| sAdd (m : Int) 1 <| pu1 <| nT <| ⟨(m + 1, c2), od, alA, y1, om, (by have h := count_st a0.a hz_x_177; simp only [Task.v] at h; omega)⟩
  exact rE <| pu1 <| sSub c2 1 <| pu1 <| nB <| rE <| pu1 <| sAdd (m : Int) 1 <| pu1 <| nT <| ⟨(m + 1, (c2 - 1)), od, alA, y1, om, (by have h := count_st a0.a hz_x_177; simp only [Task.v] at h; omega)⟩
 refine kT <| seqE <| blockE <| sR <| pu2 <| sIdxO k0 (i : Int) i runUnderlying39 sizeOf46 fun z3 _ _ z1 a4 _ => ?_
 obtain rfl : b0 = z3 := Option.some.inj (n0.symm.trans z1)
 refine pu1 <| sLp c0 (a4.up 1 rfl) 6 (.slice b0.deps.a b0.deps.n b0.deps.k) (isAgg22 _) <| pu1 <| sIdx (t0 b0 (List.mem_of_getElem? z1)).deps (n : Int) runUnderlying22 sizeOf3 fun o0 _ _ j0 b4 => ?_
 rw [Int.toNat_natCast] at j0
 have hdm_x_86 : o0 ∈ b0.v.deps := List.mem_of_getElem? j0
 obtain ⟨hdb, yv, hy1, hy2⟩ := dep_ok hg hz_x_52 hdm_x_86; rw [hst] at hy2; simp only [Stage.v] at hy2
 refine sLp c0 (b4.up 2 rfl) 0 (I o0) (isAgg3 _) <| pu1 <| zQ <| pu3 <| sD 80 (o0 < 0) (fun c4 => ?_) (fun c4 => ?_)
 ·refine pu16 <| pu5 <| zC <| pu1 <| zE <| tR <| tK <| tR <| tR <| tK <| tR <| tK <| retT [.bool false] ?_
  first | omega
 refine pu5 <| sD 85 (o0 >= (i : Int)) (fun d4 => ?_) (fun d4 => ?_)
 ·refine pu16 <| zC <| pu1 <| zE <| tR <| tK <| tR <| tR <| tK <| tR <| tK <| retT [.bool false] ?_
  first | omega
 refine pu3 <| sD 88 ((n : Int) > 0) (fun e4 => ?_) (fun e4 => ?_)
 rotate_left
 ·refine pu13 <| nT <| cFf <| kS <| pu2 <| sIdxO k0 o0 (o0).toNat runUnderlying39 sizeOf46 fun p0 _ _ f4 g4 _ => ?_
  have hz_x_135 : L.all[(o0).toNat]? = some p0.v := by rw [<- hzv]; exact map_at (f := Task.v) f4
  have hyy : yv = p0.v := Option.some.inj (hy1.symm.trans hz_x_135)
  rw [hyy] at hy2; simp only [Task.v] at hy2
  refine pu1 <| sLp c0 (g4.up 1 rfl) 0 (I p0.stage) (isAgg3 _) <| pu1 <| zS <| pu3 <| sIdxO k0 (i : Int) i runUnderlying39 sizeOf46 fun i4 _ _ j4 k4 _ => ?_
  obtain rfl : b0 = i4 := Option.some.inj (n0.symm.trans j4)
  refine pu1 <| sLp c0 (k4.up 1 rfl) 0 (I b0.stage) (isAgg3 _) <| pu2 <| sE 114 p0.stage b0.stage (fun l4 => ?_) (fun l4 => ?_)
  rotate_left
  ·refine pu13 <| zQ <| pu5 <| gY <| sL c0 0 1 (I a0.a) (isAgg3 _) <| pu3 <| sN 135 p0.stage a0.a (fun j1 => ?_) (fun j1 => ?_)
   ·exact pu10 <| nT <| cFf <| kS <| pu2 <| sL c0 0 1 (I a0.a) (isAgg3 _) <| pu1 <| nT <| cT _ (beq_iff_eq.2 j1) <| rE <| pu1 <| sAdd cnt 1 <| pu1 <| nB <| rE <| pu1 <| sAdd (n : Int) 1 <| pu1 <| nT <| ⟨(n + 1, (cnt + 1)), od, alA, c0, om, (by have h := count_dep (l := b0.v.deps) a0.a j0 hz_x_135; simp only [Task.v] at h hcnt ⊢; omega)⟩
   refine pu1 <| gY <| sL c0 0 0 (I a0.kind) (isAgg3 _) <| pu2 <| sN 139 a0.kind 6 (fun m4 => ?_) (fun m4 => ?_)
   rotate_left
   ·refine pu6 <| zC <| pu1 <| zE <| tR <| tK <| tR <| tR <| tK <| tR <| tK <| retT [.bool false] ?_
    first | omega
   refine pu2 <| gY <| sL c0 0 2 (I a0.b) (isAgg3 _) <| pu3 <| nT <| cN p0.stage a0.b (fun n4 => ?_) (fun n4 => ?_)
   rotate_left
   ·refine sR <| pu1 <| zE <| tR <| tK <| tR <| tR <| tK <| tR <| tK <| retT [.bool false] ?_
    first | omega
   exact kS <| pu2 <| sL c0 0 1 (I a0.a) (isAgg3 _) <| pu1 <| nT <| cF _ (beq_eq_false_iff_ne.2 j1) <| skipE <| bN <| tN <| rE <| pu1 <| sAdd (n : Int) 1 <| pu1 <| nT <| ⟨(n + 1, cnt), od, alA, c0, om, (by have h := count_dep (l := b0.v.deps) a0.a j0 hz_x_135; simp only [Task.v] at h hcnt ⊢; omega)⟩
  refine pu1 <| gY <| sL c0 0 0 (I a0.kind) (isAgg3 _) <| pu2 <| sE 118 a0.kind 5 (fun o4 => ?_) (fun o4 => ?_)
  ·refine pu9 <| zQ <| pu16 <| pu3 <| nT <| cFf <| kS <| pu2 <| sL c0 0 1 (I a0.a) (isAgg3 _) <| pu1 <| nT <| cE p0.stage a0.a (fun p4 => ?_) (fun p4 => ?_)
   rotate_left
   ·exact skipE <| bN <| tN <| rE <| pu1 <| sAdd (n : Int) 1 <| pu1 <| nT <| ⟨(n + 1, cnt), od, alA, c0, om, (by have h := count_dep (l := b0.v.deps) a0.a j0 hz_x_135; simp only [Task.v] at h hcnt ⊢; omega)⟩
   exact rE <| pu1 <| sAdd cnt 1 <| pu1 <| nB <| rE <| pu1 <| sAdd (n : Int) 1 <| pu1 <| nT <| ⟨(n + 1, (cnt + 1)), od, alA, c0, om, (by have h := count_dep (l := b0.v.deps) a0.a j0 hz_x_135; simp only [Task.v] at h hcnt ⊢; omega)⟩
  refine pu2 <| gY <| sIdxO k0 (i : Int) i runUnderlying39 sizeOf46 fun q4 _ _ r4 s4 _ => ?_
  obtain rfl : b0 = q4 := Option.some.inj (n0.symm.trans r4)
  refine pu1 <| gY <| sLp c0 (s4.up 1 rfl) 1 (I b0.part) (isAgg3 _) <| pu4 <| zQ <| pu3 <| sEn 129 b0.part 2 (fun t4 => ?_) (fun t4 => ?_)
  ·refine pu16 <| nT <| cFf <| kS <| pu2 <| sL c0 0 1 (I a0.a) (isAgg3 _) <| pu1 <| nT <| cE p0.stage a0.a (fun u4 => ?_) (fun u4 => ?_)
   rotate_left
   ·exact skipE <| bN <| tN <| rE <| pu1 <| sAdd (n : Int) 1 <| pu1 <| nT <| ⟨(n + 1, cnt), od, alA, c0, om, (by have h := count_dep (l := b0.v.deps) a0.a j0 hz_x_135; simp only [Task.v] at h hcnt ⊢; omega)⟩
   exact rE <| pu1 <| sAdd cnt 1 <| pu1 <| nB <| rE <| pu1 <| sAdd (n : Int) 1 <| pu1 <| nT <| ⟨(n + 1, (cnt + 1)), od, alA, c0, om, (by have h := count_dep (l := b0.v.deps) a0.a j0 hz_x_135; simp only [Task.v] at h hcnt ⊢; omega)⟩
  refine pu2 <| gY <| sL c0 0 1 (I a0.a) (isAgg3 _) <| pu3 <| sN 135 p0.stage a0.a (fun k1 => ?_) (fun k1 => ?_)
  ·exact pu10 <| nT <| cFf <| kS <| pu2 <| sL c0 0 1 (I a0.a) (isAgg3 _) <| pu1 <| nT <| cT _ (beq_iff_eq.2 k1) <| rE <| pu1 <| sAdd cnt 1 <| pu1 <| nB <| rE <| pu1 <| sAdd (n : Int) 1 <| pu1 <| nT <| ⟨(n + 1, (cnt + 1)), od, alA, c0, om, (by have h := count_dep (l := b0.v.deps) a0.a j0 hz_x_135; simp only [Task.v] at h hcnt ⊢; omega)⟩
  refine pu1 <| gY <| sL c0 0 0 (I a0.kind) (isAgg3 _) <| pu2 <| sN 139 a0.kind 6 (fun v4 => ?_) (fun v4 => ?_)
  rotate_left
  ·refine pu6 <| zC <| pu1 <| zE <| tR <| tK <| tR <| tR <| tK <| tR <| tK <| retT [.bool false] ?_
   first | omega
  refine pu2 <| gY <| sL c0 0 2 (I a0.b) (isAgg3 _) <| pu3 <| nT <| cN p0.stage a0.b (fun w4 => ?_) (fun w4 => ?_)
  rotate_left
  ·refine sR <| pu1 <| zE <| tR <| tK <| tR <| tR <| tK <| tR <| tK <| retT [.bool false] ?_
   first | omega
  exact kS <| pu2 <| sL c0 0 1 (I a0.a) (isAgg3 _) <| pu1 <| nT <| cF _ (beq_eq_false_iff_ne.2 k1) <| skipE <| bN <| tN <| rE <| pu1 <| sAdd (n : Int) 1 <| pu1 <| nT <| ⟨(n + 1, cnt), od, alA, c0, om, (by have h := count_dep (l := b0.v.deps) a0.a j0 hz_x_135; simp only [Task.v] at h hcnt ⊢; omega)⟩
 refine pu3 <| gY <| sIdxO k0 (i : Int) i runUnderlying39 sizeOf46 fun x4 _ _ a2 y4 _ => ?_
 obtain rfl : b0 = x4 := Option.some.inj (n0.symm.trans a2)
 refine pu1 <| gY <| sLp c0 (y4.up 1 rfl) 6 (.slice b0.deps.a b0.deps.n b0.deps.k) (isAgg22 _) <| pu1 <| gY <| sSub (n : Int) 1 <| gY <| sIdx (t0 b0 (List.mem_of_getElem? a2)).deps ((n : Int) - 1) runUnderlying22 sizeOf3 fun l1 _ _ b2 z4 => ?_
 have hdm_x_100 : l1 ∈ b0.v.deps := List.mem_of_getElem? b2
 have hlt := asc_lt hza (show (((n : Int) - 1)).toNat < n by omega) b2 j0
 refine gY <| sLp c0 (z4.up 2 rfl) 0 (I l1) (isAgg3 _) <| pu3 <| nT <| cD (o0 <= l1) (fun a5 => ?_) (fun a5 => ?_)
 ·refine sR <| pu1 <| zE <| tR <| tK <| tR <| tR <| tK <| tR <| tK <| retT [.bool false] ?_
  first | omega
 refine kS <| pu2 <| sIdxO k0 o0 (o0).toNat runUnderlying39 sizeOf46 fun q0 _ _ b5 c5 _ => ?_
 have hz_x_106 : L.all[(o0).toNat]? = some q0.v := by rw [<- hzv]; exact map_at (f := Task.v) b5
 have hyy : yv = q0.v := Option.some.inj (hy1.symm.trans hz_x_106)
 rw [hyy] at hy2; simp only [Task.v] at hy2
 refine pu1 <| sLp c0 (c5.up 1 rfl) 0 (I q0.stage) (isAgg3 _) <| pu1 <| zS <| pu3 <| sIdxO k0 (i : Int) i runUnderlying39 sizeOf46 fun d5 _ _ e5 f5 _ => ?_
 obtain rfl : b0 = d5 := Option.some.inj (n0.symm.trans e5)
 refine pu1 <| sLp c0 (f5.up 1 rfl) 0 (I b0.stage) (isAgg3 _) <| pu2 <| sE 114 q0.stage b0.stage (fun g5 => ?_) (fun g5 => ?_)
 rotate_left
 ·refine pu13 <| zQ <| pu5 <| gY <| sL c0 0 1 (I a0.a) (isAgg3 _) <| pu3 <| sN 135 q0.stage a0.a (fun m1 => ?_) (fun m1 => ?_)
  ·exact pu10 <| nT <| cFf <| kS <| pu2 <| sL c0 0 1 (I a0.a) (isAgg3 _) <| pu1 <| nT <| cT _ (beq_iff_eq.2 m1) <| rE <| pu1 <| sAdd cnt 1 <| pu1 <| nB <| rE <| pu1 <| sAdd (n : Int) 1 <| pu1 <| nT <| ⟨(n + 1, (cnt + 1)), od, alA, c0, om, (by have h := count_dep (l := b0.v.deps) a0.a j0 hz_x_106; simp only [Task.v] at h hcnt ⊢; omega)⟩
  refine pu1 <| gY <| sL c0 0 0 (I a0.kind) (isAgg3 _) <| pu2 <| sN 139 a0.kind 6 (fun i5 => ?_) (fun i5 => ?_)
  rotate_left
  ·refine pu6 <| zC <| pu1 <| zE <| tR <| tK <| tR <| tR <| tK <| tR <| tK <| retT [.bool false] ?_
   first | omega
  refine pu2 <| gY <| sL c0 0 2 (I a0.b) (isAgg3 _) <| pu3 <| nT <| cN q0.stage a0.b (fun j5 => ?_) (fun j5 => ?_)
  rotate_left
  ·refine sR <| pu1 <| zE <| tR <| tK <| tR <| tR <| tK <| tR <| tK <| retT [.bool false] ?_
   first | omega
  exact kS <| pu2 <| sL c0 0 1 (I a0.a) (isAgg3 _) <| pu1 <| nT <| cF _ (beq_eq_false_iff_ne.2 m1) <| skipE <| bN <| tN <| rE <| pu1 <| sAdd (n : Int) 1 <| pu1 <| nT <| ⟨(n + 1, cnt), od, alA, c0, om, (by have h := count_dep (l := b0.v.deps) a0.a j0 hz_x_106; simp only [Task.v] at h hcnt ⊢; omega)⟩
 refine pu1 <| gY <| sL c0 0 0 (I a0.kind) (isAgg3 _) <| pu2 <| sE 118 a0.kind 5 (fun k5 => ?_) (fun k5 => ?_)
 ·refine pu9 <| zQ <| pu16 <| pu3 <| nT <| cFf <| kS <| pu2 <| sL c0 0 1 (I a0.a) (isAgg3 _) <| pu1 <| nT <| cE q0.stage a0.a (fun l5 => ?_) (fun l5 => ?_)
  rotate_left
  ·exact skipE <| bN <| tN <| rE <| pu1 <| sAdd (n : Int) 1 <| pu1 <| nT <| ⟨(n + 1, cnt), od, alA, c0, om, (by have h := count_dep (l := b0.v.deps) a0.a j0 hz_x_106; simp only [Task.v] at h hcnt ⊢; omega)⟩
  exact rE <| pu1 <| sAdd cnt 1 <| pu1 <| nB <| rE <| pu1 <| sAdd (n : Int) 1 <| pu1 <| nT <| ⟨(n + 1, (cnt + 1)), od, alA, c0, om, (by have h := count_dep (l := b0.v.deps) a0.a j0 hz_x_106; simp only [Task.v] at h hcnt ⊢; omega)⟩
 refine pu2 <| gY <| sIdxO k0 (i : Int) i runUnderlying39 sizeOf46 fun m5 _ _ n5 o5 _ => ?_
 obtain rfl : b0 = m5 := Option.some.inj (n0.symm.trans n5)
 refine pu1 <| gY <| sLp c0 (o5.up 1 rfl) 1 (I b0.part) (isAgg3 _) <| pu4 <| zQ <| pu3 <| sEn 129 b0.part 2 (fun p5 => ?_) (fun p5 => ?_)
 ·refine pu16 <| nT <| cFf <| kS <| pu2 <| sL c0 0 1 (I a0.a) (isAgg3 _) <| pu1 <| nT <| cE q0.stage a0.a (fun q5 => ?_) (fun q5 => ?_)
  rotate_left
  ·exact skipE <| bN <| tN <| rE <| pu1 <| sAdd (n : Int) 1 <| pu1 <| nT <| ⟨(n + 1, cnt), od, alA, c0, om, (by have h := count_dep (l := b0.v.deps) a0.a j0 hz_x_106; simp only [Task.v] at h hcnt ⊢; omega)⟩
  exact rE <| pu1 <| sAdd cnt 1 <| pu1 <| nB <| rE <| pu1 <| sAdd (n : Int) 1 <| pu1 <| nT <| ⟨(n + 1, (cnt + 1)), od, alA, c0, om, (by have h := count_dep (l := b0.v.deps) a0.a j0 hz_x_106; simp only [Task.v] at h hcnt ⊢; omega)⟩
 refine pu2 <| gY <| sL c0 0 1 (I a0.a) (isAgg3 _) <| pu3 <| sN 135 q0.stage a0.a (fun n1 => ?_) (fun n1 => ?_)
 ·exact pu10 <| nT <| cFf <| kS <| pu2 <| sL c0 0 1 (I a0.a) (isAgg3 _) <| pu1 <| nT <| cT _ (beq_iff_eq.2 n1) <| rE <| pu1 <| sAdd cnt 1 <| pu1 <| nB <| rE <| pu1 <| sAdd (n : Int) 1 <| pu1 <| nT <| ⟨(n + 1, (cnt + 1)), od, alA, c0, om, (by have h := count_dep (l := b0.v.deps) a0.a j0 hz_x_106; simp only [Task.v] at h hcnt ⊢; omega)⟩
 refine pu1 <| gY <| sL c0 0 0 (I a0.kind) (isAgg3 _) <| pu2 <| sN 139 a0.kind 6 (fun r5 => ?_) (fun r5 => ?_)
 rotate_left
 ·refine pu6 <| zC <| pu1 <| zE <| tR <| tK <| tR <| tR <| tK <| tR <| tK <| retT [.bool false] ?_
  first | omega
 refine pu2 <| gY <| sL c0 0 2 (I a0.b) (isAgg3 _) <| pu3 <| nT <| cN q0.stage a0.b (fun s5 => ?_) (fun s5 => ?_)
 rotate_left
 ·refine sR <| pu1 <| zE <| tR <| tK <| tR <| tR <| tK <| tR <| tK <| retT [.bool false] ?_
  first | omega
 exact kS <| pu2 <| sL c0 0 1 (I a0.a) (isAgg3 _) <| pu1 <| nT <| cF _ (beq_eq_false_iff_ne.2 n1) <| skipE <| bN <| tN <| rE <| pu1 <| sAdd (n : Int) 1 <| pu1 <| nT <| ⟨(n + 1, cnt), od, alA, c0, om, (by have h := count_dep (l := b0.v.deps) a0.a j0 hz_x_106; simp only [Task.v] at h hcnt ⊢; omega)⟩
end Go.Proofs.YtdingplbadblpaaGreat
