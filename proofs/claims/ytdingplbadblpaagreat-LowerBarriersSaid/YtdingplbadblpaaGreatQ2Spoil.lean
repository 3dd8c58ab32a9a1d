import Derived.Test.YtdingplbadblpaaGreatQ2TJob
import Derived.Test.YtdingplbadblpaaGreatQ2Lf
namespace Go.Proofs.YtdingplbadblpaaGreat
open Go Go.E Go.Proofs.Tryz
set_option linter.all false
set_option maxRecDepth 100000
set_option maxHeartbeats 2000000
variable {W w : World} {H : Chunk} {F : List Chunk}
theorem tg_copyJob (W w : World) (H : Chunk) (F : List Chunk) (j0 : Job) (hj0 : Job.Ok [H] j0) (hb : j0.inputs.n <= 1000 /\ j0.stages.n <= 1000 /\ j0.outputs.n <= 1000) (hS : Sat W w (H :: F)) :
  Calls prog 14 #[.agg (encJob j0).toArray] w fun e w' => ∃ (a1 a2 a3 : Option Addr) (n1 k1 n2 k2 n3 k3 : Nat) (c1 c2 c3 : Chunk), e = .returned (.agg #[.slice a1 n1 k1, .slice a2 n2 k2, .slice a3 n3 k3, I j0.priority]) /\ OwnT encPlane 87 4 a1 n1 k1 j0.inputs.l c1 /\ OwnT encStage 38 18 a2 n2 k2 j0.stages.l c2 /\ OwnT Go.E.encI 3 1 a3 n3 k3 j0.outputs.l c3 /\ Sat W w' (c1 :: c2 :: c3 :: H :: F) := by
 have hl_j0_inputs := hj0.inputs.le; have hn_j0_inputs := hj0.inputs.len
 have hl_j0_stages := hj0.stages.le; have hn_j0_stages := hj0.stages.len
 have hl_j0_outputs := hj0.outputs.le; have hn_j0_outputs := hj0.outputs.len
 refine callsA 19 func14 rfl <| sR <| sBox hS (.agg (encJob j0).toArray) (encJob j0).toArray fun _ _ m0 => sAlloc m0 zeroValue28 fun _ _ n0 => zS <| sBS n0 #[] runUnderlying25 sizeOf87 zeroValue87 fun o0 _ g0 => pu1 <| sL g0 2 0 (.slice j0.inputs.a j0.inputs.n j0.inputs.k) (isAgg25 _) <| sApp (nb := 48) g0 (OwnT.blk (enc := encPlane) (sz := 4) (b := o0) (c := #[]) (E := 87) (xs := []) fR 0 rfl rfl rfl om) 0 (hj0.inputs.up 3 rfl) underlying25 (i := Tryz.t87) kr fR fun a0 b0 _ _ q0 r0 => pu1 ?_
 refine tW r0 2 0 (.slice a0 (0 + j0.inputs.n) b0) sizeOf25 fun _ s0 => zS <| sBS s0 #[] runUnderlying26 sizeOf38 zeroValue38 fun t0 _ h0 => pu1 <| sL h0 3 1 (.slice j0.stages.a j0.stages.n j0.stages.k) (isAgg26 _) <| sApp (nb := 240) h0 (OwnT.blk (enc := encStage) (sz := 18) (b := t0) (c := #[]) (E := 38) (xs := []) fR 0 rfl rfl rfl om) 0 (hj0.stages.up 4 rfl) underlying26 (i := Tryz.t38) kr fR fun c0 d0 _ _ v0 w0 => pu1 <| tW w0 3 1 (.slice c0 (0 + j0.stages.n) d0) sizeOf26 fun _ x0 => zS <| sBS x0 #[] runUnderlying22 sizeOf3 zeroValue3 fun y0 _ i0 => pu1 <| sL i0 4 2 (.slice j0.outputs.a j0.outputs.n j0.outputs.k) (isAgg22 _) ?_
 refine sApp (nb := 8) i0 (OwnT.blk (enc := Go.E.encI) (sz := 1) (b := y0) (c := #[]) (E := 3) (xs := []) fR 0 rfl rfl rfl om) 0 (hj0.outputs.up 5 rfl) underlying22 (i := Tryz.t3) kr fR fun e0 f0 _ _ b1 d1 => pu1 <| tW d1 4 2 (.slice e0 (0 + j0.outputs.n) f0) sizeOf22 fun _ k0 => zS <| lA k0 4 0 4 (isAgg28 _) (sizeOf28 _) ?_
 refine sT k0 3 0 (.agg #[.slice a0 (0 + j0.inputs.n) b0, .slice c0 (0 + j0.stages.n) d0, .slice e0 (0 + j0.outputs.n) f0, I j0.priority]) [.slice a0 (0 + j0.inputs.n) b0, .slice c0 (0 + j0.stages.n) d0, .slice e0 (0 + j0.outputs.n) f0, I j0.priority] #[.slice a0 (0 + j0.inputs.n) b0, .slice c0 (0 + j0.stages.n) d0, .slice e0 (0 + j0.outputs.n) f0, I j0.priority] sizeOf28 fun _ l0 => ?_
 exact zE <| retN (vs := [.agg #[.slice a0 (0 + j0.inputs.n) b0, .slice c0 (0 + j0.stages.n) d0, .slice e0 (0 + j0.outputs.n) f0, I j0.priority]]) rfl (.cons (.cell _ _ _ _ kr (lvA l0 3 0 [.slice a0 (0 + j0.inputs.n) b0, .slice c0 (0 + j0.stages.n) d0, .slice e0 (0 + j0.outputs.n) f0, I j0.priority] (isAgg28 _) (sizeOf28 _) rfl rfl rfl)) .nil) <| ⟨_, _, _, _, _, _, _, _, _, _, _, _, rfl, (by have h := q0; rw [List.nil_append] at h; exact h), (by have h := v0; rw [List.nil_append] at h; exact h), (by have h := b1; rw [List.nil_append] at h; exact h), ((l0.picks [1, 2]).drops [3, 3])⟩
def barS (b : Bool) (s : StageV) : StageV := { s with barrier := b }
theorem srcs_bar (b : Bool) (s : StageV) : srcs (barS b s) = srcs s := rfl
theorem byt_bar (b : Bool) (s : StageV) (h : Int) (r : Rct) : bytV (barS b s) h r = bytV s h r := rfl
theorem run_bar {b : Bool} {s : StageV} : ∀ (S : List StageV) (n : Nat) (out : List Shape), S[n]? = some s -> runS out (S.set n (barS b s)) = runS out S
  | [], n, out, h => by simp at h
  | t :: S, 0, out, h => by
    obtain rfl : t = s := by simpa using h
    rfl
  | t :: S, n + 1, out, h => by
    rw [List.set_cons_succ, runS, runS, run_bar S n _ (by simpa using h)]
theorem map_bar {α : Type} {f : StageV -> α} {b : Bool} {s : StageV} {S : List StageV} {n : Nat} (h : S[n]? = some s) (hf : f (barS b s) = f s) : (S.set n (barS b s)).map f = S.map f := by
  rw [List.map_set, hf]
  refine List.ext_getElem? (fun k => ?_)
  rw [List.getElem?_set]
  split
  · rename_i e; subst e
    split
    · rw [List.getElem?_map, h]; rfl
    · rename_i h2; rw [List.getElem?_eq_none (by omega)]
  · rfl
theorem good_bar {I : List PlaneV} {S : List StageV} {p : Int} {b : Bool} {s : StageV} {n : Nat} (h : Good I S p) (hs : S[n]? = some s) : Good I (S.set n (barS b s)) p := by
  refine ⟨h.pl, h.ni, by rw [List.length_set]; exact h.ns, h.pr, fun m t ht => ?_⟩
  rw [List.getElem?_set] at ht
  split at ht
  · rename_i e; subst e
    split at ht
    · obtain rfl := Option.some.inj ht
      rw [srcs_bar]; exact h.od n s hs
    · cases ht
  · exact h.od m t ht
def barJ (j : JobV) (n : Nat) (b : Bool) (s : StageV) : JobV := ⟨j.inputs, j.stages.set n (barS b s), j.outputs, j.priority⟩
theorem made_bar {j : JobV} {l : List Shape} (h : Good j.inputs j.stages j.priority) (hr : runS (j.inputs.map shpOf) j.stages = some l) (hI : ∀ z ∈ j.inputs, z.pix.length <= 64) (hS : ∀ s ∈ j.stages, s.x.length <= 6 /\ s.y.length <= 6)
  (h1 : 1 <= j.stages.length /\ j.stages.length <= 4) (hO : 1 <= j.outputs.length /\ j.outputs.length <= 2) (hi : inR ((j.inputs.length : Nat) + (j.stages.length : Nat)) j.outputs = true) {tw th : Int} (ht : tileP tw th) {n : Nat} {s : StageV} (hs : j.stages[n]? = some s) (b : Bool) :
  MadeL (barJ j n b s) tw th /\ shpV (barJ j n b s) = (l, 0, 0) /\ chkCode (barJ j n b s) = 0 := by
 have g := good_bar (b := b) h hs
 have hr2 : runS ((barJ j n b s).inputs.map shpOf) (barJ j n b s).stages = some l := by unfold barJ; dsimp only; rw [run_bar _ _ _ hs]; exact hr
 have hln : (barJ j n b s).stages.length = j.stages.length := List.length_set ..
 have hi2 : inR (((barJ j n b s).inputs.length : Nat) + ((barJ j n b s).stages.length : Nat)) (barJ j n b s).outputs = true := by rw [hln]; exact hi
 refine ⟨made_low (j := barJ j n b s) g hr2 hI (fun t ht => ?_) (by rw [hln]; exact h1) hO hi2 ht, shp_outs g hr2 (by rw [List.length_set]; exact h1.1) hO hi2, good_chk g (by rw [List.length_set]; exact h1.1) hO hi2⟩
 rcases List.mem_or_eq_of_mem_set ht with h2 | h2
 ·exact hS t h2
 ·rw [h2]; exact hS s (List.mem_of_getElem? hs)
structure BarL (L M : Lay) (x : Int) : Prop where
  ni : M.ni = L.ni
  sh : M.sh = L.sh
  od : M.od = L.od
  tw : M.tw = L.tw
  th : M.th = L.th
  st : ∀ n, ∃ b, M.st n = barS b (L.st n) /\ ((L.st n).barrier = true -> b = true)
  ne : ∀ n ∈ L.od, n ≠ x -> M.st n = L.st n
theorem ord_bar {j k : JobV} (h1 : chkCode j = 0) (h2 : chkCode k = 0) (hi : k.inputs = j.inputs) (hs : k.stages.map srcs = j.stages.map srcs) : ordV k = ordV j := by
  have hl : k.stages.length = j.stages.length := by have := congrArg List.length hs; simpa using this
  have e : listV k = listV j := by unfold listV; rw [hi, hs, hl]
  rw [(ord_list h1).1, (ord_list h2).1, e, hl]
theorem bar_lay {j : JobV} {l : List Shape} {n : Nat} {s : StageV} {tw th : Int} (hs : j.stages[n]? = some s) (h0 : chkCode (barJ j n false s) = 0) (h1 : chkCode (barJ j n true s) = 0) (e0 : shpV (barJ j n false s) = (l, 0, 0)) (e1 : shpV (barJ j n true s) = (l, 0, 0))
  (g : LayG (layV (barJ j n false s) tw th)) : BarL (layV (barJ j n false s) tw th) (layV (barJ j n true s) tw th) ((j.inputs.length : Int) + n) := by
 have hn := (List.getElem?_eq_some_iff.1 hs).1
 have st : ∀ b x, (layV (barJ j n b s) tw th).st x = if (x - (j.inputs.length : Int)).toNat = n then barS b s else stgAt j.stages j.inputs.length x := by
  intro b x
  show stgAt (j.stages.set n (barS b s)) j.inputs.length x = _
  unfold stgAt
  rw [List.getElem?_set]
  by_cases e : n = (x - (j.inputs.length : Int)).toNat
  ·rw [if_pos e, if_pos hn, if_pos e.symm]; rfl
  ·rw [if_neg e, if_neg (fun h => e h.symm)]
 refine ⟨rfl, ?_, ?_, rfl, rfl, fun x => ?_, fun x hx hne => ?_⟩
 ·unfold layV; dsimp only; rw [e0, e1]
 ·unfold layV; dsimp only
  rw [ord_bar h0 h1 rfl]
  show (j.stages.set n (barS true s)).map srcs = (j.stages.set n (barS false s)).map srcs
  rw [map_bar hs (srcs_bar _ _), map_bar hs (srcs_bar _ _)]
 ·rw [st, st]
  split
  ·exact ⟨true, rfl, fun _ => rfl⟩
  ·exact ⟨(stgAt j.stages j.inputs.length x).barrier, rfl, fun h => h⟩
 ·have hr := g.rng x hx
  have hni : (layV (barJ j n false s) tw th).ni = (j.inputs.length : Int) := rfl
  rw [st, st, if_neg om, if_neg om]
section
variable {L M : Lay} {x : Int} (h : BarL L M x)
include h
theorem bar_f (n : Int) : (M.st n).kind = (L.st n).kind /\ (M.st n).a = (L.st n).a /\ (M.st n).bins = (L.st n).bins /\ srcs (M.st n) = srcs (L.st n) /\ ∀ m r, bytV (M.st n) m r = bytV (L.st n) m r := by
  obtain ⟨b, e, _⟩ := h.st n
  rw [e]; exact ⟨rfl, rfl, rfl, srcs_bar _ _, fun _ _ => byt_bar _ _ _ _⟩
theorem bar_cut (n : Int) : M.cut n = L.cut n := by unfold Lay.cut; rw [(bar_f h n).1, (bar_f h n).2.1, h.sh]
theorem bar_nx (n : Int) : M.nx n = L.nx n /\ M.ny n = L.ny n := by unfold Lay.nx Lay.ny; rw [bar_cut h, h.tw, h.th]; exact ⟨rfl, rfl⟩
theorem bar_cnt (n : Int) : M.cnt n = L.cnt n := by unfold Lay.cnt; rw [(bar_f h n).1, (bar_nx h n).1, (bar_nx h n).2]
theorem bar_first (n : Int) : M.first n = L.first n := by unfold Lay.first; rw [h.od, show M.cnt = L.cnt from funext (bar_cnt h)]
theorem bar_own (n j : Int) : M.own n j = L.own n j := by unfold Lay.own; rw [(bar_f h n).1, (bar_nx h n).1, bar_first h]
theorem bar_tile (n j : Int) : M.tile n j = L.tile n j := by unfold Lay.tile; rw [bar_cut h, h.tw, h.th]
theorem bar_part (n : Int) : M.part n = L.part n := by unfold Lay.part; rw [(bar_f h n).1]
theorem bar_src (s : StageV) (r : Rct) (y : Int) : M.srcDeps s r y = L.srcDeps s r y := by
  unfold Lay.srcDeps; rw [h.ni, bar_cnt h, bar_first h, (bar_f h y).1, h.sh, h.tw, h.th]
theorem bar_needs (n : Int) (r : Rct) (hn : n ∈ L.od) (g : LayG L) : ∀ d ∈ L.needs (L.st n) r, d ∈ M.needs (M.st n) r := by
 intro d hd
 unfold Lay.needs at hd ⊢
 obtain ⟨y, hy, hdy⟩ := List.mem_flatMap.1 hd
 refine List.mem_flatMap.2 ⟨y, by rw [(bar_f h n).2.2.2.1]; exact hy, ?_⟩
 rw [bar_src h]
 obtain ⟨b, e, hb⟩ := h.st n
 rw [e]
 by_cases e2 : b = (L.st n).barrier
 ·rw [e2]; exact hdy
 ·obtain ⟨hyo, k, h0, hk, rfl⟩ := dep_src g (g.src hn y hy).2.2 hdy
  have hr := g.rng y hyo
  have hbt : b = true := by
   cases hb' : (L.st n).barrier with
   | true => exact hb hb'
   | false => rw [hb'] at e2; simpa using e2
  unfold Lay.srcDeps
  rw [if_neg om, if_pos (by rw [hbt]; rfl)]
  exact List.mem_map.2 ⟨k, mem_upto.2 ⟨h0, om⟩, rfl⟩
theorem bar_task (n part : Int) (r : Rct) (d e : List Int) : (M.task n part r e).stage = n /\ (M.task n part r e).part = part /\ ((M.task n part r e).rectX0 = r.x0 /\ (M.task n part r e).rectY0 = r.y0 /\ (M.task n part r e).rectX1 = r.x1 /\ (M.task n part r e).rectY1 = r.y1) /\ (M.task n part r e).rows = (L.task n part r d).rows /\ (M.task n part r e).scratch = (L.task n part r d).scratch := by
  unfold Lay.task
  dsimp only
  rw [(bar_f h n).2.2.2.2, (bar_f h n).2.1, h.sh]
  exact ⟨rfl, rfl, ⟨rfl, rfl, rfl, rfl⟩, rfl, rfl⟩
end
theorem tile_get {L : Lay} {n : Int} {j : Nat} (h : (j : Int) < L.nx n * L.ny n) : (L.tasks n)[j]? = some (L.tileT n j) := by
  unfold Lay.tasks
  rw [List.getElem?_append_left (by rw [List.length_map, upto_len]; omega), List.getElem?_map]
  unfold uptoV
  rw [List.getElem?_map, List.getElem?_range (by omega)]; rfl
theorem merge_get {L : Lay} {n : Int} (h : (L.st n).kind = 4) : (L.tasks n)[(L.nx n * L.ny n).toNat]? = some (L.mergeT n) := by
  unfold Lay.tasks
  rw [List.getElem?_append_right (by rw [List.length_map, upto_len]; omega), List.length_map, upto_len, if_pos h, Nat.sub_self]; rfl
def BarT (x : Int) (a b : TaskV) : Prop := b.stage = a.stage /\ b.part = a.part /\ (b.rectX0 = a.rectX0 /\ b.rectY0 = a.rectY0 /\ b.rectX1 = a.rectX1 /\ b.rectY1 = a.rectY1) /\ b.rows = a.rows /\ b.scratch = a.scratch /\ (Asc a.deps /\ Asc b.deps /\ ∀ d ∈ a.deps, d ∈ b.deps) /\ (a.stage ≠ x -> b.deps = a.deps)
theorem bar_len {L M : Lay} {x : Int} (h : BarL L M x) (g : LayG L) (k : LayG M) : (M.all.length : Int) = L.all.length := by
  unfold Lay.all
  rw [tasks_sum k _ (fun _ h => h), tasks_sum g _ (fun _ h => h), h.od, show M.cnt = L.cnt from funext (bar_cnt h)]
theorem bar_at {L M : Lay} {x : Int} (h : BarL L M x) (g : LayG L) (k : LayG M) {i : Nat} {a b : TaskV} (ha : L.all[i]? = some a) (hb : M.all[i]? = some b) : BarT x a b := by
 obtain ⟨n, j, hn, hz, hi⟩ := all_at g ha
 have hnM : n ∈ M.od := by rw [h.od]; exact hn
 rcases tasks_at g hn hz with ⟨hj, rfl⟩ | ⟨h4, hj, rfl⟩
 ·have hm := at_all k hnM (tile_get (L := M) (n := n) (j := j) (by rw [(bar_nx h n).1, (bar_nx h n).2]; exact hj))
  rw [bar_first h, <- hi, Int.toNat_natCast, hb] at hm
  obtain rfl := Option.some.inj hm
  unfold Lay.tileT
  rw [bar_part h, bar_tile h, bar_own h]
  obtain ⟨e1, e2, ⟨e3, e4, e5, e6⟩, e7, e8⟩ := bar_task h n (L.part n) (L.tile n j) (L.needs (L.st n) (L.tile n j) ++ L.own n j) (M.needs (M.st n) (L.tile n j) ++ L.own n j)
  refine ⟨e1, e2, ⟨e3, e4, e5, e6⟩, e7, e8, ⟨asc_canon _, asc_canon _, fun d hd => ?_⟩, fun hne => ?_⟩
  ·refine mem_canon.2 ?_
   rcases List.mem_append.1 (mem_canon.1 hd) with h1 | h1
   ·exact List.mem_append.2 (.inl (bar_needs h n _ hn g d h1))
   ·exact List.mem_append.2 (.inr h1)
  ·show canonV _ = canonV _
   have en : M.needs (M.st n) (L.tile n j) = L.needs (L.st n) (L.tile n j) := by
    rw [h.ne n hn hne]; unfold Lay.needs; exact congrArg (fun f => (srcs (L.st n)).flatMap f) (funext (bar_src h _ _))
   rw [en]
 ·have hm := at_all k hnM (merge_get (L := M) (n := n) (by rw [(bar_f h n).1]; exact h4))
  rw [bar_first h, (bar_nx h n).1, (bar_nx h n).2] at hm
  have hg := (g.grid hn).2.2
  rw [show (L.first n + (((L.nx n * L.ny n).toNat : Nat) : Int)).toNat = i by omega, hb] at hm
  obtain rfl := Option.some.inj hm
  unfold Lay.mergeT
  rw [(bar_f h n).2.2.1, (bar_nx h n).1, (bar_nx h n).2, bar_first h]
  obtain ⟨e1, e2, ⟨e3, e4, e5, e6⟩, e7, e8⟩ := bar_task h n 2 ⟨0, 0, (L.st n).bins, 1⟩ ((uptoV (L.nx n * L.ny n).toNat).map (L.first n + ·)) ((uptoV (L.nx n * L.ny n).toNat).map (L.first n + ·))
  exact ⟨e1, e2, ⟨e3, e4, e5, e6⟩, e7, e8, ⟨asc_canon _, asc_canon _, fun d hd => hd⟩, fun _ => rfl⟩
def SubI (A B : List Int) (m d : Nat) : Prop := m <= A.length /\ ∀ z ∈ A.drop m, z ∈ B.drop d
theorem SubI.hit {A B : List Int} {m d : Nat} {b : Int} (h : SubI A B m d) (ha : Asc A) (hb : B[d]? = some b) (hm : A[m]? = some b) : SubI A B (m + 1) (d + 1) := by
  refine ⟨((List.getElem?_eq_some_iff.1 hm).1), fun z hz => ?_⟩
  obtain ⟨q, hq⟩ := List.mem_iff_getElem?.1 hz
  rw [List.getElem?_drop] at hq
  have hlt := asc_lt ha (show m < m + 1 + q by omega) hm hq
  have h1 := h.2 z (List.mem_of_getElem? (i := q + 1) (by rw [List.getElem?_drop, show m + (q + 1) = m + 1 + q by omega]; exact hq))
  rw [drop_at hb] at h1
  rcases List.mem_cons.1 h1 with e | e
  · omega
  · exact e
theorem SubI.miss {A B : List Int} {m d : Nat} {b : Int} (h : SubI A B m d) (ha : Asc A) (hB : Asc B) (hb : B[d]? = some b) (hm : A[m]? ≠ some b) : SubI A B m (d + 1) := by
 refine ⟨h.1, fun z hz => ?_⟩
 have h1 := h.2 z hz
 rw [drop_at hb] at h1
 rcases List.mem_cons.1 h1 with e | e
 ·exfalso
  subst e
  obtain ⟨q, hq⟩ := List.mem_iff_getElem?.1 hz
  rw [List.getElem?_drop] at hq
  have hq0 : q ≠ 0 := fun e => hm (by rw [e] at hq; simpa using hq)
  have hml : m < A.length := by have := (List.getElem?_eq_some_iff.1 hq).1; omega
  have hx : A[m]? = some A[m] := List.getElem?_eq_getElem hml
  have hlt := asc_lt ha (show m < m + q by omega) hx hq
  have h2 := h.2 A[m] (List.mem_of_getElem? (i := 0) (by rw [List.getElem?_drop]; simpa using hx))
  obtain ⟨u, hu⟩ := List.mem_iff_getElem?.1 h2
  rw [List.getElem?_drop] at hu
  by_cases hu0 : u = 0
  ·rw [hu0] at hu; rw [show d + 0 = d by omega, hb] at hu; exact hm (by rw [hx, <- Option.some.inj hu])
  ·have := asc_lt hB (show d < d + u by omega) hb hu; omega
 ·exact e
theorem SubI.done {A B : List Int} {m d : Nat} (h : SubI A B m d) (hd : B.length <= d) : m = A.length := by
  by_cases e : m = A.length
  · exact e
  · exfalso
    have hml : m < A.length := by have := h.1; omega
    have := h.2 A[m] (List.mem_of_getElem? (i := 0) (by rw [List.getElem?_drop]; simpa using List.getElem?_eq_getElem hml))
    rw [List.drop_eq_nil_of_le hd] at this
    cases this
theorem l20_barriers (W w : World) (H : Chunk) (F : List Chunk) (t : Option Addr) (nt kt : Nat) (xt : List Int) (which : Int) (ht : RdT Go.E.encI 1 [H] t nt kt xt) (_hwhich : -9223372036854775808 <= which /\ which <= 9223372036854775807) (hS : Sat W w (H :: F)) :
  Calls prog 3 #[.slice t nt kt, I which] w fun e w' => e = .returned (.bool true) /\ Sat W w' (H :: F) := by
 have hlt := ht.le
 refine callsA 217 func3 rfl <| sR <| pu1 <| zS <| pu1 <| cX call11 (tape_new t nt kt hS) ?_
 rintro _ _ ⟨j2, rfl, i4⟩
 have k7 := ht.le
 refine pu1 <| zS <| pu1 <| cX call12 (tg_jobO (RdT.flat (ht.up 0 (by rfl))) om i4.flat1 4 om) ?_
 rintro _ _ ⟨c0, j4, j1, rfl, k1, l1, d1, k4, l4, m4, _, _, n4⟩
 have o4 := n4.unflat3
 have hok_q_7 : Job.Ok [j4 ++ j1] c0 := d1 _ _ _ _ _ k1 l1
 have hn_q_7 := k1.len; have hl_q_7 := k1.le
 obtain ⟨hgd, l0, hrn⟩ := l4
 have hns := (hok_q_7).stages.len; have hni := (hok_q_7).inputs.len; have hno := (hok_q_7).outputs.len; have hjO := m4; have hjB := k4
 have hb : c0.inputs.n <= 1000 /\ c0.stages.n <= 1000 /\ c0.outputs.n <= 1000 := by have h1 := hgd.ni; have h2 := hgd.ns; rw [List.length_map] at h1 h2; omega
 have hns4 := hjB.2.1.1
 refine pu1 <| cX call13 (tape_next (RdT.flat (ht.up 2 (by rfl))) om o4.flat1 4 om) ?_
 rintro _ _ ⟨u0, rfl, _, _, _, p4⟩
 have q4 := p4.unflat1
 refine sAdd 1 u0 <| pu1 <| cX call13 (tape_next (RdT.flat (ht.up 2 (by rfl))) om q4.flat1 4 om) ?_
 rintro _ _ ⟨v0, rfl, _, k2, _, r4⟩
 have s4 := r4.unflat1
 refine sAdd 1 v0 <| sAlloc s4 zeroValue28 fun c1 _ t4 => ?_
 refine sT t4 0 0 (.agg (encJob c0).toArray) (encJob c0) (encJob c0).toArray sizeOf28 fun _ a3 => pu2 <| zS <| lA a3 0 0 4 (isAgg28 _) (sizeOf28 _) <| cX call14 (tg_copyJob W _ _ [] c0 ⟨(RdT.flat ((d1 _ 0 0 [] [] (OwnT.nil (fun _ => (by rfl))) (fun z hz => by cases hz)).inputs.up 3 (by rfl))), (fun z hz => ((d1 _ 0 0 [] [] (OwnT.nil fR) (fun z hz => by cases hz)).inputsD z hz).of_mem (mem_flat1 3 (by rfl))), (RdT.flat (k1.rdAt 2 (by rfl))), (fun z hz => (l1 z hz).of_mem (mem_flat1 3 (by rfl))), (RdT.flat ((d1 _ 0 0 [] [] (OwnT.nil (fun _ => (by rfl))) (fun z hz => by cases hz)).outputs.up 3 (by rfl)))⟩ om a3.flat) ?_
 rintro _ _ ⟨a1_40, a2_41, a3_42, n1_43, k1_44, n2_45, k2_46, n3_47, k3_48, c1_49, c2_50, c3_51, rfl, l2, u1, m2, u4⟩
 have v4 := Sat.unflatc u4
 have hn_a1_40 := l2.len; have hl_a1_40 := l2.le
 have hn_a2_41 := u1.len; have hl_a2_41 := u1.le
 have hn_a3_42 := m2.len; have hl_a3_42 := m2.le
 refine sAlloc v4 zeroValue28 fun v1 _ w4 => ?_
 refine sT w4 0 0 (.agg #[.slice a1_40 n1_43 k1_44, .slice a2_41 n2_45 k2_46, .slice a3_42 n3_47 k3_48, I c0.priority]) [.slice a1_40 n1_43 k1_44, .slice a2_41 n2_45 k2_46, .slice a3_42 n3_47 k3_48, I c0.priority] #[.slice a1_40 n1_43 k1_44, .slice a2_41 n2_45 k2_46, .slice a3_42 n3_47 k3_48, I c0.priority] sizeOf28 fun _ b3 => zS <| pu2 <| sL b3 4 1 (.slice c0.stages.a c0.stages.n c0.stages.k) (isAgg26 _) <| pu1 <| cX call15 (mod_ok which (c0.stages.n : Int) om om b3) ?_
 rintro _ _ ⟨h0, rfl, _, n2⟩
 refine pu1 <| nT <| seqE ?_
 obtain ⟨d0, x4, y4, r1, c8, z4, a5⟩ := OwnT.elem k1 h0
 obtain ⟨b5, c5, d5, c3, d8, e5, f5⟩ := OwnT.elem u1 h0
 obtain rfl : d0 = b5 := Option.some.inj (r1.symm.trans c3)
 refine drawE [8, 11] [(1, ⟨c1, 1, none⟩, .slice c0.stages.a c0.stages.n c0.stages.k), (4, ⟨v1, 1, none⟩, .slice a2_41 n2_45 k2_46)] [(true, [0, 2, 3, 5]), (true, [1]), (true, [6]), (true, [7]), (true, [4]), (false, [8]), (true, [9]), (true, [10]), (false, [11])] rfl kr ⟨cI n2 4, cI n2 0, trivial⟩ ?_
 have g5 := n2.drew
 refine wU [0, 2, 3, 5] <| wLd (.slice c0.stages.a c0.stages.n c0.stages.k) 0 isAgg26 <| wY (.pointer (some ⟨x4, y4 + (h0).toNat * 18, none⟩)) rfl (fun w _ => Y_idx (a := c0.stages.a) (i := h0) (len := c0.stages.n) (cap := c0.stages.k) rfl runUnderlying26 sizeOf38 kr kr z4) <| wU [7] <| wLd (.slice a2_41 n2_45 k2_46) 1 isAgg26 <| wO rfl <| sStF g5 k1 a5 6 (h0).toNat 3 d0 (⟨d0.kind, d0.a, d0.b, false, d0.edgePolicy, d0.edgeFill, d0.kW, d0.kH, d0.weights, d0.row, d0.col, d0.shift, d0.shift2, d0.x, d0.y, d0.bins, d0.ops, d0.max_⟩ : Stage) r1 (.bool false) [.bool false] sizeOf4 fun _ o2 d3 e3 => nilO ⟨⟨dI, cI e3 0, trivial⟩, ?_⟩
 refine wY (.pointer (some ⟨c5, d5 + (h0).toNat * 18, none⟩)) rfl (fun w _ => Y_idx (a := a2_41) (i := h0) (len := n2_45) (cap := k2_46) rfl runUnderlying26 sizeOf38 kr kr e5) <| wU [10] <| wO rfl <| sStF e3 u1 f5 2 (h0).toNat 3 d0 (⟨d0.kind, d0.a, d0.b, true, d0.edgePolicy, d0.edgeFill, d0.kW, d0.kH, d0.weights, d0.row, d0.col, d0.shift, d0.shift2, d0.x, d0.y, d0.bins, d0.ops, d0.max_⟩ : Stage) c3 (.bool true) [.bool true] sizeOf4 fun _ p2 f3 g3 => nilO ⟨dA, ?_⟩
 refine wN <| tN <| seqE ?_
 obtain ⟨sg_false, hsg_false⟩ : ∃ z : Stage, z = (⟨d0.kind, d0.a, d0.b, false, d0.edgePolicy, d0.edgeFill, d0.kW, d0.kH, d0.weights, d0.row, d0.col, d0.shift, d0.shift2, d0.x, d0.y, d0.bins, d0.ops, d0.max_⟩ : Stage) := ⟨_, rfl⟩; rw [<- hsg_false] at d3
 have hv_sg_false : sg_false.v = barS false d0.v := by rw [hsg_false]; rfl
 have hd_sg_false : ∀ z ∈ (c0.stages.l.set ((h0).toNat) sg_false), Stage.Ok [j1] z := by
  intro z hz
  rcases List.mem_or_eq_of_mem_set hz with h | h
  ·exact l1 z h
  ·rw [h, hsg_false]; have hq := l1 d0 (List.mem_of_getElem? r1); exact ⟨hq.weights, hq.row, hq.col, hq.x, hq.xD, hq.y, hq.yD, hq.ops⟩
 obtain ⟨sg_true, hsg_true⟩ : ∃ z : Stage, z = (⟨d0.kind, d0.a, d0.b, true, d0.edgePolicy, d0.edgeFill, d0.kW, d0.kH, d0.weights, d0.row, d0.col, d0.shift, d0.shift2, d0.x, d0.y, d0.bins, d0.ops, d0.max_⟩ : Stage) := ⟨_, rfl⟩; rw [<- hsg_true] at f3
 have hv_sg_true : sg_true.v = barS true d0.v := by rw [hsg_true]; rfl
 have hd_sg_true : ∀ z ∈ (c0.stages.l.set ((h0).toNat) sg_true), Stage.Ok [j1] z := by
  intro z hz
  rcases List.mem_or_eq_of_mem_set hz with h | h
  ·exact l1 z h
  ·rw [h, hsg_true]; have hq := l1 d0 (List.mem_of_getElem? r1); exact ⟨hq.weights, hq.row, hq.col, hq.x, hq.xD, hq.y, hq.yD, hq.ops⟩
 refine rE <| lA g3 4 0 4 (isAgg28 _) (sizeOf28 _) <| pu2 ?_
 refine cX call16 (p20_low (F := []) (⟨c0.inputs, ⟨c0.stages.a, c0.stages.n, c0.stages.k, (c0.stages.l.set ((h0).toNat) sg_false)⟩, c0.outputs, c0.priority⟩ : Job) (1 + u0) (1 + v0) ⟨(RdT.flat ((d1 _ 0 0 [] [] (OwnT.nil (fun _ => (by rfl))) (fun z hz => by cases hz)).inputs.up 7 (by rfl))), (fun z hz => ((d1 _ 0 0 [] [] (OwnT.nil fR) (fun z hz => by cases hz)).inputsD z hz).of_mem (mem_flat1 7 (by rfl))), (RdT.flat (d3.rdAt 6 (by rfl))), (fun z hz => (hd_sg_false z hz).of_mem (mem_flat1 7 (by rfl))), (RdT.flat ((d1 _ 0 0 [] [] (OwnT.nil (fun _ => (by rfl))) (fun z hz => by cases hz)).outputs.up 7 (by rfl)))⟩ (by dsimp only; omega) g3.flat) ?_
 rintro _ _ ⟨m0, k0, n0, _, q2, r2, rfl, g1, w0, h5, i5⟩
 have h3 := i5.unflat2; have hn_az_91 := g1.len; have hl_az_91 := g1.le
 have hsv := map_at (f := Stage.v) r1; have htp : tileP (1 + u0) (1 + v0) := by unfold tileP; omega
 have hjv0 : Job.v (⟨c0.inputs, ⟨c0.stages.a, c0.stages.n, c0.stages.k, (c0.stages.l.set ((h0).toNat) sg_false)⟩, c0.outputs, c0.priority⟩ : Job) = barJ c0.v ((h0).toNat) false d0.v := by unfold Job.v barJ; dsimp only; rw [List.map_set, hv_sg_false]
 obtain ⟨hmd0, hsh0, hck0⟩ := made_bar (j := c0.v) (tw := (1 + u0)) (th := (1 + v0)) hgd hrn (fun z hz => by obtain ⟨y, hy, rfl⟩ := List.mem_map.1 hz; exact (hjB.1.2 y hy).1.1) (fun z hz => by obtain ⟨y, hy, rfl⟩ := List.mem_map.1 hz; have h := hjB.2.1.2 y hy; unfold stageB at h; simp only [Stage.v, List.length_map]; omega) (by show 1 <= (c0.stages.l.map Stage.v).length /\ (c0.stages.l.map Stage.v).length <= 4; rw [List.length_map]; omega) hjO.2.1 hjO.2.2 htp hsv false
 obtain ⟨L0, hL0⟩ : ∃ z : Lay, z = layV (barJ c0.v ((h0).toNat) false d0.v) (1 + u0) (1 + v0) := ⟨_, rfl⟩; have hg0 := hmd0.g; have hzv0 := hmd0.v; rw [<- hL0] at hg0 hzv0; rw [<- hjv0, <- h5] at hzv0
 have hlz0 : lowC (Job.v (⟨c0.inputs, ⟨c0.stages.a, c0.stages.n, c0.stages.k, (c0.stages.l.set ((h0).toNat) sg_false)⟩, c0.outputs, c0.priority⟩ : Job)) (1 + u0) (1 + v0) = 0 := by rw [hjv0]; exact hmd0.z
 refine pu5 <| zS <| lA h3 2 0 4 (isAgg28 _) (sizeOf28 _) <| pu2 <| cX call16 (p20_low (F := []) (⟨⟨a1_40, n1_43, k1_44, c0.inputs.l⟩, ⟨a2_41, n2_45, k2_46, (c0.stages.l.set ((h0).toNat) sg_true)⟩, ⟨a3_42, n3_47, k3_48, c0.outputs.l⟩, c0.priority⟩ : Job) (1 + u0) (1 + v0) ⟨(RdT.flat (l2.rdAt 3 (by rfl))), (fun z hz => ((d1 _ 0 0 [] [] (OwnT.nil fR) (fun z hz => by cases hz)).inputsD z hz).of_mem (mem_flat1 9 (by rfl))), (RdT.flat (f3.rdAt 4 (by rfl))), (fun z hz => (hd_sg_true z hz).of_mem (mem_flat1 9 (by rfl))), (RdT.flat (m2.rdAt 5 (by rfl)))⟩ (by dsimp only; omega) h3.flat) ?_
 rintro _ _ ⟨r0, q0, s0, _, s2, t2, rfl, i1, e1, j5, k5⟩
 have l5 := k5.unflat2; have hn_az_103 := i1.len; have hl_az_103 := i1.le
 have hjv1 : Job.v (⟨⟨a1_40, n1_43, k1_44, c0.inputs.l⟩, ⟨a2_41, n2_45, k2_46, (c0.stages.l.set ((h0).toNat) sg_true)⟩, ⟨a3_42, n3_47, k3_48, c0.outputs.l⟩, c0.priority⟩ : Job) = barJ c0.v ((h0).toNat) true d0.v := by unfold Job.v barJ; dsimp only; rw [List.map_set, hv_sg_true]
 obtain ⟨hmd1, hsh1, hck1⟩ := made_bar (j := c0.v) (tw := (1 + u0)) (th := (1 + v0)) hgd hrn (fun z hz => by obtain ⟨y, hy, rfl⟩ := List.mem_map.1 hz; exact (hjB.1.2 y hy).1.1) (fun z hz => by obtain ⟨y, hy, rfl⟩ := List.mem_map.1 hz; have h := hjB.2.1.2 y hy; unfold stageB at h; simp only [Stage.v, List.length_map]; omega) (by show 1 <= (c0.stages.l.map Stage.v).length /\ (c0.stages.l.map Stage.v).length <= 4; rw [List.length_map]; omega) hjO.2.1 hjO.2.2 htp hsv true
 obtain ⟨L1, hL1⟩ : ∃ z : Lay, z = layV (barJ c0.v ((h0).toNat) true d0.v) (1 + u0) (1 + v0) := ⟨_, rfl⟩; have hg1 := hmd1.g; have hzv1 := hmd1.v; rw [<- hL1] at hg1 hzv1; rw [<- hjv1, <- j5] at hzv1
 have hlz1 : lowC (Job.v (⟨⟨a1_40, n1_43, k1_44, c0.inputs.l⟩, ⟨a2_41, n2_45, k2_46, (c0.stages.l.set ((h0).toNat) sg_true)⟩, ⟨a3_42, n3_47, k3_48, c0.outputs.l⟩, c0.priority⟩ : Job)) (1 + u0) (1 + v0) = 0 := by rw [hjv1]; exact hmd1.z
 have hbr := bar_lay (tw := (1 + u0)) (th := (1 + v0)) hsv hck0 hck1 hsh0 hsh1 (by rw [<- hL0]; exact hg0); rw [<- hL0, <- hL1] at hbr; have hbl := bar_len hbr hg0 hg1; rw [<- hzv0, <- hzv1, List.length_map, List.length_map] at hbl
 refine pu5 <| zQ <| pu3 ?_
 have m5 : ((lowC (⟨c0.inputs, ⟨c0.stages.a, c0.stages.n, c0.stages.k, (c0.stages.l.set ((h0).toNat) sg_false)⟩, c0.outputs, c0.priority⟩ : Job).v (1 + u0) (1 + v0)) : Int) = 0 := hlz0
 refine sFix 61 _ false (bne_eq_false_iff_eq.2 m5) <| pu4 ?_
 have n5 : ((lowC (⟨⟨a1_40, n1_43, k1_44, c0.inputs.l⟩, ⟨a2_41, n2_45, k2_46, (c0.stages.l.set ((h0).toNat) sg_true)⟩, ⟨a3_42, n3_47, k3_48, c0.outputs.l⟩, c0.priority⟩ : Job).v (1 + u0) (1 + v0)) : Int) = 0 := hlz1
 refine sFix 65 _ false (bne_eq_false_iff_eq.2 n5) <| pu6 <| nT ?_
 have o5 : ((k0 : Int) : Int) = (q0 : Int) := by omega
 refine cF _ (bne_eq_false_iff_eq.2 o5) <| kT <| seqE <| sR <| pu1 <| nT <| blockE <| loopA (γ := Nat) (fun i => [(6, Pt c1 0), (10, I h0), (11, .slice m0 k0 n0), (13, .slice r0 q0 s0), (15, I (i : Int))]) (fun i w => Sat W w (s2 :: t2 :: q2 :: r2 :: [(v1, .cells #[.slice a1_40 n1_43 k1_44, .slice a2_41 n2_45 k2_46, .slice a3_42 n3_47 k3_48, I c0.priority] 28 (0, 0))] :: c1_49 :: p2 :: c3_51 :: [(c1, .cells (encJob c0).toArray 28 (0, 0))] :: [(j2, .cells #[.slice t nt kt, I k2] 85 (0, 0))] :: o2 :: j1 :: H :: F) /\ i <= k0) (fun i => k0 - i) 0 ⟨l5, om⟩ ?_
 rintro i ρ _ ⟨e0, hi⟩
 refine seqE <| sR <| pu4 <| nT <| cD ((i : Int) < (k0 : Int)) (fun p5 => ?_) (fun p5 => ?_)
 rotate_left
 ·refine exitE <| xB <| tN <| sR <| cR call17 (l20_sane  e0.flat) fun _ q5 => pu1 <| zE <| retT [.bool true] ?_
  have r5 := (q5.pick 12 rfl)
  have s5 := r5.dropAt 1 rfl
  have t5 := s5.dropAt 1 rfl
  have u5 := t5.dropAt 1 rfl
  have v5 := u5.dropAt 1 rfl
  have w5 := v5.dropAt 1 rfl
  have x5 := w5.dropAt 1 rfl
  have y5 := x5.dropAt 1 rfl
  have z5 := y5.dropAt 1 rfl
  have a6 := z5.dropAt 1 rfl
  have b6 := a6.dropAt 1 rfl
  have c6 := b6.dropAt 1 rfl
  exact ⟨rfl, (c6.dropAt 1 rfl)⟩
 refine kT <| seqE <| blockE <| seqE <| seqE ?_
 obtain ⟨a0, f0, g0, b1, o0, t0, m8⟩ := OwnT.elem g1 (i : Int)
 rw [Int.toNat_natCast] at b1 o0 t0
 have hz_x_118 : L0.all[i]? = some a0.v := by rw [<- hzv0]; exact map_at (f := Task.v) b1
 have hdn_x_118 := (w0 a0 (List.mem_of_getElem? b1)).deps.len; have hdl_x_118 := (w0 a0 (List.mem_of_getElem? b1)).deps.le
 obtain ⟨b0, i0, j0, f1, p0, x0, n8⟩ := OwnT.elem i1 (i : Int)
 rw [Int.toNat_natCast] at f1 p0 x0
 have hz_x_125 : L1.all[i]? = some b0.v := by rw [<- hzv1]; exact map_at (f := Task.v) f1
 have hdn_x_125 := (e1 b0 (List.mem_of_getElem? f1)).deps.len; have hdl_x_125 := (e1 b0 (List.mem_of_getElem? f1)).deps.le
 have hbt := bar_at hbr hg0 hg1 hz_x_118 hz_x_125; obtain ⟨hb1, hb2, hb3, hb4, hb5, ⟨hba, hbb, hbs⟩, hbn⟩ := hbt; simp only [Task.v] at hb1 hb2 hb3 hb4 hb5
 have i3 : (a0.stage : Int) = b0.stage := by omega
 have j3 : (a0.part : Int) = b0.part := by omega
 have k3 : (a0.rectX0 : Int) = b0.rectX0 /\ (a0.rectY0 : Int) = b0.rectY0 /\ (a0.rectX1 : Int) = b0.rectX1 /\ (a0.rectY1 : Int) = b0.rectY1 := (by simp only [hb3, and_self])
 have l3 : (a0.rows : Int) = b0.rows := by omega
 have m3 : (a0.scratch : Int) = b0.scratch := by omega
 by_cases n3 : (a0.stage : Int) = ((c0.inputs.n : Int) + h0)
 ·refine drawE [] [(4, ⟨f0, g0 + i * 9 + 0, none⟩, I a0.stage), (9, ⟨i0, j0 + i * 9 + 0, none⟩, I b0.stage), (16, ⟨f0, g0 + i * 9 + 1, none⟩, I a0.part), (21, ⟨i0, j0 + i * 9 + 1, none⟩, I b0.part), (29, ⟨f0, g0 + i * 9 + 2 + 0, none⟩, I a0.rectX0), (29, ⟨f0, g0 + i * 9 + 2 + 1, none⟩, I a0.rectY0), (29, ⟨f0, g0 + i * 9 + 2 + 2, none⟩, I a0.rectX1), (29, ⟨f0, g0 + i * 9 + 2 + 3, none⟩, I a0.rectY1), (34, ⟨i0, j0 + i * 9 + 2 + 0, none⟩, I b0.rectX0), (34, ⟨i0, j0 + i * 9 + 2 + 1, none⟩, I b0.rectY0), (34, ⟨i0, j0 + i * 9 + 2 + 2, none⟩, I b0.rectX1), (34, ⟨i0, j0 + i * 9 + 2 + 3, none⟩, I b0.rectY1), (42, ⟨f0, g0 + i * 9 + 7, none⟩, I a0.rows), (47, ⟨i0, j0 + i * 9 + 7, none⟩, I b0.rows), (55, ⟨f0, g0 + i * 9 + 8, none⟩, I a0.scratch), (60, ⟨i0, j0 + i * 9 + 8, none⟩, I b0.scratch), (68, ⟨f0, g0 + i * 9 + 0, none⟩, I a0.stage), (70, ⟨c1, 0, none⟩, .slice c0.inputs.a c0.inputs.n c0.inputs.k)] [(true, [0, 1]), (true, [2]), (true, [3, 5, 6]), (true, [7]), (true, [8]), (true, [4]), (true, [9]), (true, [10, 11]), (true, [12, 13]), (true, [14]), (true, [15, 17, 18]), (true, [19]), (true, [20]), (true, [16]), (true, [21]), (true, [22, 23, 24]), (true, [25, 26]), (true, [27]), (true, [28, 30, 31]), (true, [32]), (true, [33]), (true, [29]), (true, [34]), (true, [35]), (true, [36, 37]), (true, [38, 39]), (true, [40]), (true, [41, 43, 44]), (true, [45]), (true, [46]), (true, [42]), (true, [47]), (true, [48, 49, 50]), (true, [51, 52]), (true, [53]), (true, [54, 56, 57]), (true, [58]), (true, [59]), (true, [55]), (true, [60]), (true, [61, 62, 63]), (true, [64, 65]), (true, [66]), (true, [67, 69, 72]), (true, [68]), (true, [70]), (true, [71]), (true, [73]), (true, [74, 75]), (true, [76, 77, 78, 79, 82, 83, 84, 85, 80, 81, 86, 87, 88, 89, 90])] rfl kr ⟨.inr ((o0.up 2 rfl).cell e0 (k := 0) rfl), .inr ((p0.up 0 rfl).cell e0 (k := 0) rfl), .inr ((o0.up 2 rfl).cell e0 (k := 1) rfl), .inr ((p0.up 0 rfl).cell e0 (k := 1) rfl), .inr ((o0.up 2 rfl).cell e0 (k := 2) rfl), .inr ((o0.up 2 rfl).cell e0 (k := 3) rfl), .inr ((o0.up 2 rfl).cell e0 (k := 4) rfl), .inr ((o0.up 2 rfl).cell e0 (k := 5) rfl), .inr ((p0.up 0 rfl).cell e0 (k := 2) rfl), .inr ((p0.up 0 rfl).cell e0 (k := 3) rfl), .inr ((p0.up 0 rfl).cell e0 (k := 4) rfl), .inr ((p0.up 0 rfl).cell e0 (k := 5) rfl), .inr ((o0.up 2 rfl).cell e0 (k := 7) rfl), .inr ((p0.up 0 rfl).cell e0 (k := 7) rfl), .inr ((o0.up 2 rfl).cell e0 (k := 8) rfl), .inr ((p0.up 0 rfl).cell e0 (k := 8) rfl), .inr ((o0.up 2 rfl).cell e0 (k := 0) rfl), cI e0 8, trivial⟩ ?_
  have e6 := e0.drew
  refine wU [0, 1] <| wY (.pointer (some ⟨f0, g0 + i * 9, none⟩)) rfl (fun w _ => Y_idx (a := m0) (i := (i : Int)) (len := k0) (cap := n0) rfl runUnderlying39 sizeOf46 kr kr t0) <| wU [3, 5, 6] <| wY (.pointer (some ⟨i0, j0 + i * 9, none⟩)) rfl (fun w _ => Y_idx (a := r0) (i := (i : Int)) (len := q0) (cap := s0) rfl runUnderlying39 sizeOf46 kr kr x0) <| wU [8] <| wLd (I a0.stage) 0 isAgg3 <| wLd (I b0.stage) 1 isAgg3 <| wU [10, 11] <| wFix 89 _ false (bne_eq_false_iff_eq.2 i3) <| wU [12, 13] <| wY (.pointer (some ⟨f0, g0 + i * 9, none⟩)) rfl (fun w _ => Y_idx (a := m0) (i := (i : Int)) (len := k0) (cap := n0) rfl runUnderlying39 sizeOf46 kr kr t0) <| wU [15, 17, 18] ?_
  refine wY (.pointer (some ⟨i0, j0 + i * 9, none⟩)) rfl (fun w _ => Y_idx (a := r0) (i := (i : Int)) (len := q0) (cap := s0) rfl runUnderlying39 sizeOf46 kr kr x0) <| wU [20] <| wLd (I a0.part) 2 isAgg3 <| wLd (I b0.part) 3 isAgg3 <| wU [22, 23, 24] <| wFix 102 _ false (bne_eq_false_iff_eq.2 j3) <| wU [25, 26] <| wY (.pointer (some ⟨f0, g0 + i * 9, none⟩)) rfl (fun w _ => Y_idx (a := m0) (i := (i : Int)) (len := k0) (cap := n0) rfl runUnderlying39 sizeOf46 kr kr t0) <| wU [28, 30, 31] <| wY (.pointer (some ⟨i0, j0 + i * 9, none⟩)) rfl (fun w _ => Y_idx (a := r0) (i := (i : Int)) (len := q0) (cap := s0) rfl runUnderlying39 sizeOf46 kr kr x0) <| wU [33] ?_
  refine wY (.agg #[I a0.rectX0, I a0.rectY0, I a0.rectX1, I a0.rectY1]) rfl (fun w hF => Y_loadF rfl (isAgg44 w) (sizeOf44 w) kr rfl ⟨hF 4 _ _ rfl, hF 5 _ _ rfl, hF 6 _ _ rfl, hF 7 _ _ rfl, trivial⟩) <| wY (.agg #[I b0.rectX0, I b0.rectY0, I b0.rectX1, I b0.rectY1]) rfl (fun w hF => Y_loadF rfl (isAgg44 w) (sizeOf44 w) kr rfl ⟨hF 8 _ _ rfl, hF 9 _ _ rfl, hF 10 _ _ rfl, hF 11 _ _ rfl, trivial⟩) <| wY (.bool (!(((a0.rectX0 : Int) == b0.rectX0) && ((a0.rectY0 : Int) == b0.rectY0) && ((a0.rectX1 : Int) == b0.rectX1) && ((a0.rectY1 : Int) == b0.rectY1)))) rfl (fun w _ => Y_eqS rfl kr kr (eqvn44 _ a0.rectX0 a0.rectY0 a0.rectX1 a0.rectY1 b0.rectX0 b0.rectY0 b0.rectX1 b0.rectY1)) ?_
  refine wU [36, 37] <| wFix 115 _ false (congrArg Bool.not (show (((a0.rectX0 : Int) == b0.rectX0) && ((a0.rectY0 : Int) == b0.rectY0) && ((a0.rectX1 : Int) == b0.rectX1) && ((a0.rectY1 : Int) == b0.rectY1)) = true from by simpa [and_assoc] using k3)) ?_
  refine wU [38, 39] <| wY (.pointer (some ⟨f0, g0 + i * 9, none⟩)) rfl (fun w _ => Y_idx (a := m0) (i := (i : Int)) (len := k0) (cap := n0) rfl runUnderlying39 sizeOf46 kr kr t0) <| wU [41, 43, 44] <| wY (.pointer (some ⟨i0, j0 + i * 9, none⟩)) rfl (fun w _ => Y_idx (a := r0) (i := (i : Int)) (len := q0) (cap := s0) rfl runUnderlying39 sizeOf46 kr kr x0) <| wU [46] <| wLd (I a0.rows) 12 isAgg3 <| wLd (I b0.rows) 13 isAgg3 <| wU [48, 49, 50] <| wFix 128 _ false (bne_eq_false_iff_eq.2 l3) <| wU [51, 52] <| wY (.pointer (some ⟨f0, g0 + i * 9, none⟩)) rfl (fun w _ => Y_idx (a := m0) (i := (i : Int)) (len := k0) (cap := n0) rfl runUnderlying39 sizeOf46 kr kr t0) <| wU [54, 56, 57] ?_
  refine wY (.pointer (some ⟨i0, j0 + i * 9, none⟩)) rfl (fun w _ => Y_idx (a := r0) (i := (i : Int)) (len := q0) (cap := s0) rfl runUnderlying39 sizeOf46 kr kr x0) <| wU [59] <| wLd (I a0.scratch) 14 isAgg3 <| wLd (I b0.scratch) 15 isAgg3 <| wU [61, 62, 63] <| wFix 141 _ false (bne_eq_false_iff_eq.2 m3) <| wU [64, 65] <| wY (.pointer (some ⟨f0, g0 + i * 9, none⟩)) rfl (fun w _ => Y_idx (a := m0) (i := (i : Int)) (len := k0) (cap := n0) rfl runUnderlying39 sizeOf46 kr kr t0) <| wU [67, 69, 72] <| wLd (I a0.stage) 16 isAgg3 <| wLd (.slice c0.inputs.a c0.inputs.n c0.inputs.k) 17 isAgg25 <| wU [71] <| wAdd (c0.inputs.n : Int) h0 <| wU [74, 75] ?_
  refine wFix 153 _ false (bne_eq_false_iff_eq.2 n3) <| wU [76, 77, 78, 79, 82, 83, 84, 85, 80, 81, 86, 87, 88, 89, 90] <| wN <| tN <| cFf <| kS <| pu1 <| zQ <| pu1 <| nT <| blockE ?_
  refine loopA (γ := Nat × Nat) (fun ⟨d, m⟩ => [(6, Pt c1 0), (10, I h0), (11, .slice m0 k0 n0), (13, .slice r0 q0 s0), (15, I (i : Int)), (17, I (d : Int)), (16, I (m : Int))]) (fun ⟨d, m⟩ w => Sat W w (s2 :: t2 :: q2 :: r2 :: [(v1, .cells #[.slice a1_40 n1_43 k1_44, .slice a2_41 n2_45 k2_46, .slice a3_42 n3_47 k3_48, I c0.priority] 28 (0, 0))] :: c1_49 :: p2 :: c3_51 :: [(c1, .cells (encJob c0).toArray 28 (0, 0))] :: [(j2, .cells #[.slice t nt kt, I k2] 85 (0, 0))] :: o2 :: j1 :: H :: F) /\ d <= b0.deps.n /\ (SubI a0.v.deps b0.v.deps m d)) (fun ⟨d, m⟩ => b0.deps.n - d) (0, 0) ⟨e6, om, ⟨Nat.zero_le _, fun z hz => by simpa using hbs z (by simpa using hz)⟩⟩ ?_
  rintro ⟨d, m⟩ ρ _ ⟨z0, hd, hsub⟩
  have hml := hsub.1; simp only [Task.v] at hml
  refine seqE <| sR <| pu3 <| sIdxO i1 (i : Int) i runUnderlying39 sizeOf46 fun f6 _ _ w1 g6 _ => ?_
  obtain rfl : b0 = f6 := Option.some.inj (f1.symm.trans w1)
  have hz_x_125 : L1.all[i]? = some b0.v := by rw [<- hzv1]; exact map_at (f := Task.v) w1
  have hdn_x_125 := (e1 b0 (List.mem_of_getElem? w1)).deps.len; have hdl_x_125 := (e1 b0 (List.mem_of_getElem? w1)).deps.le
  refine pu1 <| sLp z0 (g6.up 0 rfl) 6 (.slice b0.deps.a b0.deps.n b0.deps.k) (isAgg22 _) <| pu2 <| nT <| cD ((d : Int) < (b0.deps.n : Int)) (fun h6 => ?_) (fun h6 => ?_)
  rotate_left
  ·refine exitE <| xB <| tN <| sR <| pu3 <| sIdxO g1 (i : Int) i runUnderlying39 sizeOf46 fun i6 _ _ x1 j6 _ => ?_
   obtain rfl : a0 = i6 := Option.some.inj (b1.symm.trans x1)
   have hz_x_118 : L0.all[i]? = some a0.v := by rw [<- hzv0]; exact map_at (f := Task.v) x1
   have hdn_x_118 := (w0 a0 (List.mem_of_getElem? x1)).deps.len; have hdl_x_118 := (w0 a0 (List.mem_of_getElem? x1)).deps.le
   have hbt := bar_at hbr hg0 hg1 hz_x_118 hz_x_125; obtain ⟨hb1, hb2, hb3, hb4, hb5, ⟨hba, hbb, hbs⟩, hbn⟩ := hbt; simp only [Task.v] at hb1 hb2 hb3 hb4 hb5
   refine pu1 <| sLp z0 (j6.up 2 rfl) 6 (.slice a0.deps.a a0.deps.n a0.deps.k) (isAgg22 _) <| pu2 <| nT ?_
   have k6 : ((m : Int) : Int) = (a0.deps.n : Int) := (by have h := hsub.done (show b0.deps.l.length <= d by omega); simp only [Task.v] at h; omega)
   exact cF _ (bne_eq_false_iff_eq.2 k6) <| skipE <| bN <| tN <| rE <| pu1 <| sAdd (i : Int) 1 <| pu1 <| nT <| ⟨i + 1, od, alA, z0, om⟩
  refine kT <| seqE <| blockE <| seqE ?_
  obtain ⟨l6, m1, n1, s1, y1, z1, v8⟩ := OwnT.elem g1 (i : Int)
  rw [Int.toNat_natCast] at s1 y1 z1
  obtain rfl : a0 = l6 := Option.some.inj (b1.symm.trans s1)
  have hz_x_118 : L0.all[i]? = some a0.v := by rw [<- hzv0]; exact map_at (f := Task.v) s1
  have hdn_x_118 := (w0 a0 (List.mem_of_getElem? s1)).deps.len; have hdl_x_118 := (w0 a0 (List.mem_of_getElem? s1)).deps.le
  have hbt := bar_at hbr hg0 hg1 hz_x_118 hz_x_125; obtain ⟨hb1, hb2, hb3, hb4, hb5, ⟨hba, hbb, hbs⟩, hbn⟩ := hbt; simp only [Task.v] at hb1 hb2 hb3 hb4 hb5
  by_cases o3 : ((m : Int) : Int) < (a0.deps.n : Int)
  rotate_left
  ·refine drawE [] [(5, ⟨m1, n1 + i * 9 + 6, none⟩, .slice a0.deps.a a0.deps.n a0.deps.k)] [(true, [0, 1, 2]), (true, [3]), (true, [4]), (true, [5]), (true, [6, 7, 8]), (true, [9, 10, 11, 12, 14, 17, 18, 19, 20, 22, 13, 15, 16, 21, 23, 24, 25, 26])] rfl kr ⟨.inr ((y1.up 2 rfl).cell z0 (k := 6) rfl), trivial⟩ ?_
   have m6 := z0.drew
   refine wU [0, 1, 2] <| wY (.pointer (some ⟨m1, n1 + i * 9, none⟩)) rfl (fun w _ => Y_idx (a := m0) (i := (i : Int)) (len := k0) (cap := n0) rfl runUnderlying39 sizeOf46 kr kr z1) <| wU [4] <| wLd (.slice a0.deps.a a0.deps.n a0.deps.k) 0 isAgg22 <| wU [6, 7, 8] <| wFix 187 _ false (decide_eq_false o3) <| wU [9, 10, 11, 12, 14, 17, 18, 19, 20, 22, 13, 15, 16, 21, 23, 24, 25, 26] <| wN <| tN <| cFf <| skipE <| bN <| tN <| rE <| pu1 <| sAdd (d : Int) 1 <| pu1 <| nT ?_
   exact ⟨(d + 1, m), od, alA, m6, om, (by obtain ⟨y0, hy0⟩ := at_some (xs := b0.deps.l) (n := b0.deps.n) hdn_x_125 (k := d) om; exact hsub.miss hba hbb hy0 (by intro h; have h2 := (List.getElem?_eq_some_iff.1 h).1; simp only [Task.v] at h2; omega))⟩
  obtain ⟨n6, p3, q3, u2, r3, s3, w8⟩ := OwnT.elem i1 (i : Int)
  rw [Int.toNat_natCast] at u2 r3 s3
  obtain rfl : b0 = n6 := Option.some.inj (f1.symm.trans u2)
  obtain ⟨a2, t3, u3, v2, o6, p6⟩ := RdT.elem (e1 b0 (List.mem_of_getElem? u2)).deps (d : Int)
  rw [Int.toNat_natCast] at v2
  obtain ⟨b2, v3, w3, w2, q6, r6⟩ := RdT.elem (w0 a0 (List.mem_of_getElem? b1)).deps (m : Int)
  rw [Int.toNat_natCast] at w2
  refine drawE [] [(5, ⟨m1, n1 + i * 9 + 6, none⟩, .slice a0.deps.a a0.deps.n a0.deps.k), (13, ⟨p3, q3 + i * 9 + 6, none⟩, .slice b0.deps.a b0.deps.n b0.deps.k), (16, ⟨t3, u3, none⟩, I a2), (21, ⟨m1, n1 + i * 9 + 6, none⟩, .slice a0.deps.a a0.deps.n a0.deps.k), (24, ⟨v3, w3, none⟩, I b2)] [(true, [0, 1, 2]), (true, [3]), (true, [4]), (true, [5]), (true, [6, 7, 8]), (true, [9, 10]), (true, [11]), (true, [12, 14, 17, 18]), (true, [19]), (true, [20, 22]), (true, [13]), (true, [15]), (true, [16]), (true, [21]), (true, [23]), (true, [24]), (true, [25, 26])] rfl kr ⟨.inr ((y1.up 2 rfl).cell z0 (k := 6) rfl), .inr ((r3.up 0 rfl).cell z0 (k := 6) rfl), .inr ((o6.up 1 rfl).cell z0 (k := 0) rfl), .inr ((y1.up 2 rfl).cell z0 (k := 6) rfl), .inr ((q6.up 3 rfl).cell z0 (k := 0) rfl), trivial⟩ ?_
  have x3 := z0.drew
  refine wU [0, 1, 2] <| wY (.pointer (some ⟨m1, n1 + i * 9, none⟩)) rfl (fun w _ => Y_idx (a := m0) (i := (i : Int)) (len := k0) (cap := n0) rfl runUnderlying39 sizeOf46 kr kr z1) <| wU [4] <| wLd (.slice a0.deps.a a0.deps.n a0.deps.k) 0 isAgg22 <| wU [6, 7, 8] <| wFix 187 _ true (decide_eq_true o3) <| wU [9, 10] <| wY (.pointer (some ⟨p3, q3 + i * 9, none⟩)) rfl (fun w _ => Y_idx (a := r0) (i := (i : Int)) (len := q0) (cap := s0) rfl runUnderlying39 sizeOf46 kr kr s3) <| wU [12, 14, 17, 18] <| wY (.pointer (some ⟨m1, n1 + i * 9, none⟩)) rfl (fun w _ => Y_idx (a := m0) (i := (i : Int)) (len := k0) (cap := n0) rfl runUnderlying39 sizeOf46 kr kr z1) <| wU [20, 22] ?_
  refine wLd (.slice b0.deps.a b0.deps.n b0.deps.k) 1 isAgg22 <| wY (.pointer (some ⟨t3, u3, none⟩)) rfl (fun w _ => Y_idx (a := b0.deps.a) (i := (d : Int)) (len := b0.deps.n) (cap := b0.deps.k) rfl runUnderlying22 sizeOf3 kr kr p6) <| wLd (I a2) 2 isAgg3 <| wLd (.slice a0.deps.a a0.deps.n a0.deps.k) 3 isAgg22 <| wY (.pointer (some ⟨v3, w3, none⟩)) rfl (fun w _ => Y_idx (a := a0.deps.a) (i := (m : Int)) (len := a0.deps.n) (cap := a0.deps.k) rfl runUnderlying22 sizeOf3 kr kr r6) <| wLd (I b2) 4 isAgg3 <| wU [25, 26] <| wN <| tN <| cE a2 b2 (fun s6 => ?_) (fun s6 => ?_)
  rotate_left
  ·exact skipE <| bN <| tN <| rE <| pu1 <| sAdd (d : Int) 1 <| pu1 <| nT <| ⟨(d + 1, m), od, alA, x3, om, (hsub.miss hba hbb v2 (by intro h; have h2 := Option.some.inj (w2.symm.trans h); omega))⟩
  refine rE <| pu1 <| sAdd (m : Int) 1 <| pu1 <| nB <| rE <| pu1 <| sAdd (d : Int) 1 <| pu1 <| nT ?_
  exact ⟨(d + 1, m + 1), od, alA, x3, om, (hsub.hit hba v2 (by rw [show a2 = b2 by omega]; exact w2))⟩
 refine drawE [] [(4, ⟨f0, g0 + i * 9 + 0, none⟩, I a0.stage), (9, ⟨i0, j0 + i * 9 + 0, none⟩, I b0.stage), (16, ⟨f0, g0 + i * 9 + 1, none⟩, I a0.part), (21, ⟨i0, j0 + i * 9 + 1, none⟩, I b0.part), (29, ⟨f0, g0 + i * 9 + 2 + 0, none⟩, I a0.rectX0), (29, ⟨f0, g0 + i * 9 + 2 + 1, none⟩, I a0.rectY0), (29, ⟨f0, g0 + i * 9 + 2 + 2, none⟩, I a0.rectX1), (29, ⟨f0, g0 + i * 9 + 2 + 3, none⟩, I a0.rectY1), (34, ⟨i0, j0 + i * 9 + 2 + 0, none⟩, I b0.rectX0), (34, ⟨i0, j0 + i * 9 + 2 + 1, none⟩, I b0.rectY0), (34, ⟨i0, j0 + i * 9 + 2 + 2, none⟩, I b0.rectX1), (34, ⟨i0, j0 + i * 9 + 2 + 3, none⟩, I b0.rectY1), (42, ⟨f0, g0 + i * 9 + 7, none⟩, I a0.rows), (47, ⟨i0, j0 + i * 9 + 7, none⟩, I b0.rows), (55, ⟨f0, g0 + i * 9 + 8, none⟩, I a0.scratch), (60, ⟨i0, j0 + i * 9 + 8, none⟩, I b0.scratch), (68, ⟨f0, g0 + i * 9 + 0, none⟩, I a0.stage), (70, ⟨c1, 0, none⟩, .slice c0.inputs.a c0.inputs.n c0.inputs.k), (80, ⟨f0, g0 + i * 9 + 6, none⟩, .slice a0.deps.a a0.deps.n a0.deps.k), (86, ⟨i0, j0 + i * 9 + 6, none⟩, .slice b0.deps.a b0.deps.n b0.deps.k)] [(true, [0, 1]), (true, [2]), (true, [3, 5, 6]), (true, [7]), (true, [8]), (true, [4]), (true, [9]), (true, [10, 11]), (true, [12, 13]), (true, [14]), (true, [15, 17, 18]), (true, [19]), (true, [20]), (true, [16]), (true, [21]), (true, [22, 23, 24]), (true, [25, 26]), (true, [27]), (true, [28, 30, 31]), (true, [32]), (true, [33]), (true, [29]), (true, [34]), (true, [35]), (true, [36, 37]), (true, [38, 39]), (true, [40]), (true, [41, 43, 44]), (true, [45]), (true, [46]), (true, [42]), (true, [47]), (true, [48, 49, 50]), (true, [51, 52]), (true, [53]), (true, [54, 56, 57]), (true, [58]), (true, [59]), (true, [55]), (true, [60]), (true, [61, 62, 63]), (true, [64, 65]), (true, [66]), (true, [67, 69, 72]), (true, [68]), (true, [70]), (true, [71]), (true, [73]), (true, [74, 75]), (true, [76, 77]), (true, [78]), (true, [79, 82, 83]), (true, [84]), (true, [85]), (true, [80]), (true, [81]), (true, [86]), (true, [87, 88, 89, 90])] rfl kr ⟨.inr ((o0.up 2 rfl).cell e0 (k := 0) rfl), .inr ((p0.up 0 rfl).cell e0 (k := 0) rfl), .inr ((o0.up 2 rfl).cell e0 (k := 1) rfl), .inr ((p0.up 0 rfl).cell e0 (k := 1) rfl), .inr ((o0.up 2 rfl).cell e0 (k := 2) rfl), .inr ((o0.up 2 rfl).cell e0 (k := 3) rfl), .inr ((o0.up 2 rfl).cell e0 (k := 4) rfl), .inr ((o0.up 2 rfl).cell e0 (k := 5) rfl), .inr ((p0.up 0 rfl).cell e0 (k := 2) rfl), .inr ((p0.up 0 rfl).cell e0 (k := 3) rfl), .inr ((p0.up 0 rfl).cell e0 (k := 4) rfl), .inr ((p0.up 0 rfl).cell e0 (k := 5) rfl), .inr ((o0.up 2 rfl).cell e0 (k := 7) rfl), .inr ((p0.up 0 rfl).cell e0 (k := 7) rfl), .inr ((o0.up 2 rfl).cell e0 (k := 8) rfl), .inr ((p0.up 0 rfl).cell e0 (k := 8) rfl), .inr ((o0.up 2 rfl).cell e0 (k := 0) rfl), cI e0 8, .inr ((o0.up 2 rfl).cell e0 (k := 6) rfl), .inr ((p0.up 0 rfl).cell e0 (k := 6) rfl), trivial⟩ ?_
 have t6 := e0.drew
 refine wU [0, 1] <| wY (.pointer (some ⟨f0, g0 + i * 9, none⟩)) rfl (fun w _ => Y_idx (a := m0) (i := (i : Int)) (len := k0) (cap := n0) rfl runUnderlying39 sizeOf46 kr kr t0) <| wU [3, 5, 6] <| wY (.pointer (some ⟨i0, j0 + i * 9, none⟩)) rfl (fun w _ => Y_idx (a := r0) (i := (i : Int)) (len := q0) (cap := s0) rfl runUnderlying39 sizeOf46 kr kr x0) <| wU [8] <| wLd (I a0.stage) 0 isAgg3 <| wLd (I b0.stage) 1 isAgg3 <| wU [10, 11] <| wFix 89 _ false (bne_eq_false_iff_eq.2 i3) <| wU [12, 13] <| wY (.pointer (some ⟨f0, g0 + i * 9, none⟩)) rfl (fun w _ => Y_idx (a := m0) (i := (i : Int)) (len := k0) (cap := n0) rfl runUnderlying39 sizeOf46 kr kr t0) <| wU [15, 17, 18] ?_
 refine wY (.pointer (some ⟨i0, j0 + i * 9, none⟩)) rfl (fun w _ => Y_idx (a := r0) (i := (i : Int)) (len := q0) (cap := s0) rfl runUnderlying39 sizeOf46 kr kr x0) <| wU [20] <| wLd (I a0.part) 2 isAgg3 <| wLd (I b0.part) 3 isAgg3 <| wU [22, 23, 24] <| wFix 102 _ false (bne_eq_false_iff_eq.2 j3) <| wU [25, 26] <| wY (.pointer (some ⟨f0, g0 + i * 9, none⟩)) rfl (fun w _ => Y_idx (a := m0) (i := (i : Int)) (len := k0) (cap := n0) rfl runUnderlying39 sizeOf46 kr kr t0) <| wU [28, 30, 31] <| wY (.pointer (some ⟨i0, j0 + i * 9, none⟩)) rfl (fun w _ => Y_idx (a := r0) (i := (i : Int)) (len := q0) (cap := s0) rfl runUnderlying39 sizeOf46 kr kr x0) <| wU [33] ?_
 refine wY (.agg #[I a0.rectX0, I a0.rectY0, I a0.rectX1, I a0.rectY1]) rfl (fun w hF => Y_loadF rfl (isAgg44 w) (sizeOf44 w) kr rfl ⟨hF 4 _ _ rfl, hF 5 _ _ rfl, hF 6 _ _ rfl, hF 7 _ _ rfl, trivial⟩) <| wY (.agg #[I b0.rectX0, I b0.rectY0, I b0.rectX1, I b0.rectY1]) rfl (fun w hF => Y_loadF rfl (isAgg44 w) (sizeOf44 w) kr rfl ⟨hF 8 _ _ rfl, hF 9 _ _ rfl, hF 10 _ _ rfl, hF 11 _ _ rfl, trivial⟩) <| wY (.bool (!(((a0.rectX0 : Int) == b0.rectX0) && ((a0.rectY0 : Int) == b0.rectY0) && ((a0.rectX1 : Int) == b0.rectX1) && ((a0.rectY1 : Int) == b0.rectY1)))) rfl (fun w _ => Y_eqS rfl kr kr (eqvn44 _ a0.rectX0 a0.rectY0 a0.rectX1 a0.rectY1 b0.rectX0 b0.rectY0 b0.rectX1 b0.rectY1)) ?_
 refine wU [36, 37] <| wFix 115 _ false (congrArg Bool.not (show (((a0.rectX0 : Int) == b0.rectX0) && ((a0.rectY0 : Int) == b0.rectY0) && ((a0.rectX1 : Int) == b0.rectX1) && ((a0.rectY1 : Int) == b0.rectY1)) = true from by simpa [and_assoc] using k3)) ?_
 refine wU [38, 39] <| wY (.pointer (some ⟨f0, g0 + i * 9, none⟩)) rfl (fun w _ => Y_idx (a := m0) (i := (i : Int)) (len := k0) (cap := n0) rfl runUnderlying39 sizeOf46 kr kr t0) <| wU [41, 43, 44] <| wY (.pointer (some ⟨i0, j0 + i * 9, none⟩)) rfl (fun w _ => Y_idx (a := r0) (i := (i : Int)) (len := q0) (cap := s0) rfl runUnderlying39 sizeOf46 kr kr x0) <| wU [46] <| wLd (I a0.rows) 12 isAgg3 <| wLd (I b0.rows) 13 isAgg3 <| wU [48, 49, 50] <| wFix 128 _ false (bne_eq_false_iff_eq.2 l3) <| wU [51, 52] <| wY (.pointer (some ⟨f0, g0 + i * 9, none⟩)) rfl (fun w _ => Y_idx (a := m0) (i := (i : Int)) (len := k0) (cap := n0) rfl runUnderlying39 sizeOf46 kr kr t0) <| wU [54, 56, 57] ?_
 refine wY (.pointer (some ⟨i0, j0 + i * 9, none⟩)) rfl (fun w _ => Y_idx (a := r0) (i := (i : Int)) (len := q0) (cap := s0) rfl runUnderlying39 sizeOf46 kr kr x0) <| wU [59] <| wLd (I a0.scratch) 14 isAgg3 <| wLd (I b0.scratch) 15 isAgg3 <| wU [61, 62, 63] <| wFix 141 _ false (bne_eq_false_iff_eq.2 m3) <| wU [64, 65] <| wY (.pointer (some ⟨f0, g0 + i * 9, none⟩)) rfl (fun w _ => Y_idx (a := m0) (i := (i : Int)) (len := k0) (cap := n0) rfl runUnderlying39 sizeOf46 kr kr t0) <| wU [67, 69, 72] <| wLd (I a0.stage) 16 isAgg3 <| wLd (.slice c0.inputs.a c0.inputs.n c0.inputs.k) 17 isAgg25 <| wU [71] <| wAdd (c0.inputs.n : Int) h0 <| wU [74, 75] <| wFix 153 _ true (bne_iff_ne.2 n3) ?_
 refine wU [76, 77] <| wY (.pointer (some ⟨f0, g0 + i * 9, none⟩)) rfl (fun w _ => Y_idx (a := m0) (i := (i : Int)) (len := k0) (cap := n0) rfl runUnderlying39 sizeOf46 kr kr t0) <| wU [79, 82, 83] <| wY (.pointer (some ⟨i0, j0 + i * 9, none⟩)) rfl (fun w _ => Y_idx (a := r0) (i := (i : Int)) (len := q0) (cap := s0) rfl runUnderlying39 sizeOf46 kr kr x0) <| wU [85] <| wLd (.slice a0.deps.a a0.deps.n a0.deps.k) 18 isAgg22 <| wU [81] <| wLd (.slice b0.deps.a b0.deps.n b0.deps.k) 19 isAgg22 <| wU [87, 88, 89, 90] <| wN <| tN ?_
 have u6 : ((a0.deps.n : Int) : Int) = (b0.deps.n : Int) := (by have h := hbn (by simp only [Task.v, Job.v, List.length_map]; omega); have h2 := congrArg List.length h; simp only [Task.v] at h2; omega)
 refine cF _ (bne_eq_false_iff_eq.2 u6) <| kS <| pu1 <| zQ <| pu1 <| nT <| blockE ?_
 refine loopA (γ := Nat × Nat) (fun ⟨d, m⟩ => [(6, Pt c1 0), (10, I h0), (11, .slice m0 k0 n0), (13, .slice r0 q0 s0), (15, I (i : Int)), (17, I (d : Int)), (16, I (m : Int))]) (fun ⟨d, m⟩ w => Sat W w (s2 :: t2 :: q2 :: r2 :: [(v1, .cells #[.slice a1_40 n1_43 k1_44, .slice a2_41 n2_45 k2_46, .slice a3_42 n3_47 k3_48, I c0.priority] 28 (0, 0))] :: c1_49 :: p2 :: c3_51 :: [(c1, .cells (encJob c0).toArray 28 (0, 0))] :: [(j2, .cells #[.slice t nt kt, I k2] 85 (0, 0))] :: o2 :: j1 :: H :: F) /\ d <= b0.deps.n /\ (SubI a0.v.deps b0.v.deps m d)) (fun ⟨d, m⟩ => b0.deps.n - d) (0, 0) ⟨t6, om, ⟨Nat.zero_le _, fun z hz => by simpa using hbs z (by simpa using hz)⟩⟩ ?_
 rintro ⟨d, m⟩ ρ _ ⟨a1, hd, hsub⟩
 have hml := hsub.1; simp only [Task.v] at hml
 refine seqE <| sR <| pu3 <| sIdxO i1 (i : Int) i runUnderlying39 sizeOf46 fun v6 _ _ c2 w6 _ => ?_
 obtain rfl : b0 = v6 := Option.some.inj (f1.symm.trans c2)
 have hz_x_125 : L1.all[i]? = some b0.v := by rw [<- hzv1]; exact map_at (f := Task.v) c2
 have hdn_x_125 := (e1 b0 (List.mem_of_getElem? c2)).deps.len; have hdl_x_125 := (e1 b0 (List.mem_of_getElem? c2)).deps.le
 refine pu1 <| sLp a1 (w6.up 0 rfl) 6 (.slice b0.deps.a b0.deps.n b0.deps.k) (isAgg22 _) <| pu2 <| nT <| cD ((d : Int) < (b0.deps.n : Int)) (fun x6 => ?_) (fun x6 => ?_)
 rotate_left
 ·refine exitE <| xB <| tN <| sR <| pu3 <| sIdxO g1 (i : Int) i runUnderlying39 sizeOf46 fun y6 _ _ d2 z6 _ => ?_
  obtain rfl : a0 = y6 := Option.some.inj (b1.symm.trans d2)
  have hz_x_118 : L0.all[i]? = some a0.v := by rw [<- hzv0]; exact map_at (f := Task.v) d2
  have hdn_x_118 := (w0 a0 (List.mem_of_getElem? d2)).deps.len; have hdl_x_118 := (w0 a0 (List.mem_of_getElem? d2)).deps.le
  have hbt := bar_at hbr hg0 hg1 hz_x_118 hz_x_125; obtain ⟨hb1, hb2, hb3, hb4, hb5, ⟨hba, hbb, hbs⟩, hbn⟩ := hbt; simp only [Task.v] at hb1 hb2 hb3 hb4 hb5
  refine pu1 <| sLp a1 (z6.up 2 rfl) 6 (.slice a0.deps.a a0.deps.n a0.deps.k) (isAgg22 _) <| pu2 <| nT ?_
  have a7 : ((m : Int) : Int) = (a0.deps.n : Int) := (by have h := hsub.done (show b0.deps.l.length <= d by omega); simp only [Task.v] at h; omega)
  exact cF _ (bne_eq_false_iff_eq.2 a7) <| skipE <| bN <| tN <| rE <| pu1 <| sAdd (i : Int) 1 <| pu1 <| nT <| ⟨i + 1, od, alA, a1, om⟩
 refine kT <| seqE <| blockE <| seqE ?_
 obtain ⟨b7, o1, q1, t1, e2, f2, e9⟩ := OwnT.elem g1 (i : Int)
 rw [Int.toNat_natCast] at t1 e2 f2
 obtain rfl : a0 = b7 := Option.some.inj (b1.symm.trans t1)
 have hz_x_118 : L0.all[i]? = some a0.v := by rw [<- hzv0]; exact map_at (f := Task.v) t1
 have hdn_x_118 := (w0 a0 (List.mem_of_getElem? t1)).deps.len; have hdl_x_118 := (w0 a0 (List.mem_of_getElem? t1)).deps.le
 have hbt := bar_at hbr hg0 hg1 hz_x_118 hz_x_125; obtain ⟨hb1, hb2, hb3, hb4, hb5, ⟨hba, hbb, hbs⟩, hbn⟩ := hbt; simp only [Task.v] at hb1 hb2 hb3 hb4 hb5
 by_cases y3 : ((m : Int) : Int) < (a0.deps.n : Int)
 rotate_left
 ·refine drawE [] [(5, ⟨o1, q1 + i * 9 + 6, none⟩, .slice a0.deps.a a0.deps.n a0.deps.k)] [(true, [0, 1, 2]), (true, [3]), (true, [4]), (true, [5]), (true, [6, 7, 8]), (true, [9, 10, 11, 12, 14, 17, 18, 19, 20, 22, 13, 15, 16, 21, 23, 24, 25, 26])] rfl kr ⟨.inr ((e2.up 2 rfl).cell a1 (k := 6) rfl), trivial⟩ ?_
  have c7 := a1.drew
  refine wU [0, 1, 2] <| wY (.pointer (some ⟨o1, q1 + i * 9, none⟩)) rfl (fun w _ => Y_idx (a := m0) (i := (i : Int)) (len := k0) (cap := n0) rfl runUnderlying39 sizeOf46 kr kr f2) <| wU [4] <| wLd (.slice a0.deps.a a0.deps.n a0.deps.k) 0 isAgg22 <| wU [6, 7, 8] <| wFix 187 _ false (decide_eq_false y3) <| wU [9, 10, 11, 12, 14, 17, 18, 19, 20, 22, 13, 15, 16, 21, 23, 24, 25, 26] <| wN <| tN <| cFf <| skipE <| bN <| tN <| rE <| pu1 <| sAdd (d : Int) 1 <| pu1 <| nT ?_
  exact ⟨(d + 1, m), od, alA, c7, om, (by obtain ⟨y0, hy0⟩ := at_some (xs := b0.deps.l) (n := b0.deps.n) hdn_x_125 (k := d) om; exact hsub.miss hba hbb hy0 (by intro h; have h2 := (List.getElem?_eq_some_iff.1 h).1; simp only [Task.v] at h2; omega))⟩
 obtain ⟨d7, z3, a4, x2, b4, c4, f9⟩ := OwnT.elem i1 (i : Int)
 rw [Int.toNat_natCast] at x2 b4 c4
 obtain rfl : b0 = d7 := Option.some.inj (f1.symm.trans x2)
 obtain ⟨g2, d4, e4, y2, e7, f7⟩ := RdT.elem (e1 b0 (List.mem_of_getElem? x2)).deps (d : Int)
 rw [Int.toNat_natCast] at y2
 obtain ⟨i2, f4, g4, z2, g7, h7⟩ := RdT.elem (w0 a0 (List.mem_of_getElem? b1)).deps (m : Int)
 rw [Int.toNat_natCast] at z2
 refine drawE [] [(5, ⟨o1, q1 + i * 9 + 6, none⟩, .slice a0.deps.a a0.deps.n a0.deps.k), (13, ⟨z3, a4 + i * 9 + 6, none⟩, .slice b0.deps.a b0.deps.n b0.deps.k), (16, ⟨d4, e4, none⟩, I g2), (21, ⟨o1, q1 + i * 9 + 6, none⟩, .slice a0.deps.a a0.deps.n a0.deps.k), (24, ⟨f4, g4, none⟩, I i2)] [(true, [0, 1, 2]), (true, [3]), (true, [4]), (true, [5]), (true, [6, 7, 8]), (true, [9, 10]), (true, [11]), (true, [12, 14, 17, 18]), (true, [19]), (true, [20, 22]), (true, [13]), (true, [15]), (true, [16]), (true, [21]), (true, [23]), (true, [24]), (true, [25, 26])] rfl kr ⟨.inr ((e2.up 2 rfl).cell a1 (k := 6) rfl), .inr ((b4.up 0 rfl).cell a1 (k := 6) rfl), .inr ((e7.up 1 rfl).cell a1 (k := 0) rfl), .inr ((e2.up 2 rfl).cell a1 (k := 6) rfl), .inr ((g7.up 3 rfl).cell a1 (k := 0) rfl), trivial⟩ ?_
 have h4 := a1.drew
 refine wU [0, 1, 2] <| wY (.pointer (some ⟨o1, q1 + i * 9, none⟩)) rfl (fun w _ => Y_idx (a := m0) (i := (i : Int)) (len := k0) (cap := n0) rfl runUnderlying39 sizeOf46 kr kr f2) <| wU [4] <| wLd (.slice a0.deps.a a0.deps.n a0.deps.k) 0 isAgg22 <| wU [6, 7, 8] <| wFix 187 _ true (decide_eq_true y3) <| wU [9, 10] <| wY (.pointer (some ⟨z3, a4 + i * 9, none⟩)) rfl (fun w _ => Y_idx (a := r0) (i := (i : Int)) (len := q0) (cap := s0) rfl runUnderlying39 sizeOf46 kr kr c4) <| wU [12, 14, 17, 18] <| wY (.pointer (some ⟨o1, q1 + i * 9, none⟩)) rfl (fun w _ => Y_idx (a := m0) (i := (i : Int)) (len := k0) (cap := n0) rfl runUnderlying39 sizeOf46 kr kr f2) <| wU [20, 22] ?_
 refine wLd (.slice b0.deps.a b0.deps.n b0.deps.k) 1 isAgg22 <| wY (.pointer (some ⟨d4, e4, none⟩)) rfl (fun w _ => Y_idx (a := b0.deps.a) (i := (d : Int)) (len := b0.deps.n) (cap := b0.deps.k) rfl runUnderlying22 sizeOf3 kr kr f7) <| wLd (I g2) 2 isAgg3 <| wLd (.slice a0.deps.a a0.deps.n a0.deps.k) 3 isAgg22 <| wY (.pointer (some ⟨f4, g4, none⟩)) rfl (fun w _ => Y_idx (a := a0.deps.a) (i := (m : Int)) (len := a0.deps.n) (cap := a0.deps.k) rfl runUnderlying22 sizeOf3 kr kr h7) <| wLd (I i2) 4 isAgg3 <| wU [25, 26] <| wN <| tN <| cE g2 i2 (fun i7 => ?_) (fun i7 => ?_)
 rotate_left
 ·exact skipE <| bN <| tN <| rE <| pu1 <| sAdd (d : Int) 1 <| pu1 <| nT <| ⟨(d + 1, m), od, alA, h4, om, (hsub.miss hba hbb y2 (by intro h; have h2 := Option.some.inj (z2.symm.trans h); omega))⟩
 refine rE <| pu1 <| sAdd (m : Int) 1 <| pu1 <| nB <| rE <| pu1 <| sAdd (d : Int) 1 <| pu1 <| nT ?_
 exact ⟨(d + 1, m + 1), od, alA, h4, om, (hsub.hit hba y2 (by rw [show g2 = i2 by omega]; exact z2))⟩
end Go.Proofs.YtdingplbadblpaaGreat
