import Derived.Test.YtcddcpaodcjecaaApi
namespace Go.Proofs.Ytcddcpaodcjecaa
open Go Go.E
set_option linter.unusedVariables false
set_option linter.unusedSimpArgs false
set_option linter.unnecessarySimpa false
set_option maxRecDepth 100000
set_option maxHeartbeats 2000000

/-! ### the numbers of a job and their bytes -/
-- squeezed
def be8 (n : Int) : List Int := [n % 18446744073709551616 / 72057594037927936 % 256, n % 18446744073709551616 / 281474976710656 % 256, n % 18446744073709551616 / 1099511627776 % 256, n % 18446744073709551616 / 4294967296 % 256, n % 18446744073709551616 / 16777216 % 256, n % 18446744073709551616 / 65536 % 256, n % 18446744073709551616 / 256 % 256, n % 18446744073709551616 / 1 % 256]
theorem be8_len (n : Int) : (be8 n).length = 8 := rfl
theorem be8_bytes (n : Int) : Bytes (be8 n) := by
  intro b hb
  simp only [be8, List.mem_cons, List.not_mem_nil, or_false] at hb
  rcases hb with rfl | rfl | rfl | rfl | rfl | rfl | rfl | rfl <;> omega
def bytesOf (l : List Int) : List Int := l.flatMap be8
theorem bytesOf_app (a b : List Int) : bytesOf (a ++ b) = bytesOf a ++ bytesOf b := by simp [bytesOf]
theorem bytesOf_cons (a : Int) (b : List Int) : bytesOf (a :: b) = be8 a ++ bytesOf b := by simp [bytesOf]
theorem bytesOf_len (l : List Int) : (bytesOf l).length = 8 * l.length := by
  induction l with
  | nil => rfl
  | cons x l ih => rw [bytesOf_cons]; simp [ih, be8_len]; omega
theorem bytesOf_bytes (l : List Int) : Bytes (bytesOf l) := by
  intro b hb
  obtain ⟨n, _, h⟩ := List.mem_flatMap.1 hb
  exact be8_bytes n b h
theorem Bytes.app {a b : List Int} (ha : Bytes a) (hb : Bytes b) : Bytes (a ++ b) := by
  intro x hx
  rcases List.mem_append.1 hx with h | h
  · exact ha x h
  · exact hb x h
def nInts (l : List Int) : List Int := (l.length : Int) :: l
def nTap (t : TapV) : List Int := t.first :: nInts t.weights
def nTaps (l : List TapV) : List Int := (l.length : Int) :: l.flatMap nTap
def nOp (p : POp) : List Int := [p.code, p.arg]
def nOps (l : List POp) : List Int := (l.length : Int) :: l.flatMap nOp
def nBool (b : Bool) : Int := if b then 1 else 0
def nStage (s : StageV) : List Int :=
  [s.kind, s.a, s.b, nBool s.barrier, s.edgePolicy, s.edgeFill, s.kW, s.kH] ++ (nInts s.weights ++ (nInts s.row ++ (nInts s.col ++ ([s.shift, s.shift2] ++ (nTaps s.x ++ (nTaps s.y ++ ([s.bins] ++ (nOps s.ops ++ [s.max_]))))))))
def nPlane (p : PlaneV) : List Int := [p.w, p.h, p.max_] ++ nInts p.pix
def nJob (j : JobV) : List Int := [j.priority, (j.inputs.length : Int)] ++ (j.inputs.flatMap nPlane ++ (((j.stages.length : Int) :: j.stages.flatMap nStage) ++ nInts j.outputs))
/-- What is written, as long as it stays within the limit. -/
structure Wr where
  bs : List Int
  full : Bool
def Wr.one (s : Wr) (n : Int) : Wr := if s.full = true ∨ 262144 < s.bs.length + 8 then ⟨s.bs, true⟩ else ⟨s.bs ++ be8 n, false⟩
def Wr.put (s : Wr) (l : List Int) : Wr := l.foldl Wr.one s
theorem Wr.put_app (s : Wr) (a b : List Int) : s.put (a ++ b) = (s.put a).put b := by simp [Wr.put]
theorem Wr.put_nil (s : Wr) : s.put [] = s := rfl
theorem Wr.put_full (bs : List Int) : ∀ l : List Int, (⟨bs, true⟩ : Wr).put l = ⟨bs, true⟩ := by
  intro l
  induction l with
  | nil => rfl
  | cons x l ih => simp only [Wr.put, List.foldl_cons] at ih ⊢; rw [show Wr.one ⟨bs, true⟩ x = ⟨bs, true⟩ from by simp [Wr.one]]; exact ih
theorem Wr.put_take {s t : Wr} {l : List Int} {i : Nat} {x : Int} (h : s.put (l.take i) = t) (hx : l[i]? = some x) : s.put (l.take (i + 1)) = t.one x := by
  rw [List.take_add_one, hx, Option.toList_some, Wr.put_app, h]; rfl
theorem Wr.put_stop {s : Wr} {l : List Int} {i : Nat} {bs : List Int} (h : s.put (l.take i) = ⟨bs, true⟩) : s.put l = ⟨bs, true⟩ := by
  rw [← List.take_append_drop i l, Wr.put_app, h, Wr.put_full]
theorem Wr.stopAt {s t : Wr} {l : List Int} {i : Nat} {x : Int} (h : s.put (l.take i) = t) (hx : l[i]? = some x) (hf : t.full = true ∨ 262144 < t.bs.length + 8) : s.put l = ⟨t.bs, true⟩ :=
  Wr.put_stop (i := i + 1) (by rw [Wr.put_take h hx]; simp only [Wr.one]; rw [if_pos hf])
theorem Wr.goAt {s t : Wr} {l : List Int} {i : Nat} {x : Int} (h : s.put (l.take i) = t) (hx : l[i]? = some x) (hf : t.full = false) (hl : ¬ (262144 < t.bs.length + 8)) : s.put (l.take (i + 1)) = ⟨t.bs ++ be8 x, false⟩ := by
  rw [Wr.put_take h hx]; simp only [Wr.one]; rw [if_neg (by simp [hf]; omega)]
theorem Wr.len_le {s : Wr} (h : s.bs.length ≤ 262144) : ∀ l : List Int, (s.put l).bs.length ≤ 262144 := by
  intro l
  induction l generalizing s with
  | nil => exact h
  | cons x l ih =>
    refine ih (s := s.one x) ?_
    unfold Wr.one
    split
    · exact h
    · rename_i hn
      simp only [List.length_append, be8_len]
      omega
/-- All is written where all is within the limit; else the limit is reached. -/
theorem Wr.put_eq (l : List Int) : ∀ bs : List Int, (⟨bs, false⟩ : Wr).put l = if bs.length + 8 * l.length ≤ 262144 ∨ l = [] then ⟨bs ++ bytesOf l, false⟩ else ⟨((⟨bs, false⟩ : Wr).put l).bs, true⟩ := by
 induction l with
 | nil => intro bs; simp [Wr.put, bytesOf]
 | cons x l ih =>
  intro bs
  have e : (⟨bs, false⟩ : Wr).put (x :: l) = (Wr.one ⟨bs, false⟩ x).put l := rfl
  rw [e]
  by_cases hl : 262144 < bs.length + 8
  ·have e1 : Wr.one ⟨bs, false⟩ x = ⟨bs, true⟩ := by simp [Wr.one, hl]
   rw [e1, Wr.put_full, if_neg (by simp; omega)]
  ·have e1 : Wr.one ⟨bs, false⟩ x = ⟨bs ++ be8 x, false⟩ := by simp [Wr.one, hl]
   rw [e1, ih]
   by_cases h : bs.length + 8 * (x :: l).length ≤ 262144
   ·simp only [List.length_cons] at h
    rw [if_pos (by left; simp [be8_len]; omega), if_pos (by left; simp; omega), bytesOf_cons]
    simp
   ·simp only [List.length_cons] at h
    by_cases hn : l = []
    ·subst hn; simp at h; omega
    ·rw [if_neg (by simp [be8_len, hn]; omega), if_neg (by simp; omega)]
theorem Wr.stopF {s t : Wr} {α : Type} {f : α → List Int} {l : List α} {i : Nat} (h : s.put ((l.take i).flatMap f) = t) (hf : t.full = true) : s.put (l.flatMap f) = t := by
  obtain ⟨bs, full⟩ := t
  simp only at hf; subst hf
  conv => lhs; rw [← List.take_append_drop i l, List.flatMap_append, Wr.put_app, h, Wr.put_full]
theorem Wr.stepF {s t : Wr} {α : Type} {f : α → List Int} {l : List α} {i : Nat} {x : α} (h : s.put ((l.take i).flatMap f) = t) (hx : l[i]? = some x) : s.put ((l.take (i + 1)).flatMap f) = t.put (f x) := by
  rw [List.take_add_one, hx, Option.toList_some, List.flatMap_append, Wr.put_app, h]; simp
theorem Wr.allF {s t : Wr} {α : Type} {f : α → List Int} {l : List α} {i : Nat} (h : s.put ((l.take i).flatMap f) = t) (hi : i = l.length) : s.put (l.flatMap f) = t := by
  subst hi; rwa [List.take_length] at h
theorem flat_one (l : List Int) : l.flatMap (fun x => [x]) = l := by induction l with | nil => rfl | cons x l ih => simp
def WrR (p : Nat) (s : Wr) (fp : Chunk) : Prop := ∃ (a : Option Addr) (n k : Nat) (c : Chunk), fp = [(p, Obj.cells #[.slice a n k, .bool s.full] 72 (0, 0))] ++ c ∧ OwnT encB 5 1 a n k s.bs c
theorem wr_number (W w : World) (p : Nat) (s : Wr) (fp : Chunk) (H : Chunk) (F : List Chunk) (hI : WrR p s fp) (hb : s.bs.length ≤ 262144) (hS : Sat W w (fp :: H :: F)) (la : Option Addr) (ln lk : Nat) (l : List Int) (hR : RdT encI 1 [H] la ln lk l) :
  Calls Try.prog 29 #[Pt p 0, .slice la ln lk] w fun e w' => e = .returned (.tuple #[]) ∧ ∃ fp' : Chunk, WrR p (s.put (l)) fp' ∧ Sat W w' (fp' :: H :: F) := by
 obtain ⟨a, n, k, c, rfl, hO⟩ := hI
 obtain ⟨bs, full⟩ := s
 dsimp only at hO hb ⊢
 have hS0 : Sat W w ([(p, .cells #[.slice a n k, .bool full] 72 (0, 0))] :: c :: H :: F) := hS.perm (by simp)
 have hle := hR.le; have hll := hR.len
 refine callsE (n := 48) Try.func29 rfl rfl (Nat.le_of_ble_eq_true rfl) ?_
 refine sR <| pu3 <| nT <| blockE ?_
 refine loopE (γ := Nat × (Option Addr) × Nat × Nat × Chunk × (List Int) × Bool) (fun ⟨i, a', n', k', c', bs', full'⟩ ρ w => AllAt ρ [(0, Pt p 0), (7, .slice la ln lk), (8, I ((ln : Nat) : Int)), (9, I ((i : Nat) : Int))] ∧ Sat W w ([(p, .cells #[.slice a' n' k', .bool full'] 72 (0, 0))] :: c' :: H :: F) ∧ i ≤ ln ∧ (⟨bs, full⟩ : Wr).put (l.take i) = ⟨bs', full'⟩ ∧ OwnT encB 5 1 a' n' k' bs' c' ∧ bs'.length ≤ 262144) (fun ⟨i, a', n', k', c', bs', full'⟩ => ln - i) (0, a, n, k, c, bs, full) ⟨alA, hS0, om, rfl, hO, hb⟩ ?_
 skip
 rintro ⟨i, a', n', k', c', bs', full'⟩ ρ _ ⟨hA, b0, hi, hp, hO', hb'⟩
 refine cAnchor hA (fun ρ => ?_)
 clear hA
 have hl' := hO'.len
 refine sR <| pu1 <| nT <| seqE ?_
 by_cases d1 : (((i : Nat) : Int) : Int) < ((ln : Nat) : Int)
 rotate_left
 ·refine cF _ (decide_eq_false d1) ?_
  refine exitE (xB <| ?_)
  refine ret0n rfl ?_
  have hil : i = ln := by omega
  rw [hil, ← hll, List.take_length] at hp
  rw [hp]
  have t0 := (((b0.pick 2 rfl).pick 2 rfl).pick 2 rfl)
  change Sat _ _ ([(p, .cells #[.slice a' n' k', .bool full'] 72 (0, 0))] :: c' :: H :: F) at t0
  change Sat _ _ ([(p, .cells #[.slice a' n' k', .bool full'] 72 (0, 0))] :: c' :: H :: F) at t0
  have a2 := t0.merge2
  exact ⟨rfl, _, ⟨_, _, _, _, rfl, hO'⟩, a2⟩
 refine cT _ (decide_eq_true d1) ?_
 refine kT <| seqE <| blockE <| sR ?_
 refine sIdx hR ((i : Nat) : Int) Try.runUnderlying22 Try.sizeOf3 ?_
 intro a0 _ _ c0 b2
 rw [Int.toNat_natCast] at c0
 refine sLp b0 (b2.up 2 rfl) 0 (I a0) (Try.isAgg3 _) ?_
 refine pu1 <| nT <| seqE <| sR <| pu3 ?_
 refine sL b0 0 1 (.bool full') (Try.isAgg4 _) ?_
 refine pu1 ?_
 cases full'
 rotate_left
 ·refine pu8 <| nT <| cTt <| sR <| pu3 ?_
  refine sT1 b0 0 1 (.bool true) #[.slice a' n' k', .bool true] Try.sizeOf4 ?_
  intro _ e1
  change Sat _ _ ([(p, .cells #[.slice a' n' k', .bool true] 72 (0, 0))] :: c' :: H :: F) at e1
  refine nT ?_
  refine retE (tR <| thenK_r <| tR <| ?_)
  refine ret0 rfl ?_
  have he := Wr.stopAt hp c0 (Or.inl rfl)
  rw [he]
  have u0 := (((e1.pick 2 rfl).pick 2 rfl).pick 2 rfl)
  change Sat _ _ ([(p, .cells #[.slice a' n' k', .bool true] 72 (0, 0))] :: c' :: H :: F) at u0
  change Sat _ _ ([(p, .cells #[.slice a' n' k', .bool true] 72 (0, 0))] :: c' :: H :: F) at u0
  have c2 := u0.merge2
  exact ⟨rfl, _, ⟨_, _, _, _, rfl, hO'⟩, c2⟩
 refine pu3 <| gY ?_
 refine sL b0 0 0 (.slice a' n' k') (Try.isAgg31 _) ?_
 refine pu1 <| gY ?_
 refine sAdd ((n' : Nat) : Int) 8 ?_
 refine pu2 <| nT ?_
 by_cases f1 : ((((n' : Nat) : Int) + 8) : Int) > 262144
 ·refine cT _ (decide_eq_true f1) ?_
  refine sR <| pu3 ?_
  refine sT1 b0 0 1 (.bool true) #[.slice a' n' k', .bool true] Try.sizeOf4 ?_
  intro _ g1
  change Sat _ _ ([(p, .cells #[.slice a' n' k', .bool true] 72 (0, 0))] :: c' :: H :: F) at g1
  refine nT ?_
  refine retE (tR <| thenK_r <| tR <| ?_)
  refine ret0 rfl ?_
  have he := Wr.stopAt hp c0 (Or.inr (by dsimp only; omega))
  rw [he]
  have v0 := (((g1.pick 2 rfl).pick 2 rfl).pick 2 rfl)
  change Sat _ _ ([(p, .cells #[.slice a' n' k', .bool true] 72 (0, 0))] :: c' :: H :: F) at v0
  change Sat _ _ ([(p, .cells #[.slice a' n' k', .bool true] 72 (0, 0))] :: c' :: H :: F) at v0
  have d2 := v0.merge2
  exact ⟨rfl, _, ⟨_, _, _, _, rfl, hO'⟩, d2⟩
 refine cF _ (decide_eq_false f1) ?_
 refine kT <| sR <| pu1 <| nT <| blockE ?_
 refine loopN 9 ?_
 refine roundS ?_
 refine seqE <| sR <| pu2 <| nT <| cTt <| kT <| seqE <| blockE ?_
 refine drawE [10, 11, 14] [(4, ⟨p, 0, none⟩, .slice a' n' k')] [(true, [0, 1, 2, 3, 5]), (true, [6]), (true, [7]), (true, [8]), (true, [9]), (true, [4]), (false, [10]), (false, [11]), (true, [12, 13]), (false, [14])] rfl kr ⟨.inr (b0.cell 0 rfl rfl), trivial⟩ ?_
 have e2 := b0.drew
 refine wU [0, 1, 2, 3, 5] ?_
 refine wS (.int .u64 (a0 % 18446744073709551616)) rfl rfl rfl (fun w _ => Y_conv (k := .i64) (a := a0) Try.underlying2 Try.underlying95 (wrap_u64 _) rfl kr) ?_
 refine wU [7] ?_
 refine wS (.int .u64 ((a0 % 18446744073709551616) / 72057594037927936)) rfl rfl rfl (fun w _ => Y_shr .u64 .i64 (a0 % 18446744073709551616) 56 72057594037927936 rfl kr kr (by decide) (by decide)) ?_
 refine wS (.int .u8 (((a0 % 18446744073709551616) / 72057594037927936) % 256)) rfl rfl rfl (fun w _ => Y_conv (k := .u64) (a := ((a0 % 18446744073709551616) / 72057594037927936)) Try.underlying95 Try.underlying5 (wrap_u8 _) rfl kr) ?_
 refine wS (.slice a' n' k') rfl rfl rfl (fun w hF => Y_load rfl (Try.isAgg31 w) kr (hF 0 _ _ rfl)) ?_
 refine wO rfl ?_
 refine sBS e2 #[.int .u8 (((a0 % 18446744073709551616) / 72057594037927936) % 256)] Try.runUnderlying31 Try.sizeOf5 Try.zeroValue5 ?_
 intro _ _ h1
 refine nilO ⟨⟨.inr (h1.cell 1 rfl rfl), trivial⟩, ?_⟩
 refine wO rfl ?_
 refine sApp (nb := 1) h1 hO' 2 (RdT.blk (enc := encB) (sz := 1) (xs := [(((a0 % 18446744073709551616) / 72057594037927936) % 256)]) fR 1 0 rfl rfl rfl om) Try.underlying31 (i := Try.t5) kr fR ?_
 intro d0 e0 _ _ f2 i1
 try dsimp only [List.set, List.eraseIdx, Value.cells] at i1
 refine nilO ⟨dA, ?_⟩
 refine wU [12, 13] ?_
 refine wO rfl ?_
 refine sT1 i1 1 0 (.slice d0 (n' + 1) e0) #[.slice d0 (n' + 1) e0, .bool false] Try.sizeOf31 ?_
 intro _ w0
 try dsimp only [List.set, List.eraseIdx, Value.cells] at w0
 refine nilO ⟨dA, ?_⟩
 refine wN ?_
 refine blockK_n <| thenK_n <| regionE <| pu3 <| nT ?_
 refine roundS ?_
 refine seqE <| sR <| pu2 <| nT <| cTt <| kT <| seqE <| blockE ?_
 refine drawE [10, 11, 14] [(4, ⟨p, 0, none⟩, .slice d0 (n' + 1) e0)] [(true, [0, 1, 2, 3, 5]), (true, [6]), (true, [7]), (true, [8]), (true, [9]), (true, [4]), (false, [10]), (false, [11]), (true, [12, 13]), (false, [14])] rfl kr ⟨.inr (w0.cell 1 rfl rfl), trivial⟩ ?_
 have g2 := w0.drew
 refine wU [0, 1, 2, 3, 5] ?_
 refine wS (.int .u64 (a0 % 18446744073709551616)) rfl rfl rfl (fun w _ => Y_conv (k := .i64) (a := a0) Try.underlying2 Try.underlying95 (wrap_u64 _) rfl kr) ?_
 refine wU [7] ?_
 refine wS (.int .u64 ((a0 % 18446744073709551616) / 281474976710656)) rfl rfl rfl (fun w _ => Y_shr .u64 .i64 (a0 % 18446744073709551616) 48 281474976710656 rfl kr kr (by decide) (by decide)) ?_
 refine wS (.int .u8 (((a0 % 18446744073709551616) / 281474976710656) % 256)) rfl rfl rfl (fun w _ => Y_conv (k := .u64) (a := ((a0 % 18446744073709551616) / 281474976710656)) Try.underlying95 Try.underlying5 (wrap_u8 _) rfl kr) ?_
 refine wS (.slice d0 (n' + 1) e0) rfl rfl rfl (fun w hF => Y_load rfl (Try.isAgg31 w) kr (hF 0 _ _ rfl)) ?_
 refine wO rfl ?_
 refine sBS g2 #[.int .u8 (((a0 % 18446744073709551616) / 281474976710656) % 256)] Try.runUnderlying31 Try.sizeOf5 Try.zeroValue5 ?_
 intro _ _ j1
 refine nilO ⟨⟨.inr (j1.cell 2 rfl rfl), trivial⟩, ?_⟩
 refine wO rfl ?_
 refine sApp (nb := 1) j1 f2 3 (RdT.blk (enc := encB) (sz := 1) (xs := [(((a0 % 18446744073709551616) / 281474976710656) % 256)]) fR 1 0 rfl rfl rfl om) Try.underlying31 (i := Try.t5) kr fR ?_
 intro f0 g0 _ _ h2 k1
 try dsimp only [List.set, List.eraseIdx, Value.cells] at k1
 refine nilO ⟨dA, ?_⟩
 refine wU [12, 13] ?_
 refine wO rfl ?_
 refine sT1 k1 2 0 (.slice f0 ((n' + 1) + 1) g0) #[.slice f0 ((n' + 1) + 1) g0, .bool false] Try.sizeOf31 ?_
 intro _ x0
 try dsimp only [List.set, List.eraseIdx, Value.cells] at x0
 refine nilO ⟨dA, ?_⟩
 refine wN ?_
 refine blockK_n <| thenK_n <| regionE <| pu3 <| nT ?_
 refine roundS ?_
 refine seqE <| sR <| pu2 <| nT <| cTt <| kT <| seqE <| blockE ?_
 refine drawE [10, 11, 14] [(4, ⟨p, 0, none⟩, .slice f0 ((n' + 1) + 1) g0)] [(true, [0, 1, 2, 3, 5]), (true, [6]), (true, [7]), (true, [8]), (true, [9]), (true, [4]), (false, [10]), (false, [11]), (true, [12, 13]), (false, [14])] rfl kr ⟨.inr (x0.cell 2 rfl rfl), trivial⟩ ?_
 have i2 := x0.drew
 refine wU [0, 1, 2, 3, 5] ?_
 refine wS (.int .u64 (a0 % 18446744073709551616)) rfl rfl rfl (fun w _ => Y_conv (k := .i64) (a := a0) Try.underlying2 Try.underlying95 (wrap_u64 _) rfl kr) ?_
 refine wU [7] ?_
 refine wS (.int .u64 ((a0 % 18446744073709551616) / 1099511627776)) rfl rfl rfl (fun w _ => Y_shr .u64 .i64 (a0 % 18446744073709551616) 40 1099511627776 rfl kr kr (by decide) (by decide)) ?_
 refine wS (.int .u8 (((a0 % 18446744073709551616) / 1099511627776) % 256)) rfl rfl rfl (fun w _ => Y_conv (k := .u64) (a := ((a0 % 18446744073709551616) / 1099511627776)) Try.underlying95 Try.underlying5 (wrap_u8 _) rfl kr) ?_
 refine wS (.slice f0 ((n' + 1) + 1) g0) rfl rfl rfl (fun w hF => Y_load rfl (Try.isAgg31 w) kr (hF 0 _ _ rfl)) ?_
 refine wO rfl ?_
 refine sBS i2 #[.int .u8 (((a0 % 18446744073709551616) / 1099511627776) % 256)] Try.runUnderlying31 Try.sizeOf5 Try.zeroValue5 ?_
 intro _ _ l1
 refine nilO ⟨⟨.inr (l1.cell 3 rfl rfl), trivial⟩, ?_⟩
 refine wO rfl ?_
 refine sApp (nb := 1) l1 h2 4 (RdT.blk (enc := encB) (sz := 1) (xs := [(((a0 % 18446744073709551616) / 1099511627776) % 256)]) fR 1 0 rfl rfl rfl om) Try.underlying31 (i := Try.t5) kr fR ?_
 intro h0 i0 _ _ j2 m1
 try dsimp only [List.set, List.eraseIdx, Value.cells] at m1
 refine nilO ⟨dA, ?_⟩
 refine wU [12, 13] ?_
 refine wO rfl ?_
 refine sT1 m1 3 0 (.slice h0 (((n' + 1) + 1) + 1) i0) #[.slice h0 (((n' + 1) + 1) + 1) i0, .bool false] Try.sizeOf31 ?_
 intro _ y0
 try dsimp only [List.set, List.eraseIdx, Value.cells] at y0
 refine nilO ⟨dA, ?_⟩
 refine wN ?_
 refine blockK_n <| thenK_n <| regionE <| pu3 <| nT ?_
 refine roundS ?_
 refine seqE <| sR <| pu2 <| nT <| cTt <| kT <| seqE <| blockE ?_
 refine drawE [10, 11, 14] [(4, ⟨p, 0, none⟩, .slice h0 (((n' + 1) + 1) + 1) i0)] [(true, [0, 1, 2, 3, 5]), (true, [6]), (true, [7]), (true, [8]), (true, [9]), (true, [4]), (false, [10]), (false, [11]), (true, [12, 13]), (false, [14])] rfl kr ⟨.inr (y0.cell 3 rfl rfl), trivial⟩ ?_
 have k2 := y0.drew
 refine wU [0, 1, 2, 3, 5] ?_
 refine wS (.int .u64 (a0 % 18446744073709551616)) rfl rfl rfl (fun w _ => Y_conv (k := .i64) (a := a0) Try.underlying2 Try.underlying95 (wrap_u64 _) rfl kr) ?_
 refine wU [7] ?_
 refine wS (.int .u64 ((a0 % 18446744073709551616) / 4294967296)) rfl rfl rfl (fun w _ => Y_shr .u64 .i64 (a0 % 18446744073709551616) 32 4294967296 rfl kr kr (by decide) (by decide)) ?_
 refine wS (.int .u8 (((a0 % 18446744073709551616) / 4294967296) % 256)) rfl rfl rfl (fun w _ => Y_conv (k := .u64) (a := ((a0 % 18446744073709551616) / 4294967296)) Try.underlying95 Try.underlying5 (wrap_u8 _) rfl kr) ?_
 refine wS (.slice h0 (((n' + 1) + 1) + 1) i0) rfl rfl rfl (fun w hF => Y_load rfl (Try.isAgg31 w) kr (hF 0 _ _ rfl)) ?_
 refine wO rfl ?_
 refine sBS k2 #[.int .u8 (((a0 % 18446744073709551616) / 4294967296) % 256)] Try.runUnderlying31 Try.sizeOf5 Try.zeroValue5 ?_
 intro _ _ n1
 refine nilO ⟨⟨.inr (n1.cell 4 rfl rfl), trivial⟩, ?_⟩
 refine wO rfl ?_
 refine sApp (nb := 1) n1 j2 5 (RdT.blk (enc := encB) (sz := 1) (xs := [(((a0 % 18446744073709551616) / 4294967296) % 256)]) fR 1 0 rfl rfl rfl om) Try.underlying31 (i := Try.t5) kr fR ?_
 intro j0 k0 _ _ l2 o1
 try dsimp only [List.set, List.eraseIdx, Value.cells] at o1
 refine nilO ⟨dA, ?_⟩
 refine wU [12, 13] ?_
 refine wO rfl ?_
 refine sT1 o1 4 0 (.slice j0 ((((n' + 1) + 1) + 1) + 1) k0) #[.slice j0 ((((n' + 1) + 1) + 1) + 1) k0, .bool false] Try.sizeOf31 ?_
 intro _ z0
 try dsimp only [List.set, List.eraseIdx, Value.cells] at z0
 refine nilO ⟨dA, ?_⟩
 refine wN ?_
 refine blockK_n <| thenK_n <| regionE <| pu3 <| nT ?_
 refine roundS ?_
 refine seqE <| sR <| pu2 <| nT <| cTt <| kT <| seqE <| blockE ?_
 refine drawE [10, 11, 14] [(4, ⟨p, 0, none⟩, .slice j0 ((((n' + 1) + 1) + 1) + 1) k0)] [(true, [0, 1, 2, 3, 5]), (true, [6]), (true, [7]), (true, [8]), (true, [9]), (true, [4]), (false, [10]), (false, [11]), (true, [12, 13]), (false, [14])] rfl kr ⟨.inr (z0.cell 4 rfl rfl), trivial⟩ ?_
 have m2 := z0.drew
 refine wU [0, 1, 2, 3, 5] ?_
 refine wS (.int .u64 (a0 % 18446744073709551616)) rfl rfl rfl (fun w _ => Y_conv (k := .i64) (a := a0) Try.underlying2 Try.underlying95 (wrap_u64 _) rfl kr) ?_
 refine wU [7] ?_
 refine wS (.int .u64 ((a0 % 18446744073709551616) / 16777216)) rfl rfl rfl (fun w _ => Y_shr .u64 .i64 (a0 % 18446744073709551616) 24 16777216 rfl kr kr (by decide) (by decide)) ?_
 refine wS (.int .u8 (((a0 % 18446744073709551616) / 16777216) % 256)) rfl rfl rfl (fun w _ => Y_conv (k := .u64) (a := ((a0 % 18446744073709551616) / 16777216)) Try.underlying95 Try.underlying5 (wrap_u8 _) rfl kr) ?_
 refine wS (.slice j0 ((((n' + 1) + 1) + 1) + 1) k0) rfl rfl rfl (fun w hF => Y_load rfl (Try.isAgg31 w) kr (hF 0 _ _ rfl)) ?_
 refine wO rfl ?_
 refine sBS m2 #[.int .u8 (((a0 % 18446744073709551616) / 16777216) % 256)] Try.runUnderlying31 Try.sizeOf5 Try.zeroValue5 ?_
 intro _ _ p1
 refine nilO ⟨⟨.inr (p1.cell 5 rfl rfl), trivial⟩, ?_⟩
 refine wO rfl ?_
 refine sApp (nb := 1) p1 l2 6 (RdT.blk (enc := encB) (sz := 1) (xs := [(((a0 % 18446744073709551616) / 16777216) % 256)]) fR 1 0 rfl rfl rfl om) Try.underlying31 (i := Try.t5) kr fR ?_
 intro l0 m0 _ _ n2 q1
 try dsimp only [List.set, List.eraseIdx, Value.cells] at q1
 refine nilO ⟨dA, ?_⟩
 refine wU [12, 13] ?_
 refine wO rfl ?_
 refine sT1 q1 5 0 (.slice l0 (((((n' + 1) + 1) + 1) + 1) + 1) m0) #[.slice l0 (((((n' + 1) + 1) + 1) + 1) + 1) m0, .bool false] Try.sizeOf31 ?_
 intro _ a1
 try dsimp only [List.set, List.eraseIdx, Value.cells] at a1
 refine nilO ⟨dA, ?_⟩
 refine wN ?_
 refine blockK_n <| thenK_n <| regionE <| pu3 <| nT ?_
 refine roundS ?_
 refine seqE <| sR <| pu2 <| nT <| cTt <| kT <| seqE <| blockE ?_
 refine drawE [10, 11, 14] [(4, ⟨p, 0, none⟩, .slice l0 (((((n' + 1) + 1) + 1) + 1) + 1) m0)] [(true, [0, 1, 2, 3, 5]), (true, [6]), (true, [7]), (true, [8]), (true, [9]), (true, [4]), (false, [10]), (false, [11]), (true, [12, 13]), (false, [14])] rfl kr ⟨.inr (a1.cell 5 rfl rfl), trivial⟩ ?_
 have o2 := a1.drew
 refine wU [0, 1, 2, 3, 5] ?_
 refine wS (.int .u64 (a0 % 18446744073709551616)) rfl rfl rfl (fun w _ => Y_conv (k := .i64) (a := a0) Try.underlying2 Try.underlying95 (wrap_u64 _) rfl kr) ?_
 refine wU [7] ?_
 refine wS (.int .u64 ((a0 % 18446744073709551616) / 65536)) rfl rfl rfl (fun w _ => Y_shr .u64 .i64 (a0 % 18446744073709551616) 16 65536 rfl kr kr (by decide) (by decide)) ?_
 refine wS (.int .u8 (((a0 % 18446744073709551616) / 65536) % 256)) rfl rfl rfl (fun w _ => Y_conv (k := .u64) (a := ((a0 % 18446744073709551616) / 65536)) Try.underlying95 Try.underlying5 (wrap_u8 _) rfl kr) ?_
 refine wS (.slice l0 (((((n' + 1) + 1) + 1) + 1) + 1) m0) rfl rfl rfl (fun w hF => Y_load rfl (Try.isAgg31 w) kr (hF 0 _ _ rfl)) ?_
 refine wO rfl ?_
 refine sBS o2 #[.int .u8 (((a0 % 18446744073709551616) / 65536) % 256)] Try.runUnderlying31 Try.sizeOf5 Try.zeroValue5 ?_
 intro _ _ r1
 refine nilO ⟨⟨.inr (r1.cell 6 rfl rfl), trivial⟩, ?_⟩
 refine wO rfl ?_
 refine sApp (nb := 1) r1 n2 7 (RdT.blk (enc := encB) (sz := 1) (xs := [(((a0 % 18446744073709551616) / 65536) % 256)]) fR 1 0 rfl rfl rfl om) Try.underlying31 (i := Try.t5) kr fR ?_
 intro n0 o0 _ _ p2 s1
 try dsimp only [List.set, List.eraseIdx, Value.cells] at s1
 refine nilO ⟨dA, ?_⟩
 refine wU [12, 13] ?_
 refine wO rfl ?_
 refine sT1 s1 6 0 (.slice n0 ((((((n' + 1) + 1) + 1) + 1) + 1) + 1) o0) #[.slice n0 ((((((n' + 1) + 1) + 1) + 1) + 1) + 1) o0, .bool false] Try.sizeOf31 ?_
 intro _ b1
 try dsimp only [List.set, List.eraseIdx, Value.cells] at b1
 refine nilO ⟨dA, ?_⟩
 refine wN ?_
 refine blockK_n <| thenK_n <| regionE <| pu3 <| nT ?_
 refine roundS ?_
 refine seqE <| sR <| pu2 <| nT <| cTt <| kT <| seqE <| blockE ?_
 refine drawE [10, 11, 14] [(4, ⟨p, 0, none⟩, .slice n0 ((((((n' + 1) + 1) + 1) + 1) + 1) + 1) o0)] [(true, [0, 1, 2, 3, 5]), (true, [6]), (true, [7]), (true, [8]), (true, [9]), (true, [4]), (false, [10]), (false, [11]), (true, [12, 13]), (false, [14])] rfl kr ⟨.inr (b1.cell 6 rfl rfl), trivial⟩ ?_
 have q2 := b1.drew
 refine wU [0, 1, 2, 3, 5] ?_
 refine wS (.int .u64 (a0 % 18446744073709551616)) rfl rfl rfl (fun w _ => Y_conv (k := .i64) (a := a0) Try.underlying2 Try.underlying95 (wrap_u64 _) rfl kr) ?_
 refine wU [7] ?_
 refine wS (.int .u64 ((a0 % 18446744073709551616) / 256)) rfl rfl rfl (fun w _ => Y_shr .u64 .i64 (a0 % 18446744073709551616) 8 256 rfl kr kr (by decide) (by decide)) ?_
 refine wS (.int .u8 (((a0 % 18446744073709551616) / 256) % 256)) rfl rfl rfl (fun w _ => Y_conv (k := .u64) (a := ((a0 % 18446744073709551616) / 256)) Try.underlying95 Try.underlying5 (wrap_u8 _) rfl kr) ?_
 refine wS (.slice n0 ((((((n' + 1) + 1) + 1) + 1) + 1) + 1) o0) rfl rfl rfl (fun w hF => Y_load rfl (Try.isAgg31 w) kr (hF 0 _ _ rfl)) ?_
 refine wO rfl ?_
 refine sBS q2 #[.int .u8 (((a0 % 18446744073709551616) / 256) % 256)] Try.runUnderlying31 Try.sizeOf5 Try.zeroValue5 ?_
 intro _ _ t1
 refine nilO ⟨⟨.inr (t1.cell 7 rfl rfl), trivial⟩, ?_⟩
 refine wO rfl ?_
 refine sApp (nb := 1) t1 p2 8 (RdT.blk (enc := encB) (sz := 1) (xs := [(((a0 % 18446744073709551616) / 256) % 256)]) fR 1 0 rfl rfl rfl om) Try.underlying31 (i := Try.t5) kr fR ?_
 intro p0 q0 _ _ r2 u1
 try dsimp only [List.set, List.eraseIdx, Value.cells] at u1
 refine nilO ⟨dA, ?_⟩
 refine wU [12, 13] ?_
 refine wO rfl ?_
 refine sT1 u1 7 0 (.slice p0 (((((((n' + 1) + 1) + 1) + 1) + 1) + 1) + 1) q0) #[.slice p0 (((((((n' + 1) + 1) + 1) + 1) + 1) + 1) + 1) q0, .bool false] Try.sizeOf31 ?_
 intro _ c1
 try dsimp only [List.set, List.eraseIdx, Value.cells] at c1
 refine nilO ⟨dA, ?_⟩
 refine wN ?_
 refine blockK_n <| thenK_n <| regionE <| pu3 <| nT ?_
 refine roundS ?_
 refine seqE <| sR <| pu2 <| nT <| cTt <| kT <| seqE <| blockE ?_
 refine drawE [10, 11, 14] [(4, ⟨p, 0, none⟩, .slice p0 (((((((n' + 1) + 1) + 1) + 1) + 1) + 1) + 1) q0)] [(true, [0, 1, 2, 3, 5]), (true, [6]), (true, [7]), (true, [8]), (true, [9]), (true, [4]), (false, [10]), (false, [11]), (true, [12, 13]), (false, [14])] rfl kr ⟨.inr (c1.cell 7 rfl rfl), trivial⟩ ?_
 have s2 := c1.drew
 refine wU [0, 1, 2, 3, 5] ?_
 refine wS (.int .u64 (a0 % 18446744073709551616)) rfl rfl rfl (fun w _ => Y_conv (k := .i64) (a := a0) Try.underlying2 Try.underlying95 (wrap_u64 _) rfl kr) ?_
 refine wU [7] ?_
 refine wS (.int .u64 ((a0 % 18446744073709551616) / 1)) rfl rfl rfl (fun w _ => Y_shr .u64 .i64 (a0 % 18446744073709551616) 0 1 rfl kr kr (by decide) (by decide)) ?_
 refine wS (.int .u8 (((a0 % 18446744073709551616) / 1) % 256)) rfl rfl rfl (fun w _ => Y_conv (k := .u64) (a := ((a0 % 18446744073709551616) / 1)) Try.underlying95 Try.underlying5 (wrap_u8 _) rfl kr) ?_
 refine wS (.slice p0 (((((((n' + 1) + 1) + 1) + 1) + 1) + 1) + 1) q0) rfl rfl rfl (fun w hF => Y_load rfl (Try.isAgg31 w) kr (hF 0 _ _ rfl)) ?_
 refine wO rfl ?_
 refine sBS s2 #[.int .u8 (((a0 % 18446744073709551616) / 1) % 256)] Try.runUnderlying31 Try.sizeOf5 Try.zeroValue5 ?_
 intro _ _ v1
 refine nilO ⟨⟨.inr (v1.cell 8 rfl rfl), trivial⟩, ?_⟩
 refine wO rfl ?_
 refine sApp (nb := 1) v1 r2 9 (RdT.blk (enc := encB) (sz := 1) (xs := [(((a0 % 18446744073709551616) / 1) % 256)]) fR 1 0 rfl rfl rfl om) Try.underlying31 (i := Try.t5) kr fR ?_
 intro r0 s0 w1 _ t2 x1
 try dsimp only [List.set, List.eraseIdx, Value.cells] at x1
 refine nilO ⟨dA, ?_⟩
 refine wU [12, 13] ?_
 refine wO rfl ?_
 refine sT1 x1 8 0 (.slice r0 ((((((((n' + 1) + 1) + 1) + 1) + 1) + 1) + 1) + 1) s0) #[.slice r0 ((((((((n' + 1) + 1) + 1) + 1) + 1) + 1) + 1) + 1) s0, .bool false] Try.sizeOf31 ?_
 intro _ y1
 try dsimp only [List.set, List.eraseIdx, Value.cells] at y1
 refine nilO ⟨dA, ?_⟩
 refine wN ?_
 refine blockK_n <| thenK_n <| regionE <| pu3 <| nT ?_
 refine roundS ?_
 refine seqE <| sR <| pu2 <| nT <| cFf ?_
 refine exitE (xB <| ?_)
 refine blockK_n <| thenK_n <| regionE ?_
 refine sAdd ((i : Nat) : Int) 1 ?_
 refine pu1 <| nT ?_
 have z1 := (((((((((((y1.pick 10 rfl).pick 10 rfl).pick 10 rfl).dropAt 3 rfl).dropAt 3 rfl).dropAt 3 rfl).dropAt 3 rfl).dropAt 3 rfl).dropAt 3 rfl).dropAt 3 rfl).dropAt 3 rfl)
 try dsimp only [List.set, List.eraseIdx, Value.cells] at z1
 have hgo := Wr.goAt hp c0 rfl (by dsimp only; omega)
 have hO2 : OwnT encB 5 1 r0 ((((((((n' + 1) + 1) + 1) + 1) + 1) + 1) + 1) + 1) s0 (bs' ++ be8 a0) w1 := by have e := t2; simpa only [be8, List.append_assoc, List.cons_append, List.nil_append] using e
 exact ⟨(i + 1, r0, ((((((((n' + 1) + 1) + 1) + 1) + 1) + 1) + 1) + 1), s0, w1, bs' ++ be8 a0, false), by dsimp only; omega, alA, z1, om, hgo, hO2, by simp only [List.length_append, be8_len]; omega⟩
theorem wr_numbers (W w : World) (p : Nat) (s : Wr) (fp : Chunk) (H : Chunk) (F : List Chunk) (hI : WrR p s fp) (hb : s.bs.length ≤ 262144) (hS : Sat W w (fp :: H :: F)) (la : Option Addr) (ln lk : Nat) (l : List Int) (hR : RdT encI 1 [H] la ln lk l) :
  Calls Try.prog 30 #[Pt p 0, .slice la ln lk] w fun e w' => e = .returned (.tuple #[]) ∧ ∃ fp' : Chunk, WrR p (s.put (nInts l)) fp' ∧ Sat W w' (fp' :: H :: F) := by
 have hle := hR.le; have hll := hR.len
 refine callsE (n := 26) Try.func30 rfl rfl (Nat.le_of_ble_eq_true rfl) ?_
 refine sR <| pu3 ?_
 refine sBS hS #[I ((ln : Nat) : Int)] Try.runUnderlying22 Try.sizeOf3 Try.zeroValue3 ?_
 intro f0 _ i1
 have m0 := ((i1.pick 0 rfl).pick 1 rfl)
 change Sat _ _ (fp :: [(f0, .cells #[I ((ln : Nat) : Int)] 3 (0, 0))] :: H :: F) at m0
 refine sF #[Pt p 0, .slice (At f0 0) 1 1] Try.call29 (Calls.mono (wr_number W _ _ _ _ _ _ hI hb m0 _ _ _ _ (RdT.blk (cs := [[(f0, .cells #[I ((ln : Nat) : Int)] 3 (0, 0))]]) (enc := encI) (sz := 1) (xs := [((ln : Nat) : Int)]) fR 1 0 rfl rfl rfl om)) ?_)
 rintro _ _ ⟨rfl, j0, n0, o0⟩
 refine ⟨_, rfl, ?_⟩
 have p0 := Wr.len_le hb ([((ln : Nat) : Int)])
 generalize q0 : s.put ([((ln : Nat) : Int)]) = r0 at n0 p0
 change Sat _ _ (j0 :: [(f0, .cells #[I ((ln : Nat) : Int)] 3 (0, 0))] :: H :: F) at o0
 refine nT <| sR <| pu3 <| nT <| blockE ?_
 have s0 := (((o0.pick 2 rfl).pick 1 rfl).dropAt 2 rfl)
 change Sat _ _ (j0 :: H :: F) at s0
 refine loopE (γ := Nat × Wr × Chunk) (fun ⟨i, s', fp'⟩ ρ w => AllAt ρ [(0, Pt p 0), (11, .slice la ln lk), (12, I ((ln : Nat) : Int)), (13, I ((i : Nat) : Int))] ∧ Sat W w (fp' :: H :: F) ∧ i ≤ ln ∧ r0.put ((l.take i).flatMap (fun x => [x])) = s' ∧ WrR p s' fp' ∧ s'.bs.length ≤ 262144) (fun ⟨i, s', fp'⟩ => ln - i) (0, r0, j0) ⟨alA, s0, Nat.zero_le _, rfl, n0, p0⟩ ?_
 skip
 rintro ⟨i, s', fp'⟩ ρ _ ⟨hA, g0, hi, hp, hI', hb'⟩
 refine cAnchor hA (fun ρ => ?_)
 clear hA
 refine sR <| pu1 <| nT <| seqE ?_
 by_cases t0 : (((i : Nat) : Int) : Int) < ((ln : Nat) : Int)
 rotate_left
 ·refine cF _ (decide_eq_false t0) ?_
  refine exitE (xB <| ?_)
  refine ret0n rfl ?_
  have he := Wr.allF hp om
  have u0 := ((g0.pick 1 rfl).pick 1 rfl)
  change Sat _ _ (fp' :: H :: F) at u0
  refine ⟨rfl, _, ?_, u0⟩
  rw [show s.put (nInts l) = s' from ?_]
  ·exact hI'
  rw [← he]
  subst q0
  show s.put ((l.length : Int) :: l) = _
  rw [flat_one, hll]; rfl
 refine cT _ (decide_eq_true t0) ?_
 refine kT <| seqE <| blockE <| sR ?_
 refine sIdx hR ((i : Nat) : Int) Try.runUnderlying22 Try.sizeOf3 ?_
 intro a0 _ _ v0 j1
 rw [Int.toNat_natCast] at v0
 refine sLp g0 (j1.up 1 rfl) 0 (I a0) (Try.isAgg3 _) ?_
 refine pu1 <| nT <| seqE <| seqE ?_
 change Sat _ _ (fp' :: H :: F) at g0
 obtain ⟨b0, c0, d0, e0, rfl, w0⟩ := hI'
 have h0 := g0.split
 change Sat _ _ ([(p, .cells #[.slice b0 c0 d0, .bool s'.full] 72 (0, 0))] :: e0 :: H :: F) at h0
 refine regionE <| pu3 ?_
 refine sL h0 0 1 (.bool s'.full) (Try.isAgg4 _) ?_
 refine nT ?_
 rcases Classical.em (s'.full = true) with i0 | i0
 ·refine cT _ i0 ?_
  refine retE (tR <| thenK_r <| tR <| ?_)
  refine ret0 rfl ?_
  have x0 := ((h0.pick 1 rfl).pick 1 rfl)
  change Sat _ _ ([(p, .cells #[.slice b0 c0 d0, .bool s'.full] 72 (0, 0))] :: e0 :: H :: F) at x0
  have y0 := x0.merge
  have k1 : WrR p s' ([(p, .cells #[.slice b0 c0 d0, .bool s'.full] 72 (0, 0))] ++ e0) := ⟨_, _, _, _, rfl, w0⟩
  change Sat _ _ (([(p, .cells #[.slice b0 c0 d0, .bool s'.full] 72 (0, 0))] ++ e0) :: H :: F) at y0
  have he := Wr.stopF hp i0
  have z0 := ((y0.pick 1 rfl).pick 1 rfl)
  change Sat _ _ (([(p, .cells #[.slice b0 c0 d0, .bool s'.full] 72 (0, 0))] ++ e0) :: H :: F) at z0
  refine ⟨rfl, _, ?_, z0⟩
  rw [show s.put (nInts l) = s' from ?_]
  ·exact k1
  rw [← he]
  subst q0
  show s.put ((l.length : Int) :: l) = _
  rw [flat_one, hll]; rfl
 refine cF _ (Bool.eq_false_iff.2 i0) ?_
 refine kT <| regionE <| pu2 ?_
 refine sBS h0 #[I a0] Try.runUnderlying22 Try.sizeOf3 Try.zeroValue3 ?_
 intro k0 _ l1
 have a1 := ((l1.pick 2 rfl).pick 2 rfl)
 try dsimp only [List.set, List.eraseIdx, Value.cells] at a1
 have b1 := a1.merge
 have m1 : WrR p s' ([(p, .cells #[.slice b0 c0 d0, .bool s'.full] 72 (0, 0))] ++ e0) := ⟨_, _, _, _, rfl, w0⟩
 try dsimp only [List.set, List.eraseIdx, Value.cells] at b1
 have c1 := ((b1.pick 1 rfl).pick 1 rfl)
 try dsimp only [List.set, List.eraseIdx, Value.cells] at c1
 refine sF #[Pt p 0, .slice (At k0 0) 1 1] Try.call29 (Calls.mono (wr_number W _ _ _ _ _ _ m1 hb' c1 _ _ _ _ (RdT.blk (cs := [[(k0, .cells #[I a0] 3 (0, 0))]]) (enc := encI) (sz := 1) (xs := [a0]) fR 1 0 rfl rfl rfl om)) ?_)
 rintro _ _ ⟨rfl, l0, d1, e1⟩
 refine ⟨_, rfl, ?_⟩
 have f1 := Wr.len_le hb' ([a0])
 generalize n1 : s'.put ([a0]) = g1 at d1 f1
 change Sat _ _ (l0 :: [(k0, .cells #[I a0] 3 (0, 0))] :: H :: F) at e1
 refine nB <| regionE ?_
 refine sAdd ((i : Nat) : Int) 1 ?_
 refine pu1 <| nT ?_
 have h1 := (((e1.pick 2 rfl).pick 1 rfl).dropAt 2 rfl)
 change Sat _ _ (l0 :: H :: F) at h1
 have hst : g1 = s'.put ((fun x => [x]) a0) := by subst n1; rfl
 exact ⟨(i + 1, g1, l0), by dsimp only; omega, alA, h1, om, (Wr.stepF hp v0).trans hst.symm, d1, f1⟩
theorem wr_taps (W w : World) (p : Nat) (s : Wr) (fp : Chunk) (H : Chunk) (F : List Chunk) (hI : WrR p s fp) (hb : s.bs.length ≤ 262144) (hS : Sat W w (fp :: H :: F)) (la : Option Addr) (ln lk : Nat) (l : List Tap) (hR : RdT encTap 2 [H] la ln lk l) (hD : ∀ z ∈ l, Tap.Ok [H] z) :
  Calls Try.prog 46 #[Pt p 0, .slice la ln lk] w fun e w' => e = .returned (.tuple #[]) ∧ ∃ fp' : Chunk, WrR p (s.put (nTaps (l.map Tap.v))) fp' ∧ Sat W w' (fp' :: H :: F) := by
 have hle := hR.le; have hll := hR.len
 refine callsE (n := 31) Try.func46 rfl rfl (Nat.le_of_ble_eq_true rfl) ?_
 refine sR <| pu3 ?_
 refine sBS hS #[I ((ln : Nat) : Int)] Try.runUnderlying22 Try.sizeOf3 Try.zeroValue3 ?_
 intro c0 _ o1
 have n0 := ((o1.pick 0 rfl).pick 1 rfl)
 change Sat _ _ (fp :: [(c0, .cells #[I ((ln : Nat) : Int)] 3 (0, 0))] :: H :: F) at n0
 refine sF #[Pt p 0, .slice (At c0 0) 1 1] Try.call29 (Calls.mono (wr_number W _ _ _ _ _ _ hI hb n0 _ _ _ _ (RdT.blk (cs := [[(c0, .cells #[I ((ln : Nat) : Int)] 3 (0, 0))]]) (enc := encI) (sz := 1) (xs := [((ln : Nat) : Int)]) fR 1 0 rfl rfl rfl om)) ?_)
 rintro _ _ ⟨rfl, e0, o0, p0⟩
 refine ⟨_, rfl, ?_⟩
 have q0 := Wr.len_le hb ([((ln : Nat) : Int)])
 generalize r0 : s.put ([((ln : Nat) : Int)]) = s0 at o0 q0
 change Sat _ _ (e0 :: [(c0, .cells #[I ((ln : Nat) : Int)] 3 (0, 0))] :: H :: F) at p0
 refine nT <| sR <| pu3 <| nT <| blockE ?_
 have t0 := (((p0.pick 2 rfl).pick 1 rfl).dropAt 2 rfl)
 change Sat _ _ (e0 :: H :: F) at t0
 refine loopE (γ := Nat × Wr × Chunk) (fun ⟨i, s', fp'⟩ ρ w => AllAt ρ [(0, Pt p 0), (11, .slice la ln lk), (12, I ((ln : Nat) : Int)), (13, I ((i : Nat) : Int))] ∧ Sat W w (fp' :: H :: F) ∧ i ≤ ln ∧ s0.put ((l.take i).flatMap (fun x => nTap x.v)) = s' ∧ WrR p s' fp' ∧ s'.bs.length ≤ 262144) (fun ⟨i, s', fp'⟩ => ln - i) (0, s0, e0) ⟨alA, t0, Nat.zero_le _, rfl, o0, q0⟩ ?_
 skip
 rintro ⟨i, s', fp'⟩ ρ _ ⟨hA, f0, hi, hp, hI', hb'⟩
 refine cAnchor hA (fun ρ => ?_)
 clear hA
 refine sR <| pu1 <| nT <| seqE ?_
 by_cases u0 : (((i : Nat) : Int) : Int) < ((ln : Nat) : Int)
 rotate_left
 ·refine cF _ (decide_eq_false u0) ?_
  refine exitE (xB <| ?_)
  refine ret0n rfl ?_
  have he := Wr.allF hp om
  have v0 := ((f0.pick 1 rfl).pick 1 rfl)
  change Sat _ _ (fp' :: H :: F) at v0
  refine ⟨rfl, _, ?_, v0⟩
  rw [show s.put (nTaps (l.map Tap.v)) = s' from ?_]
  ·exact hI'
  rw [← he]
  subst r0
  show s.put (((l.map Tap.v).length : Int) :: (l.map Tap.v).flatMap nTap) = _
  rw [List.length_map, List.flatMap_map, hll]; rfl
 refine cT _ (decide_eq_true u0) ?_
 refine kT <| seqE <| blockE <| sR ?_
 refine sIdx hR ((i : Nat) : Int) Try.runUnderlying58 Try.sizeOf94 ?_
 intro a0 _ _ g0 p1
 rw [Int.toNat_natCast] at g0
 refine sLpA f0 (p1.up 1 rfl) 0 [I a0.first, .slice a0.weights.a a0.weights.n a0.weights.k] (Try.isAgg94 _) (Try.sizeOf94 _) ?_
 refine sAlloc f0 Try.zeroValue94 ?_
 intro _ _ q1
 refine sTw q1 0 [I a0.first, .slice a0.weights.a a0.weights.n a0.weights.k] Try.sizeOf94 ?_
 intro _ w0
 try dsimp only [List.set, List.eraseIdx, Value.cells] at w0
 refine nT <| seqE <| seqE ?_
 have x0 := (w0.pick 1 rfl)
 try dsimp only [List.set, List.eraseIdx, Value.cells] at x0
 obtain ⟨h0, i0, j0, k0, rfl, y0⟩ := hI'
 have b0 := x0.split
 try dsimp only [List.set, List.eraseIdx, Value.cells] at b0
 refine regionE <| pu3 ?_
 refine sL b0 0 1 (.bool s'.full) (Try.isAgg4 _) ?_
 refine nT ?_
 rcases Classical.em (s'.full = true) with d0 | d0
 ·refine cT _ d0 ?_
  refine retE (tR <| thenK_r <| tR <| ?_)
  refine ret0 rfl ?_
  have z0 := ((b0.pick 1 rfl).pick 1 rfl)
  try dsimp only [List.set, List.eraseIdx, Value.cells] at z0
  have a1 := z0.merge
  have r1 : WrR p s' ([(p, .cells #[.slice h0 i0 j0, .bool s'.full] 72 (0, 0))] ++ k0) := ⟨_, _, _, _, rfl, y0⟩
  try dsimp only [List.set, List.eraseIdx, Value.cells] at a1
  have he := Wr.stopF hp d0
  have b1 := (((a1.pick 2 rfl).pick 1 rfl).dropAt 2 rfl)
  change Sat _ _ (([(p, .cells #[.slice h0 i0 j0, .bool s'.full] 72 (0, 0))] ++ k0) :: H :: F) at b1
  refine ⟨rfl, _, ?_, b1⟩
  rw [show s.put (nTaps (l.map Tap.v)) = s' from ?_]
  ·exact r1
  rw [← he]
  subst r0
  show s.put (((l.map Tap.v).length : Int) :: (l.map Tap.v).flatMap nTap) = _
  rw [List.length_map, List.flatMap_map, hll]; rfl
 refine cF _ (Bool.eq_false_iff.2 d0) ?_
 refine kT <| sR <| pu2 ?_
 refine sL b0 2 0 (I a0.first) (Try.isAgg3 _) ?_
 refine sBS b0 #[I a0.first] Try.runUnderlying22 Try.sizeOf3 Try.zeroValue3 ?_
 intro c1 _ s1
 have d1 := ((s1.pick 2 rfl).pick 2 rfl)
 try dsimp only [List.set, List.eraseIdx, Value.cells] at d1
 have e1 := d1.merge
 have t1 : WrR p s' ([(p, .cells #[.slice h0 i0 j0, .bool s'.full] 72 (0, 0))] ++ k0) := ⟨_, _, _, _, rfl, y0⟩
 try dsimp only [List.set, List.eraseIdx, Value.cells] at e1
 have f1 := ((e1.pick 1 rfl).pick 1 rfl)
 try dsimp only [List.set, List.eraseIdx, Value.cells] at f1
 refine sF #[Pt p 0, .slice (At c1 0) 1 1] Try.call29 (Calls.mono (wr_number W _ _ _ _ _ _ t1 hb' f1 _ _ _ _ (RdT.blk (cs := [[(c1, .cells #[I a0.first] 3 (0, 0))]]) (enc := encI) (sz := 1) (xs := [a0.first]) fR 1 0 rfl rfl rfl om)) ?_)
 rintro _ _ ⟨rfl, _, g1, l0⟩
 refine ⟨_, rfl, ?_⟩
 have m0 := Wr.len_le hb' ([a0.first])
 generalize u1 : s'.put ([a0.first]) = v1 at g1 m0
 try dsimp only [List.set, List.eraseIdx, Value.cells] at l0
 refine nT <| regionE <| pu2 ?_
 refine sL l0 2 1 (.slice a0.weights.a a0.weights.n a0.weights.k) (Try.isAgg22 _) ?_
 have h1 := ((l0.pick 3 rfl).pick 1 rfl)
 try dsimp only [List.set, List.eraseIdx, Value.cells] at h1
 refine sF #[Pt p 0, .slice a0.weights.a a0.weights.n a0.weights.k] Try.call30 (Calls.mono (wr_numbers W _ _ _ _ _ _ g1 m0 h1 _ _ _ _ (hD a0 (List.mem_of_getElem? g0)).weights) ?_)
 rintro _ _ ⟨rfl, i1, j1, k1⟩
 refine ⟨_, rfl, ?_⟩
 have l1 := Wr.len_le m0 (nInts a0.weights.l)
 generalize w1 : v1.put (nInts a0.weights.l) = m1 at j1 l1
 try dsimp only [List.set, List.eraseIdx, Value.cells] at k1
 refine nB <| regionE ?_
 refine sAdd ((i : Nat) : Int) 1 ?_
 refine pu1 <| nT ?_
 have n1 := ((((k1.pick 1 rfl).pick 1 rfl).dropAt 2 rfl).dropAt 2 rfl)
 change Sat _ _ (i1 :: H :: F) at n1
 have hst : m1 = s'.put ((fun x => nTap x.v) a0) := by subst w1; subst u1; rfl
 exact ⟨(i + 1, m1, i1), by dsimp only; omega, alA, n1, om, (Wr.stepF hp g0).trans hst.symm, j1, l1⟩
theorem wr_stage (W w : World) (p : Nat) (s : Wr) (fp : Chunk) (H : Chunk) (F : List Chunk) (hI : WrR p s fp) (hb : s.bs.length ≤ 262144) (hS : Sat W w (fp :: H :: F)) (q : Stage) (hq : Stage.Ok [H] q) :
  Calls Try.prog 31 #[Pt p 0, .agg (encStage q).toArray] w fun e w' => e = .returned (.tuple #[]) ∧ ∃ fp' : Chunk, WrR p (s.put (nStage q.v)) fp' ∧ Sat W w' (fp' :: H :: F) := by
 have hl_weights := hq.weights.len; have hk_weights := hq.weights.le
 have hl_row := hq.row.len; have hk_row := hq.row.le
 have hl_col := hq.col.len; have hk_col := hq.col.le
 have hl_x := hq.x.len; have hk_x := hq.x.le
 have hl_y := hq.y.len; have hk_y := hq.y.le
 have hl_ops := hq.ops.len; have hk_ops := hq.ops.le
 refine callsE (n := 88) Try.func31 rfl rfl (Nat.le_of_ble_eq_true rfl) ?_
 refine sR ?_
 refine sBox hS (.agg (encStage q).toArray) (encStage q).toArray ?_
 intro c0 _ k0
 refine nT <| sR <| pu1 <| nT ?_
 refine cutE (fun ρ w => ∃ (bv : Int), AllAt ρ [(0, Pt p 0), (3, Pt c0 0), (4, I bv)] ∧ Sat W w ([(c0, .cells (encStage q).toArray 61 (0, 0))] :: fp :: H :: F) ∧ bv = nBool q.barrier) ?_ ?_
 ·refine sR <| pu1 ?_
  refine sL k0 0 3 (.bool q.barrier) (Try.isAgg4 _) ?_
  refine nT ?_
  rcases Classical.em (q.barrier = true) with e0 | e0
  ·refine cT _ e0 ?_
   refine regionE <| pu1 <| nT ?_
   exact ⟨1, alA, k0, by simp [nBool, e0]⟩
  refine cF _ (Bool.eq_false_iff.2 e0) ?_
  refine kT ?_
  exact ⟨0, alA, k0, by simp [nBool, e0]⟩
 rintro ρ _ ⟨bv, hA, b0, hbv⟩
 refine cAnchor hA (fun ρ => ?_)
 clear hA
 refine sR <| pu2 ?_
 refine sL b0 0 0 (I q.kind) (Try.isAgg3 _) ?_
 refine pu1 ?_
 refine sL b0 0 1 (I q.a) (Try.isAgg3 _) ?_
 refine pu1 ?_
 refine sL b0 0 2 (I q.b) (Try.isAgg3 _) ?_
 refine pu3 ?_
 refine sL b0 0 4 (I q.edgePolicy) (Try.isAgg3 _) ?_
 refine pu2 ?_
 refine sL b0 0 5 (I q.edgeFill) (Try.isAgg3 _) ?_
 refine pu1 ?_
 refine sL b0 0 6 (I q.kW) (Try.isAgg3 _) ?_
 refine pu1 ?_
 refine sL b0 0 7 (I q.kH) (Try.isAgg3 _) ?_
 refine sBS b0 #[I q.kind, I q.a, I q.b, I bv, I q.edgePolicy, I q.edgeFill, I q.kW, I q.kH] Try.runUnderlying22 Try.sizeOf3 Try.zeroValue3 ?_
 intro c1 _ f3
 have d1 := ((f3.pick 0 rfl).pick 2 rfl)
 try dsimp only [List.set, List.eraseIdx, Value.cells] at d1
 refine sF #[Pt p 0, .slice (At c1 0) 8 8] Try.call29 (Calls.mono (wr_number W _ _ _ _ _ _ hI hb d1 _ _ _ _ (RdT.blk (cs := [[(c1, .cells #[I q.kind, I q.a, I q.b, I bv, I q.edgePolicy, I q.edgeFill, I q.kW, I q.kH] 3 (0, 0))]]) (enc := encI) (sz := 1) (xs := [q.kind, q.a, q.b, bv, q.edgePolicy, q.edgeFill, q.kW, q.kH]) fR 8 0 rfl rfl rfl om)) ?_)
 rintro _ _ ⟨rfl, _, e1, l0⟩
 refine ⟨_, rfl, ?_⟩
 have m0 := Wr.len_le hb ([q.kind, q.a, q.b, bv, q.edgePolicy, q.edgeFill, q.kW, q.kH])
 generalize g1 : s.put ([q.kind, q.a, q.b, bv, q.edgePolicy, q.edgeFill, q.kW, q.kH]) = g3 at e1 m0
 try dsimp only [List.set, List.eraseIdx, Value.cells] at l0
 refine nT <| sR <| pu2 ?_
 refine sL l0 2 8 (.slice q.weights.a q.weights.n q.weights.k) (Try.isAgg22 _) ?_
 have h1 := ((l0.pick 3 rfl).pick 1 rfl)
 try dsimp only [List.set, List.eraseIdx, Value.cells] at h1
 refine sF #[Pt p 0, .slice q.weights.a q.weights.n q.weights.k] Try.call30 (Calls.mono (wr_numbers W _ _ _ _ _ _ e1 m0 h1 _ _ _ _ hq.weights) ?_)
 rintro _ _ ⟨rfl, _, i1, n0⟩
 refine ⟨_, rfl, ?_⟩
 have o0 := Wr.len_le m0 (nInts q.weights.l)
 generalize j1 : g3.put (nInts q.weights.l) = h3 at i1 o0
 try dsimp only [List.set, List.eraseIdx, Value.cells] at n0
 refine nT <| sR <| pu2 ?_
 refine sL n0 3 9 (.slice q.row.a q.row.n q.row.k) (Try.isAgg22 _) ?_
 have k1 := ((n0.pick 1 rfl).pick 1 rfl)
 try dsimp only [List.set, List.eraseIdx, Value.cells] at k1
 refine sF #[Pt p 0, .slice q.row.a q.row.n q.row.k] Try.call30 (Calls.mono (wr_numbers W _ _ _ _ _ _ i1 o0 k1 _ _ _ _ hq.row) ?_)
 rintro _ _ ⟨rfl, _, l1, p0⟩
 refine ⟨_, rfl, ?_⟩
 have q0 := Wr.len_le o0 (nInts q.row.l)
 generalize m1 : h3.put (nInts q.row.l) = i3 at l1 q0
 try dsimp only [List.set, List.eraseIdx, Value.cells] at p0
 refine nT <| sR <| pu2 ?_
 refine sL p0 3 10 (.slice q.col.a q.col.n q.col.k) (Try.isAgg22 _) ?_
 have n1 := ((p0.pick 1 rfl).pick 1 rfl)
 try dsimp only [List.set, List.eraseIdx, Value.cells] at n1
 refine sF #[Pt p 0, .slice q.col.a q.col.n q.col.k] Try.call30 (Calls.mono (wr_numbers W _ _ _ _ _ _ l1 q0 n1 _ _ _ _ hq.col) ?_)
 rintro _ _ ⟨rfl, _, o1, g0⟩
 refine ⟨_, rfl, ?_⟩
 have r0 := Wr.len_le q0 (nInts q.col.l)
 generalize p1 : i3.put (nInts q.col.l) = j3 at o1 r0
 try dsimp only [List.set, List.eraseIdx, Value.cells] at g0
 refine nT <| sR <| pu2 ?_
 refine sL g0 3 11 (I q.shift) (Try.isAgg3 _) ?_
 refine pu1 ?_
 refine sL g0 3 12 (I q.shift2) (Try.isAgg3 _) ?_
 refine sBS g0 #[I q.shift, I q.shift2] Try.runUnderlying22 Try.sizeOf3 Try.zeroValue3 ?_
 intro q1 _ k3
 have r1 := ((k3.pick 0 rfl).pick 1 rfl)
 try dsimp only [List.set, List.eraseIdx, Value.cells] at r1
 refine sF #[Pt p 0, .slice (At q1 0) 2 2] Try.call29 (Calls.mono (wr_number W _ _ _ _ _ _ o1 r0 r1 _ _ _ _ (RdT.blk (cs := [[(q1, .cells #[I q.shift, I q.shift2] 3 (0, 0))]]) (enc := encI) (sz := 1) (xs := [q.shift, q.shift2]) fR 2 0 rfl rfl rfl om)) ?_)
 rintro _ _ ⟨rfl, _, s1, s0⟩
 refine ⟨_, rfl, ?_⟩
 have t0 := Wr.len_le r0 ([q.shift, q.shift2])
 generalize t1 : j3.put ([q.shift, q.shift2]) = l3 at s1 t0
 try dsimp only [List.set, List.eraseIdx, Value.cells] at s0
 refine nT <| sR <| pu2 ?_
 refine sL s0 4 13 (.slice q.x.a q.x.n q.x.k) (Try.isAgg58 _) ?_
 have u1 := ((s0.pick 2 rfl).pick 1 rfl)
 try dsimp only [List.set, List.eraseIdx, Value.cells] at u1
 refine sF #[Pt p 0, .slice q.x.a q.x.n q.x.k] Try.call46 (Calls.mono (wr_taps W _ _ _ _ _ _ s1 t0 u1 _ _ _ _ hq.x hq.xD) ?_)
 rintro _ _ ⟨rfl, _, v1, u0⟩
 refine ⟨_, rfl, ?_⟩
 have v0 := Wr.len_le t0 (nTaps (q.x.l.map Tap.v))
 generalize w1 : l3.put (nTaps (q.x.l.map Tap.v)) = m3 at v1 v0
 try dsimp only [List.set, List.eraseIdx, Value.cells] at u0
 refine nT <| sR <| pu2 ?_
 refine sL u0 4 14 (.slice q.y.a q.y.n q.y.k) (Try.isAgg58 _) ?_
 have x1 := ((u0.pick 1 rfl).pick 1 rfl)
 try dsimp only [List.set, List.eraseIdx, Value.cells] at x1
 refine sF #[Pt p 0, .slice q.y.a q.y.n q.y.k] Try.call46 (Calls.mono (wr_taps W _ _ _ _ _ _ v1 v0 x1 _ _ _ _ hq.y hq.yD) ?_)
 rintro _ _ ⟨rfl, _, y1, h0⟩
 refine ⟨_, rfl, ?_⟩
 have w0 := Wr.len_le v0 (nTaps (q.y.l.map Tap.v))
 generalize z1 : m3.put (nTaps (q.y.l.map Tap.v)) = n3 at y1 w0
 try dsimp only [List.set, List.eraseIdx, Value.cells] at h0
 refine nT <| sR <| pu2 ?_
 refine sL h0 4 15 (I q.bins) (Try.isAgg3 _) ?_
 refine pu1 ?_
 refine sL h0 4 16 (.slice q.ops.a q.ops.n q.ops.k) (Try.isAgg59 _) ?_
 refine pu1 ?_
 refine sBS h0 #[I q.bins, I ((q.ops.n : Nat) : Int)] Try.runUnderlying22 Try.sizeOf3 Try.zeroValue3 ?_
 intro a2 _ o3
 have b2 := ((o3.pick 0 rfl).pick 1 rfl)
 try dsimp only [List.set, List.eraseIdx, Value.cells] at b2
 refine sF #[Pt p 0, .slice (At a2 0) 2 2] Try.call29 (Calls.mono (wr_number W _ _ _ _ _ _ y1 w0 b2 _ _ _ _ (RdT.blk (cs := [[(a2, .cells #[I q.bins, I ((q.ops.n : Nat) : Int)] 3 (0, 0))]]) (enc := encI) (sz := 1) (xs := [q.bins, ((q.ops.n : Nat) : Int)]) fR 2 0 rfl rfl rfl om)) ?_)
 rintro _ _ ⟨rfl, c2, d2, x0⟩
 refine ⟨_, rfl, ?_⟩
 have e2 := Wr.len_le w0 ([q.bins, ((q.ops.n : Nat) : Int)])
 generalize f2 : n3.put ([q.bins, ((q.ops.n : Nat) : Int)]) = i0 at d2 e2
 try dsimp only [List.set, List.eraseIdx, Value.cells] at x0
 refine nT <| seqE <| sR <| pu1 ?_
 refine sL x0 5 16 (.slice q.ops.a q.ops.n q.ops.k) (Try.isAgg59 _) ?_
 refine pu2 <| nT <| blockE ?_
 have g2 := ((((((x0.pick 2 rfl).pick 5 rfl).pick 2 rfl).dropAt 3 rfl).dropAt 3 rfl).dropAt 3 rfl)
 change Sat _ _ (c2 :: [(c0, .cells (encStage q).toArray 61 (0, 0))] :: H :: F) at g2
 refine loopE (γ := Nat × Wr × Chunk) (fun ⟨i, s', fp'⟩ ρ w => AllAt ρ [(0, Pt p 0), (3, Pt c0 0), (65, .slice q.ops.a q.ops.n q.ops.k), (66, I ((q.ops.n : Nat) : Int)), (67, I ((i : Nat) : Int))] ∧ Sat W w (fp' :: [(c0, .cells (encStage q).toArray 61 (0, 0))] :: H :: F) ∧ i ≤ q.ops.n ∧ i0.put ((q.ops.l.take i).flatMap nOp) = s' ∧ WrR p s' fp' ∧ s'.bs.length ≤ 262144) (fun ⟨i, s', fp'⟩ => q.ops.n - i) (0, i0, c2) ⟨alA, g2, Nat.zero_le _, rfl, d2, e2⟩ ?_
 skip
 rintro ⟨i, s', fp'⟩ ρ _ ⟨hA, j0, hi, hp, hI', hb'⟩
 refine cAnchor hA (fun ρ => ?_)
 clear hA
 refine sR <| pu1 <| nT <| seqE ?_
 by_cases h2 : (((i : Nat) : Int) : Int) < ((q.ops.n : Nat) : Int)
 rotate_left
 ·refine cF _ (decide_eq_false h2) ?_
  refine exitE (xB <| ?_)
  refine thenK_n <| regionE <| pu2 ?_
  refine sL j0 1 17 (I q.max_) (Try.isAgg3 _) ?_
  refine sBS j0 #[I q.max_] Try.runUnderlying22 Try.sizeOf3 Try.zeroValue3 ?_
  intro i2 _ p3
  have j2 := ((p3.pick 0 rfl).pick 1 rfl)
  try dsimp only [List.set, List.eraseIdx, Value.cells] at j2
  refine sF #[Pt p 0, .slice (At i2 0) 1 1] Try.call29 (Calls.mono (wr_number W _ _ _ _ _ _ hI' hb' j2 _ _ _ _ (RdT.blk (cs := [[(i2, .cells #[I q.max_] 3 (0, 0))]]) (enc := encI) (sz := 1) (xs := [q.max_]) fR 1 0 rfl rfl rfl om)) ?_)
  rintro _ _ ⟨rfl, q3, k2, l2⟩
  refine ⟨_, rfl, ?_⟩
  have r3 := Wr.len_le hb' ([q.max_])
  generalize m2 : s'.put ([q.max_]) = v4 at k2 r3
  try dsimp only [List.set, List.eraseIdx, Value.cells] at l2
  refine nilO ?_
  refine ret0n rfl ?_
  have n2 := ((((l2.pick 3 rfl).pick 1 rfl).dropAt 2 rfl).dropAt 2 rfl)
  change Sat _ _ (q3 :: H :: F) at n2
  refine ⟨rfl, _, ?_, n2⟩
  have hn : s.put (nStage q.v) = ((i0.put (q.ops.l.flatMap nOp)).put [q.max_]) := by subst hbv; subst m2; subst f2; subst z1; subst w1; subst t1; subst p1; subst m1; subst j1; subst g1; simp only [nStage, Stage.v, nTaps, nInts, nOps, Wr.put_app, ← hl_ops]; rfl
  have he := Wr.allF hp om
  rw [hn, he, m2]
  exact k2
 refine cT _ (decide_eq_true h2) ?_
 refine kT <| seqE <| blockE <| sR ?_
 refine sIdx hq.ops ((i : Nat) : Int) Try.runUnderlying59 Try.sizeOf66 ?_
 intro a0 _ _ o2 s3
 rw [Int.toNat_natCast] at o2
 refine sLpA j0 (s3.up 2 rfl) 0 [I a0.code, I a0.arg] (Try.isAgg66 _) (Try.sizeOf66 _) ?_
 refine sAlloc j0 Try.zeroValue66 ?_
 intro _ _ t3
 refine sTw t3 0 [I a0.code, I a0.arg] Try.sizeOf66 ?_
 intro _ p2
 try dsimp only [List.set, List.eraseIdx, Value.cells] at p2
 refine nT <| seqE <| seqE ?_
 have q2 := (p2.pick 1 rfl)
 try dsimp only [List.set, List.eraseIdx, Value.cells] at q2
 obtain ⟨y0, z0, a1, b1, rfl, r2⟩ := hI'
 have d0 := q2.split
 try dsimp only [List.set, List.eraseIdx, Value.cells] at d0
 refine regionE <| pu3 ?_
 refine sL d0 0 1 (.bool s'.full) (Try.isAgg4 _) ?_
 refine nT ?_
 rcases Classical.em (s'.full = true) with f0 | f0
 ·refine cT _ f0 ?_
  refine retE (tR <| thenK_r <| tR <| thenK_r <| ?_)
  refine ret0 rfl ?_
  have s2 := ((d0.pick 1 rfl).pick 1 rfl)
  try dsimp only [List.set, List.eraseIdx, Value.cells] at s2
  have t2 := s2.merge
  have u3 : WrR p s' ([(p, .cells #[.slice y0 z0 a1, .bool s'.full] 72 (0, 0))] ++ b1) := ⟨_, _, _, _, rfl, r2⟩
  try dsimp only [List.set, List.eraseIdx, Value.cells] at t2
  have u2 := ((((t2.pick 3 rfl).pick 1 rfl).dropAt 2 rfl).dropAt 2 rfl)
  change Sat _ _ (([(p, .cells #[.slice y0 z0 a1, .bool s'.full] 72 (0, 0))] ++ b1) :: H :: F) at u2
  refine ⟨rfl, _, ?_, u2⟩
  have hn : s.put (nStage q.v) = ((i0.put (q.ops.l.flatMap nOp)).put [q.max_]) := by subst hbv; subst f2; subst z1; subst w1; subst t1; subst p1; subst m1; subst j1; subst g1; simp only [nStage, Stage.v, nTaps, nInts, nOps, Wr.put_app, ← hl_ops]; rfl
  have he := Wr.stopF hp f0
  obtain ⟨bs1, f1⟩ := s'
  have hf1 : f1 = true := f0
  subst hf1
  rw [hn, he, Wr.put_full]
  exact u3
 refine cF _ (Bool.eq_false_iff.2 f0) ?_
 refine kT <| regionE <| pu2 ?_
 refine sL d0 2 0 (I a0.code) (Try.isAgg3 _) ?_
 refine pu1 ?_
 refine sL d0 2 1 (I a0.arg) (Try.isAgg3 _) ?_
 refine sBS d0 #[I a0.code, I a0.arg] Try.runUnderlying22 Try.sizeOf3 Try.zeroValue3 ?_
 intro v2 _ v3
 have w2 := ((v3.pick 2 rfl).pick 2 rfl)
 try dsimp only [List.set, List.eraseIdx, Value.cells] at w2
 have x2 := w2.merge
 have w3 : WrR p s' ([(p, .cells #[.slice y0 z0 a1, .bool s'.full] 72 (0, 0))] ++ b1) := ⟨_, _, _, _, rfl, r2⟩
 try dsimp only [List.set, List.eraseIdx, Value.cells] at x2
 have y2 := ((x2.pick 1 rfl).pick 1 rfl)
 try dsimp only [List.set, List.eraseIdx, Value.cells] at y2
 refine sF #[Pt p 0, .slice (At v2 0) 2 2] Try.call29 (Calls.mono (wr_number W _ _ _ _ _ _ w3 hb' y2 _ _ _ _ (RdT.blk (cs := [[(v2, .cells #[I a0.code, I a0.arg] 3 (0, 0))]]) (enc := encI) (sz := 1) (xs := [a0.code, a0.arg]) fR 2 0 rfl rfl rfl om)) ?_)
 rintro _ _ ⟨rfl, z2, a3, b3⟩
 refine ⟨_, rfl, ?_⟩
 have c3 := Wr.len_le hb' ([a0.code, a0.arg])
 generalize x3 : s'.put ([a0.code, a0.arg]) = d3 at a3 c3
 try dsimp only [List.set, List.eraseIdx, Value.cells] at b3
 refine nB <| regionE ?_
 refine sAdd ((i : Nat) : Int) 1 ?_
 refine pu1 <| nT ?_
 have e3 := (((((b3.pick 4 rfl).pick 4 rfl).pick 2 rfl).dropAt 3 rfl).dropAt 3 rfl)
 change Sat _ _ (z2 :: [(c0, .cells (encStage q).toArray 61 (0, 0))] :: H :: F) at e3
 have hst : d3 = s'.put (nOp a0) := by subst x3; rfl
 exact ⟨(i + 1, d3, z2), by dsimp only; omega, alA, e3, om, (Wr.stepF hp o2).trans hst.symm, a3, c3⟩
theorem codec_encode (W w : World) (H : Chunk) (F : List Chunk) (j : Job) (hj : Job.Ok [H] j) (hS : Sat W w (H :: F)) :
  Calls Try.prog 11 #[.agg (encJob j).toArray] w fun e w' => (3 + 8 * (nJob j.v).length ≤ 262144 ∧ ∃ (a : Option Addr) (n k : Nat) (c : Chunk), e = .returned (.tuple #[.slice a n k, I 0]) ∧ OwnT encB 5 1 a n k ([84, 70, 1] ++ bytesOf (nJob j.v)) c ∧ Sat W w' (c :: H :: F)) ∨ (262144 < 3 + 8 * (nJob j.v).length ∧ e = .returned (.tuple #[.slice none 0 0, I 5]) ∧ Sat W w' (H :: F)) := by
 have hl_inputs := hj.inputs.len; have hk_inputs := hj.inputs.le
 have hl_stages := hj.stages.len; have hk_stages := hj.stages.le
 have hl_outputs := hj.outputs.len; have hk_outputs := hj.outputs.le
 refine callsE (n := 78) Try.func11 rfl rfl (Nat.le_of_ble_eq_true rfl) ?_
 refine sR ?_
 refine sBox hS (.agg (encJob j).toArray) (encJob j).toArray ?_
 intro d0 _ u3
 refine pu2 <| nT <| sR ?_
 refine sBS u3 #[.int .u8 84, .int .u8 70, .int .u8 1] Try.runUnderlying31 Try.sizeOf5 Try.zeroValue5 ?_
 intro h0 _ v3
 refine pu1 ?_
 refine sBox v3 (.agg #[.slice (At h0 0) 3 3, .bool false]) #[.slice (At h0 0) 3 3, .bool false] ?_
 intro c0 _ w3
 refine pu1 <| nilO ?_
 have x3 := OwnT.blk (enc := encB) (sz := 1) (b := h0) (c := #[.int .u8 84, .int .u8 70, .int .u8 1]) (E := 5) (xs := [84, 70, 1]) fR 3 rfl rfl rfl om
 have j1 := ((w3.pick 1 rfl).pick 1 rfl)
 try dsimp only [List.set, List.eraseIdx, Value.cells] at j1
 have m0 := j1.merge
 have y3 : WrR c0 ⟨[84, 70, 1], false⟩ ([(c0, .cells #[.slice (At h0 0) 3 3, .bool false] 72 (0, 0))] ++ [(h0, .cells #[.int .u8 84, .int .u8 70, .int .u8 1] 5 (0, 0))]) := ⟨_, _, _, _, rfl, x3⟩
 have k1 : (⟨[84, 70, 1], false⟩ : Wr).bs.length ≤ 262144 := by decide
 try dsimp only [List.set, List.eraseIdx, Value.cells] at m0
 refine thenK_n <| sR <| pu2 ?_
 refine sL m0 1 3 (I j.priority) (Try.isAgg3 _) ?_
 refine pu1 ?_
 refine sL m0 1 0 (.slice j.inputs.a j.inputs.n j.inputs.k) (Try.isAgg25 _) ?_
 refine pu1 ?_
 refine sBS m0 #[I j.priority, I ((j.inputs.n : Nat) : Int)] Try.runUnderlying22 Try.sizeOf3 Try.zeroValue3 ?_
 intro l1 _ z3
 have m1 := ((z3.pick 0 rfl).pick 1 rfl)
 try dsimp only [List.set, List.eraseIdx, Value.cells] at m1
 refine sF #[Pt c0 0, .slice (At l1 0) 2 2] Try.call29 (Calls.mono (wr_number W _ _ _ _ _ _ y3 k1 m1 _ _ _ _ (RdT.blk (cs := [[(l1, .cells #[I j.priority, I ((j.inputs.n : Nat) : Int)] 3 (0, 0))]]) (enc := encI) (sz := 1) (xs := [j.priority, ((j.inputs.n : Nat) : Int)]) fR 2 0 rfl rfl rfl om)) ?_)
 rintro _ _ ⟨rfl, n1, o1, p0⟩
 refine ⟨_, rfl, ?_⟩
 have p1 := Wr.len_le k1 ([j.priority, ((j.inputs.n : Nat) : Int)])
 generalize q1 : (⟨[84, 70, 1], false⟩ : Wr).put ([j.priority, ((j.inputs.n : Nat) : Int)]) = i0 at o1 p1
 try dsimp only [List.set, List.eraseIdx, Value.cells] at p0
 refine nT ?_
 refine cutE (fun ρ w => ∃ (fp0 : Chunk), AllAt ρ [(1, Pt d0 0), (4, Pt c0 0)] ∧ Sat W w (fp0 :: [(d0, .cells (encJob j).toArray 28 (0, 0))] :: H :: F) ∧ WrR c0 (i0.put (j.inputs.l.flatMap (fun x => nPlane x.v))) fp0 ∧ (i0.put (j.inputs.l.flatMap (fun x => nPlane x.v))).bs.length ≤ 262144) ?_ ?_
 ·refine sR <| pu1 ?_
  refine sL p0 2 0 (.slice j.inputs.a j.inputs.n j.inputs.k) (Try.isAgg25 _) ?_
  refine pu2 <| nT <| blockE ?_
  have r1 := ((((p0.pick 3 rfl).pick 3 rfl).pick 2 rfl).dropAt 3 rfl)
  change Sat _ _ (n1 :: [(d0, .cells (encJob j).toArray 28 (0, 0))] :: H :: F) at r1
  refine loopE (γ := Nat × Wr × Chunk) (fun ⟨i, s', fp'⟩ ρ w => AllAt ρ [(1, Pt d0 0), (4, Pt c0 0), (21, .slice j.inputs.a j.inputs.n j.inputs.k), (22, I ((j.inputs.n : Nat) : Int)), (23, I ((i : Nat) : Int))] ∧ Sat W w (fp' :: [(d0, .cells (encJob j).toArray 28 (0, 0))] :: H :: F) ∧ i ≤ j.inputs.n ∧ i0.put ((j.inputs.l.take i).flatMap (fun x => nPlane x.v)) = s' ∧ WrR c0 s' fp' ∧ s'.bs.length ≤ 262144) (fun ⟨i, s', fp'⟩ => j.inputs.n - i) (0, i0, n1) ⟨alA, r1, Nat.zero_le _, rfl, o1, p1⟩ ?_
  skip
  rintro ⟨i, s', fp'⟩ ρ _ ⟨hA, q0, hi, hp, hI', hb'⟩
  refine cAnchor hA (fun ρ => ?_)
  clear hA
  refine sR <| pu1 <| nT <| seqE ?_
  by_cases s1 : (((i : Nat) : Int) : Int) < ((j.inputs.n : Nat) : Int)
  rotate_left
  ·refine cF _ (decide_eq_false s1) ?_
   refine exitE (xB <| ?_)
   refine thenK_n ?_
   have t1 := (((q0.pick 2 rfl).pick 2 rfl).pick 2 rfl)
   change Sat _ _ (fp' :: [(d0, .cells (encJob j).toArray 28 (0, 0))] :: H :: F) at t1
   have he := Wr.allF hp om
   exact ⟨fp', alA, t1, by rw [he]; exact hI', by rw [he]; exact hb'⟩
  refine cT _ (decide_eq_true s1) ?_
  refine kT <| seqE <| blockE <| sR ?_
  refine sIdx hj.inputs ((i : Nat) : Int) Try.runUnderlying25 Try.sizeOf49 ?_
  intro b0 _ _ r0 a4
  rw [Int.toNat_natCast] at r0
  refine sLpA q0 (a4.up 2 rfl) 0 (encPlane b0) (Try.isAgg49 _) (Try.sizeOf49 _) ?_
  refine sAlloc q0 Try.zeroValue49 ?_
  intro _ _ b4
  refine sT b4 0 0 (.agg (encPlane b0).toArray) (encPlane b0) (encPlane b0).toArray Try.sizeOf49 ?_
  intro _ c4
  refine nT <| seqE <| seqE ?_
  have u1 := (c4.pick 1 rfl)
  try dsimp only [List.set, List.eraseIdx, Value.cells] at u1
  obtain ⟨s0, t0, u0, v0, rfl, v1⟩ := hI'
  have e0 := u1.split
  try dsimp only [List.set, List.eraseIdx, Value.cells] at e0
  refine regionE <| pu3 ?_
  refine sL e0 0 1 (.bool s'.full) (Try.isAgg4 _) ?_
  refine nT ?_
  rcases Classical.em (s'.full = true) with n0 | n0
  ·refine cT _ n0 ?_
   refine exitE (thenK_x <| blockK_y rfl <| xB <| ?_)
   refine thenK_n ?_
   have w1 := ((e0.pick 1 rfl).pick 1 rfl)
   try dsimp only [List.set, List.eraseIdx, Value.cells] at w1
   have x1 := w1.merge
   have d4 : WrR c0 s' ([(c0, .cells #[.slice s0 t0 u0, .bool s'.full] 72 (0, 0))] ++ v0) := ⟨_, _, _, _, rfl, v1⟩
   try dsimp only [List.set, List.eraseIdx, Value.cells] at x1
   have y1 := ((((x1.pick 3 rfl).pick 3 rfl).pick 2 rfl).dropAt 3 rfl)
   try dsimp only [List.set, List.eraseIdx, Value.cells] at y1
   have he := Wr.stopF hp n0
   exact ⟨([(c0, .cells #[.slice s0 t0 u0, .bool s'.full] 72 (0, 0))] ++ v0), alA, y1, by rw [he]; exact d4, by rw [he]; exact hb'⟩
  refine cF _ (Bool.eq_false_iff.2 n0) ?_
  refine kT <| sR <| pu2 ?_
  refine sL e0 2 0 (I b0.w) (Try.isAgg3 _) ?_
  refine pu1 ?_
  refine sL e0 2 1 (I b0.h) (Try.isAgg3 _) ?_
  refine pu1 ?_
  refine sL e0 2 2 (I b0.max_) (Try.isAgg3 _) ?_
  refine sBS e0 #[I b0.w, I b0.h, I b0.max_] Try.runUnderlying22 Try.sizeOf3 Try.zeroValue3 ?_
  intro z1 _ e4
  have a2 := ((e4.pick 2 rfl).pick 2 rfl)
  try dsimp only [List.set, List.eraseIdx, Value.cells] at a2
  have b2 := a2.merge
  have f4 : WrR c0 s' ([(c0, .cells #[.slice s0 t0 u0, .bool s'.full] 72 (0, 0))] ++ v0) := ⟨_, _, _, _, rfl, v1⟩
  try dsimp only [List.set, List.eraseIdx, Value.cells] at b2
  have c2 := ((b2.pick 1 rfl).pick 1 rfl)
  try dsimp only [List.set, List.eraseIdx, Value.cells] at c2
  refine sF #[Pt c0 0, .slice (At z1 0) 3 3] Try.call29 (Calls.mono (wr_number W _ _ _ _ _ _ f4 hb' c2 _ _ _ _ (RdT.blk (cs := [[(z1, .cells #[I b0.w, I b0.h, I b0.max_] 3 (0, 0))]]) (enc := encI) (sz := 1) (xs := [b0.w, b0.h, b0.max_]) fR 3 0 rfl rfl rfl om)) ?_)
  rintro _ _ ⟨rfl, _, d2, w0⟩
  refine ⟨_, rfl, ?_⟩
  have x0 := Wr.len_le hb' ([b0.w, b0.h, b0.max_])
  generalize g4 : s'.put ([b0.w, b0.h, b0.max_]) = h4 at d2 x0
  try dsimp only [List.set, List.eraseIdx, Value.cells] at w0
  refine nT <| regionE <| pu2 ?_
  refine sL w0 2 3 (.slice b0.pix.a b0.pix.n b0.pix.k) (Try.isAgg22 _) ?_
  have e2 := ((w0.pick 4 rfl).pick 1 rfl)
  try dsimp only [List.set, List.eraseIdx, Value.cells] at e2
  refine sF #[Pt c0 0, .slice b0.pix.a b0.pix.n b0.pix.k] Try.call30 (Calls.mono (wr_numbers W _ _ _ _ _ _ d2 x0 e2 _ _ _ _ (hj.inputsD b0 (List.mem_of_getElem? r0)).pix) ?_)
  rintro _ _ ⟨rfl, f2, g2, h2⟩
  refine ⟨_, rfl, ?_⟩
  have i2 := Wr.len_le x0 (nInts b0.pix.l)
  generalize i4 : h4.put (nInts b0.pix.l) = j2 at g2 i2
  try dsimp only [List.set, List.eraseIdx, Value.cells] at h2
  refine nB <| regionE ?_
  refine sAdd ((i : Nat) : Int) 1 ?_
  refine pu1 <| nT ?_
  have k2 := (((((h2.pick 1 rfl).pick 4 rfl).pick 2 rfl).dropAt 3 rfl).dropAt 3 rfl)
  change Sat _ _ (f2 :: [(d0, .cells (encJob j).toArray 28 (0, 0))] :: H :: F) at k2
  have hst : j2 = s'.put ((fun x => nPlane x.v) b0) := by subst i4; subst g4; simp only [nPlane, Wr.put_app]; rfl
  exact ⟨(i + 1, j2, f2), by dsimp only; omega, alA, k2, om, (Wr.stepF hp r0).trans hst.symm, g2, i2⟩
 rintro ρ _ ⟨fp0, hA, l2, hI0, hb0⟩
 refine cAnchor hA (fun ρ => ?_)
 clear hA
 refine sR <| pu2 ?_
 refine sL l2 1 1 (.slice j.stages.a j.stages.n j.stages.k) (Try.isAgg26 _) ?_
 refine pu1 ?_
 refine sBS l2 #[I ((j.stages.n : Nat) : Int)] Try.runUnderlying22 Try.sizeOf3 Try.zeroValue3 ?_
 intro m2 _ j4
 have n2 := ((j4.pick 0 rfl).pick 1 rfl)
 try dsimp only [List.set, List.eraseIdx, Value.cells] at n2
 refine sF #[Pt c0 0, .slice (At m2 0) 1 1] Try.call29 (Calls.mono (wr_number W _ _ _ _ _ _ hI0 hb0 n2 _ _ _ _ (RdT.blk (cs := [[(m2, .cells #[I ((j.stages.n : Nat) : Int)] 3 (0, 0))]]) (enc := encI) (sz := 1) (xs := [((j.stages.n : Nat) : Int)]) fR 1 0 rfl rfl rfl om)) ?_)
 rintro _ _ ⟨rfl, o2, p2, y0⟩
 refine ⟨_, rfl, ?_⟩
 have q2 := Wr.len_le hb0 ([((j.stages.n : Nat) : Int)])
 generalize r2 : (i0.put (j.inputs.l.flatMap (fun x => nPlane x.v))).put ([((j.stages.n : Nat) : Int)]) = j0 at p2 q2
 try dsimp only [List.set, List.eraseIdx, Value.cells] at y0
 refine nT ?_
 refine cutE (fun ρ w => ∃ (fp1 : Chunk), AllAt ρ [(1, Pt d0 0), (4, Pt c0 0)] ∧ Sat W w (fp1 :: [(d0, .cells (encJob j).toArray 28 (0, 0))] :: H :: F) ∧ WrR c0 (j0.put (j.stages.l.flatMap (fun x => nStage x.v))) fp1 ∧ (j0.put (j.stages.l.flatMap (fun x => nStage x.v))).bs.length ≤ 262144) ?_ ?_
 rotate_left
 ·rintro ρ _ ⟨fp1, hA, s2, hI1, hb1⟩
  refine cAnchor hA (fun ρ => ?_)
  clear hA
  refine sR <| pu2 ?_
  refine sL s2 1 2 (.slice j.outputs.a j.outputs.n j.outputs.k) (Try.isAgg22 _) ?_
  have t2 := ((s2.pick 2 rfl).pick 1 rfl)
  change Sat _ _ (fp1 :: H :: [(d0, .cells (encJob j).toArray 28 (0, 0))] :: F) at t2
  refine sF #[Pt c0 0, .slice j.outputs.a j.outputs.n j.outputs.k] Try.call30 (Calls.mono (wr_numbers W _ _ _ _ _ _ hI1 hb1 t2 _ _ _ _ hj.outputs) ?_)
  rintro _ _ ⟨rfl, u2, v2, z0⟩
  refine ⟨_, rfl, ?_⟩
  have k4 := Wr.len_le hb1 (nInts j.outputs.l)
  generalize w2 : (j0.put (j.stages.l.flatMap (fun x => nStage x.v))).put (nInts j.outputs.l) = g0 at v2 k4
  change Sat _ _ (u2 :: H :: [(d0, .cells (encJob j).toArray 28 (0, 0))] :: F) at z0
  refine nT <| seqE <| seqE ?_
  change Sat _ _ (u2 :: H :: [(d0, .cells (encJob j).toArray 28 (0, 0))] :: F) at z0
  obtain ⟨a1, b1, c1, x2, rfl, y2⟩ := v2
  have k0 := z0.split
  try dsimp only [List.set, List.eraseIdx, Value.cells] at k0
  refine regionE <| pu3 ?_
  refine sL k0 0 1 (.bool g0.full) (Try.isAgg4 _) ?_
  refine nT ?_
  rcases Classical.em (g0.full = true) with f0 | f0
  rotate_left
  ·refine cF _ (Bool.eq_false_iff.2 f0) ?_
   refine kT <| sR <| pu3 ?_
   refine sL k0 0 0 (.slice a1 b1 c1) (Try.isAgg31 _) ?_
   refine pu2 <| nT <| retE <| retT [.slice a1 b1 c1, I 0] ?_
   have htot : (⟨[84, 70, 1], false⟩ : Wr).put (nJob j.v) = g0 := by subst w2; subst r2; subst q1; simp only [nJob, Job.v, nInts, Wr.put_app, List.length_map, List.flatMap_map, hl_inputs, hl_stages]; rfl
   have hq := Wr.put_eq (nJob j.v) [84, 70, 1]
   rw [htot] at hq
   have hlen : 2 ≤ (nJob j.v).length := by simp [nJob]
   have hne : nJob j.v ≠ [] := by intro h; rw [h] at hlen; simp at hlen
   have hle : ([84, 70, 1] : List Int).length + 8 * (nJob j.v).length ≤ 262144 := by
    apply Classical.byContradiction
    intro hn
    rw [if_neg (by intro h; rcases h with h | h; exact hn h; exact hne h)] at hq
    rw [hq] at f0
    exact f0 rfl
   rw [if_pos (Or.inl hle)] at hq
   have z2 := ((((k0.pick 2 rfl).pick 2 rfl).dropAt 2 rfl).dropAt 2 rfl)
   change Sat _ _ (x2 :: H :: F) at z2
   have hO2 := y2
   rw [hq] at hO2
   refine .inl ⟨by simp only [List.length_cons, List.length_nil] at hle; omega, _, _, _, _, rfl, hO2, z2⟩
  refine cT _ f0 ?_
  refine sR <| pu2 <| nT ?_
  refine retE (thenK_r <| ?_)
  refine retT [.slice none 0 0, I 5] ?_
  have htot : (⟨[84, 70, 1], false⟩ : Wr).put (nJob j.v) = g0 := by subst w2; subst r2; subst q1; simp only [nJob, Job.v, nInts, Wr.put_app, List.length_map, List.flatMap_map, hl_inputs, hl_stages]; rfl
  have hq := Wr.put_eq (nJob j.v) [84, 70, 1]
  rw [htot] at hq
  have hlen : 2 ≤ (nJob j.v).length := by simp [nJob]
  have hne : nJob j.v ≠ [] := by intro h; rw [h] at hlen; simp at hlen
  have hnot : ¬ (([84, 70, 1] : List Int).length + 8 * (nJob j.v).length ≤ 262144) := by
   intro hle
   rw [if_pos (Or.inl hle)] at hq
   rw [hq] at f0
   cases f0
  have a3 := ((k0.pick 1 rfl).pick 1 rfl)
  try dsimp only [List.set, List.eraseIdx, Value.cells] at a3
  have b3 := a3.merge
  have l5 : WrR c0 g0 ([(c0, .cells #[.slice a1 b1 c1, .bool g0.full] 72 (0, 0))] ++ x2) := ⟨_, _, _, _, rfl, y2⟩
  try dsimp only [List.set, List.eraseIdx, Value.cells] at b3
  have c3 := (((b3.pick 1 rfl).dropAt 1 rfl).dropAt 1 rfl)
  change Sat _ _ (H :: F) at c3
  refine .inr ⟨by simp only [List.length_cons, List.length_nil] at hnot; omega, rfl, c3⟩
 refine sR <| pu1 ?_
 refine sL y0 2 1 (.slice j.stages.a j.stages.n j.stages.k) (Try.isAgg26 _) ?_
 refine pu2 <| nT <| blockE ?_
 have d3 := ((((y0.pick 3 rfl).pick 3 rfl).pick 2 rfl).dropAt 3 rfl)
 change Sat _ _ (o2 :: [(d0, .cells (encJob j).toArray 28 (0, 0))] :: H :: F) at d3
 refine loopE (γ := Nat × Wr × Chunk) (fun ⟨i, s', fp'⟩ ρ w => AllAt ρ [(1, Pt d0 0), (4, Pt c0 0), (52, .slice j.stages.a j.stages.n j.stages.k), (53, I ((j.stages.n : Nat) : Int)), (54, I ((i : Nat) : Int))] ∧ Sat W w (fp' :: [(d0, .cells (encJob j).toArray 28 (0, 0))] :: H :: F) ∧ i ≤ j.stages.n ∧ j0.put ((j.stages.l.take i).flatMap (fun x => nStage x.v)) = s' ∧ WrR c0 s' fp' ∧ s'.bs.length ≤ 262144) (fun ⟨i, s', fp'⟩ => j.stages.n - i) (0, j0, o2) ⟨alA, d3, Nat.zero_le _, rfl, p2, q2⟩ ?_
 skip
 rintro ⟨i, s', fp'⟩ ρ _ ⟨hA, d1, hi, hp, hI', hb'⟩
 refine cAnchor hA (fun ρ => ?_)
 clear hA
 refine sR <| pu1 <| nT <| seqE ?_
 by_cases e3 : (((i : Nat) : Int) : Int) < ((j.stages.n : Nat) : Int)
 rotate_left
 ·refine cF _ (decide_eq_false e3) ?_
  refine exitE (xB <| ?_)
  refine thenK_n ?_
  have f3 := (((d1.pick 2 rfl).pick 2 rfl).pick 2 rfl)
  change Sat _ _ (fp' :: [(d0, .cells (encJob j).toArray 28 (0, 0))] :: H :: F) at f3
  have he := Wr.allF hp om
  exact ⟨fp', alA, f3, by rw [he]; exact hI', by rw [he]; exact hb'⟩
 refine cT _ (decide_eq_true e3) ?_
 refine kT <| seqE <| blockE <| sR ?_
 refine sIdx hj.stages ((i : Nat) : Int) Try.runUnderlying26 Try.sizeOf61 ?_
 intro a0 _ _ e1 l4
 rw [Int.toNat_natCast] at e1
 refine sLpA d1 (l4.up 2 rfl) 0 (encStage a0) (Try.isAgg61 _) (Try.sizeOf61 _) ?_
 refine sAlloc d1 Try.zeroValue61 ?_
 intro _ _ m4
 refine sT m4 0 0 (.agg (encStage a0).toArray) (encStage a0) (encStage a0).toArray Try.sizeOf61 ?_
 intro _ n4
 refine nT <| seqE <| seqE ?_
 have g3 := (n4.pick 1 rfl)
 try dsimp only [List.set, List.eraseIdx, Value.cells] at g3
 obtain ⟨f1, g1, h1, i1, rfl, h3⟩ := hI'
 have l0 := g3.split
 try dsimp only [List.set, List.eraseIdx, Value.cells] at l0
 refine regionE <| pu3 ?_
 refine sL l0 0 1 (.bool s'.full) (Try.isAgg4 _) ?_
 refine nT ?_
 rcases Classical.em (s'.full = true) with o0 | o0
 ·refine cT _ o0 ?_
  refine exitE (thenK_x <| blockK_y rfl <| xB <| ?_)
  refine thenK_n ?_
  have i3 := ((l0.pick 1 rfl).pick 1 rfl)
  try dsimp only [List.set, List.eraseIdx, Value.cells] at i3
  have j3 := i3.merge
  have o4 : WrR c0 s' ([(c0, .cells #[.slice f1 g1 h1, .bool s'.full] 72 (0, 0))] ++ i1) := ⟨_, _, _, _, rfl, h3⟩
  try dsimp only [List.set, List.eraseIdx, Value.cells] at j3
  have k3 := ((((j3.pick 3 rfl).pick 3 rfl).pick 2 rfl).dropAt 3 rfl)
  try dsimp only [List.set, List.eraseIdx, Value.cells] at k3
  have he := Wr.stopF hp o0
  exact ⟨([(c0, .cells #[.slice f1 g1 h1, .bool s'.full] 72 (0, 0))] ++ i1), alA, k3, by rw [he]; exact o4, by rw [he]; exact hb'⟩
 refine cF _ (Bool.eq_false_iff.2 o0) ?_
 refine kT <| regionE <| pu1 ?_
 refine sLA l0 2 0 [I a0.kind, I a0.a, I a0.b, .bool a0.barrier, I a0.edgePolicy, I a0.edgeFill, I a0.kW, I a0.kH, .slice a0.weights.a a0.weights.n a0.weights.k, .slice a0.row.a a0.row.n a0.row.k, .slice a0.col.a a0.col.n a0.col.k, I a0.shift, I a0.shift2, .slice a0.x.a a0.x.n a0.x.k, .slice a0.y.a a0.y.n a0.y.k, I a0.bins, .slice a0.ops.a a0.ops.n a0.ops.k, I a0.max_] (Try.isAgg61 _) (Try.sizeOf61 _) ?_
 have l3 := ((l0.pick 1 rfl).pick 1 rfl)
 try dsimp only [List.set, List.eraseIdx, Value.cells] at l3
 have m3 := l3.merge
 have p4 : WrR c0 s' ([(c0, .cells #[.slice f1 g1 h1, .bool s'.full] 72 (0, 0))] ++ i1) := ⟨_, _, _, _, rfl, h3⟩
 try dsimp only [List.set, List.eraseIdx, Value.cells] at m3
 have n3 := ((m3.pick 3 rfl).pick 1 rfl)
 try dsimp only [List.set, List.eraseIdx, Value.cells] at n3
 refine sF #[Pt c0 0, .agg (encStage a0).toArray] Try.call31 (Calls.mono (wr_stage W _ _ _ _ _ _ p4 hb' n3 a0 (hj.stagesD a0 (List.mem_of_getElem? e1))) ?_)
 rintro _ _ ⟨rfl, o3, p3, q3⟩
 refine ⟨_, rfl, ?_⟩
 have r3 := Wr.len_le hb' (nStage a0.v)
 generalize q4 : s'.put (nStage a0.v) = s3 at p3 r3
 try dsimp only [List.set, List.eraseIdx, Value.cells] at q3
 refine nB <| regionE ?_
 refine sAdd ((i : Nat) : Int) 1 ?_
 refine pu1 <| nT ?_
 have t3 := ((((q3.pick 1 rfl).pick 3 rfl).pick 2 rfl).dropAt 3 rfl)
 change Sat _ _ (o3 :: [(d0, .cells (encJob j).toArray 28 (0, 0))] :: H :: F) at t3
 have hst : s3 = s'.put ((fun x => nStage x.v) a0) := by subst q4; rfl
 exact ⟨(i + 1, s3, o3), by dsimp only; omega, alA, t3, om, (Wr.stepF hp e1).trans hst.symm, p3, r3⟩
end Go.Proofs.Ytcddcpaodcjecaa
