import Derived.Test.YtcddcpaodcjecaaApi
namespace Go.Proofs.Ytcddcpaodcjecaa
open Go Go.E
set_option linter.unusedVariables false
set_option linter.unusedSimpArgs false
set_option linter.unnecessarySimpa false
set_option maxRecDepth 100000

/-! ### the numbers of a job and their bytes -/
def be8 (n : Int) : List Int := [n % 18446744073709551616 / 72057594037927936 % 256, n % 18446744073709551616 / 281474976710656 % 256, n % 18446744073709551616 / 1099511627776 % 256, n % 18446744073709551616 / 4294967296 % 256, n % 18446744073709551616 / 16777216 % 256, n % 18446744073709551616 / 65536 % 256, n % 18446744073709551616 / 256 % 256, n % 18446744073709551616 / 1 % 256]
theorem be8_len (n : Int) : (be8 n).length = 8 := rfl
theorem be8_bytes (n : Int) : Bytes (be8 n) := by
  intro b hb
  simp only [be8, List.mem_cons, List.not_mem_nil, or_false] at hb
  rcases hb with rfl | rfl | rfl | rfl | rfl | rfl | rfl | rfl <;> omega
def bytesOf (l : List Int) : List Int := l.flatMap be8
theorem bytesOf_app (a b : List Int) : bytesOf (a ++ b) = bytesOf a ++ bytesOf b := by simp [bytesOf]
theorem bytesOf_cons (a : Int) (b : List Int) : bytesOf (a :: b) = be8 a ++ bytesOf b := by simp [bytesOf]
theorem bytesOf_len (l : List Int) : (bytesOf l).length = 8 * l.length := by
  induction l with
  | nil => rfl
  | cons x l ih => rw [bytesOf_cons]; simp [ih, be8_len]; omega
theorem bytesOf_bytes (l : List Int) : Bytes (bytesOf l) := by
  intro b hb
  obtain ⟨n, _, h⟩ := List.mem_flatMap.1 hb
  exact be8_bytes n b h
theorem Bytes.app {a b : List Int} (ha : Bytes a) (hb : Bytes b) : Bytes (a ++ b) := by
  intro x hx
  rcases List.mem_append.1 hx with h | h
  · exact ha x h
  · exact hb x h
def nInts (l : List Int) : List Int := (l.length : Int) :: l
def nTap (t : TapV) : List Int := t.first :: nInts t.weights
def nTaps (l : List TapV) : List Int := (l.length : Int) :: l.flatMap nTap
def nOp (p : POp) : List Int := [p.code, p.arg]
def nOps (l : List POp) : List Int := (l.length : Int) :: l.flatMap nOp
def nBool (b : Bool) : Int := if b then 1 else 0
def nStage (s : StageV) : List Int :=
  [s.kind, s.a, s.b, nBool s.barrier, s.edgePolicy, s.edgeFill, s.kW, s.kH] ++ (nInts s.weights ++ (nInts s.row ++ (nInts s.col ++ ([s.shift, s.shift2] ++ (nTaps s.x ++ (nTaps s.y ++ ([s.bins] ++ (nOps s.ops ++ [s.max_]))))))))
def nPlane (p : PlaneV) : List Int := [p.w, p.h, p.max_] ++ nInts p.pix
def nJob (j : JobV) : List Int := [j.priority, (j.inputs.length : Int)] ++ (j.inputs.flatMap nPlane ++ (((j.stages.length : Int) :: j.stages.flatMap nStage) ++ nInts j.outputs))
/-- What is written, as long as it stays within the limit. -/
structure Wr where
  bs : List Int
  full : Bool
def Wr.one (s : Wr) (n : Int) : Wr := if s.full = true ∨ 262144 < s.bs.length + 8 then ⟨s.bs, true⟩ else ⟨s.bs ++ be8 n, false⟩
def Wr.put (s : Wr) (l : List Int) : Wr := l.foldl Wr.one s
theorem Wr.put_app (s : Wr) (a b : List Int) : s.put (a ++ b) = (s.put a).put b := by simp [Wr.put]
theorem Wr.put_nil (s : Wr) : s.put [] = s := rfl
theorem Wr.put_full (bs : List Int) : ∀ l : List Int, (⟨bs, true⟩ : Wr).put l = ⟨bs, true⟩ := by
  intro l
  induction l with
  | nil => rfl
  | cons x l ih => simp only [Wr.put, List.foldl_cons] at ih ⊢; rw [show Wr.one ⟨bs, true⟩ x = ⟨bs, true⟩ from by simp [Wr.one]]; exact ih
theorem Wr.put_take {s t : Wr} {l : List Int} {i : Nat} {x : Int} (h : s.put (l.take i) = t) (hx : l[i]? = some x) : s.put (l.take (i + 1)) = t.one x := by
  rw [List.take_add_one, hx, Option.toList_some, Wr.put_app, h]; rfl
theorem Wr.put_stop {s : Wr} {l : List Int} {i : Nat} {bs : List Int} (h : s.put (l.take i) = ⟨bs, true⟩) : s.put l = ⟨bs, true⟩ := by
  rw [← List.take_append_drop i l, Wr.put_app, h, Wr.put_full]
theorem Wr.stopAt {s t : Wr} {l : List Int} {i : Nat} {x : Int} (h : s.put (l.take i) = t) (hx : l[i]? = some x) (hf : t.full = true ∨ 262144 < t.bs.length + 8) : s.put l = ⟨t.bs, true⟩ :=
  Wr.put_stop (i := i + 1) (by rw [Wr.put_take h hx]; simp only [Wr.one]; rw [if_pos hf])
theorem Wr.goAt {s t : Wr} {l : List Int} {i : Nat} {x : Int} (h : s.put (l.take i) = t) (hx : l[i]? = some x) (hf : t.full = false) (hl : ¬ (262144 < t.bs.length + 8)) : s.put (l.take (i + 1)) = ⟨t.bs ++ be8 x, false⟩ := by
  rw [Wr.put_take h hx]; simp only [Wr.one]; rw [if_neg (by simp [hf]; omega)]
theorem Wr.len_le {s : Wr} (h : s.bs.length ≤ 262144) : ∀ l : List Int, (s.put l).bs.length ≤ 262144 := by
  intro l
  induction l generalizing s with
  | nil => exact h
  | cons x l ih =>
    refine ih (s := s.one x) ?_
    unfold Wr.one
    split
    · exact h
    · rename_i hn
      simp only [List.length_append, be8_len]
      omega
/-- All is written where all is within the limit; else the limit is reached. -/
theorem Wr.put_eq (l : List Int) : ∀ bs : List Int, (⟨bs, false⟩ : Wr).put l = if bs.length + 8 * l.length ≤ 262144 ∨ l = [] then ⟨bs ++ bytesOf l, false⟩ else ⟨((⟨bs, false⟩ : Wr).put l).bs, true⟩ := by
  induction l with
  | nil => intro bs; simp [Wr.put, bytesOf]
  | cons x l ih =>
    intro bs
    have e : (⟨bs, false⟩ : Wr).put (x :: l) = (Wr.one ⟨bs, false⟩ x).put l := rfl
    rw [e]
    by_cases hl : 262144 < bs.length + 8
    · have e1 : Wr.one ⟨bs, false⟩ x = ⟨bs, true⟩ := by simp [Wr.one, hl]
      rw [e1, Wr.put_full, if_neg (by simp; omega)]
    · have e1 : Wr.one ⟨bs, false⟩ x = ⟨bs ++ be8 x, false⟩ := by simp [Wr.one, hl]
      rw [e1, ih]
      by_cases h : bs.length + 8 * (x :: l).length ≤ 262144
      · simp only [List.length_cons] at h
        rw [if_pos (by left; simp [be8_len]; omega), if_pos (by left; simp; omega), bytesOf_cons]
        simp
      · simp only [List.length_cons] at h
        by_cases hn : l = []
        · subst hn; simp at h; omega
        · rw [if_neg (by simp [be8_len, hn]; omega), if_neg (by simp; omega)]
theorem Wr.stopF {s t : Wr} {α : Type} {f : α → List Int} {l : List α} {i : Nat} (h : s.put ((l.take i).flatMap f) = t) (hf : t.full = true) : s.put (l.flatMap f) = t := by
  obtain ⟨bs, full⟩ := t
  simp only at hf; subst hf
  conv => lhs; rw [← List.take_append_drop i l, List.flatMap_append, Wr.put_app, h, Wr.put_full]
theorem Wr.stepF {s t : Wr} {α : Type} {f : α → List Int} {l : List α} {i : Nat} {x : α} (h : s.put ((l.take i).flatMap f) = t) (hx : l[i]? = some x) : s.put ((l.take (i + 1)).flatMap f) = t.put (f x) := by
  rw [List.take_add_one, hx, Option.toList_some, List.flatMap_append, Wr.put_app, h]; simp
theorem Wr.allF {s t : Wr} {α : Type} {f : α → List Int} {l : List α} {i : Nat} (h : s.put ((l.take i).flatMap f) = t) (hi : i = l.length) : s.put (l.flatMap f) = t := by
  subst hi; rwa [List.take_length] at h
theorem flat_one (l : List Int) : l.flatMap (fun x => [x]) = l := by induction l with | nil => rfl | cons x l ih => simp
def WrR (p : Nat) (s : Wr) (fp : Chunk) : Prop := ∃ (a : Option Addr) (n k : Nat) (c : Chunk), fp = [(p, Obj.cells #[.slice a n k, .bool s.full] 72 (0, 0))] ++ c ∧ OwnT encB 5 1 a n k s.bs c
theorem wr_number (W w : World) (p : Nat) (s : Wr) (fp : Chunk) (H : Chunk) (F : List Chunk) (hI : WrR p s fp) (hb : s.bs.length ≤ 262144) (hS : Sat W w (fp :: H :: F)) (la : Option Addr) (ln lk : Nat) (l : List Int) (hR : RdT encI 1 [H] la ln lk l) :
    Calls Try.prog 29 #[.pointer (some ⟨p, 0, none⟩), .slice la ln lk] w fun e w' => e = .returned (.tuple #[]) ∧ ∃ fp' : Chunk, WrR p (s.put (l)) fp' ∧ Sat W w' (fp' :: H :: F) := by
  obtain ⟨a, n, k, c, rfl, hO⟩ := hI
  obtain ⟨bs, full⟩ := s
  dsimp only at hO hb ⊢
  have hS0 : Sat W w ([(p, .cells #[.slice a n k, .bool full] 72 (0, 0))] :: c :: H :: F) := hS.perm (by simp)
  have hle := hR.le; have hll := hR.len
  refine callsE (n := 48) Try.func29 rfl rfl (Nat.le_of_ble_eq_true rfl) ?_
  refine seqE ?_
  refine regionE ?_
  refine p3 (by kernel_rfl) ?_
  refine nilO ?_
  refine thenK_n <| ?_
  refine blockE ?_
  refine loopE (γ := Nat × (Option Addr) × Nat × Nat × Chunk × (List Int) × Bool) (fun ⟨i, a', n', k', c', bs', full'⟩ ρ w => AllAt ρ [(0, .pointer (some ⟨p, 0, none⟩)), (7, .slice la ln lk), (8, .int .i64 ((ln : Nat) : Int)), (9, .int .i64 ((i : Nat) : Int))] ∧ Sat W w ([(p, .cells #[.slice a' n' k', .bool full'] 72 (0, 0))] :: c' :: H :: F) ∧ i ≤ ln ∧ (⟨bs, full⟩ : Wr).put (l.take i) = ⟨bs', full'⟩ ∧ OwnT encB 5 1 a' n' k' bs' c' ∧ bs'.length ≤ 262144) (fun ⟨i, a', n', k', c', bs', full'⟩ => ln - i) (0, a, n, k, c, bs, full) ⟨⟨by kernel_rfl, by kernel_rfl, by kernel_rfl, by kernel_rfl, trivial⟩, hS0, by omega, rfl, hO, hb⟩ ?_
  skip
  rintro ⟨i, a', n', k', c', bs', full'⟩ ρ w_1 ⟨hA, hS_2, hi, hp, hO', hb'⟩
  refine cAnchor hA (fun ρ => ?_)
  clear hA
  have hl' := hO'.len
  refine seqE ?_
  refine regionE ?_
  refine p1 (by kernel_rfl) ?_
  refine nilO ?_
  refine thenK_n <| ?_
  refine seqE ?_
  by_cases hc_3 : (((i : Nat) : Int) : Int) < ((ln : Nat) : Int)
  · refine cT (decide ((((i : Nat) : Int) : Int) < ((ln : Nat) : Int))) (decide_eq_true hc_3) ?_
    refine skipE ?_
    refine thenK_n <| ?_
    refine seqE ?_
    refine blockE ?_
    refine seqE ?_
    refine regionE ?_
    refine sIdx hR ((i : Nat) : Int) Try.runUnderlying22 Try.sizeOf3 ?_
    intro x_4 b_5 o_6 hx_7 hp_8
    rw [Int.toNat_natCast] at hx_7
    refine sLp hS_2 (hp_8.up 2 rfl) 0 (.int .i64 x_4) (Try.isAgg3 _) ?_
    refine p1 (by kernel_rfl) ?_
    refine nilO ?_
    refine thenK_n <| ?_
    refine seqE ?_
    refine seqE ?_
    refine regionE ?_
    refine p3 (by kernel_rfl) ?_
    refine sL hS_2 0 1 (.bool full') (Try.isAgg4 _) ?_
    refine p1 (by kernel_rfl) ?_
    cases full'
    · refine p3 (by kernel_rfl) ?_
      refine guardYes rfl ⟨_, rfl, rfl, by kernel_rfl⟩ ?_
      refine sL hS_2 0 0 (.slice a' n' k') (Try.isAgg31 _) ?_
      refine p1 (by kernel_rfl) ?_
      refine guardYes rfl ⟨_, rfl, rfl, by kernel_rfl⟩ ?_
      refine sAdd ((n' : Nat) : Int) 8 ?_
      refine p2 (by kernel_rfl) ?_
      refine nilO ?_
      refine thenK_n <| ?_
      by_cases hc_9 : ((((n' : Nat) : Int) + 8) : Int) > 262144
      · refine cT (decide (((((n' : Nat) : Int) + 8) : Int) > 262144)) (decide_eq_true hc_9) ?_
        refine seqE ?_
        refine regionE ?_
        refine p3 (by kernel_rfl) ?_
        refine sT hS_2 0 1 (.bool true) [.bool true] #[.slice a' n' k', .bool true] Try.sizeOf4 ?_
        intro w_10 hS_11
        change Sat _ _ ([(p, .cells #[.slice a' n' k', .bool true] 72 (0, 0))] :: c' :: H :: F) at hS_11
        refine nilO ?_
        refine thenK_n <| ?_
        refine retE (thenK_r <| blockK_r <| thenK_r <| thenK_r <| blockK_r <| ?_)
        refine ret0 rfl <| ?_
        have he := Wr.stopAt hp hx_7 (Or.inr (by dsimp only; omega))
        rw [he]
        have hS_12 := hS_11.pick 2 rfl
        have hS_13 := hS_12.pick 2 rfl
        have hS_14 := hS_13.pick 2 rfl
        change Sat _ _ ([(p, .cells #[.slice a' n' k', .bool true] 72 (0, 0))] :: c' :: H :: F) at hS_14
        change Sat _ _ ([(p, .cells #[.slice a' n' k', .bool true] 72 (0, 0))] :: c' :: H :: F) at hS_14
        have hS_15 := hS_14.merge2
        exact ⟨rfl, _, ⟨_, _, _, _, rfl, hO'⟩, hS_15⟩
      · refine cF (decide (((((n' : Nat) : Int) + 8) : Int) > 262144)) (decide_eq_false hc_9) ?_
        refine skipE ?_
        refine thenK_n <| ?_
        refine seqE ?_
        refine regionE ?_
        refine p1 (by kernel_rfl) ?_
        refine nilO ?_
        refine thenK_n <| ?_
        refine blockE ?_
        refine loopN 9 ?_
        refine roundS ?_
        refine seqE ?_
        refine seqE ?_
        refine regionE ?_
        refine p2 (by kernel_rfl) ?_
        refine nilO ?_
        refine thenK_n <| ?_
        refine condE_true (by kernel_rfl) ?_
        refine skipE ?_
        refine thenK_n <| ?_
        refine seqE ?_
        refine blockE ?_
        refine drawE [10, 11, 14] [(4, ⟨p, 0, none⟩, .slice a' n' k')] [(true, [0, 1, 2, 3, 5]), (true, [6]), (true, [7]), (true, [8]), (true, [9]), (true, [4]), (false, [10]), (false, [11]), (true, [12, 13]), (false, [14])] rfl (by kernel_rfl) ⟨.inr (hS_2.cell 0 rfl rfl), trivial⟩ ?_
        have hS_16 := hS_2.drew
        refine wP [0, 1, 2, 3, 5] rfl (by kernel_rfl) ?_
        refine wS (.int .u64 (x_4 % 18446744073709551616)) rfl rfl rfl (fun w _ => Y_conv (k := .i64) (a := x_4) Try.underlying2 Try.underlying95 (wrap_u64 _) rfl (by kernel_rfl)) ?_
        refine wP [7] rfl (by kernel_rfl) ?_
        refine wS (.int .u64 ((x_4 % 18446744073709551616) / 72057594037927936)) rfl rfl rfl (fun w _ => Y_shr .u64 .i64 (x_4 % 18446744073709551616) 56 72057594037927936 rfl (by kernel_rfl) (by kernel_rfl) (by decide) (by decide)) ?_
        refine wS (.int .u8 (((x_4 % 18446744073709551616) / 72057594037927936) % 256)) rfl rfl rfl (fun w _ => Y_conv (k := .u64) (a := ((x_4 % 18446744073709551616) / 72057594037927936)) Try.underlying95 Try.underlying5 (wrap_u8 _) rfl (by kernel_rfl)) ?_
        refine wS (.slice a' n' k') rfl rfl rfl (fun w hF => Y_load rfl (Try.isAgg31 w) (by kernel_rfl) (hF 0 _ _ rfl)) ?_
        refine wO rfl ?_
        refine sBS hS_16 #[.int .u8 (((x_4 % 18446744073709551616) / 72057594037927936) % 256)] Try.runUnderlying31 Try.sizeOf5 Try.zeroValue5 ?_
        intro b_17 w_18 hS_19
        refine nilO ⟨⟨.inr (hS_19.cell 1 rfl rfl), trivial⟩, ?_⟩
        refine wO rfl ?_
        refine sApp (nb := 1) hS_19 hO' 2 (RdT.blk (enc := encB) (sz := 1) (xs := [(((x_4 % 18446744073709551616) / 72057594037927936) % 256)]) (fun _ => rfl) 1 0 rfl rfl rfl (by omega)) Try.underlying31 (i := Try.t5) (by kernel_rfl) (fun _ => rfl) ?_
        intro a_20 cap_21 c_22 w_23 hO_24 hS_25
        try dsimp only [List.set, List.eraseIdx] at hS_25
        refine nilO ⟨⟨.inl (by kernel_rfl), trivial⟩, ?_⟩
        refine wP [12, 13] rfl (by kernel_rfl) ?_
        refine wO rfl ?_
        refine sT hS_25 1 0 (.slice a_20 (n' + 1) cap_21) [.slice a_20 (n' + 1) cap_21] #[.slice a_20 (n' + 1) cap_21, .bool false] Try.sizeOf31 ?_
        intro w_26 hS_27
        try dsimp only [List.set, List.eraseIdx] at hS_27
        refine nilO ⟨⟨.inl (by kernel_rfl), trivial⟩, ?_⟩
        refine wN ?_
        refine blockK_n <| thenK_n <| ?_
        refine regionE ?_
        refine p3 (by kernel_rfl) ?_
        refine nilO ?_
        refine thenK_n <| ?_
        refine roundS ?_
        refine seqE ?_
        refine seqE ?_
        refine regionE ?_
        refine p2 (by kernel_rfl) ?_
        refine nilO ?_
        refine thenK_n <| ?_
        refine condE_true (by kernel_rfl) ?_
        refine skipE ?_
        refine thenK_n <| ?_
        refine seqE ?_
        refine blockE ?_
        refine drawE [10, 11, 14] [(4, ⟨p, 0, none⟩, .slice a_20 (n' + 1) cap_21)] [(true, [0, 1, 2, 3, 5]), (true, [6]), (true, [7]), (true, [8]), (true, [9]), (true, [4]), (false, [10]), (false, [11]), (true, [12, 13]), (false, [14])] rfl (by kernel_rfl) ⟨.inr (hS_27.cell 1 rfl rfl), trivial⟩ ?_
        have hS_28 := hS_27.drew
        refine wP [0, 1, 2, 3, 5] rfl (by kernel_rfl) ?_
        refine wS (.int .u64 (x_4 % 18446744073709551616)) rfl rfl rfl (fun w _ => Y_conv (k := .i64) (a := x_4) Try.underlying2 Try.underlying95 (wrap_u64 _) rfl (by kernel_rfl)) ?_
        refine wP [7] rfl (by kernel_rfl) ?_
        refine wS (.int .u64 ((x_4 % 18446744073709551616) / 281474976710656)) rfl rfl rfl (fun w _ => Y_shr .u64 .i64 (x_4 % 18446744073709551616) 48 281474976710656 rfl (by kernel_rfl) (by kernel_rfl) (by decide) (by decide)) ?_
        refine wS (.int .u8 (((x_4 % 18446744073709551616) / 281474976710656) % 256)) rfl rfl rfl (fun w _ => Y_conv (k := .u64) (a := ((x_4 % 18446744073709551616) / 281474976710656)) Try.underlying95 Try.underlying5 (wrap_u8 _) rfl (by kernel_rfl)) ?_
        refine wS (.slice a_20 (n' + 1) cap_21) rfl rfl rfl (fun w hF => Y_load rfl (Try.isAgg31 w) (by kernel_rfl) (hF 0 _ _ rfl)) ?_
        refine wO rfl ?_
        refine sBS hS_28 #[.int .u8 (((x_4 % 18446744073709551616) / 281474976710656) % 256)] Try.runUnderlying31 Try.sizeOf5 Try.zeroValue5 ?_
        intro b_29 w_30 hS_31
        refine nilO ⟨⟨.inr (hS_31.cell 2 rfl rfl), trivial⟩, ?_⟩
        refine wO rfl ?_
        refine sApp (nb := 1) hS_31 hO_24 3 (RdT.blk (enc := encB) (sz := 1) (xs := [(((x_4 % 18446744073709551616) / 281474976710656) % 256)]) (fun _ => rfl) 1 0 rfl rfl rfl (by omega)) Try.underlying31 (i := Try.t5) (by kernel_rfl) (fun _ => rfl) ?_
        intro a_32 cap_33 c_34 w_35 hO_36 hS_37
        try dsimp only [List.set, List.eraseIdx] at hS_37
        refine nilO ⟨⟨.inl (by kernel_rfl), trivial⟩, ?_⟩
        refine wP [12, 13] rfl (by kernel_rfl) ?_
        refine wO rfl ?_
        refine sT hS_37 2 0 (.slice a_32 ((n' + 1) + 1) cap_33) [.slice a_32 ((n' + 1) + 1) cap_33] #[.slice a_32 ((n' + 1) + 1) cap_33, .bool false] Try.sizeOf31 ?_
        intro w_38 hS_39
        try dsimp only [List.set, List.eraseIdx] at hS_39
        refine nilO ⟨⟨.inl (by kernel_rfl), trivial⟩, ?_⟩
        refine wN ?_
        refine blockK_n <| thenK_n <| ?_
        refine regionE ?_
        refine p3 (by kernel_rfl) ?_
        refine nilO ?_
        refine thenK_n <| ?_
        refine roundS ?_
        refine seqE ?_
        refine seqE ?_
        refine regionE ?_
        refine p2 (by kernel_rfl) ?_
        refine nilO ?_
        refine thenK_n <| ?_
        refine condE_true (by kernel_rfl) ?_
        refine skipE ?_
        refine thenK_n <| ?_
        refine seqE ?_
        refine blockE ?_
        refine drawE [10, 11, 14] [(4, ⟨p, 0, none⟩, .slice a_32 ((n' + 1) + 1) cap_33)] [(true, [0, 1, 2, 3, 5]), (true, [6]), (true, [7]), (true, [8]), (true, [9]), (true, [4]), (false, [10]), (false, [11]), (true, [12, 13]), (false, [14])] rfl (by kernel_rfl) ⟨.inr (hS_39.cell 2 rfl rfl), trivial⟩ ?_
        have hS_40 := hS_39.drew
        refine wP [0, 1, 2, 3, 5] rfl (by kernel_rfl) ?_
        refine wS (.int .u64 (x_4 % 18446744073709551616)) rfl rfl rfl (fun w _ => Y_conv (k := .i64) (a := x_4) Try.underlying2 Try.underlying95 (wrap_u64 _) rfl (by kernel_rfl)) ?_
        refine wP [7] rfl (by kernel_rfl) ?_
        refine wS (.int .u64 ((x_4 % 18446744073709551616) / 1099511627776)) rfl rfl rfl (fun w _ => Y_shr .u64 .i64 (x_4 % 18446744073709551616) 40 1099511627776 rfl (by kernel_rfl) (by kernel_rfl) (by decide) (by decide)) ?_
        refine wS (.int .u8 (((x_4 % 18446744073709551616) / 1099511627776) % 256)) rfl rfl rfl (fun w _ => Y_conv (k := .u64) (a := ((x_4 % 18446744073709551616) / 1099511627776)) Try.underlying95 Try.underlying5 (wrap_u8 _) rfl (by kernel_rfl)) ?_
        refine wS (.slice a_32 ((n' + 1) + 1) cap_33) rfl rfl rfl (fun w hF => Y_load rfl (Try.isAgg31 w) (by kernel_rfl) (hF 0 _ _ rfl)) ?_
        refine wO rfl ?_
        refine sBS hS_40 #[.int .u8 (((x_4 % 18446744073709551616) / 1099511627776) % 256)] Try.runUnderlying31 Try.sizeOf5 Try.zeroValue5 ?_
        intro b_41 w_42 hS_43
        refine nilO ⟨⟨.inr (hS_43.cell 3 rfl rfl), trivial⟩, ?_⟩
        refine wO rfl ?_
        refine sApp (nb := 1) hS_43 hO_36 4 (RdT.blk (enc := encB) (sz := 1) (xs := [(((x_4 % 18446744073709551616) / 1099511627776) % 256)]) (fun _ => rfl) 1 0 rfl rfl rfl (by omega)) Try.underlying31 (i := Try.t5) (by kernel_rfl) (fun _ => rfl) ?_
        intro a_44 cap_45 c_46 w_47 hO_48 hS_49
        try dsimp only [List.set, List.eraseIdx] at hS_49
        refine nilO ⟨⟨.inl (by kernel_rfl), trivial⟩, ?_⟩
        refine wP [12, 13] rfl (by kernel_rfl) ?_
        refine wO rfl ?_
        refine sT hS_49 3 0 (.slice a_44 (((n' + 1) + 1) + 1) cap_45) [.slice a_44 (((n' + 1) + 1) + 1) cap_45] #[.slice a_44 (((n' + 1) + 1) + 1) cap_45, .bool false] Try.sizeOf31 ?_
        intro w_50 hS_51
        try dsimp only [List.set, List.eraseIdx] at hS_51
        refine nilO ⟨⟨.inl (by kernel_rfl), trivial⟩, ?_⟩
        refine wN ?_
        refine blockK_n <| thenK_n <| ?_
        refine regionE ?_
        refine p3 (by kernel_rfl) ?_
        refine nilO ?_
        refine thenK_n <| ?_
        refine roundS ?_
        refine seqE ?_
        refine seqE ?_
        refine regionE ?_
        refine p2 (by kernel_rfl) ?_
        refine nilO ?_
        refine thenK_n <| ?_
        refine condE_true (by kernel_rfl) ?_
        refine skipE ?_
        refine thenK_n <| ?_
        refine seqE ?_
        refine blockE ?_
        refine drawE [10, 11, 14] [(4, ⟨p, 0, none⟩, .slice a_44 (((n' + 1) + 1) + 1) cap_45)] [(true, [0, 1, 2, 3, 5]), (true, [6]), (true, [7]), (true, [8]), (true, [9]), (true, [4]), (false, [10]), (false, [11]), (true, [12, 13]), (false, [14])] rfl (by kernel_rfl) ⟨.inr (hS_51.cell 3 rfl rfl), trivial⟩ ?_
        have hS_52 := hS_51.drew
        refine wP [0, 1, 2, 3, 5] rfl (by kernel_rfl) ?_
        refine wS (.int .u64 (x_4 % 18446744073709551616)) rfl rfl rfl (fun w _ => Y_conv (k := .i64) (a := x_4) Try.underlying2 Try.underlying95 (wrap_u64 _) rfl (by kernel_rfl)) ?_
        refine wP [7] rfl (by kernel_rfl) ?_
        refine wS (.int .u64 ((x_4 % 18446744073709551616) / 4294967296)) rfl rfl rfl (fun w _ => Y_shr .u64 .i64 (x_4 % 18446744073709551616) 32 4294967296 rfl (by kernel_rfl) (by kernel_rfl) (by decide) (by decide)) ?_
        refine wS (.int .u8 (((x_4 % 18446744073709551616) / 4294967296) % 256)) rfl rfl rfl (fun w _ => Y_conv (k := .u64) (a := ((x_4 % 18446744073709551616) / 4294967296)) Try.underlying95 Try.underlying5 (wrap_u8 _) rfl (by kernel_rfl)) ?_
        refine wS (.slice a_44 (((n' + 1) + 1) + 1) cap_45) rfl rfl rfl (fun w hF => Y_load rfl (Try.isAgg31 w) (by kernel_rfl) (hF 0 _ _ rfl)) ?_
        refine wO rfl ?_
        refine sBS hS_52 #[.int .u8 (((x_4 % 18446744073709551616) / 4294967296) % 256)] Try.runUnderlying31 Try.sizeOf5 Try.zeroValue5 ?_
        intro b_53 w_54 hS_55
        refine nilO ⟨⟨.inr (hS_55.cell 4 rfl rfl), trivial⟩, ?_⟩
        refine wO rfl ?_
        refine sApp (nb := 1) hS_55 hO_48 5 (RdT.blk (enc := encB) (sz := 1) (xs := [(((x_4 % 18446744073709551616) / 4294967296) % 256)]) (fun _ => rfl) 1 0 rfl rfl rfl (by omega)) Try.underlying31 (i := Try.t5) (by kernel_rfl) (fun _ => rfl) ?_
        intro a_56 cap_57 c_58 w_59 hO_60 hS_61
        try dsimp only [List.set, List.eraseIdx] at hS_61
        refine nilO ⟨⟨.inl (by kernel_rfl), trivial⟩, ?_⟩
        refine wP [12, 13] rfl (by kernel_rfl) ?_
        refine wO rfl ?_
        refine sT hS_61 4 0 (.slice a_56 ((((n' + 1) + 1) + 1) + 1) cap_57) [.slice a_56 ((((n' + 1) + 1) + 1) + 1) cap_57] #[.slice a_56 ((((n' + 1) + 1) + 1) + 1) cap_57, .bool false] Try.sizeOf31 ?_
        intro w_62 hS_63
        try dsimp only [List.set, List.eraseIdx] at hS_63
        refine nilO ⟨⟨.inl (by kernel_rfl), trivial⟩, ?_⟩
        refine wN ?_
        refine blockK_n <| thenK_n <| ?_
        refine regionE ?_
        refine p3 (by kernel_rfl) ?_
        refine nilO ?_
        refine thenK_n <| ?_
        refine roundS ?_
        refine seqE ?_
        refine seqE ?_
        refine regionE ?_
        refine p2 (by kernel_rfl) ?_
        refine nilO ?_
        refine thenK_n <| ?_
        refine condE_true (by kernel_rfl) ?_
        refine skipE ?_
        refine thenK_n <| ?_
        refine seqE ?_
        refine blockE ?_
        refine drawE [10, 11, 14] [(4, ⟨p, 0, none⟩, .slice a_56 ((((n' + 1) + 1) + 1) + 1) cap_57)] [(true, [0, 1, 2, 3, 5]), (true, [6]), (true, [7]), (true, [8]), (true, [9]), (true, [4]), (false, [10]), (false, [11]), (true, [12, 13]), (false, [14])] rfl (by kernel_rfl) ⟨.inr (hS_63.cell 4 rfl rfl), trivial⟩ ?_
        have hS_64 := hS_63.drew
        refine wP [0, 1, 2, 3, 5] rfl (by kernel_rfl) ?_
        refine wS (.int .u64 (x_4 % 18446744073709551616)) rfl rfl rfl (fun w _ => Y_conv (k := .i64) (a := x_4) Try.underlying2 Try.underlying95 (wrap_u64 _) rfl (by kernel_rfl)) ?_
        refine wP [7] rfl (by kernel_rfl) ?_
        refine wS (.int .u64 ((x_4 % 18446744073709551616) / 16777216)) rfl rfl rfl (fun w _ => Y_shr .u64 .i64 (x_4 % 18446744073709551616) 24 16777216 rfl (by kernel_rfl) (by kernel_rfl) (by decide) (by decide)) ?_
        refine wS (.int .u8 (((x_4 % 18446744073709551616) / 16777216) % 256)) rfl rfl rfl (fun w _ => Y_conv (k := .u64) (a := ((x_4 % 18446744073709551616) / 16777216)) Try.underlying95 Try.underlying5 (wrap_u8 _) rfl (by kernel_rfl)) ?_
        refine wS (.slice a_56 ((((n' + 1) + 1) + 1) + 1) cap_57) rfl rfl rfl (fun w hF => Y_load rfl (Try.isAgg31 w) (by kernel_rfl) (hF 0 _ _ rfl)) ?_
        refine wO rfl ?_
        refine sBS hS_64 #[.int .u8 (((x_4 % 18446744073709551616) / 16777216) % 256)] Try.runUnderlying31 Try.sizeOf5 Try.zeroValue5 ?_
        intro b_65 w_66 hS_67
        refine nilO ⟨⟨.inr (hS_67.cell 5 rfl rfl), trivial⟩, ?_⟩
        refine wO rfl ?_
        refine sApp (nb := 1) hS_67 hO_60 6 (RdT.blk (enc := encB) (sz := 1) (xs := [(((x_4 % 18446744073709551616) / 16777216) % 256)]) (fun _ => rfl) 1 0 rfl rfl rfl (by omega)) Try.underlying31 (i := Try.t5) (by kernel_rfl) (fun _ => rfl) ?_
        intro a_68 cap_69 c_70 w_71 hO_72 hS_73
        try dsimp only [List.set, List.eraseIdx] at hS_73
        refine nilO ⟨⟨.inl (by kernel_rfl), trivial⟩, ?_⟩
        refine wP [12, 13] rfl (by kernel_rfl) ?_
        refine wO rfl ?_
        refine sT hS_73 5 0 (.slice a_68 (((((n' + 1) + 1) + 1) + 1) + 1) cap_69) [.slice a_68 (((((n' + 1) + 1) + 1) + 1) + 1) cap_69] #[.slice a_68 (((((n' + 1) + 1) + 1) + 1) + 1) cap_69, .bool false] Try.sizeOf31 ?_
        intro w_74 hS_75
        try dsimp only [List.set, List.eraseIdx] at hS_75
        refine nilO ⟨⟨.inl (by kernel_rfl), trivial⟩, ?_⟩
        refine wN ?_
        refine blockK_n <| thenK_n <| ?_
        refine regionE ?_
        refine p3 (by kernel_rfl) ?_
        refine nilO ?_
        refine thenK_n <| ?_
        refine roundS ?_
        refine seqE ?_
        refine seqE ?_
        refine regionE ?_
        refine p2 (by kernel_rfl) ?_
        refine nilO ?_
        refine thenK_n <| ?_
        refine condE_true (by kernel_rfl) ?_
        refine skipE ?_
        refine thenK_n <| ?_
        refine seqE ?_
        refine blockE ?_
        refine drawE [10, 11, 14] [(4, ⟨p, 0, none⟩, .slice a_68 (((((n' + 1) + 1) + 1) + 1) + 1) cap_69)] [(true, [0, 1, 2, 3, 5]), (true, [6]), (true, [7]), (true, [8]), (true, [9]), (true, [4]), (false, [10]), (false, [11]), (true, [12, 13]), (false, [14])] rfl (by kernel_rfl) ⟨.inr (hS_75.cell 5 rfl rfl), trivial⟩ ?_
        have hS_76 := hS_75.drew
        refine wP [0, 1, 2, 3, 5] rfl (by kernel_rfl) ?_
        refine wS (.int .u64 (x_4 % 18446744073709551616)) rfl rfl rfl (fun w _ => Y_conv (k := .i64) (a := x_4) Try.underlying2 Try.underlying95 (wrap_u64 _) rfl (by kernel_rfl)) ?_
        refine wP [7] rfl (by kernel_rfl) ?_
        refine wS (.int .u64 ((x_4 % 18446744073709551616) / 65536)) rfl rfl rfl (fun w _ => Y_shr .u64 .i64 (x_4 % 18446744073709551616) 16 65536 rfl (by kernel_rfl) (by kernel_rfl) (by decide) (by decide)) ?_
        refine wS (.int .u8 (((x_4 % 18446744073709551616) / 65536) % 256)) rfl rfl rfl (fun w _ => Y_conv (k := .u64) (a := ((x_4 % 18446744073709551616) / 65536)) Try.underlying95 Try.underlying5 (wrap_u8 _) rfl (by kernel_rfl)) ?_
        refine wS (.slice a_68 (((((n' + 1) + 1) + 1) + 1) + 1) cap_69) rfl rfl rfl (fun w hF => Y_load rfl (Try.isAgg31 w) (by kernel_rfl) (hF 0 _ _ rfl)) ?_
        refine wO rfl ?_
        refine sBS hS_76 #[.int .u8 (((x_4 % 18446744073709551616) / 65536) % 256)] Try.runUnderlying31 Try.sizeOf5 Try.zeroValue5 ?_
        intro b_77 w_78 hS_79
        refine nilO ⟨⟨.inr (hS_79.cell 6 rfl rfl), trivial⟩, ?_⟩
        refine wO rfl ?_
        refine sApp (nb := 1) hS_79 hO_72 7 (RdT.blk (enc := encB) (sz := 1) (xs := [(((x_4 % 18446744073709551616) / 65536) % 256)]) (fun _ => rfl) 1 0 rfl rfl rfl (by omega)) Try.underlying31 (i := Try.t5) (by kernel_rfl) (fun _ => rfl) ?_
        intro a_80 cap_81 c_82 w_83 hO_84 hS_85
        try dsimp only [List.set, List.eraseIdx] at hS_85
        refine nilO ⟨⟨.inl (by kernel_rfl), trivial⟩, ?_⟩
        refine wP [12, 13] rfl (by kernel_rfl) ?_
        refine wO rfl ?_
        refine sT hS_85 6 0 (.slice a_80 ((((((n' + 1) + 1) + 1) + 1) + 1) + 1) cap_81) [.slice a_80 ((((((n' + 1) + 1) + 1) + 1) + 1) + 1) cap_81] #[.slice a_80 ((((((n' + 1) + 1) + 1) + 1) + 1) + 1) cap_81, .bool false] Try.sizeOf31 ?_
        intro w_86 hS_87
        try dsimp only [List.set, List.eraseIdx] at hS_87
        refine nilO ⟨⟨.inl (by kernel_rfl), trivial⟩, ?_⟩
        refine wN ?_
        refine blockK_n <| thenK_n <| ?_
        refine regionE ?_
        refine p3 (by kernel_rfl) ?_
        refine nilO ?_
        refine thenK_n <| ?_
        refine roundS ?_
        refine seqE ?_
        refine seqE ?_
        refine regionE ?_
        refine p2 (by kernel_rfl) ?_
        refine nilO ?_
        refine thenK_n <| ?_
        refine condE_true (by kernel_rfl) ?_
        refine skipE ?_
        refine thenK_n <| ?_
        refine seqE ?_
        refine blockE ?_
        refine drawE [10, 11, 14] [(4, ⟨p, 0, none⟩, .slice a_80 ((((((n' + 1) + 1) + 1) + 1) + 1) + 1) cap_81)] [(true, [0, 1, 2, 3, 5]), (true, [6]), (true, [7]), (true, [8]), (true, [9]), (true, [4]), (false, [10]), (false, [11]), (true, [12, 13]), (false, [14])] rfl (by kernel_rfl) ⟨.inr (hS_87.cell 6 rfl rfl), trivial⟩ ?_
        have hS_88 := hS_87.drew
        refine wP [0, 1, 2, 3, 5] rfl (by kernel_rfl) ?_
        refine wS (.int .u64 (x_4 % 18446744073709551616)) rfl rfl rfl (fun w _ => Y_conv (k := .i64) (a := x_4) Try.underlying2 Try.underlying95 (wrap_u64 _) rfl (by kernel_rfl)) ?_
        refine wP [7] rfl (by kernel_rfl) ?_
        refine wS (.int .u64 ((x_4 % 18446744073709551616) / 256)) rfl rfl rfl (fun w _ => Y_shr .u64 .i64 (x_4 % 18446744073709551616) 8 256 rfl (by kernel_rfl) (by kernel_rfl) (by decide) (by decide)) ?_
        refine wS (.int .u8 (((x_4 % 18446744073709551616) / 256) % 256)) rfl rfl rfl (fun w _ => Y_conv (k := .u64) (a := ((x_4 % 18446744073709551616) / 256)) Try.underlying95 Try.underlying5 (wrap_u8 _) rfl (by kernel_rfl)) ?_
        refine wS (.slice a_80 ((((((n' + 1) + 1) + 1) + 1) + 1) + 1) cap_81) rfl rfl rfl (fun w hF => Y_load rfl (Try.isAgg31 w) (by kernel_rfl) (hF 0 _ _ rfl)) ?_
        refine wO rfl ?_
        refine sBS hS_88 #[.int .u8 (((x_4 % 18446744073709551616) / 256) % 256)] Try.runUnderlying31 Try.sizeOf5 Try.zeroValue5 ?_
        intro b_89 w_90 hS_91
        refine nilO ⟨⟨.inr (hS_91.cell 7 rfl rfl), trivial⟩, ?_⟩
        refine wO rfl ?_
        refine sApp (nb := 1) hS_91 hO_84 8 (RdT.blk (enc := encB) (sz := 1) (xs := [(((x_4 % 18446744073709551616) / 256) % 256)]) (fun _ => rfl) 1 0 rfl rfl rfl (by omega)) Try.underlying31 (i := Try.t5) (by kernel_rfl) (fun _ => rfl) ?_
        intro a_92 cap_93 c_94 w_95 hO_96 hS_97
        try dsimp only [List.set, List.eraseIdx] at hS_97
        refine nilO ⟨⟨.inl (by kernel_rfl), trivial⟩, ?_⟩
        refine wP [12, 13] rfl (by kernel_rfl) ?_
        refine wO rfl ?_
        refine sT hS_97 7 0 (.slice a_92 (((((((n' + 1) + 1) + 1) + 1) + 1) + 1) + 1) cap_93) [.slice a_92 (((((((n' + 1) + 1) + 1) + 1) + 1) + 1) + 1) cap_93] #[.slice a_92 (((((((n' + 1) + 1) + 1) + 1) + 1) + 1) + 1) cap_93, .bool false] Try.sizeOf31 ?_
        intro w_98 hS_99
        try dsimp only [List.set, List.eraseIdx] at hS_99
        refine nilO ⟨⟨.inl (by kernel_rfl), trivial⟩, ?_⟩
        refine wN ?_
        refine blockK_n <| thenK_n <| ?_
        refine regionE ?_
        refine p3 (by kernel_rfl) ?_
        refine nilO ?_
        refine thenK_n <| ?_
        refine roundS ?_
        refine seqE ?_
        refine seqE ?_
        refine regionE ?_
        refine p2 (by kernel_rfl) ?_
        refine nilO ?_
        refine thenK_n <| ?_
        refine condE_true (by kernel_rfl) ?_
        refine skipE ?_
        refine thenK_n <| ?_
        refine seqE ?_
        refine blockE ?_
        refine drawE [10, 11, 14] [(4, ⟨p, 0, none⟩, .slice a_92 (((((((n' + 1) + 1) + 1) + 1) + 1) + 1) + 1) cap_93)] [(true, [0, 1, 2, 3, 5]), (true, [6]), (true, [7]), (true, [8]), (true, [9]), (true, [4]), (false, [10]), (false, [11]), (true, [12, 13]), (false, [14])] rfl (by kernel_rfl) ⟨.inr (hS_99.cell 7 rfl rfl), trivial⟩ ?_
        have hS_100 := hS_99.drew
        refine wP [0, 1, 2, 3, 5] rfl (by kernel_rfl) ?_
        refine wS (.int .u64 (x_4 % 18446744073709551616)) rfl rfl rfl (fun w _ => Y_conv (k := .i64) (a := x_4) Try.underlying2 Try.underlying95 (wrap_u64 _) rfl (by kernel_rfl)) ?_
        refine wP [7] rfl (by kernel_rfl) ?_
        refine wS (.int .u64 ((x_4 % 18446744073709551616) / 1)) rfl rfl rfl (fun w _ => Y_shr .u64 .i64 (x_4 % 18446744073709551616) 0 1 rfl (by kernel_rfl) (by kernel_rfl) (by decide) (by decide)) ?_
        refine wS (.int .u8 (((x_4 % 18446744073709551616) / 1) % 256)) rfl rfl rfl (fun w _ => Y_conv (k := .u64) (a := ((x_4 % 18446744073709551616) / 1)) Try.underlying95 Try.underlying5 (wrap_u8 _) rfl (by kernel_rfl)) ?_
        refine wS (.slice a_92 (((((((n' + 1) + 1) + 1) + 1) + 1) + 1) + 1) cap_93) rfl rfl rfl (fun w hF => Y_load rfl (Try.isAgg31 w) (by kernel_rfl) (hF 0 _ _ rfl)) ?_
        refine wO rfl ?_
        refine sBS hS_100 #[.int .u8 (((x_4 % 18446744073709551616) / 1) % 256)] Try.runUnderlying31 Try.sizeOf5 Try.zeroValue5 ?_
        intro b_101 w_102 hS_103
        refine nilO ⟨⟨.inr (hS_103.cell 8 rfl rfl), trivial⟩, ?_⟩
        refine wO rfl ?_
        refine sApp (nb := 1) hS_103 hO_96 9 (RdT.blk (enc := encB) (sz := 1) (xs := [(((x_4 % 18446744073709551616) / 1) % 256)]) (fun _ => rfl) 1 0 rfl rfl rfl (by omega)) Try.underlying31 (i := Try.t5) (by kernel_rfl) (fun _ => rfl) ?_
        intro a_104 cap_105 c_106 w_107 hO_108 hS_109
        try dsimp only [List.set, List.eraseIdx] at hS_109
        refine nilO ⟨⟨.inl (by kernel_rfl), trivial⟩, ?_⟩
        refine wP [12, 13] rfl (by kernel_rfl) ?_
        refine wO rfl ?_
        refine sT hS_109 8 0 (.slice a_104 ((((((((n' + 1) + 1) + 1) + 1) + 1) + 1) + 1) + 1) cap_105) [.slice a_104 ((((((((n' + 1) + 1) + 1) + 1) + 1) + 1) + 1) + 1) cap_105] #[.slice a_104 ((((((((n' + 1) + 1) + 1) + 1) + 1) + 1) + 1) + 1) cap_105, .bool false] Try.sizeOf31 ?_
        intro w_110 hS_111
        try dsimp only [List.set, List.eraseIdx] at hS_111
        refine nilO ⟨⟨.inl (by kernel_rfl), trivial⟩, ?_⟩
        refine wN ?_
        refine blockK_n <| thenK_n <| ?_
        refine regionE ?_
        refine p3 (by kernel_rfl) ?_
        refine nilO ?_
        refine thenK_n <| ?_
        refine roundS ?_
        refine seqE ?_
        refine seqE ?_
        refine regionE ?_
        refine p2 (by kernel_rfl) ?_
        refine nilO ?_
        refine thenK_n <| ?_
        refine condE_false (by kernel_rfl) ?_
        refine exitE (thenK_x <| thenK_x <| blockK_x <| ?_)
        refine blockK_n <| thenK_n <| ?_
        refine regionE ?_
        refine sAdd ((i : Nat) : Int) 1 ?_
        refine p1 (by kernel_rfl) ?_
        refine nilO ?_
        refine thenK_n <| ?_
        have hS_112 := hS_111.pick 10 rfl
        have hS_113 := hS_112.pick 10 rfl
        have hS_114 := hS_113.pick 10 rfl
        try dsimp only [List.set, List.eraseIdx] at hS_114
        have hS_115 := hS_114.dropAt 3 rfl
        have hS_116 := hS_115.dropAt 3 rfl
        have hS_117 := hS_116.dropAt 3 rfl
        have hS_118 := hS_117.dropAt 3 rfl
        have hS_119 := hS_118.dropAt 3 rfl
        have hS_120 := hS_119.dropAt 3 rfl
        have hS_121 := hS_120.dropAt 3 rfl
        have hS_122 := hS_121.dropAt 3 rfl
        try dsimp only [List.set, List.eraseIdx] at hS_122
        have hgo := Wr.goAt hp hx_7 rfl (by dsimp only; omega)
        have hO2 : OwnT encB 5 1 a_104 ((((((((n' + 1) + 1) + 1) + 1) + 1) + 1) + 1) + 1) cap_105 (bs' ++ be8 x_4) c_106 := by have e := hO_108; simpa only [be8, List.append_assoc, List.cons_append, List.nil_append] using e
        exact ⟨(i + 1, a_104, ((((((((n' + 1) + 1) + 1) + 1) + 1) + 1) + 1) + 1), cap_105, c_106, bs' ++ be8 x_4, false), by dsimp only; omega, ⟨by kernel_rfl, by kernel_rfl, by kernel_rfl, by kernel_rfl, trivial⟩, hS_122, by omega, hgo, hO2, by simp only [List.length_append, be8_len]; omega⟩
    · refine p8 (by kernel_rfl) ?_
      refine nilO ?_
      refine thenK_n <| ?_
      refine condE_true (by kernel_rfl) ?_
      refine seqE ?_
      refine regionE ?_
      refine p3 (by kernel_rfl) ?_
      refine sT hS_2 0 1 (.bool true) [.bool true] #[.slice a' n' k', .bool true] Try.sizeOf4 ?_
      intro w_123 hS_124
      change Sat _ _ ([(p, .cells #[.slice a' n' k', .bool true] 72 (0, 0))] :: c' :: H :: F) at hS_124
      refine nilO ?_
      refine thenK_n <| ?_
      refine retE (thenK_r <| blockK_r <| thenK_r <| thenK_r <| blockK_r <| ?_)
      refine ret0 rfl <| ?_
      have he := Wr.stopAt hp hx_7 (Or.inl rfl)
      rw [he]
      have hS_125 := hS_124.pick 2 rfl
      have hS_126 := hS_125.pick 2 rfl
      have hS_127 := hS_126.pick 2 rfl
      change Sat _ _ ([(p, .cells #[.slice a' n' k', .bool true] 72 (0, 0))] :: c' :: H :: F) at hS_127
      change Sat _ _ ([(p, .cells #[.slice a' n' k', .bool true] 72 (0, 0))] :: c' :: H :: F) at hS_127
      have hS_128 := hS_127.merge2
      exact ⟨rfl, _, ⟨_, _, _, _, rfl, hO'⟩, hS_128⟩
  · refine cF (decide ((((i : Nat) : Int) : Int) < ((ln : Nat) : Int))) (decide_eq_false hc_3) ?_
    refine exitE (thenK_x <| thenK_x <| blockK_x <| ?_)
    refine ret0n rfl <| ?_
    have hil : i = ln := by omega
    rw [hil, ← hll, List.take_length] at hp
    rw [hp]
    have hS_129 := hS_2.pick 2 rfl
    have hS_130 := hS_129.pick 2 rfl
    have hS_131 := hS_130.pick 2 rfl
    change Sat _ _ ([(p, .cells #[.slice a' n' k', .bool full'] 72 (0, 0))] :: c' :: H :: F) at hS_131
    change Sat _ _ ([(p, .cells #[.slice a' n' k', .bool full'] 72 (0, 0))] :: c' :: H :: F) at hS_131
    have hS_132 := hS_131.merge2
    exact ⟨rfl, _, ⟨_, _, _, _, rfl, hO'⟩, hS_132⟩
theorem wr_numbers (W w : World) (p : Nat) (s : Wr) (fp : Chunk) (H : Chunk) (F : List Chunk) (hI : WrR p s fp) (hb : s.bs.length ≤ 262144) (hS : Sat W w (fp :: H :: F)) (la : Option Addr) (ln lk : Nat) (l : List Int) (hR : RdT encI 1 [H] la ln lk l) :
    Calls Try.prog 30 #[.pointer (some ⟨p, 0, none⟩), .slice la ln lk] w fun e w' => e = .returned (.tuple #[]) ∧ ∃ fp' : Chunk, WrR p (s.put (nInts l)) fp' ∧ Sat W w' (fp' :: H :: F) := by
  have hle := hR.le; have hll := hR.len
  refine callsE (n := 26) Try.func30 rfl rfl (Nat.le_of_ble_eq_true rfl) ?_
  refine seqE ?_
  refine regionE ?_
  refine p3 (by kernel_rfl) ?_
  refine sBS hS #[.int .i64 ((ln : Nat) : Int)] Try.runUnderlying22 Try.sizeOf3 Try.zeroValue3 ?_
  intro b_1 w_2 hS_3
  have hS_4 := hS_3.pick 0 rfl
  have hS_5 := hS_4.pick 1 rfl
  change Sat _ _ (fp :: [(b_1, .cells #[.int .i64 ((ln : Nat) : Int)] 3 (0, 0))] :: H :: F) at hS_5
  refine sF #[.pointer (some ⟨p, 0, none⟩), .slice (some ⟨b_1, 0, none⟩) 1 1] Try.call29 (Calls.mono (wr_number W _ _ _ _ _ _ hI hb hS_5 _ _ _ _ (RdT.blk (cs := [[(b_1, .cells #[.int .i64 ((ln : Nat) : Int)] 3 (0, 0))]]) (enc := encI) (sz := 1) (xs := [((ln : Nat) : Int)]) (fun _ => rfl) 1 0 rfl rfl rfl (by omega))) ?_)
  rintro _ w_6 ⟨rfl, fp_8, hI_9, hS_7⟩
  refine ⟨_, rfl, ?_⟩
  have hb_10 := Wr.len_le hb ([((ln : Nat) : Int)])
  generalize es_12 : s.put ([((ln : Nat) : Int)]) = s_11 at hI_9 hb_10
  change Sat _ _ (fp_8 :: [(b_1, .cells #[.int .i64 ((ln : Nat) : Int)] 3 (0, 0))] :: H :: F) at hS_7
  refine nilO ?_
  refine thenK_n <| ?_
  refine seqE ?_
  refine regionE ?_
  refine p3 (by kernel_rfl) ?_
  refine nilO ?_
  refine thenK_n <| ?_
  refine blockE ?_
  have hS_13 := hS_7.pick 2 rfl
  have hS_14 := hS_13.pick 1 rfl
  change Sat _ _ (fp_8 :: H :: [(b_1, .cells #[.int .i64 ((ln : Nat) : Int)] 3 (0, 0))] :: F) at hS_14
  have hS_15 := hS_14.dropAt 2 rfl
  change Sat _ _ (fp_8 :: H :: F) at hS_15
  refine loopE (γ := Nat × Wr × Chunk) (fun ⟨i, s', fp'⟩ ρ w => AllAt ρ [(0, .pointer (some ⟨p, 0, none⟩)), (11, .slice la ln lk), (12, .int .i64 ((ln : Nat) : Int)), (13, .int .i64 ((i : Nat) : Int))] ∧ Sat W w (fp' :: H :: F) ∧ i ≤ ln ∧ s_11.put ((l.take i).flatMap (fun x => [x])) = s' ∧ WrR p s' fp' ∧ s'.bs.length ≤ 262144) (fun ⟨i, s', fp'⟩ => ln - i) (0, s_11, fp_8) ⟨⟨by kernel_rfl, by kernel_rfl, by kernel_rfl, by kernel_rfl, trivial⟩, hS_15, Nat.zero_le _, rfl, hI_9, hb_10⟩ ?_
  skip
  rintro ⟨i, s', fp'⟩ ρ w_16 ⟨hA, hS_17, hi, hp, hI', hb'⟩
  refine cAnchor hA (fun ρ => ?_)
  clear hA
  refine seqE ?_
  refine regionE ?_
  refine p1 (by kernel_rfl) ?_
  refine nilO ?_
  refine thenK_n <| ?_
  refine seqE ?_
  by_cases hc_18 : (((i : Nat) : Int) : Int) < ((ln : Nat) : Int)
  · refine cT (decide ((((i : Nat) : Int) : Int) < ((ln : Nat) : Int))) (decide_eq_true hc_18) ?_
    refine skipE ?_
    refine thenK_n <| ?_
    refine seqE ?_
    refine blockE ?_
    refine seqE ?_
    refine regionE ?_
    refine sIdx hR ((i : Nat) : Int) Try.runUnderlying22 Try.sizeOf3 ?_
    intro x_19 b_20 o_21 hx_22 hp_23
    rw [Int.toNat_natCast] at hx_22
    refine sLp hS_17 (hp_23.up 1 rfl) 0 (.int .i64 x_19) (Try.isAgg3 _) ?_
    refine p1 (by kernel_rfl) ?_
    refine nilO ?_
    refine thenK_n <| ?_
    refine seqE ?_
    refine seqE ?_
    change Sat _ _ (fp' :: H :: F) at hS_17
    obtain ⟨a_24, n_25, k_26, c_27, rfl, hO_28⟩ := hI'
    have hS_29 := hS_17.split
    change Sat _ _ ([(p, .cells #[.slice a_24 n_25 k_26, .bool s'.full] 72 (0, 0))] :: c_27 :: H :: F) at hS_29
    refine regionE ?_
    refine p3 (by kernel_rfl) ?_
    refine sL hS_29 0 1 (.bool s'.full) (Try.isAgg4 _) ?_
    refine nilO ?_
    refine thenK_n <| ?_
    rcases Classical.em (s'.full = true) with hc_30 | hc_30
    · refine cT s'.full hc_30 ?_
      refine retE (thenK_r <| blockK_r <| thenK_r <| thenK_r <| blockK_r <| ?_)
      refine ret0 rfl <| ?_
      have hS_31 := hS_29.pick 1 rfl
      have hS_32 := hS_31.pick 1 rfl
      change Sat _ _ ([(p, .cells #[.slice a_24 n_25 k_26, .bool s'.full] 72 (0, 0))] :: c_27 :: H :: F) at hS_32
      have hS_33 := hS_32.merge
      have hI_34 : WrR p s' ([(p, .cells #[.slice a_24 n_25 k_26, .bool s'.full] 72 (0, 0))] ++ c_27) := ⟨_, _, _, _, rfl, hO_28⟩
      change Sat _ _ (([(p, .cells #[.slice a_24 n_25 k_26, .bool s'.full] 72 (0, 0))] ++ c_27) :: H :: F) at hS_33
      have he := Wr.stopF hp hc_30
      have hS_35 := hS_33.pick 1 rfl
      have hS_36 := hS_35.pick 1 rfl
      change Sat _ _ (([(p, .cells #[.slice a_24 n_25 k_26, .bool s'.full] 72 (0, 0))] ++ c_27) :: H :: F) at hS_36
      change Sat _ _ (([(p, .cells #[.slice a_24 n_25 k_26, .bool s'.full] 72 (0, 0))] ++ c_27) :: H :: F) at hS_36
      refine ⟨rfl, _, ?_, hS_36⟩
      rw [show s.put (nInts l) = s' from ?_]
      · exact hI_34
      rw [← he]
      subst es_12
      show s.put ((l.length : Int) :: l) = _
      rw [flat_one, hll]; rfl
    · refine cF s'.full (Bool.eq_false_iff.2 hc_30) ?_
      refine skipE ?_
      refine thenK_n <| ?_
      refine regionE ?_
      refine p2 (by kernel_rfl) ?_
      refine sBS hS_29 #[.int .i64 x_19] Try.runUnderlying22 Try.sizeOf3 Try.zeroValue3 ?_
      intro b_37 w_38 hS_39
      have hS_40 := hS_39.pick 2 rfl
      have hS_41 := hS_40.pick 2 rfl
      try dsimp only [List.set, List.eraseIdx] at hS_41
      have hS_42 := hS_41.merge
      have hI_43 : WrR p s' ([(p, .cells #[.slice a_24 n_25 k_26, .bool s'.full] 72 (0, 0))] ++ c_27) := ⟨_, _, _, _, rfl, hO_28⟩
      try dsimp only [List.set, List.eraseIdx] at hS_42
      have hS_44 := hS_42.pick 1 rfl
      have hS_45 := hS_44.pick 1 rfl
      try dsimp only [List.set, List.eraseIdx] at hS_45
      refine sF #[.pointer (some ⟨p, 0, none⟩), .slice (some ⟨b_37, 0, none⟩) 1 1] Try.call29 (Calls.mono (wr_number W _ _ _ _ _ _ hI_43 hb' hS_45 _ _ _ _ (RdT.blk (cs := [[(b_37, .cells #[.int .i64 x_19] 3 (0, 0))]]) (enc := encI) (sz := 1) (xs := [x_19]) (fun _ => rfl) 1 0 rfl rfl rfl (by omega))) ?_)
      rintro _ w_46 ⟨rfl, fp_48, hI_49, hS_47⟩
      refine ⟨_, rfl, ?_⟩
      have hb_50 := Wr.len_le hb' ([x_19])
      generalize es_52 : s'.put ([x_19]) = s_51 at hI_49 hb_50
      change Sat _ _ (fp_48 :: [(b_37, .cells #[.int .i64 x_19] 3 (0, 0))] :: H :: F) at hS_47
      refine nilO ?_
      refine blockK_n <| thenK_n <| ?_
      refine regionE ?_
      refine sAdd ((i : Nat) : Int) 1 ?_
      refine p1 (by kernel_rfl) ?_
      refine nilO ?_
      refine thenK_n <| ?_
      have hS_53 := hS_47.pick 2 rfl
      have hS_54 := hS_53.pick 1 rfl
      change Sat _ _ (fp_48 :: H :: [(b_37, .cells #[.int .i64 x_19] 3 (0, 0))] :: F) at hS_54
      have hS_55 := hS_54.dropAt 2 rfl
      change Sat _ _ (fp_48 :: H :: F) at hS_55
      have hst : s_51 = s'.put ((fun x => [x]) x_19) := by subst es_52; rfl
      exact ⟨(i + 1, s_51, fp_48), by dsimp only; omega, ⟨by kernel_rfl, by kernel_rfl, by kernel_rfl, by kernel_rfl, trivial⟩, hS_55, by omega, (Wr.stepF hp hx_22).trans hst.symm, hI_49, hb_50⟩
  · refine cF (decide ((((i : Nat) : Int) : Int) < ((ln : Nat) : Int))) (decide_eq_false hc_18) ?_
    refine exitE (thenK_x <| thenK_x <| blockK_x <| ?_)
    refine ret0n rfl <| ?_
    have he := Wr.allF hp (by omega)
    have hS_56 := hS_17.pick 1 rfl
    have hS_57 := hS_56.pick 1 rfl
    change Sat _ _ (fp' :: H :: F) at hS_57
    change Sat _ _ (fp' :: H :: F) at hS_57
    refine ⟨rfl, _, ?_, hS_57⟩
    rw [show s.put (nInts l) = s' from ?_]
    · exact hI'
    rw [← he]
    subst es_12
    show s.put ((l.length : Int) :: l) = _
    rw [flat_one, hll]; rfl
theorem wr_taps (W w : World) (p : Nat) (s : Wr) (fp : Chunk) (H : Chunk) (F : List Chunk) (hI : WrR p s fp) (hb : s.bs.length ≤ 262144) (hS : Sat W w (fp :: H :: F)) (la : Option Addr) (ln lk : Nat) (l : List Tap) (hR : RdT encTap 2 [H] la ln lk l) (hD : ∀ z ∈ l, Tap.Ok [H] z) :
    Calls Try.prog 46 #[.pointer (some ⟨p, 0, none⟩), .slice la ln lk] w fun e w' => e = .returned (.tuple #[]) ∧ ∃ fp' : Chunk, WrR p (s.put (nTaps (l.map Tap.v))) fp' ∧ Sat W w' (fp' :: H :: F) := by
  have hle := hR.le; have hll := hR.len
  refine callsE (n := 31) Try.func46 rfl rfl (Nat.le_of_ble_eq_true rfl) ?_
  refine seqE ?_
  refine regionE ?_
  refine p3 (by kernel_rfl) ?_
  refine sBS hS #[.int .i64 ((ln : Nat) : Int)] Try.runUnderlying22 Try.sizeOf3 Try.zeroValue3 ?_
  intro b_1 w_2 hS_3
  have hS_4 := hS_3.pick 0 rfl
  have hS_5 := hS_4.pick 1 rfl
  change Sat _ _ (fp :: [(b_1, .cells #[.int .i64 ((ln : Nat) : Int)] 3 (0, 0))] :: H :: F) at hS_5
  refine sF #[.pointer (some ⟨p, 0, none⟩), .slice (some ⟨b_1, 0, none⟩) 1 1] Try.call29 (Calls.mono (wr_number W _ _ _ _ _ _ hI hb hS_5 _ _ _ _ (RdT.blk (cs := [[(b_1, .cells #[.int .i64 ((ln : Nat) : Int)] 3 (0, 0))]]) (enc := encI) (sz := 1) (xs := [((ln : Nat) : Int)]) (fun _ => rfl) 1 0 rfl rfl rfl (by omega))) ?_)
  rintro _ w_6 ⟨rfl, fp_8, hI_9, hS_7⟩
  refine ⟨_, rfl, ?_⟩
  have hb_10 := Wr.len_le hb ([((ln : Nat) : Int)])
  generalize es_12 : s.put ([((ln : Nat) : Int)]) = s_11 at hI_9 hb_10
  change Sat _ _ (fp_8 :: [(b_1, .cells #[.int .i64 ((ln : Nat) : Int)] 3 (0, 0))] :: H :: F) at hS_7
  refine nilO ?_
  refine thenK_n <| ?_
  refine seqE ?_
  refine regionE ?_
  refine p3 (by kernel_rfl) ?_
  refine nilO ?_
  refine thenK_n <| ?_
  refine blockE ?_
  have hS_13 := hS_7.pick 2 rfl
  have hS_14 := hS_13.pick 1 rfl
  change Sat _ _ (fp_8 :: H :: [(b_1, .cells #[.int .i64 ((ln : Nat) : Int)] 3 (0, 0))] :: F) at hS_14
  have hS_15 := hS_14.dropAt 2 rfl
  change Sat _ _ (fp_8 :: H :: F) at hS_15
  refine loopE (γ := Nat × Wr × Chunk) (fun ⟨i, s', fp'⟩ ρ w => AllAt ρ [(0, .pointer (some ⟨p, 0, none⟩)), (11, .slice la ln lk), (12, .int .i64 ((ln : Nat) : Int)), (13, .int .i64 ((i : Nat) : Int))] ∧ Sat W w (fp' :: H :: F) ∧ i ≤ ln ∧ s_11.put ((l.take i).flatMap (fun x => nTap x.v)) = s' ∧ WrR p s' fp' ∧ s'.bs.length ≤ 262144) (fun ⟨i, s', fp'⟩ => ln - i) (0, s_11, fp_8) ⟨⟨by kernel_rfl, by kernel_rfl, by kernel_rfl, by kernel_rfl, trivial⟩, hS_15, Nat.zero_le _, rfl, hI_9, hb_10⟩ ?_
  skip
  rintro ⟨i, s', fp'⟩ ρ w_16 ⟨hA, hS_17, hi, hp, hI', hb'⟩
  refine cAnchor hA (fun ρ => ?_)
  clear hA
  refine seqE ?_
  refine regionE ?_
  refine p1 (by kernel_rfl) ?_
  refine nilO ?_
  refine thenK_n <| ?_
  refine seqE ?_
  by_cases hc_18 : (((i : Nat) : Int) : Int) < ((ln : Nat) : Int)
  · refine cT (decide ((((i : Nat) : Int) : Int) < ((ln : Nat) : Int))) (decide_eq_true hc_18) ?_
    refine skipE ?_
    refine thenK_n <| ?_
    refine seqE ?_
    refine blockE ?_
    refine seqE ?_
    refine regionE ?_
    refine sIdx hR ((i : Nat) : Int) Try.runUnderlying58 Try.sizeOf94 ?_
    intro x_19 b_20 o_21 hx_22 hp_23
    rw [Int.toNat_natCast] at hx_22
    refine sLpA hS_17 (hp_23.up 1 rfl) 0 [.int .i64 x_19.first, .slice x_19.weights.a x_19.weights.n x_19.weights.k] (Try.isAgg94 _) (Try.sizeOf94 _) ?_
    refine sAlloc hS_17 Try.zeroValue94 ?_
    intro b_24 w_25 hS_26
    change Sat _ _ ([(b_24, .cells #[.int .i64 0, .slice none 0 0] 94 (0, 0))] :: fp' :: H :: F) at hS_26
    refine sT hS_26 0 0 (.agg #[.int .i64 x_19.first, .slice x_19.weights.a x_19.weights.n x_19.weights.k]) [.int .i64 x_19.first, .slice x_19.weights.a x_19.weights.n x_19.weights.k] #[.int .i64 x_19.first, .slice x_19.weights.a x_19.weights.n x_19.weights.k] Try.sizeOf94 ?_
    intro w_27 hS_28
    try dsimp only [List.set, List.eraseIdx] at hS_28
    refine nilO ?_
    refine thenK_n <| ?_
    refine seqE ?_
    refine seqE ?_
    have hS_34 := hS_28.pick 1 rfl
    try dsimp only [List.set, List.eraseIdx] at hS_34
    obtain ⟨a_29, n_30, k_31, c_32, rfl, hO_33⟩ := hI'
    have hS_35 := hS_34.split
    try dsimp only [List.set, List.eraseIdx] at hS_35
    refine regionE ?_
    refine p3 (by kernel_rfl) ?_
    refine sL hS_35 0 1 (.bool s'.full) (Try.isAgg4 _) ?_
    refine nilO ?_
    refine thenK_n <| ?_
    rcases Classical.em (s'.full = true) with hc_36 | hc_36
    · refine cT s'.full hc_36 ?_
      refine retE (thenK_r <| blockK_r <| thenK_r <| thenK_r <| blockK_r <| ?_)
      refine ret0 rfl <| ?_
      have hS_37 := hS_35.pick 1 rfl
      have hS_38 := hS_37.pick 1 rfl
      try dsimp only [List.set, List.eraseIdx] at hS_38
      have hS_39 := hS_38.merge
      have hI_40 : WrR p s' ([(p, .cells #[.slice a_29 n_30 k_31, .bool s'.full] 72 (0, 0))] ++ c_32) := ⟨_, _, _, _, rfl, hO_33⟩
      try dsimp only [List.set, List.eraseIdx] at hS_39
      have he := Wr.stopF hp hc_36
      have hS_41 := hS_39.pick 2 rfl
      have hS_42 := hS_41.pick 1 rfl
      try dsimp only [List.set, List.eraseIdx] at hS_42
      have hS_43 := hS_42.dropAt 2 rfl
      change Sat _ _ (([(p, .cells #[.slice a_29 n_30 k_31, .bool s'.full] 72 (0, 0))] ++ c_32) :: H :: F) at hS_43
      refine ⟨rfl, _, ?_, hS_43⟩
      rw [show s.put (nTaps (l.map Tap.v)) = s' from ?_]
      · exact hI_40
      rw [← he]
      subst es_12
      show s.put (((l.map Tap.v).length : Int) :: (l.map Tap.v).flatMap nTap) = _
      rw [List.length_map, List.flatMap_map, hll]; rfl
    · refine cF s'.full (Bool.eq_false_iff.2 hc_36) ?_
      refine skipE ?_
      refine thenK_n <| ?_
      refine seqE ?_
      refine regionE ?_
      refine p2 (by kernel_rfl) ?_
      refine sL hS_35 2 0 (.int .i64 x_19.first) (Try.isAgg3 _) ?_
      refine sBS hS_35 #[.int .i64 x_19.first] Try.runUnderlying22 Try.sizeOf3 Try.zeroValue3 ?_
      intro b_44 w_45 hS_46
      have hS_47 := hS_46.pick 2 rfl
      have hS_48 := hS_47.pick 2 rfl
      try dsimp only [List.set, List.eraseIdx] at hS_48
      have hS_49 := hS_48.merge
      have hI_50 : WrR p s' ([(p, .cells #[.slice a_29 n_30 k_31, .bool s'.full] 72 (0, 0))] ++ c_32) := ⟨_, _, _, _, rfl, hO_33⟩
      try dsimp only [List.set, List.eraseIdx] at hS_49
      have hS_51 := hS_49.pick 1 rfl
      have hS_52 := hS_51.pick 1 rfl
      try dsimp only [List.set, List.eraseIdx] at hS_52
      refine sF #[.pointer (some ⟨p, 0, none⟩), .slice (some ⟨b_44, 0, none⟩) 1 1] Try.call29 (Calls.mono (wr_number W _ _ _ _ _ _ hI_50 hb' hS_52 _ _ _ _ (RdT.blk (cs := [[(b_44, .cells #[.int .i64 x_19.first] 3 (0, 0))]]) (enc := encI) (sz := 1) (xs := [x_19.first]) (fun _ => rfl) 1 0 rfl rfl rfl (by omega))) ?_)
      rintro _ w_53 ⟨rfl, fp_55, hI_56, hS_54⟩
      refine ⟨_, rfl, ?_⟩
      have hb_57 := Wr.len_le hb' ([x_19.first])
      generalize es_59 : s'.put ([x_19.first]) = s_58 at hI_56 hb_57
      try dsimp only [List.set, List.eraseIdx] at hS_54
      refine nilO ?_
      refine thenK_n <| ?_
      refine regionE ?_
      refine p2 (by kernel_rfl) ?_
      refine sL hS_54 2 1 (.slice x_19.weights.a x_19.weights.n x_19.weights.k) (Try.isAgg22 _) ?_
      have hS_60 := hS_54.pick 3 rfl
      have hS_61 := hS_60.pick 1 rfl
      try dsimp only [List.set, List.eraseIdx] at hS_61
      refine sF #[.pointer (some ⟨p, 0, none⟩), .slice x_19.weights.a x_19.weights.n x_19.weights.k] Try.call30 (Calls.mono (wr_numbers W _ _ _ _ _ _ hI_56 hb_57 hS_61 _ _ _ _ (hD x_19 (List.mem_of_getElem? hx_22)).weights) ?_)
      rintro _ w_62 ⟨rfl, fp_64, hI_65, hS_63⟩
      refine ⟨_, rfl, ?_⟩
      have hb_66 := Wr.len_le hb_57 (nInts x_19.weights.l)
      generalize es_68 : s_58.put (nInts x_19.weights.l) = s_67 at hI_65 hb_66
      try dsimp only [List.set, List.eraseIdx] at hS_63
      refine nilO ?_
      refine blockK_n <| thenK_n <| ?_
      refine regionE ?_
      refine sAdd ((i : Nat) : Int) 1 ?_
      refine p1 (by kernel_rfl) ?_
      refine nilO ?_
      refine thenK_n <| ?_
      have hS_69 := hS_63.pick 1 rfl
      have hS_70 := hS_69.pick 1 rfl
      try dsimp only [List.set, List.eraseIdx] at hS_70
      have hS_71 := hS_70.dropAt 2 rfl
      have hS_72 := hS_71.dropAt 2 rfl
      change Sat _ _ (fp_64 :: H :: F) at hS_72
      have hst : s_67 = s'.put ((fun x => nTap x.v) x_19) := by subst es_68; subst es_59; rfl
      exact ⟨(i + 1, s_67, fp_64), by dsimp only; omega, ⟨by kernel_rfl, by kernel_rfl, by kernel_rfl, by kernel_rfl, trivial⟩, hS_72, by omega, (Wr.stepF hp hx_22).trans hst.symm, hI_65, hb_66⟩
  · refine cF (decide ((((i : Nat) : Int) : Int) < ((ln : Nat) : Int))) (decide_eq_false hc_18) ?_
    refine exitE (thenK_x <| thenK_x <| blockK_x <| ?_)
    refine ret0n rfl <| ?_
    have he := Wr.allF hp (by omega)
    have hS_73 := hS_17.pick 1 rfl
    have hS_74 := hS_73.pick 1 rfl
    change Sat _ _ (fp' :: H :: F) at hS_74
    change Sat _ _ (fp' :: H :: F) at hS_74
    refine ⟨rfl, _, ?_, hS_74⟩
    rw [show s.put (nTaps (l.map Tap.v)) = s' from ?_]
    · exact hI'
    rw [← he]
    subst es_12
    show s.put (((l.map Tap.v).length : Int) :: (l.map Tap.v).flatMap nTap) = _
    rw [List.length_map, List.flatMap_map, hll]; rfl
theorem wr_stage (W w : World) (p : Nat) (s : Wr) (fp : Chunk) (H : Chunk) (F : List Chunk) (hI : WrR p s fp) (hb : s.bs.length ≤ 262144) (hS : Sat W w (fp :: H :: F)) (q : Stage) (hq : Stage.Ok [H] q) :
    Calls Try.prog 31 #[.pointer (some ⟨p, 0, none⟩), .agg #[.int .i64 q.kind, .int .i64 q.a, .int .i64 q.b, .bool q.barrier, .int .i64 q.edgePolicy, .int .i64 q.edgeFill, .int .i64 q.kW, .int .i64 q.kH, .slice q.weights.a q.weights.n q.weights.k, .slice q.row.a q.row.n q.row.k, .slice q.col.a q.col.n q.col.k, .int .i64 q.shift, .int .i64 q.shift2, .slice q.x.a q.x.n q.x.k, .slice q.y.a q.y.n q.y.k, .int .i64 q.bins, .slice q.ops.a q.ops.n q.ops.k, .int .i64 q.max_]] w fun e w' => e = .returned (.tuple #[]) ∧ ∃ fp' : Chunk, WrR p (s.put (nStage q.v)) fp' ∧ Sat W w' (fp' :: H :: F) := by
  have hl_weights := hq.weights.len; have hk_weights := hq.weights.le
  have hl_row := hq.row.len; have hk_row := hq.row.le
  have hl_col := hq.col.len; have hk_col := hq.col.le
  have hl_x := hq.x.len; have hk_x := hq.x.le
  have hl_y := hq.y.len; have hk_y := hq.y.le
  have hl_ops := hq.ops.len; have hk_ops := hq.ops.le
  refine callsE (n := 88) Try.func31 rfl rfl (Nat.le_of_ble_eq_true rfl) ?_
  refine seqE ?_
  refine regionE ?_
  refine sBox hS (.agg #[.int .i64 q.kind, .int .i64 q.a, .int .i64 q.b, .bool q.barrier, .int .i64 q.edgePolicy, .int .i64 q.edgeFill, .int .i64 q.kW, .int .i64 q.kH, .slice q.weights.a q.weights.n q.weights.k, .slice q.row.a q.row.n q.row.k, .slice q.col.a q.col.n q.col.k, .int .i64 q.shift, .int .i64 q.shift2, .slice q.x.a q.x.n q.x.k, .slice q.y.a q.y.n q.y.k, .int .i64 q.bins, .slice q.ops.a q.ops.n q.ops.k, .int .i64 q.max_]) #[.int .i64 q.kind, .int .i64 q.a, .int .i64 q.b, .bool q.barrier, .int .i64 q.edgePolicy, .int .i64 q.edgeFill, .int .i64 q.kW, .int .i64 q.kH, .slice q.weights.a q.weights.n q.weights.k, .slice q.row.a q.row.n q.row.k, .slice q.col.a q.col.n q.col.k, .int .i64 q.shift, .int .i64 q.shift2, .slice q.x.a q.x.n q.x.k, .slice q.y.a q.y.n q.y.k, .int .i64 q.bins, .slice q.ops.a q.ops.n q.ops.k, .int .i64 q.max_] ?_
  intro b_1 w_2 hS_3
  refine nilO ?_
  refine thenK_n <| ?_
  refine seqE ?_
  refine regionE ?_
  refine p1 (by kernel_rfl) ?_
  refine nilO ?_
  refine thenK_n <| ?_
  refine cutE (fun ρ w => ∃ (bv : Int), AllAt ρ [(0, .pointer (some ⟨p, 0, none⟩)), (3, .pointer (some ⟨b_1, 0, none⟩)), (4, .int .i64 bv)] ∧ Sat W w ([(b_1, .cells #[.int .i64 q.kind, .int .i64 q.a, .int .i64 q.b, .bool q.barrier, .int .i64 q.edgePolicy, .int .i64 q.edgeFill, .int .i64 q.kW, .int .i64 q.kH, .slice q.weights.a q.weights.n q.weights.k, .slice q.row.a q.row.n q.row.k, .slice q.col.a q.col.n q.col.k, .int .i64 q.shift, .int .i64 q.shift2, .slice q.x.a q.x.n q.x.k, .slice q.y.a q.y.n q.y.k, .int .i64 q.bins, .slice q.ops.a q.ops.n q.ops.k, .int .i64 q.max_] 61 (0, 0))] :: fp :: H :: F) ∧ bv = nBool q.barrier) ?_ ?_
  · refine seqE ?_
    refine regionE ?_
    refine p1 (by kernel_rfl) ?_
    refine sL hS_3 0 3 (.bool q.barrier) (Try.isAgg4 _) ?_
    refine nilO ?_
    refine thenK_n <| ?_
    rcases Classical.em (q.barrier = true) with hc_4 | hc_4
    · refine cT q.barrier hc_4 ?_
      refine regionE ?_
      refine p1 (by kernel_rfl) ?_
      refine nilO ?_
      refine thenK_n <| ?_
      exact ⟨1, ⟨by kernel_rfl, by kernel_rfl, by kernel_rfl, trivial⟩, hS_3, by simp [nBool, hc_4]⟩
    · refine cF q.barrier (Bool.eq_false_iff.2 hc_4) ?_
      refine skipE ?_
      refine thenK_n <| ?_
      exact ⟨0, ⟨by kernel_rfl, by kernel_rfl, by kernel_rfl, trivial⟩, hS_3, by simp [nBool, hc_4]⟩
  · rintro ρ w_5 ⟨bv, hA, hS_6, hbv⟩
    refine cAnchor hA (fun ρ => ?_)
    clear hA
    refine seqE ?_
    refine regionE ?_
    refine p2 (by kernel_rfl) ?_
    refine sL hS_6 0 0 (.int .i64 q.kind) (Try.isAgg3 _) ?_
    refine p1 (by kernel_rfl) ?_
    refine sL hS_6 0 1 (.int .i64 q.a) (Try.isAgg3 _) ?_
    refine p1 (by kernel_rfl) ?_
    refine sL hS_6 0 2 (.int .i64 q.b) (Try.isAgg3 _) ?_
    refine p3 (by kernel_rfl) ?_
    refine sL hS_6 0 4 (.int .i64 q.edgePolicy) (Try.isAgg3 _) ?_
    refine p2 (by kernel_rfl) ?_
    refine sL hS_6 0 5 (.int .i64 q.edgeFill) (Try.isAgg3 _) ?_
    refine p1 (by kernel_rfl) ?_
    refine sL hS_6 0 6 (.int .i64 q.kW) (Try.isAgg3 _) ?_
    refine p1 (by kernel_rfl) ?_
    refine sL hS_6 0 7 (.int .i64 q.kH) (Try.isAgg3 _) ?_
    refine sBS hS_6 #[.int .i64 q.kind, .int .i64 q.a, .int .i64 q.b, .int .i64 bv, .int .i64 q.edgePolicy, .int .i64 q.edgeFill, .int .i64 q.kW, .int .i64 q.kH] Try.runUnderlying22 Try.sizeOf3 Try.zeroValue3 ?_
    intro b_7 w_8 hS_9
    have hS_10 := hS_9.pick 0 rfl
    have hS_11 := hS_10.pick 2 rfl
    try dsimp only [List.set, List.eraseIdx] at hS_11
    refine sF #[.pointer (some ⟨p, 0, none⟩), .slice (some ⟨b_7, 0, none⟩) 8 8] Try.call29 (Calls.mono (wr_number W _ _ _ _ _ _ hI hb hS_11 _ _ _ _ (RdT.blk (cs := [[(b_7, .cells #[.int .i64 q.kind, .int .i64 q.a, .int .i64 q.b, .int .i64 bv, .int .i64 q.edgePolicy, .int .i64 q.edgeFill, .int .i64 q.kW, .int .i64 q.kH] 3 (0, 0))]]) (enc := encI) (sz := 1) (xs := [q.kind, q.a, q.b, bv, q.edgePolicy, q.edgeFill, q.kW, q.kH]) (fun _ => rfl) 8 0 rfl rfl rfl (by omega))) ?_)
    rintro _ w_12 ⟨rfl, fp_14, hI_15, hS_13⟩
    refine ⟨_, rfl, ?_⟩
    have hb_16 := Wr.len_le hb ([q.kind, q.a, q.b, bv, q.edgePolicy, q.edgeFill, q.kW, q.kH])
    generalize es_18 : s.put ([q.kind, q.a, q.b, bv, q.edgePolicy, q.edgeFill, q.kW, q.kH]) = s_17 at hI_15 hb_16
    try dsimp only [List.set, List.eraseIdx] at hS_13
    refine nilO ?_
    refine thenK_n <| ?_
    refine seqE ?_
    refine regionE ?_
    refine p2 (by kernel_rfl) ?_
    refine sL hS_13 2 8 (.slice q.weights.a q.weights.n q.weights.k) (Try.isAgg22 _) ?_
    have hS_19 := hS_13.pick 3 rfl
    have hS_20 := hS_19.pick 1 rfl
    try dsimp only [List.set, List.eraseIdx] at hS_20
    refine sF #[.pointer (some ⟨p, 0, none⟩), .slice q.weights.a q.weights.n q.weights.k] Try.call30 (Calls.mono (wr_numbers W _ _ _ _ _ _ hI_15 hb_16 hS_20 _ _ _ _ hq.weights) ?_)
    rintro _ w_21 ⟨rfl, fp_23, hI_24, hS_22⟩
    refine ⟨_, rfl, ?_⟩
    have hb_25 := Wr.len_le hb_16 (nInts q.weights.l)
    generalize es_27 : s_17.put (nInts q.weights.l) = s_26 at hI_24 hb_25
    try dsimp only [List.set, List.eraseIdx] at hS_22
    refine nilO ?_
    refine thenK_n <| ?_
    refine seqE ?_
    refine regionE ?_
    refine p2 (by kernel_rfl) ?_
    refine sL hS_22 3 9 (.slice q.row.a q.row.n q.row.k) (Try.isAgg22 _) ?_
    have hS_28 := hS_22.pick 1 rfl
    have hS_29 := hS_28.pick 1 rfl
    try dsimp only [List.set, List.eraseIdx] at hS_29
    refine sF #[.pointer (some ⟨p, 0, none⟩), .slice q.row.a q.row.n q.row.k] Try.call30 (Calls.mono (wr_numbers W _ _ _ _ _ _ hI_24 hb_25 hS_29 _ _ _ _ hq.row) ?_)
    rintro _ w_30 ⟨rfl, fp_32, hI_33, hS_31⟩
    refine ⟨_, rfl, ?_⟩
    have hb_34 := Wr.len_le hb_25 (nInts q.row.l)
    generalize es_36 : s_26.put (nInts q.row.l) = s_35 at hI_33 hb_34
    try dsimp only [List.set, List.eraseIdx] at hS_31
    refine nilO ?_
    refine thenK_n <| ?_
    refine seqE ?_
    refine regionE ?_
    refine p2 (by kernel_rfl) ?_
    refine sL hS_31 3 10 (.slice q.col.a q.col.n q.col.k) (Try.isAgg22 _) ?_
    have hS_37 := hS_31.pick 1 rfl
    have hS_38 := hS_37.pick 1 rfl
    try dsimp only [List.set, List.eraseIdx] at hS_38
    refine sF #[.pointer (some ⟨p, 0, none⟩), .slice q.col.a q.col.n q.col.k] Try.call30 (Calls.mono (wr_numbers W _ _ _ _ _ _ hI_33 hb_34 hS_38 _ _ _ _ hq.col) ?_)
    rintro _ w_39 ⟨rfl, fp_41, hI_42, hS_40⟩
    refine ⟨_, rfl, ?_⟩
    have hb_43 := Wr.len_le hb_34 (nInts q.col.l)
    generalize es_45 : s_35.put (nInts q.col.l) = s_44 at hI_42 hb_43
    try dsimp only [List.set, List.eraseIdx] at hS_40
    refine nilO ?_
    refine thenK_n <| ?_
    refine seqE ?_
    refine regionE ?_
    refine p2 (by kernel_rfl) ?_
    refine sL hS_40 3 11 (.int .i64 q.shift) (Try.isAgg3 _) ?_
    refine p1 (by kernel_rfl) ?_
    refine sL hS_40 3 12 (.int .i64 q.shift2) (Try.isAgg3 _) ?_
    refine sBS hS_40 #[.int .i64 q.shift, .int .i64 q.shift2] Try.runUnderlying22 Try.sizeOf3 Try.zeroValue3 ?_
    intro b_46 w_47 hS_48
    have hS_49 := hS_48.pick 0 rfl
    have hS_50 := hS_49.pick 1 rfl
    try dsimp only [List.set, List.eraseIdx] at hS_50
    refine sF #[.pointer (some ⟨p, 0, none⟩), .slice (some ⟨b_46, 0, none⟩) 2 2] Try.call29 (Calls.mono (wr_number W _ _ _ _ _ _ hI_42 hb_43 hS_50 _ _ _ _ (RdT.blk (cs := [[(b_46, .cells #[.int .i64 q.shift, .int .i64 q.shift2] 3 (0, 0))]]) (enc := encI) (sz := 1) (xs := [q.shift, q.shift2]) (fun _ => rfl) 2 0 rfl rfl rfl (by omega))) ?_)
    rintro _ w_51 ⟨rfl, fp_53, hI_54, hS_52⟩
    refine ⟨_, rfl, ?_⟩
    have hb_55 := Wr.len_le hb_43 ([q.shift, q.shift2])
    generalize es_57 : s_44.put ([q.shift, q.shift2]) = s_56 at hI_54 hb_55
    try dsimp only [List.set, List.eraseIdx] at hS_52
    refine nilO ?_
    refine thenK_n <| ?_
    refine seqE ?_
    refine regionE ?_
    refine p2 (by kernel_rfl) ?_
    refine sL hS_52 4 13 (.slice q.x.a q.x.n q.x.k) (Try.isAgg58 _) ?_
    have hS_58 := hS_52.pick 2 rfl
    have hS_59 := hS_58.pick 1 rfl
    try dsimp only [List.set, List.eraseIdx] at hS_59
    refine sF #[.pointer (some ⟨p, 0, none⟩), .slice q.x.a q.x.n q.x.k] Try.call46 (Calls.mono (wr_taps W _ _ _ _ _ _ hI_54 hb_55 hS_59 _ _ _ _ hq.x hq.xD) ?_)
    rintro _ w_60 ⟨rfl, fp_62, hI_63, hS_61⟩
    refine ⟨_, rfl, ?_⟩
    have hb_64 := Wr.len_le hb_55 (nTaps (q.x.l.map Tap.v))
    generalize es_66 : s_56.put (nTaps (q.x.l.map Tap.v)) = s_65 at hI_63 hb_64
    try dsimp only [List.set, List.eraseIdx] at hS_61
    refine nilO ?_
    refine thenK_n <| ?_
    refine seqE ?_
    refine regionE ?_
    refine p2 (by kernel_rfl) ?_
    refine sL hS_61 4 14 (.slice q.y.a q.y.n q.y.k) (Try.isAgg58 _) ?_
    have hS_67 := hS_61.pick 1 rfl
    have hS_68 := hS_67.pick 1 rfl
    try dsimp only [List.set, List.eraseIdx] at hS_68
    refine sF #[.pointer (some ⟨p, 0, none⟩), .slice q.y.a q.y.n q.y.k] Try.call46 (Calls.mono (wr_taps W _ _ _ _ _ _ hI_63 hb_64 hS_68 _ _ _ _ hq.y hq.yD) ?_)
    rintro _ w_69 ⟨rfl, fp_71, hI_72, hS_70⟩
    refine ⟨_, rfl, ?_⟩
    have hb_73 := Wr.len_le hb_64 (nTaps (q.y.l.map Tap.v))
    generalize es_75 : s_65.put (nTaps (q.y.l.map Tap.v)) = s_74 at hI_72 hb_73
    try dsimp only [List.set, List.eraseIdx] at hS_70
    refine nilO ?_
    refine thenK_n <| ?_
    refine seqE ?_
    refine regionE ?_
    refine p2 (by kernel_rfl) ?_
    refine sL hS_70 4 15 (.int .i64 q.bins) (Try.isAgg3 _) ?_
    refine p1 (by kernel_rfl) ?_
    refine sL hS_70 4 16 (.slice q.ops.a q.ops.n q.ops.k) (Try.isAgg59 _) ?_
    refine p1 (by kernel_rfl) ?_
    refine sBS hS_70 #[.int .i64 q.bins, .int .i64 ((q.ops.n : Nat) : Int)] Try.runUnderlying22 Try.sizeOf3 Try.zeroValue3 ?_
    intro b_76 w_77 hS_78
    have hS_79 := hS_78.pick 0 rfl
    have hS_80 := hS_79.pick 1 rfl
    try dsimp only [List.set, List.eraseIdx] at hS_80
    refine sF #[.pointer (some ⟨p, 0, none⟩), .slice (some ⟨b_76, 0, none⟩) 2 2] Try.call29 (Calls.mono (wr_number W _ _ _ _ _ _ hI_72 hb_73 hS_80 _ _ _ _ (RdT.blk (cs := [[(b_76, .cells #[.int .i64 q.bins, .int .i64 ((q.ops.n : Nat) : Int)] 3 (0, 0))]]) (enc := encI) (sz := 1) (xs := [q.bins, ((q.ops.n : Nat) : Int)]) (fun _ => rfl) 2 0 rfl rfl rfl (by omega))) ?_)
    rintro _ w_81 ⟨rfl, fp_83, hI_84, hS_82⟩
    refine ⟨_, rfl, ?_⟩
    have hb_85 := Wr.len_le hb_73 ([q.bins, ((q.ops.n : Nat) : Int)])
    generalize es_87 : s_74.put ([q.bins, ((q.ops.n : Nat) : Int)]) = s_86 at hI_84 hb_85
    try dsimp only [List.set, List.eraseIdx] at hS_82
    refine nilO ?_
    refine thenK_n <| ?_
    refine seqE ?_
    refine seqE ?_
    refine regionE ?_
    refine p1 (by kernel_rfl) ?_
    refine sL hS_82 5 16 (.slice q.ops.a q.ops.n q.ops.k) (Try.isAgg59 _) ?_
    refine p2 (by kernel_rfl) ?_
    refine nilO ?_
    refine thenK_n <| ?_
    refine blockE ?_
    have hS_88 := hS_82.pick 2 rfl
    have hS_89 := hS_88.pick 5 rfl
    have hS_90 := hS_89.pick 2 rfl
    try dsimp only [List.set, List.eraseIdx] at hS_90
    have hS_91 := hS_90.dropAt 3 rfl
    have hS_92 := hS_91.dropAt 3 rfl
    have hS_93 := hS_92.dropAt 3 rfl
    try dsimp only [List.set, List.eraseIdx] at hS_93
    refine loopE (γ := Nat × Wr × Chunk) (fun ⟨i, s', fp'⟩ ρ w => AllAt ρ [(0, .pointer (some ⟨p, 0, none⟩)), (3, .pointer (some ⟨b_1, 0, none⟩)), (65, .slice q.ops.a q.ops.n q.ops.k), (66, .int .i64 ((q.ops.n : Nat) : Int)), (67, .int .i64 ((i : Nat) : Int))] ∧ Sat W w (fp' :: [(b_1, .cells #[.int .i64 q.kind, .int .i64 q.a, .int .i64 q.b, .bool q.barrier, .int .i64 q.edgePolicy, .int .i64 q.edgeFill, .int .i64 q.kW, .int .i64 q.kH, .slice q.weights.a q.weights.n q.weights.k, .slice q.row.a q.row.n q.row.k, .slice q.col.a q.col.n q.col.k, .int .i64 q.shift, .int .i64 q.shift2, .slice q.x.a q.x.n q.x.k, .slice q.y.a q.y.n q.y.k, .int .i64 q.bins, .slice q.ops.a q.ops.n q.ops.k, .int .i64 q.max_] 61 (0, 0))] :: H :: F) ∧ i ≤ q.ops.n ∧ s_86.put ((q.ops.l.take i).flatMap nOp) = s' ∧ WrR p s' fp' ∧ s'.bs.length ≤ 262144) (fun ⟨i, s', fp'⟩ => q.ops.n - i) (0, s_86, fp_83) ⟨⟨by kernel_rfl, by kernel_rfl, by kernel_rfl, by kernel_rfl, by kernel_rfl, trivial⟩, hS_93, Nat.zero_le _, rfl, hI_84, hb_85⟩ ?_
    skip
    rintro ⟨i, s', fp'⟩ ρ w_94 ⟨hA, hS_95, hi, hp, hI', hb'⟩
    refine cAnchor hA (fun ρ => ?_)
    clear hA
    refine seqE ?_
    refine regionE ?_
    refine p1 (by kernel_rfl) ?_
    refine nilO ?_
    refine thenK_n <| ?_
    refine seqE ?_
    by_cases hc_96 : (((i : Nat) : Int) : Int) < ((q.ops.n : Nat) : Int)
    · refine cT (decide ((((i : Nat) : Int) : Int) < ((q.ops.n : Nat) : Int))) (decide_eq_true hc_96) ?_
      refine skipE ?_
      refine thenK_n <| ?_
      refine seqE ?_
      refine blockE ?_
      refine seqE ?_
      refine regionE ?_
      refine sIdx hq.ops ((i : Nat) : Int) Try.runUnderlying59 Try.sizeOf66 ?_
      intro x_97 b_98 o_99 hx_100 hp_101
      rw [Int.toNat_natCast] at hx_100
      refine sLpA hS_95 (hp_101.up 2 rfl) 0 [.int .i64 x_97.code, .int .i64 x_97.arg] (Try.isAgg66 _) (Try.sizeOf66 _) ?_
      refine sAlloc hS_95 Try.zeroValue66 ?_
      intro b_102 w_103 hS_104
      try dsimp only [List.set, List.eraseIdx] at hS_104
      refine sT hS_104 0 0 (.agg #[.int .i64 x_97.code, .int .i64 x_97.arg]) [.int .i64 x_97.code, .int .i64 x_97.arg] #[.int .i64 x_97.code, .int .i64 x_97.arg] Try.sizeOf66 ?_
      intro w_105 hS_106
      try dsimp only [List.set, List.eraseIdx] at hS_106
      refine nilO ?_
      refine thenK_n <| ?_
      refine seqE ?_
      refine seqE ?_
      have hS_112 := hS_106.pick 1 rfl
      try dsimp only [List.set, List.eraseIdx] at hS_112
      obtain ⟨a_107, n_108, k_109, c_110, rfl, hO_111⟩ := hI'
      have hS_113 := hS_112.split
      try dsimp only [List.set, List.eraseIdx] at hS_113
      refine regionE ?_
      refine p3 (by kernel_rfl) ?_
      refine sL hS_113 0 1 (.bool s'.full) (Try.isAgg4 _) ?_
      refine nilO ?_
      refine thenK_n <| ?_
      rcases Classical.em (s'.full = true) with hc_114 | hc_114
      · refine cT s'.full hc_114 ?_
        refine retE (thenK_r <| blockK_r <| thenK_r <| thenK_r <| blockK_r <| thenK_r <| ?_)
        refine ret0 rfl <| ?_
        have hS_115 := hS_113.pick 1 rfl
        have hS_116 := hS_115.pick 1 rfl
        try dsimp only [List.set, List.eraseIdx] at hS_116
        have hS_117 := hS_116.merge
        have hI_118 : WrR p s' ([(p, .cells #[.slice a_107 n_108 k_109, .bool s'.full] 72 (0, 0))] ++ c_110) := ⟨_, _, _, _, rfl, hO_111⟩
        try dsimp only [List.set, List.eraseIdx] at hS_117
        have hS_119 := hS_117.pick 3 rfl
        have hS_120 := hS_119.pick 1 rfl
        try dsimp only [List.set, List.eraseIdx] at hS_120
        have hS_121 := hS_120.dropAt 2 rfl
        have hS_122 := hS_121.dropAt 2 rfl
        try dsimp only [List.set, List.eraseIdx] at hS_122
        refine ⟨rfl, _, ?_, hS_122⟩
        have hn : s.put (nStage q.v) = ((s_86.put (q.ops.l.flatMap nOp)).put [q.max_]) := by subst hbv; subst es_87; subst es_75; subst es_66; subst es_57; subst es_45; subst es_36; subst es_27; subst es_18; simp only [nStage, Stage.v, nTaps, nInts, nOps, Wr.put_app, ← hl_ops]; rfl
        have he := Wr.stopF hp hc_114
        obtain ⟨bs1, f1⟩ := s'
        have hf1 : f1 = true := hc_114
        subst hf1
        rw [hn, he, Wr.put_full]
        exact hI_118
      · refine cF s'.full (Bool.eq_false_iff.2 hc_114) ?_
        refine skipE ?_
        refine thenK_n <| ?_
        refine regionE ?_
        refine p2 (by kernel_rfl) ?_
        refine sL hS_113 2 0 (.int .i64 x_97.code) (Try.isAgg3 _) ?_
        refine p1 (by kernel_rfl) ?_
        refine sL hS_113 2 1 (.int .i64 x_97.arg) (Try.isAgg3 _) ?_
        refine sBS hS_113 #[.int .i64 x_97.code, .int .i64 x_97.arg] Try.runUnderlying22 Try.sizeOf3 Try.zeroValue3 ?_
        intro b_123 w_124 hS_125
        have hS_126 := hS_125.pick 2 rfl
        have hS_127 := hS_126.pick 2 rfl
        try dsimp only [List.set, List.eraseIdx] at hS_127
        have hS_128 := hS_127.merge
        have hI_129 : WrR p s' ([(p, .cells #[.slice a_107 n_108 k_109, .bool s'.full] 72 (0, 0))] ++ c_110) := ⟨_, _, _, _, rfl, hO_111⟩
        try dsimp only [List.set, List.eraseIdx] at hS_128
        have hS_130 := hS_128.pick 1 rfl
        have hS_131 := hS_130.pick 1 rfl
        try dsimp only [List.set, List.eraseIdx] at hS_131
        refine sF #[.pointer (some ⟨p, 0, none⟩), .slice (some ⟨b_123, 0, none⟩) 2 2] Try.call29 (Calls.mono (wr_number W _ _ _ _ _ _ hI_129 hb' hS_131 _ _ _ _ (RdT.blk (cs := [[(b_123, .cells #[.int .i64 x_97.code, .int .i64 x_97.arg] 3 (0, 0))]]) (enc := encI) (sz := 1) (xs := [x_97.code, x_97.arg]) (fun _ => rfl) 2 0 rfl rfl rfl (by omega))) ?_)
        rintro _ w_132 ⟨rfl, fp_134, hI_135, hS_133⟩
        refine ⟨_, rfl, ?_⟩
        have hb_136 := Wr.len_le hb' ([x_97.code, x_97.arg])
        generalize es_138 : s'.put ([x_97.code, x_97.arg]) = s_137 at hI_135 hb_136
        try dsimp only [List.set, List.eraseIdx] at hS_133
        refine nilO ?_
        refine blockK_n <| thenK_n <| ?_
        refine regionE ?_
        refine sAdd ((i : Nat) : Int) 1 ?_
        refine p1 (by kernel_rfl) ?_
        refine nilO ?_
        refine thenK_n <| ?_
        have hS_139 := hS_133.pick 4 rfl
        have hS_140 := hS_139.pick 4 rfl
        have hS_141 := hS_140.pick 2 rfl
        try dsimp only [List.set, List.eraseIdx] at hS_141
        have hS_142 := hS_141.dropAt 3 rfl
        have hS_143 := hS_142.dropAt 3 rfl
        try dsimp only [List.set, List.eraseIdx] at hS_143
        have hst : s_137 = s'.put (nOp x_97) := by subst es_138; rfl
        exact ⟨(i + 1, s_137, fp_134), by dsimp only; omega, ⟨by kernel_rfl, by kernel_rfl, by kernel_rfl, by kernel_rfl, by kernel_rfl, trivial⟩, hS_143, by omega, (Wr.stepF hp hx_100).trans hst.symm, hI_135, hb_136⟩
    · refine cF (decide ((((i : Nat) : Int) : Int) < ((q.ops.n : Nat) : Int))) (decide_eq_false hc_96) ?_
      refine exitE (thenK_x <| thenK_x <| blockK_x <| ?_)
      refine thenK_n <| ?_
      refine regionE ?_
      refine p2 (by kernel_rfl) ?_
      refine sL hS_95 1 17 (.int .i64 q.max_) (Try.isAgg3 _) ?_
      refine sBS hS_95 #[.int .i64 q.max_] Try.runUnderlying22 Try.sizeOf3 Try.zeroValue3 ?_
      intro b_144 w_145 hS_146
      have hS_147 := hS_146.pick 0 rfl
      have hS_148 := hS_147.pick 1 rfl
      try dsimp only [List.set, List.eraseIdx] at hS_148
      refine sF #[.pointer (some ⟨p, 0, none⟩), .slice (some ⟨b_144, 0, none⟩) 1 1] Try.call29 (Calls.mono (wr_number W _ _ _ _ _ _ hI' hb' hS_148 _ _ _ _ (RdT.blk (cs := [[(b_144, .cells #[.int .i64 q.max_] 3 (0, 0))]]) (enc := encI) (sz := 1) (xs := [q.max_]) (fun _ => rfl) 1 0 rfl rfl rfl (by omega))) ?_)
      rintro _ w_149 ⟨rfl, fp_151, hI_152, hS_150⟩
      refine ⟨_, rfl, ?_⟩
      have hb_153 := Wr.len_le hb' ([q.max_])
      generalize es_155 : s'.put ([q.max_]) = s_154 at hI_152 hb_153
      try dsimp only [List.set, List.eraseIdx] at hS_150
      refine nilO ?_
      refine ret0n rfl <| ?_
      have hS_156 := hS_150.pick 3 rfl
      have hS_157 := hS_156.pick 1 rfl
      try dsimp only [List.set, List.eraseIdx] at hS_157
      have hS_158 := hS_157.dropAt 2 rfl
      have hS_159 := hS_158.dropAt 2 rfl
      change Sat _ _ (fp_151 :: H :: F) at hS_159
      refine ⟨rfl, _, ?_, hS_159⟩
      have hn : s.put (nStage q.v) = ((s_86.put (q.ops.l.flatMap nOp)).put [q.max_]) := by subst hbv; subst es_155; subst es_87; subst es_75; subst es_66; subst es_57; subst es_45; subst es_36; subst es_27; subst es_18; simp only [nStage, Stage.v, nTaps, nInts, nOps, Wr.put_app, ← hl_ops]; rfl
      have he := Wr.allF hp (by omega)
      rw [hn, he, es_155]
      exact hI_152
theorem codec_encode (W w : World) (H : Chunk) (F : List Chunk) (j : Job) (hj : Job.Ok [H] j) (hS : Sat W w (H :: F)) :
    Calls Try.prog 11 #[.agg #[.slice j.inputs.a j.inputs.n j.inputs.k, .slice j.stages.a j.stages.n j.stages.k, .slice j.outputs.a j.outputs.n j.outputs.k, .int .i64 j.priority]] w fun e w' => (3 + 8 * (nJob j.v).length ≤ 262144 ∧ ∃ (a : Option Addr) (n k : Nat) (c : Chunk), e = .returned (.tuple #[.slice a n k, .int .i64 0]) ∧ OwnT encB 5 1 a n k ([84, 70, 1] ++ bytesOf (nJob j.v)) c ∧ Sat W w' (c :: H :: F)) ∨ (262144 < 3 + 8 * (nJob j.v).length ∧ e = .returned (.tuple #[.slice none 0 0, .int .i64 5]) ∧ Sat W w' (H :: F)) := by
  have hl_inputs := hj.inputs.len; have hk_inputs := hj.inputs.le
  have hl_stages := hj.stages.len; have hk_stages := hj.stages.le
  have hl_outputs := hj.outputs.len; have hk_outputs := hj.outputs.le
  refine callsE (n := 78) Try.func11 rfl rfl (Nat.le_of_ble_eq_true rfl) ?_
  refine seqE ?_
  refine regionE ?_
  refine sBox hS (.agg #[.slice j.inputs.a j.inputs.n j.inputs.k, .slice j.stages.a j.stages.n j.stages.k, .slice j.outputs.a j.outputs.n j.outputs.k, .int .i64 j.priority]) #[.slice j.inputs.a j.inputs.n j.inputs.k, .slice j.stages.a j.stages.n j.stages.k, .slice j.outputs.a j.outputs.n j.outputs.k, .int .i64 j.priority] ?_
  intro b_1 w_2 hS_3
  refine p2 (by kernel_rfl) ?_
  refine nilO ?_
  refine thenK_n <| ?_
  refine seqE ?_
  refine regionE ?_
  refine sBS hS_3 #[.int .u8 84, .int .u8 70, .int .u8 1] Try.runUnderlying31 Try.sizeOf5 Try.zeroValue5 ?_
  intro b_4 w_5 hS_6
  refine p1 (by kernel_rfl) ?_
  refine sBox hS_6 (.agg #[.slice (some ⟨b_4, 0, none⟩) 3 3, .bool false]) #[.slice (some ⟨b_4, 0, none⟩) 3 3, .bool false] ?_
  intro b_7 w_8 hS_9
  refine p1 (by kernel_rfl) ?_
  refine nilO ?_
  have hO_10 := OwnT.blk (enc := encB) (sz := 1) (b := b_4) (c := #[.int .u8 84, .int .u8 70, .int .u8 1]) (E := 5) (xs := [84, 70, 1]) (fun _ => rfl) 3 rfl rfl rfl (by omega)
  have hS_13 := hS_9.pick 1 rfl
  have hS_14 := hS_13.pick 1 rfl
  try dsimp only [List.set, List.eraseIdx] at hS_14
  have hS_15 := hS_14.merge
  have hI_11 : WrR b_7 ⟨[84, 70, 1], false⟩ ([(b_7, .cells #[.slice (some ⟨b_4, 0, none⟩) 3 3, .bool false] 72 (0, 0))] ++ [(b_4, .cells #[.int .u8 84, .int .u8 70, .int .u8 1] 5 (0, 0))]) := ⟨_, _, _, _, rfl, hO_10⟩
  have hb_12 : (⟨[84, 70, 1], false⟩ : Wr).bs.length ≤ 262144 := by decide
  try dsimp only [List.set, List.eraseIdx] at hS_15
  refine thenK_n <| ?_
  refine seqE ?_
  refine regionE ?_
  refine p2 (by kernel_rfl) ?_
  refine sL hS_15 1 3 (.int .i64 j.priority) (Try.isAgg3 _) ?_
  refine p1 (by kernel_rfl) ?_
  refine sL hS_15 1 0 (.slice j.inputs.a j.inputs.n j.inputs.k) (Try.isAgg25 _) ?_
  refine p1 (by kernel_rfl) ?_
  refine sBS hS_15 #[.int .i64 j.priority, .int .i64 ((j.inputs.n : Nat) : Int)] Try.runUnderlying22 Try.sizeOf3 Try.zeroValue3 ?_
  intro b_16 w_17 hS_18
  have hS_19 := hS_18.pick 0 rfl
  have hS_20 := hS_19.pick 1 rfl
  try dsimp only [List.set, List.eraseIdx] at hS_20
  refine sF #[.pointer (some ⟨b_7, 0, none⟩), .slice (some ⟨b_16, 0, none⟩) 2 2] Try.call29 (Calls.mono (wr_number W _ _ _ _ _ _ hI_11 hb_12 hS_20 _ _ _ _ (RdT.blk (cs := [[(b_16, .cells #[.int .i64 j.priority, .int .i64 ((j.inputs.n : Nat) : Int)] 3 (0, 0))]]) (enc := encI) (sz := 1) (xs := [j.priority, ((j.inputs.n : Nat) : Int)]) (fun _ => rfl) 2 0 rfl rfl rfl (by omega))) ?_)
  rintro _ w_21 ⟨rfl, fp_23, hI_24, hS_22⟩
  refine ⟨_, rfl, ?_⟩
  have hb_25 := Wr.len_le hb_12 ([j.priority, ((j.inputs.n : Nat) : Int)])
  generalize es_27 : (⟨[84, 70, 1], false⟩ : Wr).put ([j.priority, ((j.inputs.n : Nat) : Int)]) = s_26 at hI_24 hb_25
  try dsimp only [List.set, List.eraseIdx] at hS_22
  refine nilO ?_
  refine thenK_n <| ?_
  refine cutE (fun ρ w => ∃ (fp0 : Chunk), AllAt ρ [(1, .pointer (some ⟨b_1, 0, none⟩)), (4, .pointer (some ⟨b_7, 0, none⟩))] ∧ Sat W w (fp0 :: [(b_1, .cells #[.slice j.inputs.a j.inputs.n j.inputs.k, .slice j.stages.a j.stages.n j.stages.k, .slice j.outputs.a j.outputs.n j.outputs.k, .int .i64 j.priority] 28 (0, 0))] :: H :: F) ∧ WrR b_7 (s_26.put (j.inputs.l.flatMap (fun x => nPlane x.v))) fp0 ∧ (s_26.put (j.inputs.l.flatMap (fun x => nPlane x.v))).bs.length ≤ 262144) ?_ ?_
  · refine seqE ?_
    refine regionE ?_
    refine p1 (by kernel_rfl) ?_
    refine sL hS_22 2 0 (.slice j.inputs.a j.inputs.n j.inputs.k) (Try.isAgg25 _) ?_
    refine p2 (by kernel_rfl) ?_
    refine nilO ?_
    refine thenK_n <| ?_
    refine blockE ?_
    have hS_28 := hS_22.pick 3 rfl
    have hS_29 := hS_28.pick 3 rfl
    have hS_30 := hS_29.pick 2 rfl
    try dsimp only [List.set, List.eraseIdx] at hS_30
    have hS_31 := hS_30.dropAt 3 rfl
    try dsimp only [List.set, List.eraseIdx] at hS_31
    refine loopE (γ := Nat × Wr × Chunk) (fun ⟨i, s', fp'⟩ ρ w => AllAt ρ [(1, .pointer (some ⟨b_1, 0, none⟩)), (4, .pointer (some ⟨b_7, 0, none⟩)), (21, .slice j.inputs.a j.inputs.n j.inputs.k), (22, .int .i64 ((j.inputs.n : Nat) : Int)), (23, .int .i64 ((i : Nat) : Int))] ∧ Sat W w (fp' :: [(b_1, .cells #[.slice j.inputs.a j.inputs.n j.inputs.k, .slice j.stages.a j.stages.n j.stages.k, .slice j.outputs.a j.outputs.n j.outputs.k, .int .i64 j.priority] 28 (0, 0))] :: H :: F) ∧ i ≤ j.inputs.n ∧ s_26.put ((j.inputs.l.take i).flatMap (fun x => nPlane x.v)) = s' ∧ WrR b_7 s' fp' ∧ s'.bs.length ≤ 262144) (fun ⟨i, s', fp'⟩ => j.inputs.n - i) (0, s_26, fp_23) ⟨⟨by kernel_rfl, by kernel_rfl, by kernel_rfl, by kernel_rfl, by kernel_rfl, trivial⟩, hS_31, Nat.zero_le _, rfl, hI_24, hb_25⟩ ?_
    skip
    rintro ⟨i, s', fp'⟩ ρ w_32 ⟨hA, hS_33, hi, hp, hI', hb'⟩
    refine cAnchor hA (fun ρ => ?_)
    clear hA
    refine seqE ?_
    refine regionE ?_
    refine p1 (by kernel_rfl) ?_
    refine nilO ?_
    refine thenK_n <| ?_
    refine seqE ?_
    by_cases hc_34 : (((i : Nat) : Int) : Int) < ((j.inputs.n : Nat) : Int)
    · refine cT (decide ((((i : Nat) : Int) : Int) < ((j.inputs.n : Nat) : Int))) (decide_eq_true hc_34) ?_
      refine skipE ?_
      refine thenK_n <| ?_
      refine seqE ?_
      refine blockE ?_
      refine seqE ?_
      refine regionE ?_
      refine sIdx hj.inputs ((i : Nat) : Int) Try.runUnderlying25 Try.sizeOf49 ?_
      intro x_35 b_36 o_37 hx_38 hp_39
      rw [Int.toNat_natCast] at hx_38
      refine sLpA hS_33 (hp_39.up 2 rfl) 0 [.int .i64 x_35.w, .int .i64 x_35.h, .int .i64 x_35.max_, .slice x_35.pix.a x_35.pix.n x_35.pix.k] (Try.isAgg49 _) (Try.sizeOf49 _) ?_
      refine sAlloc hS_33 Try.zeroValue49 ?_
      intro b_40 w_41 hS_42
      try dsimp only [List.set, List.eraseIdx] at hS_42
      refine sT hS_42 0 0 (.agg #[.int .i64 x_35.w, .int .i64 x_35.h, .int .i64 x_35.max_, .slice x_35.pix.a x_35.pix.n x_35.pix.k]) [.int .i64 x_35.w, .int .i64 x_35.h, .int .i64 x_35.max_, .slice x_35.pix.a x_35.pix.n x_35.pix.k] #[.int .i64 x_35.w, .int .i64 x_35.h, .int .i64 x_35.max_, .slice x_35.pix.a x_35.pix.n x_35.pix.k] Try.sizeOf49 ?_
      intro w_43 hS_44
      try dsimp only [List.set, List.eraseIdx] at hS_44
      refine nilO ?_
      refine thenK_n <| ?_
      refine seqE ?_
      refine seqE ?_
      have hS_50 := hS_44.pick 1 rfl
      try dsimp only [List.set, List.eraseIdx] at hS_50
      obtain ⟨a_45, n_46, k_47, c_48, rfl, hO_49⟩ := hI'
      have hS_51 := hS_50.split
      try dsimp only [List.set, List.eraseIdx] at hS_51
      refine regionE ?_
      refine p3 (by kernel_rfl) ?_
      refine sL hS_51 0 1 (.bool s'.full) (Try.isAgg4 _) ?_
      refine nilO ?_
      refine thenK_n <| ?_
      rcases Classical.em (s'.full = true) with hc_52 | hc_52
      · refine cT s'.full hc_52 ?_
        refine exitE (thenK_x <| blockK_y rfl <| thenK_x <| thenK_x <| blockK_x <| ?_)
        refine thenK_n <| ?_
        have hS_53 := hS_51.pick 1 rfl
        have hS_54 := hS_53.pick 1 rfl
        try dsimp only [List.set, List.eraseIdx] at hS_54
        have hS_55 := hS_54.merge
        have hI_56 : WrR b_7 s' ([(b_7, .cells #[.slice a_45 n_46 k_47, .bool s'.full] 72 (0, 0))] ++ c_48) := ⟨_, _, _, _, rfl, hO_49⟩
        try dsimp only [List.set, List.eraseIdx] at hS_55
        have hS_57 := hS_55.pick 3 rfl
        have hS_58 := hS_57.pick 3 rfl
        have hS_59 := hS_58.pick 2 rfl
        try dsimp only [List.set, List.eraseIdx] at hS_59
        have hS_60 := hS_59.dropAt 3 rfl
        try dsimp only [List.set, List.eraseIdx] at hS_60
        have he := Wr.stopF hp hc_52
        exact ⟨([(b_7, .cells #[.slice a_45 n_46 k_47, .bool s'.full] 72 (0, 0))] ++ c_48), ⟨by kernel_rfl, by kernel_rfl, trivial⟩, hS_60, by rw [he]; exact hI_56, by rw [he]; exact hb'⟩
      · refine cF s'.full (Bool.eq_false_iff.2 hc_52) ?_
        refine skipE ?_
        refine thenK_n <| ?_
        refine seqE ?_
        refine regionE ?_
        refine p2 (by kernel_rfl) ?_
        refine sL hS_51 2 0 (.int .i64 x_35.w) (Try.isAgg3 _) ?_
        refine p1 (by kernel_rfl) ?_
        refine sL hS_51 2 1 (.int .i64 x_35.h) (Try.isAgg3 _) ?_
        refine p1 (by kernel_rfl) ?_
        refine sL hS_51 2 2 (.int .i64 x_35.max_) (Try.isAgg3 _) ?_
        refine sBS hS_51 #[.int .i64 x_35.w, .int .i64 x_35.h, .int .i64 x_35.max_] Try.runUnderlying22 Try.sizeOf3 Try.zeroValue3 ?_
        intro b_61 w_62 hS_63
        have hS_64 := hS_63.pick 2 rfl
        have hS_65 := hS_64.pick 2 rfl
        try dsimp only [List.set, List.eraseIdx] at hS_65
        have hS_66 := hS_65.merge
        have hI_67 : WrR b_7 s' ([(b_7, .cells #[.slice a_45 n_46 k_47, .bool s'.full] 72 (0, 0))] ++ c_48) := ⟨_, _, _, _, rfl, hO_49⟩
        try dsimp only [List.set, List.eraseIdx] at hS_66
        have hS_68 := hS_66.pick 1 rfl
        have hS_69 := hS_68.pick 1 rfl
        try dsimp only [List.set, List.eraseIdx] at hS_69
        refine sF #[.pointer (some ⟨b_7, 0, none⟩), .slice (some ⟨b_61, 0, none⟩) 3 3] Try.call29 (Calls.mono (wr_number W _ _ _ _ _ _ hI_67 hb' hS_69 _ _ _ _ (RdT.blk (cs := [[(b_61, .cells #[.int .i64 x_35.w, .int .i64 x_35.h, .int .i64 x_35.max_] 3 (0, 0))]]) (enc := encI) (sz := 1) (xs := [x_35.w, x_35.h, x_35.max_]) (fun _ => rfl) 3 0 rfl rfl rfl (by omega))) ?_)
        rintro _ w_70 ⟨rfl, fp_72, hI_73, hS_71⟩
        refine ⟨_, rfl, ?_⟩
        have hb_74 := Wr.len_le hb' ([x_35.w, x_35.h, x_35.max_])
        generalize es_76 : s'.put ([x_35.w, x_35.h, x_35.max_]) = s_75 at hI_73 hb_74
        try dsimp only [List.set, List.eraseIdx] at hS_71
        refine nilO ?_
        refine thenK_n <| ?_
        refine regionE ?_
        refine p2 (by kernel_rfl) ?_
        refine sL hS_71 2 3 (.slice x_35.pix.a x_35.pix.n x_35.pix.k) (Try.isAgg22 _) ?_
        have hS_77 := hS_71.pick 4 rfl
        have hS_78 := hS_77.pick 1 rfl
        try dsimp only [List.set, List.eraseIdx] at hS_78
        refine sF #[.pointer (some ⟨b_7, 0, none⟩), .slice x_35.pix.a x_35.pix.n x_35.pix.k] Try.call30 (Calls.mono (wr_numbers W _ _ _ _ _ _ hI_73 hb_74 hS_78 _ _ _ _ (hj.inputsD x_35 (List.mem_of_getElem? hx_38)).pix) ?_)
        rintro _ w_79 ⟨rfl, fp_81, hI_82, hS_80⟩
        refine ⟨_, rfl, ?_⟩
        have hb_83 := Wr.len_le hb_74 (nInts x_35.pix.l)
        generalize es_85 : s_75.put (nInts x_35.pix.l) = s_84 at hI_82 hb_83
        try dsimp only [List.set, List.eraseIdx] at hS_80
        refine nilO ?_
        refine blockK_n <| thenK_n <| ?_
        refine regionE ?_
        refine sAdd ((i : Nat) : Int) 1 ?_
        refine p1 (by kernel_rfl) ?_
        refine nilO ?_
        refine thenK_n <| ?_
        have hS_86 := hS_80.pick 1 rfl
        have hS_87 := hS_86.pick 4 rfl
        have hS_88 := hS_87.pick 2 rfl
        try dsimp only [List.set, List.eraseIdx] at hS_88
        have hS_89 := hS_88.dropAt 3 rfl
        have hS_90 := hS_89.dropAt 3 rfl
        try dsimp only [List.set, List.eraseIdx] at hS_90
        have hst : s_84 = s'.put ((fun x => nPlane x.v) x_35) := by subst es_85; subst es_76; simp only [nPlane, Wr.put_app]; rfl
        exact ⟨(i + 1, s_84, fp_81), by dsimp only; omega, ⟨by kernel_rfl, by kernel_rfl, by kernel_rfl, by kernel_rfl, by kernel_rfl, trivial⟩, hS_90, by omega, (Wr.stepF hp hx_38).trans hst.symm, hI_82, hb_83⟩
    · refine cF (decide ((((i : Nat) : Int) : Int) < ((j.inputs.n : Nat) : Int))) (decide_eq_false hc_34) ?_
      refine exitE (thenK_x <| thenK_x <| blockK_x <| ?_)
      refine thenK_n <| ?_
      have hS_91 := hS_33.pick 2 rfl
      have hS_92 := hS_91.pick 2 rfl
      have hS_93 := hS_92.pick 2 rfl
      try dsimp only [List.set, List.eraseIdx] at hS_93
      try dsimp only [List.set, List.eraseIdx] at hS_93
      have he := Wr.allF hp (by omega)
      exact ⟨fp', ⟨by kernel_rfl, by kernel_rfl, trivial⟩, hS_93, by rw [he]; exact hI', by rw [he]; exact hb'⟩
  · rintro ρ w_94 ⟨fp0, hA, hS_95, hI0, hb0⟩
    refine cAnchor hA (fun ρ => ?_)
    clear hA
    refine seqE ?_
    refine regionE ?_
    refine p2 (by kernel_rfl) ?_
    refine sL hS_95 1 1 (.slice j.stages.a j.stages.n j.stages.k) (Try.isAgg26 _) ?_
    refine p1 (by kernel_rfl) ?_
    refine sBS hS_95 #[.int .i64 ((j.stages.n : Nat) : Int)] Try.runUnderlying22 Try.sizeOf3 Try.zeroValue3 ?_
    intro b_96 w_97 hS_98
    have hS_99 := hS_98.pick 0 rfl
    have hS_100 := hS_99.pick 1 rfl
    try dsimp only [List.set, List.eraseIdx] at hS_100
    refine sF #[.pointer (some ⟨b_7, 0, none⟩), .slice (some ⟨b_96, 0, none⟩) 1 1] Try.call29 (Calls.mono (wr_number W _ _ _ _ _ _ hI0 hb0 hS_100 _ _ _ _ (RdT.blk (cs := [[(b_96, .cells #[.int .i64 ((j.stages.n : Nat) : Int)] 3 (0, 0))]]) (enc := encI) (sz := 1) (xs := [((j.stages.n : Nat) : Int)]) (fun _ => rfl) 1 0 rfl rfl rfl (by omega))) ?_)
    rintro _ w_101 ⟨rfl, fp_103, hI_104, hS_102⟩
    refine ⟨_, rfl, ?_⟩
    have hb_105 := Wr.len_le hb0 ([((j.stages.n : Nat) : Int)])
    generalize es_107 : (s_26.put (j.inputs.l.flatMap (fun x => nPlane x.v))).put ([((j.stages.n : Nat) : Int)]) = s_106 at hI_104 hb_105
    try dsimp only [List.set, List.eraseIdx] at hS_102
    refine nilO ?_
    refine thenK_n <| ?_
    refine cutE (fun ρ w => ∃ (fp1 : Chunk), AllAt ρ [(1, .pointer (some ⟨b_1, 0, none⟩)), (4, .pointer (some ⟨b_7, 0, none⟩))] ∧ Sat W w (fp1 :: [(b_1, .cells #[.slice j.inputs.a j.inputs.n j.inputs.k, .slice j.stages.a j.stages.n j.stages.k, .slice j.outputs.a j.outputs.n j.outputs.k, .int .i64 j.priority] 28 (0, 0))] :: H :: F) ∧ WrR b_7 (s_106.put (j.stages.l.flatMap (fun x => nStage x.v))) fp1 ∧ (s_106.put (j.stages.l.flatMap (fun x => nStage x.v))).bs.length ≤ 262144) ?_ ?_
    · refine seqE ?_
      refine regionE ?_
      refine p1 (by kernel_rfl) ?_
      refine sL hS_102 2 1 (.slice j.stages.a j.stages.n j.stages.k) (Try.isAgg26 _) ?_
      refine p2 (by kernel_rfl) ?_
      refine nilO ?_
      refine thenK_n <| ?_
      refine blockE ?_
      have hS_108 := hS_102.pick 3 rfl
      have hS_109 := hS_108.pick 3 rfl
      have hS_110 := hS_109.pick 2 rfl
      try dsimp only [List.set, List.eraseIdx] at hS_110
      have hS_111 := hS_110.dropAt 3 rfl
      try dsimp only [List.set, List.eraseIdx] at hS_111
      refine loopE (γ := Nat × Wr × Chunk) (fun ⟨i, s', fp'⟩ ρ w => AllAt ρ [(1, .pointer (some ⟨b_1, 0, none⟩)), (4, .pointer (some ⟨b_7, 0, none⟩)), (52, .slice j.stages.a j.stages.n j.stages.k), (53, .int .i64 ((j.stages.n : Nat) : Int)), (54, .int .i64 ((i : Nat) : Int))] ∧ Sat W w (fp' :: [(b_1, .cells #[.slice j.inputs.a j.inputs.n j.inputs.k, .slice j.stages.a j.stages.n j.stages.k, .slice j.outputs.a j.outputs.n j.outputs.k, .int .i64 j.priority] 28 (0, 0))] :: H :: F) ∧ i ≤ j.stages.n ∧ s_106.put ((j.stages.l.take i).flatMap (fun x => nStage x.v)) = s' ∧ WrR b_7 s' fp' ∧ s'.bs.length ≤ 262144) (fun ⟨i, s', fp'⟩ => j.stages.n - i) (0, s_106, fp_103) ⟨⟨by kernel_rfl, by kernel_rfl, by kernel_rfl, by kernel_rfl, by kernel_rfl, trivial⟩, hS_111, Nat.zero_le _, rfl, hI_104, hb_105⟩ ?_
      skip
      rintro ⟨i, s', fp'⟩ ρ w_112 ⟨hA, hS_113, hi, hp, hI', hb'⟩
      refine cAnchor hA (fun ρ => ?_)
      clear hA
      refine seqE ?_
      refine regionE ?_
      refine p1 (by kernel_rfl) ?_
      refine nilO ?_
      refine thenK_n <| ?_
      refine seqE ?_
      by_cases hc_114 : (((i : Nat) : Int) : Int) < ((j.stages.n : Nat) : Int)
      · refine cT (decide ((((i : Nat) : Int) : Int) < ((j.stages.n : Nat) : Int))) (decide_eq_true hc_114) ?_
        refine skipE ?_
        refine thenK_n <| ?_
        refine seqE ?_
        refine blockE ?_
        refine seqE ?_
        refine regionE ?_
        refine sIdx hj.stages ((i : Nat) : Int) Try.runUnderlying26 Try.sizeOf61 ?_
        intro x_115 b_116 o_117 hx_118 hp_119
        rw [Int.toNat_natCast] at hx_118
        refine sLpA hS_113 (hp_119.up 2 rfl) 0 [.int .i64 x_115.kind, .int .i64 x_115.a, .int .i64 x_115.b, .bool x_115.barrier, .int .i64 x_115.edgePolicy, .int .i64 x_115.edgeFill, .int .i64 x_115.kW, .int .i64 x_115.kH, .slice x_115.weights.a x_115.weights.n x_115.weights.k, .slice x_115.row.a x_115.row.n x_115.row.k, .slice x_115.col.a x_115.col.n x_115.col.k, .int .i64 x_115.shift, .int .i64 x_115.shift2, .slice x_115.x.a x_115.x.n x_115.x.k, .slice x_115.y.a x_115.y.n x_115.y.k, .int .i64 x_115.bins, .slice x_115.ops.a x_115.ops.n x_115.ops.k, .int .i64 x_115.max_] (Try.isAgg61 _) (Try.sizeOf61 _) ?_
        refine sAlloc hS_113 Try.zeroValue61 ?_
        intro b_120 w_121 hS_122
        try dsimp only [List.set, List.eraseIdx] at hS_122
        refine sT hS_122 0 0 (.agg #[.int .i64 x_115.kind, .int .i64 x_115.a, .int .i64 x_115.b, .bool x_115.barrier, .int .i64 x_115.edgePolicy, .int .i64 x_115.edgeFill, .int .i64 x_115.kW, .int .i64 x_115.kH, .slice x_115.weights.a x_115.weights.n x_115.weights.k, .slice x_115.row.a x_115.row.n x_115.row.k, .slice x_115.col.a x_115.col.n x_115.col.k, .int .i64 x_115.shift, .int .i64 x_115.shift2, .slice x_115.x.a x_115.x.n x_115.x.k, .slice x_115.y.a x_115.y.n x_115.y.k, .int .i64 x_115.bins, .slice x_115.ops.a x_115.ops.n x_115.ops.k, .int .i64 x_115.max_]) [.int .i64 x_115.kind, .int .i64 x_115.a, .int .i64 x_115.b, .bool x_115.barrier, .int .i64 x_115.edgePolicy, .int .i64 x_115.edgeFill, .int .i64 x_115.kW, .int .i64 x_115.kH, .slice x_115.weights.a x_115.weights.n x_115.weights.k, .slice x_115.row.a x_115.row.n x_115.row.k, .slice x_115.col.a x_115.col.n x_115.col.k, .int .i64 x_115.shift, .int .i64 x_115.shift2, .slice x_115.x.a x_115.x.n x_115.x.k, .slice x_115.y.a x_115.y.n x_115.y.k, .int .i64 x_115.bins, .slice x_115.ops.a x_115.ops.n x_115.ops.k, .int .i64 x_115.max_] #[.int .i64 x_115.kind, .int .i64 x_115.a, .int .i64 x_115.b, .bool x_115.barrier, .int .i64 x_115.edgePolicy, .int .i64 x_115.edgeFill, .int .i64 x_115.kW, .int .i64 x_115.kH, .slice x_115.weights.a x_115.weights.n x_115.weights.k, .slice x_115.row.a x_115.row.n x_115.row.k, .slice x_115.col.a x_115.col.n x_115.col.k, .int .i64 x_115.shift, .int .i64 x_115.shift2, .slice x_115.x.a x_115.x.n x_115.x.k, .slice x_115.y.a x_115.y.n x_115.y.k, .int .i64 x_115.bins, .slice x_115.ops.a x_115.ops.n x_115.ops.k, .int .i64 x_115.max_] Try.sizeOf61 ?_
        intro w_123 hS_124
        try dsimp only [List.set, List.eraseIdx] at hS_124
        refine nilO ?_
        refine thenK_n <| ?_
        refine seqE ?_
        refine seqE ?_
        have hS_130 := hS_124.pick 1 rfl
        try dsimp only [List.set, List.eraseIdx] at hS_130
        obtain ⟨a_125, n_126, k_127, c_128, rfl, hO_129⟩ := hI'
        have hS_131 := hS_130.split
        try dsimp only [List.set, List.eraseIdx] at hS_131
        refine regionE ?_
        refine p3 (by kernel_rfl) ?_
        refine sL hS_131 0 1 (.bool s'.full) (Try.isAgg4 _) ?_
        refine nilO ?_
        refine thenK_n <| ?_
        rcases Classical.em (s'.full = true) with hc_132 | hc_132
        · refine cT s'.full hc_132 ?_
          refine exitE (thenK_x <| blockK_y rfl <| thenK_x <| thenK_x <| blockK_x <| ?_)
          refine thenK_n <| ?_
          have hS_133 := hS_131.pick 1 rfl
          have hS_134 := hS_133.pick 1 rfl
          try dsimp only [List.set, List.eraseIdx] at hS_134
          have hS_135 := hS_134.merge
          have hI_136 : WrR b_7 s' ([(b_7, .cells #[.slice a_125 n_126 k_127, .bool s'.full] 72 (0, 0))] ++ c_128) := ⟨_, _, _, _, rfl, hO_129⟩
          try dsimp only [List.set, List.eraseIdx] at hS_135
          have hS_137 := hS_135.pick 3 rfl
          have hS_138 := hS_137.pick 3 rfl
          have hS_139 := hS_138.pick 2 rfl
          try dsimp only [List.set, List.eraseIdx] at hS_139
          have hS_140 := hS_139.dropAt 3 rfl
          try dsimp only [List.set, List.eraseIdx] at hS_140
          have he := Wr.stopF hp hc_132
          exact ⟨([(b_7, .cells #[.slice a_125 n_126 k_127, .bool s'.full] 72 (0, 0))] ++ c_128), ⟨by kernel_rfl, by kernel_rfl, trivial⟩, hS_140, by rw [he]; exact hI_136, by rw [he]; exact hb'⟩
        · refine cF s'.full (Bool.eq_false_iff.2 hc_132) ?_
          refine skipE ?_
          refine thenK_n <| ?_
          refine regionE ?_
          refine p1 (by kernel_rfl) ?_
          refine sLA hS_131 2 0 [.int .i64 x_115.kind, .int .i64 x_115.a, .int .i64 x_115.b, .bool x_115.barrier, .int .i64 x_115.edgePolicy, .int .i64 x_115.edgeFill, .int .i64 x_115.kW, .int .i64 x_115.kH, .slice x_115.weights.a x_115.weights.n x_115.weights.k, .slice x_115.row.a x_115.row.n x_115.row.k, .slice x_115.col.a x_115.col.n x_115.col.k, .int .i64 x_115.shift, .int .i64 x_115.shift2, .slice x_115.x.a x_115.x.n x_115.x.k, .slice x_115.y.a x_115.y.n x_115.y.k, .int .i64 x_115.bins, .slice x_115.ops.a x_115.ops.n x_115.ops.k, .int .i64 x_115.max_] (Try.isAgg61 _) (Try.sizeOf61 _) ?_
          have hS_141 := hS_131.pick 1 rfl
          have hS_142 := hS_141.pick 1 rfl
          try dsimp only [List.set, List.eraseIdx] at hS_142
          have hS_143 := hS_142.merge
          have hI_144 : WrR b_7 s' ([(b_7, .cells #[.slice a_125 n_126 k_127, .bool s'.full] 72 (0, 0))] ++ c_128) := ⟨_, _, _, _, rfl, hO_129⟩
          try dsimp only [List.set, List.eraseIdx] at hS_143
          have hS_145 := hS_143.pick 3 rfl
          have hS_146 := hS_145.pick 1 rfl
          try dsimp only [List.set, List.eraseIdx] at hS_146
          refine sF #[.pointer (some ⟨b_7, 0, none⟩), .agg #[.int .i64 x_115.kind, .int .i64 x_115.a, .int .i64 x_115.b, .bool x_115.barrier, .int .i64 x_115.edgePolicy, .int .i64 x_115.edgeFill, .int .i64 x_115.kW, .int .i64 x_115.kH, .slice x_115.weights.a x_115.weights.n x_115.weights.k, .slice x_115.row.a x_115.row.n x_115.row.k, .slice x_115.col.a x_115.col.n x_115.col.k, .int .i64 x_115.shift, .int .i64 x_115.shift2, .slice x_115.x.a x_115.x.n x_115.x.k, .slice x_115.y.a x_115.y.n x_115.y.k, .int .i64 x_115.bins, .slice x_115.ops.a x_115.ops.n x_115.ops.k, .int .i64 x_115.max_]] Try.call31 (Calls.mono (wr_stage W _ _ _ _ _ _ hI_144 hb' hS_146 x_115 (hj.stagesD x_115 (List.mem_of_getElem? hx_118))) ?_)
          rintro _ w_147 ⟨rfl, fp_149, hI_150, hS_148⟩
          refine ⟨_, rfl, ?_⟩
          have hb_151 := Wr.len_le hb' (nStage x_115.v)
          generalize es_153 : s'.put (nStage x_115.v) = s_152 at hI_150 hb_151
          try dsimp only [List.set, List.eraseIdx] at hS_148
          refine nilO ?_
          refine blockK_n <| thenK_n <| ?_
          refine regionE ?_
          refine sAdd ((i : Nat) : Int) 1 ?_
          refine p1 (by kernel_rfl) ?_
          refine nilO ?_
          refine thenK_n <| ?_
          have hS_154 := hS_148.pick 1 rfl
          have hS_155 := hS_154.pick 3 rfl
          have hS_156 := hS_155.pick 2 rfl
          try dsimp only [List.set, List.eraseIdx] at hS_156
          have hS_157 := hS_156.dropAt 3 rfl
          try dsimp only [List.set, List.eraseIdx] at hS_157
          have hst : s_152 = s'.put ((fun x => nStage x.v) x_115) := by subst es_153; rfl
          exact ⟨(i + 1, s_152, fp_149), by dsimp only; omega, ⟨by kernel_rfl, by kernel_rfl, by kernel_rfl, by kernel_rfl, by kernel_rfl, trivial⟩, hS_157, by omega, (Wr.stepF hp hx_118).trans hst.symm, hI_150, hb_151⟩
      · refine cF (decide ((((i : Nat) : Int) : Int) < ((j.stages.n : Nat) : Int))) (decide_eq_false hc_114) ?_
        refine exitE (thenK_x <| thenK_x <| blockK_x <| ?_)
        refine thenK_n <| ?_
        have hS_158 := hS_113.pick 2 rfl
        have hS_159 := hS_158.pick 2 rfl
        have hS_160 := hS_159.pick 2 rfl
        try dsimp only [List.set, List.eraseIdx] at hS_160
        try dsimp only [List.set, List.eraseIdx] at hS_160
        have he := Wr.allF hp (by omega)
        exact ⟨fp', ⟨by kernel_rfl, by kernel_rfl, trivial⟩, hS_160, by rw [he]; exact hI', by rw [he]; exact hb'⟩
    · rintro ρ w_161 ⟨fp1, hA, hS_162, hI1, hb1⟩
      refine cAnchor hA (fun ρ => ?_)
      clear hA
      refine seqE ?_
      refine regionE ?_
      refine p2 (by kernel_rfl) ?_
      refine sL hS_162 1 2 (.slice j.outputs.a j.outputs.n j.outputs.k) (Try.isAgg22 _) ?_
      have hS_163 := hS_162.pick 2 rfl
      have hS_164 := hS_163.pick 1 rfl
      try dsimp only [List.set, List.eraseIdx] at hS_164
      refine sF #[.pointer (some ⟨b_7, 0, none⟩), .slice j.outputs.a j.outputs.n j.outputs.k] Try.call30 (Calls.mono (wr_numbers W _ _ _ _ _ _ hI1 hb1 hS_164 _ _ _ _ hj.outputs) ?_)
      rintro _ w_165 ⟨rfl, fp_167, hI_168, hS_166⟩
      refine ⟨_, rfl, ?_⟩
      have hb_169 := Wr.len_le hb1 (nInts j.outputs.l)
      generalize es_171 : (s_106.put (j.stages.l.flatMap (fun x => nStage x.v))).put (nInts j.outputs.l) = s_170 at hI_168 hb_169
      try dsimp only [List.set, List.eraseIdx] at hS_166
      refine nilO ?_
      refine thenK_n <| ?_
      refine seqE ?_
      refine seqE ?_
      try dsimp only [List.set, List.eraseIdx] at hS_166
      obtain ⟨a_172, n_173, k_174, c_175, rfl, hO_176⟩ := hI_168
      have hS_177 := hS_166.split
      try dsimp only [List.set, List.eraseIdx] at hS_177
      refine regionE ?_
      refine p3 (by kernel_rfl) ?_
      refine sL hS_177 0 1 (.bool s_170.full) (Try.isAgg4 _) ?_
      refine nilO ?_
      refine thenK_n <| ?_
      rcases Classical.em (s_170.full = true) with hc_178 | hc_178
      · refine cT s_170.full hc_178 ?_
        refine seqE ?_
        refine regionE ?_
        refine p2 (by kernel_rfl) ?_
        refine nilO ?_
        refine thenK_n <| ?_
        refine retE (thenK_r <| ?_)
        refine retN (vs := [.slice none 0 0, .int .i64 5]) rfl (.cons (.tmp _ _ (by kernel_rfl)) (.cons (.tmp _ _ (by kernel_rfl)) .nil)) <| ?_
        have htot : (⟨[84, 70, 1], false⟩ : Wr).put (nJob j.v) = s_170 := by subst es_171; subst es_107; subst es_27; simp only [nJob, Job.v, nInts, Wr.put_app, List.length_map, List.flatMap_map, hl_inputs, hl_stages]; rfl
        have hq := Wr.put_eq (nJob j.v) [84, 70, 1]
        rw [htot] at hq
        have hlen : 2 ≤ (nJob j.v).length := by simp [nJob]
        have hne : nJob j.v ≠ [] := by intro h; rw [h] at hlen; simp at hlen
        have hnot : ¬ (([84, 70, 1] : List Int).length + 8 * (nJob j.v).length ≤ 262144) := by
          intro hle
          rw [if_pos (Or.inl hle)] at hq
          rw [hq] at hc_178
          cases hc_178
        have hS_179 := hS_177.pick 1 rfl
        have hS_180 := hS_179.pick 1 rfl
        try dsimp only [List.set, List.eraseIdx] at hS_180
        have hS_181 := hS_180.merge
        have hI_182 : WrR b_7 s_170 ([(b_7, .cells #[.slice a_172 n_173 k_174, .bool s_170.full] 72 (0, 0))] ++ c_175) := ⟨_, _, _, _, rfl, hO_176⟩
        try dsimp only [List.set, List.eraseIdx] at hS_181
        have hS_183 := hS_181.pick 1 rfl
        try dsimp only [List.set, List.eraseIdx] at hS_183
        have hS_184 := hS_183.dropAt 1 rfl
        have hS_185 := hS_184.dropAt 1 rfl
        change Sat _ _ (H :: F) at hS_185
        refine .inr ⟨by simp only [List.length_cons, List.length_nil] at hnot; omega, rfl, hS_185⟩
      · refine cF s_170.full (Bool.eq_false_iff.2 hc_178) ?_
        refine skipE ?_
        refine thenK_n <| ?_
        refine seqE ?_
        refine regionE ?_
        refine p3 (by kernel_rfl) ?_
        refine sL hS_177 0 0 (.slice a_172 n_173 k_174) (Try.isAgg31 _) ?_
        refine p2 (by kernel_rfl) ?_
        refine nilO ?_
        refine thenK_n <| ?_
        refine retE ?_
        refine retN (vs := [.slice a_172 n_173 k_174, .int .i64 0]) rfl (.cons (.tmp _ _ (by kernel_rfl)) (.cons (.tmp _ _ (by kernel_rfl)) .nil)) <| ?_
        have htot : (⟨[84, 70, 1], false⟩ : Wr).put (nJob j.v) = s_170 := by subst es_171; subst es_107; subst es_27; simp only [nJob, Job.v, nInts, Wr.put_app, List.length_map, List.flatMap_map, hl_inputs, hl_stages]; rfl
        have hq := Wr.put_eq (nJob j.v) [84, 70, 1]
        rw [htot] at hq
        have hlen : 2 ≤ (nJob j.v).length := by simp [nJob]
        have hne : nJob j.v ≠ [] := by intro h; rw [h] at hlen; simp at hlen
        have hle : ([84, 70, 1] : List Int).length + 8 * (nJob j.v).length ≤ 262144 := by
          apply Classical.byContradiction
          intro hn
          rw [if_neg (by intro h; rcases h with h | h; exact hn h; exact hne h)] at hq
          rw [hq] at hc_178
          exact hc_178 rfl
        rw [if_pos (Or.inl hle)] at hq
        have hS_186 := hS_177.pick 2 rfl
        have hS_187 := hS_186.pick 2 rfl
        try dsimp only [List.set, List.eraseIdx] at hS_187
        have hS_188 := hS_187.dropAt 2 rfl
        have hS_189 := hS_188.dropAt 2 rfl
        change Sat _ _ (c_175 :: H :: F) at hS_189
        have hO2 := hO_176
        rw [hq] at hO2
        refine .inl ⟨by simp only [List.length_cons, List.length_nil] at hle; omega, _, _, _, _, rfl, hO2, hS_189⟩
end Go.Proofs.Ytcddcpaodcjecaa
