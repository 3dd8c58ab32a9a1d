import Derived.Test.YtimkhljglpookaaGreatAu3
namespace Go.Proofs.YtimkhljglpookaaGreat
open Go Go.E
set_option linter.unusedVariables false
set_option linter.unusedSimpArgs false
set_option linter.unnecessarySimpa false
set_option maxRecDepth 100000
set_option maxHeartbeats 2000000
variable {W w : World} {H : Chunk} {F : List Chunk}
theorem au_check (c : Cfg) (ao : Option Addr) (no ko : Nat) (o : List TL) (al : Option Addr) (nl kl : Nat) (l : List Evt) (ho : RdT encTL 1 [H] ao no ko o) (do_ : ∀ z ∈ o, TL.Ok [H] z) (hl : RdT encEvt 7 [H] al nl kl l) (ho12 : ∀ z ∈ o, z.l.l.length ≤ 12) (hlb : l.length ≤ 100000) (hS : Sat W w (H :: F)) :
    Ro Tryz.prog 13 #[.agg (encCfg c).toArray, .slice ao no ko, .slice al nl kl] (.tuple #[.int .i64 ((checkM o c l).1), .bool ((checkM o c l).2)]) W w (H :: F) := by
  have hl_o := ho.le; have hn_o := ho.len
  have hl_l := hl.le; have hn_l := hl.len
  refine callsA 39 Tryz.func13 rfl ?_
  refine seqE <| regionE ?_
  refine sBox hS (.agg (encCfg c).toArray) (encCfg c).toArray ?_
  intro b_1 w_2 hS_3
  refine pu2 <| nilO <| thenK_n <| seqE <| seqE <| regionE ?_
  refine lA hS_3 0 0 8 (Tryz.isAgg24 _) (Tryz.sizeOf24 _) ?_
  refine cR Tryz.call28 (ad_valid c (Sat.flat hS_3)) ?_
  intro w_4 hS_5
  refine pu1 <| nilO <| thenK_n <| ?_
  refine cN (validCfg c) 0 (fun hc_7 => ?_) (fun hc_7 => ?_)
  rotate_left
  · refine seqE <| regionE <| pu2 <| nilO <| thenK_n <| retE <| thenK_r <| retT [.int .i64 0, .bool false] <| ?_
    have hS_43 := (hS_5.dropAt 0 rfl)
    have he_ : checkM o c l = (0, false) := by unfold checkM; rw [if_neg hc_7]
    rw [he_]; exact ⟨rfl, hS_43⟩
  refine skipE <| thenK_n <| seqE ?_
  have hvalid : validCfg c = 0 := hc_7; have hvz := validCfg_zero hvalid
  refine regionE <| pu2 ?_
  refine sL hS_5 0 0 (.int .i64 c.workers) (Tryz.isAgg3 _) ?_
  refine sMake (kl := .i64) (kc := .i64) (enc := encWk) (sz := 5) (nb := 40) hS_5 ⟨0, 0, 0, 0, 0⟩ (c.workers).toNat c.workers ((by omega) : c.workers = (((c.workers).toNat : Nat) : Int)) Tryz.underlying71 (i := Tryz.t120) (by kernel_rfl) (fun _ => rfl) ?_
  intro b_8 c_9 w_11 hO_10 hS_12
  refine pu1 ?_
  refine sBox hS_12 (.agg #[.slice ao no ko, .slice (some ⟨b_8, 0, none⟩) ((c.workers).toNat) ((c.workers).toNat), .slice none 0 0, .int .i64 0]) #[.slice ao no ko, .slice (some ⟨b_8, 0, none⟩) ((c.workers).toNat) ((c.workers).toNat), .slice none 0 0, .int .i64 0] ?_
  intro b_13 w_14 hS_15
  refine pu1 <| nilO <| thenK_n <| seqE <| seqE <| regionE <| pu3 <| nilO <| thenK_n <| blockE ?_
  have hS_16 : Sat W _ (([(b_13, .cells #[.slice ao no ko, .slice (some ⟨b_8, 0, none⟩) ((c.workers).toNat) ((c.workers).toNat), .slice none 0 0, .int .i64 0] 74 (0, 0))] ++ (c_9 ++ (([] : Chunk) ++ ([] : List Chunk).flatten))) :: [(b_1, .cells (encCfg c).toArray 24 (0, 0))] :: H :: F) := Sat.perm (show Sat W _ ([(b_13, .cells #[.slice ao no ko, .slice (some ⟨b_8, 0, none⟩) ((c.workers).toNat) ((c.workers).toNat), .slice none 0 0, .int .i64 0] 74 (0, 0))] :: c_9 :: [(b_1, .cells (encCfg c).toArray 24 (0, 0))] :: H :: F) from hS_15) (by simp)
  refine loopA (γ := Nat × MS × Chunk) (fun ⟨i, m, M⟩ => [(2, .slice al nl kl), (8, .pointer (some ⟨b_13, 0, none⟩)), (20, .slice al nl kl), (21, .int .i64 ((nl : Nat) : Int)), (22, .int .i64 ((i : Nat) : Int))]) (fun ⟨i, m, M⟩ w => Sat W w (M :: [(b_1, .cells (encCfg c).toArray 24 (0, 0))] :: H :: F) ∧ i ≤ nl ∧ MachR b_13 b_8 0 H o m M ∧ MW m ((i : Nat) : Int) ∧ checkM o c l = runM o m (l.drop i) i) (fun ⟨i, m, M⟩ => nl - i) (0, (startM c), ([(b_13, .cells #[.slice ao no ko, .slice (some ⟨b_8, 0, none⟩) ((c.workers).toNat) ((c.workers).toNat), .slice none 0 0, .int .i64 0] 74 (0, 0))] ++ (c_9 ++ (([] : Chunk) ++ ([] : List Chunk).flatten)))) ⟨hS_16, by omega, ⟨_, none, _, _, _, _, 0, 0, [], _, [], [], rfl, hO_10, OwnT.nil (fun _ => rfl), Obs.nil _, ho, do_⟩, (startM_ok c), (by unfold checkM; rw [if_pos hvalid]; rfl)⟩ ?_
  rintro ⟨i, m, M⟩ ρ w_17 ⟨hS_18, hi, hM, hMW, hrun⟩
  refine seqE <| regionE <| pu1 <| nilO <| thenK_n <| seqE ?_
  refine cD (((i : Nat) : Int) < ((nl : Nat) : Int)) (fun hc_19 => ?_) (fun hc_19 => ?_)
  rotate_left
  · refine exitE <| thenK_x <| thenK_x <| blockK_x <| thenK_n <| seqE <| regionE <| pu4 <| nilO <| thenK_n <| retE <| retT [.int .i64 ((nl : Nat) : Int), .bool true] <| ?_
    have hS_42 := ((hS_18.dropAt 0 rfl).dropAt 0 rfl)
    obtain rfl : i = nl := by omega
    have he_ : checkM o c l = (((i : Nat) : Int), true) := hrun.trans (by rw [List.drop_of_length_le (by omega)]; rfl)
    rw [he_]; exact ⟨rfl, hS_42⟩
  refine skipE <| thenK_n <| seqE <| blockE <| seqE <| regionE <| pu1 ?_
  refine sIdx hl ((i : Nat) : Int) Tryz.runUnderlying26 Tryz.sizeOf43 ?_
  intro x_20 b_21 o_22 hx_23 hp_24
  rw [Int.toNat_natCast] at hx_23
  refine sLpA hS_18 (hp_24.up 2 rfl) 0 (encEvt x_20) (Tryz.isAgg43 _) (Tryz.sizeOf43 _) ?_
  refine sAlloc hS_18 Tryz.zeroValue43 ?_
  intro b_25 w_26 hS_27
  refine pu1 ?_
  refine sT hS_27 0 0 (.agg (encEvt x_20).toArray) (encEvt x_20) (encEvt x_20).toArray Tryz.sizeOf43 ?_
  intro w_28 hS_29
  refine nilO <| thenK_n <| seqE ?_
  refine drawE [6] [(1, ⟨b_25, 0, none⟩, .int .i64 x_20.kind), (1, ⟨b_25, 1, none⟩, .int .i64 x_20.worker), (1, ⟨b_25, 2, none⟩, .int .i64 x_20.from_), (1, ⟨b_25, 3, none⟩, .int .i64 x_20.job), (1, ⟨b_25, 4, none⟩, .int .i64 x_20.refJob), (1, ⟨b_25, 5, none⟩, .int .i64 x_20.refTask), (1, ⟨b_25, 6, none⟩, .int .i64 x_20.err)] [(true, [0, 2, 3]), (true, [4]), (true, [5]), (true, [1]), (false, [6]), (true, [7])] rfl (by kernel_rfl) ⟨.inr (hS_29.cell 0 rfl rfl), .inr (hS_29.cell 0 rfl rfl), .inr (hS_29.cell 0 rfl rfl), .inr (hS_29.cell 0 rfl rfl), .inr (hS_29.cell 0 rfl rfl), .inr (hS_29.cell 0 rfl rfl), .inr (hS_29.cell 0 rfl rfl), trivial⟩ ?_
  have hS_30 := hS_29.drew
  refine wU [0, 2, 3] ?_
  refine wAdd ((i : Nat) : Int) 1 ?_
  have hP_31 := hl.part (lo := ((((i : Nat) : Int) + 1)).toNat) (hi := nl) (by omega) (by omega)
  refine wY (.slice (partAddr al kl (((((i : Nat) : Int) + 1)).toNat) 7) (nl - (((((i : Nat) : Int) + 1)).toNat)) (kl - (((((i : Nat) : Int) + 1)).toNat))) rfl (fun w _ => Y_sl (a := al) (len := nl) (cap := kl) (some (((i : Nat) : Int) + 1)) none (((((i : Nat) : Int) + 1)).toNat) nl Tryz.runUnderlying26 Tryz.sizeOf43 ⟨by omega, by omega⟩ rfl (by omega) (by omega)) ?_
  refine wY (.agg (encEvt x_20).toArray) rfl (fun w hF => Y_loadF rfl (Tryz.isAgg43 w) (Tryz.sizeOf43 w) (by kernel_rfl) rfl ⟨hF 0 _ _ rfl, hF 1 _ _ rfl, hF 2 _ _ rfl, hF 3 _ _ rfl, hF 4 _ _ rfl, hF 5 _ _ rfl, hF 6 _ _ rfl, trivial⟩) ?_
  refine wO rfl ?_
  have hS_32 := ((hS_30.pick 3 rfl).pick 2 rfl)
  have hL_39 : ((l.drop (((((i : Nat) : Int) + 1)).toNat)).take (nl - (((((i : Nat) : Int) + 1)).toNat))) = l.drop (i + 1) := by rw [List.take_of_length_le (by rw [List.length_drop]; omega)]; congr 1 <;> omega
  have hP_ := hP_31; rw [hL_39] at hP_
  refine cX Tryz.call29 (am_event hM hMW x_20 _ _ _ _ hP_ hS_32) ?_
  rintro _ w_33 (⟨he_37, rfl, hS_34⟩ | ⟨m_35, M_36, he_37, rfl, hM_38, hS_34⟩)
  · refine nilO ⟨⟨.inl (by kernel_rfl), .inl (by kernel_rfl), .inl (by kernel_rfl), .inl (by kernel_rfl), .inl (by kernel_rfl), .inl (by kernel_rfl), .inl (by kernel_rfl), trivial⟩, ?_⟩
    refine wU [7] ?_
    refine wN ?_
    refine thenK_n <| cTt <| seqE <| regionE <| pu3 <| nilO <| thenK_n <| retE <| blockK_r <| thenK_r <| thenK_r <| blockK_r <| thenK_r <| retT [.int .i64 ((i : Nat) : Int), .bool false] <| ?_
    have hS_40 := ((hS_34.dropAt 1 rfl).dropAt 1 rfl)
    have he_ : checkM o c l = (((i : Nat) : Int), false) := hrun.trans (run_no hx_23 he_37)
    rw [he_]; exact ⟨rfl, hS_40⟩
  refine nilO ⟨⟨.inl (by kernel_rfl), .inl (by kernel_rfl), .inl (by kernel_rfl), .inl (by kernel_rfl), .inl (by kernel_rfl), .inl (by kernel_rfl), .inl (by kernel_rfl), trivial⟩, ?_⟩
  refine wU [7] ?_
  refine wN ?_
  refine thenK_n <| cFf <| skipE <| blockK_n <| thenK_n <| regionE ?_
  refine sAdd ((i : Nat) : Int) 1 ?_
  refine pu1 <| nilO <| thenK_n <| ?_
  have hS_41 := (((hS_34.pick 3 rfl).pick 1 rfl).dropAt 3 rfl)
  exact ⟨(i + 1, m_35, M_36), by first | omega | (dsimp only; omega), alA, hS_41, by omega, hM_38, (event_ok hMW (by omega) ho12 he_37).1, (hrun.trans (run_yes hx_23 he_37))⟩
def count1 (s : Stt) (e : Evt) : Stt :=
  if e.kind = 3 ∨ e.kind = 4 then { s with starts := s.starts + 1 } else if e.kind = 5 then { s with starts := s.starts + 1, steals := s.steals + 1 }
  else if e.kind = 8 then { s with commits := s.commits + 1 } else if e.kind = 9 then { s with drops := s.drops + 1 }
  else if e.kind = 10 then { s with crashes := s.crashes + 1 } else if e.kind = 12 then { s with helps := s.helps + 1 } else s
def countE (l : List Evt) : Stt := l.foldl count1 ⟨0, 0, 0, 0, 0, 0, 0, 0, 0, 0⟩
theorem count_take {l : List Evt} {i : Nat} {e : Evt} (h : l[i]? = some e) : countE (l.take (i + 1)) = count1 (countE (l.take i)) e := by
  unfold countE; rw [take_succ_at h, List.foldl_append]; rfl
def CntOk (s : Stt) (n : Nat) : Prop := (0 ≤ s.starts ∧ s.starts ≤ n) ∧ (0 ≤ s.commits ∧ s.commits ≤ n) ∧ (0 ≤ s.drops ∧ s.drops ≤ n) ∧ (0 ≤ s.crashes ∧ s.crashes ≤ n) ∧ (0 ≤ s.steals ∧ s.steals ≤ n) ∧ (0 ≤ s.helps ∧ s.helps ≤ n)
theorem CntOk.step {s : Stt} {n : Nat} {e : Evt} (h : CntOk s n) : CntOk (count1 s e) (n + 1) := by
  unfold CntOk at *
  unfold count1
  split
  · dsimp only; omega
  · split
    · dsimp only; omega
    · split
      · dsimp only; omega
      · split
        · dsimp only; omega
        · split
          · dsimp only; omega
          · split
            · dsimp only; omega
            · omega
theorem count_ok {l : List Evt} : ∀ {i : Nat}, CntOk (countE (l.take i)) i
  | 0 => by unfold CntOk countE; simp
  | i + 1 => by
    by_cases h : i < l.length
    · rw [count_take (List.getElem?_eq_getElem h)]; exact count_ok.step
    · rw [List.take_of_length_le (by omega)]
      have := count_ok (l := l) (i := i)
      rw [List.take_of_length_le (by omega)] at this
      unfold CntOk at *; omega
theorem au_count (al : Option Addr) (nl kl : Nat) (l : List Evt) (hl : RdT encEvt 7 [H] al nl kl l) (hlb : l.length ≤ 100000) (hS : Sat W w (H :: F)) :
    Ro Tryz.prog 14 #[.slice al nl kl] (.agg #[.int .i64 ((countE l).starts), .int .i64 ((countE l).commits), .int .i64 ((countE l).drops), .int .i64 ((countE l).crashes), .int .i64 ((countE l).steals), .int .i64 ((countE l).helps), .int .i64 ((countE l).spills), .int .i64 ((countE l).queued), .int .i64 ((countE l).held), .int .i64 ((countE l).cells)]) W w (H :: F) := by
  have hl_l := hl.le; have hn_l := hl.len
  refine callsA 57 Tryz.func14 rfl ?_
  refine seqE <| regionE ?_
  refine sAlloc hS Tryz.zeroValue51 ?_
  intro b_1 w_2 hS_3
  refine nilO <| thenK_n <| seqE <| regionE ?_
  refine sAlloc hS_3 Tryz.zeroValue51 ?_
  intro b_4 w_5 hS_6
  refine nilO <| thenK_n <| seqE <| seqE <| regionE <| pu3 <| nilO <| thenK_n <| blockE ?_
  refine loopA (γ := Nat × Stt) (fun ⟨i, s⟩ => [(2, .pointer (some ⟨b_1, 0, none⟩)), (3, .pointer (some ⟨b_4, 0, none⟩)), (6, .slice al nl kl), (7, .int .i64 ((nl : Nat) : Int)), (8, .int .i64 ((i : Nat) : Int))]) (fun ⟨i, s⟩ w => Sat W w ([(b_4, .cells (encStt s).toArray 51 (0, 0))] :: [(b_1, .cells #[.int .i64 0, .int .i64 0, .int .i64 0, .int .i64 0, .int .i64 0, .int .i64 0, .int .i64 0, .int .i64 0, .int .i64 0, .int .i64 0] 51 (0, 0))] :: H :: F) ∧ i ≤ nl ∧ s = countE (l.take i) ∧ CntOk s i) (fun ⟨i, s⟩ => nl - i) (0, ⟨0, 0, 0, 0, 0, 0, 0, 0, 0, 0⟩) ⟨hS_6, by omega, rfl, (by unfold CntOk; simp)⟩ ?_
  rintro ⟨i, s⟩ ρ w_7 ⟨hS_8, hi, hs, hok⟩
  unfold CntOk at hok
  refine seqE <| regionE <| pu1 <| nilO <| thenK_n <| seqE ?_
  refine cD (((i : Nat) : Int) < ((nl : Nat) : Int)) (fun hc_9 => ?_) (fun hc_9 => ?_)
  rotate_left
  · refine exitE <| thenK_x <| thenK_x <| blockK_x <| thenK_n <| seqE <| regionE ?_
    refine lA hS_8 0 0 10 (Tryz.isAgg51 _) (Tryz.sizeOf51 _) ?_
    refine sT hS_8 1 0 (.agg (encStt s).toArray) (encStt s) (encStt s).toArray Tryz.sizeOf51 ?_
    intro w_51 hS_52
    refine nilO <| thenK_n <| retE <| retN (vs := [.agg (encStt s).toArray]) rfl (.cons (.cell _ _ _ _ (by kernel_rfl) (lvA hS_52 1 0 (encStt s) (Tryz.isAgg51 _) (Tryz.sizeOf51 _) rfl rfl rfl)) .nil) <| ?_
    have hS_53 := ((hS_52.dropAt 0 rfl).dropAt 0 rfl)
    rw [List.take_of_length_le (by omega)] at hs; subst hs
    exact ⟨rfl, hS_53⟩
  refine skipE <| thenK_n <| seqE <| blockE <| seqE <| regionE ?_
  refine sIdx hl ((i : Nat) : Int) Tryz.runUnderlying26 Tryz.sizeOf43 ?_
  intro x_10 b_11 o_12 hx_13 hp_14
  rw [Int.toNat_natCast] at hx_13
  refine sLpA hS_8 (hp_14.up 2 rfl) 0 (encEvt x_10) (Tryz.isAgg43 _) (Tryz.sizeOf43 _) ?_
  refine sAlloc hS_8 Tryz.zeroValue43 ?_
  intro b_15 w_16 hS_17
  refine sT hS_17 0 0 (.agg (encEvt x_10).toArray) (encEvt x_10) (encEvt x_10).toArray Tryz.sizeOf43 ?_
  intro w_18 hS_19
  refine nilO <| thenK_n <| seqE <| regionE <| pu1 ?_
  refine sL hS_19 0 0 (.int .i64 x_10.kind) (Tryz.isAgg3 _) ?_
  refine nilO <| thenK_n <| blockE <| seqE <| seqE <| regionE <| pu2 <| nilO <| thenK_n <| ?_
  refine cE x_10.kind 3 (fun hc_20 => ?_) (fun hc_20 => ?_)
  · refine skipE <| thenK_n <| ?_
    refine cT _ (beq_iff_eq.2 hc_20) ?_
    refine regionE <| pu1 ?_
    refine sL hS_19 1 0 (.int .i64 s.starts) (Tryz.isAgg3 _) ?_
    refine sAdd s.starts 1 ?_
    refine pu1 ?_
    refine tW hS_19 1 0 (.int .i64 (s.starts + 1)) Tryz.sizeOf3 ?_
    intro w_21 hS_22
    refine nilO <| blockK_n <| blockK_n <| thenK_n <| regionE ?_
    refine sAdd ((i : Nat) : Int) 1 ?_
    refine pu1 <| nilO <| thenK_n <| ?_
    have hS_23 := (hS_22.dropAt 0 rfl)
    have hc1_ : countE (l.take (i + 1)) = (⟨(s.starts + 1), s.commits, s.drops, s.crashes, s.steals, s.helps, s.spills, s.queued, s.held, s.cells⟩ : Stt) := by rw [count_take hx_13, ← hs]; unfold count1; rw [if_pos (by omega)]
    exact ⟨(i + 1, (⟨(s.starts + 1), s.commits, s.drops, s.crashes, s.steals, s.helps, s.spills, s.queued, s.held, s.cells⟩ : Stt)), by first | omega | (dsimp only; omega), alA, hS_23, by omega, hc1_.symm, (by rw [← hc1_]; exact count_ok)⟩
  refine regionE <| pu2 <| nilO <| thenK_n <| ?_
  refine cE x_10.kind 4 (fun hc_24 => ?_) (fun hc_24 => ?_)
  · refine regionE <| pu1 ?_
    refine sL hS_19 1 0 (.int .i64 s.starts) (Tryz.isAgg3 _) ?_
    refine sAdd s.starts 1 ?_
    refine pu1 ?_
    refine tW hS_19 1 0 (.int .i64 (s.starts + 1)) Tryz.sizeOf3 ?_
    intro w_25 hS_26
    refine nilO <| blockK_n <| blockK_n <| thenK_n <| regionE ?_
    refine sAdd ((i : Nat) : Int) 1 ?_
    refine pu1 <| nilO <| thenK_n <| ?_
    have hS_27 := (hS_26.dropAt 0 rfl)
    have hc1_ : countE (l.take (i + 1)) = (⟨(s.starts + 1), s.commits, s.drops, s.crashes, s.steals, s.helps, s.spills, s.queued, s.held, s.cells⟩ : Stt) := by rw [count_take hx_13, ← hs]; unfold count1; rw [if_pos (by omega)]
    exact ⟨(i + 1, (⟨(s.starts + 1), s.commits, s.drops, s.crashes, s.steals, s.helps, s.spills, s.queued, s.held, s.cells⟩ : Stt)), by first | omega | (dsimp only; omega), alA, hS_27, by omega, hc1_.symm, (by rw [← hc1_]; exact count_ok)⟩
  refine seqE <| regionE <| pu2 <| nilO <| thenK_n <| ?_
  refine cE x_10.kind 5 (fun hc_28 => ?_) (fun hc_28 => ?_)
  · refine seqE <| regionE <| pu1 ?_
    refine sL hS_19 1 0 (.int .i64 s.starts) (Tryz.isAgg3 _) ?_
    refine sAdd s.starts 1 ?_
    refine pu1 ?_
    refine tW hS_19 1 0 (.int .i64 (s.starts + 1)) Tryz.sizeOf3 ?_
    intro w_29 hS_30
    refine nilO <| thenK_n <| regionE <| pu1 ?_
    refine sL hS_30 1 4 (.int .i64 s.steals) (Tryz.isAgg3 _) ?_
    refine sAdd s.steals 1 ?_
    refine pu1 ?_
    refine tW hS_30 1 4 (.int .i64 (s.steals + 1)) Tryz.sizeOf3 ?_
    intro w_31 hS_32
    refine nilO <| blockK_n <| blockK_n <| thenK_n <| regionE ?_
    refine sAdd ((i : Nat) : Int) 1 ?_
    refine pu1 <| nilO <| thenK_n <| ?_
    have hS_33 := (hS_32.dropAt 0 rfl)
    have hc1_ : countE (l.take (i + 1)) = (⟨(s.starts + 1), s.commits, s.drops, s.crashes, (s.steals + 1), s.helps, s.spills, s.queued, s.held, s.cells⟩ : Stt) := by rw [count_take hx_13, ← hs]; unfold count1; rw [if_neg (by omega), if_pos (by omega)]
    exact ⟨(i + 1, (⟨(s.starts + 1), s.commits, s.drops, s.crashes, (s.steals + 1), s.helps, s.spills, s.queued, s.held, s.cells⟩ : Stt)), by first | omega | (dsimp only; omega), alA, hS_33, by omega, hc1_.symm, (by rw [← hc1_]; exact count_ok)⟩
  refine seqE <| regionE <| pu2 <| nilO <| thenK_n <| ?_
  refine cE x_10.kind 8 (fun hc_34 => ?_) (fun hc_34 => ?_)
  · refine regionE <| pu1 ?_
    refine sL hS_19 1 1 (.int .i64 s.commits) (Tryz.isAgg3 _) ?_
    refine sAdd s.commits 1 ?_
    refine pu1 ?_
    refine tW hS_19 1 1 (.int .i64 (s.commits + 1)) Tryz.sizeOf3 ?_
    intro w_35 hS_36
    refine nilO <| blockK_n <| blockK_n <| thenK_n <| regionE ?_
    refine sAdd ((i : Nat) : Int) 1 ?_
    refine pu1 <| nilO <| thenK_n <| ?_
    have hS_37 := (hS_36.dropAt 0 rfl)
    have hc1_ : countE (l.take (i + 1)) = (⟨s.starts, (s.commits + 1), s.drops, s.crashes, s.steals, s.helps, s.spills, s.queued, s.held, s.cells⟩ : Stt) := by rw [count_take hx_13, ← hs]; unfold count1; rw [if_neg (by omega), if_neg (by omega), if_pos (by omega)]
    exact ⟨(i + 1, (⟨s.starts, (s.commits + 1), s.drops, s.crashes, s.steals, s.helps, s.spills, s.queued, s.held, s.cells⟩ : Stt)), by first | omega | (dsimp only; omega), alA, hS_37, by omega, hc1_.symm, (by rw [← hc1_]; exact count_ok)⟩
  refine seqE <| regionE <| pu2 <| nilO <| thenK_n <| ?_
  refine cE x_10.kind 9 (fun hc_38 => ?_) (fun hc_38 => ?_)
  · refine regionE <| pu1 ?_
    refine sL hS_19 1 2 (.int .i64 s.drops) (Tryz.isAgg3 _) ?_
    refine sAdd s.drops 1 ?_
    refine pu1 ?_
    refine tW hS_19 1 2 (.int .i64 (s.drops + 1)) Tryz.sizeOf3 ?_
    intro w_39 hS_40
    refine nilO <| blockK_n <| blockK_n <| thenK_n <| regionE ?_
    refine sAdd ((i : Nat) : Int) 1 ?_
    refine pu1 <| nilO <| thenK_n <| ?_
    have hS_41 := (hS_40.dropAt 0 rfl)
    have hc1_ : countE (l.take (i + 1)) = (⟨s.starts, s.commits, (s.drops + 1), s.crashes, s.steals, s.helps, s.spills, s.queued, s.held, s.cells⟩ : Stt) := by rw [count_take hx_13, ← hs]; unfold count1; rw [if_neg (by omega), if_neg (by omega), if_neg (by omega), if_pos (by omega)]
    exact ⟨(i + 1, (⟨s.starts, s.commits, (s.drops + 1), s.crashes, s.steals, s.helps, s.spills, s.queued, s.held, s.cells⟩ : Stt)), by first | omega | (dsimp only; omega), alA, hS_41, by omega, hc1_.symm, (by rw [← hc1_]; exact count_ok)⟩
  refine seqE <| regionE <| pu2 <| nilO <| thenK_n <| ?_
  refine cE x_10.kind 10 (fun hc_42 => ?_) (fun hc_42 => ?_)
  · refine regionE <| pu1 ?_
    refine sL hS_19 1 3 (.int .i64 s.crashes) (Tryz.isAgg3 _) ?_
    refine sAdd s.crashes 1 ?_
    refine pu1 ?_
    refine tW hS_19 1 3 (.int .i64 (s.crashes + 1)) Tryz.sizeOf3 ?_
    intro w_43 hS_44
    refine nilO <| blockK_n <| blockK_n <| thenK_n <| regionE ?_
    refine sAdd ((i : Nat) : Int) 1 ?_
    refine pu1 <| nilO <| thenK_n <| ?_
    have hS_45 := (hS_44.dropAt 0 rfl)
    have hc1_ : countE (l.take (i + 1)) = (⟨s.starts, s.commits, s.drops, (s.crashes + 1), s.steals, s.helps, s.spills, s.queued, s.held, s.cells⟩ : Stt) := by rw [count_take hx_13, ← hs]; unfold count1; rw [if_neg (by omega), if_neg (by omega), if_neg (by omega), if_neg (by omega), if_pos (by omega)]
    exact ⟨(i + 1, (⟨s.starts, s.commits, s.drops, (s.crashes + 1), s.steals, s.helps, s.spills, s.queued, s.held, s.cells⟩ : Stt)), by first | omega | (dsimp only; omega), alA, hS_45, by omega, hc1_.symm, (by rw [← hc1_]; exact count_ok)⟩
  refine seqE <| regionE <| pu2 <| nilO <| thenK_n <| ?_
  refine cE x_10.kind 12 (fun hc_46 => ?_) (fun hc_46 => ?_)
  rotate_left
  · refine skipE <| blockK_n <| blockK_n <| thenK_n <| regionE ?_
    refine sAdd ((i : Nat) : Int) 1 ?_
    refine pu1 <| nilO <| thenK_n <| ?_
    have hS_50 := (hS_19.dropAt 0 rfl)
    have hc1_ : countE (l.take (i + 1)) = s := by rw [count_take hx_13, ← hs]; unfold count1; rw [if_neg (by omega), if_neg (by omega), if_neg (by omega), if_neg (by omega), if_neg (by omega), if_neg (by omega)]
    exact ⟨(i + 1, s), by first | omega | (dsimp only; omega), alA, hS_50, by omega, hc1_.symm, (by rw [← hc1_]; exact count_ok)⟩
  refine regionE <| pu1 ?_
  refine sL hS_19 1 5 (.int .i64 s.helps) (Tryz.isAgg3 _) ?_
  refine sAdd s.helps 1 ?_
  refine pu1 ?_
  refine tW hS_19 1 5 (.int .i64 (s.helps + 1)) Tryz.sizeOf3 ?_
  intro w_47 hS_48
  refine nilO <| blockK_n <| blockK_n <| thenK_n <| regionE ?_
  refine sAdd ((i : Nat) : Int) 1 ?_
  refine pu1 <| nilO <| thenK_n <| ?_
  have hS_49 := (hS_48.dropAt 0 rfl)
  have hc1_ : countE (l.take (i + 1)) = (⟨s.starts, s.commits, s.drops, s.crashes, s.steals, (s.helps + 1), s.spills, s.queued, s.held, s.cells⟩ : Stt) := by rw [count_take hx_13, ← hs]; unfold count1; rw [if_neg (by omega), if_neg (by omega), if_neg (by omega), if_neg (by omega), if_neg (by omega), if_pos (by omega)]
  exact ⟨(i + 1, (⟨s.starts, s.commits, s.drops, s.crashes, s.steals, (s.helps + 1), s.spills, s.queued, s.held, s.cells⟩ : Stt)), by first | omega | (dsimp only; omega), alA, hS_49, by omega, hc1_.symm, (by rw [← hc1_]; exact count_ok)⟩
end Go.Proofs.YtimkhljglpookaaGreat
