import Derived.Test.YtegmennaekipaaaLw3
namespace Go.Proofs.Ytegmennaekipaaa
open Go Go.E
set_option linter.unusedVariables false
set_option linter.unusedSimpArgs false
set_option linter.unnecessarySimpa false
set_option maxRecDepth 100000
set_option maxHeartbeats 2000000
variable {W w : World} {H : Chunk} {F : List Chunk}
/-! ### FarmQueues: every ready task is queued once -/
def allF (F : FS) : List Ref := (F.dq.map (·.l)).flatten ++ F.q.bs.flatten
theorem all_cnt {F : FS} {r : Ref} : (allF F).count r = cnt F r := by
  unfold allF cnt cDq
  rw [List.count_append, flat_q (bs := F.q.bs), List.count_flatten, List.map_map]; rfl
theorem all_nd {F : FS} (h : QI F) : (allF F).Nodup := List.nodup_iff_count.2 fun r => by rw [all_cnt]; exact h.one r
theorem all_mem {F : FS} (h : QI F) {r : Ref} : r ∈ allF F ↔ rdyJ F.jobs r = true := by
  rw [← List.count_pos_iff, all_cnt, h.c r]; cases rdyJ F.jobs r <;> simp
theorem job_at {F : FS} {K : Int} (hF : FW F K) {k : Nat} {j : JS} (hj : F.jobs[k]? = some j) : k < 64 := by
  have := (List.getElem?_eq_some_iff.1 hj).1; rw [hF.jl] at this; exact this
theorem rdy_state {F : FS} {K : Int} (hF : FW F K) {r : Ref} (h : rdyJ F.jobs r = true) : stateF F r.job r.task = 2 := by
  obtain ⟨h0, j, hj, hr, hs⟩ := rdy_some h
  have hl := job_at hF hj
  rw [state_at ⟨h0, by omega⟩ hj ((hF.j j (List.mem_of_getElem? hj)).r hr)]; exact hs
theorem all_state {F : FS} {K : Int} (hF : FI F K) {i : Nat} {x : Ref} (hx : (allF F)[i]? = some x) : stateF F x.job x.task = 2 :=
  rdy_state hF.fw ((all_mem hF.q).1 (List.mem_of_getElem? hx))
theorem nd_ne {l : List Ref} (h : l.Nodup) {i k : Nat} {x y : Ref} (hx : l[i]? = some x) (hy : l[k]? = some y) (hn : i ≠ k) : ¬ (x.job = y.job ∧ x.task = y.task) := by
  rintro ⟨h1, h2⟩
  obtain rfl := ref_ext h1 h2
  obtain ⟨a1, a2⟩ := List.getElem?_eq_some_iff.1 hx
  obtain ⟨b1, b2⟩ := List.getElem?_eq_some_iff.1 hy
  rcases Nat.lt_or_gt_of_ne hn with hl | hl
  · exact List.pairwise_iff_getElem.1 h i k a1 b1 hl (a2.trans b2.symm)
  · exact List.pairwise_iff_getElem.1 h k i b1 a1 hl (b2.trans a2.symm)
def preD (F : FS) (i : Nat) : List Ref := ((F.dq.take i).map (·.l)).flatten
theorem preD_zero {F : FS} : preD F 0 = [] := rfl
theorem preD_step {F : FS} {K : Int} (hF : FW F K) {i : Nat} (hi : i < F.ws.length) : preD F i ++ dequeF F ((i : Nat) : Int) = preD F (i + 1) := by
  have hd := dq_some hF (x := ((i : Nat) : Int)) ⟨by omega, by omega⟩
  rw [Int.toNat_natCast] at hd
  unfold preD dequeF
  rw [if_pos ⟨by omega, by omega⟩, take_succ_at hd]; simp
theorem preD_all {F : FS} {K : Int} (hF : FW F K) {i : Nat} (hi : F.ws.length ≤ i) : preD F i = (F.dq.map (·.l)).flatten := by
  unfold preD; rw [List.take_of_length_le (by rw [hF.dl]; exact hi)]
theorem all_of {F : FS} {K : Int} (hF : FI F K) {i : Nat} (hi : F.ws.length ≤ i) : preD F i ++ bandQ F.q 0 ++ bandQ F.q 1 ++ bandQ F.q 2 ++ bandQ F.q 3 = allF F := by
  have h4 := hF.q.q4
  obtain ⟨b0, b1, b2, b3, hb⟩ : ∃ b0 b1 b2 b3, F.q.bs = [b0, b1, b2, b3] := by
    match h : F.q.bs, h4 with
    | [b0, b1, b2, b3], _ => exact ⟨_, _, _, _, rfl⟩
  unfold allF bandQ
  rw [preD_all hF.fw hi, hb]; simp
theorem dq_le {c : Cfg} {F : FS} {K : Int} {n : Nat} (h : PJ c F K n) {i : Int} (hc : 0 ≤ c.deque) : (((dequeF F i).length : Nat) : Int) ≤ c.deque := by
  unfold dequeF
  split
  · have := h.dq.at (x := i) (by rw [h.j.i.fw.dl]; omega)
    rw [h.cf] at this; omega
  · simpa using hc
theorem mem_flat {l : List Ref} {bs : List (List Ref)} (h : l ∈ bs) : l.length ≤ bs.flatten.length := by
  rw [List.length_flatten]
  induction bs with
  | nil => cases h
  | cons a bs ih =>
    rw [List.map_cons, List.sum_cons]
    rcases List.mem_cons.1 h with rfl | h
    · omega
    · have := ih h; omega
theorem bq_le {F : FS} {K : Int} (hF : FI F K) (b : Int) : (((bandQ F.q b).length : Nat) : Int) ≤ F.cfg.tasks := by
  have h1 := hF.q.small hF.fw
  have h2 := hF.q.ld
  rw [tot_flat] at h1
  unfold bandQ
  split
  · have : (F.q.bs.getD b.toNat []).length ≤ F.q.bs.flatten.length := by
      rw [List.getD_eq_getElem?_getD]
      cases h : F.q.bs[b.toNat]? with
      | none => exact Nat.zero_le _
      | some l => exact mem_flat (List.mem_of_getElem? h)
    omega
  · show (0 : Int) ≤ _; omega
theorem tasks_le {F : FS} {K : Int} (hF : FW F K) (x : Int) : (tasksF F x).length ≤ 4096 := by
  unfold tasksF
  split
  · rename_i h
    obtain ⟨j, hj⟩ := at_some hF.jl (k := x.toNat) (by omega)
    unfold jobAt; rw [getD_some hj]; exact (hF.j j (List.mem_of_getElem? hj)).n
  · exact Nat.zero_le _
def rdN (F : FS) (x : Int) (k : Nat) : Int := ((((List.range k).filter fun n => decide (stateF F x ((n : Nat) : Int) = 2)).length : Nat) : Int)
theorem rdN_zero {F : FS} {x : Int} : rdN F x 0 = 0 := rfl
theorem rdN_yes {F : FS} {x : Int} {k : Nat} (h : stateF F x ((k : Nat) : Int) = 2) : rdN F x (k + 1) = rdN F x k + 1 := by
  unfold rdN; rw [List.range_succ, List.filter_append, List.length_append]; simp [h]
theorem rdN_no {F : FS} {x : Int} {k : Nat} (h : ¬ stateF F x ((k : Nat) : Int) = 2) : rdN F x (k + 1) = rdN F x k := by
  unfold rdN; rw [List.range_succ, List.filter_append, List.length_append]; simp [h]
def rdA (F : FS) (l : List Int) : Int := (l.map fun x => rdN F x (tasksF F x).length).sum
theorem rdA_step {F : FS} {l : List Int} {i : Nat} {x : Int} (h : l[i]? = some x) : rdA F (l.take (i + 1)) = rdA F (l.take i) + rdN F x (tasksF F x).length := by
  unfold rdA; rw [take_succ_at h, List.map_append, List.sum_append]; simp
def rdR (F : FS) (x : Int) : List Ref := ((List.range (tasksF F x).length).filter fun n => decide (stateF F x ((n : Nat) : Int) = 2)).map fun n => (⟨x, ((n : Nat) : Int)⟩ : Ref)
theorem rdR_len {F : FS} : ∀ l : List Int, (((l.flatMap (rdR F)).length : Nat) : Int) = rdA F l
  | [] => rfl
  | x :: l => by
    have ih := rdR_len (F := F) l
    rw [List.flatMap_cons, List.length_append]
    have h1 : rdA F (x :: l) = rdN F x (tasksF F x).length + rdA F l := by unfold rdA; rw [List.map_cons, List.sum_cons]
    rw [h1, ← ih]
    unfold rdR rdN; rw [List.length_map]; omega
theorem rdR_job {F : FS} {x : Int} {r : Ref} (h : r ∈ rdR F x) : r.job = x := by
  obtain ⟨n, _, rfl⟩ := List.mem_map.1 h; rfl
theorem rdR_nd {F : FS} (x : Int) : (rdR F x).Nodup := by
  unfold rdR
  refine List.pairwise_map.2 (List.Pairwise.imp ?_ (List.Pairwise.filter _ List.nodup_range))
  intro a b hn he
  exact hn (Int.ofNat_inj.1 (congrArg Ref.task he))
theorem flat_nd {F : FS} : ∀ {l : List Int}, l.Nodup → (l.flatMap (rdR F)).Nodup
  | [], _ => List.nodup_nil
  | x :: l, h => by
    obtain ⟨h1, h2⟩ := List.nodup_cons.1 h
    rw [List.flatMap_cons]
    refine List.nodup_append.2 ⟨rdR_nd x, flat_nd h2, ?_⟩
    intro a ha b hb hab
    subst hab
    obtain ⟨y, hy, hb⟩ := List.mem_flatMap.1 hb
    exact h1 (by rw [← rdR_job ha, rdR_job hb]; exact hy)
theorem rd_mem {F : FS} {K : Int} (hF : FW F K) {r : Ref} : r ∈ (runK F.jobs).flatMap (rdR F) ↔ rdyJ F.jobs r = true := by
  constructor
  · intro h
    obtain ⟨x, hx, hr⟩ := List.mem_flatMap.1 h
    obtain ⟨n, hn, rfl⟩ := List.mem_map.1 hr
    obtain ⟨_, hs⟩ := List.mem_filter.1 hn
    have hs := of_decide_eq_true hs
    obtain ⟨h1, h2⟩ := List.mem_filter.1 hx
    have h0 := (mem_allK.1 h1)
    unfold runJ9 at h2
    obtain ⟨j, hj⟩ := at_some hF.jl (k := x.toNat) (by omega)
    rw [getD_some hj] at h2
    rw [state_at ⟨h0.1, by omega⟩ hj ((hF.j j (List.mem_of_getElem? hj)).r h2)] at hs
    rw [rdy_at (r := ⟨x, ((n : Nat) : Int)⟩) h0.1 hj, h2, decide_eq_true hs]; rfl
  · intro h
    obtain ⟨h0, j, hj, hr, ht0, ht1⟩ := rdy_run hF h
    have hl := job_at hF hj
    have ha := (hF.j j (List.mem_of_getElem? hj)).r hr
    refine List.mem_flatMap.2 ⟨r.job, List.mem_filter.2 ⟨mem_allK.2 ⟨h0, by omega⟩, by unfold runJ9; rw [getD_some hj]; exact hr⟩, List.mem_map.2 ⟨r.task.toNat, List.mem_filter.2 ⟨List.mem_range.2 ?_, ?_⟩, ?_⟩⟩
    · rw [tasks_at ⟨h0, by omega⟩ hj ha]; omega
    · rw [Int.toNat_of_nonneg ht0]; exact decide_eq_true (rdy_state hF h)
    · rw [Int.toNat_of_nonneg ht0]
theorem runK_nd (jobs : List JS) : (runK jobs).Nodup := List.Pairwise.filter _ (allK_nd 64)
theorem rd_all {F : FS} {K : Int} (hF : FI F K) : rdA F (runK F.jobs) = (((allF F).length : Nat) : Int) := by
  rw [← rdR_len, ((List.perm_ext_iff_of_nodup (flat_nd (runK_nd F.jobs)) (all_nd hF.q)).2 fun r => (rd_mem hF.fw).trans (all_mem hF.q).symm).length_eq]
theorem sumD_flat : ∀ l : List DS, sumD l = ((((l.map (·.l)).flatten.length : Nat) : Int))
  | [] => rfl
  | d :: l => by
    have ih := sumD_flat l
    unfold sumD at *
    rw [List.map_cons, List.sum_cons, ih, List.map_cons, List.flatten_cons, List.length_append]; omega
theorem queued_all (F : FS) : (statsF F).queued = (((allF F).length : Nat) : Int) := by
  unfold statsF allF
  rw [List.length_append]
  show totB F.q.bs + sumD F.dq = _
  rw [tot_flat, sumD_flat]; omega
set_option maxHeartbeats 6000000
theorem l27_queues (W w : World) (H : Chunk) (F : List Chunk) (t : Option Addr) (nt kt : Nat) (xt : List Int) (ht : RdT encI 1 [H] t nt kt xt) (hS : Sat W w (H :: F)) :
    Calls Try.prog 9 #[.slice t nt kt] w fun e w' => e = .returned (.bool true) ∧ Sat W w' (H :: F) := by
  have hlt := ht.le
  refine callsA 130 Try.func9 rfl ?_
  refine seqE <| regionE <| pu1 <| nilO <| thenK_n <| seqE <| regionE <| pu1 ?_
  refine cX Try.call11 (tape_new t nt kt hS) ?_
  rintro _ w_1 ⟨p_3, rfl, hS_2⟩
  have hle_4 := ht.le
  refine pu1 <| nilO <| thenK_n <| seqE <| regionE <| pu1 ?_
  refine cX Try.call33 (l27_play (RdT.flat (ht.up 0 (by rfl))) (by omega) (Sat.flat1 hS_2) 60 (by omega)) ?_
  rintro _ w_5 ⟨c_7, pf_8, F1_9, M1_10, nj_11, rfl, hv_12, hc_13, hR_14, hPJ_15, hn_16, i_17, hi_18, hS_6⟩
  have hS_19 := Sat.unflat2 hS_6
  refine pu3 ?_
  refine sAlloc hS_19 Try.zeroValue41 ?_
  intro b_20 w_21 hS_22
  refine pu1 ?_
  refine sT hS_22 0 0 (.agg (encCfg c_7).toArray) (encCfg c_7) (encCfg c_7).toArray Try.sizeOf41 ?_
  intro w_23 hS_24
  refine nilO ?_
  have hvc0 := validCfg_zero hv_12; have hpc := hc_13; have hFI := hPJ_15.j.i; have hpw := hPJ_15.ws; have hpn := hn_16
  have hcf := hPJ_15.cf; have hb0 := bq_le hFI (0 : Int); rw [hcf] at hb0; have hb1 := bq_le hFI (1 : Int); rw [hcf] at hb1; have hb2 := bq_le hFI (2 : Int); rw [hcf] at hb2; have hb3 := bq_le hFI (3 : Int); rw [hcf] at hb3
  refine thenK_n <| seqE <| seqE <| regionE <| pu2 <| nilO <| thenK_n <| cFf <| skipE <| thenK_n <| seqE <| regionE <| pu1 <| nilO <| thenK_n <| seqE <| seqE <| regionE <| pu1 <| nilO <| thenK_n <| blockE ?_
  have hS_25 := Sat.nilc hS_24
  have hO_26 := OwnT.nil (enc := encRef) (E := 48) (sz := 2) (fun _ => rfl)
  refine loopA (γ := Nat × (List Ref) × (Option Addr) × Nat × Nat × Chunk) (fun ⟨i, zs, azs, nzs, kzs, czs⟩ => [(5, .pointer (some ⟨b_20, 0, none⟩)), (4, .pointer (some ⟨pf_8, 0, none⟩)), (7, .int .i64 ((i : Nat) : Int)), (6, .slice azs nzs kzs)]) (fun ⟨i, zs, azs, nzs, kzs, czs⟩ w => Sat W w (czs :: [(b_20, .cells (encCfg c_7).toArray 41 (0, 0))] :: [(p_3, .cells #[.slice t nt kt, .int .i64 i_17] 71 (0, 0))] :: M1_10 :: H :: F) ∧ i ≤ (c_7.workers).toNat ∧ (zs = preD F1_9 i) ∧ (zs.length ≤ 256 * i) ∧ OwnT encRef 48 2 azs nzs kzs zs czs) (fun ⟨i, zs, azs, nzs, kzs, czs⟩ => ((c_7.workers).toNat) - i) (0, [], none, 0, 0, []) ⟨hS_25, by omega, rfl, by simp, hO_26⟩ ?_
  rintro ⟨i, zs, azs, nzs, kzs, czs⟩ ρ w_27 ⟨hS_28, hi, hzs, hzl, hOzs⟩
  have hn_zs := hOzs.len; have hl_zs := hOzs.le
  refine seqE <| seqE <| regionE <| pu2 ?_
  refine sL hS_28 1 0 (.int .i64 c_7.workers) (Try.isAgg3 _) ?_
  refine pu1 <| nilO <| thenK_n <| ?_
  refine cD (((i : Nat) : Int) < c_7.workers) (fun hc_29 => ?_) (fun hc_29 => ?_)
  · refine skipE <| thenK_n <| seqE <| blockE <| seqE <| regionE <| pu2 ?_
    have hS_30 := (hS_28.pick 3 rfl)
    refine cX Try.call26 (pf_deque hR_14 hPJ_15.j.i ((i : Nat) : Int)  (Sat.flat1 hS_30)) ?_
    rintro _ w_31 ⟨az_34, nz_35, kz_36, Z_37, rfl, hO_38, hS_32⟩
    have hS_33 := Sat.unflat2 hS_32; have hn_az_34 := hO_38.len; have hl_az_34 := hO_38.le
    refine pu1 <| nilO ?_
    have hdl_ := dq_le hPJ_15 (i := ((i : Nat) : Int)) (by omega)
    refine thenK_n <| seqE <| seqE <| regionE <| pu3 ?_
    refine sL hS_33 3 4 (.int .i64 c_7.deque) (Try.isAgg3 _) ?_
    refine pu1 <| nilO <| thenK_n <| ?_
    refine cD (((nz_35 : Nat) : Int) > c_7.deque) (fun hc_39 => ?_) (fun hc_39 => ?_)
    · refine seqE <| regionE <| pu1 <| nilO <| thenK_n <| retE <| thenK_r <| blockK_r <| thenK_r <| thenK_r <| blockK_r <| thenK_r <| retT [.bool false] <| ?_
      first | omega
    refine skipE <| thenK_n <| regionE <| pu2 ?_
    refine sApp (nb := 16) hS_33 hOzs 2 (hO_38.rdAt 0 rfl) Try.underlying52 (i := Try.t48) (by kernel_rfl) (fun _ => rfl) ?_
    intro a_40 cap_41 c_42 w_43 hO_44 hS_45
    refine pu1 <| nilO <| blockK_n <| thenK_n <| regionE <| pu1 ?_
    refine sAdd ((i : Nat) : Int) 1 ?_
    refine pu1 <| nilO <| thenK_n <| ?_
    have hS_46 := ((((hS_45.pick 4 rfl).pick 4 rfl).pick 4 rfl).dropAt 3 rfl)
    exact ⟨(i + 1, (zs ++ (dequeF F1_9 ((i : Nat) : Int))), a_40, (nzs + nz_35), cap_41, c_42), by first | omega | (dsimp only; omega), alA, hS_46, by omega, (by rw [hzs]; exact preD_step hFI.fw (by omega)), by rw [List.length_append]; omega, hO_44⟩
  refine exitE <| thenK_x <| thenK_x <| blockK_x <| thenK_n <| seqE <| seqE <| regionE <| pu1 <| nilO <| thenK_n <| blockE ?_
  refine loopN 5 ?_
  refine roundS ?_
  refine seqE <| seqE <| regionE <| pu2 <| nilO <| thenK_n <| cTt <| skipE <| thenK_n <| seqE <| blockE <| regionE <| pu3 ?_
  have hS_47 := (hS_28.pick 3 rfl)
  refine cX Try.call27 (pf_queue hR_14 hPJ_15.j.i 0  (Sat.flat1 hS_47)) ?_
  rintro _ w_48 ⟨az_51, nz_52, kz_53, Z_54, rfl, hO_55, hS_49⟩
  have hS_50 := Sat.unflat2 hS_49; have hn_az_51 := hO_55.len; have hl_az_51 := hO_55.le
  refine sApp (nb := 16) hS_50 hOzs 2 (hO_55.rdAt 0 rfl) Try.underlying52 (i := Try.t48) (by kernel_rfl) (fun _ => rfl) ?_
  intro a_56 cap_57 c_58 w_59 hO_60 hS_61
  refine pu1 <| nilO <| blockK_n <| thenK_n <| regionE <| pu3 <| nilO <| thenK_n <| ?_
  refine roundS ?_
  refine seqE <| seqE <| regionE <| pu2 <| nilO <| thenK_n <| cTt <| skipE <| thenK_n <| seqE <| blockE <| regionE <| pu3 ?_
  have hS_62 := (hS_61.pick 1 rfl)
  refine cX Try.call27 (pf_queue hR_14 hPJ_15.j.i 1  (Sat.flat1 hS_62)) ?_
  rintro _ w_63 ⟨az_66, nz_67, kz_68, Z_69, rfl, hO_70, hS_64⟩
  have hS_65 := Sat.unflat2 hS_64; have hn_az_66 := hO_70.len; have hl_az_66 := hO_70.le
  refine sApp (nb := 16) hS_65 hO_60 3 (hO_70.rdAt 0 rfl) Try.underlying52 (i := Try.t48) (by kernel_rfl) (fun _ => rfl) ?_
  intro a_71 cap_72 c_73 w_74 hO_75 hS_76
  refine pu1 <| nilO <| blockK_n <| thenK_n <| regionE <| pu3 <| nilO <| thenK_n <| ?_
  refine roundS ?_
  refine seqE <| seqE <| regionE <| pu2 <| nilO <| thenK_n <| cTt <| skipE <| thenK_n <| seqE <| blockE <| regionE <| pu3 ?_
  have hS_77 := (hS_76.pick 1 rfl)
  refine cX Try.call27 (pf_queue hR_14 hPJ_15.j.i 2  (Sat.flat1 hS_77)) ?_
  rintro _ w_78 ⟨az_81, nz_82, kz_83, Z_84, rfl, hO_85, hS_79⟩
  have hS_80 := Sat.unflat2 hS_79; have hn_az_81 := hO_85.len; have hl_az_81 := hO_85.le
  refine sApp (nb := 16) hS_80 hO_75 4 (hO_85.rdAt 0 rfl) Try.underlying52 (i := Try.t48) (by kernel_rfl) (fun _ => rfl) ?_
  intro a_86 cap_87 c_88 w_89 hO_90 hS_91
  refine pu1 <| nilO <| blockK_n <| thenK_n <| regionE <| pu3 <| nilO <| thenK_n <| ?_
  refine roundS ?_
  refine seqE <| seqE <| regionE <| pu2 <| nilO <| thenK_n <| cTt <| skipE <| thenK_n <| seqE <| blockE <| regionE <| pu3 ?_
  have hS_92 := (hS_91.pick 1 rfl)
  refine cX Try.call27 (pf_queue hR_14 hPJ_15.j.i 3  (Sat.flat1 hS_92)) ?_
  rintro _ w_93 ⟨az_96, nz_97, kz_98, Z_99, rfl, hO_100, hS_94⟩
  have hS_95 := Sat.unflat2 hS_94; have hn_az_96 := hO_100.len; have hl_az_96 := hO_100.le
  refine sApp (nb := 16) hS_95 hO_90 5 (hO_100.rdAt 0 rfl) Try.underlying52 (i := Try.t48) (by kernel_rfl) (fun _ => rfl) ?_
  intro a_101 cap_102 c_103 w_104 hO_105 hS_106
  refine pu1 <| nilO <| blockK_n <| thenK_n <| regionE <| pu3 <| nilO <| thenK_n <| ?_
  refine roundS ?_
  refine seqE <| seqE <| regionE <| pu2 <| nilO <| thenK_n <| cFf <| exitE <| thenK_x <| thenK_x <| blockK_x <| thenK_n <| seqE <| seqE <| regionE <| pu1 <| nilO ?_
  have hO_107 : OwnT encRef 48 2 a_101 ((((nzs + nz_52) + nz_67) + nz_82) + nz_97) cap_102 (allF F1_9) c_103 := by rw [← all_of hFI (i := i) (by omega), ← hzs]; simpa using hO_105
  generalize hn_na_108 : ((((nzs + nz_52) + nz_67) + nz_82) + nz_97) = na_108 at hO_107 ⊢; have hnl_ := hO_107.len; have hnk_ := hO_107.le
  refine thenK_n <| blockE ?_
  refine loopA (γ := Nat) (fun i => [(4, .pointer (some ⟨pf_8, 0, none⟩)), (6, .slice a_101 na_108 cap_102), (10, .int .i64 ((i : Nat) : Int))]) (fun i w => Sat W w (Z_99 :: M1_10 :: Z_84 :: Z_69 :: Z_54 :: c_103 :: [(b_20, .cells (encCfg c_7).toArray 41 (0, 0))] :: [(p_3, .cells #[.slice t nt kt, .int .i64 i_17] 71 (0, 0))] :: H :: F) ∧ i ≤ na_108) (fun i => na_108 - i) 0 ⟨hS_106, by omega⟩ ?_
  rintro i ρ w_109 ⟨hS_110, hi⟩
  refine seqE <| seqE <| regionE <| pu4 <| nilO <| thenK_n <| ?_
  refine cD (((i : Nat) : Int) < ((na_108 : Nat) : Int)) (fun hc_111 => ?_) (fun hc_111 => ?_)
  · refine skipE <| thenK_n <| seqE <| blockE <| seqE <| seqE <| regionE <| pu1 <| nilO <| thenK_n <| blockE ?_
    refine loopA (γ := Nat) (fun j => [(4, .pointer (some ⟨pf_8, 0, none⟩)), (6, .slice a_101 na_108 cap_102), (10, .int .i64 ((i : Nat) : Int)), (11, .int .i64 ((j : Nat) : Int))]) (fun j w => Sat W w (Z_99 :: M1_10 :: Z_84 :: Z_69 :: Z_54 :: c_103 :: [(b_20, .cells (encCfg c_7).toArray 41 (0, 0))] :: [(p_3, .cells #[.slice t nt kt, .int .i64 i_17] 71 (0, 0))] :: H :: F) ∧ j ≤ i) (fun j => i - j) 0 ⟨hS_110, by omega⟩ ?_
    rintro j ρ w_112 ⟨hS_113, hj⟩
    refine seqE <| seqE <| regionE <| pu3 <| nilO <| thenK_n <| ?_
    refine cD (((j : Nat) : Int) < ((i : Nat) : Int)) (fun hc_114 => ?_) (fun hc_114 => ?_)
    rotate_left
    · refine exitE <| thenK_x <| thenK_x <| blockK_x <| thenK_n <| seqE ?_
      obtain ⟨x_131, b_132, o_133, hx_134, hp_135, hq_136, ha_137⟩ := OwnT.elem hO_107 ((i : Nat) : Int)
      rw [Int.toNat_natCast] at hx_134 hp_135 hq_136
      refine drawE [11] [(5, ⟨b_132, o_133 + i * 2 + 0, none⟩, .int .i64 x_131.job), (10, ⟨b_132, o_133 + i * 2 + 1, none⟩, .int .i64 x_131.task)] [(true, [0, 1, 2]), (true, [3]), (true, [4, 6, 7]), (true, [8]), (true, [9]), (true, [5]), (true, [10]), (false, [11]), (true, [12])] rfl (by kernel_rfl) ⟨.inr ((hp_135.up 5 rfl).cell hS_113 (k := 0) rfl), .inr ((hp_135.up 5 rfl).cell hS_113 (k := 1) rfl), trivial⟩ ?_
      have hS_138 := hS_113.drew
      refine wU [0, 1, 2] ?_
      refine wY (.pointer (some ⟨b_132, o_133 + i * 2, none⟩)) rfl (fun w _ => Y_idx (a := a_101) (i := ((i : Nat) : Int)) (len := na_108) (cap := cap_102) rfl Try.runUnderlying52 Try.sizeOf48 (by kernel_rfl) (by kernel_rfl) hq_136) ?_
      refine wU [4, 6, 7] ?_
      refine wY (.pointer (some ⟨b_132, o_133 + i * 2, none⟩)) rfl (fun w _ => Y_idx (a := a_101) (i := ((i : Nat) : Int)) (len := na_108) (cap := cap_102) rfl Try.runUnderlying52 Try.sizeOf48 (by kernel_rfl) (by kernel_rfl) hq_136) ?_
      refine wU [9] ?_
      refine wLd (.int .i64 x_131.job) 0 Try.isAgg3 ?_
      refine wLd (.int .i64 x_131.task) 1 Try.isAgg3 ?_
      refine wO rfl ?_
      have hS_139 := (hS_138.pick 1 rfl)
      refine cX Try.call37 (pf_state hR_14 hPJ_15.j.i x_131.job x_131.task (Sat.flat1 hS_139)) ?_
      rintro _ w_140 ⟨rfl, hS_141⟩
      have hS_142 := Sat.unflat1 hS_141
      refine nilO ⟨⟨.inl (by kernel_rfl), .inl (by kernel_rfl), trivial⟩, ?_⟩
      refine wU [12] ?_
      refine wN ?_
      refine thenK_n <| ?_
      have hc_143 : ((stateF F1_9 x_131.job x_131.task) : Int) = 2 := (all_state hFI hx_134)
      refine cF _ (bne_eq_false_iff_eq.2 hc_143) ?_
      refine skipE <| blockK_n <| thenK_n <| regionE <| pu1 ?_
      refine sAdd ((i : Nat) : Int) 1 ?_
      refine pu1 <| nilO <| thenK_n <| ?_
      have hS_144 := (hS_142.pick 1 rfl)
      exact ⟨i + 1, by first | omega | (dsimp only; omega), alA, hS_144, by omega⟩
    refine skipE <| thenK_n <| seqE <| blockE <| seqE ?_
    obtain ⟨x_115, b_116, o_117, hx_118, hp_119, hq_120, ha_121⟩ := OwnT.elem hO_107 ((j : Nat) : Int)
    rw [Int.toNat_natCast] at hx_118 hp_119 hq_120
    obtain ⟨x_122, b_123, o_124, hx_125, hp_126, hq_127, ha_128⟩ := OwnT.elem hO_107 ((i : Nat) : Int)
    rw [Int.toNat_natCast] at hx_125 hp_126 hq_127
    refine drawE [] [(3, ⟨b_116, o_117 + j * 2 + 0, none⟩, .int .i64 x_115.job), (3, ⟨b_116, o_117 + j * 2 + 1, none⟩, .int .i64 x_115.task), (7, ⟨b_123, o_124 + i * 2 + 0, none⟩, .int .i64 x_122.job), (7, ⟨b_123, o_124 + i * 2 + 1, none⟩, .int .i64 x_122.task)] [(true, [0, 1]), (true, [2]), (true, [4, 5]), (true, [6]), (true, [3]), (true, [7]), (true, [8])] rfl (by kernel_rfl) ⟨.inr ((hp_119.up 5 rfl).cell hS_113 (k := 0) rfl), .inr ((hp_119.up 5 rfl).cell hS_113 (k := 1) rfl), .inr ((hp_126.up 5 rfl).cell hS_113 (k := 0) rfl), .inr ((hp_126.up 5 rfl).cell hS_113 (k := 1) rfl), trivial⟩ ?_
    have hS_129 := hS_113.drew
    refine wU [0, 1] ?_
    refine wY (.pointer (some ⟨b_116, o_117 + j * 2, none⟩)) rfl (fun w _ => Y_idx (a := a_101) (i := ((j : Nat) : Int)) (len := na_108) (cap := cap_102) rfl Try.runUnderlying52 Try.sizeOf48 (by kernel_rfl) (by kernel_rfl) hq_120) ?_
    refine wU [4, 5] ?_
    refine wY (.pointer (some ⟨b_123, o_124 + i * 2, none⟩)) rfl (fun w _ => Y_idx (a := a_101) (i := ((i : Nat) : Int)) (len := na_108) (cap := cap_102) rfl Try.runUnderlying52 Try.sizeOf48 (by kernel_rfl) (by kernel_rfl) hq_127) ?_
    refine wY (.agg #[.int .i64 x_115.job, .int .i64 x_115.task]) rfl (fun w hF => Y_loadF rfl (Try.isAgg48 w) (Try.sizeOf48 w) (by kernel_rfl) rfl ⟨hF 0 _ _ rfl, hF 1 _ _ rfl, trivial⟩) ?_
    refine wY (.agg #[.int .i64 x_122.job, .int .i64 x_122.task]) rfl (fun w hF => Y_loadF rfl (Try.isAgg48 w) (Try.sizeOf48 w) (by kernel_rfl) rfl ⟨hF 2 _ _ rfl, hF 3 _ _ rfl, trivial⟩) ?_
    refine wY (.bool (((x_115.job : Int) == x_122.job) && ((x_115.task : Int) == x_122.task))) rfl (fun w _ => Y_eqS rfl (by kernel_rfl) (by kernel_rfl) (eqve48 _ x_115.job x_115.task x_122.job x_122.task)) ?_
    refine wN ?_
    refine thenK_n <| ?_
    have hc_130 : ¬ ((x_115.job : Int) = x_122.job ∧ (x_115.task : Int) = x_122.task) := (nd_ne (all_nd hFI.q) hx_118 hx_125 (by omega))
    refine cF _ (show (((x_115.job : Int) == x_122.job) && ((x_115.task : Int) == x_122.task)) = false from by simpa using hc_130) ?_
    refine skipE <| blockK_n <| thenK_n <| regionE <| pu1 ?_
    refine sAdd ((j : Nat) : Int) 1 ?_
    refine pu1 <| nilO <| thenK_n <| ?_
    exact ⟨j + 1, by first | omega | (dsimp only; omega), alA, hS_129, by omega⟩
  refine exitE <| thenK_x <| thenK_x <| blockK_x <| thenK_n <| seqE <| regionE <| pu1 <| nilO <| thenK_n <| seqE <| regionE <| pu1 ?_
  have hS_145 := (hS_110.pick 1 rfl)
  refine cX Try.call30 (pf_jobs hR_14 hPJ_15.j.i  (hPJ_15.j.r12 (by omega)) (Sat.flat1 hS_145)) ?_
  rintro _ w_146 ⟨az_149, nz_150, kz_151, Z_152, rfl, hO_153, hS_147⟩
  have hS_148 := Sat.unflat2 hS_147; have hn_az_149 := hO_153.len; have hl_az_149 := hO_153.le
  refine pu1 <| nilO ?_
  have hj12_ := hPJ_15.j.r12 (by omega)
  refine thenK_n <| seqE <| seqE <| regionE <| pu1 <| nilO <| thenK_n <| blockE ?_
  refine loopA (γ := Nat × Int) (fun ⟨i, rd⟩ => [(4, .pointer (some ⟨pf_8, 0, none⟩)), (6, .slice a_101 na_108 cap_102), (13, .slice az_149 nz_150 kz_151), (14, .int .i64 ((i : Nat) : Int)), (12, .int .i64 rd)]) (fun ⟨i, rd⟩ w => Sat W w (Z_152 :: M1_10 :: Z_99 :: Z_84 :: Z_69 :: Z_54 :: c_103 :: [(b_20, .cells (encCfg c_7).toArray 41 (0, 0))] :: [(p_3, .cells #[.slice t nt kt, .int .i64 i_17] 71 (0, 0))] :: H :: F) ∧ i ≤ nz_150 ∧ (rd = rdA F1_9 ((runK F1_9.jobs).take i)) ∧ (0 ≤ rd ∧ rd ≤ 4096 * i)) (fun ⟨i, rd⟩ => nz_150 - i) (0, 0) ⟨hS_148, by omega, rfl, by omega⟩ ?_
  rintro ⟨i, rd⟩ ρ w_154 ⟨hS_155, hi, hrd, hrb⟩
  refine seqE <| seqE <| regionE <| pu4 <| nilO <| thenK_n <| ?_
  refine cD (((i : Nat) : Int) < ((nz_150 : Nat) : Int)) (fun hc_156 => ?_) (fun hc_156 => ?_)
  rotate_left
  · refine exitE <| thenK_x <| thenK_x <| blockK_x <| thenK_n <| seqE ?_
    have hra_ := rd_all hFI; rw [List.take_of_length_le (by omega)] at hrd
    refine regionE <| pu5 ?_
    refine sE 119 rd ((na_108 : Nat) : Int) (fun hc_193 => ?_) (fun hc_193 => ?_)
    rotate_left
    · refine pu11 <| nilO <| thenK_n <| retE <| retT [.bool false] <| ?_
      first | omega
    refine pu1 <| gY ?_
    have hS_194 := (hS_155.pick 1 rfl)
    refine cX Try.call28 (pf_stats hR_14 hPJ_15.j.i hPJ_15.j.h (Sat.flat1 hS_194)) ?_
    rintro _ w_195 ⟨rfl, hS_196⟩
    have hS_197 := Sat.unflat1 hS_196
    obtain ⟨s_198, hs_199⟩ : ∃ z, z = statsF F1_9 := ⟨_, rfl⟩; rw [← hs_199]
    have hsq_ : s_198.queued = _ := (congrArg Stt.queued hs_199).trans (queued_all F1_9)
    refine pu6 ?_
    refine sE 127 s_198.queued ((na_108 : Nat) : Int) (fun hc_200 => ?_) (fun hc_200 => ?_)
    rotate_left
    · refine pu3 <| nilO <| thenK_n <| retE <| retT [.bool false] <| ?_
      first | omega
    refine gY ?_
    refine cX Try.call24 (l27_sane hS_197) ?_
    rintro _ w_201 ⟨rfl, hS_202⟩
    refine pu2 <| nilO <| thenK_n <| retE <| retT [.bool true] <| ?_
    have hS_203 := (hS_202.pick 9 rfl)
    have hS_204 := hS_203.dropAt 1 rfl
    have hS_205 := hS_204.dropAt 1 rfl
    have hS_206 := hS_205.dropAt 1 rfl
    have hS_207 := hS_206.dropAt 1 rfl
    have hS_208 := hS_207.dropAt 1 rfl
    have hS_209 := hS_208.dropAt 1 rfl
    have hS_210 := hS_209.dropAt 1 rfl
    have hS_211 := hS_210.dropAt 1 rfl
    have hS_212 := hS_211.dropAt 1 rfl
    exact ⟨rfl, hS_212⟩
  refine skipE <| thenK_n <| seqE <| blockE <| seqE <| regionE <| pu3 ?_
  refine sIdxO hO_153 ((i : Nat) : Int) i Try.runUnderlying22 Try.sizeOf3 ?_
  intro x_157 b_158 o_159 hx_160 hp_161 hq_162
  refine sLp hS_155 (hp_161.up 0 rfl) 0 (.int .i64 x_157) (Try.isAgg3 _) ?_
  have hS_163 := (hS_155.pick 1 rfl)
  refine cX Try.call38 (pf_tasks hR_14 hPJ_15.j.i x_157 (Sat.flat1 hS_163)) ?_
  rintro _ w_164 ⟨az_167, nz_168, kz_169, zs_170, C_171, G_172, rfl, hO_173, hD_174, hV_175, hS_165⟩
  have hS_166 := Sat.unflat3 hS_165; have hn_az_167 := hO_173.len; have hl_az_167 := hO_173.le
  refine pu1 <| nilO <| thenK_n <| seqE <| regionE <| pu1 <| nilO <| thenK_n <| blockE ?_
  have htl4_ := tasks_le hFI.fw x_157; have htl_ : zs_170.length = (tasksF F1_9 x_157).length := by rw [← hV_175, List.length_map]
  refine loopA (γ := Nat × Int) (fun ⟨j, re⟩ => [(4, .pointer (some ⟨pf_8, 0, none⟩)), (6, .slice a_101 na_108 cap_102), (13, .slice az_149 nz_150 kz_151), (14, .int .i64 ((i : Nat) : Int)), (15, .slice az_167 nz_168 kz_169), (16, .int .i64 ((j : Nat) : Int)), (12, .int .i64 re)]) (fun ⟨j, re⟩ w => Sat W w (C_171 :: G_172 :: M1_10 :: Z_152 :: Z_99 :: Z_84 :: Z_69 :: Z_54 :: c_103 :: [(b_20, .cells (encCfg c_7).toArray 41 (0, 0))] :: [(p_3, .cells #[.slice t nt kt, .int .i64 i_17] 71 (0, 0))] :: H :: F) ∧ j ≤ nz_168 ∧ (re = rd + rdN F1_9 x_157 j) ∧ (0 ≤ re ∧ re ≤ rd + j)) (fun ⟨j, re⟩ => nz_168 - j) (0, rd) ⟨hS_166, by omega, by rw [rdN_zero]; omega, by omega⟩ ?_
  rintro ⟨j, re⟩ ρ w_176 ⟨hS_177, hj, hre, hreb⟩
  refine seqE <| seqE <| regionE <| pu4 <| nilO <| thenK_n <| ?_
  refine cD (((j : Nat) : Int) < ((nz_168 : Nat) : Int)) (fun hc_178 => ?_) (fun hc_178 => ?_)
  rotate_left
  · refine exitE <| thenK_x <| thenK_x <| blockK_x <| blockK_n <| thenK_n <| regionE <| pu1 ?_
    refine sAdd ((i : Nat) : Int) 1 ?_
    refine pu1 <| nilO <| thenK_n <| ?_
    have hS_192 := (((hS_177.pick 3 rfl).dropAt 1 rfl).dropAt 1 rfl)
    exact ⟨(i + 1, re), by first | omega | (dsimp only; omega), alA, hS_192, by omega, (by rw [rdA_step hx_160, ← hrd, ← htl_, show zs_170.length = j by omega]; exact hre), by omega⟩
  refine skipE <| thenK_n <| seqE <| blockE <| seqE <| regionE <| pu3 ?_
  refine sIdxO hO_153 ((i : Nat) : Int) i Try.runUnderlying22 Try.sizeOf3 ?_
  intro x_179 b_180 o_181 hx_182 hp_183 hq_184
  obtain rfl : x_157 = x_179 := Option.some.inj (hx_160.symm.trans hx_182)
  refine sLp hS_177 (hp_183.up 3 rfl) 0 (.int .i64 x_157) (Try.isAgg3 _) ?_
  refine pu1 ?_
  have hS_185 := (hS_177.pick 2 rfl)
  refine cX Try.call37 (pf_state hR_14 hPJ_15.j.i x_157 ((j : Nat) : Int) (Sat.flat1 hS_185)) ?_
  rintro _ w_186 ⟨rfl, hS_187⟩
  have hS_188 := Sat.unflat1 hS_187
  refine pu1 <| nilO <| thenK_n <| ?_
  refine cE (stateF F1_9 x_157 ((j : Nat) : Int)) 2 (fun hc_189 => ?_) (fun hc_189 => ?_)
  rotate_left
  · refine skipE <| blockK_n <| thenK_n <| regionE <| pu1 ?_
    refine sAdd ((j : Nat) : Int) 1 ?_
    refine pu1 <| nilO <| thenK_n <| ?_
    have hS_191 := ((hS_188.pick 2 rfl).pick 2 rfl)
    exact ⟨(j + 1, re), by first | omega | (dsimp only; omega), alA, hS_191, by omega, (by rw [rdN_no hc_189]; omega), by omega⟩
  refine regionE <| pu1 ?_
  refine sAdd re 1 ?_
  refine pu1 <| nilO <| blockK_n <| thenK_n <| regionE <| pu1 ?_
  refine sAdd ((j : Nat) : Int) 1 ?_
  refine pu1 <| nilO <| thenK_n <| ?_
  have hS_190 := ((hS_188.pick 2 rfl).pick 2 rfl)
  exact ⟨(j + 1, (re + 1)), by first | omega | (dsimp only; omega), alA, hS_190, by omega, (by rw [rdN_yes hc_189]; omega), by omega⟩
end Go.Proofs.Ytegmennaekipaaa
