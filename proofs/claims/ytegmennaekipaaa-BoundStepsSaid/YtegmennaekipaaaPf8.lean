import Derived.Test.YtegmennaekipaaaPf7
import Derived.Test.YtegmennaekipaaaSrt
namespace Go.Proofs.Ytegmennaekipaaa
open Go Go.E
set_option linter.unusedVariables false
set_option linter.unusedSimpArgs false
set_option linter.unnecessarySimpa false
set_option maxRecDepth 100000
set_option maxHeartbeats 2000000
variable {W w : World} {H : Chunk} {F : List Chunk}
def stateF (F : FS) (x t : Int) : Int := if 0 ≤ x ∧ x < 64 ∧ (jobAt F x).added = true then stAt (jobAt F x).B.st t else 0
def tasksF (F : FS) (x : Int) : List TaskV := if 0 ≤ x ∧ x < 64 ∧ (jobAt F x).added = true then (jobAt F x).tasks else []
def dequeF (F : FS) (x : Int) : List Ref := if 0 ≤ x ∧ x < ((F.ws.length : Nat) : Int) then (dqAt F x).l else []
def bandQ (q : QS) (b : Int) : List Ref := if 0 ≤ b ∧ b < 4 then q.bs.getD b.toNat [] else []
def sumD (l : List DS) : Int := (l.map fun d => ((d.l.length : Nat) : Int)).sum
def holdsB (v : Wkr) : Bool := decide (v.phase = 1 ∨ v.phase = 2 ∨ v.phase = 3)
def heldN (l : List Wkr) : Int := (((l.filter holdsB).length : Nat) : Int)
def statsF (F : FS) : Stt := { F.st with queued := totB F.q.bs + sumD F.dq, held := F.st.held + heldN F.ws }
theorem sumD_take {l : List DS} {i : Nat} {d : DS} (h : l[i]? = some d) : sumD (l.take (i + 1)) = sumD (l.take i) + ((d.l.length : Nat) : Int) := by
  unfold sumD; rw [take_succ_at h, List.map_append, List.sum_append]; simp
theorem heldN_take {l : List Wkr} {i : Nat} {v : Wkr} (h : l[i]? = some v) : heldN (l.take (i + 1)) = heldN (l.take i) + if holdsB v = true then 1 else 0 := by
  unfold heldN; rw [take_succ_at h, List.filter_append, List.length_append, List.filter_cons]
  cases holdsB v <;> simp
theorem wkr_eq {v : Wkr} {a b c d e u h : Int} (h0 : a = v.phase) (h1 : b = v.heldJob) (h2 : c = v.heldTask) (h3 : d = v.attempt) (h4 : e = v.row) (h5 : u = v.used) (h6 : h = v.high) : (⟨a, b, c, d, e, u, h⟩ : Wkr) = v := by
  cases v; simp only at *; subst h0; subst h1; subst h2; subst h3; subst h4; subst h5; subst h6; rfl
theorem DqP.bd {p : Nat} {S : DS} {M : Chunk} (h : DqP p S M) : S.l.length ≤ 256 := by
  obtain ⟨_, _, _, _, _, _, _, _, _, _, hW⟩ := h
  have := hW.c; have := hW.n; omega
theorem asc_allK (n : Nat) : SortTo (allK n) (allK n).length := by
  intro p q u v h1 h2 hu hv
  have at' : ∀ k w, (allK n)[k]? = some w → w = ((k : Nat) : Int) := by
    intro k w hw
    unfold allK at hw
    rw [List.getElem?_map] at hw
    cases hr : (List.range n)[k]? with
    | none => rw [hr] at hw; cases hw
    | some y =>
      rw [hr] at hw
      obtain ⟨h3, h4⟩ := List.getElem?_eq_some_iff.1 hr
      rw [List.getElem_range] at h4
      rw [← Option.some.inj hw, ← h4]
  rw [at' p u hu, at' q v hv]; omega
theorem sort_pw {l : List Int} : SortTo l l.length ↔ l.Pairwise (· ≤ ·) := by
  rw [List.pairwise_iff_getElem]
  constructor
  · intro h i j hi hj hij
    exact h i j _ _ hij hj (List.getElem?_eq_getElem hi) (List.getElem?_eq_getElem hj)
  · intro h p q u v h1 h2 hu hv
    obtain ⟨a, rfl⟩ := List.getElem?_eq_some_iff.1 hu
    obtain ⟨b, rfl⟩ := List.getElem?_eq_some_iff.1 hv
    exact h p q a b h1
theorem runK_asc (jobs : List JS) : SortTo (runK jobs) (runK jobs).length := by
  rw [sort_pw]
  exact (sort_pw.1 (asc_allK 64)).filter _
theorem state_no {F : FS} {x t : Int} (h : ¬ (0 ≤ x ∧ x < 64 ∧ (F.jobs.getD x.toNat default).added = true)) : stateF F x t = 0 := by unfold stateF jobAt; rw [if_neg h]
theorem state_at {F : FS} {x t : Int} {j : JS} (hx : 0 ≤ x ∧ x < 64) (hj : F.jobs[x.toNat]? = some j) (ha : j.added = true) : stateF F x t = stAt j.B.st t := by
  unfold stateF jobAt; rw [getD_some hj, if_pos ⟨hx.1, hx.2, ha⟩]
theorem tasks_no {F : FS} {x : Int} (h : ¬ (0 ≤ x ∧ x < 64 ∧ (F.jobs.getD x.toNat default).added = true)) : tasksF F x = [] := by unfold tasksF jobAt; rw [if_neg h]
theorem tasks_at {F : FS} {x : Int} {j : JS} (hx : 0 ≤ x ∧ x < 64) (hj : F.jobs[x.toNat]? = some j) (ha : j.added = true) : tasksF F x = j.tasks := by
  unfold tasksF jobAt; rw [getD_some hj, if_pos ⟨hx.1, hx.2, ha⟩]
theorem pq_list0 {p : Nat} {S : QS} {M : Chunk} (hR : InjP p S M) (hS : Sat W w (M :: H :: F)) :
    Calls Try.prog 59 #[.pointer (some ⟨p, 0, none⟩), .int .i64 0] w fun e w' => ∃ (az : Option Addr) (nz kz : Nat) (Z : Chunk), e = .returned (.slice az nz kz) ∧ OwnT encRef 48 2 az nz kz (bandQ S 0) Z ∧ Sat W w' (Z :: M :: H :: F) := by
  obtain ⟨a0, n0, k0, l0, c0, a1, n1, k1, l1, c1, a2, n2, k2, l2, c2, a3, n3, k3, l3, c3, rfl, hO0, hO1, hO2, hO3, hb, hw1, hw2⟩ := hR
  have hS : Sat W _ ([(p, .cells #[.int .i64 S.cap, .slice a0 n0 k0, .slice a1 n1 k1, .slice a2 n2 k2, .slice a3 n3 k3] 114 (0, 0))] :: c0 :: c1 :: c2 :: c3 :: H :: F) := Sat.perm hS (by simp)
  have ht : totB S.bs = n0 + n1 + n2 + n3 := by rw [hb]; unfold totB; simp [hO0.len, hO1.len, hO2.len, hO3.len]; omega
  have hn0 := hO0.len; have hl0 := hO0.le; have hn1 := hO1.len; have hl1 := hO1.le; have hn2 := hO2.len; have hl2 := hO2.le; have hn3 := hO3.len; have hl3 := hO3.le
  refine callsA 22 Try.func59 rfl ?_
  refine seqE <| regionE <| pu1 <| nilO <| thenK_n <| seqE <| seqE <| regionE <| pu10 <| nilO <| thenK_n <| cFf <| skipE <| thenK_n <| seqE <| regionE <| pu5 ?_
  refine sL hS 0 1 (.slice a0 n0 k0) (Try.isAgg52 _) ?_
  refine cX Try.call87 (cl_ref a0 n0 k0 l0 (RdT.flat (hO0.rdAt 1 (by rfl))) (by omega) (Sat.flat hS)) ?_
  rintro _ w_1 ⟨az_4, nz_5, kz_6, Z_7, rfl, hO_8, hS_2⟩
  have hS_3 := Sat.unflat1 hS_2; have hn_az_4 := hO_8.len; have hl_az_4 := hO_8.le
  refine pu1 <| nilO <| thenK_n <| retE <| retT [.slice az_4 nz_5 kz_6] <| ?_
  have hS_9 : Sat W _ (Z_7 :: ([(p, .cells #[.int .i64 S.cap, .slice a0 n0 k0, .slice a1 n1 k1, .slice a2 n2 k2, .slice a3 n3 k3] 114 (0, 0))] ++ (c0 ++ (c1 ++ (c2 ++ c3)))) :: H :: F) := Sat.perm (show Sat W _ (Z_7 :: [(p, .cells #[.int .i64 S.cap, .slice a0 n0 k0, .slice a1 n1 k1, .slice a2 n2 k2, .slice a3 n3 k3] 114 (0, 0))] :: c0 :: c1 :: c2 :: c3 :: H :: F) from hS_3) (by simp)
  exact ⟨_, _, _, _, rfl, by unfold bandQ; rw [if_pos (by decide), hb]; exact hO_8, hS_9⟩
theorem pq_list1 {p : Nat} {S : QS} {M : Chunk} (hR : InjP p S M) (hS : Sat W w (M :: H :: F)) :
    Calls Try.prog 59 #[.pointer (some ⟨p, 0, none⟩), .int .i64 1] w fun e w' => ∃ (az : Option Addr) (nz kz : Nat) (Z : Chunk), e = .returned (.slice az nz kz) ∧ OwnT encRef 48 2 az nz kz (bandQ S 1) Z ∧ Sat W w' (Z :: M :: H :: F) := by
  obtain ⟨a0, n0, k0, l0, c0, a1, n1, k1, l1, c1, a2, n2, k2, l2, c2, a3, n3, k3, l3, c3, rfl, hO0, hO1, hO2, hO3, hb, hw1, hw2⟩ := hR
  have hS : Sat W _ ([(p, .cells #[.int .i64 S.cap, .slice a0 n0 k0, .slice a1 n1 k1, .slice a2 n2 k2, .slice a3 n3 k3] 114 (0, 0))] :: c0 :: c1 :: c2 :: c3 :: H :: F) := Sat.perm hS (by simp)
  have ht : totB S.bs = n0 + n1 + n2 + n3 := by rw [hb]; unfold totB; simp [hO0.len, hO1.len, hO2.len, hO3.len]; omega
  have hn0 := hO0.len; have hl0 := hO0.le; have hn1 := hO1.len; have hl1 := hO1.le; have hn2 := hO2.len; have hl2 := hO2.le; have hn3 := hO3.len; have hl3 := hO3.le
  refine callsA 22 Try.func59 rfl ?_
  refine seqE <| regionE <| pu1 <| nilO <| thenK_n <| seqE <| seqE <| regionE <| pu10 <| nilO <| thenK_n <| cFf <| skipE <| thenK_n <| seqE <| regionE <| pu5 ?_
  refine sL hS 0 2 (.slice a1 n1 k1) (Try.isAgg52 _) ?_
  refine cX Try.call87 (cl_ref a1 n1 k1 l1 (RdT.flat (hO1.rdAt 2 (by rfl))) (by omega) (Sat.flat hS)) ?_
  rintro _ w_1 ⟨az_4, nz_5, kz_6, Z_7, rfl, hO_8, hS_2⟩
  have hS_3 := Sat.unflat1 hS_2; have hn_az_4 := hO_8.len; have hl_az_4 := hO_8.le
  refine pu1 <| nilO <| thenK_n <| retE <| retT [.slice az_4 nz_5 kz_6] <| ?_
  have hS_9 : Sat W _ (Z_7 :: ([(p, .cells #[.int .i64 S.cap, .slice a0 n0 k0, .slice a1 n1 k1, .slice a2 n2 k2, .slice a3 n3 k3] 114 (0, 0))] ++ (c0 ++ (c1 ++ (c2 ++ c3)))) :: H :: F) := Sat.perm (show Sat W _ (Z_7 :: [(p, .cells #[.int .i64 S.cap, .slice a0 n0 k0, .slice a1 n1 k1, .slice a2 n2 k2, .slice a3 n3 k3] 114 (0, 0))] :: c0 :: c1 :: c2 :: c3 :: H :: F) from hS_3) (by simp)
  exact ⟨_, _, _, _, rfl, by unfold bandQ; rw [if_pos (by decide), hb]; exact hO_8, hS_9⟩
theorem pq_list2 {p : Nat} {S : QS} {M : Chunk} (hR : InjP p S M) (hS : Sat W w (M :: H :: F)) :
    Calls Try.prog 59 #[.pointer (some ⟨p, 0, none⟩), .int .i64 2] w fun e w' => ∃ (az : Option Addr) (nz kz : Nat) (Z : Chunk), e = .returned (.slice az nz kz) ∧ OwnT encRef 48 2 az nz kz (bandQ S 2) Z ∧ Sat W w' (Z :: M :: H :: F) := by
  obtain ⟨a0, n0, k0, l0, c0, a1, n1, k1, l1, c1, a2, n2, k2, l2, c2, a3, n3, k3, l3, c3, rfl, hO0, hO1, hO2, hO3, hb, hw1, hw2⟩ := hR
  have hS : Sat W _ ([(p, .cells #[.int .i64 S.cap, .slice a0 n0 k0, .slice a1 n1 k1, .slice a2 n2 k2, .slice a3 n3 k3] 114 (0, 0))] :: c0 :: c1 :: c2 :: c3 :: H :: F) := Sat.perm hS (by simp)
  have ht : totB S.bs = n0 + n1 + n2 + n3 := by rw [hb]; unfold totB; simp [hO0.len, hO1.len, hO2.len, hO3.len]; omega
  have hn0 := hO0.len; have hl0 := hO0.le; have hn1 := hO1.len; have hl1 := hO1.le; have hn2 := hO2.len; have hl2 := hO2.le; have hn3 := hO3.len; have hl3 := hO3.le
  refine callsA 22 Try.func59 rfl ?_
  refine seqE <| regionE <| pu1 <| nilO <| thenK_n <| seqE <| seqE <| regionE <| pu10 <| nilO <| thenK_n <| cFf <| skipE <| thenK_n <| seqE <| regionE <| pu5 ?_
  refine sL hS 0 3 (.slice a2 n2 k2) (Try.isAgg52 _) ?_
  refine cX Try.call87 (cl_ref a2 n2 k2 l2 (RdT.flat (hO2.rdAt 3 (by rfl))) (by omega) (Sat.flat hS)) ?_
  rintro _ w_1 ⟨az_4, nz_5, kz_6, Z_7, rfl, hO_8, hS_2⟩
  have hS_3 := Sat.unflat1 hS_2; have hn_az_4 := hO_8.len; have hl_az_4 := hO_8.le
  refine pu1 <| nilO <| thenK_n <| retE <| retT [.slice az_4 nz_5 kz_6] <| ?_
  have hS_9 : Sat W _ (Z_7 :: ([(p, .cells #[.int .i64 S.cap, .slice a0 n0 k0, .slice a1 n1 k1, .slice a2 n2 k2, .slice a3 n3 k3] 114 (0, 0))] ++ (c0 ++ (c1 ++ (c2 ++ c3)))) :: H :: F) := Sat.perm (show Sat W _ (Z_7 :: [(p, .cells #[.int .i64 S.cap, .slice a0 n0 k0, .slice a1 n1 k1, .slice a2 n2 k2, .slice a3 n3 k3] 114 (0, 0))] :: c0 :: c1 :: c2 :: c3 :: H :: F) from hS_3) (by simp)
  exact ⟨_, _, _, _, rfl, by unfold bandQ; rw [if_pos (by decide), hb]; exact hO_8, hS_9⟩
theorem pq_list3 {p : Nat} {S : QS} {M : Chunk} (hR : InjP p S M) (hS : Sat W w (M :: H :: F)) :
    Calls Try.prog 59 #[.pointer (some ⟨p, 0, none⟩), .int .i64 3] w fun e w' => ∃ (az : Option Addr) (nz kz : Nat) (Z : Chunk), e = .returned (.slice az nz kz) ∧ OwnT encRef 48 2 az nz kz (bandQ S 3) Z ∧ Sat W w' (Z :: M :: H :: F) := by
  obtain ⟨a0, n0, k0, l0, c0, a1, n1, k1, l1, c1, a2, n2, k2, l2, c2, a3, n3, k3, l3, c3, rfl, hO0, hO1, hO2, hO3, hb, hw1, hw2⟩ := hR
  have hS : Sat W _ ([(p, .cells #[.int .i64 S.cap, .slice a0 n0 k0, .slice a1 n1 k1, .slice a2 n2 k2, .slice a3 n3 k3] 114 (0, 0))] :: c0 :: c1 :: c2 :: c3 :: H :: F) := Sat.perm hS (by simp)
  have ht : totB S.bs = n0 + n1 + n2 + n3 := by rw [hb]; unfold totB; simp [hO0.len, hO1.len, hO2.len, hO3.len]; omega
  have hn0 := hO0.len; have hl0 := hO0.le; have hn1 := hO1.len; have hl1 := hO1.le; have hn2 := hO2.len; have hl2 := hO2.le; have hn3 := hO3.len; have hl3 := hO3.le
  refine callsA 22 Try.func59 rfl ?_
  refine seqE <| regionE <| pu1 <| nilO <| thenK_n <| seqE <| seqE <| regionE <| pu10 <| nilO <| thenK_n <| cFf <| skipE <| thenK_n <| seqE <| regionE <| pu5 ?_
  refine sL hS 0 4 (.slice a3 n3 k3) (Try.isAgg52 _) ?_
  refine cX Try.call87 (cl_ref a3 n3 k3 l3 (RdT.flat (hO3.rdAt 4 (by rfl))) (by omega) (Sat.flat hS)) ?_
  rintro _ w_1 ⟨az_4, nz_5, kz_6, Z_7, rfl, hO_8, hS_2⟩
  have hS_3 := Sat.unflat1 hS_2; have hn_az_4 := hO_8.len; have hl_az_4 := hO_8.le
  refine pu1 <| nilO <| thenK_n <| retE <| retT [.slice az_4 nz_5 kz_6] <| ?_
  have hS_9 : Sat W _ (Z_7 :: ([(p, .cells #[.int .i64 S.cap, .slice a0 n0 k0, .slice a1 n1 k1, .slice a2 n2 k2, .slice a3 n3 k3] 114 (0, 0))] ++ (c0 ++ (c1 ++ (c2 ++ c3)))) :: H :: F) := Sat.perm (show Sat W _ (Z_7 :: [(p, .cells #[.int .i64 S.cap, .slice a0 n0 k0, .slice a1 n1 k1, .slice a2 n2 k2, .slice a3 n3 k3] 114 (0, 0))] :: c0 :: c1 :: c2 :: c3 :: H :: F) from hS_3) (by simp)
  exact ⟨_, _, _, _, rfl, by unfold bandQ; rw [if_pos (by decide), hb]; exact hO_8, hS_9⟩
theorem pq_listx {p : Nat} {S : QS} {M : Chunk} (b : Int) (hb : ¬ (0 ≤ b ∧ b < 4)) (hS : Sat W w (M :: H :: F)) :
    Calls Try.prog 59 #[.pointer (some ⟨p, 0, none⟩), .int .i64 b] w fun e w' => ∃ (az : Option Addr) (nz kz : Nat) (Z : Chunk), e = .returned (.slice az nz kz) ∧ OwnT encRef 48 2 az nz kz (bandQ S b) Z ∧ Sat W w' (Z :: M :: H :: F) := by
  refine callsA 22 Try.func59 rfl ?_
  refine seqE <| regionE <| pu1 <| nilO <| thenK_n <| seqE <| seqE <| regionE <| pu7 ?_
  refine sD 11 (b < 0) (fun hc_1 => ?_) (fun hc_1 => ?_)
  · refine pu3 <| nilO <| thenK_n <| cTt <| seqE <| regionE <| pu1 <| nilO <| thenK_n <| retE <| thenK_r <| retT [.slice none 0 0] <| ?_
    have hS_2 := Sat.nilc hS
    exact ⟨_, _, _, _, rfl, by unfold bandQ; rw [if_neg hb]; exact OwnT.nil (fun _ => rfl), hS_2⟩
  refine pu3 <| nilO <| thenK_n <| ?_
  have hc_3 : (b : Int) ≥ 4 := (by omega)
  refine cT _ (decide_eq_true hc_3) ?_
  refine seqE <| regionE <| pu1 <| nilO <| thenK_n <| retE <| thenK_r <| retT [.slice none 0 0] <| ?_
  have hS_4 := Sat.nilc hS
  exact ⟨_, _, _, _, rfl, by unfold bandQ; rw [if_neg hb]; exact OwnT.nil (fun _ => rfl), hS_4⟩
theorem pq_list {W w : World} {p : Nat} {S : QS} {M H : Chunk} {F : List Chunk} (hR : InjP p S M) (b : Int) (hS : Sat W w (M :: H :: F)) :
    Calls Try.prog 59 #[.pointer (some ⟨p, 0, none⟩), .int .i64 b] w fun e w' => ∃ (az : Option Addr) (nz kz : Nat) (Z : Chunk), e = .returned (.slice az nz kz) ∧ OwnT encRef 48 2 az nz kz (bandQ S b) Z ∧ Sat W w' (Z :: M :: H :: F) := by
  by_cases hb : 0 ≤ b ∧ b < 4
  · rcases (by omega : b = 0 ∨ b = 1 ∨ b = 2 ∨ b = 3) with rfl | rfl | rfl | rfl
    · exact pq_list0 hR hS
    · exact pq_list1 hR hS
    · exact pq_list2 hR hS
    · exact pq_list3 hR hS
  · exact pq_listx b hb hS
theorem pf_deque {p : Nat} {F : FS} {M : Chunk} {F0 : List Chunk} (hR : FarmP p F M) {K : Int} (hF : FI F K) (x : Int) (hS : Sat W w (M :: H :: F0)) :
    Calls Try.prog 26 #[.pointer (some ⟨p, 0, none⟩), .int .i64 x] w fun e w' => ∃ (az : Option Addr) (nz kz : Nat) (Z : Chunk), e = .returned (.slice az nz kz) ∧ OwnT encRef 48 2 az nz kz (dequeF F x) Z ∧ Sat W w' (Z :: M :: H :: F0) := by
  obtain ⟨wb, wo, wn, wk, q, m, xs, jm, Wc, Qc, Jc, acs, dcs, jcs, rfl, hOw, hco, hAs, hDs, hQ, hM, hJs⟩ := hR
  have hS_1 : Sat W _ ((Tri p 81 (preP F.cfg wb wo wn wk q m) (([] : List Ref).flatMap encRef) (encStt F.st)) :: Wc :: acs.flatten :: dcs.flatten :: Qc :: Jc :: jcs.flatten :: H :: F0) := Sat.perm hS (by simp)
  have hwl := hOw.len; have hwk := hOw.le; have hcl := core_len hco; have has1 := hAs.1; have hds1 := hDs.1; rw [List.length_map] at has1 hds1; have hjl1 := hJs.l
  have hs1 := hF.st.a; have hs2 := hF.st.b; have hs3 := hF.st.c; have hs4 := hF.st.d; have hs5 := hF.st.e; have hs6 := hF.st.f; have hs7 := hF.st.g; have hKK := hF.fw.k; have hn9 := hF.fw.n; have hal9 := hF.fw.al; have hdl9 := hF.fw.dl; have hjl9 := hF.fw.jl
  refine callsA 18 Try.func26 rfl ?_
  refine seqE <| regionE <| pu1 <| nilO <| thenK_n <| seqE <| seqE <| regionE <| pu2 ?_
  have hS_2 : Sat W _ (((Tri p 81 (preP F.cfg wb wo wn wk q m) (([] : List Ref).flatMap encRef) (encStt F.st)) ++ (Wc ++ (acs.flatten ++ (dcs.flatten ++ (Qc ++ (Jc ++ jcs.flatten)))))) :: H :: F0) := Sat.perm (show Sat W _ ((Tri p 81 (preP F.cfg wb wo wn wk q m) (([] : List Ref).flatMap encRef) (encStt F.st)) :: Wc :: acs.flatten :: dcs.flatten :: Qc :: Jc :: jcs.flatten :: H :: F0) from hS_1) (by simp)
  have hRx_3 : FarmP p F ((Tri p 81 (preP F.cfg wb wo wn wk q m) (([] : List Ref).flatMap encRef) (encStt F.st)) ++ (Wc ++ (acs.flatten ++ (dcs.flatten ++ (Qc ++ (Jc ++ jcs.flatten)))))) := ⟨_, _, _, _, _, _, _, _, _, _, _, _, _, _, rfl, hOw, hco, hAs, hDs, hQ, hM, hJs⟩
  refine cX Try.call51 (pf_worker hRx_3 x (Sat.flat1 hS_2)) ?_
  rintro _ w_4 ⟨rfl, h_5⟩
  have hS_6 := Sat.unflat1 h_5
  have hS_7 : Sat W _ ((Tri p 81 (preP F.cfg wb wo wn wk q m) (([] : List Ref).flatMap encRef) (encStt F.st)) :: Wc :: acs.flatten :: dcs.flatten :: Qc :: Jc :: jcs.flatten :: H :: F0) := Sat.perm hS_6 (by simp)
  refine pu1 <| nilO <| thenK_n <| ?_
  refine cDn (0 ≤ x ∧ x < ((F.ws.length : Nat) : Int)) (fun hc_8 => ?_) (fun hc_8 => ?_)
  rotate_left
  · refine seqE <| regionE <| pu1 <| nilO <| thenK_n <| retE <| thenK_r <| retT [.slice none 0 0] <| ?_
    have hS_35 := Sat.nilc hS_7
    have hS_36 : Sat W _ ([] :: ((Tri p 81 (preP F.cfg wb wo wn wk q m) (([] : List Ref).flatMap encRef) (encStt F.st)) ++ (Wc ++ (acs.flatten ++ (dcs.flatten ++ (Qc ++ (Jc ++ jcs.flatten)))))) :: H :: F0) := Sat.perm (show Sat W _ ([] :: (Tri p 81 (preP F.cfg wb wo wn wk q m) (([] : List Ref).flatMap encRef) (encStt F.st)) :: Wc :: acs.flatten :: dcs.flatten :: Qc :: Jc :: jcs.flatten :: H :: F0) from hS_35) (by simp)
    exact ⟨_, _, _, _, rfl, (by unfold dequeF; rw [if_neg hc_8]; exact (OwnT.nil (enc := encRef) (E := 48) (sz := 2) (fun _ => rfl))), hS_36⟩
  refine skipE <| thenK_n <| seqE <| regionE <| pu3 ?_
  refine sLp hS_7 (ptr_up 0 rfl tri_pre) 8 (.slice (some ⟨wb, wo, none⟩) wn wk) (Try.isAgg79 _) ?_
  refine pu1 ?_
  refine sIdxO hOw x (x).toNat Try.runUnderlying79 Try.sizeOf89 ?_
  intro x_9 b_10 o_11 hx_12 hp_13 hq_14
  obtain ⟨rfl, rfl⟩ := some_addr hq_14
  obtain ⟨v_15, hv_15, hv_150, hv_151, hv_152, hv_153, hv_154⟩ := core_at hco hx_12
  refine pu1 ?_
  refine sLp hS_7 (hp_13.up 1 rfl) 6 (.pointer (some ⟨x_9.d, 0, none⟩)) (Try.isAgg85 _) ?_
  obtain ⟨s_16, c_17, hs_18, hc_19, hR_20⟩ := Obs.get hDs (map_at' hx_12)
  have hS_22 := (hS_7.pick 3 rfl)
  have hS_21 := Sat.openN (A := []) x.toNat hc_19 hS_22
  refine cX Try.call58 (pd_list hR_20 (Sat.flat1 hS_21)) ?_
  rintro _ w_23 ⟨az_26, nz_27, kz_28, Z_29, rfl, hO_30, hS_24⟩
  have hS_25 := Sat.unflat2 hS_24; have hn_az_26 := hO_30.len; have hl_az_26 := hO_30.le
  have hS_31 := ((hS_25.pick 2 rfl).pick 2 rfl)
  have hS_32 := Sat.shutN (d := c_17) (A := []) x.toNat hc_19 hS_31
  rw [set_same hc_19] at hS_32
  refine pu1 <| nilO <| thenK_n <| retE <| retT [.slice az_26 nz_27 kz_28] <| ?_
  have hS_33 := ((((hS_32.pick 4 rfl).pick 4 rfl).pick 4 rfl).pick 4 rfl)
  have hS_34 : Sat W _ (Z_29 :: ((Tri p 81 (preP F.cfg wb wo wn wk q m) (([] : List Ref).flatMap encRef) (encStt F.st)) ++ (Wc ++ (acs.flatten ++ (dcs.flatten ++ (Qc ++ (Jc ++ jcs.flatten)))))) :: H :: F0) := Sat.perm (show Sat W _ (Z_29 :: (Tri p 81 (preP F.cfg wb wo wn wk q m) (([] : List Ref).flatMap encRef) (encStt F.st)) :: Wc :: acs.flatten :: dcs.flatten :: Qc :: Jc :: jcs.flatten :: H :: F0) from hS_33) (by simp)
  exact ⟨_, _, _, _, rfl, (by unfold dequeF dqAt; rw [if_pos hc_8, getD_some hs_18]; exact hO_30), hS_34⟩
theorem pf_queue {p : Nat} {F : FS} {M : Chunk} {F0 : List Chunk} (hR : FarmP p F M) {K : Int} (hF : FI F K) (b : Int) (hS : Sat W w (M :: H :: F0)) :
    Calls Try.prog 27 #[.pointer (some ⟨p, 0, none⟩), .int .i64 b] w fun e w' => ∃ (az : Option Addr) (nz kz : Nat) (Z : Chunk), e = .returned (.slice az nz kz) ∧ OwnT encRef 48 2 az nz kz (bandQ F.q b) Z ∧ Sat W w' (Z :: M :: H :: F0) := by
  obtain ⟨wb, wo, wn, wk, q, m, xs, jm, Wc, Qc, Jc, acs, dcs, jcs, rfl, hOw, hco, hAs, hDs, hQ, hM, hJs⟩ := hR
  have hS_1 : Sat W _ ((Tri p 81 (preP F.cfg wb wo wn wk q m) (([] : List Ref).flatMap encRef) (encStt F.st)) :: Wc :: acs.flatten :: dcs.flatten :: Qc :: Jc :: jcs.flatten :: H :: F0) := Sat.perm hS (by simp)
  have hwl := hOw.len; have hwk := hOw.le; have hcl := core_len hco; have has1 := hAs.1; have hds1 := hDs.1; rw [List.length_map] at has1 hds1; have hjl1 := hJs.l
  have hs1 := hF.st.a; have hs2 := hF.st.b; have hs3 := hF.st.c; have hs4 := hF.st.d; have hs5 := hF.st.e; have hs6 := hF.st.f; have hs7 := hF.st.g; have hKK := hF.fw.k; have hn9 := hF.fw.n; have hal9 := hF.fw.al; have hdl9 := hF.fw.dl; have hjl9 := hF.fw.jl
  refine callsA 13 Try.func27 rfl ?_
  refine seqE <| regionE <| pu1 <| nilO <| thenK_n <| seqE <| seqE <| regionE <| pu1 ?_
  refine cX Try.call45 (p_empty ⟨by omega, by omega⟩ hS_1) ?_
  rintro _ w_2 ⟨rfl, hS_4⟩
  refine nilO <| thenK_n <| cFf <| skipE <| thenK_n <| seqE <| regionE <| pu3 ?_
  refine sLp hS_4 (ptr_up 0 rfl tri_pre) 9 (.pointer (some ⟨q, 0, none⟩)) (Try.isAgg75 _) ?_
  refine pu1 ?_
  have hS_5 := (hS_4.pick 4 rfl)
  refine cX Try.call59 (pq_list hQ b (Sat.flat1 hS_5)) ?_
  rintro _ w_6 ⟨az_9, nz_10, kz_11, Z_12, rfl, hO_13, hS_7⟩
  have hS_8 := Sat.unflat2 hS_7; have hn_az_9 := hO_13.len; have hl_az_9 := hO_13.le
  refine pu1 <| nilO <| thenK_n <| retE <| retT [.slice az_9 nz_10 kz_11] <| ?_
  have hS_14 := (((((hS_8.pick 5 rfl).pick 5 rfl).pick 5 rfl).pick 5 rfl).pick 4 rfl)
  have hS_15 : Sat W _ (Z_12 :: ((Tri p 81 (preP F.cfg wb wo wn wk q m) (([] : List Ref).flatMap encRef) (encStt F.st)) ++ (Wc ++ (acs.flatten ++ (dcs.flatten ++ (Qc ++ (Jc ++ jcs.flatten)))))) :: H :: F0) := Sat.perm (show Sat W _ (Z_12 :: (Tri p 81 (preP F.cfg wb wo wn wk q m) (([] : List Ref).flatMap encRef) (encStt F.st)) :: Wc :: acs.flatten :: dcs.flatten :: Qc :: Jc :: jcs.flatten :: H :: F0) from hS_14) (by simp)
  exact ⟨_, _, _, _, rfl, (by skip; exact hO_13), hS_15⟩
theorem pf_state_0 {p : Nat} {F : FS} {M : Chunk} {F0 : List Chunk} (hR : FarmP p F M) {K : Int} (hF : FI F K) (x : Int) (t : Int) (hk : ¬ (0 ≤ x ∧ x < 64 ∧ (F.jobs.getD x.toNat default).added = true)) (hS : Sat W w (M :: H :: F0)) :
    Calls Try.prog 37 #[.pointer (some ⟨p, 0, none⟩), .int .i64 x, .int .i64 t] w fun e w' => e = .returned (.int .i64 (stateF F x t)) ∧ Sat W w' (M :: H :: F0) := by
  obtain ⟨wb, wo, wn, wk, q, m, xs, jm, Wc, Qc, Jc, acs, dcs, jcs, rfl, hOw, hco, hAs, hDs, hQ, hM, hJs⟩ := hR
  have hS_1 : Sat W _ ((Tri p 81 (preP F.cfg wb wo wn wk q m) (([] : List Ref).flatMap encRef) (encStt F.st)) :: Wc :: acs.flatten :: dcs.flatten :: Qc :: Jc :: jcs.flatten :: H :: F0) := Sat.perm hS (by simp)
  have hwl := hOw.len; have hwk := hOw.le; have hcl := core_len hco; have has1 := hAs.1; have hds1 := hDs.1; rw [List.length_map] at has1 hds1; have hjl1 := hJs.l
  have hs1 := hF.st.a; have hs2 := hF.st.b; have hs3 := hF.st.c; have hs4 := hF.st.d; have hs5 := hF.st.e; have hs6 := hF.st.f; have hs7 := hF.st.g; have hKK := hF.fw.k; have hn9 := hF.fw.n; have hal9 := hF.fw.al; have hdl9 := hF.fw.dl; have hjl9 := hF.fw.jl
  have hg := JobsP.no hJs hk
  refine callsA 29 Try.func37 rfl ?_
  refine seqE <| regionE <| pu1 <| nilO <| thenK_n <| seqE <| seqE <| regionE <| pu1 ?_
  refine cX Try.call45 (p_empty ⟨by omega, by omega⟩ hS_1) ?_
  rintro _ w_2 ⟨rfl, hS_4⟩
  refine pu4 <| gY ?_
  refine sLp hS_4 (ptr_up 0 rfl tri_pre) 10 (.map (some m)) (Try.isAgg78 _) ?_
  refine pu1 <| gY ?_
  refine stepY (.pointer none) rfl rfl (Y_iget (k := x) hS_4 5 hM (by rw [hg]; rfl) Try.runUnderlying78 Try.runUnderlying3 Try.zeroValue90) ?_
  refine pu2 <| nilO <| thenK_n <| cTt <| seqE <| regionE <| pu1 <| nilO <| thenK_n <| retE <| thenK_r <| retT [.int .i64 0] <| ?_
  have hS_5 : Sat W _ (((Tri p 81 (preP F.cfg wb wo wn wk q m) (([] : List Ref).flatMap encRef) (encStt F.st)) ++ (Wc ++ (acs.flatten ++ (dcs.flatten ++ (Qc ++ (Jc ++ jcs.flatten)))))) :: H :: F0) := Sat.perm (show Sat W _ ((Tri p 81 (preP F.cfg wb wo wn wk q m) (([] : List Ref).flatMap encRef) (encStt F.st)) :: Wc :: acs.flatten :: dcs.flatten :: Qc :: Jc :: jcs.flatten :: H :: F0) from hS_4) (by simp)
  exact ⟨congrArg (fun z => Ending.returned (.int .i64 z)) ((state_no hk).symm), hS_5⟩
theorem pf_state_1 {p : Nat} {F : FS} {M : Chunk} {F0 : List Chunk} (hR : FarmP p F M) {K : Int} (hF : FI F K) {j : JS} (x : Int) (t : Int) (hx : 0 ≤ x ∧ x < 64) (hj : F.jobs[x.toNat]? = some j) (ha : j.added = true) (hS : Sat W w (M :: H :: F0)) :
    Calls Try.prog 37 #[.pointer (some ⟨p, 0, none⟩), .int .i64 x, .int .i64 t] w fun e w' => e = .returned (.int .i64 (stateF F x t)) ∧ Sat W w' (M :: H :: F0) := by
  obtain ⟨wb, wo, wn, wk, q, m, xs, jm, Wc, Qc, Jc, acs, dcs, jcs, rfl, hOw, hco, hAs, hDs, hQ, hM, hJs⟩ := hR
  have hS_1 : Sat W _ ((Tri p 81 (preP F.cfg wb wo wn wk q m) (([] : List Ref).flatMap encRef) (encStt F.st)) :: Wc :: acs.flatten :: dcs.flatten :: Qc :: Jc :: jcs.flatten :: H :: F0) := Sat.perm hS (by simp)
  have hwl := hOw.len; have hwk := hOw.le; have hcl := core_len hco; have has1 := hAs.1; have hds1 := hDs.1; rw [List.length_map] at has1 hds1; have hjl1 := hJs.l
  have hs1 := hF.st.a; have hs2 := hF.st.b; have hs3 := hF.st.c; have hs4 := hF.st.d; have hs5 := hF.st.e; have hs6 := hF.st.f; have hs7 := hF.st.g; have hKK := hF.fw.k; have hn9 := hF.fw.n; have hal9 := hF.fw.al; have hdl9 := hF.fw.dl; have hjl9 := hF.fw.jl
  have hjo := hF.fw.j j (List.mem_of_getElem? hj); obtain ⟨hBW, hdl, hb1, hb2⟩ := hjo.b ha
  obtain ⟨nj_2, bj_2, cj_2, hjmj_2, hjcj_2, hJj_2, hgj_2⟩ := JobsP.get hJs (k := x) ⟨by omega, by omega⟩ hj ha
  obtain ⟨taj_2, tnj_2, tkj_2, tlj_2, bbj_2, Tj_2, Mbj_2, rfl, hTj_2, hDj_2, hVj_2, hBj_2, _, hrj_2⟩ := hJj_2.open
  have hS_3 := (hS_1.pick 6 rfl)
  have hS_4 := Sat.openN (A := []) nj_2 hjcj_2 hS_3
  have hS_5 : Sat W _ ([(bj_2, .cells #[.slice taj_2 tnj_2 tkj_2, .int .i64 j.band, .pointer (some ⟨bbj_2, 0, none⟩), .bool (canc j)] 97 (0, 0))] :: Tj_2 :: Mbj_2 :: (jcs.eraseIdx nj_2).flatten :: (Tri p 81 (preP F.cfg wb wo wn wk q m) (([] : List Ref).flatMap encRef) (encStt F.st)) :: Wc :: acs.flatten :: dcs.flatten :: Qc :: Jc :: H :: F0) := Sat.perm hS_4 (by simp)
  have hn_taj_2 := hTj_2.len; have hl_taj_2 := hTj_2.le; have hm_taj_2 := congrArg List.length hVj_2; rw [List.length_map] at hm_taj_2
  refine callsA 29 Try.func37 rfl ?_
  refine seqE <| regionE <| pu1 <| nilO <| thenK_n <| seqE <| seqE <| regionE <| pu1 ?_
  have hS_9 := (hS_5.pick 4 rfl)
  refine cX Try.call45 (p_empty ⟨by omega, by omega⟩ hS_9) ?_
  rintro _ w_6 ⟨rfl, hS_8⟩
  refine pu4 <| gY ?_
  refine sLp hS_8 (ptr_up 0 rfl tri_pre) 10 (.map (some m)) (Try.isAgg78 _) ?_
  refine pu1 <| gY ?_
  refine stepY (.pointer (some ⟨bj_2, 0, none⟩)) rfl rfl (Y_iget (k := x) hS_8 9 hM (by rw [hgj_2]; rfl) Try.runUnderlying78 Try.runUnderlying3 Try.zeroValue90) ?_
  refine pu2 <| nilO <| thenK_n <| cFf <| skipE <| thenK_n <| seqE <| regionE <| pu3 ?_
  refine sLp hS_8 (ptr_up 0 rfl tri_pre) 10 (.map (some m)) (Try.isAgg78 _) ?_
  refine pu1 ?_
  refine stepY (.pointer (some ⟨bj_2, 0, none⟩)) rfl rfl (Y_iget (k := x) hS_8 9 hM (by rw [hgj_2]; rfl) Try.runUnderlying78 Try.runUnderlying3 Try.zeroValue90) ?_
  refine pu2 ?_
  refine sL hS_8 1 2 (.pointer (some ⟨bbj_2, 0, none⟩)) (Try.isAgg91 _) ?_
  refine pu1 ?_
  have hS_10 := (hS_8.pick 3 rfl)
  refine cX Try.call73 (b_state hBj_2 hBW t (Sat.flat1 hS_10)) ?_
  rintro _ w_11 ⟨rfl, hS_12⟩
  have hS_13 := Sat.unflat1 hS_12
  refine pu1 <| nilO <| thenK_n <| retE <| retT [.int .i64 (stAt j.B.st t)] <| ?_
  have hS_17 := ((((hS_13.pick 4 rfl).pick 1 rfl).pick 4 rfl).pick 4 rfl)
  have hS_14 : Sat W _ (([(bj_2, .cells #[.slice taj_2 tnj_2 tkj_2, .int .i64 j.band, .pointer (some ⟨bbj_2, 0, none⟩), .bool (canc j)] 97 (0, 0))] ++ (Tj_2 ++ Mbj_2)) :: (jcs.eraseIdx nj_2).flatten :: (Tri p 81 (preP F.cfg wb wo wn wk q m) (([] : List Ref).flatMap encRef) (encStt F.st)) :: Wc :: acs.flatten :: dcs.flatten :: Qc :: Jc :: H :: F0) := Sat.perm (show Sat W _ ([(bj_2, .cells #[.slice taj_2 tnj_2 tkj_2, .int .i64 j.band, .pointer (some ⟨bbj_2, 0, none⟩), .bool (canc j)] 97 (0, 0))] :: Tj_2 :: Mbj_2 :: (jcs.eraseIdx nj_2).flatten :: (Tri p 81 (preP F.cfg wb wo wn wk q m) (([] : List Ref).flatMap encRef) (encStt F.st)) :: Wc :: acs.flatten :: dcs.flatten :: Qc :: Jc :: H :: F0) from hS_17) (by simp)
  have hS_15 := Sat.shutN (d := ([(bj_2, .cells #[.slice taj_2 tnj_2 tkj_2, .int .i64 j.band, .pointer (some ⟨bbj_2, 0, none⟩), .bool (canc j)] 97 (0, 0))] ++ (Tj_2 ++ Mbj_2))) (A := []) nj_2 hjcj_2 hS_14
  rw [set_same hjcj_2] at hS_15
  have hS_18 : Sat W _ ((Tri p 81 (preP F.cfg wb wo wn wk q m) (([] : List Ref).flatMap encRef) (encStt F.st)) :: Wc :: acs.flatten :: dcs.flatten :: Qc :: Jc :: jcs.flatten :: H :: F0) := ((((((hS_15.pick 6 rfl).pick 6 rfl).pick 6 rfl).pick 6 rfl).pick 6 rfl).pick 6 rfl)
  have hS_20 : Sat W _ (((Tri p 81 (preP F.cfg wb wo wn wk q m) (([] : List Ref).flatMap encRef) (encStt F.st)) ++ (Wc ++ (acs.flatten ++ (dcs.flatten ++ (Qc ++ (Jc ++ jcs.flatten)))))) :: H :: F0) := Sat.perm (show Sat W _ ((Tri p 81 (preP F.cfg wb wo wn wk q m) (([] : List Ref).flatMap encRef) (encStt F.st)) :: Wc :: acs.flatten :: dcs.flatten :: Qc :: Jc :: jcs.flatten :: H :: F0) from hS_18) (by simp)
  exact ⟨congrArg (fun z => Ending.returned (.int .i64 z)) ((state_at hx hj ha).symm), hS_20⟩
theorem pf_state {W w : World} {p : Nat} {F : FS} {M H : Chunk} {F0 : List Chunk} (hR : FarmP p F M) {K : Int} (hF : FI F K) (x t : Int) (hS : Sat W w (M :: H :: F0)) :
    Calls Try.prog 37 #[.pointer (some ⟨p, 0, none⟩), .int .i64 x, .int .i64 t] w fun e w' => e = .returned (.int .i64 (stateF F x t)) ∧ Sat W w' (M :: H :: F0) := by
  by_cases hk : 0 ≤ x ∧ x < 64 ∧ (F.jobs.getD x.toNat default).added = true
  · obtain ⟨h1, h2, h3⟩ := hk
    obtain ⟨j, hj⟩ := at_some hF.fw.jl (k := x.toNat) (by omega)
    rw [getD_some hj] at h3
    exact pf_state_1 hR hF x t ⟨h1, h2⟩ hj h3 hS
  · exact pf_state_0 hR hF x t hk hS
theorem pf_tasks_0 {p : Nat} {F : FS} {M : Chunk} {F0 : List Chunk} (hR : FarmP p F M) {K : Int} (hF : FI F K) (x : Int) (hk : ¬ (0 ≤ x ∧ x < 64 ∧ (F.jobs.getD x.toNat default).added = true)) (hS : Sat W w (M :: H :: F0)) :
    Calls Try.prog 38 #[.pointer (some ⟨p, 0, none⟩), .int .i64 x] w fun e w' => ∃ (az : Option Addr) (nz kz : Nat) (zs : List Task) (C G : Chunk), e = .returned (.slice az nz kz) ∧ OwnT encTask 31 9 az nz kz zs C ∧ (∀ z ∈ zs, Task.Ok [G] z) ∧ zs.map Task.v = tasksF F x ∧ Sat W w' (C :: G :: M :: H :: F0) := by
  obtain ⟨wb, wo, wn, wk, q, m, xs, jm, Wc, Qc, Jc, acs, dcs, jcs, rfl, hOw, hco, hAs, hDs, hQ, hM, hJs⟩ := hR
  have hS_1 : Sat W _ ((Tri p 81 (preP F.cfg wb wo wn wk q m) (([] : List Ref).flatMap encRef) (encStt F.st)) :: Wc :: acs.flatten :: dcs.flatten :: Qc :: Jc :: jcs.flatten :: H :: F0) := Sat.perm hS (by simp)
  have hwl := hOw.len; have hwk := hOw.le; have hcl := core_len hco; have has1 := hAs.1; have hds1 := hDs.1; rw [List.length_map] at has1 hds1; have hjl1 := hJs.l
  have hs1 := hF.st.a; have hs2 := hF.st.b; have hs3 := hF.st.c; have hs4 := hF.st.d; have hs5 := hF.st.e; have hs6 := hF.st.f; have hs7 := hF.st.g; have hKK := hF.fw.k; have hn9 := hF.fw.n; have hal9 := hF.fw.al; have hdl9 := hF.fw.dl; have hjl9 := hF.fw.jl
  have hg := JobsP.no hJs hk
  refine callsA 26 Try.func38 rfl ?_
  refine seqE <| regionE <| pu1 <| nilO <| thenK_n <| seqE <| seqE <| regionE <| pu1 ?_
  refine cX Try.call45 (p_empty ⟨by omega, by omega⟩ hS_1) ?_
  rintro _ w_2 ⟨rfl, hS_4⟩
  refine pu4 <| gY ?_
  refine sLp hS_4 (ptr_up 0 rfl tri_pre) 10 (.map (some m)) (Try.isAgg78 _) ?_
  refine pu1 <| gY ?_
  refine stepY (.pointer none) rfl rfl (Y_iget (k := x) hS_4 5 hM (by rw [hg]; rfl) Try.runUnderlying78 Try.runUnderlying3 Try.zeroValue90) ?_
  refine pu2 <| nilO <| thenK_n <| cTt <| seqE <| regionE <| pu1 <| nilO <| thenK_n <| retE <| thenK_r <| retT [.slice none 0 0] <| ?_
  have hS_6 : Sat W _ (((Tri p 81 (preP F.cfg wb wo wn wk q m) (([] : List Ref).flatMap encRef) (encStt F.st)) ++ (Wc ++ (acs.flatten ++ (dcs.flatten ++ (Qc ++ (Jc ++ jcs.flatten)))))) :: H :: F0) := Sat.perm (show Sat W _ ((Tri p 81 (preP F.cfg wb wo wn wk q m) (([] : List Ref).flatMap encRef) (encStt F.st)) :: Wc :: acs.flatten :: dcs.flatten :: Qc :: Jc :: jcs.flatten :: H :: F0) from hS_4) (by simp)
  have hS_5 := Sat.nilc (Sat.nilc hS_6)
  exact ⟨_, _, _, [], _, _, rfl, OwnT.nil (fun _ => rfl), (fun z hz => by cases hz), (tasks_no hk).symm, hS_5⟩
theorem pf_tasks_1 {p : Nat} {F : FS} {M : Chunk} {F0 : List Chunk} (hR : FarmP p F M) {K : Int} (hF : FI F K) {j : JS} (x : Int) (hx : 0 ≤ x ∧ x < 64) (hj : F.jobs[x.toNat]? = some j) (ha : j.added = true) (hS : Sat W w (M :: H :: F0)) :
    Calls Try.prog 38 #[.pointer (some ⟨p, 0, none⟩), .int .i64 x] w fun e w' => ∃ (az : Option Addr) (nz kz : Nat) (zs : List Task) (C G : Chunk), e = .returned (.slice az nz kz) ∧ OwnT encTask 31 9 az nz kz zs C ∧ (∀ z ∈ zs, Task.Ok [G] z) ∧ zs.map Task.v = tasksF F x ∧ Sat W w' (C :: G :: M :: H :: F0) := by
  obtain ⟨wb, wo, wn, wk, q, m, xs, jm, Wc, Qc, Jc, acs, dcs, jcs, rfl, hOw, hco, hAs, hDs, hQ, hM, hJs⟩ := hR
  have hS_1 : Sat W _ ((Tri p 81 (preP F.cfg wb wo wn wk q m) (([] : List Ref).flatMap encRef) (encStt F.st)) :: Wc :: acs.flatten :: dcs.flatten :: Qc :: Jc :: jcs.flatten :: H :: F0) := Sat.perm hS (by simp)
  have hwl := hOw.len; have hwk := hOw.le; have hcl := core_len hco; have has1 := hAs.1; have hds1 := hDs.1; rw [List.length_map] at has1 hds1; have hjl1 := hJs.l
  have hs1 := hF.st.a; have hs2 := hF.st.b; have hs3 := hF.st.c; have hs4 := hF.st.d; have hs5 := hF.st.e; have hs6 := hF.st.f; have hs7 := hF.st.g; have hKK := hF.fw.k; have hn9 := hF.fw.n; have hal9 := hF.fw.al; have hdl9 := hF.fw.dl; have hjl9 := hF.fw.jl
  have hjo := hF.fw.j j (List.mem_of_getElem? hj); obtain ⟨hBW, hdl, hb1, hb2⟩ := hjo.b ha
  obtain ⟨nj_2, bj_2, cj_2, hjmj_2, hjcj_2, hJj_2, hgj_2⟩ := JobsP.get hJs (k := x) ⟨by omega, by omega⟩ hj ha
  obtain ⟨taj_2, tnj_2, tkj_2, tlj_2, bbj_2, Tj_2, Mbj_2, rfl, hTj_2, hDj_2, hVj_2, hBj_2, _, hrj_2⟩ := hJj_2.open
  have hS_3 := (hS_1.pick 6 rfl)
  have hS_4 := Sat.openN (A := []) nj_2 hjcj_2 hS_3
  have hS_5 : Sat W _ ([(bj_2, .cells #[.slice taj_2 tnj_2 tkj_2, .int .i64 j.band, .pointer (some ⟨bbj_2, 0, none⟩), .bool (canc j)] 97 (0, 0))] :: Tj_2 :: Mbj_2 :: (jcs.eraseIdx nj_2).flatten :: (Tri p 81 (preP F.cfg wb wo wn wk q m) (([] : List Ref).flatMap encRef) (encStt F.st)) :: Wc :: acs.flatten :: dcs.flatten :: Qc :: Jc :: H :: F0) := Sat.perm hS_4 (by simp)
  have hn_taj_2 := hTj_2.len; have hl_taj_2 := hTj_2.le; have hm_taj_2 := congrArg List.length hVj_2; rw [List.length_map] at hm_taj_2
  have hjn9 := hjo.n
  refine callsA 26 Try.func38 rfl ?_
  refine seqE <| regionE <| pu1 <| nilO <| thenK_n <| seqE <| seqE <| regionE <| pu1 ?_
  have hS_9 := (hS_5.pick 4 rfl)
  refine cX Try.call45 (p_empty ⟨by omega, by omega⟩ hS_9) ?_
  rintro _ w_6 ⟨rfl, hS_8⟩
  refine pu4 <| gY ?_
  refine sLp hS_8 (ptr_up 0 rfl tri_pre) 10 (.map (some m)) (Try.isAgg78 _) ?_
  refine pu1 <| gY ?_
  refine stepY (.pointer (some ⟨bj_2, 0, none⟩)) rfl rfl (Y_iget (k := x) hS_8 9 hM (by rw [hgj_2]; rfl) Try.runUnderlying78 Try.runUnderlying3 Try.zeroValue90) ?_
  refine pu2 <| nilO <| thenK_n <| cFf <| skipE <| thenK_n <| seqE <| regionE <| pu3 ?_
  refine sLp hS_8 (ptr_up 0 rfl tri_pre) 10 (.map (some m)) (Try.isAgg78 _) ?_
  refine pu1 ?_
  refine stepY (.pointer (some ⟨bj_2, 0, none⟩)) rfl rfl (Y_iget (k := x) hS_8 9 hM (by rw [hgj_2]; rfl) Try.runUnderlying78 Try.runUnderlying3 Try.zeroValue90) ?_
  refine pu2 ?_
  refine sL hS_8 1 0 (.slice taj_2 tnj_2 tkj_2) (Try.isAgg23 _) ?_
  refine cX Try.call48 (p_copies taj_2 tnj_2 tkj_2 tlj_2 (RdT.flat (hTj_2.up 2 (by rfl))) (fun z hz => (hDj_2 z hz).of_mem (mem_flat1 2 (by rfl))) (by omega) (fun z hz => (hF.a.t j (List.mem_of_getElem? hj) z.v (by rw [← hVj_2]; exact List.mem_map.2 ⟨z, hz, rfl⟩)).2.2.2.2) (Sat.flat hS_8)) ?_
  rintro _ w_10 ⟨az_13, nz_14, kz_15, zs_16, C_17, G_18, rfl, hO_19, hD_20, hV_21, hS_11⟩
  have hS_12 := Sat.unflat2 hS_11; have hn_az_13 := hO_19.len; have hl_az_13 := hO_19.le; have hv_az_13 := congrArg List.length hV_21; rw [List.length_map, List.length_map] at hv_az_13
  refine pu1 <| nilO <| thenK_n <| retE <| retT [.slice az_13 nz_14 kz_15] <| ?_
  have hS_25 := ((((hS_12.pick 6 rfl).pick 6 rfl).pick 6 rfl).pick 6 rfl)
  have hS_22 : Sat W _ (([(bj_2, .cells #[.slice taj_2 tnj_2 tkj_2, .int .i64 j.band, .pointer (some ⟨bbj_2, 0, none⟩), .bool (canc j)] 97 (0, 0))] ++ (Tj_2 ++ Mbj_2)) :: (jcs.eraseIdx nj_2).flatten :: C_17 :: G_18 :: (Tri p 81 (preP F.cfg wb wo wn wk q m) (([] : List Ref).flatMap encRef) (encStt F.st)) :: Wc :: acs.flatten :: dcs.flatten :: Qc :: Jc :: H :: F0) := Sat.perm (show Sat W _ ([(bj_2, .cells #[.slice taj_2 tnj_2 tkj_2, .int .i64 j.band, .pointer (some ⟨bbj_2, 0, none⟩), .bool (canc j)] 97 (0, 0))] :: Tj_2 :: Mbj_2 :: (jcs.eraseIdx nj_2).flatten :: C_17 :: G_18 :: (Tri p 81 (preP F.cfg wb wo wn wk q m) (([] : List Ref).flatMap encRef) (encStt F.st)) :: Wc :: acs.flatten :: dcs.flatten :: Qc :: Jc :: H :: F0) from hS_25) (by simp)
  have hS_23 := Sat.shutN (d := ([(bj_2, .cells #[.slice taj_2 tnj_2 tkj_2, .int .i64 j.band, .pointer (some ⟨bbj_2, 0, none⟩), .bool (canc j)] 97 (0, 0))] ++ (Tj_2 ++ Mbj_2))) (A := []) nj_2 hjcj_2 hS_22
  rw [set_same hjcj_2] at hS_23
  have hS_26 : Sat W _ ((Tri p 81 (preP F.cfg wb wo wn wk q m) (([] : List Ref).flatMap encRef) (encStt F.st)) :: Wc :: acs.flatten :: dcs.flatten :: Qc :: Jc :: jcs.flatten :: C_17 :: G_18 :: H :: F0) := ((((((hS_23.pick 8 rfl).pick 8 rfl).pick 8 rfl).pick 8 rfl).pick 8 rfl).pick 8 rfl)
  have hS_27 := ((hS_26.pick 8 rfl).pick 8 rfl)
  have hS_28 : Sat W _ (C_17 :: G_18 :: ((Tri p 81 (preP F.cfg wb wo wn wk q m) (([] : List Ref).flatMap encRef) (encStt F.st)) ++ (Wc ++ (acs.flatten ++ (dcs.flatten ++ (Qc ++ (Jc ++ jcs.flatten)))))) :: H :: F0) := Sat.perm (show Sat W _ (C_17 :: G_18 :: (Tri p 81 (preP F.cfg wb wo wn wk q m) (([] : List Ref).flatMap encRef) (encStt F.st)) :: Wc :: acs.flatten :: dcs.flatten :: Qc :: Jc :: jcs.flatten :: H :: F0) from hS_27) (by simp)
  exact ⟨_, _, _, _, _, _, rfl, hO_19, hD_20, hV_21.trans (hVj_2.trans (tasks_at hx hj ha).symm), hS_28⟩
theorem pf_tasks {W w : World} {p : Nat} {F : FS} {M H : Chunk} {F0 : List Chunk} (hR : FarmP p F M) {K : Int} (hF : FI F K) (x : Int) (hS : Sat W w (M :: H :: F0)) :
    Calls Try.prog 38 #[.pointer (some ⟨p, 0, none⟩), .int .i64 x] w fun e w' => ∃ (az : Option Addr) (nz kz : Nat) (zs : List Task) (C G : Chunk), e = .returned (.slice az nz kz) ∧ OwnT encTask 31 9 az nz kz zs C ∧ (∀ z ∈ zs, Task.Ok [G] z) ∧ zs.map Task.v = tasksF F x ∧ Sat W w' (C :: G :: M :: H :: F0) := by
  by_cases hk : 0 ≤ x ∧ x < 64 ∧ (F.jobs.getD x.toNat default).added = true
  · obtain ⟨h1, h2, h3⟩ := hk
    obtain ⟨j, hj⟩ := at_some hF.fw.jl (k := x.toNat) (by omega)
    rw [getD_some hj] at h3
    exact pf_tasks_1 hR hF x ⟨h1, h2⟩ hj h3 hS
  · exact pf_tasks_0 hR hF x hk hS
theorem pf_jobs {p : Nat} {F : FS} {M : Chunk} {F0 : List Chunk} (hR : FarmP p F M) {K : Int} (hF : FI F K) (h12j : (runK F.jobs).length ≤ 12) (hS : Sat W w (M :: H :: F0)) :
    Calls Try.prog 30 #[.pointer (some ⟨p, 0, none⟩)] w fun e w' => ∃ (az : Option Addr) (nz kz : Nat) (Z : Chunk), e = .returned (.slice az nz kz) ∧ OwnT encI 3 1 az nz kz (runK F.jobs) Z ∧ Sat W w' (Z :: M :: H :: F0) := by
  obtain ⟨wb, wo, wn, wk, q, m, xs, jm, Wc, Qc, Jc, acs, dcs, jcs, rfl, hOw, hco, hAs, hDs, hQ, hM, hJs⟩ := hR
  have hS_1 : Sat W _ ((Tri p 81 (preP F.cfg wb wo wn wk q m) (([] : List Ref).flatMap encRef) (encStt F.st)) :: Wc :: acs.flatten :: dcs.flatten :: Qc :: Jc :: jcs.flatten :: H :: F0) := Sat.perm hS (by simp)
  have hwl := hOw.len; have hwk := hOw.le; have hcl := core_len hco; have has1 := hAs.1; have hds1 := hDs.1; rw [List.length_map] at has1 hds1; have hjl1 := hJs.l
  have hs1 := hF.st.a; have hs2 := hF.st.b; have hs3 := hF.st.c; have hs4 := hF.st.d; have hs5 := hF.st.e; have hs6 := hF.st.f; have hs7 := hF.st.g; have hKK := hF.fw.k; have hn9 := hF.fw.n; have hal9 := hF.fw.al; have hdl9 := hF.fw.dl; have hjl9 := hF.fw.jl
  refine callsA 27 Try.func30 rfl ?_
  refine seqE <| regionE <| pu1 <| nilO <| thenK_n <| seqE <| seqE <| regionE <| pu1 ?_
  refine cX Try.call45 (p_empty ⟨by omega, by omega⟩ hS_1) ?_
  rintro _ w_2 ⟨rfl, hS_4⟩
  refine nilO <| thenK_n <| cFf <| skipE <| thenK_n <| seqE <| regionE <| pu1 <| nilO <| thenK_n <| seqE <| seqE <| regionE <| pu3 ?_
  refine sLp hS_4 (ptr_up 0 rfl tri_pre) 10 (.map (some m)) (Try.isAgg78 _) ?_
  refine sRangeI hS_4 5 hM Try.runUnderlying78 ?_
  intro it_7 ci_8 w_5 hR_9 hS_6
  refine nilO <| thenK_n <| blockE ?_
  have hS_10 := Sat.nilc hS_6
  have hO_11 := OwnT.nil (enc := encI) (E := 3) (sz := 1) (fun _ => rfl)
  refine loopA (γ := (List (Int × Value)) × (Option (Int × Value)) × Chunk × (List Int) × (Option Addr) × Nat × Nat × Chunk) (fun ⟨rs, lt, ci, zs, azs, nzs, kzs, czs⟩ => [(12, .pointer (some ⟨it_7, 0, none⟩)), (3, .slice azs nzs kzs)]) (fun ⟨rs, lt, ci, zs, azs, nzs, kzs, czs⟩ w => Sat W w (czs :: ci :: (Tri p 81 (preP F.cfg wb wo wn wk q m) (([] : List Ref).flatMap encRef) (encStt F.st)) :: Wc :: acs.flatten :: dcs.flatten :: Qc :: Jc :: jcs.flatten :: H :: F0) ∧ RngI it_7 m (kvJ jm) rs lt Jc ci ∧ RestJ jm rs ∧ (OwnT encI 3 1 azs nzs kzs zs czs) ∧ ((zs ++ keysR F.jobs rs).Perm (runK F.jobs))) (fun ⟨rs, lt, ci, zs, azs, nzs, kzs, czs⟩ => rs.length) ((kvJ jm), none, ci_8, [], none, 0, 0, []) ⟨hS_10, hR_9, (RestJ.all jm), hO_11, (keysR_all hF.fw hJs)⟩ ?_
  rintro ⟨rs, lt, ci, zs, azs, nzs, kzs, czs⟩ ρ w_12 ⟨hS_13, hRg, hRJ, hOz, hPj⟩
  have hnn9 := sumJ_nn (jobs := F.jobs) (rs := rs)
  have hzl0 : zs.length ≤ 12 := by have h9 := hPj.length_eq; rw [List.length_append] at h9; omega
  have hzn0 := hOz.len
  refine seqE <| regionE ?_
  refine sNextI hS_13 7 1 hRg (fun hn_15 => ?_) (fun la_16 q_17 lb_18 ci_19 w_14 he_20 hR_21 hS_22 => ?_)
  · refine pu1 <| nilO <| thenK_n <| seqE <| cFf <| exitE <| thenK_x <| thenK_x <| blockK_x <| thenK_n <| seqE ?_
    have hfin9 : zs.Perm (runK F.jobs) := by rw [hn_15] at hPj; simpa [keysR] using hPj
    have hzl9 := hfin9.length_eq; have hzl8 := hOz.len
    refine regionE <| pu1 ?_
    refine cX Try.call65 (q_sort hOz (by omega) hS_13) ?_
    rintro _ w_27 ⟨ys_29, C_30, rfl, hO_31, hP_32, hA_33, hS_28⟩
    refine nilO <| thenK_n <| seqE <| regionE <| pu2 <| nilO <| thenK_n <| retE <| retT [.slice azs nzs kzs] <| ?_
    have hS_34 := (hS_28.dropAt 1 rfl)
    have hS_35 : Sat W _ (C_30 :: ((Tri p 81 (preP F.cfg wb wo wn wk q m) (([] : List Ref).flatMap encRef) (encStt F.st)) ++ (Wc ++ (acs.flatten ++ (dcs.flatten ++ (Qc ++ (Jc ++ jcs.flatten)))))) :: H :: F0) := Sat.perm (show Sat W _ (C_30 :: (Tri p 81 (preP F.cfg wb wo wn wk q m) (([] : List Ref).flatMap encRef) (encStt F.st)) :: Wc :: acs.flatten :: dcs.flatten :: Qc :: Jc :: jcs.flatten :: H :: F0) from hS_34) (by simp)
    exact ⟨_, _, _, _, rfl, (by rw [← show ys_29 = runK F.jobs from asc_unique (hP_32.trans hfin9) hA_33 (runK_asc F.jobs)]; exact hO_31), hS_35⟩
  obtain ⟨k_23, b_24, rfl, hm_25, hJ_26⟩ := hRJ.take he_20
  refine pu1 <| nilO <| thenK_n <| seqE <| cTt <| skipE <| thenK_n <| blockE <| seqE <| regionE ?_
  refine sEntryI (q := (k_23, ptrV b_24)) hS_22 7 1 hR_21 ?_
  obtain ⟨nj_36, cj_36, j_37, hjmj_36, hjcj_36, hJj_36, hj_38, ha_39, hj_38_1, hj_38_2⟩ := JobsP.mem hJs hm_25
  obtain ⟨taj_36, tnj_36, tkj_36, tlj_36, bbj_36, Tj_36, Mbj_36, rfl, hTj_36, hDj_36, hVj_36, hBj_36, _, hrj_36⟩ := hJj_36.open
  have hS_42 := (hS_22.pick 8 rfl)
  have hS_43 := Sat.openN (A := []) nj_36 hjcj_36 hS_42
  have hS_44 : Sat W _ ([(b_24, .cells #[.slice taj_36 tnj_36 tkj_36, .int .i64 j_37.band, .pointer (some ⟨bbj_36, 0, none⟩), .bool (canc j_37)] 97 (0, 0))] :: Tj_36 :: Mbj_36 :: (jcs.eraseIdx nj_36).flatten :: czs :: ci_19 :: (Tri p 81 (preP F.cfg wb wo wn wk q m) (([] : List Ref).flatMap encRef) (encStt F.st)) :: Wc :: acs.flatten :: dcs.flatten :: Qc :: Jc :: H :: F0) := Sat.perm hS_43 (by simp)
  have hjo_j_37 := hF.fw.j j_37 (List.mem_of_getElem? hj_38); obtain ⟨hBW_40, hdl_41, _, _⟩ := hjo_j_37.b ha_39; have hjn_j_37 := hjo_j_37.n
  have hn_taj_36 := hTj_36.len; have hm_taj_36 := congrArg List.length hVj_36; rw [List.length_map] at hm_taj_36
  refine pu4 <| nilO <| thenK_n <| seqE <| regionE <| pu1 ?_
  have hS_45 := (((hS_44.pick 2 rfl).pick 2 rfl).pick 2 rfl)
  have hS_46 : Sat W _ (([(b_24, .cells #[.slice taj_36 tnj_36 tkj_36, .int .i64 j_37.band, .pointer (some ⟨bbj_36, 0, none⟩), .bool (canc j_37)] 97 (0, 0))] ++ (Tj_36 ++ Mbj_36)) :: (jcs.eraseIdx nj_36).flatten :: czs :: ci_19 :: (Tri p 81 (preP F.cfg wb wo wn wk q m) (([] : List Ref).flatMap encRef) (encStt F.st)) :: Wc :: acs.flatten :: dcs.flatten :: Qc :: Jc :: H :: F0) := Sat.perm (show Sat W _ ([(b_24, .cells #[.slice taj_36 tnj_36 tkj_36, .int .i64 j_37.band, .pointer (some ⟨bbj_36, 0, none⟩), .bool (canc j_37)] 97 (0, 0))] :: Tj_36 :: Mbj_36 :: (jcs.eraseIdx nj_36).flatten :: czs :: ci_19 :: (Tri p 81 (preP F.cfg wb wo wn wk q m) (([] : List Ref).flatMap encRef) (encStt F.st)) :: Wc :: acs.flatten :: dcs.flatten :: Qc :: Jc :: H :: F0) from hS_45) (by simp)
  refine cX Try.call64 (p_running (s := j_37) (JobP.mk (s := j_37) hTj_36 hDj_36 hVj_36 hBj_36 ha_39 hrj_36 rfl) hBW_40 hdl_41 hS_46) ?_
  rintro _ w_49 ⟨rfl, hS_47⟩
  have hS_48 : Sat W _ ([(b_24, .cells #[.slice taj_36 tnj_36 tkj_36, .int .i64 j_37.band, .pointer (some ⟨bbj_36, 0, none⟩), .bool (canc j_37)] 97 (0, 0))] :: Tj_36 :: Mbj_36 :: (jcs.eraseIdx nj_36).flatten :: czs :: ci_19 :: (Tri p 81 (preP F.cfg wb wo wn wk q m) (([] : List Ref).flatMap encRef) (encStt F.st)) :: Wc :: acs.flatten :: dcs.flatten :: Qc :: Jc :: H :: F0) := Sat.perm hS_47 (by simp)
  refine nilO <| thenK_n <| ?_
  refine cB j_37.running (fun hc_50 => ?_) (fun hc_50 => ?_)
  rotate_left
  · refine skipE <| blockK_n <| thenK_n <| ?_
    have hS_69 := ((((hS_48.pick 3 rfl).pick 3 rfl).pick 3 rfl).pick 3 rfl)
    have hS_66 : Sat W _ (([(b_24, .cells #[.slice taj_36 tnj_36 tkj_36, .int .i64 j_37.band, .pointer (some ⟨bbj_36, 0, none⟩), .bool (canc j_37)] 97 (0, 0))] ++ (Tj_36 ++ Mbj_36)) :: (jcs.eraseIdx nj_36).flatten :: czs :: ci_19 :: (Tri p 81 (preP F.cfg wb wo wn wk q m) (([] : List Ref).flatMap encRef) (encStt F.st)) :: Wc :: acs.flatten :: dcs.flatten :: Qc :: Jc :: H :: F0) := Sat.perm (show Sat W _ ([(b_24, .cells #[.slice taj_36 tnj_36 tkj_36, .int .i64 j_37.band, .pointer (some ⟨bbj_36, 0, none⟩), .bool (canc j_37)] 97 (0, 0))] :: Tj_36 :: Mbj_36 :: (jcs.eraseIdx nj_36).flatten :: czs :: ci_19 :: (Tri p 81 (preP F.cfg wb wo wn wk q m) (([] : List Ref).flatMap encRef) (encStt F.st)) :: Wc :: acs.flatten :: dcs.flatten :: Qc :: Jc :: H :: F0) from hS_69) (by simp)
    have hS_67 := Sat.shutN (d := ([(b_24, .cells #[.slice taj_36 tnj_36 tkj_36, .int .i64 j_37.band, .pointer (some ⟨bbj_36, 0, none⟩), .bool (canc j_37)] 97 (0, 0))] ++ (Tj_36 ++ Mbj_36))) (A := []) nj_36 hjcj_36 hS_66
    rw [set_same hjcj_36] at hS_67
    have hkt := keysR_take he_20 hPj; rw [show runJ9 F.jobs k_23 = false from (by unfold runJ9; rw [getD_some hj_38]; exact Bool.eq_false_iff.2 hc_50)] at hkt
    simp only [if_true, Bool.false_eq_true, if_false, List.append_nil] at hkt
    have hS_70 : Sat W _ ((Tri p 81 (preP F.cfg wb wo wn wk q m) (([] : List Ref).flatMap encRef) (encStt F.st)) :: Wc :: acs.flatten :: dcs.flatten :: Qc :: Jc :: jcs.flatten :: czs :: ci_19 :: H :: F0) := ((((((hS_67.pick 8 rfl).pick 8 rfl).pick 8 rfl).pick 8 rfl).pick 8 rfl).pick 8 rfl)
    have hS_71 := ((hS_70.pick 8 rfl).pick 8 rfl)
    have hlen9 : ((la_16 ++ lb_18)).length < rs.length := by rw [he_20]; simp only [List.length_append, List.length_cons]; omega
    exact ⟨((la_16 ++ lb_18), (some (k_23, ptrV b_24)), ci_19, zs, azs, nzs, kzs, czs), by first | exact hlen9 | (dsimp only; exact hlen9), alA, hS_71, hR_21, hJ_26, hOz, hkt⟩
  refine regionE <| pu2 ?_
  refine sBS hS_48 #[.int .i64 k_23] Try.runUnderlying22 Try.sizeOf3 Try.zeroValue3 ?_
  intro b_51 w_52 hS_53
  refine sApp (nb := 8) hS_53 hOz 5 (RdT.blk (enc := encI) (sz := 1) (xs := [k_23]) (fun _ => rfl) 1 0 rfl rfl rfl (by omega)) Try.underlying22 (i := Try.t3) (by kernel_rfl) (fun _ => rfl) ?_
  intro a_54 cap_55 c_56 w_57 hO_58 hS_59
  refine pu1 <| nilO <| blockK_n <| thenK_n <| ?_
  have hS_63 := ((((hS_59.pick 4 rfl).pick 4 rfl).pick 4 rfl).pick 4 rfl)
  have hS_60 : Sat W _ (([(b_24, .cells #[.slice taj_36 tnj_36 tkj_36, .int .i64 j_37.band, .pointer (some ⟨bbj_36, 0, none⟩), .bool (canc j_37)] 97 (0, 0))] ++ (Tj_36 ++ Mbj_36)) :: (jcs.eraseIdx nj_36).flatten :: [(b_51, .cells #[.int .i64 k_23] 3 (0, 0))] :: c_56 :: ci_19 :: (Tri p 81 (preP F.cfg wb wo wn wk q m) (([] : List Ref).flatMap encRef) (encStt F.st)) :: Wc :: acs.flatten :: dcs.flatten :: Qc :: Jc :: H :: F0) := Sat.perm (show Sat W _ ([(b_24, .cells #[.slice taj_36 tnj_36 tkj_36, .int .i64 j_37.band, .pointer (some ⟨bbj_36, 0, none⟩), .bool (canc j_37)] 97 (0, 0))] :: Tj_36 :: Mbj_36 :: (jcs.eraseIdx nj_36).flatten :: [(b_51, .cells #[.int .i64 k_23] 3 (0, 0))] :: c_56 :: ci_19 :: (Tri p 81 (preP F.cfg wb wo wn wk q m) (([] : List Ref).flatMap encRef) (encStt F.st)) :: Wc :: acs.flatten :: dcs.flatten :: Qc :: Jc :: H :: F0) from hS_63) (by simp)
  have hS_61 := Sat.shutN (d := ([(b_24, .cells #[.slice taj_36 tnj_36 tkj_36, .int .i64 j_37.band, .pointer (some ⟨bbj_36, 0, none⟩), .bool (canc j_37)] 97 (0, 0))] ++ (Tj_36 ++ Mbj_36))) (A := []) nj_36 hjcj_36 hS_60
  rw [set_same hjcj_36] at hS_61
  have hkt := keysR_take he_20 hPj; rw [show runJ9 F.jobs k_23 = true from (by unfold runJ9; rw [getD_some hj_38]; exact hc_50)] at hkt
  simp only [if_true, Bool.false_eq_true, if_false, List.append_nil] at hkt
  have hS_64 : Sat W _ ((Tri p 81 (preP F.cfg wb wo wn wk q m) (([] : List Ref).flatMap encRef) (encStt F.st)) :: Wc :: acs.flatten :: dcs.flatten :: Qc :: Jc :: jcs.flatten :: [(b_51, .cells #[.int .i64 k_23] 3 (0, 0))] :: c_56 :: ci_19 :: H :: F0) := ((((((hS_61.pick 9 rfl).pick 9 rfl).pick 9 rfl).pick 9 rfl).pick 9 rfl).pick 9 rfl)
  have hS_65 := (((hS_64.pick 9 rfl).pick 9 rfl).dropAt 9 rfl)
  have hlen9 : ((la_16 ++ lb_18)).length < rs.length := by rw [he_20]; simp only [List.length_append, List.length_cons]; omega
  exact ⟨((la_16 ++ lb_18), (some (k_23, ptrV b_24)), ci_19, (zs ++ [k_23]), a_54, (nzs + 1), cap_55, c_56), by first | exact hlen9 | (dsimp only; exact hlen9), alA, hS_65, hR_21, hJ_26, hO_58, hkt⟩
end Go.Proofs.Ytegmennaekipaaa
