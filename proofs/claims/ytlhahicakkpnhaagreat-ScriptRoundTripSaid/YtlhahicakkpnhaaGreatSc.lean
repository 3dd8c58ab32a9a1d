import Derived.Test.YtlhahicakkpnhaaGreatShort
import Derived.Test.YtlhahicakkpnhaaGreatTri
import Derived.Test.YtlhahicakkpnhaaGreatRowS
import Derived.Test.YtlhahicakkpnhaaGreatMap
import Derived.Test.YtlhahicakkpnhaaGreatProg
namespace Go.Proofs.YtlhahicakkpnhaaGreat
open Go Go.E
set_option linter.unusedVariables false
set_option linter.unusedSimpArgs false
set_option linter.unnecessarySimpa false
set_option maxRecDepth 100000
set_option maxHeartbeats 2000000
variable {W w : World} {H : Chunk} {F : List Chunk}

/-- A slice: its header and what it holds. -/
structure Sl (α : Type) where
  a : Option Addr
  n : Nat
  k : Nat
  l : List α
structure Ent where
  kind : Int
  worker : Int
  arg : Int
  deriving DecidableEq
def encEnt (x : Ent) : List Value := [.int .i64 x.kind, .int .i64 x.worker, .int .i64 x.arg]
structure Plane where
  w : Int
  h : Int
  max_ : Int
  pix : Sl Int
def encPlane (x : Plane) : List Value := [.int .i64 x.w, .int .i64 x.h, .int .i64 x.max_, .slice x.pix.a x.pix.n x.pix.k]
structure PlaneV where
  w : Int
  h : Int
  max_ : Int
  pix : List Int
  deriving DecidableEq
def Plane.v (x : Plane) : PlaneV := ⟨x.w, x.h, x.max_, x.pix.l⟩
structure Plane.Ok (cs : List Chunk) (q : Plane) : Prop where
  pix : RdT encI 1 cs q.pix.a q.pix.n q.pix.k q.pix.l
theorem Plane.Ok.of_mem {cs cs' : List Chunk} {x : Plane} (h : Plane.Ok cs x) (hm : ∀ p ∈ cs.flatten, p ∈ cs'.flatten) : Plane.Ok cs' x := ⟨h.pix.of_mem hm⟩
structure Ans where
  err : Int
  job : Int
  statusState : Int
  statusDone : Int
  statusTotal : Int
  statusErr : Int
  planes : Sl Plane
def encAns (x : Ans) : List Value := [.int .i64 x.err, .int .i64 x.job, .int .i64 x.statusState, .int .i64 x.statusDone, .int .i64 x.statusTotal, .int .i64 x.statusErr, .slice x.planes.a x.planes.n x.planes.k]
structure AnsV where
  err : Int
  job : Int
  statusState : Int
  statusDone : Int
  statusTotal : Int
  statusErr : Int
  planes : List PlaneV
  deriving DecidableEq
def Ans.v (x : Ans) : AnsV := ⟨x.err, x.job, x.statusState, x.statusDone, x.statusTotal, x.statusErr, x.planes.l.map Plane.v⟩
structure Ans.Ok (cs : List Chunk) (q : Ans) : Prop where
  planes : RdT encPlane 4 cs q.planes.a q.planes.n q.planes.k q.planes.l
  planesD : ∀ z ∈ q.planes.l, Plane.Ok cs z
theorem Ans.Ok.of_mem {cs cs' : List Chunk} {x : Ans} (h : Ans.Ok cs x) (hm : ∀ p ∈ cs.flatten, p ∈ cs'.flatten) : Ans.Ok cs' x := ⟨h.planes.of_mem hm, fun y hy => (h.planesD y hy).of_mem hm⟩
structure PW where
  phase : Int
  heldJob : Int
  heldTask : Int
  attempt : Int
  row : Int
  arena : Option Addr
  deque : Option Addr
  deriving DecidableEq
def encPW (x : PW) : List Value := [.int .i64 x.phase, .int .i64 x.heldJob, .int .i64 x.heldTask, .int .i64 x.attempt, .int .i64 x.row, .pointer x.arena, .pointer x.deque]
structure Ref where
  job : Int
  task : Int
  deriving DecidableEq
def encRef (x : Ref) : List Value := [.int .i64 x.job, .int .i64 x.task]

/-! ### entries and their bytes -/
def entP (e : Ent) : Prop := 0 ≤ e.kind ∧ e.kind < 7 ∧ 0 ≤ e.worker ∧ e.worker ≤ 255 ∧ 0 ≤ e.arg ∧ e.arg ≤ 255
instance (e : Ent) : Decidable (entP e) := by unfold entP; infer_instance
def entB (e : Ent) : List Int := [e.kind % 256, e.worker % 256, e.arg % 256]
def okE (l : List Ent) : Bool := l.all fun e => decide (entP e)
def codeE (l : List Ent) : Int := if 65536 < l.length then 5 else if okE l = true then 0 else 2
def bytE (l : List Ent) : List Int := if codeE l = 0 then l.flatMap entB else []
def decS : List Int → List Ent
  | a :: b :: c :: l => ⟨a.tmod 7, b, c⟩ :: decS l
  | _ => []
theorem decS_short : ∀ {l : List Int}, l.length < 3 → decS l = []
  | [], _ => rfl
  | [_], _ => rfl
  | [_, _], _ => rfl
  | _ :: _ :: _ :: _, h => by simp at h; omega
theorem decS_at {l : List Int} {x y z : Int} (h0 : l[0]? = some x) (h1 : l[1]? = some y) (h2 : l[2]? = some z) : decS l = ⟨x.tmod 7, y, z⟩ :: decS (l.drop 3) := by
  match l, h0, h1, h2 with
  | a :: b :: c :: l, h0, h1, h2 => simp at h0 h1 h2; subst h0; subst h1; subst h2; rfl
theorem decS_len : ∀ (n : Nat) (l : List Int), l.length < n → (decS l).length = l.length / 3
  | 0, _, h => by omega
  | n + 1, l, h => by
    match l with
    | [] => rfl
    | [_] => simp [decS]
    | [_, _] => simp [decS]
    | a :: b :: c :: l => simp only [List.length_cons] at h; simp only [decS, List.length_cons, decS_len n l (by omega)]; omega
theorem entB_bytes (e : Ent) : Bytes (entB e) := by intro b hb; simp only [entB, List.mem_cons, List.not_mem_nil, or_false] at hb; rcases hb with rfl | rfl | rfl <;> omega
theorem flat_bytes (l : List Ent) : Bytes (l.flatMap entB) := by
  intro b hb
  obtain ⟨e, _, h⟩ := List.mem_flatMap.1 hb
  exact entB_bytes e b h
theorem bytE_bytes (l : List Ent) : Bytes (bytE l) := by
  unfold bytE
  split
  · exact flat_bytes l
  · intro b hb; cases hb
theorem dec_enc : ∀ l : List Ent, okE l = true → decS (l.flatMap entB) = l
  | [], _ => rfl
  | e :: l, h => by
    simp only [okE, List.all_cons, Bool.and_eq_true, decide_eq_true_eq] at h
    have h1 := h.1
    unfold entP at h1
    show decS (e.kind % 256 :: e.worker % 256 :: e.arg % 256 :: l.flatMap entB) = e :: l
    simp only [decS]
    rw [dec_enc l h.2]
    obtain ⟨k, w, a⟩ := e
    dsimp only at h1
    rw [show (k % 256).tmod 7 = k by rw [Int.tmod_eq_emod_of_nonneg (by omega)]; omega, show w % 256 = w by omega, show a % 256 = a by omega]
theorem ok_dec : ∀ (n : Nat) (l : List Int), l.length < n → Bytes l → okE (decS l) = true
  | 0, _, h, _ => by omega
  | n + 1, l, h, hb => by
    match l, h, hb with
    | [], _, _ => rfl
    | [_], _, _ => rfl
    | [_, _], _, _ => rfl
    | a :: b :: c :: l, h, hb =>
      have ha := hb a (by simp); have h2 := hb b (by simp); have h3 := hb c (by simp)
      simp only [List.length_cons] at h
      simp only [decS, okE, List.all_cons, Bool.and_eq_true, decide_eq_true_eq]
      refine ⟨?_, ok_dec n l (by omega) (fun x hx => hb x (by simp [hx]))⟩
      unfold entP
      dsimp only
      rw [Int.tmod_eq_emod_of_nonneg (by omega)]
      omega
theorem codeE_ok {l : List Ent} (h : l.length ≤ 65536) (ho : okE l = true) : codeE l = 0 := by unfold codeE; rw [if_neg (by omega), if_pos ho]
theorem bytE_ok {l : List Ent} (h : codeE l = 0) : bytE l = l.flatMap entB := by unfold bytE; rw [if_pos h]
theorem codeE_okE {l : List Ent} (h : codeE l = 0) : okE l = true := by
  unfold codeE at h
  split at h
  · omega
  · split at h
    · assumption
    · omega
theorem flatE_len (l : List Ent) : (l.flatMap entB).length = 3 * l.length := by
  induction l with
  | nil => rfl
  | cons a l ih => rw [List.flatMap_cons, List.length_append, ih]; simp [entB]; omega
theorem bytE_len (l : List Ent) : (bytE l).length ≤ 196608 := by
  by_cases h : codeE l = 0
  · rw [bytE_ok h, flatE_len]
    unfold codeE at h
    split at h <;> omega
  · unfold bytE; rw [if_neg h]; simp
theorem Bytes.dropTake {l : List Int} (h : Bytes l) (k n : Nat) : Bytes ((l.drop k).take n) := fun b hb => h b (List.mem_of_mem_drop (List.mem_of_mem_take hb))
theorem dropTake_all {l : List Int} {n k : Nat} (h : l.length = n) : (l.drop k).take (n - k) = l.drop k := List.take_of_length_le (by simp; omega)
theorem all_ent {l : List Ent} {i : Nat} {e : Ent} (h : okE (l.take i) = true) (hx : l[i]? = some e) (he : entP e) : okE (l.take (i + 1)) = true := by
  rw [List.take_add_one, hx, Option.toList_some]; unfold okE at h ⊢; rw [List.all_append, h]; simp [he]
theorem not_ent {l : List Ent} {i : Nat} {e : Ent} (hx : l[i]? = some e) (he : ¬ entP e) : okE l = false := by
  rw [← Bool.not_eq_true]; intro h; unfold okE at h; exact he (of_decide_eq_true (List.all_eq_true.1 h e (List.mem_of_getElem? hx)))
theorem flat_snoc {l : List Ent} {i : Nat} {e : Ent} (hx : l[i]? = some e) : (l.take (i + 1)).flatMap entB = (l.take i).flatMap entB ++ entB e := by
  rw [List.take_add_one, hx, Option.toList_some, List.flatMap_append]; simp
theorem p30_dec (ab : Option Addr) (nb kb : Nat) (b : List Int) (hb : RdT encB 1 [H] ab nb kb b) (bd : Bytes b) (hnb : nb ≤ 1000000000) (hS : Sat W w (H :: F)) :
    Calls Tryz.prog 10 #[.slice ab nb kb] w fun e w' => ∃ (az : Option Addr) (nz kz : Nat) (G : Chunk), e = .returned (.slice az nz kz) ∧ OwnT encEnt 37 3 az nz kz (decS b) G ∧ Sat W w' (G :: H :: F) := by
  have hl_b := hb.le; have hn_b := hb.len
  refine callsA 27 Tryz.func10 rfl ?_
  refine seqE <| regionE <| pu1 <| nilO <| thenK_n <| seqE <| regionE <| pu1 <| nilO <| thenK_n <| seqE <| blockE ?_
  have hS_1 := Sat.nilc hS
  have hO_2 := OwnT.nil (enc := encEnt) (E := 37) (sz := 3) (fun _ => rfl)
  refine loopA (γ := Nat × (List Int) × (Option Addr) × Nat × Nat × (List Ent) × (Option Addr) × Nat × Nat × Chunk) (fun ⟨i, ys, ya, yn, yk, zs, azs, nzs, kzs, czs⟩ => [(0, .slice ya yn yk), (3, .slice azs nzs kzs)]) (fun ⟨i, ys, ya, yn, yk, zs, azs, nzs, kzs, czs⟩ w => Sat W w (czs :: H :: F) ∧ i ≤ nb ∧ (RdT encB 1 [H] ya yn yk ys) ∧ (Bytes ys) ∧ (3 * i + yn ≤ nb) ∧ (zs.length = i) ∧ (zs ++ decS ys = decS b) ∧ OwnT encEnt 37 3 azs nzs kzs zs czs) (fun ⟨i, ys, ya, yn, yk, zs, azs, nzs, kzs, czs⟩ => yn) (0, b, ab, nb, kb, [], none, 0, 0, []) ⟨hS_1, by omega, hb, bd, by omega, by rfl, by simp, hO_2⟩ ?_
  rintro ⟨i, ys, ya, yn, yk, zs, azs, nzs, kzs, czs⟩ ρ w_3 ⟨hS_4, hi, hY, hYB, hin, hzl, hE, hOzs⟩
  have hn_zs := hOzs.len; have hl_zs := hOzs.le
  have hny := hY.len; have hly := hY.le
  refine seqE <| seqE <| regionE <| pu3 <| nilO <| thenK_n <| ?_
  refine cD (((yn : Nat) : Int) ≥ 3) (fun hc_5 => ?_) (fun hc_5 => ?_)
  rotate_left
  · refine exitE <| thenK_x <| thenK_x <| blockK_x <| thenK_n <| seqE <| regionE <| pu2 <| nilO <| thenK_n <| retE <| retT [.slice azs nzs kzs] <| ?_
    have hl : zs = decS b := (by rw [← hE, decS_short (by omega), List.append_nil])
    have hrd := hOzs
    rw [hl] at hrd
    exact ⟨_, _, _, _, rfl, hrd, hS_4⟩
  refine skipE <| thenK_n <| seqE <| blockE ?_
  obtain ⟨x_6, b_7, o_8, hx_9, hp_10, hq_11⟩ := RdT.elem hY 0
  have hb_x_6 := hYB x_6 (List.mem_of_getElem? hx_9)
  obtain ⟨x_12, b_13, o_14, hx_15, hp_16, hq_17⟩ := RdT.elem hY 1
  have hb_x_12 := hYB x_12 (List.mem_of_getElem? hx_15)
  obtain ⟨x_18, b_19, o_20, hx_21, hp_22, hq_23⟩ := RdT.elem hY 2
  have hb_x_18 := hYB x_18 (List.mem_of_getElem? hx_21)
  refine drawE [15, 16] [(3, ⟨b_7, o_8, none⟩, .int .u8 x_6), (8, ⟨b_13, o_14, none⟩, .int .u8 x_12), (12, ⟨b_19, o_20, none⟩, .int .u8 x_18)] [(true, [0, 1]), (true, [2]), (true, [6]), (true, [7]), (true, [10]), (true, [11]), (true, [3]), (true, [4]), (true, [5]), (true, [8]), (true, [9]), (true, [12]), (true, [13]), (true, [14]), (false, [15]), (false, [16]), (true, [17])] rfl (by kernel_rfl) ⟨.inr ((hp_10.up 1 rfl).cell hS_4 (k := 0) rfl), .inr ((hp_16.up 1 rfl).cell hS_4 (k := 0) rfl), .inr ((hp_22.up 1 rfl).cell hS_4 (k := 0) rfl), trivial⟩ ?_
  have hS_24 := hS_4.drew
  refine wU [0, 1] ?_
  refine wY (.pointer (some ⟨b_7, o_8, none⟩)) rfl (fun w _ => Y_idx (a := ya) (i := 0) (len := yn) (cap := yk) rfl Tryz.runUnderlying23 Tryz.sizeOf5 (by kernel_rfl) (by kernel_rfl) hq_11) ?_
  refine wU [6] ?_
  refine wY (.pointer (some ⟨b_13, o_14, none⟩)) rfl (fun w _ => Y_idx (a := ya) (i := 1) (len := yn) (cap := yk) rfl Tryz.runUnderlying23 Tryz.sizeOf5 (by kernel_rfl) (by kernel_rfl) hq_17) ?_
  refine wU [10] ?_
  refine wY (.pointer (some ⟨b_19, o_20, none⟩)) rfl (fun w _ => Y_idx (a := ya) (i := 2) (len := yn) (cap := yk) rfl Tryz.runUnderlying23 Tryz.sizeOf5 (by kernel_rfl) (by kernel_rfl) hq_23) ?_
  refine wLd (.int .u8 x_6) 0 Tryz.isAgg5 ?_
  refine wY (.int .i64 x_6) rfl (fun w _ => Y_conv (k := .u8) (a := x_6) Tryz.underlying5 Tryz.underlying3 (wrapIn_i64 _ (by omega)) rfl (by kernel_rfl)) ?_
  refine wRem x_6 7 ?_
  refine wLd (.int .u8 x_12) 1 Tryz.isAgg5 ?_
  refine wY (.int .i64 x_12) rfl (fun w _ => Y_conv (k := .u8) (a := x_12) Tryz.underlying5 Tryz.underlying3 (wrapIn_i64 _ (by omega)) rfl (by kernel_rfl)) ?_
  refine wLd (.int .u8 x_18) 2 Tryz.isAgg5 ?_
  refine wY (.int .i64 x_18) rfl (fun w _ => Y_conv (k := .u8) (a := x_18) Tryz.underlying5 Tryz.underlying3 (wrapIn_i64 _ (by omega)) rfl (by kernel_rfl)) ?_
  refine wU [14] ?_
  refine wO rfl ?_
  refine sBS hS_24 #[.int .i64 (x_6.tmod 7), .int .i64 x_12, .int .i64 x_18] Tryz.runUnderlying24 Tryz.sizeOf37 Tryz.zeroValue37 ?_
  intro b_25 w_26 hS_27
  refine nilO ⟨⟨.inr ((hp_10.up 2 rfl).cell hS_27 (k := 0) rfl), .inr ((hp_16.up 2 rfl).cell hS_27 (k := 0) rfl), .inr ((hp_22.up 2 rfl).cell hS_27 (k := 0) rfl), trivial⟩, ?_⟩
  refine wO rfl ?_
  refine sApp (nb := 24) hS_27 hOzs 1 (RdT.blk (enc := encEnt) (sz := 3) (xs := [(⟨(x_6.tmod 7), x_12, x_18⟩ : Ent)]) (fun _ => rfl) 1 0 rfl rfl rfl (by omega)) Tryz.underlying24 (i := Tryz.t37) (by kernel_rfl) (fun _ => rfl) ?_
  intro a_28 cap_29 c_30 w_31 hO_32 hS_33
  refine nilO ⟨⟨.inr ((hp_10.up 2 rfl).cell hS_33 (k := 0) rfl), .inr ((hp_16.up 2 rfl).cell hS_33 (k := 0) rfl), .inr ((hp_22.up 2 rfl).cell hS_33 (k := 0) rfl), trivial⟩, ?_⟩
  refine wU [17] ?_
  refine wN ?_
  refine blockK_n <| thenK_n <| regionE <| pu1 ?_
  refine sSl (some 3) none 3 yn Tryz.runUnderlying23 Tryz.sizeOf5 ⟨by decide, rfl⟩ rfl (by omega) (by omega) ?_ (a := ya) (len := yn) (cap := yk)
  have hP_34 := hY.part (lo := 3) (hi := yn) (by omega) (by omega)
  refine pu1 <| nilO <| thenK_n <| ?_
  have hS_35 := (hS_33.dropAt 0 rfl)
  exact ⟨(i + 1, ((ys.drop 3).take (yn - 3)), (partAddr ya yk 3 1), (yn - 3), (yk - 3), (zs ++ [(⟨(x_6.tmod 7), x_12, x_18⟩ : Ent)]), a_28, (nzs + 1), cap_29, c_30), by first | omega | (dsimp only; omega), alA, hS_35, by omega, hP_34, (Bytes.dropTake hYB _ _), by omega, (by simp; omega), (by rw [dropTake_all (by omega), ← hE, decS_at hx_9 hx_15 hx_21]; simp only [List.append_assoc, List.cons_append, List.nil_append]), hO_32⟩
theorem r30_dec (ab : Option Addr) (nb kb : Nat) (b : List Int) (hb : RdT encB 1 [H] ab nb kb b) (bd : Bytes b) (hnb : nb ≤ 1000000000) (hS : Sat W w (H :: F)) :
    Calls Tryz.prog 11 #[.slice ab nb kb] w fun e w' => ∃ (az : Option Addr) (nz kz : Nat) (G : Chunk), e = .returned (.slice az nz kz) ∧ OwnT encEnt 37 3 az nz kz (decS b) G ∧ Sat W w' (G :: H :: F) := by
  have hl_b := hb.le; have hn_b := hb.len
  refine callsA 35 Tryz.func11 rfl ?_
  refine seqE <| regionE <| pu1 <| nilO <| thenK_n <| seqE <| regionE <| pu1 <| nilO <| thenK_n <| seqE <| seqE <| regionE <| pu1 <| nilO <| thenK_n <| blockE ?_
  have hS_1 := Sat.nilc hS
  have hO_2 := OwnT.nil (enc := encEnt) (E := 37) (sz := 3) (fun _ => rfl)
  refine loopA (γ := Nat × (List Ent) × (Option Addr) × Nat × Nat × Chunk) (fun ⟨i, zs, azs, nzs, kzs, czs⟩ => [(0, .slice ab nb kb), (4, .int .i64 ((i : Nat) : Int)), (3, .slice azs nzs kzs)]) (fun ⟨i, zs, azs, nzs, kzs, czs⟩ w => Sat W w (czs :: H :: F) ∧ i ≤ nb ∧ (zs.length ≤ i) ∧ (zs ++ decS (b.drop i) = decS b) ∧ OwnT encEnt 37 3 azs nzs kzs zs czs) (fun ⟨i, zs, azs, nzs, kzs, czs⟩ => nb - i) (0, [], none, 0, 0, []) ⟨hS_1, by omega, by simp, by simp, hO_2⟩ ?_
  rintro ⟨i, zs, azs, nzs, kzs, czs⟩ ρ w_3 ⟨hS_4, hi, hzl, hE, hOzs⟩
  have hn_zs := hOzs.len; have hl_zs := hOzs.le
  refine seqE <| seqE <| regionE <| pu1 ?_
  refine sAdd ((i : Nat) : Int) 3 ?_
  refine pu3 <| nilO <| thenK_n <| ?_
  refine cD ((((i : Nat) : Int) + 3) ≤ ((nb : Nat) : Int)) (fun hc_5 => ?_) (fun hc_5 => ?_)
  rotate_left
  · refine exitE <| thenK_x <| thenK_x <| blockK_x <| thenK_n <| seqE <| regionE <| pu2 <| nilO <| thenK_n <| retE <| retT [.slice azs nzs kzs] <| ?_
    have hl : zs = decS b := (by rw [← hE, decS_short (by rw [List.length_drop]; omega), List.append_nil])
    have hrd := hOzs
    rw [hl] at hrd
    exact ⟨_, _, _, _, rfl, hrd, hS_4⟩
  refine skipE <| thenK_n <| seqE <| blockE ?_
  obtain ⟨x_6, b_7, o_8, hx_9, hp_10, hq_11⟩ := RdT.elem hb ((i : Nat) : Int)
  rw [Int.toNat_natCast] at hx_9
  have hb_x_6 := bd x_6 (List.mem_of_getElem? hx_9)
  obtain ⟨x_12, b_13, o_14, hx_15, hp_16, hq_17⟩ := RdT.elem hb (((i : Nat) : Int) + 1)
  have hb_x_12 := bd x_12 (List.mem_of_getElem? hx_15)
  obtain ⟨x_18, b_19, o_20, hx_21, hp_22, hq_23⟩ := RdT.elem hb (((i : Nat) : Int) + 2)
  have hb_x_18 := bd x_18 (List.mem_of_getElem? hx_21)
  refine drawE [20, 21] [(4, ⟨b_7, o_8, none⟩, .int .u8 x_6), (11, ⟨b_13, o_14, none⟩, .int .u8 x_12), (17, ⟨b_19, o_20, none⟩, .int .u8 x_18)] [(true, [0, 1, 2]), (true, [3]), (true, [7, 8]), (true, [9]), (true, [10]), (true, [13, 14]), (true, [15]), (true, [16]), (true, [4]), (true, [5]), (true, [6]), (true, [11]), (true, [12]), (true, [17]), (true, [18]), (true, [19]), (false, [20]), (false, [21]), (true, [22])] rfl (by kernel_rfl) ⟨.inr ((hp_10.up 1 rfl).cell hS_4 (k := 0) rfl), .inr ((hp_16.up 1 rfl).cell hS_4 (k := 0) rfl), .inr ((hp_22.up 1 rfl).cell hS_4 (k := 0) rfl), trivial⟩ ?_
  have hS_24 := hS_4.drew
  refine wU [0, 1, 2] ?_
  refine wY (.pointer (some ⟨b_7, o_8, none⟩)) rfl (fun w _ => Y_idx (a := ab) (i := ((i : Nat) : Int)) (len := nb) (cap := kb) rfl Tryz.runUnderlying23 Tryz.sizeOf5 (by kernel_rfl) (by kernel_rfl) hq_11) ?_
  refine wU [7, 8] ?_
  refine wAdd ((i : Nat) : Int) 1 ?_
  refine wY (.pointer (some ⟨b_13, o_14, none⟩)) rfl (fun w _ => Y_idx (a := ab) (i := (((i : Nat) : Int) + 1)) (len := nb) (cap := kb) rfl Tryz.runUnderlying23 Tryz.sizeOf5 (by kernel_rfl) (by kernel_rfl) hq_17) ?_
  refine wU [13, 14] ?_
  refine wAdd ((i : Nat) : Int) 2 ?_
  refine wY (.pointer (some ⟨b_19, o_20, none⟩)) rfl (fun w _ => Y_idx (a := ab) (i := (((i : Nat) : Int) + 2)) (len := nb) (cap := kb) rfl Tryz.runUnderlying23 Tryz.sizeOf5 (by kernel_rfl) (by kernel_rfl) hq_23) ?_
  refine wLd (.int .u8 x_6) 0 Tryz.isAgg5 ?_
  refine wY (.int .i64 x_6) rfl (fun w _ => Y_conv (k := .u8) (a := x_6) Tryz.underlying5 Tryz.underlying3 (wrapIn_i64 _ (by omega)) rfl (by kernel_rfl)) ?_
  refine wRem x_6 7 ?_
  refine wLd (.int .u8 x_12) 1 Tryz.isAgg5 ?_
  refine wY (.int .i64 x_12) rfl (fun w _ => Y_conv (k := .u8) (a := x_12) Tryz.underlying5 Tryz.underlying3 (wrapIn_i64 _ (by omega)) rfl (by kernel_rfl)) ?_
  refine wLd (.int .u8 x_18) 2 Tryz.isAgg5 ?_
  refine wY (.int .i64 x_18) rfl (fun w _ => Y_conv (k := .u8) (a := x_18) Tryz.underlying5 Tryz.underlying3 (wrapIn_i64 _ (by omega)) rfl (by kernel_rfl)) ?_
  refine wU [19] ?_
  refine wO rfl ?_
  refine sBS hS_24 #[.int .i64 (x_6.tmod 7), .int .i64 x_12, .int .i64 x_18] Tryz.runUnderlying24 Tryz.sizeOf37 Tryz.zeroValue37 ?_
  intro b_25 w_26 hS_27
  refine nilO ⟨⟨.inr ((hp_10.up 2 rfl).cell hS_27 (k := 0) rfl), .inr ((hp_16.up 2 rfl).cell hS_27 (k := 0) rfl), .inr ((hp_22.up 2 rfl).cell hS_27 (k := 0) rfl), trivial⟩, ?_⟩
  refine wO rfl ?_
  refine sApp (nb := 24) hS_27 hOzs 1 (RdT.blk (enc := encEnt) (sz := 3) (xs := [(⟨(x_6.tmod 7), x_12, x_18⟩ : Ent)]) (fun _ => rfl) 1 0 rfl rfl rfl (by omega)) Tryz.underlying24 (i := Tryz.t37) (by kernel_rfl) (fun _ => rfl) ?_
  intro a_28 cap_29 c_30 w_31 hO_32 hS_33
  refine nilO ⟨⟨.inr ((hp_10.up 2 rfl).cell hS_33 (k := 0) rfl), .inr ((hp_16.up 2 rfl).cell hS_33 (k := 0) rfl), .inr ((hp_22.up 2 rfl).cell hS_33 (k := 0) rfl), trivial⟩, ?_⟩
  refine wU [22] ?_
  refine wN ?_
  refine blockK_n <| thenK_n <| regionE <| pu1 ?_
  refine sAdd ((i : Nat) : Int) 3 ?_
  refine pu1 <| nilO <| thenK_n <| ?_
  have hS_34 := (hS_33.dropAt 0 rfl)
  exact ⟨(i + 3, (zs ++ [(⟨(x_6.tmod 7), x_12, x_18⟩ : Ent)]), a_28, (nzs + 1), cap_29, c_30), by first | omega | (dsimp only; omega), alA, hS_34, by omega, (by simp; omega), (by rw [← hE, decS_at (l := b.drop i) (by rw [List.getElem?_drop]; exact hx_9) (by rw [List.getElem?_drop]; exact hx_15) (by rw [List.getElem?_drop]; exact hx_21), List.drop_drop]; simp only [List.append_assoc, List.cons_append, List.nil_append]), hO_32⟩
theorem p30_enc (al : Option Addr) (nl kl : Nat) (l : List Ent) (hl : RdT encEnt 3 [H] al nl kl l) (hS : Sat W w (H :: F)) :
    Calls Tryz.prog 7 #[.slice al nl kl] w fun e w' => ∃ (az : Option Addr) (nz kz : Nat) (G : Chunk), e = .returned (.tuple #[.slice az nz kz, .int .i64 (codeE l)]) ∧ OwnT encB 5 1 az nz kz (bytE l) G ∧ Sat W w' (G :: H :: F) := by
  have hl_l := hl.le; have hn_l := hl.len
  refine callsA 58 Tryz.func7 rfl ?_
  refine seqE <| regionE <| pu2 <| nilO <| thenK_n <| seqE <| seqE <| regionE <| pu3 <| nilO <| thenK_n <| ?_
  refine cD (((nl : Nat) : Int) > 65536) (fun hc_1 => ?_) (fun hc_1 => ?_)
  · refine seqE <| regionE <| pu2 <| nilO <| thenK_n <| retE <| thenK_r <| retT [.slice none 0 0, .int .i64 5] <| ?_
    have hc : codeE l = 5 := by unfold codeE; rw [if_pos (by omega)]
    have hS_2 : Sat W _ ([] :: H :: F) := Sat.nilc hS
    have hl : ([] : List Int) = bytE l := (by unfold bytE; rw [if_neg (by omega)])
    have hrd := OwnT.nil (enc := encB) (E := 5) (sz := 1) (fun _ => rfl)
    rw [hl] at hrd
    exact ⟨_, _, _, _, (by rw [hc]; rfl), hrd, hS_2⟩
  refine skipE <| thenK_n <| seqE <| regionE <| pu1 <| nilO <| thenK_n <| seqE <| seqE <| regionE <| pu3 <| nilO <| thenK_n <| blockE ?_
  have hS_3 := Sat.nilc hS
  have hO_4 := OwnT.nil (enc := encB) (E := 5) (sz := 1) (fun _ => rfl)
  refine loopA (γ := Nat × (List Int) × (Option Addr) × Nat × Nat × Chunk) (fun ⟨i, zs, azs, nzs, kzs, czs⟩ => [(10, .slice al nl kl), (11, .int .i64 ((nl : Nat) : Int)), (12, .int .i64 ((i : Nat) : Int)), (4, .slice azs nzs kzs)]) (fun ⟨i, zs, azs, nzs, kzs, czs⟩ w => Sat W w (czs :: H :: F) ∧ i ≤ nl ∧ (zs = (l.take i).flatMap entB) ∧ (okE (l.take i) = true) ∧ (zs.length = 3 * i) ∧ OwnT encB 5 1 azs nzs kzs zs czs) (fun ⟨i, zs, azs, nzs, kzs, czs⟩ => nl - i) (0, [], none, 0, 0, []) ⟨hS_3, by omega, by simp, by rfl, by rfl, hO_4⟩ ?_
  rintro ⟨i, zs, azs, nzs, kzs, czs⟩ ρ w_5 ⟨hS_6, hi, hE, hA, hzl, hOzs⟩
  have hn_zs := hOzs.len; have hl_zs := hOzs.le
  refine seqE <| regionE <| pu1 <| nilO <| thenK_n <| seqE ?_
  refine cD (((i : Nat) : Int) < ((nl : Nat) : Int)) (fun hc_7 => ?_) (fun hc_7 => ?_)
  rotate_left
  · refine exitE <| thenK_x <| thenK_x <| blockK_x <| thenK_n <| seqE <| regionE <| pu3 <| nilO <| thenK_n <| retE <| retT [.slice azs nzs kzs, .int .i64 0] <| ?_
    have ho : okE l = true := by rw [List.take_of_length_le (by omega)] at hA; exact hA
    have hc : codeE l = 0 := codeE_ok (by omega) ho
    have hl : zs = bytE l := (by rw [bytE_ok hc, hE, List.take_of_length_le (by omega)])
    have hrd := hOzs
    rw [hl] at hrd
    exact ⟨_, _, _, _, (by rw [hc]; rfl), hrd, hS_6⟩
  refine skipE <| thenK_n <| seqE <| blockE <| seqE <| regionE ?_
  refine sIdx hl ((i : Nat) : Int) Tryz.runUnderlying24 Tryz.sizeOf37 ?_
  intro x_8 b_9 o_10 hx_11 hp_12
  rw [Int.toNat_natCast] at hx_11
  refine sLpA hS_6 (hp_12.up 1 rfl) 0 [.int .i64 x_8.kind, .int .i64 x_8.worker, .int .i64 x_8.arg] (Tryz.isAgg37 _) (Tryz.sizeOf37 _) ?_
  refine sAlloc hS_6 Tryz.zeroValue37 ?_
  intro b_13 w_14 hS_15
  refine sT hS_15 0 0 (.agg #[.int .i64 x_8.kind, .int .i64 x_8.worker, .int .i64 x_8.arg]) [.int .i64 x_8.kind, .int .i64 x_8.worker, .int .i64 x_8.arg] #[.int .i64 x_8.kind, .int .i64 x_8.worker, .int .i64 x_8.arg] Tryz.sizeOf37 ?_
  intro w_16 hS_17
  refine nilO <| thenK_n <| seqE ?_
  refine cutA (γ := Unit) (fun _ => [(10, .slice al nl kl), (11, .int .i64 ((nl : Nat) : Int)), (12, .int .i64 ((i : Nat) : Int)), (4, .slice azs nzs kzs), (6, .pointer (some ⟨b_13, 0, none⟩)), (43, .bool (decide (¬ (0 ≤ x_8.kind ∧ x_8.kind < 7 ∧ 0 ≤ x_8.worker ∧ x_8.worker ≤ 255 ∧ 0 ≤ x_8.arg ∧ x_8.arg ≤ 255))))]) (fun _ w => Sat W w ([(b_13, .cells #[.int .i64 x_8.kind, .int .i64 x_8.worker, .int .i64 x_8.arg] 37 (0, 0))] :: czs :: H :: F)) ?_ ?_
  rotate_left
  · rintro _ ρ w_23 hS_24
    refine cD (¬ (0 ≤ x_8.kind ∧ x_8.kind < 7 ∧ 0 ≤ x_8.worker ∧ x_8.worker ≤ 255 ∧ 0 ≤ x_8.arg ∧ x_8.arg ≤ 255)) (fun hc_25 => ?_) (fun hc_25 => ?_)
    · refine seqE <| regionE <| pu2 <| nilO <| thenK_n <| retE <| thenK_r <| blockK_r <| thenK_r <| thenK_r <| blockK_r <| thenK_r <| retT [.slice none 0 0, .int .i64 2] <| ?_
      have hc : codeE l = 2 := by unfold codeE; rw [if_neg (by omega), if_neg (by rw [not_ent hx_11 (by unfold entP; omega)]; decide)]
      have hS_26 := (hS_24.drops [0, 0])
      have hS_27 : Sat W _ ([] :: H :: F) := Sat.nilc hS_26
      have hl : ([] : List Int) = bytE l := (by unfold bytE; rw [if_neg (by omega)])
      have hrd := OwnT.nil (enc := encB) (E := 5) (sz := 1) (fun _ => rfl)
      rw [hl] at hrd
      exact ⟨_, _, _, _, (by rw [hc]; rfl), hrd, hS_27⟩
    refine skipE <| thenK_n <| regionE <| pu2 ?_
    refine sL hS_24 0 0 (.int .i64 x_8.kind) (Tryz.isAgg3 _) ?_
    refine stepY (.int .u8 (x_8.kind % 256)) rfl rfl (Y_conv (k := .i64) (a := x_8.kind) Tryz.underlying3 Tryz.underlying5 (wrap_u8 _) rfl (by kernel_rfl)) ?_
    refine pu1 ?_
    refine sL hS_24 0 1 (.int .i64 x_8.worker) (Tryz.isAgg3 _) ?_
    refine stepY (.int .u8 (x_8.worker % 256)) rfl rfl (Y_conv (k := .i64) (a := x_8.worker) Tryz.underlying3 Tryz.underlying5 (wrap_u8 _) rfl (by kernel_rfl)) ?_
    refine pu1 ?_
    refine sL hS_24 0 2 (.int .i64 x_8.arg) (Tryz.isAgg3 _) ?_
    refine stepY (.int .u8 (x_8.arg % 256)) rfl rfl (Y_conv (k := .i64) (a := x_8.arg) Tryz.underlying3 Tryz.underlying5 (wrap_u8 _) rfl (by kernel_rfl)) ?_
    refine sBS hS_24 #[.int .u8 (x_8.kind % 256), .int .u8 (x_8.worker % 256), .int .u8 (x_8.arg % 256)] Tryz.runUnderlying23 Tryz.sizeOf5 Tryz.zeroValue5 ?_
    intro b_28 w_29 hS_30
    refine sApp (nb := 1) hS_30 hOzs 2 (RdT.blk (enc := encB) (sz := 1) (xs := [(x_8.kind % 256), (x_8.worker % 256), (x_8.arg % 256)]) (fun _ => rfl) 3 0 rfl rfl rfl (by omega)) Tryz.underlying23 (i := Tryz.t5) (by kernel_rfl) (fun _ => rfl) ?_
    intro a_31 cap_32 c_33 w_34 hO_35 hS_36
    refine pu1 <| nilO <| blockK_n <| thenK_n <| regionE ?_
    refine sAdd ((i : Nat) : Int) 1 ?_
    refine pu1 <| nilO <| thenK_n <| ?_
    have hS_37 := (hS_36.drops [0, 0])
    exact ⟨(i + 1, (zs ++ [(x_8.kind % 256), (x_8.worker % 256), (x_8.arg % 256)]), a_31, (nzs + 3), cap_32, c_33), by first | omega | (dsimp only; omega), alA, hS_37, by omega, (by rw [flat_snoc hx_11, hE]; rfl), (all_ent hA hx_11 (by unfold entP; omega)), (by simp; omega), hO_35⟩
  refine regionE <| pu1 ?_
  refine sL hS_17 0 0 (.int .i64 x_8.kind) (Tryz.isAgg3 _) ?_
  refine pu2 ?_
  refine sD 19 (x_8.kind < 0) (fun hc_18 => ?_) (fun hc_18 => ?_)
  · refine pu16 <| pu8 <| nilO <| thenK_n <| ?_
    exact ⟨(), ⟨by kernel_rfl, by kernel_rfl, by kernel_rfl, by kernel_rfl, by kernel_rfl, (Eq.trans (b := .bool true) (by kernel_rfl) (congrArg Value.bool (decide_eq_true (p := ¬ (0 ≤ x_8.kind ∧ x_8.kind < 7 ∧ 0 ≤ x_8.worker ∧ x_8.worker ≤ 255 ∧ 0 ≤ x_8.arg ∧ x_8.arg ≤ 255)) (by omega)).symm)), trivial⟩, hS_17⟩
  refine pu1 <| gY ?_
  refine sL hS_17 0 0 (.int .i64 x_8.kind) (Tryz.isAgg3 _) ?_
  refine pu3 ?_
  refine sD 24 (x_8.kind ≥ 7) (fun hc_19 => ?_) (fun hc_19 => ?_)
  · refine pu16 <| pu3 <| nilO <| thenK_n <| ?_
    exact ⟨(), ⟨by kernel_rfl, by kernel_rfl, by kernel_rfl, by kernel_rfl, by kernel_rfl, (Eq.trans (b := .bool true) (by kernel_rfl) (congrArg Value.bool (decide_eq_true (p := ¬ (0 ≤ x_8.kind ∧ x_8.kind < 7 ∧ 0 ≤ x_8.worker ∧ x_8.worker ≤ 255 ∧ 0 ≤ x_8.arg ∧ x_8.arg ≤ 255)) (by omega)).symm)), trivial⟩, hS_17⟩
  refine pu1 <| gY ?_
  refine sL hS_17 0 1 (.int .i64 x_8.worker) (Tryz.isAgg3 _) ?_
  refine pu3 ?_
  refine sD 29 (x_8.worker < 0) (fun hc_20 => ?_) (fun hc_20 => ?_)
  · refine pu14 <| nilO <| thenK_n <| ?_
    exact ⟨(), ⟨by kernel_rfl, by kernel_rfl, by kernel_rfl, by kernel_rfl, by kernel_rfl, (Eq.trans (b := .bool true) (by kernel_rfl) (congrArg Value.bool (decide_eq_true (p := ¬ (0 ≤ x_8.kind ∧ x_8.kind < 7 ∧ 0 ≤ x_8.worker ∧ x_8.worker ≤ 255 ∧ 0 ≤ x_8.arg ∧ x_8.arg ≤ 255)) (by omega)).symm)), trivial⟩, hS_17⟩
  refine pu1 <| gY ?_
  refine sL hS_17 0 1 (.int .i64 x_8.worker) (Tryz.isAgg3 _) ?_
  refine pu3 ?_
  refine sD 34 (x_8.worker > 255) (fun hc_21 => ?_) (fun hc_21 => ?_)
  · refine pu9 <| nilO <| thenK_n <| ?_
    exact ⟨(), ⟨by kernel_rfl, by kernel_rfl, by kernel_rfl, by kernel_rfl, by kernel_rfl, (Eq.trans (b := .bool true) (by kernel_rfl) (congrArg Value.bool (decide_eq_true (p := ¬ (0 ≤ x_8.kind ∧ x_8.kind < 7 ∧ 0 ≤ x_8.worker ∧ x_8.worker ≤ 255 ∧ 0 ≤ x_8.arg ∧ x_8.arg ≤ 255)) (by omega)).symm)), trivial⟩, hS_17⟩
  refine pu1 <| gY ?_
  refine sL hS_17 0 2 (.int .i64 x_8.arg) (Tryz.isAgg3 _) ?_
  refine pu3 ?_
  refine sD 39 (x_8.arg < 0) (fun hc_22 => ?_) (fun hc_22 => ?_)
  · refine pu4 <| nilO <| thenK_n <| ?_
    exact ⟨(), ⟨by kernel_rfl, by kernel_rfl, by kernel_rfl, by kernel_rfl, by kernel_rfl, (Eq.trans (b := .bool true) (by kernel_rfl) (congrArg Value.bool (decide_eq_true (p := ¬ (0 ≤ x_8.kind ∧ x_8.kind < 7 ∧ 0 ≤ x_8.worker ∧ x_8.worker ≤ 255 ∧ 0 ≤ x_8.arg ∧ x_8.arg ≤ 255)) (by omega)).symm)), trivial⟩, hS_17⟩
  refine pu1 <| gY ?_
  refine sL hS_17 0 2 (.int .i64 x_8.arg) (Tryz.isAgg3 _) ?_
  refine pu2 <| nilO <| thenK_n <| ?_
  exact ⟨(), ⟨by kernel_rfl, by kernel_rfl, by kernel_rfl, by kernel_rfl, by kernel_rfl, (Eq.trans (b := .bool (decide ((x_8.arg : Int) > 255))) (by kernel_rfl) (congrArg Value.bool (by rw [Bool.eq_iff_iff]; simp only [decide_eq_true_eq, beq_iff_eq, bne_iff_ne, ne_eq, Bool.not_eq_true', decide_eq_false_iff_not, gt_iff_lt, ge_iff_le, Bool.and_eq_true, Bool.or_eq_true, Bool.not_eq_eq_eq_not, Bool.not_true, Bool.and_eq_false_imp, beq_eq_false_iff_ne] <;> omega))), trivial⟩, hS_17⟩
theorem r30_enc (al : Option Addr) (nl kl : Nat) (l : List Ent) (hl : RdT encEnt 3 [H] al nl kl l) (hS : Sat W w (H :: F)) :
    Calls Tryz.prog 8 #[.slice al nl kl] w fun e w' => ∃ (az : Option Addr) (nz kz : Nat) (G : Chunk), e = .returned (.tuple #[.slice az nz kz, .int .i64 (codeE l)]) ∧ OwnT encB 5 1 az nz kz (bytE l) G ∧ Sat W w' (G :: H :: F) := by
  have hl_l := hl.le; have hn_l := hl.len
  refine callsA 61 Tryz.func8 rfl ?_
  refine seqE <| regionE <| pu2 <| nilO <| thenK_n <| seqE <| seqE <| regionE <| pu3 <| nilO <| thenK_n <| ?_
  refine cD (((nl : Nat) : Int) > 65536) (fun hc_1 => ?_) (fun hc_1 => ?_)
  · refine seqE <| regionE <| pu2 <| nilO <| thenK_n <| retE <| thenK_r <| retT [.slice none 0 0, .int .i64 5] <| ?_
    have hc : codeE l = 5 := by unfold codeE; rw [if_pos (by omega)]
    have hS_2 : Sat W _ ([] :: H :: F) := Sat.nilc hS
    have hl : ([] : List Int) = bytE l := (by unfold bytE; rw [if_neg (by omega)])
    have hrd := OwnT.nil (enc := encB) (E := 5) (sz := 1) (fun _ => rfl)
    rw [hl] at hrd
    exact ⟨_, _, _, _, (by rw [hc]; rfl), hrd, hS_2⟩
  refine skipE <| thenK_n <| seqE <| regionE <| pu1 <| nilO <| thenK_n <| seqE <| seqE <| regionE <| pu1 <| nilO <| thenK_n <| blockE ?_
  have hS_3 := Sat.nilc hS
  have hO_4 := OwnT.nil (enc := encB) (E := 5) (sz := 1) (fun _ => rfl)
  refine loopA (γ := Nat × (List Int) × (Option Addr) × Nat × Nat × Chunk) (fun ⟨i, zs, azs, nzs, kzs, czs⟩ => [(0, .slice al nl kl), (5, .int .i64 ((i : Nat) : Int)), (4, .slice azs nzs kzs)]) (fun ⟨i, zs, azs, nzs, kzs, czs⟩ w => Sat W w (czs :: H :: F) ∧ i ≤ nl ∧ (zs = (l.take i).flatMap entB) ∧ (okE (l.take i) = true) ∧ (zs.length = 3 * i) ∧ OwnT encB 5 1 azs nzs kzs zs czs) (fun ⟨i, zs, azs, nzs, kzs, czs⟩ => nl - i) (0, [], none, 0, 0, []) ⟨hS_3, by omega, by simp, by rfl, by rfl, hO_4⟩ ?_
  rintro ⟨i, zs, azs, nzs, kzs, czs⟩ ρ w_5 ⟨hS_6, hi, hE, hA, hzl, hOzs⟩
  have hn_zs := hOzs.len; have hl_zs := hOzs.le
  refine seqE <| seqE <| regionE <| pu4 <| nilO <| thenK_n <| ?_
  refine cD (((i : Nat) : Int) < ((nl : Nat) : Int)) (fun hc_7 => ?_) (fun hc_7 => ?_)
  rotate_left
  · refine exitE <| thenK_x <| thenK_x <| blockK_x <| thenK_n <| seqE <| regionE <| pu3 <| nilO <| thenK_n <| retE <| retT [.slice azs nzs kzs, .int .i64 0] <| ?_
    have ho : okE l = true := by rw [List.take_of_length_le (by omega)] at hA; exact hA
    have hc : codeE l = 0 := codeE_ok (by omega) ho
    have hl : zs = bytE l := (by rw [bytE_ok hc, hE, List.take_of_length_le (by omega)])
    have hrd := hOzs
    rw [hl] at hrd
    exact ⟨_, _, _, _, (by rw [hc]; rfl), hrd, hS_6⟩
  refine skipE <| thenK_n <| seqE <| blockE <| seqE <| regionE <| pu2 ?_
  refine sIdx hl ((i : Nat) : Int) Tryz.runUnderlying24 Tryz.sizeOf37 ?_
  intro x_8 b_9 o_10 hx_11 hp_12
  rw [Int.toNat_natCast] at hx_11
  refine sLpA hS_6 (hp_12.up 1 rfl) 0 [.int .i64 x_8.kind, .int .i64 x_8.worker, .int .i64 x_8.arg] (Tryz.isAgg37 _) (Tryz.sizeOf37 _) ?_
  refine sAlloc hS_6 Tryz.zeroValue37 ?_
  intro b_13 w_14 hS_15
  refine sT hS_15 0 0 (.agg #[.int .i64 x_8.kind, .int .i64 x_8.worker, .int .i64 x_8.arg]) [.int .i64 x_8.kind, .int .i64 x_8.worker, .int .i64 x_8.arg] #[.int .i64 x_8.kind, .int .i64 x_8.worker, .int .i64 x_8.arg] Tryz.sizeOf37 ?_
  intro w_16 hS_17
  refine nilO <| thenK_n <| seqE ?_
  refine cutA (γ := Unit) (fun _ => [(0, .slice al nl kl), (5, .int .i64 ((i : Nat) : Int)), (4, .slice azs nzs kzs), (6, .pointer (some ⟨b_13, 0, none⟩)), (47, .bool (decide (¬ (0 ≤ x_8.kind ∧ x_8.kind < 7 ∧ 0 ≤ x_8.worker ∧ x_8.worker ≤ 255 ∧ 0 ≤ x_8.arg ∧ x_8.arg ≤ 255))))]) (fun _ w => Sat W w ([(b_13, .cells #[.int .i64 x_8.kind, .int .i64 x_8.worker, .int .i64 x_8.arg] 37 (0, 0))] :: czs :: H :: F)) ?_ ?_
  rotate_left
  · rintro _ ρ w_23 hS_24
    refine cD (¬ (0 ≤ x_8.kind ∧ x_8.kind < 7 ∧ 0 ≤ x_8.worker ∧ x_8.worker ≤ 255 ∧ 0 ≤ x_8.arg ∧ x_8.arg ≤ 255)) (fun hc_25 => ?_) (fun hc_25 => ?_)
    · refine seqE <| regionE <| pu2 <| nilO <| thenK_n <| retE <| thenK_r <| blockK_r <| thenK_r <| thenK_r <| blockK_r <| thenK_r <| retT [.slice none 0 0, .int .i64 2] <| ?_
      have hc : codeE l = 2 := by unfold codeE; rw [if_neg (by omega), if_neg (by rw [not_ent hx_11 (by unfold entP; omega)]; decide)]
      have hS_26 := (hS_24.drops [0, 0])
      have hS_27 : Sat W _ ([] :: H :: F) := Sat.nilc hS_26
      have hl : ([] : List Int) = bytE l := (by unfold bytE; rw [if_neg (by omega)])
      have hrd := OwnT.nil (enc := encB) (E := 5) (sz := 1) (fun _ => rfl)
      rw [hl] at hrd
      exact ⟨_, _, _, _, (by rw [hc]; rfl), hrd, hS_27⟩
    refine skipE <| thenK_n <| regionE <| pu2 ?_
    refine sL hS_24 0 0 (.int .i64 x_8.kind) (Tryz.isAgg3 _) ?_
    refine stepY (.int .u8 (x_8.kind % 256)) rfl rfl (Y_conv (k := .i64) (a := x_8.kind) Tryz.underlying3 Tryz.underlying5 (wrap_u8 _) rfl (by kernel_rfl)) ?_
    refine pu1 ?_
    refine sL hS_24 0 1 (.int .i64 x_8.worker) (Tryz.isAgg3 _) ?_
    refine stepY (.int .u8 (x_8.worker % 256)) rfl rfl (Y_conv (k := .i64) (a := x_8.worker) Tryz.underlying3 Tryz.underlying5 (wrap_u8 _) rfl (by kernel_rfl)) ?_
    refine pu1 ?_
    refine sL hS_24 0 2 (.int .i64 x_8.arg) (Tryz.isAgg3 _) ?_
    refine stepY (.int .u8 (x_8.arg % 256)) rfl rfl (Y_conv (k := .i64) (a := x_8.arg) Tryz.underlying3 Tryz.underlying5 (wrap_u8 _) rfl (by kernel_rfl)) ?_
    refine sBS hS_24 #[.int .u8 (x_8.kind % 256), .int .u8 (x_8.worker % 256), .int .u8 (x_8.arg % 256)] Tryz.runUnderlying23 Tryz.sizeOf5 Tryz.zeroValue5 ?_
    intro b_28 w_29 hS_30
    refine sApp (nb := 1) hS_30 hOzs 2 (RdT.blk (enc := encB) (sz := 1) (xs := [(x_8.kind % 256), (x_8.worker % 256), (x_8.arg % 256)]) (fun _ => rfl) 3 0 rfl rfl rfl (by omega)) Tryz.underlying23 (i := Tryz.t5) (by kernel_rfl) (fun _ => rfl) ?_
    intro a_31 cap_32 c_33 w_34 hO_35 hS_36
    refine pu1 <| nilO <| blockK_n <| thenK_n <| regionE <| pu1 ?_
    refine sAdd ((i : Nat) : Int) 1 ?_
    refine pu1 <| nilO <| thenK_n <| ?_
    have hS_37 := (hS_36.drops [0, 0])
    exact ⟨(i + 1, (zs ++ [(x_8.kind % 256), (x_8.worker % 256), (x_8.arg % 256)]), a_31, (nzs + 3), cap_32, c_33), by first | omega | (dsimp only; omega), alA, hS_37, by omega, (by rw [flat_snoc hx_11, hE]; rfl), (all_ent hA hx_11 (by unfold entP; omega)), (by simp; omega), hO_35⟩
  refine regionE <| pu1 ?_
  refine sL hS_17 0 0 (.int .i64 x_8.kind) (Tryz.isAgg3 _) ?_
  refine pu2 ?_
  refine sD 23 (x_8.kind < 0) (fun hc_18 => ?_) (fun hc_18 => ?_)
  · refine pu16 <| pu8 <| nilO <| thenK_n <| ?_
    exact ⟨(), ⟨by kernel_rfl, by kernel_rfl, by kernel_rfl, by kernel_rfl, (Eq.trans (b := .bool true) (by kernel_rfl) (congrArg Value.bool (decide_eq_true (p := ¬ (0 ≤ x_8.kind ∧ x_8.kind < 7 ∧ 0 ≤ x_8.worker ∧ x_8.worker ≤ 255 ∧ 0 ≤ x_8.arg ∧ x_8.arg ≤ 255)) (by omega)).symm)), trivial⟩, hS_17⟩
  refine pu1 <| gY ?_
  refine sL hS_17 0 0 (.int .i64 x_8.kind) (Tryz.isAgg3 _) ?_
  refine pu3 ?_
  refine sD 28 (x_8.kind > 6) (fun hc_19 => ?_) (fun hc_19 => ?_)
  · refine pu16 <| pu3 <| nilO <| thenK_n <| ?_
    exact ⟨(), ⟨by kernel_rfl, by kernel_rfl, by kernel_rfl, by kernel_rfl, (Eq.trans (b := .bool true) (by kernel_rfl) (congrArg Value.bool (decide_eq_true (p := ¬ (0 ≤ x_8.kind ∧ x_8.kind < 7 ∧ 0 ≤ x_8.worker ∧ x_8.worker ≤ 255 ∧ 0 ≤ x_8.arg ∧ x_8.arg ≤ 255)) (by omega)).symm)), trivial⟩, hS_17⟩
  refine pu1 <| gY ?_
  refine sL hS_17 0 1 (.int .i64 x_8.worker) (Tryz.isAgg3 _) ?_
  refine pu3 ?_
  refine sD 33 (x_8.worker < 0) (fun hc_20 => ?_) (fun hc_20 => ?_)
  · refine pu14 <| nilO <| thenK_n <| ?_
    exact ⟨(), ⟨by kernel_rfl, by kernel_rfl, by kernel_rfl, by kernel_rfl, (Eq.trans (b := .bool true) (by kernel_rfl) (congrArg Value.bool (decide_eq_true (p := ¬ (0 ≤ x_8.kind ∧ x_8.kind < 7 ∧ 0 ≤ x_8.worker ∧ x_8.worker ≤ 255 ∧ 0 ≤ x_8.arg ∧ x_8.arg ≤ 255)) (by omega)).symm)), trivial⟩, hS_17⟩
  refine pu1 <| gY ?_
  refine sL hS_17 0 1 (.int .i64 x_8.worker) (Tryz.isAgg3 _) ?_
  refine pu3 ?_
  refine sD 38 (x_8.worker > 255) (fun hc_21 => ?_) (fun hc_21 => ?_)
  · refine pu9 <| nilO <| thenK_n <| ?_
    exact ⟨(), ⟨by kernel_rfl, by kernel_rfl, by kernel_rfl, by kernel_rfl, (Eq.trans (b := .bool true) (by kernel_rfl) (congrArg Value.bool (decide_eq_true (p := ¬ (0 ≤ x_8.kind ∧ x_8.kind < 7 ∧ 0 ≤ x_8.worker ∧ x_8.worker ≤ 255 ∧ 0 ≤ x_8.arg ∧ x_8.arg ≤ 255)) (by omega)).symm)), trivial⟩, hS_17⟩
  refine pu1 <| gY ?_
  refine sL hS_17 0 2 (.int .i64 x_8.arg) (Tryz.isAgg3 _) ?_
  refine pu3 ?_
  refine sD 43 (x_8.arg < 0) (fun hc_22 => ?_) (fun hc_22 => ?_)
  · refine pu4 <| nilO <| thenK_n <| ?_
    exact ⟨(), ⟨by kernel_rfl, by kernel_rfl, by kernel_rfl, by kernel_rfl, (Eq.trans (b := .bool true) (by kernel_rfl) (congrArg Value.bool (decide_eq_true (p := ¬ (0 ≤ x_8.kind ∧ x_8.kind < 7 ∧ 0 ≤ x_8.worker ∧ x_8.worker ≤ 255 ∧ 0 ≤ x_8.arg ∧ x_8.arg ≤ 255)) (by omega)).symm)), trivial⟩, hS_17⟩
  refine pu1 <| gY ?_
  refine sL hS_17 0 2 (.int .i64 x_8.arg) (Tryz.isAgg3 _) ?_
  refine pu2 <| nilO <| thenK_n <| ?_
  exact ⟨(), ⟨by kernel_rfl, by kernel_rfl, by kernel_rfl, by kernel_rfl, (Eq.trans (b := .bool (decide ((x_8.arg : Int) > 255))) (by kernel_rfl) (congrArg Value.bool (by rw [Bool.eq_iff_iff]; simp only [decide_eq_true_eq, beq_iff_eq, bne_iff_ne, ne_eq, Bool.not_eq_true', decide_eq_false_iff_not, gt_iff_lt, ge_iff_le, Bool.and_eq_true, Bool.or_eq_true, Bool.not_eq_eq_eq_not, Bool.not_true, Bool.and_eq_false_imp, beq_eq_false_iff_ne] <;> omega))), trivial⟩, hS_17⟩
theorem eqvn37 (w : World) (a0 a1 a2 b0 b1 b2 : Int) : ∀ x y, ((do eqGuard .neq 37 x y (.agg #[.int .i64 a0, .int .i64 a1, .int .i64 a2]) (.agg #[.int .i64 b0, .int .i64 b1, .int .i64 b2]); binOp .neq 37 (.agg #[.int .i64 a0, .int .i64 a1, .int .i64 a2]) (.agg #[.int .i64 b0, .int .i64 b1, .int .i64 b2])) : Sem Value).run Tryz.prog w = .ok (.bool (!((a0 == b0) && (a1 == b1) && (a2 == b2)))) w := by
  intro x y
  simp [go_sem, run_eqGuard_agg, run_neq_struct, run_equalIn_agg]
  by_cases h0 : a0 = b0 <;> by_cases h1 : a1 = b1 <;> by_cases h2 : a2 = b2 <;> simp [*]
theorem eqve37 (w : World) (a0 a1 a2 b0 b1 b2 : Int) : ∀ x y, ((do eqGuard .eql 37 x y (.agg #[.int .i64 a0, .int .i64 a1, .int .i64 a2]) (.agg #[.int .i64 b0, .int .i64 b1, .int .i64 b2]); binOp .eql 37 (.agg #[.int .i64 a0, .int .i64 a1, .int .i64 a2]) (.agg #[.int .i64 b0, .int .i64 b1, .int .i64 b2])) : Sem Value).run Tryz.prog w = .ok (.bool ((a0 == b0) && (a1 == b1) && (a2 == b2))) w := by
  intro x y
  simp [go_sem, run_eqGuard_agg, run_eql_struct, run_equalIn_agg]
  by_cases h0 : a0 = b0 <;> by_cases h1 : a1 = b1 <;> by_cases h2 : a2 = b2 <;> simp [*]
theorem l30_same (ax : Option Addr) (nx kx : Nat) (x : List Ent) (ay : Option Addr) (ny ky : Nat) (y : List Ent) (hx : RdT encEnt 3 [H] ax nx kx x) (hy : RdT encEnt 3 [H] ay ny ky y) (hS : Sat W w (H :: F)) :
    Ro Tryz.prog 9 #[.slice ax nx kx, .slice ay ny ky] (.bool (decide (x = y))) W w (H :: F) := by
  have hl_x := hx.le; have hn_x := hx.len
  have hl_y := hy.le; have hn_y := hy.len
  refine callsA 26 Tryz.func9 rfl ?_
  refine seqE <| regionE <| pu1 <| nilO <| thenK_n <| seqE <| seqE <| regionE <| pu5 <| nilO <| thenK_n <| ?_
  refine cN ((nx : Nat) : Int) ((ny : Nat) : Int) (fun hc_1 => ?_) (fun hc_1 => ?_)
  rotate_left
  · refine seqE <| regionE <| pu1 <| nilO <| thenK_n <| retE <| thenK_r <| retT [.bool false] <| ?_
    exact ⟨by rw [decide_eq_false (fun h => by have := congrArg List.length h; omega)]; rfl, hS⟩
  refine skipE <| thenK_n <| seqE <| seqE <| regionE <| pu1 <| nilO <| thenK_n <| blockE ?_
  refine loopA (γ := Nat) (fun i => [(0, .slice ax nx kx), (1, .slice ay ny ky), (5, .int .i64 ((i : Nat) : Int))]) (fun i w => Sat W w (H :: F) ∧ i ≤ nx ∧ (x.take i = y.take i)) (fun i => nx - i) 0 ⟨hS, by omega, by simp⟩ ?_
  rintro i ρ w_2 ⟨hS_3, hi, hE⟩
  refine seqE <| seqE <| regionE <| pu4 <| nilO <| thenK_n <| ?_
  refine cD (((i : Nat) : Int) < ((nx : Nat) : Int)) (fun hc_4 => ?_) (fun hc_4 => ?_)
  rotate_left
  · refine exitE <| thenK_x <| thenK_x <| blockK_x <| thenK_n <| seqE <| regionE <| pu1 <| nilO <| thenK_n <| retE <| retT [.bool true] <| ?_
    exact ⟨by rw [decide_eq_true (eq_of_take hE (by omega) (by omega))]; rfl, hS_3⟩
  refine skipE <| thenK_n <| seqE <| blockE <| seqE ?_
  obtain ⟨x_5, b_6, o_7, hx_8, hp_9, hq_10⟩ := RdT.elem hx ((i : Nat) : Int)
  rw [Int.toNat_natCast] at hx_8
  obtain ⟨x_11, b_12, o_13, hx_14, hp_15, hq_16⟩ := RdT.elem hy ((i : Nat) : Int)
  rw [Int.toNat_natCast] at hx_14
  refine drawE [] [(3, ⟨b_6, o_7 + 0, none⟩, .int .i64 x_5.kind), (3, ⟨b_6, o_7 + 1, none⟩, .int .i64 x_5.worker), (3, ⟨b_6, o_7 + 2, none⟩, .int .i64 x_5.arg), (7, ⟨b_12, o_13 + 0, none⟩, .int .i64 x_11.kind), (7, ⟨b_12, o_13 + 1, none⟩, .int .i64 x_11.worker), (7, ⟨b_12, o_13 + 2, none⟩, .int .i64 x_11.arg)] [(true, [0, 1]), (true, [2]), (true, [4, 5]), (true, [6]), (true, [3]), (true, [7]), (true, [8])] rfl (by kernel_rfl) ⟨.inr ((hp_9.up 0 rfl).cell hS_3 (k := 0) rfl), .inr ((hp_9.up 0 rfl).cell hS_3 (k := 1) rfl), .inr ((hp_9.up 0 rfl).cell hS_3 (k := 2) rfl), .inr ((hp_15.up 0 rfl).cell hS_3 (k := 0) rfl), .inr ((hp_15.up 0 rfl).cell hS_3 (k := 1) rfl), .inr ((hp_15.up 0 rfl).cell hS_3 (k := 2) rfl), trivial⟩ ?_
  have hS_17 := hS_3.drew
  refine wU [0, 1] ?_
  refine wY (.pointer (some ⟨b_6, o_7, none⟩)) rfl (fun w _ => Y_idx (a := ax) (i := ((i : Nat) : Int)) (len := nx) (cap := kx) rfl Tryz.runUnderlying24 Tryz.sizeOf37 (by kernel_rfl) (by kernel_rfl) hq_10) ?_
  refine wU [4, 5] ?_
  refine wY (.pointer (some ⟨b_12, o_13, none⟩)) rfl (fun w _ => Y_idx (a := ay) (i := ((i : Nat) : Int)) (len := ny) (cap := ky) rfl Tryz.runUnderlying24 Tryz.sizeOf37 (by kernel_rfl) (by kernel_rfl) hq_16) ?_
  refine wY (.agg #[.int .i64 x_5.kind, .int .i64 x_5.worker, .int .i64 x_5.arg]) rfl (fun w hF => Y_loadF rfl (Tryz.isAgg37 w) (Tryz.sizeOf37 w) (by kernel_rfl) rfl ⟨hF 0 _ _ rfl, hF 1 _ _ rfl, hF 2 _ _ rfl, trivial⟩) ?_
  refine wY (.agg #[.int .i64 x_11.kind, .int .i64 x_11.worker, .int .i64 x_11.arg]) rfl (fun w hF => Y_loadF rfl (Tryz.isAgg37 w) (Tryz.sizeOf37 w) (by kernel_rfl) rfl ⟨hF 3 _ _ rfl, hF 4 _ _ rfl, hF 5 _ _ rfl, trivial⟩) ?_
  refine wY (.bool (!(((x_5.kind : Int) == x_11.kind) && ((x_5.worker : Int) == x_11.worker) && ((x_5.arg : Int) == x_11.arg)))) rfl (fun w _ => Y_eqS rfl (by kernel_rfl) (by kernel_rfl) (eqvn37 _ x_5.kind x_5.worker x_5.arg x_11.kind x_11.worker x_11.arg)) ?_
  refine wN ?_
  refine thenK_n <| ?_
  rcases Classical.em ((x_5.kind : Int) = x_11.kind ∧ (x_5.worker : Int) = x_11.worker ∧ (x_5.arg : Int) = x_11.arg) with hc_18 | hc_18
  · refine cF _ (congrArg Bool.not (show (((x_5.kind : Int) == x_11.kind) && ((x_5.worker : Int) == x_11.worker) && ((x_5.arg : Int) == x_11.arg)) = true from by simpa [and_assoc] using hc_18)) ?_
    refine skipE <| blockK_n <| thenK_n <| regionE <| pu1 ?_
    refine sAdd ((i : Nat) : Int) 1 ?_
    refine pu1 <| nilO <| thenK_n <| ?_
    exact ⟨i + 1, by first | omega | (dsimp only; omega), alA, hS_17, by omega, (take_eq_succ hE hx_8 hx_14 (by cases x_5; cases x_11; simp_all))⟩
  refine cT _ (congrArg Bool.not (show (((x_5.kind : Int) == x_11.kind) && ((x_5.worker : Int) == x_11.worker) && ((x_5.arg : Int) == x_11.arg)) = false from by rw [← Bool.not_eq_true]; intro h_; exact hc_18 (by simpa [and_assoc] using h_))) ?_
  refine seqE <| regionE <| pu1 <| nilO <| thenK_n <| retE <| blockK_r <| thenK_r <| thenK_r <| blockK_r <| thenK_r <| retT [.bool false] <| ?_
  exact ⟨by rw [decide_eq_false (ne_of_at hx_8 hx_14 (by intro h; subst h; simp_all))]; rfl, hS_17⟩
end Go.Proofs.YtlhahicakkpnhaaGreat
