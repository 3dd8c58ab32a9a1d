/-
  Whole numbers, parts of slices, elements, append, make. For any program.
-/
import Derived.Test.YtlhahicakkpnhaaGreatOps
namespace Go.E
section
variable {P : Program} {n : Nat} {ρ : Env} {W w : World} {cs : List Chunk} {ops : Array Oper} {rest : List Oper} {N : Env → World → Prop} {o : Oper}

/-! ### whole numbers -/
theorem wrap_i64 {x : Int} (h : -9223372036854775808 ≤ x ∧ x ≤ 9223372036854775807) : IntKind.i64.wrap x = x := IntWalk.i64_in x h

theorem Y_arith {op : BinOp} {t u : TypeId} {x y : Operand} {a b : Int} {v : Value} (ho : o.op = .binOp op t x y u) (hx : ev ρ x = .int .i64 a) (hy : ev ρ y = .int .i64 b)
    (hr : (binOp op t (.int .i64 a) (.int .i64 b)).run P w = .ok v w) : Yields P ρ o v w := by
  unfold Yields execOp
  rw [ho]
  simp [hx, hy, eqGuard, hr]

theorem Y_add {t u : TypeId} {x y : Operand} {a b : Int} (ho : o.op = .binOp .add t x y u) (hx : ev ρ x = .int .i64 a) (hy : ev ρ y = .int .i64 b)
    (hr : -9223372036854775808 ≤ a + b ∧ a + b ≤ 9223372036854775807) : Yields P ρ o (.int .i64 (a + b)) w :=
  Y_arith ho hx hy (by simp [binOp, Op.intArith, wrap_i64 hr])
theorem Y_sub {t u : TypeId} {x y : Operand} {a b : Int} (ho : o.op = .binOp .sub t x y u) (hx : ev ρ x = .int .i64 a) (hy : ev ρ y = .int .i64 b)
    (hr : -9223372036854775808 ≤ a - b ∧ a - b ≤ 9223372036854775807) : Yields P ρ o (.int .i64 (a - b)) w :=
  Y_arith ho hx hy (by simp [binOp, Op.intArith, wrap_i64 hr])
theorem Y_mul {t u : TypeId} {x y : Operand} {a b : Int} (ho : o.op = .binOp .mul t x y u) (hx : ev ρ x = .int .i64 a) (hy : ev ρ y = .int .i64 b)
    (hr : -9223372036854775808 ≤ a * b ∧ a * b ≤ 9223372036854775807) : Yields P ρ o (.int .i64 (a * b)) w :=
  Y_arith ho hx hy (by simp [binOp, Op.intArith, wrap_i64 hr])
theorem Y_rem {t u : TypeId} {x y : Operand} {a b : Int} (ho : o.op = .binOp .rem t x y u) (hx : ev ρ x = .int .i64 a) (hy : ev ρ y = .int .i64 b) (hb : b ≠ 0) : Yields P ρ o (.int .i64 (a.tmod b)) w :=
  Y_arith ho hx hy (by simp [binOp, Op.intDiv, hb])
theorem Y_quo {t u : TypeId} {x y : Operand} {a b : Int} (ho : o.op = .binOp .quo t x y u) (hx : ev ρ x = .int .i64 a) (hy : ev ρ y = .int .i64 b) (hb : 0 < b)
    (hr : -9223372036854775808 ≤ a ∧ a ≤ 9223372036854775807) : Yields P ρ o (.int .i64 (a.tdiv b)) w := by
  have hq : -9223372036854775808 ≤ a.tdiv b ∧ a.tdiv b ≤ 9223372036854775807 := by
    rcases Int.le_total 0 a with ha | ha
    · have h1 := Int.tdiv_nonneg ha (Int.le_of_lt hb)
      have h2 := Int.tdiv_le_self (b := b) (a := a) ha
      omega
    · obtain ⟨c, rfl⟩ : ∃ c, a = -c := ⟨-a, by omega⟩
      have hc : 0 ≤ c := by omega
      have h1 := Int.tdiv_nonneg hc (Int.le_of_lt hb)
      have h2 := Int.tdiv_le_self (b := b) (a := c) hc
      rw [Int.neg_tdiv]
      omega
  exact Y_arith ho hx hy (by simp [binOp, Op.intDiv, Int.ne_of_gt hb, wrap_i64 hq])

/-! ### parts of slices -/
theorem run_sliceBounds {len cap lo hi : Nat} {low high : Option Value} (hlo : (low = none ∧ lo = 0) ∨ ∃ k i, low = some (.int k i) ∧ i.toNat = lo ∧ 0 ≤ i) (hhi : (high = none ∧ hi = len) ∨ ∃ k i, high = some (.int k i) ∧ i.toNat = hi ∧ 0 ≤ i)
    (h1 : lo ≤ hi) (h2 : hi ≤ cap) : (Instr.sliceBounds true len cap low high none).run P w = .ok (lo, hi, cap) w := by
  have e1 : ∀ (i : Int) (y : Nat), 0 ≤ i → i.toNat ≤ y → (0 ≤ i ∧ i ≤ (y : Int)) := fun i y h h' => ⟨h, by omega⟩
  rcases hlo with ⟨rfl, rfl⟩ | ⟨k, i, rfl, rfl, hi0⟩ <;> rcases hhi with ⟨rfl, rfl⟩ | ⟨k', i', rfl, rfl, hi0'⟩
  · simp [Instr.sliceBounds]
  · simp [Instr.sliceBounds, Instr.sliceBound, asIntOf, e1 _ _ hi0' h2]
  · simp [Instr.sliceBounds, Instr.sliceBound, asIntOf, e1 _ _ hi0 h1]
  · have e2 := e1 i i'.toNat hi0 h1
    have e3 := e1 i' cap hi0' h2
    simp only [Instr.sliceBounds, Instr.sliceBound, asIntOf]
    simp only [Sem.run_bind, Sem.run_pure, Result.andThen, if_pos e3, if_pos e2]

def partAddr (a : Option Addr) (cap lo sz : Nat) : Option Addr := if cap = lo then a else a.map (·.add (lo * sz))

theorem Y_slice {t E : TypeId} {x : Operand} {lo hi mx : Option Operand} {a : Option Addr} {len cap l h sz : Nat} (ho : o.op = .slice t x lo hi mx) (hmx : mx = none) (hu : ∀ w, (underlying t).run P w = .ok (.slice E) w)
    (hsz : ∀ w, (sizeOf E).run P w = .ok sz w) (hx : ev ρ x = .slice a len cap)
    (hlo : (lo.map (ev ρ) = none ∧ l = 0) ∨ ∃ k i, lo.map (ev ρ) = some (.int k i) ∧ i.toNat = l ∧ 0 ≤ i) (hhi : (hi.map (ev ρ) = none ∧ h = len) ∨ ∃ k i, hi.map (ev ρ) = some (.int k i) ∧ i.toNat = h ∧ 0 ≤ i)
    (h1 : l ≤ h) (h2 : h ≤ cap) : Yields P ρ o (.slice (partAddr a cap l sz) (h - l) (cap - l)) w := by
  unfold Yields execOp
  rw [ho, hmx]
  simp [Instr.sliceAt, hu, Instr.slice, hx, run_sliceBounds hlo hhi h1 h2, hsz, partAddr]

theorem RdS.part {a : Option Addr} {len cap lo hi sz : Nat} {l : List Value} (h : RdS cs sz a len cap l) (h1 : lo ≤ hi) (h2 : hi ≤ len) :
    RdS cs sz (partAddr a cap lo sz) (hi - lo) (cap - lo) ((l.drop (lo * sz)).take ((hi - lo) * sz)) := by
  obtain ⟨hl, hc, hm, hr⟩ := h
  have hms : hi * sz ≤ len * sz := Nat.mul_le_mul_right _ h2
  have hms2 : lo * sz ≤ hi * sz := Nat.mul_le_mul_right _ h1
  have hsub : (hi - lo) * sz = hi * sz - lo * sz := Nat.sub_mul ..
  refine ⟨by simp; omega, by omega, by omega, ?_⟩
  by_cases he : hi - lo = 0
  · exact .inl he
  · rcases hr with hr | ⟨b, off, rfl, hp⟩
    · omega
    · have hne : ¬ cap = lo := by omega
      refine .inr ⟨b, off + lo * sz, by simp [partAddr, hne, add_off], ?_⟩
      exact hp.sub _ _ (by omega)

theorem OwnS.part {E : TypeId} {a : Option Addr} {len cap lo hi sz : Nat} {l : List Value} {c : Chunk} (h : OwnS E sz a len cap l c) (h1 : lo ≤ hi) (h2 : hi ≤ len) :
    OwnS E sz (partAddr a cap lo sz) (hi - lo) (cap - lo) ((l.drop (lo * sz)).take ((hi - lo) * sz)) c := by
  obtain ⟨hl, hr⟩ := h
  have hms : hi * sz ≤ len * sz := Nat.mul_le_mul_right _ h2
  have hms2 : lo * sz ≤ hi * sz := Nat.mul_le_mul_right _ h1
  have hsub : (hi - lo) * sz = hi * sz - lo * sz := Nat.sub_mul ..
  refine ⟨by simp; omega, ?_⟩
  rcases hr with ⟨rfl, rfl, rfl, rfl⟩ | ⟨b, off, cur, rfl, rfl, hn, hcm, hf, ht⟩
  · have : lo = 0 := by omega
    have : hi = 0 := by omega
    subst_vars
    exact .inl ⟨by simp [partAddr], by simp, by simp, rfl⟩
  · right
    by_cases hne : cap = lo
    · have h0 : hi = lo := by omega
      subst h0
      exact ⟨b, off, cur, by simp [partAddr, hne], rfl, by omega, by omega, by rw [hne]; simp; omega, by simp⟩
    · refine ⟨b, off + lo * sz, cur, by simp [partAddr, hne, add_off], rfl, by omega, by omega, ?_, ?_⟩
      · have : (cap - lo) * sz = cap * sz - lo * sz := Nat.sub_mul ..
        have : lo * sz ≤ cap * sz := Nat.mul_le_mul_right _ (by omega)
        omega
      · rw [← ht, List.drop_take, List.take_take, List.drop_drop]
        congr 1
        omega

/-! ### elements -/
theorem Y_indexAddr {t E : TypeId} {x y : Operand} {p : Addr} {k : IntKind} {i : Int} {len cap sz : Nat} (ho : o.op = .indexAddr t x y) (hu : ∀ w, (underlying t).run P w = .ok (.slice E) w) (hsz : ∀ w, (sizeOf E).run P w = .ok sz w)
    (hx : ev ρ x = .slice (some p) len cap) (hy : ev ρ y = .int k i) (h0 : 0 ≤ i) (h1 : i < len) : Yields P ρ o (.pointer (some (p.add (i.toNat * sz)))) w := by
  unfold Yields execOp
  rw [ho]
  simp [Instr.indexAt, hx, hy, asIntOf, hu, hsz, h0, h1]

/-- Element i of a slice that is only read: where it lies, and what it reads. -/
theorem stepIdx {t E : TypeId} {x y : Operand} {a : Option Addr} {k : IntKind} {i : Int} {len cap sz : Nat} {l : List Value} (ho : o.op = .indexAddr t x y) (hg : o.guard = none) (hd : dstOK n o.dst = true)
    (hu : ∀ w, (underlying t).run P w = .ok (.slice E) w) (hsz : ∀ w, (sizeOf E).run P w = .ok sz w)
    (hx : ev ρ x = .slice a len cap) (hy : ev ρ y = .int k i) (hR : RdS cs sz a len cap l) (h0 : 0 ≤ i) (h1 : i < len)
    (h : ∀ b off, PtR cs b off ((l.drop (i.toNat * sz)).take sz) → OpsE P n ops rest N (put ρ o.dst (.pointer (some ⟨b, off, none⟩))) w) : OpsE P n ops (o :: rest) N ρ w := by
  obtain ⟨hl, hc, hm, hr⟩ := hR
  rcases hr with hr | ⟨b, off, rfl, hp⟩
  · omega
  · have hlt : i.toNat + 1 ≤ len := by omega
    have hms : (i.toNat + 1) * sz ≤ len * sz := Nat.mul_le_mul_right _ hlt
    rw [Nat.add_mul, Nat.one_mul] at hms
    refine stepY _ hg hd (Y_indexAddr ho hu hsz hx hy h0 h1) ?_
    rw [add_off]
    exact h b _ (hp.sub _ _ (by omega))

/-- The same of a slice of one's own: the place, for a store. -/
theorem stepIdxOwn {t E : TypeId} {x y : Operand} {a : Option Addr} {k : IntKind} {i : Int} {len cap sz : Nat} {l : List Value} {c : Chunk} (ho : o.op = .indexAddr t x y) (hg : o.guard = none) (hd : dstOK n o.dst = true)
    (hu : ∀ w, (underlying t).run P w = .ok (.slice E) w) (hsz : ∀ w, (sizeOf E).run P w = .ok sz w)
    (hx : ev ρ x = .slice a len cap) (hy : ev ρ y = .int k i) (hO : OwnS E sz a len cap l c) (h0 : 0 ≤ i) (h1 : i < len)
    (h : ∀ b off, a = some ⟨b, off, none⟩ → OpsE P n ops rest N (put ρ o.dst (.pointer (some ⟨b, off + i.toNat * sz, none⟩))) w) : OpsE P n ops (o :: rest) N ρ w := by
  rcases hO with ⟨hl, ⟨_, rfl, _⟩ | ⟨b, off, cur, rfl, rfl, hn, hcm, hf, ht⟩⟩
  · omega
  · refine stepY _ hg hd (Y_indexAddr ho hu hsz hx hy h0 h1) ?_
    rw [add_off]
    exact h b off rfl

/-! ### append -/
theorem oneCells {vs : List Value} (h : ∀ u ∈ vs, u.oneCell' = true) : ∀ u ∈ vs, u.oneCell' = true := h

theorem run_append_room' (t ty e : TypeId) (i : TypeInfo) (ht : P.underlying t = some (.slice e)) (hi : P.info? e = some i)
    (g off sLen sCap : Nat) (cur : Array Value) (hg : w.heap[g]? = some (.cells cur e (0, 0)))
    (a : Option Addr) (m c : Nat) (news : List Value) (hf : (Builtin.firstCells i.size m (.slice a m c)).run P w = .ok news.toArray w) (h1 : ∀ u ∈ news, u.oneCell' = true)
    (hroom : sLen + m ≤ sCap) (hfit : off + sLen * i.size + news.length ≤ cur.size) :
    (Builtin.append_ #[t, t] ty #[.slice (some ⟨g, off, none⟩) sLen sCap, .slice a m c]).run P w =
      .ok (.slice (some ⟨g, off, none⟩) (sLen + m) sCap) (w.setRow g (wr cur (off + sLen * i.size) news)) := by
  have hst := run_storeCells_at P g (off + sLen * i.size) e news 0 cur w hg (by simpa using hfit) h1
  simp only [Nat.add_zero] at hst
  simp [Builtin.append_, run_underlying ht, sizeOf, typeInfo, hi, Builtin.lenOf, hroom, hf, add_off, hst, wr]

theorem run_firstCells_rd {sz m c : Nat} {a : Option Addr} {l : List Value} (hS : Sat W w cs) (hR : RdS cs sz a m c l) : (Builtin.firstCells sz m (.slice a m c)).run P w = .ok l.toArray w := by
  obtain ⟨hl, hc, hm, hr⟩ := hR
  rcases hr with rfl | ⟨b, off, rfl, hp⟩
  · have : l = [] := List.eq_nil_of_length_eq_zero (by simpa using hl)
    subst this
    cases a with
    | none => exact run_firstCells_none w _ _ _ _
    | some p => exact run_firstCells_some (P := P) w sz 0 p 0 c [] (by simp) (by simp)
  · exact run_firstCells_some (P := P) w sz m ⟨b, off, none⟩ m c l hl (fun j v hv => by rw [add_off]; exact hp.cell hS hv)

theorem run_append_grow' (t ty e : TypeId) (i : TypeInfo) (z : Value) (ht : P.underlying t = some (.slice e)) (hi : P.info? e = some i) (hz : i.zero = some z)
    (b : Option Addr) (sLen sCap : Nat) (olds : List Value) (hfo : ∀ w' : World, w'.heap = w.heap → (Builtin.firstCells i.size sLen (.slice b sLen sCap)).run P w' = .ok olds.toArray w')
    (a : Option Addr) (m c : Nat) (news : List Value) (hf : ∀ w' : World, w'.heap = w.heap → (Builtin.firstCells i.size m (.slice a m c)).run P w' = .ok news.toArray w')
    (hg : sCap < sLen + m) (h63 : ((sLen + m : Nat) : Int) ≤ 9223372036854775807) (hfit : Builtin.nextslicecap (sLen + m) sCap * i.bytes ≤ 281474976710656) :
    (Builtin.append_ #[t, t] ty #[.slice b sLen sCap, .slice a m c]).run P w =
      .ok (.slice (some ⟨w.heap.size, 0, none⟩) (sLen + m) (grownCap w (sLen + m) sCap e))
        (w.drew.alloc (.cells ((olds ++ news).toArray ++ Builtin.zeroCells z.cells (grownCap w (sLen + m) sCap e - (sLen + m))) e)) := by
  have hn : ¬ (sLen + m ≤ sCap) := by omega
  have h63' : ¬ (9223372036854775807 < ((sLen : Int) + (m : Int))) := by omega
  have h48' : ¬ (281474976710656 < Builtin.nextslicecap (sLen + m) sCap * i.bytes) := by omega
  have hf1 := hf w.drew rfl
  have hf2 := hfo w.drew rfl
  simp [Builtin.append_, run_underlying ht, sizeOf, typeInfo, zeroValue, hi, hz, Builtin.lenOf, hn, h63', h48', Question.forced, hf1, hf2, newRow, grownCap]
  have e2 : ∀ Z : Array Value, olds.toArray ++ (news.toArray ++ Z) = (olds ++ news).toArray ++ Z := fun Z => by
    rw [← Array.append_assoc]
    simp
  rw [e2]

theorem Sat.of_heap {w' : World} (h : Sat W w cs) (e : w'.heap = w.heap) (h1 : w'.os = w.os) (h2 : w'.tape = w.tape) (h3 : w'.output = w.output) : Sat W w' cs :=
  ⟨h1.trans h.os, h2.trans h.tape, h3.trans h.output, h.nd, fun p hp => by rw [e]; exact h.all p hp⟩

theorem cells_ext {w' : World} {sz m c : Nat} {a : Option Addr} {l : List Value} (hS : Sat W w cs) (hR : RdS cs sz a m c l) (e : w'.heap = w.heap) : (Builtin.firstCells sz m (.slice a m c)).run P w' = .ok l.toArray w' :=
  run_firstCells_rd (W := w') (cs := cs) ⟨rfl, rfl, rfl, hS.nd, fun p hp => by rw [e]; exact hS.all p hp⟩ hR

theorem run_append {t ty E : TypeId} {i : TypeInfo} {z : Value} {sz nb : Nat} (ht : P.underlying t = some (.slice E)) (hi : P.info? E = some i) (hz : i.zero = some z) (hsize : i.size = sz) (hby : i.bytes = nb) (hzs : z.cells.size = sz)
    {a a2 : Option Addr} {m cap k c2 : Nat} {l news : List Value} {c : Chunk} (hS : Sat W w cs) (hO : OwnS E sz a m cap l c) (j : Nat) (hj : cs[j]? = some c) (hR : RdS cs sz a2 k c2 news) (h1 : ∀ u ∈ news, u.oneCell' = true)
    (hb : (m + k) * nb ≤ 140737488355328) (h63 : m + k ≤ maxLen) :
    ∃ a' cap' c' w', (Builtin.append_ #[t, t] ty #[.slice a m cap, .slice a2 k c2]).run P w = .ok (.slice a' (m + k) cap') w' ∧ OwnS E sz a' (m + k) cap' (l ++ news) c' ∧ Sat W w' (cs.set j c') := by
  subst hsize; subst hby
  have hOr : RdS cs i.size a m cap l := hO.rd (fun p hp => mem_in j hj hp)
  have hlen : (l ++ news).length = (m + k) * i.size := by rw [List.length_append, hO.1, hR.1, Nat.add_mul]
  have hOn : m ≤ cap := hO.cap_le.1
  have h63b : m + k ≤ 9223372036854775807 := by simp only [maxLen] at h63; omega
  by_cases hroom : m + k ≤ cap
  · rcases hO.2 with ⟨rfl, rfl, rfl, rfl⟩ | ⟨b, off, cur, rfl, rfl, hn, hcm, hf, htk⟩
    · have hk : k = 0 := by omega
      subst hk
      have hn : news = [] := List.eq_nil_of_length_eq_zero (by simpa using hR.1)
      have hl0 : l = [] := List.eq_nil_of_length_eq_zero (by simpa using hO.1)
      subst hn; subst hl0
      have hfc := run_firstCells_rd (P := P) hS hR
      refine ⟨none, 0, [], w, ?_, OwnS.nil E i.size, hS.set j hj (fun h => h)⟩
      simp [Builtin.append_, run_underlying ht, sizeOf, typeInfo, hi, Builtin.lenOf, hfc]
    · have hms : (m + k) * i.size ≤ cap * i.size := Nat.mul_le_mul_right _ hroom
      have hadd : (m + k) * i.size = m * i.size + k * i.size := Nat.add_mul ..
      have hnl := hR.1
      have hr := run_append_room' (P := P) (w := w) t ty E i ht hi b off m cap cur (hS.at j hj) a2 k c2 news (run_firstCells_rd (P := P) hS hR) h1 hroom (by omega)
      refine ⟨_, cap, _, _, hr, ⟨hlen, .inr ⟨b, off, _, rfl, rfl, hroom, hcm, ?_, ?_⟩⟩, hS.rowAt j hj _⟩
      · rw [size_wr (by omega)]; exact hf
      · have := wr_own (cur := cur) (off := off) (m := (m + k) * i.size) (i := m * i.size) (vs := news) (by omega) (by omega)
        rw [this]
        have e1 : ((cur.toList.drop off).take ((m + k) * i.size)).take (m * i.size) = l := by
          rw [List.take_take, Nat.min_eq_left (by omega), htk]
        have e2 : ((cur.toList.drop off).take ((m + k) * i.size)).drop (m * i.size + news.length) = [] := by
          apply List.drop_eq_nil_of_le
          simp
          omega
        simp [wrL, e1, e2]
  · have hcap : cap < m + k := by omega
    have hr := run_append_grow' (P := P) (w := w) t ty E i z ht hi hz a m cap l (fun w' e => cells_ext hS hOr e) a2 k c2 news (fun w' e => cells_ext hS hR e) hcap (by omega) (growslice_fits hcap hb)
    have hge := grownCap_ge w (m + k) cap E
    refine ⟨_, _, [(w.heap.size, .cells ((l ++ news).toArray ++ Builtin.zeroCells z.cells (grownCap w (m + k) cap E - (m + k))) E)], _, hr, ⟨hlen, .inr ⟨w.heap.size, 0, _, rfl, rfl, hge, grownCap_le_maxLen w _ _ _ h63, ?_, ?_⟩⟩, ?_⟩
    · simp only [Array.size_append, List.size_toArray, size_zeroCells, hzs, hlen, ← Nat.add_mul, Nat.zero_add]
      exact Nat.le_of_eq (by congr 1; omega)
    · simp only [Array.toList_append, List.drop_zero]
      rw [← hlen]
      exact List.take_left
    · have hS2 : Sat W w.drew cs := hS.drew
      have h3 := (hS2.alloc (.cells ((l ++ news).toArray ++ Builtin.zeroCells z.cells (grownCap w (m + k) cap E - (m + k))) E))
      have h4 := h3.pick0 (j + 1) (by simpa using hj)
      have h5 := h4.tail
      simp only [List.eraseIdx_cons_succ] at h5
      refine h5.perm ?_
      have h6 := (flatten_set cs j c [(w.heap.size, .cells ((l ++ news).toArray ++ Builtin.zeroCells z.cells (grownCap w (m + k) cap E - (m + k))) E)] hj).symm
      exact h6

theorem stepAppend {t E : TypeId} {xs : Array Operand} {ats : Array TypeId} {x y : Operand} {i : TypeInfo} {z : Value} {sz nb : Nat} (ho : o.op = .call { callee := .builtin .append, args := xs, argTypes := ats }) (hxs : xs = #[x, y]) (hats : ats = #[t, t]) (hg : o.guard = none) (hd : dstOK n o.dst = true)
    (ht : P.underlying t = some (.slice E)) (hi : P.info? E = some i) (hz : i.zero = some z) (hsize : i.size = sz) (hby : i.bytes = nb) (hzs : z.cells.size = sz)
    {a a2 : Option Addr} {m cap k c2 : Nat} {l news : List Value} {c : Chunk} (hx : ev ρ x = .slice a m cap) (hy : ev ρ y = .slice a2 k c2) (hS : Sat W w cs) (hO : OwnS E sz a m cap l c) (j : Nat) (hj : cs[j]? = some c) (hR : RdS cs sz a2 k c2 news) (h1 : ∀ u ∈ news, u.oneCell' = true)
    (hb : (m + k) * nb ≤ 140737488355328) (h63 : m + k ≤ maxLen)
    (h : ∀ a' cap' c' w', OwnS E sz a' (m + k) cap' (l ++ news) c' → Sat W w' (cs.set j c') → OpsE P n ops rest N (put ρ o.dst (.slice a' (m + k) cap')) w') : OpsE P n ops (o :: rest) N ρ w := by
  obtain ⟨a', cap', c', w', hr, hO', hS'⟩ := run_append (P := P) (ty := o.type) ht hi hz hsize hby hzs hS hO j hj hR h1 hb h63
  refine stepRun (v := .slice a' (m + k) cap') (w' := w') hg hd ?_ (h a' cap' c' w' hO' hS')
  subst hxs; subst hats
  unfold execOp
  rw [ho]
  simp only [resolve, invoke, builtin, List.map_toArray, List.map_cons, List.map_nil, hx, hy]
  simp [hr]

/-! ### make -/
theorem stepMake {t E : TypeId} {x y : Operand} {i : TypeInfo} {z : Value} {sz nb : Nat} {kl kc : IntKind} {m : Nat} (ho : o.op = .makeSlice t x y) (hg : o.guard = none) (hd : dstOK n o.dst = true)
    (ht : P.underlying t = some (.slice E)) (hi : P.info? E = some i) (hz : i.zero = some z) (hsize : i.size = sz) (hby : i.bytes = nb) 
    (hx : ev ρ x = .int kl m) (hy : ev ρ y = .int kc m) (hS : Sat W w cs) (hb : nb * m ≤ 281474976710656) (h63 : m ≤ maxLen)
    (h : ∀ b c w', OwnS E sz (some ⟨b, 0, none⟩) m m (madeCells z.cells (m * sz)).toList c → Sat W w' (c :: cs) → OpsE P n ops rest N (put ρ o.dst (.slice (some ⟨b, 0, none⟩) m m)) w') : OpsE P n ops (o :: rest) N ρ w := by
  subst hby
  obtain ⟨w', hr, ho', hgr⟩ := run_make_full (P := P) w w.heap.size t E i z sz ht hi hz hsize kl kc m hb h63 (Nat.le_refl _)
  obtain ⟨hl, ⟨h0, _⟩ | ⟨g, cap, cur, he, hge, hh, hn, hcm, hcs, htk⟩⟩ := ho'
  · cases h0
  · simp only [Value.slice.injEq, Option.some.injEq, Addr.mk.injEq, and_true] at he
    obtain ⟨he, _, hcap⟩ := he
    subst he; subst hcap
    refine stepRun (v := .slice (some ⟨w.heap.size, 0, none⟩) m m) (w' := w') hg hd ?_ (h w.heap.size [(w.heap.size, .cells cur E (0, 0))] w' ⟨hl, .inr ⟨w.heap.size, 0, cur, rfl, rfl, hn, hcm, by omega, by simpa using htk⟩⟩ ?_)
    · unfold execOp
      rw [ho]
      simp [hx, hy, hr]
    · refine ⟨hgr.os.trans hS.os, hgr.tape.trans hS.tape, hgr.output.trans hS.output, ?_, ?_⟩
      · simp only [List.flatten_cons, List.singleton_append, List.map_cons, List.nodup_cons]
        refine ⟨fun hm => ?_, hS.nd⟩
        obtain ⟨p, hp, he⟩ := List.mem_map.1 hm
        have := hS.lt (b := p.1) (o := p.2) hp
        omega
      · intro p hp
        simp only [List.flatten_cons, List.singleton_append, List.mem_cons] at hp
        rcases hp with rfl | hp
        · exact hh
        · have hl := hS.lt (b := p.1) (o := p.2) hp
          rw [hgr.block p.1 hl (by simp)]
          exact hS.all p hp
end
end Go.E
