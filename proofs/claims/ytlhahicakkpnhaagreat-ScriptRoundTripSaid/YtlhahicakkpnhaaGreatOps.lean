/-
  The operations, over environments and known pieces of the heap. For any program.
-/
import Derived.Test.YtlhahicakkpnhaaGreatHeap
namespace Go.E
section
variable {P : Program} {n : Nat} {ρ : Env} {W w : World} {cs : List Chunk} {ops : Array Oper} {rest : List Oper} {N : Env → World → Prop} {o : Oper}

theorem add_off (b off k : Nat) : (⟨b, off, none⟩ : Addr).add k = ⟨b, off + k, none⟩ := by unfold Addr.add; split <;> simp_all

/-! ### loads -/
theorem Y_load {t : TypeId} {x : Operand} {p : Addr} {v : Value} (ho : o.op = .load t x) (hag : (isAgg t).run P w = .ok false w) (hx : ev ρ x = .pointer (some p)) (hc : w.cell? p = some v) :
    Yields P ρ o v w := by
  unfold Yields execOp
  rw [ho]
  simp [Instr.loadAt, hx, Instr.sureAddr, loadVar, hag, hc]

theorem Y_loadA {t : TypeId} {x : Operand} {b off k : Nat} {vs : List Value} (ho : o.op = .load t x) (hag : (isAgg t).run P w = .ok true w) (hsz : (sizeOf t).run P w = .ok k w)
    (hx : ev ρ x = .pointer (some ⟨b, off, none⟩)) (hl : vs.length = k) (hS : Sat W w cs) (hp : PtR cs b off vs) : Yields P ρ o (.agg vs.toArray) w := by
  subst hl
  have hc : ∀ j v, vs[j]? = some v → w.cell? ((⟨b, off, none⟩ : Addr).add j) = some v := fun j v hv => by rw [add_off]; exact hp.cell hS hv
  have hr := run_loadCells_list (P := P) w ⟨b, off, none⟩ vs hc
  unfold Yields execOp
  rw [ho]
  simp [Instr.loadAt, hx, Instr.sureAddr, loadVar, hag, hsz, hr]

theorem PtR.blk {b off : Nat} {c : Array Value} {E : TypeId} {f : Nat × Nat} (i : Nat) (hi : cs[i]? = some [(b, .cells c E f)]) {l : List Value} (hl : (c.toList.drop off).take l.length = l) : PtR cs b off l :=
  ⟨c, E, f, mem_at i hi, hl⟩

theorem RdS.blk {b sz k : Nat} {c : Array Value} {E : TypeId} {f : Nat × Nat} (i : Nat) (hi : cs[i]? = some [(b, .cells c E f)]) {l : List Value} (hl : c.toList = l) (hk : l.length = k * sz) (hm : k ≤ maxLen) :
    RdS cs sz (some ⟨b, 0, none⟩) k k l := ⟨hk, Nat.le_refl _, hm, .inr ⟨b, 0, rfl, c, E, f, mem_at i hi, by simp [hl]⟩⟩

/-! ### stores -/
def wr (c : Array Value) (off : Nat) (vs : List Value) : Array Value := (c.toList.take off ++ vs ++ c.toList.drop (off + vs.length)).toArray

theorem run_store {t : TypeId} {b off k : Nat} {v : Value} {vs : List Value} {c : Array Value} {E : TypeId} (hsz : ∀ w, (sizeOf t).run P w = .ok k w) (hv : v.cells.toList = vs) (hk : vs.length = k)
    (h1 : ∀ u ∈ vs, u.oneCell' = true) (hb : w.heap[b]? = some (.cells c E (0, 0))) (hfit : off + vs.length ≤ c.size) :
    (Instr.storeAt t (.pointer (some ⟨b, off, none⟩)) v).run P w = .ok () (w.setRow b (wr c off vs)) := by
  have hst := run_storeCells_at P b off E vs 0 c w hb (by simpa using hfit) h1
  have hc : v.cells.size = k := by rw [← hk, ← hv]; simp
  simp only [Nat.add_zero] at hst
  simp [Instr.storeAt, Instr.sureAddr, storeVar, hsz, hc, hv, wr, hst]

theorem stepStore {t : TypeId} {x y : Operand} {b off k : Nat} {v : Value} {vs : List Value} {c : Array Value} {E : TypeId} (ho : o.op = .store t x y) (hg : o.guard = none) (hd : o.dst = none)
    (hsz : ∀ w, (sizeOf t).run P w = .ok k w) (hx : ev ρ x = .pointer (some ⟨b, off, none⟩)) (hy : ev ρ y = v) (hv : v.cells.toList = vs) (hk : vs.length = k)
    (h1 : ∀ u ∈ vs, u.oneCell' = true) (hS : Sat W w cs) (i : Nat) (hi : cs[i]? = some [(b, .cells c E (0, 0))]) (hfit : off + vs.length ≤ c.size) (c' : Array Value) (hc' : wr c off vs = c')
    (h : ∀ w', Sat W w' (cs.set i [(b, .cells c' E (0, 0))]) → OpsE P n ops rest N ρ w') : OpsE P n ops (o :: rest) N ρ w := by
  subst hc'
  have hr := run_store (P := P) (w := w) hsz hv hk h1 (hS.at i hi) hfit
  refine stepSkip (w' := w.setRow b (wr c off vs)) hg (by rw [hd]; rfl) ?_ ?_
  · unfold execOp
    rw [ho]
    simp [hx, hy, hr]
  · rw [hd]
    exact h _ (hS.rowAt i hi _)

/-- A store into a slice of one's own. -/
def wrL (l : List Value) (off : Nat) (vs : List Value) : List Value := l.take off ++ vs ++ l.drop (off + vs.length)

theorem wr_own {cur : Array Value} {off m i : Nat} {vs : List Value} (hm : off + m ≤ cur.size) (hi : i + vs.length ≤ m) :
    ((wr cur (off + i) vs).toList.drop off).take m = wrL ((cur.toList.drop off).take m) i vs := by
  have hlen : cur.toList.length = cur.size := by simp
  apply List.ext_getElem?
  intro j
  simp only [wr, wrL, List.getElem?_take, List.getElem?_drop, List.getElem?_append, List.length_take, List.length_drop, List.length_append, hlen]
  by_cases hj : j < m
  · simp only [hj, if_true]
    by_cases h1 : j < i
    · rw [if_pos (by omega), if_pos (by omega), if_pos (by omega), if_pos (by omega), if_pos (by omega), if_pos (by omega)]
      try rw [if_pos (by omega)]
    · by_cases h2 : j < i + vs.length
      · rw [if_pos (by omega), if_neg (by omega), if_pos (by omega), if_neg (by omega)]
        congr 1
        omega
      · rw [if_neg (by omega), if_neg (by omega), if_pos (by omega)]
        congr 1
        omega
  · simp only [hj, if_false]
    rw [if_neg (by omega), if_neg (by omega)]

theorem size_wr {c : Array Value} {off : Nat} {vs : List Value} (h : off + vs.length ≤ c.size) : (wr c off vs).size = c.size := by
  simp [wr]
  omega

theorem stepStoreS {t : TypeId} {x y : Operand} {b off i k sz m cap : Nat} {v : Value} {vs l : List Value} {c : Chunk} {E : TypeId} (ho : o.op = .store t x y) (hg : o.guard = none) (hd : o.dst = none)
    (hsz : ∀ w, (sizeOf t).run P w = .ok k w) (hO : OwnS E sz (some ⟨b, off, none⟩) m cap l c) (hx : ev ρ x = .pointer (some ⟨b, off + i, none⟩)) (hy : ev ρ y = v) (hv : v.cells.toList = vs) (hk : vs.length = k)
    (h1 : ∀ u ∈ vs, u.oneCell' = true) (hS : Sat W w cs) (j : Nat) (hj : cs[j]? = some c) (hfit : i + vs.length ≤ m * sz)
    (h : ∀ w' c', OwnS E sz (some ⟨b, off, none⟩) m cap (wrL l i vs) c' → Sat W w' (cs.set j c') → OpsE P n ops rest N ρ w') : OpsE P n ops (o :: rest) N ρ w := by
  rcases hO with ⟨hl, ⟨h0, _⟩ | ⟨b', off', cur, he, rfl, hn, hcm, hf, ht⟩⟩
  · cases h0
  · simp only [Option.some.injEq, Addr.mk.injEq, and_true] at he
    obtain ⟨rfl, rfl⟩ := he
    have hms : m * sz ≤ cap * sz := Nat.mul_le_mul_right _ hn
    refine stepStore ho hg hd hsz hx hy hv hk h1 hS j hj (by omega) _ rfl fun w' hS' => h w' _ ⟨?_, .inr ⟨b, off, _, rfl, rfl, hn, hcm, ?_, ?_⟩⟩ hS'
    · simp [wrL]; omega
    · rw [size_wr (by omega)]; exact hf
    · rw [wr_own (by omega) hfit, ht]

/-! ### new blocks -/
theorem run_newRow (E : TypeId) (c : Array Value) : (newRow E c).run P w = .ok ⟨w.heap.size, 0, none⟩ (w.alloc (.cells c E)) := by
  rfl

theorem stepAlloc {t : TypeId} {z : Value} (ho : o.op = .alloc t) (hg : o.guard = none) (hd : dstOK n o.dst = true) (hz : ∀ w, (zeroValue t).run P w = .ok z w) (hS : Sat W w cs)
    (h : ∀ b w', Sat W w' ([(b, .cells z.cells t (0, 0))] :: cs) → OpsE P n ops rest N (put ρ o.dst (.pointer (some ⟨b, 0, none⟩))) w') : OpsE P n ops (o :: rest) N ρ w := by
  refine stepRun (v := .pointer (some ⟨w.heap.size, 0, none⟩)) (w' := w.alloc (.cells z.cells t)) hg hd ?_ (h _ _ (hS.alloc _))
  unfold execOp
  rw [ho]
  simp [Instr.alloc, hz, newVar, run_newRow]

theorem stepBox {t : TypeId} {x : Operand} {v : Value} (c : Array Value) (ho : o.op = .box t x) (hg : o.guard = none) (hd : dstOK n o.dst = true) (hx : ev ρ x = v) (hc : v.cells = c) (hS : Sat W w cs)
    (h : ∀ b w', Sat W w' ([(b, .cells c t (0, 0))] :: cs) → OpsE P n ops rest N (put ρ o.dst (.pointer (some ⟨b, 0, none⟩))) w') : OpsE P n ops (o :: rest) N ρ w := by
  subst hc
  refine stepRun (v := .pointer (some ⟨w.heap.size, 0, none⟩)) (w' := w.alloc (.cells v.cells t)) hg hd ?_ (h _ _ (hS.alloc _))
  unfold execOp
  rw [ho]
  simp [Instr.box, hx, newVar, run_newRow]

theorem stepBuildSlice {t E : TypeId} {len sz : Nat} {parts : Array (Nat × Operand)} {z : Value} (c : Array Value) (ho : o.op = .buildSlice t len parts) (hg : o.guard = none) (hd : dstOK n o.dst = true)
    (hu : ∀ w, (underlying t).run P w = .ok (.slice E) w) (hsz : ∀ w, (sizeOf E).run P w = .ok sz w) (hz : ∀ w, (zeroValue E).run P w = .ok z w) (hlim : Nat.ble (len * sz) (2 ^ 24) = true)
    (hf : Instr.fill (fun i => some (i * sz, sz)) ((Array.range (len * sz)).map ((if len * sz = 0 then #[] else z.cells)[· % (if len * sz = 0 then #[] else z.cells).size]!)) (parts.map fun (i, x) => (i, ev ρ x)).toList = some c) (hS : Sat W w cs)
    (h : ∀ b w', Sat W w' ([(b, .cells c E (0, 0))] :: cs) → OpsE P n ops rest N (put ρ o.dst (.slice (some ⟨b, 0, none⟩) len len)) w') : OpsE P n ops (o :: rest) N ρ w := by
  refine stepRun (v := .slice (some ⟨w.heap.size, 0, none⟩) len len) (w' := w.alloc (.cells c E)) hg hd ?_ (h _ _ (hS.alloc _))
  have hlim' : ¬ (len * sz > 2 ^ 24) := by have := Nat.le_of_ble_eq_true hlim; omega
  unfold execOp
  rw [ho]
  by_cases h0 : len * sz = 0
  · simp only [h0, if_true] at hf
    simp [Instr.buildSlice, hu, hsz, h0]
    simp at hf
    simp [hf, run_newRow]
  · simp only [h0, if_false] at hf
    simp [Instr.buildSlice, hu, hsz, hlim', h0, hz]
    simp at hf
    simp [hf, run_newRow]

/-! ### calls -/
theorem stepF {f : FuncId} {xs : Array Operand} {ats : Array TypeId} {args : Array Value} (ho : o.op = .call { callee := .value (.func f), args := xs, argTypes := ats }) (hg : o.guard = none) (hd : dstOK n o.dst = true)
    (hc : ∀ args w, (callFunc f args).run P w = .ok (.enter f args) w) (hargs : xs.map (ev ρ) = args) (h : Calls P f args w fun e w' => ∃ v, e = .returned v ∧ OpsE P n ops rest N (put ρ o.dst v) w') :
    OpsE P n ops (o :: rest) N ρ w := by
  refine stepCall (f := f) (args := args) hg hd ?_ h
  unfold execOp
  rw [ho]
  simp [resolve, ev, Deferred.ofValue, invoke, hargs, hc]

theorem stepClosure {f : FuncId} {t : Tmp} {xs : Array Operand} {ats : Array TypeId} {args cap : Array Value} (ho : o.op = .call { callee := .value (.tmp t), args := xs, argTypes := ats }) (hg : o.guard = none) (hd : dstOK n o.dst = true)
    (hf : ρ t = .func (.func f) #[] cap) (hc : ∀ args w, (callFunc f args).run P w = .ok (.enter f args) w) (hargs : xs.map (ev ρ) ++ cap = args)
    (h : Calls P f args w fun e w' => ∃ v, e = .returned v ∧ OpsE P n ops rest N (put ρ o.dst v) w') : OpsE P n ops (o :: rest) N ρ w := by
  refine stepCall (f := f) (args := args) hg hd ?_ h
  unfold execOp
  rw [ho]
  simp [resolve, ev, hf, Deferred.ofValue, invoke, hargs, hc]
end
end Go.E
