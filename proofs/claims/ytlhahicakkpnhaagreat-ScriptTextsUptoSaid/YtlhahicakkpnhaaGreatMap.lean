/-
  Maps from pairs of whole numbers to truths, as sets of pairs. For any program.
-/
import Derived.Test.YtlhahicakkpnhaaGreatSl3
namespace Go.E
def key2 (q : Int × Int) : Value := .agg #[.int .i64 q.1, .int .i64 q.2]
/-- The block b is a map in which just these keys are, each with the value true. -/
def MapR (b : Nat) (ks : List (Int × Int)) (c : Chunk) : Prop := ∃ (es : Array MapEntry) (clock : Nat), c = [(b, .map es clock)] ∧ es.toList.map (·.key) = ks.map key2 ∧ ∀ e ∈ es.toList, e.val = .bool true
section
variable {P : Program} {n : Nat} {ρ : Env} {W w : World} {cs : List Chunk} {ops : Array Oper} {rest : List Oper} {N : Env → World → Prop} {o : Oper}
theorem run_getM {b : Nat} {es : Array MapEntry} {k : Nat} (h : w.heap[b]? = some (.map es k)) : (getObj b).run P w = .ok (.map es k) w := by simp [getObj, Sem.run, h]
theorem run_setM {b : Nat} {es : Array MapEntry} {k : Nat} (ob : Obj) (h : w.heap[b]? = some (.map es k)) : (setObj b ob).run P w = .ok () { w with heap := w.heap.setIfInBounds b ob } := by simp [setObj, Sem.run, h]
/-- Keys of this type are two whole numbers. -/
structure Key2 (P : Program) (K : TypeId) : Prop where
  u : ∃ fs, ∀ w, (underlying K).run P w = .ok (.struct fs) w
  eq : ∀ (a b c d : Int) w, (Op.equal K (key2 (a, b)) (key2 (c, d))).run P w = .ok (a == c && b == d) w
  ck : ∀ (e : Bool) (q : Int × Int) w, (Instr.checkKey e 10000 K (key2 q)).run P w = .ok () w
theorem run_asking {K : TypeId} (hK : Key2 P K) (q : Int × Int) : ∀ (es : List MapEntry) (ks : List (Int × Int)) (i : Nat), es.map (·.key) = ks.map key2 → (∀ e ∈ es, e.val = .bool true) →
    ∃ r, (Instr.findAsking K (key2 q) es i).run P w = .ok r w ∧ ((q ∈ ks ∧ ∃ j, r = some (j, .bool true)) ∨ (q ∉ ks ∧ r = none))
  | [], ks, i, hk, _ => by
    have : ks = [] := by cases ks with | nil => rfl | cons => simp at hk
    subst this
    exact ⟨none, rfl, .inr ⟨by simp, rfl⟩⟩
  | e :: es, ks, i, hk, hv => by
    cases ks with
    | nil => simp at hk
    | cons k ks =>
      simp only [List.map_cons, List.cons.injEq] at hk
      obtain ⟨r, hr, hc⟩ := run_asking hK q es ks (i + 1) hk.2 (fun x hx => hv x (List.mem_cons_of_mem _ hx))
      have he := hK.eq q.1 q.2 k.1 k.2 w
      by_cases h : q = k
      · subst h
        refine ⟨some (i, .bool true), ?_, .inl ⟨List.mem_cons_self, i, rfl⟩⟩
        unfold Instr.findAsking
        rw [hk.1]
        simp only [Sem.run_bind, he, Result.andThen]
        simp [hv e List.mem_cons_self]
      · refine ⟨r, ?_, ?_⟩
        · unfold Instr.findAsking
          rw [hk.1]
          have h2 : (q.1 == k.1 && q.2 == k.2) = false := by
            rw [← Bool.not_eq_true]; intro h3
            simp only [Bool.and_eq_true, beq_iff_eq] at h3
            exact h (Prod.ext h3.1 h3.2)
          simp only [Sem.run_bind, he, Result.andThen, h2]
          simpa using hr
        · rcases hc with ⟨h1, h2⟩ | ⟨h1, h2⟩
          · exact .inl ⟨List.mem_cons_of_mem _ h1, h2⟩
          · exact .inr ⟨by rw [List.mem_cons]; exact fun h3 => h3.elim h h1, h2⟩
theorem run_find {K : TypeId} (hK : Key2 P K) (q : Int × Int) (es : List MapEntry) (ks : List (Int × Int)) (hk : es.map (·.key) = ks.map key2) (hv : ∀ e ∈ es, e.val = .bool true) :
    ∃ r, (Instr.findKey K (key2 q) es).run P w = .ok r w ∧ ((q ∈ ks ∧ ∃ j, r = some (j, .bool true)) ∨ (q ∉ ks ∧ r = none)) := by
  obtain ⟨fs, hu⟩ := hK.u
  cases es with
  | nil =>
    have : ks = [] := by cases ks with | nil => rfl | cons => simp at hk
    subst this
    refine ⟨none, ?_, .inr ⟨by simp, rfl⟩⟩
    unfold Instr.findKey
    simp only [Sem.run_bind, hu, Result.andThen, Instr.findNow]; rfl
  | cons e es =>
    obtain ⟨r, hr, hc⟩ := run_asking (w := w) hK q (e :: es) ks 0 hk hv
    refine ⟨r, ?_, hc⟩
    unfold Instr.findKey
    simp only [Sem.run_bind, hu, Result.andThen, Instr.findNow, Instr.sameNow]
    exact hr
/-- m[k] of a set. -/
theorem Y_mapget {t K E : TypeId} {x ix : Operand} {b : Nat} {ks : List (Int × Int)} {c : Chunk} {u v : Int} (hS : Sat W w cs) (j : Nat) (hj : cs[j]? = some c) (hM : MapR b ks c) (hK : Key2 P K)
    (hu : ∀ w, (underlying t).run P w = .ok (.map K E) w) (hz : ∀ w, (zeroValue E).run P w = .ok (.bool false) w)
    (ho : o.op = .lookup t x ix false := by rfl) (hx : ev ρ x = .map (some b) := by kernel_rfl) (hi : ev ρ ix = .agg #[.int .i64 u, .int .i64 v] := by kernel_rfl) : Yields P ρ o (.bool (decide ((u, v) ∈ ks))) w := by
  obtain ⟨es, clock, rfl, hk, hv⟩ := hM
  have hb := hS.at j hj
  obtain ⟨r, hr, hc⟩ := run_find (w := w) hK (u, v) es.toList ks hk hv
  have hck := hK.ck es.isEmpty (u, v) w
  have hi2 : ev ρ ix = key2 (u, v) := hi
  unfold Yields execOp
  rw [ho]
  simp only [Instr.lookup, hx, hi2, Sem.run_bind, hu, Result.andThen, run_getM hb, hck, hr, Sem.run_pure]
  rcases hc with ⟨h1, j2, rfl⟩ | ⟨h1, rfl⟩
  · simp [h1]
  · simp [h1, hz]
theorem Sat.mapAt {b : Nat} {es : Array MapEntry} {k : Nat} (h : Sat W w cs) (i : Nat) (hi : cs[i]? = some [(b, .map es k)]) (ob : Obj) : Sat W { w with heap := w.heap.setIfInBounds b ob } (cs.set i [(b, ob)]) := by
  refine h.set i hi fun h => ⟨h.os, h.tape, h.output, ?_, ?_⟩
  · have := h.nd
    simp only [List.flatten_cons, List.singleton_append, List.map_cons] at this ⊢
    exact this
  · intro p hp
    simp only [List.flatten_cons, List.singleton_append, List.mem_cons] at hp
    have hb := h.heap (b := b) (o := .map es k) (by simp)
    rcases hp with rfl | hp
    · show (w.heap.setIfInBounds b ob)[b]? = some ob
      have hl := (Array.getElem?_eq_some_iff.1 hb).1
      simp [hl]
    · have hn := h.nd
      simp only [List.flatten_cons, List.singleton_append, List.map_cons, List.nodup_cons] at hn
      have hne : p.1 ≠ b := fun e => hn.1 (List.mem_map.2 ⟨p, hp, e⟩)
      show (w.heap.setIfInBounds b ob)[p.1]? = some p.2
      rw [Array.getElem?_setIfInBounds_ne (fun e => hne e.symm)]
      exact h.all p (by simp only [List.flatten_cons, List.singleton_append, List.mem_cons]; exact .inr hp)
/-- m[k] = true, where k is not in m. -/
theorem sMapAdd {t K E : TypeId} {x ix y : Operand} {b : Nat} {ks : List (Int × Int)} {c : Chunk} {u v : Int} (hS : Sat W w cs) (j : Nat) (hM : MapR b ks c) (hK : Key2 P K) (hno : (u, v) ∉ ks)
    (hu : ∀ w, (underlying t).run P w = .ok (.map K E) w) (h : ∀ c' w', MapR b (ks ++ [(u, v)]) c' → Sat W w' (cs.set j c') → OpsE P n ops rest N ρ w') (hj : cs[j]? = some c := by rfl)
    (ho : o.op = .mapUpdate t x ix y := by rfl) (hg : o.guard = none := by rfl) (hd : o.dst = none := by rfl) (hx : ev ρ x = .map (some b) := by kernel_rfl) (hi : ev ρ ix = .agg #[.int .i64 u, .int .i64 v] := by kernel_rfl) (hy : ev ρ y = .bool true := by kernel_rfl) : OpsE P n ops (o :: rest) N ρ w := by
  obtain ⟨es, clock, rfl, hk, hv⟩ := hM
  have hb := hS.at j hj
  obtain ⟨r, hr, hc⟩ := run_find (w := w) hK (u, v) es.toList ks hk hv
  have hck := hK.ck false (u, v) w
  have hi2 : ev ρ ix = key2 (u, v) := hi
  rcases hc with ⟨h1, _⟩ | ⟨_, rfl⟩
  · exact absurd h1 hno
  · refine stepSkip (w' := { w with heap := w.heap.setIfInBounds b (.map (es.push { key := key2 (u, v), val := .bool true, born := clock }) (clock + 1)) }) hg (by rw [hd]; rfl) ?_ ?_
    · unfold execOp
      rw [ho]
      simp [Instr.mapUpdate, hx, hi2, hy, hu, run_getM hb, hck, hr, run_setM _ hb]
    · rw [hd]
      refine h [(b, .map (es.push { key := key2 (u, v), val := .bool true, born := clock }) (clock + 1))] _ ⟨_, _, rfl, ?_, ?_⟩ (hS.mapAt j hj _)
      · simp [hk]
      · intro e he
        simp only [Array.toList_push, List.mem_append, List.mem_singleton] at he
        rcases he with he | rfl
        · exact hv e he
        · rfl
/-- A new map. -/
theorem sMakeMap {t : TypeId} (hS : Sat W w cs) (h : ∀ b c w', MapR b [] c → Sat W w' (c :: cs) → OpsE P n ops rest N (put ρ o.dst (.map (some b))) w')
    (ho : o.op = .makeMap t none := by rfl) (hg : o.guard = none := by rfl) (hd : dstOK n o.dst = true := by rfl) : OpsE P n ops (o :: rest) N ρ w := by
  refine stepRun (v := .map (some w.heap.size)) (w' := w.alloc (.map #[] 0)) hg hd ?_ (h _ [(w.heap.size, .map #[] 0)] _ ⟨#[], 0, rfl, rfl, by simp⟩ (hS.alloc _))
  unfold execOp
  rw [ho]
  simp [Instr.makeMap]
/-- len(m). -/
theorem Y_maplen {t K E : TypeId} {xs : Array Operand} {ats : Array TypeId} {x : Operand} {b : Nat} {ks : List (Int × Int)} {c : Chunk} (hS : Sat W w cs) (j : Nat) (hj : cs[j]? = some c) (hM : MapR b ks c)
    (hu : ∀ w, (underlying t).run P w = .ok (.map K E) w)
    (ho : o.op = .call { callee := .builtin .len, args := xs, argTypes := ats } := by rfl) (hats : ats = #[t] := by rfl) (hxs : xs = #[x] := by rfl) (hx : ev ρ x = .map (some b) := by kernel_rfl) : Yields P ρ o (.int .i64 ((ks.length : Nat) : Int)) w := by
  obtain ⟨es, clock, rfl, hk, hv⟩ := hM
  have hb := hS.at j hj
  have hn : es.size = ks.length := by have := congrArg List.length hk; simpa using this
  subst hxs hats
  have hw : (goInt ((ks.length : Nat) : Int)) = .int .i64 ((ks.length : Nat) : Int) := rfl
  unfold Yields execOp
  rw [ho]
  simp only [resolve, invoke, builtin, Builtin.len_]
  simp [hx, hu, run_getM hb, hn, hw]
end
end Go.E
