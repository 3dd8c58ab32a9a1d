/-
  Maps whose keys are whole numbers, as lists of pairs; a range over such a map. For any program.
-/
import Derived.Test.YtegmennaekipaaaMap
import Derived.Laws.IdiomRangeMap
namespace Go.E
def keyI (k : Int) : Value := .int .i64 k
def kvE (e : MapEntry) : Value × Value := (e.key, e.val)
def kvQ (q : Int × Value) : Value × Value := (keyI q.1, q.2)
/-- The block b is a map in which just these pairs are. -/
def MapI (b : Nat) (ks : List (Int × Value)) (c : Chunk) : Prop := ∃ (es : Array MapEntry) (clock : Nat), c = [(b, .map es clock)] ∧ es.toList.map kvE = ks.map kvQ ∧ (es.toList.map (·.born)).Nodup ∧ ∀ e ∈ es.toList, e.born < clock
def iget (ks : List (Int × Value)) (k : Int) : Option Value := (ks.find? fun q => q.1 == k).map (·.2)
theorem find_int {kd : IntKind} (k : Int) : ∀ (es : List MapEntry) (ks : List (Int × Value)) (i : Nat), es.map kvE = ks.map kvQ → ∃ r, Instr.findNow (.int kd) (.int .i64 k) es i = some r ∧ r.map (·.2) = iget ks k
  | [], ks, i, h => by
    have : ks = [] := by cases ks with | nil => rfl | cons => simp at h
    subst this; exact ⟨none, rfl, rfl⟩
  | e :: es, ks, i, h => by
    cases ks with
    | nil => simp at h
    | cons q ks =>
      simp only [List.map_cons, List.cons.injEq] at h
      obtain ⟨h1, h2⟩ := h
      have hk : e.key = .int .i64 q.1 := congrArg Prod.fst h1
      have hv : e.val = q.2 := congrArg Prod.snd h1
      unfold Instr.findNow
      rw [hk]
      by_cases e1 : k = q.1
      · subst e1
        refine ⟨some (i, e.val), by simp [Instr.sameNow], ?_⟩
        simp [iget, hv]
      · obtain ⟨r, hr, hr2⟩ := find_int k es ks (i + 1) h2
        have e2 : (k == q.1) = false := by simpa using e1
        have e3 : (q.1 == k) = false := by simpa using fun h => e1 h.symm
        refine ⟨r, by simp only [Instr.sameNow, if_true, e2]; exact hr, ?_⟩
        rw [hr2]; unfold iget; rw [List.find?_cons, e3]
section
variable {P : Program} {n : Nat} {ρ : Env} {W w : World} {cs : List Chunk} {ops : Array Oper} {rest : List Oper} {N : Env → World → Prop} {o : Oper}
theorem run_findI {K : TypeId} {kd : IntKind} (hK : ∀ w, (underlying K).run P w = .ok (.int kd) w) (k : Int) (es : List MapEntry) (ks : List (Int × Value)) (h : es.map kvE = ks.map kvQ) :
    ∃ r, (Instr.findKey K (keyI k) es).run P w = .ok r w ∧ r.map (·.2) = iget ks k := by
  obtain ⟨r, h1, h2⟩ := find_int (kd := kd) k es ks 0 h
  refine ⟨r, ?_, h2⟩
  unfold Instr.findKey
  simp only [Sem.run_bind, hK, Result.andThen]
  unfold keyI
  rw [h1]; rfl
theorem run_checkI {K : TypeId} {kd : IntKind} (hK : ∀ w, (underlying K).run P w = .ok (.int kd) w) (b : Bool) (k : Int) : (Instr.checkKey b 10000 K (keyI k)).run P w = .ok () w := by
  rw [show (10000 : Nat) = 9999 + 1 from rfl]
  unfold Instr.checkKey
  simp only [Sem.run_bind, hK, Result.andThen, keyI]
  rfl
theorem Sat.objAt {b : Nat} {o1 : Obj} (h : Sat W w cs) (i : Nat) (hi : cs[i]? = some [(b, o1)]) (ob : Obj) : Sat W { w with heap := w.heap.setIfInBounds b ob } (cs.set i [(b, ob)]) := by
  refine h.set i hi fun h => ⟨h.os, h.tape, h.output, ?_, ?_⟩
  · have := h.nd
    simp only [List.flatten_cons, List.singleton_append, List.map_cons] at this ⊢
    exact this
  · intro p hp
    simp only [List.flatten_cons, List.singleton_append, List.mem_cons] at hp
    have hb := h.heap (b := b) (o := o1) (by simp)
    rcases hp with rfl | hp
    · show (w.heap.setIfInBounds b ob)[b]? = some ob
      have hl := (Array.getElem?_eq_some_iff.1 hb).1
      simp [hl]
    · have hn := h.nd
      simp only [List.flatten_cons, List.singleton_append, List.map_cons, List.nodup_cons] at hn
      have hne : p.1 ≠ b := fun e => hn.1 (List.mem_map.2 ⟨p, hp, e⟩)
      show (w.heap.setIfInBounds b ob)[p.1]? = some p.2
      rw [Array.getElem?_setIfInBounds_ne (fun e => hne e.symm)]
      exact h.all p (by simp only [List.flatten_cons, List.singleton_append, List.mem_cons]; exact .inr hp)
/-- m[k], where k is in m, or the zero value. -/
theorem Y_iget {t K E : TypeId} {kd : IntKind} {x ix : Operand} {b : Nat} {ks : List (Int × Value)} {c : Chunk} {k : Int} {z v : Value} (hS : Sat W w cs) (j : Nat) (hM : MapI b ks c) (hv : (iget ks k).getD z = v)
    (hu : ∀ w, (underlying t).run P w = .ok (.map K E) w) (hK : ∀ w, (underlying K).run P w = .ok (.int kd) w) (hz : ∀ w, (zeroValue E).run P w = .ok z w) (hj : cs[j]? = some c := by rfl)
    (ho : o.op = .lookup t x ix false := by rfl) (hx : ev ρ x = .map (some b) := by kernel_rfl) (hi : ev ρ ix = .int .i64 k := by kernel_rfl) : Yields P ρ o v w := by
  obtain ⟨es, clock, rfl, hk, _, _⟩ := hM
  have hb := hS.at j hj
  obtain ⟨r, hr, hr2⟩ := run_findI (w := w) hK k es.toList ks hk
  have hck := run_checkI (w := w) hK es.isEmpty k
  have hi2 : ev ρ ix = keyI k := hi
  unfold Yields execOp
  rw [ho]
  simp only [Instr.lookup, hx, hi2, Sem.run_bind, hu, Result.andThen, run_getM hb, hck, hr, Sem.run_pure]
  rw [← hr2] at hv
  cases r with
  | none => simp at hv; subst hv; simp [hz]
  | some q => simp at hv; subst hv; simp
/-- v, ok := m[k]. -/
theorem Y_igetC {t K E : TypeId} {kd : IntKind} {x ix : Operand} {b : Nat} {ks : List (Int × Value)} {c : Chunk} {k : Int} {z v : Value} (hS : Sat W w cs) (j : Nat) (hM : MapI b ks c) (hv : (iget ks k).getD z = v)
    (hu : ∀ w, (underlying t).run P w = .ok (.map K E) w) (hK : ∀ w, (underlying K).run P w = .ok (.int kd) w) (hz : ∀ w, (zeroValue E).run P w = .ok z w) (hj : cs[j]? = some c := by rfl)
    (ho : o.op = .lookup t x ix true := by rfl) (hx : ev ρ x = .map (some b) := by kernel_rfl) (hi : ev ρ ix = .int .i64 k := by kernel_rfl) : Yields P ρ o (.tuple #[v, .bool (iget ks k).isSome]) w := by
  obtain ⟨es, clock, rfl, hk, _, _⟩ := hM
  have hb := hS.at j hj
  obtain ⟨r, hr, hr2⟩ := run_findI (w := w) hK k es.toList ks hk
  have hck := run_checkI (w := w) hK es.isEmpty k
  have hi2 : ev ρ ix = keyI k := hi
  unfold Yields execOp
  rw [ho]
  simp only [Instr.lookup, hx, hi2, Sem.run_bind, hu, Result.andThen, run_getM hb, hck, hr, Sem.run_pure]
  rw [← hr2] at hv ⊢
  cases r with
  | none => simp at hv; subst hv; simp [hz]
  | some q => simp at hv; subst hv; simp
/-- m[k] = v, where k is not in m. -/
theorem sIAdd {t K E : TypeId} {kd : IntKind} {x ix y : Operand} {b : Nat} {ks : List (Int × Value)} {c : Chunk} {k : Int} {v : Value} (hS : Sat W w cs) (j : Nat) (hM : MapI b ks c) (hno : iget ks k = none)
    (hu : ∀ w, (underlying t).run P w = .ok (.map K E) w) (hK : ∀ w, (underlying K).run P w = .ok (.int kd) w) (h : ∀ c' w', MapI b (ks ++ [(k, v)]) c' → Sat W w' (cs.set j c') → OpsE P n ops rest N ρ w') (hj : cs[j]? = some c := by rfl)
    (ho : o.op = .mapUpdate t x ix y := by rfl) (hg : o.guard = none := by rfl) (hd : o.dst = none := by rfl) (hx : ev ρ x = .map (some b) := by kernel_rfl) (hi : ev ρ ix = .int .i64 k := by kernel_rfl) (hy : ev ρ y = v := by kernel_rfl) : OpsE P n ops (o :: rest) N ρ w := by
  obtain ⟨es, clock, rfl, hk, hn, hb2⟩ := hM
  have hb := hS.at j hj
  obtain ⟨r, hr, hr2⟩ := run_findI (w := w) hK k es.toList ks hk
  have hck := run_checkI (w := w) hK false k
  have hi2 : ev ρ ix = keyI k := hi
  rw [hno] at hr2
  obtain rfl : r = none := by cases r with | none => rfl | some => cases hr2
  refine stepSkip (w' := { w with heap := w.heap.setIfInBounds b (.map (es.push { key := keyI k, val := v, born := clock }) (clock + 1)) }) hg (by rw [hd]; rfl) ?_ ?_
  · unfold execOp
    rw [ho]
    simp [Instr.mapUpdate, hx, hi2, hy, hu, run_getM hb, hck, hr, run_setM _ hb]
  · rw [hd]
    refine h [(b, .map (es.push { key := keyI k, val := v, born := clock }) (clock + 1))] _ ⟨_, _, rfl, ?_, ?_, ?_⟩ (hS.objAt j hj _)
    · rw [Array.toList_push, List.map_append, List.map_append, hk]; rfl
    · rw [Array.toList_push, List.map_append, List.nodup_append]
      refine ⟨hn, by simp, ?_⟩
      intro a ha b' hb'
      obtain ⟨e, he, rfl⟩ := List.mem_map.1 ha
      obtain rfl : b' = clock := by simpa using hb'
      have := hb2 e he; omega
    · intro e he
      simp only [Array.toList_push, List.mem_append, List.mem_singleton] at he
      rcases he with he | rfl
      · have := hb2 e he; omega
      · show clock < clock + 1; omega
/-- A new map. -/
theorem sMakeMapI {t : TypeId} (hS : Sat W w cs) (h : ∀ b c w', MapI b [] c → Sat W w' (c :: cs) → OpsE P n ops rest N (put ρ o.dst (.map (some b))) w')
    (ho : o.op = .makeMap t none := by rfl) (hg : o.guard = none := by rfl) (hd : dstOK n o.dst = true := by rfl) : OpsE P n ops (o :: rest) N ρ w := by
  refine stepRun (v := .map (some w.heap.size)) (w' := w.alloc (.map #[] 0)) hg hd ?_ (h _ [(w.heap.size, .map #[] 0)] _ ⟨#[], 0, rfl, rfl, by simp, by simp⟩ (hS.alloc _))
  unfold execOp
  rw [ho]
  simp [Instr.makeMap]
/-- A range over the map b: rest: what has not been handed out; lst: what was handed out last. -/
def RngI (it b : Nat) (ks rest : List (Int × Value)) (lst : Option (Int × Value)) (cm ci : Chunk) : Prop := ∃ (es : Array MapEntry) (clock : Nat) (seen : Array Nat), cm = [(b, .map es clock)] ∧ es.toList.map kvE = ks.map kvQ ∧ (es.toList.map (·.born)).Nodup ∧ (∀ e ∈ es.toList, e.born < clock) ∧
  ci = [(it, .mapIter (some b) clock seen clock)] ∧ (leftOf es seen).toList.map kvE = rest.map kvQ ∧ ∀ q, lst = some q → ∃ e ∈ es.toList, kvE e = kvQ q ∧ seen.back? = some e.born
theorem RngI.map {it b : Nat} {ks rest : List (Int × Value)} {lst : Option (Int × Value)} {cm ci : Chunk} (h : RngI it b ks rest lst cm ci) : MapI b ks cm := by
  obtain ⟨es, clock, seen, h1, h2, h3, h4, _⟩ := h; exact ⟨es, clock, h1, h2, h3, h4⟩
/-- range m. -/
theorem sRangeI {t K E : TypeId} {x : Operand} {b : Nat} {ks : List (Int × Value)} {c : Chunk} (hS : Sat W w cs) (j : Nat) (hM : MapI b ks c) (hu : ∀ w, (underlying t).run P w = .ok (.map K E) w)
    (h : ∀ it ci w', RngI it b ks ks none c ci → Sat W w' (ci :: cs) → OpsE P n ops rest N (put ρ o.dst (.pointer (some ⟨it, 0, none⟩))) w') (hj : cs[j]? = some c := by rfl)
    (ho : o.op = .range t x := by rfl) (hg : o.guard = none := by rfl) (hd : dstOK n o.dst = true := by rfl) (hx : ev ρ x = .map (some b) := by kernel_rfl) : OpsE P n ops (o :: rest) N ρ w := by
  obtain ⟨es, clock, rfl, hk, hn, hb2⟩ := hM
  have hb := hS.at j hj
  refine stepRun (v := .pointer (some ⟨w.heap.size, 0, none⟩)) (w' := w.alloc (.mapIter (some b) clock #[] clock)) hg hd ?_ (h _ [(w.heap.size, .mapIter (some b) clock #[] clock)] _ ⟨es, clock, #[], rfl, hk, hn, hb2, rfl, ?_, fun q hq => by cases hq⟩ (hS.alloc _))
  · unfold execOp
    rw [ho]
    simp [Instr.range, hx, hu, run_getM hb, newObj, Sem.run]
  · have : leftOf es #[] = es := by unfold leftOf; rw [Array.filter_eq_self]; intro a _; simp
    rw [this]; exact hk
theorem filter_born {L : List MapEntry} {l1 l2 : List MapEntry} {e : MapEntry} (hn : (L.map (·.born)).Nodup) (h : L = l1 ++ e :: l2) : L.filter (fun x => !(x.born == e.born)) = l1 ++ l2 := by
  subst h
  rw [List.map_append, List.map_cons, List.nodup_append] at hn
  obtain ⟨_, h2, h3⟩ := hn
  rw [List.nodup_cons] at h2
  rw [List.filter_append, List.filter_cons]
  simp only [beq_self_eq_true, Bool.not_true, Bool.false_eq_true, if_false]
  rw [List.filter_eq_self.2, List.filter_eq_self.2]
  · intro x hx
    have : x.born ≠ e.born := fun q => h2.1 (by rw [← q]; exact List.mem_map.2 ⟨x, hx, rfl⟩)
    simpa using this
  · intro x hx
    have : x.born ≠ e.born := h3 _ (List.mem_map.2 ⟨x, hx, rfl⟩) _ List.mem_cons_self
    simpa using this
theorem left_push {es : Array MapEntry} {seen : Array Nat} {b : Nat} : (leftOf es (seen.push b)).toList = (leftOf es seen).toList.filter (fun x => !(x.born == b)) := by
  unfold leftOf
  rw [Array.toList_filter, Array.toList_filter, List.filter_filter]
  congr 1
  funext x
  rw [contains_push]
  cases seen.contains x.born <;> cases x.born == b <;> rfl
/-- The next pair, whichever. -/
theorem sNextI {x : Operand} {it b : Nat} {ks rs : List (Int × Value)} {lst : Option (Int × Value)} {cm ci : Chunk} (hS : Sat W w cs) (i j : Nat) (hR : RngI it b ks rs lst cm ci)
    (hno : rs = [] → OpsE P n ops rest N (put ρ o.dst (.tuple #[.bool false])) w)
    (hyes : ∀ l1 q l2 ci' w', rs = l1 ++ q :: l2 → RngI it b ks (l1 ++ l2) (some q) cm ci' → Sat W w' (cs.set j ci') → OpsE P n ops rest N (put ρ o.dst (.tuple #[.bool true, .int .i64 q.1, q.2])) w')
    (hi : cs[i]? = some cm := by rfl) (hj : cs[j]? = some ci := by rfl) (ho : o.op = .next x false := by rfl) (hg : o.guard = none := by rfl) (hd : dstOK n o.dst = true := by rfl) (hx : ev ρ x = .pointer (some ⟨it, 0, none⟩) := by kernel_rfl) : OpsE P n ops (o :: rest) N ρ w := by
  obtain ⟨es, clock, seen, rfl, hk, hn, hb2, rfl, hl, hlst⟩ := hR
  have hb := hS.at i hi
  have hit := hS.at j hj
  have hget : (getObj it).run P w = .ok (.mapIter (some b) clock seen clock) w := by simp [getObj, Sem.run, hit]
  have hgetb : (getObj b).run P w = .ok (.map es clock) w := by simp [getObj, Sem.run, hb]
  have htest := next_test_false seen es clock clock hb2 (Nat.le_refl _)
  have hmem : ∀ x ∈ (leftOf es seen).toList, x.born < clock := fun x hx => hb2 x (mem_left hx).1
  have hrun : ∀ w', (execOp (ev ρ) o).run P w = w' ↔ ((Instr.next (ev ρ x) false o.type).run P w).andThen (fun v w => .ok (.value v) w) = w' := by
    intro w'; unfold execOp; rw [ho]; simp [Sem.run_bind]
  have e1 : (leftOf es seen).filter (fun x => decide (x.born < clock)) = leftOf es seen := Array.filter_eq_self.2 (fun x hx => by simpa using hmem x (by simpa using hx))
  have e2 : (leftOf es seen).filter (fun x => decide (x.born ≥ clock)) = #[] := by
    rw [Array.filter_eq_empty_iff]
    intro x hx
    have := hmem x (by simpa using hx)
    simp; omega
  by_cases h0 : (leftOf es seen).size = 0
  · have hL : leftOf es seen = #[] := Array.eq_empty_of_size_eq_zero h0
    have hr0 : rs = [] := by rw [hL] at hl; cases rs with | nil => rfl | cons => simp at hl
    refine stepRun (v := .tuple #[.bool false]) (w' := w) hg hd ?_ (hno hr0)
    rw [hrun, hx]
    have hLf : Array.filter (fun e => !seen.contains e.born) es = leftOf es seen := rfl
    simp only [Instr.next, Sem.run_bind, hget, hgetb, Result.andThen, htest, Bool.false_eq_true, if_false, hLf, e1, e2, hL]
    simp [choose, Sem.run, Question.forced]
  · have hne : (leftOf es seen).isEmpty = false := by simp [Array.isEmpty, h0]
    have hch : ∃ (q : Nat) (w1 : World), q < (leftOf es seen).size ∧ (w1 = w ∨ w1 = w.drew) ∧ (choose (Question.mapNext (leftOf es seen).size)).run P w = .ok q w1 := by
      by_cases hf : (leftOf es seen).size ≤ 1
      · exact ⟨0, w, by omega, .inl rfl, by simp [choose, Sem.run, Question.forced, hf]⟩
      · exact ⟨_, w.drew, Nat.mod_lt _ (by omega), .inr rfl, by
          simp only [choose, Sem.run, Question.forced, decide_eq_true_eq, hf, if_false, Question.cut]
          rfl⟩
    obtain ⟨q, w1, hq, hw1, hchr⟩ := hch
    have hS1 : Sat W w1 cs := by rcases hw1 with rfl | rfl; exact hS; exact hS.drew
    have hit1 := hS1.at j hj
    have hset : ∀ ob, (setObj it ob).run P w1 = .ok () { w1 with heap := w1.heap.setIfInBounds it ob } := fun ob => by simp [setObj, Sem.run, hit1]
    have hqL : q < (leftOf es seen).toList.length := by simpa using hq
    have hl12 : (leftOf es seen).toList = (leftOf es seen).toList.take q ++ (leftOf es seen)[q] :: (leftOf es seen).toList.drop (q + 1) := by
      have h1 := List.drop_eq_getElem_cons hqL
      rw [Array.getElem_toList] at h1
      rw [← h1]; exact (List.take_append_drop _ _).symm
    have hgetq : (leftOf es seen)[q]? = some (leftOf es seen)[q] := Array.getElem?_eq_getElem hq
    generalize (leftOf es seen)[q] = e at hl12 hgetq
    generalize (leftOf es seen).toList.take q = l1 at hl12
    generalize (leftOf es seen).toList.drop (q + 1) = l2 at hl12
    have heL : e ∈ (leftOf es seen).toList := by rw [hl12]; simp
    have hel := mem_left heL
    obtain ⟨m1, m2', hm, hm1, hm2⟩ := List.map_eq_append_iff.1 (hl.symm.trans (by rw [hl12, List.map_append]))
    obtain ⟨qq, m2, rfl, hqq, hm3⟩ := List.map_eq_cons_iff.1 (by rw [hm2, List.map_cons])
    have hk1 : e.key = .int .i64 qq.1 := (congrArg Prod.fst hqq).symm
    have hk2 : e.val = qq.2 := (congrArg Prod.snd hqq).symm
    refine stepRun (v := .tuple #[.bool true, .int .i64 qq.1, qq.2]) (w' := { w1 with heap := w1.heap.setIfInBounds it (.mapIter (some b) clock (seen.push e.born) clock) }) hg hd ?_ (hyes m1 qq m2 [(it, .mapIter (some b) clock (seen.push e.born) clock)] _ hm ⟨es, clock, seen.push e.born, rfl, hk, hn, hb2, rfl, ?_, ?_⟩ (hS1.objAt j hj _))
    · rw [hrun, hx]
      have hLf : Array.filter (fun e => !seen.contains e.born) es = leftOf es seen := rfl
      simp only [Instr.next, Sem.run_bind, hget, hgetb, Result.andThen, htest, Bool.false_eq_true, if_false, hLf, e1, e2, Array.append_empty, hne, Array.empty_append, Array.size_map, hchr, Array.getElem?_map, hgetq, Option.map_some, hset, Sem.run_pure, hk1, hk2]
    · rw [left_push, filter_born ?_ hl12, List.map_append, List.map_append, hm1, hm3]
      have : ((leftOf es seen).toList.map (·.born)).Nodup := by
        unfold leftOf; rw [Array.toList_filter]
        exact hn.sublist (List.filter_sublist.map _)
      exact this
    · intro q' hq'
      cases hq'
      exact ⟨e, hel.1, hqq.symm, by simp⟩
/-- The pair that was handed out last. -/
theorem sEntryI {x : Operand} {it b : Nat} {ks rs : List (Int × Value)} {q : Int × Value} {cm ci : Chunk} (hS : Sat W w cs) (i j : Nat) (hR : RngI it b ks rs (some q) cm ci)
    (h : OpsE P n ops rest N (put ρ o.dst (.tuple #[.int .i64 q.1, q.2])) w)
    (hi : cs[i]? = some cm := by rfl) (hj : cs[j]? = some ci := by rfl) (ho : o.op = .entry x := by rfl) (hg : o.guard = none := by rfl) (hd : dstOK n o.dst = true := by rfl) (hx : ev ρ x = .pointer (some ⟨it, 0, none⟩) := by kernel_rfl) : OpsE P n ops (o :: rest) N ρ w := by
  obtain ⟨es, clock, seen, rfl, hk, hn, hb2, rfl, hl, hlst⟩ := hR
  obtain ⟨e, he, hkv, hback⟩ := hlst q rfl
  have hb := hS.at i hi
  have hit := hS.at j hj
  have hget : (getObj it).run P w = .ok (.mapIter (some b) clock seen clock) w := by simp [getObj, Sem.run, hit]
  have hgetb : (getObj b).run P w = .ok (.map es clock) w := by simp [getObj, Sem.run, hb]
  have hf : es.find? (·.born == e.born) = some e := by rw [← Array.find?_toList]; exact find_born e es.toList hn he
  have hk1 : e.key = .int .i64 q.1 := congrArg Prod.fst hkv
  have hk2 : e.val = q.2 := congrArg Prod.snd hkv
  refine stepRun (v := .tuple #[.int .i64 q.1, q.2]) (w' := w) hg hd ?_ h
  unfold execOp
  rw [ho]
  simp [Instr.entry, hx, hget, hgetb, hback, hf, hk1, hk2]
end
end Go.E
