/-
  Maps whose keys are whole numbers, as lists of pairs; a range over such a map. For any program.
-/
import Derived.Test.YtegmennaekipaaaGreatP2Fi
import Derived.Laws.IdiomRangeMap
import Derived.Test.YtegmennaekipaaaGreatP2Bd3
import Derived.Test.YtegmennaekipaaaGreatP2Short
namespace Go.E
-- squeezed
def keyI (k : Int) : Value := .int .i64 k
def kvE (e : MapEntry) : Value × Value := (e.key, e.val)
def kvQ (q : Int × Value) : Value × Value := (keyI q.1, q.2)
/-- The block b is a map in which just these pairs are. -/
def MapI (b : Nat) (ks : List (Int × Value)) (c : Chunk) : Prop := ∃ (es : Array MapEntry) (clock : Nat), c = [(b, .map es clock)] ∧ es.toList.map kvE = ks.map kvQ ∧ (es.toList.map (·.born)).Nodup ∧ ∀ e ∈ es.toList, e.born < clock
def iget (ks : List (Int × Value)) (k : Int) : Option Value := (ks.find? fun q => q.1 == k).map (·.2)
theorem find_int {kd : IntKind} (k : Int) : ∀ (es : List MapEntry) (ks : List (Int × Value)) (i : Nat), es.map kvE = ks.map kvQ → ∃ r, Instr.findNow (.int kd) (I k) es i = some r ∧ r.map (·.2) = iget ks k
 | [], ks, i, h => by
  have : ks = [] := by cases ks with | nil => rfl | cons => simp at h
  subst this; exact ⟨none, rfl, rfl⟩
 | e :: es, ks, i, h => by
  cases ks with
  | nil => simp at h
  | cons q ks =>
   simp only [List.map_cons, List.cons.injEq] at h
   obtain ⟨h1, h2⟩ := h
   have hk : e.key = I q.1 := congrArg Prod.fst h1
   have hv : e.val = q.2 := congrArg Prod.snd h1
   unfold Instr.findNow
   rw [hk]
   by_cases e1 : k = q.1
   ·subst e1
    refine ⟨some (i, e.val), by simp [Instr.sameNow], ?_⟩
    simp [iget, hv]
   ·obtain ⟨r, hr, hr2⟩ := find_int k es ks (i + 1) h2
    have e2 : (k == q.1) = false := by simpa using e1
    have e3 : (q.1 == k) = false := by simpa using fun h => e1 h.symm
    refine ⟨r, by simp only [Instr.sameNow, if_true, e2]; exact hr, ?_⟩
    rw [hr2]; unfold iget; rw [List.find?_cons, e3]
section
variable {P : Program} {n : Nat} {ρ : Env} {W w : World} {cs : List Chunk} {ops : Array Oper} {rest : List Oper} {N : Env → World → Prop} {o : Oper}
theorem run_findI {K : TypeId} {kd : IntKind} (hK : ∀ w, (underlying K).run P w = .ok (.int kd) w) (k : Int) (es : List MapEntry) (ks : List (Int × Value)) (h : es.map kvE = ks.map kvQ) :
    ∃ r, (Instr.findKey K (keyI k) es).run P w = .ok r w ∧ r.map (·.2) = iget ks k := by
  obtain ⟨r, h1, h2⟩ := find_int (kd := kd) k es ks 0 h
  refine ⟨r, ?_, h2⟩
  unfold Instr.findKey
  simp only [Sem.run_bind, hK, Result.andThen]
  unfold keyI
  rw [h1]; rfl
theorem run_checkI {K : TypeId} {kd : IntKind} (hK : ∀ w, (underlying K).run P w = .ok (.int kd) w) (b : Bool) (k : Int) : (Instr.checkKey b 10000 K (keyI k)).run P w = .ok () w := by
  rw [show (10000 : Nat) = 9999 + 1 from rfl]
  unfold Instr.checkKey
  simp only [Sem.run_bind, hK, Result.andThen, keyI]
  rfl
theorem Sat.objAt {b : Nat} {o1 : Obj} (h : Sat W w cs) (i : Nat) (hi : cs[i]? = some [(b, o1)]) (ob : Obj) : Sat W { w with heap := w.heap.setIfInBounds b ob } (cs.set i [(b, ob)]) := by
 refine h.set i hi fun h => ⟨h.os, h.tape, h.output, ?_, ?_⟩
 ·have := h.nd
  simp only [List.flatten_cons, List.singleton_append, List.map_cons] at this ⊢
  exact this
 ·intro p hp
  simp only [List.flatten_cons, List.singleton_append, List.mem_cons] at hp
  have hb := h.heap (b := b) (o := o1) (by simp)
  rcases hp with rfl | hp
  ·show (w.heap.setIfInBounds b ob)[b]? = some ob
   have hl := (Array.getElem?_eq_some_iff.1 hb).1
   simp [hl]
  ·have hn := h.nd
   simp only [List.flatten_cons, List.singleton_append, List.map_cons, List.nodup_cons] at hn
   have hne : p.1 ≠ b := fun e => hn.1 (List.mem_map.2 ⟨p, hp, e⟩)
   show (w.heap.setIfInBounds b ob)[p.1]? = some p.2
   rw [Array.getElem?_setIfInBounds_ne (fun e => hne e.symm)]
   exact h.all p (by simp only [List.flatten_cons, List.singleton_append, List.mem_cons]; exact .inr hp)
/-- m[k], where k is in m, or the zero value. -/
theorem Y_iget {t K E : TypeId} {kd : IntKind} {x ix : Operand} {b : Nat} {ks : List (Int × Value)} {c : Chunk} {k : Int} {z v : Value} (hS : Sat W w cs) (j : Nat) (hM : MapI b ks c) (hv : (iget ks k).getD z = v)
  (hu : ∀ w, (underlying t).run P w = .ok (.map K E) w) (hK : ∀ w, (underlying K).run P w = .ok (.int kd) w) (hz : ∀ w, (zeroValue E).run P w = .ok z w) (hj : cs[j]? = some c := by rfl)
  (ho : o.op = .lookup t x ix false := by rfl) (hx : ev ρ x = .map (some b) := by kernel_rfl) (hi : ev ρ ix = I k := by kernel_rfl) : Yields P ρ o v w := by
 obtain ⟨es, clock, rfl, hk, _, _⟩ := hM
 have hb := hS.at j hj
 obtain ⟨r, hr, hr2⟩ := run_findI (w := w) hK k es.toList ks hk
 have hck := run_checkI (w := w) hK es.isEmpty k
 have hi2 : ev ρ ix = keyI k := hi
 unfold Yields execOp
 rw [ho]
 simp only [Instr.lookup, hx, hi2, Sem.run_bind, hu, Result.andThen, run_getM hb, hck, hr, Sem.run_pure]
 rw [← hr2] at hv
 cases r with
 | none => simp at hv; subst hv; simp [hz]
 | some q => simp at hv; subst hv; simp
/-- v, ok := m[k]. -/
theorem Y_igetC {t K E : TypeId} {kd : IntKind} {x ix : Operand} {b : Nat} {ks : List (Int × Value)} {c : Chunk} {k : Int} {z v : Value} (hS : Sat W w cs) (j : Nat) (hM : MapI b ks c) (hv : (iget ks k).getD z = v)
  (hu : ∀ w, (underlying t).run P w = .ok (.map K E) w) (hK : ∀ w, (underlying K).run P w = .ok (.int kd) w) (hz : ∀ w, (zeroValue E).run P w = .ok z w) (hj : cs[j]? = some c := by rfl)
  (ho : o.op = .lookup t x ix true := by rfl) (hx : ev ρ x = .map (some b) := by kernel_rfl) (hi : ev ρ ix = I k := by kernel_rfl) : Yields P ρ o (.tuple #[v, .bool (iget ks k).isSome]) w := by
 obtain ⟨es, clock, rfl, hk, _, _⟩ := hM
 have hb := hS.at j hj
 obtain ⟨r, hr, hr2⟩ := run_findI (w := w) hK k es.toList ks hk
 have hck := run_checkI (w := w) hK es.isEmpty k
 have hi2 : ev ρ ix = keyI k := hi
 unfold Yields execOp
 rw [ho]
 simp only [Instr.lookup, hx, hi2, Sem.run_bind, hu, Result.andThen, run_getM hb, hck, hr, Sem.run_pure]
 rw [← hr2] at hv ⊢
 cases r with
 | none => simp at hv; subst hv; simp [hz]
 | some q => simp at hv; subst hv; simp
/-- m[k] = v, where k is not in m. -/
theorem sIAdd {t K E : TypeId} {kd : IntKind} {x ix y : Operand} {b : Nat} {ks : List (Int × Value)} {c : Chunk} {k : Int} {v : Value} (hS : Sat W w cs) (j : Nat) (hM : MapI b ks c) (hno : iget ks k = none)
  (hu : ∀ w, (underlying t).run P w = .ok (.map K E) w) (hK : ∀ w, (underlying K).run P w = .ok (.int kd) w) (h : ∀ c' w', MapI b (ks ++ [(k, v)]) c' → Sat W w' (cs.set j c') → OpsE P n ops rest N ρ w') (hj : cs[j]? = some c := by rfl)
  (ho : o.op = .mapUpdate t x ix y := by rfl) (hg : o.guard = none := by rfl) (hd : o.dst = none := by rfl) (hx : ev ρ x = .map (some b) := by kernel_rfl) (hi : ev ρ ix = I k := by kernel_rfl) (hy : ev ρ y = v := by kernel_rfl) : OpsE P n ops (o :: rest) N ρ w := by
 obtain ⟨es, clock, rfl, hk, hn, hb2⟩ := hM
 have hb := hS.at j hj
 obtain ⟨r, hr, hr2⟩ := run_findI (w := w) hK k es.toList ks hk
 have hck := run_checkI (w := w) hK false k
 have hi2 : ev ρ ix = keyI k := hi
 rw [hno] at hr2
 obtain rfl : r = none := by cases r with | none => rfl | some => cases hr2
 refine stepSkip (w' := { w with heap := w.heap.setIfInBounds b (.map (es.push { key := keyI k, val := v, born := clock }) (clock + 1)) }) hg (by rw [hd]; rfl) ?_ ?_
 ·unfold execOp
  rw [ho]
  simp [Instr.mapUpdate, hx, hi2, hy, hu, run_getM hb, hck, hr, run_setM _ hb]
 ·rw [hd]
  refine h [(b, .map (es.push { key := keyI k, val := v, born := clock }) (clock + 1))] _ ⟨_, _, rfl, ?_, ?_, ?_⟩ (hS.objAt j hj _)
  ·rw [Array.toList_push, List.map_append, List.map_append, hk]; rfl
  ·rw [Array.toList_push, List.map_append, List.nodup_append]
   refine ⟨hn, by simp, ?_⟩
   intro a ha b' hb'
   obtain ⟨e, he, rfl⟩ := List.mem_map.1 ha
   obtain rfl : b' = clock := by simpa using hb'
   have := hb2 e he; omega
  ·intro e he
   simp only [Array.toList_push, List.mem_append, List.mem_singleton] at he
   rcases he with he | rfl
   ·have := hb2 e he; omega
   ·show clock < clock + 1; omega
/-- A new map. -/
theorem sMakeMapI {t : TypeId} (hS : Sat W w cs) (h : ∀ b c w', MapI b [] c → Sat W w' (c :: cs) → OpsE P n ops rest N (put ρ o.dst (.map (some b))) w')
    (ho : o.op = .makeMap t none := by rfl) (hg : o.guard = none := by rfl) (hd : dstOK n o.dst = true := by rfl) : OpsE P n ops (o :: rest) N ρ w := by
  refine stepRun (v := .map (some w.heap.size)) (w' := w.alloc (.map #[] 0)) hg hd ?_ (h _ [(w.heap.size, .map #[] 0)] _ ⟨#[], 0, rfl, rfl, by simp, by simp⟩ (hS.alloc _))
  unfold execOp
  rw [ho]
  simp [Instr.makeMap]
/-- A range over the map b: rest: what has not been handed out; lst: what was handed out last. -/
def RngI (it b : Nat) (ks rest : List (Int × Value)) (lst : Option (Int × Value)) (cm ci : Chunk) : Prop := ∃ (es : Array MapEntry) (clock : Nat) (seen : Array Nat), cm = [(b, .map es clock)] ∧ es.toList.map kvE = ks.map kvQ ∧ (es.toList.map (·.born)).Nodup ∧ (∀ e ∈ es.toList, e.born < clock) ∧
  ci = [(it, .mapIter (some b) clock seen clock)] ∧ (leftOf es seen).toList.map kvE = rest.map kvQ ∧ ∀ q, lst = some q → ∃ e ∈ es.toList, kvE e = kvQ q ∧ seen.back? = some e.born
theorem RngI.map {it b : Nat} {ks rest : List (Int × Value)} {lst : Option (Int × Value)} {cm ci : Chunk} (h : RngI it b ks rest lst cm ci) : MapI b ks cm := by
  obtain ⟨es, clock, seen, h1, h2, h3, h4, _⟩ := h; exact ⟨es, clock, h1, h2, h3, h4⟩
/-- range m. -/
theorem sRangeI {t K E : TypeId} {x : Operand} {b : Nat} {ks : List (Int × Value)} {c : Chunk} (hS : Sat W w cs) (j : Nat) (hM : MapI b ks c) (hu : ∀ w, (underlying t).run P w = .ok (.map K E) w)
  (h : ∀ it ci w', RngI it b ks ks none c ci → Sat W w' (ci :: cs) → OpsE P n ops rest N (put ρ o.dst (Pt it 0)) w') (hj : cs[j]? = some c := by rfl)
  (ho : o.op = .range t x := by rfl) (hg : o.guard = none := by rfl) (hd : dstOK n o.dst = true := by rfl) (hx : ev ρ x = .map (some b) := by kernel_rfl) : OpsE P n ops (o :: rest) N ρ w := by
 obtain ⟨es, clock, rfl, hk, hn, hb2⟩ := hM
 have hb := hS.at j hj
 refine stepRun (v := .pointer (some ⟨w.heap.size, 0, none⟩)) (w' := w.alloc (.mapIter (some b) clock #[] clock)) hg hd ?_ (h _ [(w.heap.size, .mapIter (some b) clock #[] clock)] _ ⟨es, clock, #[], rfl, hk, hn, hb2, rfl, ?_, fun q hq => by cases hq⟩ (hS.alloc _))
 ·unfold execOp
  rw [ho]
  simp [Instr.range, hx, hu, run_getM hb, newObj, Sem.run]
 ·have : leftOf es #[] = es := by unfold leftOf; rw [Array.filter_eq_self]; intro a _; simp
  rw [this]; exact hk
theorem filter_born {L : List MapEntry} {l1 l2 : List MapEntry} {e : MapEntry} (hn : (L.map (·.born)).Nodup) (h : L = l1 ++ e :: l2) : L.filter (fun x => !(x.born == e.born)) = l1 ++ l2 := by
 subst h
 rw [List.map_append, List.map_cons, List.nodup_append] at hn
 obtain ⟨_, h2, h3⟩ := hn
 rw [List.nodup_cons] at h2
 rw [List.filter_append, List.filter_cons]
 simp only [beq_self_eq_true, Bool.not_true, Bool.false_eq_true, if_false]
 rw [List.filter_eq_self.2, List.filter_eq_self.2]
 ·intro x hx
  have : x.born ≠ e.born := fun q => h2.1 (by rw [← q]; exact List.mem_map.2 ⟨x, hx, rfl⟩)
  simpa using this
 ·intro x hx
  have : x.born ≠ e.born := h3 _ (List.mem_map.2 ⟨x, hx, rfl⟩) _ List.mem_cons_self
  simpa using this
theorem left_push {es : Array MapEntry} {seen : Array Nat} {b : Nat} : (leftOf es (seen.push b)).toList = (leftOf es seen).toList.filter (fun x => !(x.born == b)) := by
  unfold leftOf
  rw [Array.toList_filter, Array.toList_filter, List.filter_filter]
  congr 1
  funext x
  rw [contains_push]
  cases seen.contains x.born <;> cases x.born == b <;> rfl
/-- The next pair, whichever. -/
theorem sNextI {x : Operand} {it b : Nat} {ks rs : List (Int × Value)} {lst : Option (Int × Value)} {cm ci : Chunk} (hS : Sat W w cs) (i j : Nat) (hR : RngI it b ks rs lst cm ci)
  (hno : rs = [] → OpsE P n ops rest N (put ρ o.dst (.tuple #[.bool false])) w)
  (hyes : ∀ l1 q l2 ci' w', rs = l1 ++ q :: l2 → RngI it b ks (l1 ++ l2) (some q) cm ci' → Sat W w' (cs.set j ci') → OpsE P n ops rest N (put ρ o.dst (.tuple #[.bool true, I q.1, q.2])) w')
  (hi : cs[i]? = some cm := by rfl) (hj : cs[j]? = some ci := by rfl) (ho : o.op = .next x false := by rfl) (hg : o.guard = none := by rfl) (hd : dstOK n o.dst = true := by rfl) (hx : ev ρ x = Pt it 0 := by kernel_rfl) : OpsE P n ops (o :: rest) N ρ w := by
 obtain ⟨es, clock, seen, rfl, hk, hn, hb2, rfl, hl, hlst⟩ := hR
 have hb := hS.at i hi
 have hit := hS.at j hj
 have hget : (getObj it).run P w = .ok (.mapIter (some b) clock seen clock) w := by simp [getObj, Sem.run, hit]
 have hgetb : (getObj b).run P w = .ok (.map es clock) w := by simp [getObj, Sem.run, hb]
 have htest := next_test_false seen es clock clock hb2 (Nat.le_refl _)
 have hmem : ∀ x ∈ (leftOf es seen).toList, x.born < clock := fun x hx => hb2 x (mem_left hx).1
 have hrun : ∀ w', (execOp (ev ρ) o).run P w = w' ↔ ((Instr.next (ev ρ x) false o.type).run P w).andThen (fun v w => .ok (.value v) w) = w' := by
  intro w'; unfold execOp; rw [ho]; simp [Sem.run_bind]
 have e1 : (leftOf es seen).filter (fun x => decide (x.born < clock)) = leftOf es seen := Array.filter_eq_self.2 (fun x hx => by simpa using hmem x (by simpa using hx))
 have e2 : (leftOf es seen).filter (fun x => decide (x.born ≥ clock)) = #[] := by
  rw [Array.filter_eq_empty_iff]
  intro x hx
  have := hmem x (by simpa using hx)
  simp; omega
 by_cases h0 : (leftOf es seen).size = 0
 ·have hL : leftOf es seen = #[] := Array.eq_empty_of_size_eq_zero h0
  have hr0 : rs = [] := by rw [hL] at hl; cases rs with | nil => rfl | cons => simp at hl
  refine stepRun (v := .tuple #[.bool false]) (w' := w) hg hd ?_ (hno hr0)
  rw [hrun, hx]
  have hLf : Array.filter (fun e => !seen.contains e.born) es = leftOf es seen := rfl
  simp only [Instr.next, Sem.run_bind, hget, hgetb, Result.andThen, htest, Bool.false_eq_true, if_false, hLf, e1, e2, hL]
  simp [choose, Sem.run, Question.forced]
 ·have hne : (leftOf es seen).isEmpty = false := by simp [Array.isEmpty, h0]
  have hch : ∃ (q : Nat) (w1 : World), q < (leftOf es seen).size ∧ (w1 = w ∨ w1 = w.drew) ∧ (choose (Question.mapNext (leftOf es seen).size)).run P w = .ok q w1 := by
   by_cases hf : (leftOf es seen).size ≤ 1
   ·exact ⟨0, w, om, .inl rfl, by simp [choose, Sem.run, Question.forced, hf]⟩
   ·exact ⟨_, w.drew, Nat.mod_lt _ om, .inr rfl, by
     simp only [choose, Sem.run, Question.forced, decide_eq_true_eq, hf, if_false, Question.cut]
     rfl⟩
  obtain ⟨q, w1, hq, hw1, hchr⟩ := hch
  have hS1 : Sat W w1 cs := by rcases hw1 with rfl | rfl; exact hS; exact hS.drew
  have hit1 := hS1.at j hj
  have hset : ∀ ob, (setObj it ob).run P w1 = .ok () { w1 with heap := w1.heap.setIfInBounds it ob } := fun ob => by simp [setObj, Sem.run, hit1]
  have hqL : q < (leftOf es seen).toList.length := by simpa using hq
  have hl12 : (leftOf es seen).toList = (leftOf es seen).toList.take q ++ (leftOf es seen)[q] :: (leftOf es seen).toList.drop (q + 1) := by
   have h1 := List.drop_eq_getElem_cons hqL
   rw [Array.getElem_toList] at h1
   rw [← h1]; exact (List.take_append_drop _ _).symm
  have hgetq : (leftOf es seen)[q]? = some (leftOf es seen)[q] := Array.getElem?_eq_getElem hq
  generalize (leftOf es seen)[q] = e at hl12 hgetq
  generalize (leftOf es seen).toList.take q = l1 at hl12
  generalize (leftOf es seen).toList.drop (q + 1) = l2 at hl12
  have heL : e ∈ (leftOf es seen).toList := by rw [hl12]; simp
  have hel := mem_left heL
  obtain ⟨m1, m2', hm, hm1, hm2⟩ := List.map_eq_append_iff.1 (hl.symm.trans (by rw [hl12, List.map_append]))
  obtain ⟨qq, m2, rfl, hqq, hm3⟩ := List.map_eq_cons_iff.1 (by rw [hm2, List.map_cons])
  have hk1 : e.key = I qq.1 := (congrArg Prod.fst hqq).symm
  have hk2 : e.val = qq.2 := (congrArg Prod.snd hqq).symm
  refine stepRun (v := .tuple #[.bool true, I qq.1, qq.2]) (w' := { w1 with heap := w1.heap.setIfInBounds it (.mapIter (some b) clock (seen.push e.born) clock) }) hg hd ?_ (hyes m1 qq m2 [(it, .mapIter (some b) clock (seen.push e.born) clock)] _ hm ⟨es, clock, seen.push e.born, rfl, hk, hn, hb2, rfl, ?_, ?_⟩ (hS1.objAt j hj _))
  ·rw [hrun, hx]
   have hLf : Array.filter (fun e => !seen.contains e.born) es = leftOf es seen := rfl
   simp only [Instr.next, Sem.run_bind, hget, hgetb, Result.andThen, htest, Bool.false_eq_true, if_false, hLf, e1, e2, Array.append_empty, hne, Array.empty_append, Array.size_map, hchr, Array.getElem?_map, hgetq, Option.map_some, hset, Sem.run_pure, hk1, hk2]
  ·rw [left_push, filter_born ?_ hl12, List.map_append, List.map_append, hm1, hm3]
   have : ((leftOf es seen).toList.map (·.born)).Nodup := by
    unfold leftOf; rw [Array.toList_filter]
    exact hn.sublist (List.filter_sublist.map _)
   exact this
  ·intro q' hq'
   cases hq'
   exact ⟨e, hel.1, hqq.symm, by simp⟩
/-- The pair that was handed out last. -/
theorem sEntryI {x : Operand} {it b : Nat} {ks rs : List (Int × Value)} {q : Int × Value} {cm ci : Chunk} (hS : Sat W w cs) (i j : Nat) (hR : RngI it b ks rs (some q) cm ci)
  (h : OpsE P n ops rest N (put ρ o.dst (.tuple #[I q.1, q.2])) w)
  (hi : cs[i]? = some cm := by rfl) (hj : cs[j]? = some ci := by rfl) (ho : o.op = .entry x := by rfl) (hg : o.guard = none := by rfl) (hd : dstOK n o.dst = true := by rfl) (hx : ev ρ x = Pt it 0 := by kernel_rfl) : OpsE P n ops (o :: rest) N ρ w := by
 obtain ⟨es, clock, seen, rfl, hk, hn, hb2, rfl, hl, hlst⟩ := hR
 obtain ⟨e, he, hkv, hback⟩ := hlst q rfl
 have hb := hS.at i hi
 have hit := hS.at j hj
 have hget : (getObj it).run P w = .ok (.mapIter (some b) clock seen clock) w := by simp [getObj, Sem.run, hit]
 have hgetb : (getObj b).run P w = .ok (.map es clock) w := by simp [getObj, Sem.run, hb]
 have hf : es.find? (·.born == e.born) = some e := by rw [← Array.find?_toList]; exact find_born e es.toList hn he
 have hk1 : e.key = I q.1 := congrArg Prod.fst hkv
 have hk2 : e.val = q.2 := congrArg Prod.snd hkv
 refine stepRun (v := .tuple #[I q.1, q.2]) (w' := w) hg hd ?_ h
 unfold execOp
 rw [ho]
 simp [Instr.entry, hx, hget, hgetb, hback, hf, hk1, hk2]
end
end Go.E

namespace Go.Proofs.YtegmennaekipaaaGreat
open Go Go.E
set_option linter.unusedVariables false
set_option linter.unusedSimpArgs false
set_option linter.unnecessarySimpa false
set_option maxRecDepth 100000
set_option maxHeartbeats 2000000
variable {W w : World} {H : Chunk} {F : List Chunk}
theorem b_entry {p : Nat} {a : Option Addr} {n k : Nat} {es : List BEnt} {c : Chunk} {d : Int} (hO : OwnT encBEnt 165 4 a n k es c) (i : Int) (hS : Sat W w ([(p, .cells #[.slice a n k, I d] 162 (0, 0))] :: c :: F)) :
  Calls Tryz.prog 151 #[Pt p 0, I i] w fun e w' => Sat W w' ([(p, .cells #[.slice a n k, I d] 162 (0, 0))] :: c :: F) ∧ ((¬ (0 ≤ i ∧ i < n) ∧ e = .returned (.pointer none)) ∨ ((0 ≤ i ∧ i < n) ∧ ∃ (x : BEnt) (b o : Nat), e = .returned (.pointer (some ⟨b, o + i.toNat * 4, none⟩)) ∧ es[i.toNat]? = some x ∧ a = some ⟨b, o, none⟩)) := by
 have hlo := hO.le; have hln := hO.len
 refine callsA 26 Tryz.func151 rfl ?_
 refine sR <| pu1 <| nT <| seqE <| sR <| pu7 ?_
 refine sD 11 (i < 0) (fun a0 => ?_) (fun a0 => ?_)
 ·refine pu8 <| nT <| cTt <| sR <| pu1 <| nT <| retE <| thenK_r <| retT [.pointer none] ?_
  exact ⟨hS, .inl ⟨om, rfl⟩⟩
 refine pu4 <| gY ?_
 refine sL hS 0 0 (.slice a n k) (Tryz.isAgg160 _) ?_
 refine pu3 <| nT ?_
 refine cD (i ≥ ((n : Nat) : Int)) (fun b0 => ?_) (fun b0 => ?_)
 ·refine sR <| pu1 <| nT <| retE <| thenK_r <| retT [.pointer none] ?_
  exact ⟨hS, .inl ⟨om, rfl⟩⟩
 refine kT <| sR <| pu3 ?_
 refine sL hS 0 0 (.slice a n k) (Tryz.isAgg160 _) ?_
 refine pu1 ?_
 refine sIdxO hO i (i).toNat Tryz.runUnderlying160 Tryz.sizeOf165 ?_
 intro _ c0 d0 e0 _ f0
 refine pu1 <| nT <| retE <| retT [.pointer (some ⟨c0, d0 + (i).toNat * 4, none⟩)] ?_
 exact ⟨hS, .inr ⟨om, _, _, _, rfl, e0, f0⟩⟩
theorem b_held {p : Nat} {a : Option Addr} {n k : Nat} {es : List BEnt} {c : Chunk} {d : Int} (hO : OwnT encBEnt 165 4 a n k es c) (i m : Int) (hS : Sat W w ([(p, .cells #[.slice a n k, I d] 162 (0, 0))] :: c :: F)) :
  Calls Tryz.prog 113 #[Pt p 0, I i, I m] w fun e w' => Sat W w' ([(p, .cells #[.slice a n k, I d] 162 (0, 0))] :: c :: F) ∧ ((¬ (0 ≤ i ∧ i < n) ∧ e = .returned (.tuple #[.pointer none, I 16])) ∨ ((0 ≤ i ∧ i < n) ∧ ∃ x : BEnt, es[i.toNat]? = some x ∧ ¬ (x.state = 3 ∧ x.attempt = m) ∧ e = .returned (.tuple #[.pointer none, I 20])) ∨ ((0 ≤ i ∧ i < n) ∧ ∃ (x : BEnt) (b o : Nat), e = .returned (.tuple #[.pointer (some ⟨b, o + i.toNat * 4, none⟩), I 0]) ∧ es[i.toNat]? = some x ∧ a = some ⟨b, o, none⟩ ∧ x.state = 3 ∧ x.attempt = m)) := by
 have hlo := hO.le; have hln := hO.len
 refine callsA 28 Tryz.func113 rfl ?_
 refine sR <| pu2 <| nT <| sR <| pu2 ?_
 have g0 := (hS.picks [1, 1])
 refine cX Tryz.call151 (b_entry hO i g0) ?_
 rintro _ _ ⟨a0, (⟨b0, rfl⟩ | ⟨b0, c0, h0, i0, rfl, d0, e0⟩)⟩
 ·refine pu1 <| nT <| seqE <| sR <| pu2 <| nT <| cTt <| sR <| pu2 <| nT <| retE <| thenK_r <| retT [.pointer none, I 16] ?_
  exact ⟨a0, .inl ⟨b0, rfl⟩⟩
 have f0 := OwnT.ptr hO e0 d0
 refine pu1 <| nT <| seqE <| sR <| pu2 <| nT <| cFf <| kT <| seqE <| sR <| pu3 ?_
 refine sLp a0 (f0.up 1 rfl) 0 (I c0.state) (Tryz.isAgg3 _) ?_
 refine pu2 ?_
 refine sN 19 c0.state 3 (fun j0 => ?_) (fun j0 => ?_)
 rotate_left
 ·refine pu7 <| nT <| cTt <| sR <| pu2 <| nT <| retE <| thenK_r <| retT [.pointer none, I 20] ?_
  exact ⟨a0, .inr (.inl ⟨b0, _, d0, om, rfl⟩)⟩
 refine pu3 <| gY ?_
 refine sLp a0 (f0.up 1 rfl) 1 (I c0.attempt) (Tryz.isAgg3 _) ?_
 refine pu3 <| nT ?_
 refine cN c0.attempt m (fun k0 => ?_) (fun k0 => ?_)
 rotate_left
 ·refine sR <| pu2 <| nT <| retE <| thenK_r <| retT [.pointer none, I 20] ?_
  exact ⟨a0, .inr (.inl ⟨b0, _, d0, om, rfl⟩)⟩
 refine kT <| sR <| pu3 <| nT <| retE <| retT [.pointer (some ⟨h0, i0 + i.toNat * 4, none⟩), I 0] ?_
 exact ⟨a0, .inr (.inr ⟨b0, _, _, _, rfl, d0, e0, om⟩)⟩
theorem b_start {p : Nat} {B : BS} {K : Int} {M : Chunk} (hB : BoardR p B M) (hW : BWf B K) (i : Int) (hS : Sat W w (M :: H :: F)) :
  Calls Tryz.prog 157 #[Pt p 0, I i] w fun e w' => ∃ M' : Chunk, e = .returned (.tuple #[I (startB B i).2.1, I (startB B i).2.2]) ∧ BoardR p ((startB B i).1) M' ∧ Sat W w' (M' :: H :: F) := by
 obtain ⟨a, n, k, es, c, G, rfl, hO, hD, hE⟩ := hB
 have hS : Sat W _ ([(p, .cells #[.slice a n k, I (doneOf B)] 162 (0, 0))] :: c :: G :: H :: F) := Sat.perm hS (by simp)
 have hlo := hO.le; have hln := hO.len; have hel := entsOf_len hE; have hw1 := hW.ls; have hw2 := hW.la; have hw3 := hW.n0
 refine callsA 24 Tryz.func157 rfl ?_
 refine sR <| pu2 <| nT <| sR <| pu2 ?_
 have h0 := (hS.picks [1, 1])
 refine cX Tryz.call151 (b_entry hO i h0) ?_
 rintro _ _ ⟨c0, (⟨i0, rfl⟩ | ⟨i0, a0, _, _, rfl, b0, d0⟩)⟩
 ·refine pu1 <| nT <| seqE <| sR <| pu2 <| nT <| cTt <| sR <| pu2 <| nT <| retE <| thenK_r <| retT [I 0, I 16] ?_
  have j0 : Sat W _ (([(p, .cells #[.slice a n k, I (doneOf B)] 162 (0, 0))] ++ (c ++ G)) :: H :: F) := Sat.perm c0 (by simp)
  have hno : ¬ inB B i := by unfold inB; omega
  have he : startB B i = (B, 0, 16) := by unfold startB; rw [if_neg hno]
  exact ⟨_, by rw [he]; rfl, by rw [he]; exact ⟨_, _, _, es, c, G, rfl, hO, hD, hE⟩, j0⟩
 have k0 := OwnT.ptr hO d0 b0
 refine pu1 <| nT <| seqE <| sR <| pu2 <| nT <| cFf <| kT <| seqE <| sR <| pu3 ?_
 refine sLp c0 (k0.up 1 rfl) 0 (I a0.state) (Tryz.isAgg3 _) ?_
 refine pu1 <| nT ?_
 refine cN a0.state 2 (fun l0 => ?_) (fun l0 => ?_)
 rotate_left
 ·refine sR <| pu2 <| nT <| retE <| thenK_r <| retT [I 0, I 20] ?_
  have hen := entAt hE b0
  have hin : inB B i := by unfold inB; omega
  have m0 : Sat W _ (([(p, .cells #[.slice a n k, I (doneOf B)] 162 (0, 0))] ++ (c ++ G)) :: H :: F) := Sat.perm c0 (by simp)
  have he : startB B i = (B, 0, 20) := by unfold startB; rw [if_pos hin, if_neg (by rw [stAt_nat _ om]; omega)]
  exact ⟨_, by rw [he]; rfl, by rw [he]; exact ⟨_, _, _, es, c, G, rfl, hO, hD, hE⟩, m0⟩
 refine kT <| sR <| pu3 ?_
 refine sStF c0 hO d0 1 i.toNat 0 a0 (⟨3, a0.attempt, a0.pending, a0.next⟩ : BEnt) b0 (I 3) [I 3] Tryz.sizeOf3 ?_
 intro _ e0 f0 g0
 refine nT <| sR <| pu3 ?_
 have o0 := set_at (y := (⟨3, a0.attempt, a0.pending, a0.next⟩ : BEnt)) b0
 have p0 := OwnT.ptr f0 d0 o0
 refine sLp g0 (p0.up 1 rfl) 1 (I a0.attempt) (Tryz.isAgg3 _) ?_
 refine pu2 <| nT <| retE <| retT [I a0.attempt, I 0] ?_
 have hen := entAt hE b0
 have hin : inB B i := by unfold inB; omega
 have q0 : Sat W _ (([(p, .cells #[.slice a n k, I (doneOf B)] 162 (0, 0))] ++ (e0 ++ G)) :: H :: F) := Sat.perm g0 (by simp)
 have he : startB B i = (⟨B.deps, B.st.set i.toNat 3, B.att⟩, B.att.getD i.toNat 0, 0) := by unfold startB; rw [if_pos hin, if_pos (by rw [stAt_nat _ om]; omega)]
 have hes := ents_state (x' := (⟨3, a0.attempt, a0.pending, a0.next⟩ : BEnt)) (y := 3) hw1 hw2 hE b0 om om rfl hen.2.2.1 rfl rfl
 rw [set_self] at hes
 refine ⟨_, by rw [he]; exact congrArg (fun z => Ending.returned (.tuple #[I z, I 0])) hen.2.2.1, by rw [he]; exact ⟨_, _, _, _, e0, G, by rw [hes.2], f0, ok_set hD b0 rfl, hes.1⟩, q0⟩
theorem b_return {p : Nat} {B : BS} {K : Int} {M : Chunk} (hB : BoardR p B M) (hW : BWf B K) (i : Int) (m : Int) (hK : K ≤ 4611686018427387904) (hS : Sat W w (M :: H :: F)) :
  Calls Tryz.prog 63 #[Pt p 0, I i, I m] w fun e w' => ∃ M' : Chunk, e = .returned (I (heldC B i m)) ∧ BoardR p (retB B i m) M' ∧ Sat W w' (M' :: H :: F) := by
 obtain ⟨a, n, k, es, c, G, rfl, hO, hD, hE⟩ := hB
 have hS : Sat W _ ([(p, .cells #[.slice a n k, I (doneOf B)] 162 (0, 0))] :: c :: G :: H :: F) := Sat.perm hS (by simp)
 have hlo := hO.le; have hln := hO.len; have hel := entsOf_len hE; have hw1 := hW.ls; have hw2 := hW.la; have hw3 := hW.n0
 refine callsA 29 Tryz.func63 rfl ?_
 refine sR <| pu1 <| nT <| sR <| pu3 ?_
 have k0 := (hS.picks [1, 1])
 refine cX Tryz.call113 (b_held hO i m k0) ?_
 rintro _ _ ⟨d0, (⟨e0, rfl⟩ | ⟨e0, a0, b0, l0, rfl⟩ | ⟨e0, a0, _, _, rfl, b0, c0, l0⟩)⟩
 ·refine pu5 <| nT <| seqE <| sR <| pu2 <| nT <| cTt <| sR <| pu2 <| nT <| retE <| thenK_r <| retT [I 16] ?_
  have m0 : Sat W _ (([(p, .cells #[.slice a n k, I (doneOf B)] 162 (0, 0))] ++ (c ++ G)) :: H :: F) := Sat.perm d0 (by simp)
  have hno : ¬ inB B i := by unfold inB; omega
  have he : heldC B i m = 16 := by unfold heldC; rw [if_neg hno]
  have hr : retB B i m = B := by unfold retB; rw [he, if_neg (by decide)]
  exact ⟨_, by rw [he]; rfl, by rw [hr]; exact ⟨_, _, _, es, c, G, rfl, hO, hD, hE⟩, m0⟩
 ·refine pu5 <| nT <| seqE <| sR <| pu2 <| nT <| cTt <| sR <| pu2 <| nT <| retE <| thenK_r <| retT [I 20] ?_
  have hen := entAt hE b0
  have hin : inB B i := by unfold inB; omega
  have o0 : Sat W _ (([(p, .cells #[.slice a n k, I (doneOf B)] 162 (0, 0))] ++ (c ++ G)) :: H :: F) := Sat.perm d0 (by simp)
  have he : heldC B i m = 20 := by unfold heldC; rw [if_pos hin, if_neg (by rw [stAt_nat _ om]; omega)]
  have hr : retB B i m = B := by unfold retB; rw [he, if_neg (by decide)]
  exact ⟨_, by rw [he]; rfl, by rw [hr]; exact ⟨_, _, _, es, c, G, rfl, hO, hD, hE⟩, o0⟩
 have v0 := OwnT.ptr hO c0 b0
 refine pu5 <| nT <| seqE <| sR <| pu2 <| nT <| cFf <| kT <| sR <| pu3 ?_
 refine sStF d0 hO c0 1 i.toNat 0 a0 (⟨2, a0.attempt, a0.pending, a0.next⟩ : BEnt) b0 (I 2) [I 2] Tryz.sizeOf3 ?_
 intro _ _ f0 g0
 refine nT <| seqE ?_
 have hen0 := entAt hE b0; have hab := hW.att _ (getD_mem (q := i.toNat) (s := B.att) om)
 refine regionE <| pu3 ?_
 have h0 := set_at (y := (⟨2, a0.attempt, a0.pending, a0.next⟩ : BEnt)) b0
 have p0 := OwnT.ptr f0 c0 h0
 refine sLp g0 (p0.up 1 rfl) 1 (I a0.attempt) (Tryz.isAgg3 _) ?_
 refine sAdd a0.attempt 1 ?_
 refine pu2 ?_
 refine sStF g0 f0 c0 1 i.toNat 1 (⟨2, a0.attempt, a0.pending, a0.next⟩ : BEnt) (⟨2, (a0.attempt + 1), a0.pending, a0.next⟩ : BEnt) h0 (I (a0.attempt + 1)) [I (a0.attempt + 1)] Tryz.sizeOf3 ?_
 intro _ i0 j0 q0
 rw [List.set_set] at j0
 refine nT <| sR <| pu1 <| nT <| retE <| retT [I 0] ?_
 have hen := entAt hE b0
 have hin : inB B i := by unfold inB; omega
 have r0 : Sat W _ (([(p, .cells #[.slice a n k, I (doneOf B)] 162 (0, 0))] ++ (i0 ++ G)) :: H :: F) := Sat.perm q0 (by simp)
 have he : heldC B i m = 0 := by unfold heldC; rw [if_pos hin, if_pos (by rw [stAt_nat _ om]; omega)]
 have hr : retB B i m = ⟨B.deps, B.st.set i.toNat 2, B.att.set i.toNat (m + 1)⟩ := by unfold retB; rw [if_pos he]
 have hes := ents_state (x' := (⟨2, (a0.attempt + 1), a0.pending, a0.next⟩ : BEnt)) (y := 2) (z := m + 1) hw1 hw2 hE b0 om om rfl (by dsimp only; omega) rfl rfl
 exact ⟨_, by rw [he]; rfl, by rw [hr]; exact ⟨_, _, _, _, i0, G, by rw [hes.2], j0, ok_set hD b0 rfl, hes.1⟩, r0⟩
theorem st_out {s : List Int} {i : Int} (h : ¬ (0 ≤ i ∧ i < ((s.length : Nat) : Int))) : stAt s i = 0 := by
  unfold stAt
  split
  · rw [List.getD_eq_getElem?_getD, List.getElem?_eq_none (by omega)]; rfl
  · rfl
theorem b_state {p : Nat} {B : BS} {K : Int} {M : Chunk} (hB : BoardR p B M) (hW : BWf B K) (i : Int) (hS : Sat W w (M :: H :: F)) :
  Calls Tryz.prog 147 #[Pt p 0, I i] w fun e w' => e = .returned (I (stAt B.st i)) ∧ Sat W w' (M :: H :: F) := by
 obtain ⟨a, n, k, es, c, G, rfl, hO, hD, hE⟩ := hB
 have hS : Sat W _ ([(p, .cells #[.slice a n k, I (doneOf B)] 162 (0, 0))] :: c :: G :: H :: F) := Sat.perm hS (by simp)
 have hlo := hO.le; have hln := hO.len; have hel := entsOf_len hE; have hw1 := hW.ls; have hw2 := hW.la; have hw3 := hW.n0
 refine callsA 15 Tryz.func147 rfl ?_
 refine sR <| pu1 <| nT <| sR <| pu2 ?_
 have d0 := (hS.picks [1, 1])
 refine cX Tryz.call151 (b_entry hO i d0) ?_
 rintro _ _ ⟨a0, (⟨e0, rfl⟩ | ⟨e0, b0, _, _, rfl, c0, f0⟩)⟩
 ·refine pu1 <| nT <| seqE <| sR <| pu2 <| nT <| cTt <| sR <| pu1 <| nT <| retE <| thenK_r <| retT [I 0] ?_
  have g0 : Sat W _ (([(p, .cells #[.slice a n k, I (doneOf B)] 162 (0, 0))] ++ (c ++ G)) :: H :: F) := Sat.perm a0 (by simp)
  exact ⟨by rw [st_out om]; rfl, g0⟩
 have h0 := OwnT.ptr hO f0 c0
 refine pu1 <| nT <| seqE <| sR <| pu2 <| nT <| cFf <| kT <| sR <| pu3 ?_
 refine sLp a0 (h0.up 1 rfl) 0 (I b0.state) (Tryz.isAgg3 _) ?_
 refine pu1 <| nT <| retE <| retT [I b0.state] ?_
 have i0 : Sat W _ (([(p, .cells #[.slice a n k, I (doneOf B)] 162 (0, 0))] ++ (c ++ G)) :: H :: F) := Sat.perm a0 (by simp)
 have hen := entAt hE c0
 exact ⟨by rw [stAt_nat _ om, ← hen.2.1]; rfl, i0⟩
theorem b_done {p : Nat} {B : BS} {K : Int} {M : Chunk} (hB : BoardR p B M) (hW : BWf B K)  (hS : Sat W w (M :: H :: F)) :
  Calls Tryz.prog 118 #[Pt p 0] w fun e w' => e = .returned (I (doneOf B)) ∧ Sat W w' (M :: H :: F) := by
 obtain ⟨a, n, k, es, c, G, rfl, hO, hD, hE⟩ := hB
 have hS : Sat W _ ([(p, .cells #[.slice a n k, I (doneOf B)] 162 (0, 0))] :: c :: G :: H :: F) := Sat.perm hS (by simp)
 have hlo := hO.le; have hln := hO.len; have hel := entsOf_len hE; have hw1 := hW.ls; have hw2 := hW.la; have hw3 := hW.n0
 refine callsA 9 Tryz.func118 rfl ?_
 refine sR <| pu1 <| nT <| seqE <| sR <| pu2 <| nT <| cFf <| kT <| sR <| pu3 ?_
 refine sL hS 0 1 (I (doneOf B)) (Tryz.isAgg3 _) ?_
 refine pu1 <| nT <| retE <| retT [I (doneOf B)] ?_
 have a0 : Sat W _ (([(p, .cells #[.slice a n k, I (doneOf B)] 162 (0, 0))] ++ (c ++ G)) :: H :: F) := Sat.perm hS (by simp)
 exact ⟨rfl, a0⟩
theorem b_total {p : Nat} {B : BS} {K : Int} {M : Chunk} (hB : BoardR p B M) (hW : BWf B K)  (hS : Sat W w (M :: H :: F)) :
  Calls Tryz.prog 119 #[Pt p 0] w fun e w' => e = .returned (I ((B.deps.length : Nat) : Int)) ∧ Sat W w' (M :: H :: F) := by
 obtain ⟨a, n, k, es, c, G, rfl, hO, hD, hE⟩ := hB
 have hS : Sat W _ ([(p, .cells #[.slice a n k, I (doneOf B)] 162 (0, 0))] :: c :: G :: H :: F) := Sat.perm hS (by simp)
 have hlo := hO.le; have hln := hO.len; have hel := entsOf_len hE; have hw1 := hW.ls; have hw2 := hW.la; have hw3 := hW.n0
 refine callsA 10 Tryz.func119 rfl ?_
 refine sR <| pu1 <| nT <| seqE <| sR <| pu2 <| nT <| cFf <| kT <| sR <| pu3 ?_
 refine sL hS 0 0 (.slice a n k) (Tryz.isAgg160 _) ?_
 refine pu2 <| nT <| retE <| retT [I ((n : Nat) : Int)] ?_
 have a0 : Sat W _ (([(p, .cells #[.slice a n k, I (doneOf B)] 162 (0, 0))] ++ (c ++ G)) :: H :: F) := Sat.perm hS (by simp)
 exact ⟨by rw [show B.deps.length = n by omega]; rfl, a0⟩
end Go.Proofs.YtegmennaekipaaaGreat

namespace Go.Proofs.YtegmennaekipaaaGreat
open Go Go.E
set_option linter.unusedVariables false
set_option linter.unusedSimpArgs false
set_option linter.unnecessarySimpa false
set_option maxRecDepth 100000
set_option maxHeartbeats 2000000
variable {W w : World} {H : Chunk} {F : List Chunk}
theorem s_nan (x : Int) (hS : Sat W w (H :: F)) :
    Ro Tryz.prog 182 #[.int .i64 x] (.bool false) W w (H :: F) := by
  refine callsA 6 Tryz.func182 rfl ?_
  refine seqE <| regionE <| pu1 <| nilO <| thenK_n <| seqE <| regionE <| pu4 <| nilO <| thenK_n <| retE <| retT [.bool ((x : Int) != x)] <| ?_
  exact ⟨congrArg (fun b => Ending.returned (.bool b)) (by simp), hS⟩
theorem s_less (x : Int) (y : Int) (hS : Sat W w (H :: F)) :
    Ro Tryz.prog 168 #[.int .i64 x, .int .i64 y] (.bool (decide ((x : Int) < y))) W w (H :: F) := by
  refine callsA 17 Tryz.func168 rfl ?_
  refine seqE <| regionE <| pu1 <| nilO <| thenK_n <| seqE <| regionE <| pu1 ?_
  refine cR Tryz.call182 (s_nan x (Sat.flat hS)) ?_
  intro w_1 hS_2
  refine pu11 <| nilO <| thenK_n <| retE <| retT [.bool (decide ((x : Int) < y))] <| ?_
  exact ⟨rfl, hS_2⟩
theorem s_len64 {cs : List Chunk} (x : Int) (hx : 0 ≤ x ∧ x < 18446744073709551616) (hS : Sat W w cs) :
  Calls Tryz.prog 172 #[.int .u64 x] w fun e w' => ∃ r : Int, e = .returned (I r) ∧ (0 ≤ r ∧ r ≤ 400) ∧ Sat W w' cs := by
 refine callsA 25 Tryz.func172 rfl ?_
 refine sR <| pu1 <| nT <| seqE <| sR <| pu2 <| nT ?_
 refine cD (x ≥ 4294967296) (fun i0 => ?_) (fun i0 => ?_)
 rotate_left
 ·refine kT <| seqE <| sR <| pu2 <| nT ?_
  refine cD (x ≥ 65536) (fun j0 => ?_) (fun j0 => ?_)
  rotate_left
  ·refine kT <| seqE <| sR <| pu2 <| nT ?_
   refine cD (x ≥ 256) (fun k0 => ?_) (fun k0 => ?_)
   rotate_left
   ·refine kT <| sR <| pu2 ?_
    refine stepY (.int .u8 (x % 256)) rfl rfl (Y_conv (k := .u64) (a := x) Tryz.underlying206 Tryz.underlying5 (wrap_u8 _) rfl kr) ?_
    refine sStrIdx (k := .u8) (x % 256) Tryz.underlying9 ?_
    intro a0 _
    refine stepY (I a0) rfl rfl (Y_conv (k := .u8) (a := a0) Tryz.underlying5 Tryz.underlying3 (wrapIn_i64 _ om) rfl kr) ?_
    refine sAdd 0 a0 ?_
    refine pu1 <| nT <| retE <| retT [I (0 + a0)] ?_
    exact ⟨_, rfl, om, hS⟩
   refine sR <| pu1 ?_
   refine stepY (.int .u64 (x / 256)) rfl rfl (Y_shr .u64 .u64 x 8 256 rfl kr kr (by decide) (by decide)) ?_
   refine pu1 <| nT <| regionE <| pu3 <| nT <| sR <| pu2 ?_
   refine stepY (.int .u8 ((x / 256) % 256)) rfl rfl (Y_conv (k := .u64) (a := (x / 256)) Tryz.underlying206 Tryz.underlying5 (wrap_u8 _) rfl kr) ?_
   refine sStrIdx (k := .u8) ((x / 256) % 256) Tryz.underlying9 ?_
   intro b0 _
   refine stepY (I b0) rfl rfl (Y_conv (k := .u8) (a := b0) Tryz.underlying5 Tryz.underlying3 (wrapIn_i64 _ om) rfl kr) ?_
   refine sAdd 8 b0 ?_
   refine pu1 <| nT <| retE <| retT [I (8 + b0)] ?_
   exact ⟨_, rfl, om, hS⟩
  refine sR <| pu1 ?_
  refine stepY (.int .u64 (x / 65536)) rfl rfl (Y_shr .u64 .u64 x 16 65536 rfl kr kr (by decide) (by decide)) ?_
  refine pu1 <| nT <| regionE <| pu3 <| nT <| seqE <| sR <| pu2 <| nT ?_
  refine cD ((x / 65536) ≥ 256) (fun l0 => ?_) (fun l0 => ?_)
  rotate_left
  ·refine kT <| sR <| pu2 ?_
   refine stepY (.int .u8 ((x / 65536) % 256)) rfl rfl (Y_conv (k := .u64) (a := (x / 65536)) Tryz.underlying206 Tryz.underlying5 (wrap_u8 _) rfl kr) ?_
   refine sStrIdx (k := .u8) ((x / 65536) % 256) Tryz.underlying9 ?_
   intro c0 _
   refine stepY (I c0) rfl rfl (Y_conv (k := .u8) (a := c0) Tryz.underlying5 Tryz.underlying3 (wrapIn_i64 _ om) rfl kr) ?_
   refine sAdd 16 c0 ?_
   refine pu1 <| nT <| retE <| retT [I (16 + c0)] ?_
   exact ⟨_, rfl, om, hS⟩
  refine sR <| pu1 ?_
  refine stepY (.int .u64 ((x / 65536) / 256)) rfl rfl (Y_shr .u64 .u64 (x / 65536) 8 256 rfl kr kr (by decide) (by decide)) ?_
  refine pu1 <| nT <| regionE <| pu3 <| nT <| sR <| pu2 ?_
  refine stepY (.int .u8 (((x / 65536) / 256) % 256)) rfl rfl (Y_conv (k := .u64) (a := ((x / 65536) / 256)) Tryz.underlying206 Tryz.underlying5 (wrap_u8 _) rfl kr) ?_
  refine sStrIdx (k := .u8) (((x / 65536) / 256) % 256) Tryz.underlying9 ?_
  intro d0 _
  refine stepY (I d0) rfl rfl (Y_conv (k := .u8) (a := d0) Tryz.underlying5 Tryz.underlying3 (wrapIn_i64 _ om) rfl kr) ?_
  refine sAdd 24 d0 ?_
  refine pu1 <| nT <| retE <| retT [I (24 + d0)] ?_
  exact ⟨_, rfl, om, hS⟩
 refine sR <| pu1 ?_
 refine stepY (.int .u64 (x / 4294967296)) rfl rfl (Y_shr .u64 .u64 x 32 4294967296 rfl kr kr (by decide) (by decide)) ?_
 refine pu1 <| nT <| regionE <| pu1 <| nT <| seqE <| sR <| pu2 <| nT ?_
 refine cD ((x / 4294967296) ≥ 65536) (fun m0 => ?_) (fun m0 => ?_)
 rotate_left
 ·refine kT <| seqE <| sR <| pu2 <| nT ?_
  refine cD ((x / 4294967296) ≥ 256) (fun n0 => ?_) (fun n0 => ?_)
  rotate_left
  ·refine kT <| sR <| pu2 ?_
   refine stepY (.int .u8 ((x / 4294967296) % 256)) rfl rfl (Y_conv (k := .u64) (a := (x / 4294967296)) Tryz.underlying206 Tryz.underlying5 (wrap_u8 _) rfl kr) ?_
   refine sStrIdx (k := .u8) ((x / 4294967296) % 256) Tryz.underlying9 ?_
   intro e0 _
   refine stepY (I e0) rfl rfl (Y_conv (k := .u8) (a := e0) Tryz.underlying5 Tryz.underlying3 (wrapIn_i64 _ om) rfl kr) ?_
   refine sAdd 32 e0 ?_
   refine pu1 <| nT <| retE <| retT [I (32 + e0)] ?_
   exact ⟨_, rfl, om, hS⟩
  refine sR <| pu1 ?_
  refine stepY (.int .u64 ((x / 4294967296) / 256)) rfl rfl (Y_shr .u64 .u64 (x / 4294967296) 8 256 rfl kr kr (by decide) (by decide)) ?_
  refine pu1 <| nT <| regionE <| pu3 <| nT <| sR <| pu2 ?_
  refine stepY (.int .u8 (((x / 4294967296) / 256) % 256)) rfl rfl (Y_conv (k := .u64) (a := ((x / 4294967296) / 256)) Tryz.underlying206 Tryz.underlying5 (wrap_u8 _) rfl kr) ?_
  refine sStrIdx (k := .u8) (((x / 4294967296) / 256) % 256) Tryz.underlying9 ?_
  intro f0 _
  refine stepY (I f0) rfl rfl (Y_conv (k := .u8) (a := f0) Tryz.underlying5 Tryz.underlying3 (wrapIn_i64 _ om) rfl kr) ?_
  refine sAdd 40 f0 ?_
  refine pu1 <| nT <| retE <| retT [I (40 + f0)] ?_
  exact ⟨_, rfl, om, hS⟩
 refine sR <| pu1 ?_
 refine stepY (.int .u64 ((x / 4294967296) / 65536)) rfl rfl (Y_shr .u64 .u64 (x / 4294967296) 16 65536 rfl kr kr (by decide) (by decide)) ?_
 refine pu1 <| nT <| regionE <| pu3 <| nT <| seqE <| sR <| pu2 <| nT ?_
 refine cD (((x / 4294967296) / 65536) ≥ 256) (fun o0 => ?_) (fun o0 => ?_)
 rotate_left
 ·refine kT <| sR <| pu2 ?_
  refine stepY (.int .u8 (((x / 4294967296) / 65536) % 256)) rfl rfl (Y_conv (k := .u64) (a := ((x / 4294967296) / 65536)) Tryz.underlying206 Tryz.underlying5 (wrap_u8 _) rfl kr) ?_
  refine sStrIdx (k := .u8) (((x / 4294967296) / 65536) % 256) Tryz.underlying9 ?_
  intro g0 _
  refine stepY (I g0) rfl rfl (Y_conv (k := .u8) (a := g0) Tryz.underlying5 Tryz.underlying3 (wrapIn_i64 _ om) rfl kr) ?_
  refine sAdd 48 g0 ?_
  refine pu1 <| nT <| retE <| retT [I (48 + g0)] ?_
  exact ⟨_, rfl, om, hS⟩
 refine sR <| pu1 ?_
 refine stepY (.int .u64 (((x / 4294967296) / 65536) / 256)) rfl rfl (Y_shr .u64 .u64 ((x / 4294967296) / 65536) 8 256 rfl kr kr (by decide) (by decide)) ?_
 refine pu1 <| nT <| regionE <| pu3 <| nT <| sR <| pu2 ?_
 refine stepY (.int .u8 ((((x / 4294967296) / 65536) / 256) % 256)) rfl rfl (Y_conv (k := .u64) (a := (((x / 4294967296) / 65536) / 256)) Tryz.underlying206 Tryz.underlying5 (wrap_u8 _) rfl kr) ?_
 refine sStrIdx (k := .u8) ((((x / 4294967296) / 65536) / 256) % 256) Tryz.underlying9 ?_
 intro h0 _
 refine stepY (I h0) rfl rfl (Y_conv (k := .u8) (a := h0) Tryz.underlying5 Tryz.underlying3 (wrapIn_i64 _ om) rfl kr) ?_
 refine sAdd 56 h0 ?_
 refine pu1 <| nT <| retE <| retT [I (56 + h0)] ?_
 exact ⟨_, rfl, om, hS⟩
theorem s_len {cs : List Chunk} (x : Int) (hx : 0 ≤ x ∧ x < 18446744073709551616) (hS : Sat W w cs) :
    Calls Tryz.prog 150 #[.int .u64 x] w fun e w' => ∃ r : Int, e = .returned (.int .i64 r) ∧ (0 ≤ r ∧ r ≤ 400) ∧ Sat W w' cs := by
  refine callsA 8 Tryz.func150 rfl ?_
  refine seqE <| regionE <| pu1 <| nilO <| thenK_n <| seqE <| cFf <| skipE <| thenK_n <| seqE <| regionE <| pu1 ?_
  refine cX Tryz.call172 (s_len64 x (by omega) hS) ?_
  rintro _ w_1 ⟨r_3, rfl, hr_4, hS_2⟩
  refine pu1 <| nilO <| thenK_n <| retE <| retT [.int .i64 r_3] <| ?_
  exact ⟨_, rfl, by omega, hS_2⟩
theorem s_ins (ax : Option Addr) (nx kx : Nat) (x : List Int) (a : Int) (b : Int) (hx : RdT encI 1 [H] ax nx kx x) (hs : ∀ (q : Nat) (u v : Int), x[q]? = some u → x[q + 1]? = some v → u ≤ v) (hab : a = 0 ∧ b = nx) (hS : Sat W w (H :: F)) :
  Ro Tryz.prog 162 #[.slice ax nx kx, I a, I b] (.tuple #[]) W w (H :: F) := by
 have hl_x := hx.le; have hn_x := hx.len
 obtain ⟨rfl, rfl⟩ := hab
 refine callsA 49 Tryz.func162 rfl ?_
 refine sR <| pu3 <| nT <| blockE ?_
 refine loopA (γ := Nat) (fun j => [(0, .slice ax nx kx), (1, I 0), (2, I ((nx : Nat) : Int)), (6, I ((j : Nat) : Int))]) (fun j w => Sat W w (H :: F) ∧ j ≤ max nx 1 ∧ (1 ≤ j)) (fun j => (max nx 1) - j) 1 ⟨hS, om, om⟩ ?_
 rintro j ρ _ ⟨a0, hj, hj1⟩
 refine seqE <| sR <| pu3 <| nT ?_
 refine cD (((j : Nat) : Int) < ((nx : Nat) : Int)) (fun j0 => ?_) (fun j0 => ?_)
 rotate_left
 ·refine exitE <| xB ?_
  refine ret0n rfl ?_
  exact ⟨rfl, a0⟩
 refine kT <| seqE <| blockE <| sR <| pu2 <| nT <| blockE ?_
 refine loopN 1 ?_
 refine roundS ?_
 refine seqE <| seqE ?_
 by_cases d0 : (((j : Nat) : Int) : Int) > 0
 rotate_left
 ·refine drawE [13] [] [(true, [0, 1, 2, 3]), (true, [4, 5, 6, 8, 9, 10, 11, 7, 12]), (false, [13]), (true, [14])] rfl kr trivial ?_
  have k0 := a0.drew
  refine wU [0, 1, 2, 3] ?_
  refine wFix 19 _ false (decide_eq_false d0) ?_
  refine wU [4, 5, 6, 8, 9, 10, 11, 7, 12] ?_
  refine wO rfl ?_
  refine pu1 ?_
  refine nilO ⟨trivial, ?_⟩
  refine wU [14] ?_
  refine wN ?_
  refine thenK_n <| cFf <| exitE <| xB <| blockK_n <| thenK_n <| regionE <| pu1 ?_
  refine sAdd ((j : Nat) : Int) 1 ?_
  refine pu1 <| nT ?_
  exact ⟨j + 1, od, alA, k0, om, om⟩
 obtain ⟨b0, e0, f0, g0, l0, m0⟩ := RdT.elem hx ((j : Nat) : Int)
 rw [Int.toNat_natCast] at g0
 obtain ⟨c0, h0, i0, n0, o0, p0⟩ := RdT.elem hx (((j : Nat) : Int) - 1)
 refine drawE [13] [(7, ⟨e0, f0, none⟩, I b0), (12, ⟨h0, i0, none⟩, I c0)] [(true, [0, 1, 2, 3]), (true, [4, 5]), (true, [6]), (true, [8, 9]), (true, [10]), (true, [11]), (true, [7]), (true, [12]), (false, [13]), (true, [14])] rfl kr ⟨.inr ((l0.up 0 rfl).cell a0 (k := 0) rfl), .inr ((o0.up 0 rfl).cell a0 (k := 0) rfl), trivial⟩ ?_
 have q0 := a0.drew
 refine wU [0, 1, 2, 3] ?_
 refine wFix 19 _ true (decide_eq_true d0) ?_
 refine wU [4, 5] ?_
 refine wY (.pointer (some ⟨e0, f0, none⟩)) rfl (fun w _ => Y_idx (a := ax) (i := ((j : Nat) : Int)) (len := nx) (cap := kx) rfl Tryz.runUnderlying22 Tryz.sizeOf3 kr kr m0) ?_
 refine wU [8, 9] ?_
 refine wSub ((j : Nat) : Int) 1 ?_
 refine wY (.pointer (some ⟨h0, i0, none⟩)) rfl (fun w _ => Y_idx (a := ax) (i := (((j : Nat) : Int) - 1)) (len := nx) (cap := kx) rfl Tryz.runUnderlying22 Tryz.sizeOf3 kr kr p0) ?_
 refine wLd (I b0) 0 Tryz.isAgg3 ?_
 refine wLd (I c0) 1 Tryz.isAgg3 ?_
 refine wO rfl ?_
 refine gY ?_
 refine cR Tryz.call168 (s_less b0 c0 (Sat.flat q0)) ?_
 intro _ r0
 refine nilO ⟨dA, ?_⟩
 refine wU [14] ?_
 refine wN ?_
 refine thenK_n ?_
 have s0 : ¬ ((b0 : Int) < c0) := by have h := hs (j - 1) c0 b0 (by rw [show j - 1 = (((j : Nat) : Int) - 1).toNat by omega]; exact n0) (by rw [show j - 1 + 1 = j by omega]; exact g0); omega
 refine cF _ (decide_eq_false s0) ?_
 refine exitE <| xB <| blockK_n <| thenK_n <| regionE <| pu1 ?_
 refine sAdd ((j : Nat) : Int) 1 ?_
 refine pu1 <| nT ?_
 exact ⟨j + 1, od, alA, r0, om, om⟩
theorem s_pdq (ax : Option Addr) (nx kx : Nat) (x : List Int) (a : Int) (b : Int) (m : Int) (hx : RdT encI 1 [H] ax nx kx x) (hs : ∀ (q : Nat) (u v : Int), x[q]? = some u → x[q + 1]? = some v → u ≤ v) (hab : a = 0 ∧ b = nx) (hn : nx ≤ 12) (hS : Sat W w (H :: F)) :
  Ro Tryz.prog 149 #[.slice ax nx kx, I a, I b, I m] (.tuple #[]) W w (H :: F) := by
 have hl_x := hx.le; have hn_x := hx.len
 refine callsA 134 Tryz.func149 rfl ?_
 refine sR <| pu1 <| nT <| sR <| pu1 <| nT <| blockE ?_
 refine loopN 1 ?_
 refine roundS ?_
 refine blockE <| sR <| pu2 ?_
 refine sSub b a ?_
 refine pu1 <| nT <| seqE <| sR <| pu2 <| nT ?_
 have a0 : ((b - a) : Int) ≤ 12 := by omega
 refine cT _ (decide_eq_true a0) ?_
 refine sR <| pu3 ?_
 refine cR Tryz.call162 (s_ins ax nx kx x a b (RdT.flat (hx.up 0 (by rfl))) hs om (Sat.flat hS)) ?_
 intro _ b0
 refine nT <| retE <| tR <| tR ?_
 refine ret0 rfl ?_
 exact ⟨rfl, b0⟩
theorem s_sort (ax : Option Addr) (nx kx : Nat) (x : List Int) (hx : RdT encI 1 [H] ax nx kx x) (hs : ∀ (q : Nat) (u v : Int), x[q]? = some u → x[q + 1]? = some v → u ≤ v) (hn : nx ≤ 12) (hS : Sat W w (H :: F)) :
  Ro Tryz.prog 101 #[.slice ax nx kx] (.tuple #[]) W w (H :: F) := by
 have hl_x := hx.le; have hn_x := hx.len
 refine callsA 11 Tryz.func101 rfl ?_
 refine sR <| pu3 <| nT <| regionE <| pu3 ?_
 refine stepY (.int .u64 (((nx : Nat) : Int) % 18446744073709551616)) rfl rfl (Y_conv (k := .i64) (a := ((nx : Nat) : Int)) Tryz.underlying3 Tryz.underlying188 (wrap_u64 _) rfl kr) ?_
 refine cX Tryz.call150 (s_len (((nx : Nat) : Int) % 18446744073709551616) om hS) ?_
 rintro _ _ ⟨a0, rfl, _, b0⟩
 refine cR Tryz.call149 (s_pdq ax nx kx x 0 ((nx : Nat) : Int) a0 (RdT.flat (hx.up 0 (by rfl))) hs om om (Sat.flat b0)) ?_
 intro _ c0
 refine nilO ?_
 refine ret0n rfl ?_
 exact ⟨rfl, c0⟩
end Go.Proofs.YtegmennaekipaaaGreat

namespace Go.Proofs.YtegmennaekipaaaGreat
open Go Go.E
set_option linter.unusedVariables false
set_option linter.unusedSimpArgs false
set_option linter.unnecessarySimpa false
set_option maxRecDepth 100000
set_option maxHeartbeats 2000000
variable {W w : World} {H : Chunk} {F : List Chunk}
theorem b_ready {p : Nat} {B : BS} {K : Int} {M : Chunk} (hB : BoardR p B M) (hW : BWf B K)  (hS : Sat W w (M :: H :: F)) :
  Calls Tryz.prog 54 #[Pt p 0] w fun e w' => ∃ (az : Option Addr) (nz kz : Nat) (Z M' : Chunk), e = .returned (.slice az nz kz) ∧ RdT encI 1 [Z] az nz kz (idxOf 2 0 B.st) ∧ BoardR p B M' ∧ Sat W w' (Z :: M' :: H :: F) := by
 obtain ⟨a, n, k, es, c, G, rfl, hO, hD, hE⟩ := hB
 have hS : Sat W _ ([(p, .cells #[.slice a n k, I (doneOf B)] 162 (0, 0))] :: c :: G :: H :: F) := Sat.perm hS (by simp)
 have hlo := hO.le; have hln := hO.len; have hel := entsOf_len hE; have hw1 := hW.ls; have hw2 := hW.la; have hw3 := hW.n0
 refine callsA 27 Tryz.func54 rfl ?_
 refine sR <| pu1 <| nT <| seqE <| sR <| pu2 <| nT <| cFf <| kT <| sR <| pu1 <| nT <| seqE <| sR <| pu3 ?_
 refine sL hS 0 0 (.slice a n k) (Tryz.isAgg160 _) ?_
 refine pu2 <| nT <| blockE ?_
 have e0 := Sat.nilc hS
 have f0 := OwnT.nil (enc := encI) (E := 3) (sz := 1) fR
 refine loopA (γ := Nat × (List Int) × (Option Addr) × Nat × Nat × Chunk) (fun ⟨i, zs, azs, nzs, kzs, czs⟩ => [(11, .slice a n k), (12, I ((n : Nat) : Int)), (13, I ((i : Nat) : Int)), (3, .slice azs nzs kzs)]) (fun ⟨i, zs, azs, nzs, kzs, czs⟩ w => Sat W w (czs :: [(p, .cells #[.slice a n k, I (doneOf B)] 162 (0, 0))] :: c :: G :: H :: F) ∧ i ≤ n ∧ (zs = idxOf 2 0 (B.st.take i)) ∧ (zs.length ≤ i) ∧ OwnT encI 3 1 azs nzs kzs zs czs) (fun ⟨i, zs, azs, nzs, kzs, czs⟩ => n - i) (0, [], none, 0, 0, []) ⟨e0, om, rfl, by simp, f0⟩ ?_
 rintro ⟨i, zs, azs, nzs, kzs, czs⟩ ρ _ ⟨b0, hi, hz, hzl, hOzs⟩
 have hn_zs := hOzs.len; have hl_zs := hOzs.le
 refine sR <| pu1 <| nT <| seqE ?_
 refine cD (((i : Nat) : Int) < ((n : Nat) : Int)) (fun g0 => ?_) (fun g0 => ?_)
 rotate_left
 ·refine exitE <| xB <| thenK_n <| sR <| pu2 <| nT <| retE <| retT [.slice azs nzs kzs] ?_
  have h0 : Sat W _ (czs :: ([(p, .cells #[.slice a n k, I (doneOf B)] 162 (0, 0))] ++ (c ++ G)) :: H :: F) := Sat.perm b0 (by simp)
  have hzz : zs = idxOf 2 0 B.st := by rw [hz, List.take_of_length_le om]
  have hrd := (hOzs.rdAt (cs := [czs]) 0 rfl); rw [hzz] at hrd
  exact ⟨_, _, _, _, _, rfl, hrd, ⟨_, _, _, es, c, G, rfl, hO, hD, hE⟩, h0⟩
 refine kT <| seqE <| blockE <| sR <| pu1 ?_
 refine sIdxO hO ((i : Nat) : Int) i Tryz.runUnderlying160 Tryz.sizeOf165 ?_
 intro a0 _ _ d0 i0 _
 refine sLpA b0 (i0.up 2 rfl) 0 (encBEnt a0) (Tryz.isAgg165 _) (Tryz.sizeOf165 _) ?_
 refine sAlloc b0 Tryz.zeroValue165 ?_
 intro _ _ j0
 refine pu1 ?_
 refine sT j0 0 0 (.agg (encBEnt a0).toArray) (encBEnt a0) (encBEnt a0).toArray Tryz.sizeOf165 ?_
 intro _ c0
 refine nT <| sR <| pu1 ?_
 refine sL c0 0 0 (I a0.state) (Tryz.isAgg3 _) ?_
 refine pu1 <| nT ?_
 refine cE a0.state 2 (fun k0 => ?_) (fun k0 => ?_)
 rotate_left
 ·refine skipE <| blockK_n <| thenK_n <| regionE ?_
  refine sAdd ((i : Nat) : Int) 1 ?_
  refine pu1 <| nT ?_
  have l0 := (c0.dropAt 0 rfl)
  exact ⟨(i + 1, zs, azs, nzs, kzs, czs), od, alA, l0, om, (idx_n hz om (by have h := (entAt hE d0).2.1; omega)), (by first | omega | (simp; omega)), hOzs⟩
 refine regionE <| pu2 ?_
 refine sBS c0 #[I ((i : Nat) : Int)] Tryz.runUnderlying22 Tryz.sizeOf3 Tryz.zeroValue3 ?_
 intro _ _ m0
 refine sApp (nb := 8) m0 hOzs 2 (RdT.blk (enc := encI) (sz := 1) (xs := [((i : Nat) : Int)]) fR 1 0 rfl rfl rfl om) Tryz.underlying22 (i := Tryz.t3) kr fR ?_
 intro o0 p0 q0 _ r0 s0
 refine pu1 <| nB <| regionE ?_
 refine sAdd ((i : Nat) : Int) 1 ?_
 refine pu1 <| nT ?_
 have t0 := (s0.drops [0, 0])
 exact ⟨(i + 1, (zs ++ [((i : Nat) : Int)]), o0, (nzs + 1), p0, q0), od, alA, t0, om, (idx_y hz om (by have h := (entAt hE d0).2.1; omega)), (by first | omega | (simp; omega)), r0⟩

theorem com_start {es : List BEnt} {B : BS} {K : Int} {i : Nat} {x x' : BEnt} (hW : BWf B K) (h : es.map BEnt.v = entsOf B) (hx : es[i]? = some x) (h1 : x'.state = 4) (h2 : x'.attempt = x.attempt) (h3 : x'.pending = x.pending) (h4 : x'.next = x.next) :
  (es.set i x').map BEnt.v = (List.range B.deps.length).map (entC B (B.st.set i 4) ((nextOf 0 B.deps i).take 0)) := by
 obtain ⟨hi, e1, e2, e3, e4⟩ := entAt h hx
 have hls := hW.ls
 refine ents_set (f := entV B) h (fun q hq hne => ?_) (fun _ => ?_)
 ·simp only [entV, entC, List.take_zero, List.not_mem_nil, if_false, getD_set]; rw [if_neg om]
 ·simp only [BEnt.v, entC, List.take_zero, List.not_mem_nil, if_false, getD_set, h1, h2, h3, h4, e2, e3, e4]; rw [if_pos ⟨trivial, om⟩]
theorem pend_get {es : List BEnt} {B : BS} {K : Int} {i j : Nat} {z : Int} {y : BEnt} (hW : BWf B K) (hi : i < B.deps.length) (h3 : B.st.getD i 0 = 3)
  (h : es.map BEnt.v = (List.range B.deps.length).map (entC B (B.st.set i 4) ((nextOf 0 B.deps i).take j))) (hz : (nextOf 0 B.deps i)[j]? = some z) (hy : es[z.toNat]? = some y) : 0 ≤ y.pending - 1 ∧ y.pending ≤ 4096 := by
 have h1 := (com_step (y' := ⟨if y.pending - 1 = 0 then 2 else y.state, y.attempt, y.pending - 1, y.next⟩) hW hi h3 h hz hy rfl rfl rfl rfl).2
 obtain ⟨q, hzq, hq, hiq⟩ := nx_mem.1 (List.mem_of_getElem? hz)
 have hd : B.deps[z.toNat]? = some (B.deps.getD z.toNat []) := by simp [List.getD_eq_getElem?_getD, show z.toNat < B.deps.length by omega]
 have h4 := asc_len om (hW.asc _ _ hd)
 have h5 : pendOf (B.st.set i 4) (B.deps.getD z.toNat []) ≤ ((B.deps.getD z.toNat []).length : Nat) := by unfold pendOf; have := List.length_filter_le (fun x => decide (stAt (B.st.set i 4) x ≠ 4)) (B.deps.getD z.toNat []); omega
 have h6 : 0 ≤ pendOf (B.st.set i 4) (B.deps.getD z.toNat []) := by unfold pendOf; omega
 have := hW.n0
 omega
theorem b_commit {p : Nat} {B : BS} {K : Int} {M : Chunk} (hB : BoardR p B M) (hW : BWf B K) (i : Int) (m : Int) (hn12 : B.deps.length ≤ 12) (hS : Sat W w (M :: H :: F)) :
  Calls Tryz.prog 155 #[Pt p 0, I i, I m] w fun e w' => ∃ (az : Option Addr) (nz kz : Nat) (Z M' : Chunk), e = .returned (.tuple #[.slice az nz kz, I (heldC B i m)]) ∧ RdT encI 1 [Z] az nz kz ((comB B i m).2) ∧ BoardR p (comB B i m).1 M' ∧ Sat W w' (Z :: M' :: H :: F) := by
 obtain ⟨a, n, k, es, c, G, rfl, hO, hD, hE⟩ := hB
 have hS : Sat W _ ([(p, .cells #[.slice a n k, I (doneOf B)] 162 (0, 0))] :: c :: G :: H :: F) := Sat.perm hS (by simp)
 have hlo := hO.le; have hln := hO.len; have hel := entsOf_len hE; have hw1 := hW.ls; have hw2 := hW.la; have hw3 := hW.n0
 refine callsA 72 Tryz.func155 rfl ?_
 refine sR <| pu2 <| nT <| sR <| pu3 ?_
 have v0 := (hS.picks [1, 1])
 refine cX Tryz.call113 (b_held hO i m v0) ?_
 rintro _ _ ⟨g0, (⟨l0, rfl⟩ | ⟨l0, b0, d0, w0, rfl⟩ | ⟨l0, b0, _, _, rfl, d0, h0, w0⟩)⟩
 ·refine pu5 <| nT <| seqE <| sR <| pu2 <| nT <| cTt <| sR <| pu3 <| nT <| retE <| thenK_r <| retT [.slice none 0 0, I 16] ?_
  have hno : ¬ inB B i := by unfold inB; omega
  have he : heldC B i m = 16 := by unfold heldC; rw [if_neg hno]
  have hr : comB B i m = (B, []) := by unfold comB; rw [he, if_neg (by decide)]
  have x0 : Sat W _ (([] : Chunk) :: ([(p, .cells #[.slice a n k, I (doneOf B)] 162 (0, 0))] ++ (c ++ G)) :: H :: F) := Sat.perm g0 (by simp)
  exact ⟨_, _, _, [], _, by rw [he]; rfl, by rw [hr]; exact RdT.nil (enc := encI) (sz := 1) fR _, by rw [hr]; exact ⟨_, _, _, es, c, G, rfl, hO, hD, hE⟩, x0⟩
 ·refine pu5 <| nT <| seqE <| sR <| pu2 <| nT <| cTt <| sR <| pu3 <| nT <| retE <| thenK_r <| retT [.slice none 0 0, I 20] ?_
  have hen := entAt hE d0
  have hin : inB B i := by unfold inB; omega
  have he : heldC B i m = 20 := by unfold heldC; rw [if_pos hin, if_neg (by rw [stAt_nat _ om]; omega)]
  have hr : comB B i m = (B, []) := by unfold comB; rw [he, if_neg (by decide)]
  have y0 : Sat W _ (([] : Chunk) :: ([(p, .cells #[.slice a n k, I (doneOf B)] 162 (0, 0))] ++ (c ++ G)) :: H :: F) := Sat.perm g0 (by simp)
  exact ⟨_, _, _, [], _, by rw [he]; rfl, by rw [hr]; exact RdT.nil (enc := encI) (sz := 1) fR _, by rw [hr]; exact ⟨_, _, _, es, c, G, rfl, hO, hD, hE⟩, y0⟩
 have z1 := OwnT.ptr hO h0 d0
 refine pu5 <| nT <| seqE <| sR <| pu2 <| nT <| cFf <| kT <| seqE ?_
 have hen := entAt hE d0; have hin : inB B i := by unfold inB; omega
 have hst3 : B.st.getD i.toNat 0 = 3 := by omega
 have hit : i.toNat < B.deps.length := by omega
 have hxok := hD b0 (List.mem_of_getElem? d0); have hxl := hxok.next.le; have hxn := hxok.next.len
 have hnl := nx_asc (i := ((i.toNat : Nat) : Int)) (D := B.deps) (k := 0) (a := -1) om; have hnl2 := asc_len om hnl; rw [Nat.zero_add] at hnl hnl2
 have hdn : 0 ≤ doneOf B ∧ doneOf B ≤ 4096 := by unfold doneOf; have := List.length_filter_le (fun x => decide (x = (4 : Int))) B.st; omega
 refine regionE <| pu3 ?_
 refine sStF g0 hO h0 1 i.toNat 0 b0 (⟨4, b0.attempt, b0.pending, b0.next⟩ : BEnt) d0 (I 4) [I 4] Tryz.sizeOf3 ?_
 intro _ z0 m0 o0
 refine nT <| sR <| pu3 ?_
 refine sL o0 0 1 (I (doneOf B)) (Tryz.isAgg3 _) ?_
 refine sAdd (doneOf B) 1 ?_
 refine pu2 ?_
 refine sT o0 0 1 (I ((doneOf B) + 1)) [I ((doneOf B) + 1)] #[.slice a n k, I ((doneOf B) + 1)] Tryz.sizeOf3 ?_
 intro _ p0
 refine nT <| sR <| pu1 <| nT <| seqE <| sR <| pu3 ?_
 have a1 := set_at (y := (⟨4, b0.attempt, b0.pending, b0.next⟩ : BEnt)) d0
 have b1 := OwnT.ptr m0 h0 a1
 refine sLp p0 (b1.up 1 rfl) 3 (.slice b0.next.a b0.next.n b0.next.k) (Tryz.isAgg22 _) ?_
 refine pu2 <| nT <| blockE ?_
 have d1 := Sat.nilc p0
 refine loopA (γ := Nat × (List BEnt) × Chunk × (List Int) × (Option Addr) × Nat × Nat × Chunk) (fun ⟨j, es1, c1, zs, az, nz, kz, cz⟩ => [(39, I ((j : Nat) : Int)), (37, .slice b0.next.a b0.next.n b0.next.k), (38, I ((b0.next.n : Nat) : Int)), (0, Pt p 0), (10, .slice az nz kz)]) (fun ⟨j, es1, c1, zs, az, nz, kz, cz⟩ w => Sat W w (cz :: [(p, .cells #[.slice a n k, I (doneOf B + 1)] 162 (0, 0))] :: c1 :: G :: H :: F) ∧ j ≤ b0.next.n ∧ OwnT encBEnt 165 4 a n k es1 c1 ∧ (∀ z ∈ es1, BEnt.Ok [G] z) ∧ es1.map BEnt.v = (List.range B.deps.length).map (entC B (B.st.set i.toNat 4) ((nextOf 0 B.deps i.toNat).take j)) ∧ OwnT encI 3 1 az nz kz zs cz ∧ zs = ((nextOf 0 B.deps i.toNat).take j).filter (fun z => decide (pendOf (B.st.set i.toNat 4) (B.deps.getD z.toNat []) = 0))) (fun ⟨j, es1, c1, zs, az, nz, kz, cz⟩ => b0.next.n - j) (0, (es.set i.toNat (⟨4, b0.attempt, b0.pending, b0.next⟩ : BEnt)), z0, [], none, 0, 0, []) ⟨d1, om, m0, (ok_set hD d0 rfl), (com_start hW hE d0 rfl rfl rfl rfl), OwnT.nil fR, (by simp)⟩ ?_
 rintro ⟨j, es1, c1, zs, az, nz, kz, cz⟩ ρ _ ⟨f0, hj, hO1, hD1, hE1, hOz, hz⟩
 refine sR <| pu1 <| nT <| seqE ?_
 refine cD (((j : Nat) : Int) < ((b0.next.n : Nat) : Int)) (fun e1 => ?_) (fun e1 => ?_)
 rotate_left
 ·refine exitE <| xB <| thenK_n <| seqE ?_
  have hlnz := hOz.len; have hlz := hOz.le; have hzl2 : zs.length ≤ 12 := by rw [hz]; have h1 := List.length_filter_le (fun z => decide (pendOf (B.st.set i.toNat 4) (B.deps.getD z.toNat []) = 0)) ((nextOf 0 B.deps i.toNat).take j); simp only [List.length_take] at h1; omega
  refine regionE <| pu1 ?_
  refine cR Tryz.call101 (s_sort az nz kz zs (RdT.flat (hOz.rdAt 0 (by rfl))) (by rw [hz]; exact asc_sorted (asc_filter (Int.le_refl _) (asc_pre (m := (nextOf 0 B.deps i.toNat).drop j) (by rw [List.take_append_drop]; exact hnl)))) om (Sat.flat f0)) ?_
  intro _ f1
  refine nT <| sR <| pu3 <| nT <| retE <| retT [.slice az nz kz, I 0] ?_
  have he : heldC B i m = 0 := by unfold heldC; rw [if_pos hin, if_pos (by rw [stAt_nat _ om]; omega)]
  have hr : comB B i m = (⟨B.deps, markB (B.st.set i.toNat 4) B.deps, B.att⟩, rdyB (B.st.set i.toNat 4) B.deps) := by unfold comB; rw [if_pos he]
  have hfull : (nextOf 0 B.deps i.toNat).take j = (nextOf 0 B.deps i.toNat) := List.take_of_length_le (by rw [← hen.2.2.2.2]; omega)
  rw [hfull] at hE1 hz
  rw [com_rdy hW hit hst3] at hz
  have hE2 := com_ents hW hit hst3 hE1
  have g1 : Sat W _ (cz :: ([(p, .cells #[.slice a n k, I (doneOf B + 1)] 162 (0, 0))] ++ (c1 ++ G)) :: H :: F) := Sat.perm f1 (by simp)
  have hrd := hOz.rdAt (cs := [cz]) 0 rfl; rw [hz] at hrd
  exact ⟨_, _, _, cz, _, by rw [he]; rfl, by rw [hr]; exact hrd, by rw [hr]; exact ⟨_, _, _, es1, c1, G, by rw [com_done hW hit hst3], hO1, hD1, hE2⟩, g1⟩
 refine kT <| seqE <| blockE <| sR ?_
 refine sIdx hxok.next ((j : Nat) : Int) Tryz.runUnderlying22 Tryz.sizeOf3 ?_
 intro c0 _ _ q0 i1
 rw [Int.toNat_natCast] at q0
 refine sLp f0 (i1.up 3 rfl) 0 (I c0) (Tryz.isAgg3 _) ?_
 refine pu1 <| nT <| seqE ?_
 have hzz := q0; rw [hen.2.2.2.2] at hzz
 have hzb := asc_mem hnl c0 (List.mem_of_getElem? hzz)
 have hnlo := congrArg List.length hE1; simp only [List.length_map, List.length_range] at hnlo
 have hlo1 := hO1.le; have hln1 := hO1.len; have hlz := hOz.le; have hlnz := hOz.len
 have hzsl : zs.length ≤ 4096 := by rw [hz]; have h1 := List.length_filter_le (fun z => decide (pendOf (B.st.set i.toNat 4) (B.deps.getD z.toNat []) = 0)) ((nextOf 0 B.deps i.toNat).take j); simp only [List.length_take] at h1; omega
 refine regionE <| pu3 ?_
 refine sL f0 1 0 (.slice a n k) (Tryz.isAgg160 _) ?_
 refine pu1 ?_
 refine sIdxO hO1 c0 (c0).toNat Tryz.runUnderlying160 Tryz.sizeOf165 ?_
 intro a0 _ _ e0 j1 i0
 refine pu1 <| nT <| seqE ?_
 have hyp := pend_get hW hit hst3 hE1 hzz e0
 have hyb := (hD1 a0 (List.mem_of_getElem? e0)).next
 refine regionE <| pu3 ?_
 refine sLp f0 (j1.up 2 rfl) 2 (I a0.pending) (Tryz.isAgg3 _) ?_
 refine sSub a0.pending 1 ?_
 refine pu2 ?_
 refine sStF f0 hO1 i0 2 (c0).toNat 2 a0 (⟨a0.state, a0.attempt, (a0.pending - 1), a0.next⟩ : BEnt) e0 (I (a0.pending - 1)) [I (a0.pending - 1)] Tryz.sizeOf3 ?_
 intro _ k1 j0 k0
 refine nT <| sR <| pu3 ?_
 have r0 := set_at (y := (⟨a0.state, a0.attempt, (a0.pending - 1), a0.next⟩ : BEnt)) e0
 have l1 := OwnT.ptr j0 i0 r0
 refine sLp k0 (l1.up 2 rfl) 2 (I (a0.pending - 1)) (Tryz.isAgg3 _) ?_
 refine pu1 <| nT ?_
 refine cE (a0.pending - 1) 0 (fun m1 => ?_) (fun m1 => ?_)
 rotate_left
 ·refine skipE <| blockK_n <| thenK_n <| regionE ?_
  refine sAdd ((j : Nat) : Int) 1 ?_
  refine pu1 <| nT ?_
  have s0 := com_step (y' := (⟨a0.state, a0.attempt, (a0.pending - 1), a0.next⟩ : BEnt)) hW hit hst3 hE1 hzz e0 rfl rfl rfl (by dsimp only; rw [if_neg om])
  exact ⟨(j + 1, (es1.set ((c0).toNat) (⟨a0.state, a0.attempt, (a0.pending - 1), a0.next⟩ : BEnt)), k1, zs, az, nz, kz, cz), od, alA, k0, om, j0, (ok_set hD1 e0 rfl), s0.1, hOz, (by rw [take_succ_at hzz, List.filter_append, ← hz]; simp only [List.filter_cons, List.filter_nil, s0.2]; rw [if_neg (by simp; omega)]; simp)⟩
 refine sR <| pu3 ?_
 refine sStF k0 j0 i0 2 (c0).toNat 0 (⟨a0.state, a0.attempt, (a0.pending - 1), a0.next⟩ : BEnt) (⟨2, a0.attempt, (a0.pending - 1), a0.next⟩ : BEnt) r0 (I 2) [I 2] Tryz.sizeOf3 ?_
 intro _ n1 t0 o1
 rw [List.set_set] at t0
 refine nT <| regionE <| pu2 ?_
 refine sBS o1 #[I c0] Tryz.runUnderlying22 Tryz.sizeOf3 Tryz.zeroValue3 ?_
 intro _ _ p1
 refine sApp (nb := 8) p1 hOz 1 (RdT.blk (enc := encI) (sz := 1) (xs := [c0]) fR 1 0 rfl rfl rfl om) Tryz.underlying22 (i := Tryz.t3) kr fR ?_
 intro q1 r1 s1 _ t1 u1
 refine pu1 <| nB <| regionE ?_
 refine sAdd ((j : Nat) : Int) 1 ?_
 refine pu1 <| nT ?_
 have v1 := (u1.dropAt 0 rfl)
 have u0 := com_step (y' := (⟨2, a0.attempt, (a0.pending - 1), a0.next⟩ : BEnt)) hW hit hst3 hE1 hzz e0 rfl rfl rfl (by dsimp only; rw [if_pos om])
 exact ⟨(j + 1, (es1.set ((c0).toNat) (⟨2, a0.attempt, (a0.pending - 1), a0.next⟩ : BEnt)), n1, (zs ++ [c0]), q1, (nz + 1), r1, s1), od, alA, v1, om, t0, (ok_set hD1 e0 rfl), u0.1, t1, (by rw [take_succ_at hzz, List.filter_append, ← hz]; simp only [List.filter_cons, List.filter_nil, u0.2]; rw [if_pos (by simp; omega)])⟩
end Go.Proofs.YtegmennaekipaaaGreat
