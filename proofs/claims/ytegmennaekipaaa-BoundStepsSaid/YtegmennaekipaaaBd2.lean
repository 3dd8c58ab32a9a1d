import Derived.Test.YtegmennaekipaaaTks
namespace Go.Proofs.Ytegmennaekipaaa
open Go Go.E
set_option linter.unusedVariables false
set_option linter.unusedSimpArgs false
set_option linter.unnecessarySimpa false
set_option maxRecDepth 100000
set_option maxHeartbeats 2000000
variable {W w : World} {H : Chunk} {F : List Chunk}
structure BEnt where
  state : Int
  attempt : Int
  pending : Int
  next : Sl Int
def encBEnt (x : BEnt) : List Value := [.int .i64 x.state, .int .i64 x.attempt, .int .i64 x.pending, .slice x.next.a x.next.n x.next.k]
structure BEntV where
  state : Int
  attempt : Int
  pending : Int
  next : List Int
  deriving DecidableEq
def BEnt.v (x : BEnt) : BEntV := ⟨x.state, x.attempt, x.pending, x.next.l⟩
structure BEnt.Ok (cs : List Chunk) (q : BEnt) : Prop where
  next : RdT encI 1 cs q.next.a q.next.n q.next.k q.next.l
theorem BEnt.Ok.of_mem {cs cs' : List Chunk} {x : BEnt} (h : BEnt.Ok cs x) (hm : ∀ p ∈ cs.flatten, p ∈ cs'.flatten) : BEnt.Ok cs' x := ⟨h.next.of_mem hm⟩
/-! ### boards: what they are -/
structure BS where
  deps : List (List Int)
  st : List Int
  att : List Int
def stAt (l : List Int) (i : Int) : Int := if 0 ≤ i then l.getD i.toNat 0 else 0
def openB (st d : List Int) : Bool := d.any fun x => decide (stAt st x ≠ 4)
def nextOf : Nat → List (List Int) → Int → List Int
  | _, [], _ => []
  | k, d :: D, j => (if j ∈ d then [((k : Nat) : Int)] else []) ++ nextOf (k + 1) D j
def pendOf (st d : List Int) : Int := ((d.filter fun x => decide (stAt st x ≠ 4)).length : Nat)
def entV (B : BS) (q : Nat) : BEntV := ⟨B.st.getD q 0, B.att.getD q 0, pendOf B.st (B.deps.getD q []), nextOf 0 B.deps q⟩
def entsOf (B : BS) : List BEntV := (List.range B.deps.length).map (entV B)
def doneOf (B : BS) : Int := ((B.st.filter fun x => decide (x = 4)).length : Nat)
def st0 (d : List Int) : Int := if d.length = 0 then 2 else 1
def newB (l : List Task) : BS := ⟨l.map (·.deps.l), l.map (fun t => st0 t.deps.l), l.map (fun _ => 0)⟩
theorem nextOf_app (k : Nat) (D : List (List Int)) (d : List Int) (j : Int) : nextOf k (D ++ [d]) j = nextOf k D j ++ (if j ∈ d then [((k + D.length : Nat) : Int)] else []) := by
  induction D generalizing k with
  | nil => simp [nextOf]
  | cons e D ih => simp only [List.cons_append, nextOf, ih, List.append_assoc, List.length_cons]; congr 4; simp; omega
/-- The entries while the board is made: m tasks have their states; the dependencies D are in. -/
def entN (l : List Task) (m : Nat) (D : List (List Int)) (q : Nat) : BEntV :=
  if q < m then ⟨st0 ((l.map (·.deps.l)).getD q []), 0, (((l.map (·.deps.l)).getD q []).length : Nat), nextOf 0 D q⟩ else ⟨0, 0, 0, nextOf 0 D q⟩
theorem range_set {α : Type} (n i : Nat) (f : Nat → α) (y : α) : ((List.range n).map f).set i y = (List.range n).map fun q => if q = i then y else f q := by
  apply List.ext_getElem?
  intro q
  rw [List.getElem?_set, List.getElem?_map, List.getElem?_map]
  by_cases h : i = q
  · subst h
    by_cases h2 : i < n
    · simp [h2]
    · simp [h2]
  · rw [if_neg h]
    by_cases h2 : q < n
    · simp [h2, Ne.symm h]
    · simp [h2]
theorem map_range {α : Type} {n : Nat} {f g : Nat → α} (h : ∀ q, q < n → f q = g q) : (List.range n).map f = (List.range n).map g := by
  apply List.map_congr_left
  intro q hq
  exact h q (List.mem_range.1 hq)
theorem map_range_at {α : Type} {n i : Nat} {f : Nat → α} (h : i < n) : ((List.range n).map f)[i]? = some (f i) := by simp [h]
/-- What is known of an element. -/
theorem ent_at {es : List BEnt} {n i : Nat} {f : Nat → BEntV} {x : BEnt} (h : es.map BEnt.v = (List.range n).map f) (hx : es[i]? = some x) : i < n ∧ x.v = f i := by
  have h1 := map_at (f := BEnt.v) hx
  rw [h] at h1
  have hl : i < n := by
    have := (List.getElem?_eq_some_iff.1 h1).1
    simpa using this
  rw [map_range_at hl] at h1
  exact ⟨hl, (Option.some.inj h1).symm⟩
theorem ents_set {es : List BEnt} {n i : Nat} {f g : Nat → BEntV} {x' : BEnt} (h : es.map BEnt.v = (List.range n).map f) (h1 : ∀ q, q < n → q ≠ i → f q = g q) (h2 : i < n → x'.v = g i) : (es.set i x').map BEnt.v = (List.range n).map g := by
  rw [List.map_set, h, range_set]
  apply map_range
  intro q hq
  by_cases e : q = i
  · subst e; rw [if_pos rfl, h2 hq]
  · rw [if_neg e, h1 q hq e]
/-! ### entries each of which owns its list -/
def Nx (es : List BEnt) (cs : List Chunk) : Prop := es.length = cs.length ∧ ∀ (i : Nat) e c, es[i]? = some e → cs[i]? = some c → OwnT encI 3 1 e.next.a e.next.n e.next.k e.next.l c
theorem Nx.get {es : List BEnt} {cs : List Chunk} (h : Nx es cs) {i : Nat} {e : BEnt} (he : es[i]? = some e) : ∃ c, cs[i]? = some c ∧ OwnT encI 3 1 e.next.a e.next.n e.next.k e.next.l c := by
  have hl : i < cs.length := by rw [← h.1]; exact (List.getElem?_eq_some_iff.1 he).1
  exact ⟨cs[i], by simp [hl], h.2 i e _ he (by simp [hl])⟩
theorem Nx.set {es : List BEnt} {cs : List Chunk} (h : Nx es cs) {i : Nat} {e : BEnt} {c : Chunk} (hO : OwnT encI 3 1 e.next.a e.next.n e.next.k e.next.l c) : Nx (es.set i e) (cs.set i c) := by
  refine ⟨by simp [h.1], fun q e' c' h1 h2 => ?_⟩
  rw [List.getElem?_set] at h1 h2
  by_cases hq : i = q
  · rw [if_pos hq] at h1 h2
    split at h1
    · split at h2
      · cases h1; cases h2; exact hO
      · cases h2
    · cases h1
  · rw [if_neg hq] at h1 h2; exact h.2 q e' c' h1 h2
theorem Nx.keep {es : List BEnt} {cs : List Chunk} (h : Nx es cs) {i : Nat} {e e' : BEnt} (he : es[i]? = some e) (hn : e'.next = e.next) : Nx (es.set i e') cs := by
  obtain ⟨c, hc, hO⟩ := h.get he
  have h2 := h.set (i := i) (e := e') (c := c) (by rw [hn]; exact hO)
  have e2 : cs.set i c = cs := by
    apply List.ext_getElem?
    intro q
    rw [List.getElem?_set]
    by_cases hq : i = q
    · subst hq; rw [if_pos rfl, hc]; simp [(List.getElem?_eq_some_iff.1 hc).1]
    · rw [if_neg hq]
  rw [e2] at h2; exact h2
theorem Nx.rep (n : Nat) (z : BEnt) (hz : z.next = ⟨none, 0, 0, []⟩) : Nx (List.replicate n z) (List.replicate n []) := by
  refine ⟨by simp, fun i e c h1 h2 => ?_⟩
  have he := List.eq_of_mem_replicate (List.mem_of_getElem? h1)
  have hc := List.eq_of_mem_replicate (List.mem_of_getElem? h2)
  subst he; subst hc
  rw [hz]; exact OwnT.nil (fun _ => rfl)
theorem Nx.ok {es : List BEnt} {cs : List Chunk} (h : Nx es cs) : ∀ z ∈ es, BEnt.Ok [cs.flatten] z := by
  intro z hz
  obtain ⟨i, hi⟩ := List.mem_iff_getElem?.1 hz
  obtain ⟨c, hc, hO⟩ := h.get hi
  exact ⟨hO.rd (fun p hp => by simp only [List.flatten_cons, List.flatten_nil, List.append_nil]; exact mem_in i hc hp)⟩
theorem Sat.openN {W w : World} {cs : List Chunk} {c : Chunk} {A F : List Chunk} (i : Nat) (hi : cs[i]? = some c) (h : Sat W w (A ++ cs.flatten :: F)) : Sat W w (c :: A ++ (cs.eraseIdx i).flatten :: F) := by
  refine h.perm ?_
  have h1 := flatten_pick cs i c hi
  simp only [List.flatten_append, List.flatten_cons, List.cons_append]
  refine (List.Perm.append_left _ (List.Perm.append_right _ h1)).trans ?_
  simp only [← List.append_assoc]
  exact List.Perm.append_right _ (List.Perm.append_right _ List.perm_append_comm)
theorem Sat.shutN {W w : World} {cs : List Chunk} {c d : Chunk} {A F : List Chunk} (i : Nat) (hi : cs[i]? = some c) (h : Sat W w (d :: A ++ (cs.eraseIdx i).flatten :: F)) : Sat W w (A ++ (cs.set i d).flatten :: F) := by
  refine h.perm ?_
  have h1 := (flatten_set cs i c d hi).symm
  simp only [List.flatten_append, List.flatten_cons, List.cons_append]
  refine List.Perm.trans ?_ (List.Perm.append_left _ (List.Perm.append_right _ h1))
  simp only [← List.append_assoc]
  exact List.Perm.append_right _ (List.Perm.append_right _ List.perm_append_comm)
/-! ### making a board -/
theorem ents_init (l : List Task) (n : Nat) (z : BEnt) (hz : z.v = ⟨0, 0, 0, []⟩) : (List.replicate n z).map BEnt.v = (List.range n).map (entN l 0 []) := by
  rw [List.map_replicate, hz]
  apply List.ext_getElem?
  intro q
  by_cases h : q < n
  · simp [h, entN, nextOf]
  · simp [h]
theorem depsAt {l : List Task} {i : Nat} {t : Task} (h : l[i]? = some t) : (l.map (·.deps.l)).getD i [] = t.deps.l := by simp [List.getD_eq_getElem?_getD, h]
theorem ents_open {es : List BEnt} {l : List Task} {n i : Nat} {t : Task} {x x' : BEnt} (h : es.map BEnt.v = (List.range n).map (entN l i ((l.map (·.deps.l)).take i))) (ht : l[i]? = some t) (hx : es[i]? = some x)
    (h1 : x'.state = st0 t.deps.l) (h2 : x'.attempt = x.attempt) (h3 : x'.pending = (t.deps.l.length : Nat)) (h4 : x'.next = x.next) : (es.set i x').map BEnt.v = (List.range n).map (entN l (i + 1) ((l.map (·.deps.l)).take i ++ [t.deps.l.take 0])) := by
  have h0 := ent_at h hx
  have e1 := h0.2
  simp only [entN, Nat.lt_irrefl, if_false] at e1
  refine ents_set h (fun q hq hne => ?_) (fun hi => ?_)
  · simp only [entN, List.take_zero, nextOf_app, List.not_mem_nil, if_false, List.append_nil]
    by_cases h6 : q < i
    · rw [if_pos h6, if_pos (by omega)]
    · rw [if_neg h6, if_neg (by omega)]
  · simp only [entN, List.take_zero, nextOf_app, List.not_mem_nil, if_false, List.append_nil, Nat.lt_succ_self, if_true, depsAt ht, BEnt.v, h1, h2, h3, h4]
    have e2 := congrArg BEntV.attempt e1; have e3 := congrArg BEntV.next e1
    simp only [BEnt.v] at e2 e3
    rw [e2, e3]
theorem ents_dep {es : List BEnt} {l : List Task} {n i j : Nat} {t : Task} {d : Int} {x x' : BEnt} (h : es.map BEnt.v = (List.range n).map (entN l (i + 1) ((l.map (·.deps.l)).take i ++ [t.deps.l.take j]))) (ht : l[i]? = some t)
    (hd : t.deps.l[j]? = some d) (hA : ascFrom i (-1) t.deps.l = true) (hx : es[d.toNat]? = some x)
    (h1 : x'.state = x.state) (h2 : x'.attempt = x.attempt) (h3 : x'.pending = x.pending) (h4 : x'.next.l = x.next.l ++ [((i : Nat) : Int)]) : (es.set d.toNat x').map BEnt.v = (List.range n).map (entN l (i + 1) ((l.map (·.deps.l)).take i ++ [t.deps.l.take (j + 1)])) := by
  have hm := asc_mem hA d (List.mem_of_getElem? hd)
  have h0 := ent_at h hx
  have hil : i < l.length := (List.getElem?_eq_some_iff.1 ht).1
  have hli : ((l.map (·.deps.l)).take i).length = i := by simp; omega
  have hnot : d ∉ t.deps.l.take j := by
    intro hin
    have h5 : ascFrom i (-1) (t.deps.l.take (j + 1)) = true := by rw [← List.take_append_drop (j + 1) t.deps.l] at hA; exact asc_pre hA
    rw [asc_take hd, Bool.and_eq_true] at h5
    have h6 : ∀ (l : List Int) (a : Int), ascFrom i a l = true → ∀ y ∈ l, y ≤ lastD a l := by
      intro l
      induction l with
      | nil => intro _ _ y hy; cases hy
      | cons z l ih =>
        intro a ha y hy
        simp only [ascFrom, Bool.and_eq_true, decide_eq_true_eq] at ha
        rcases List.mem_cons.1 hy with rfl | hy
        · exact asc_last ha.2
        · exact ih z ha.2 y hy
    have h7 := h6 _ _ h5.1 d hin
    have h8 := h5.2
    simp at h8
    omega
  have key : ∀ q : Nat, q < n → nextOf 0 ((l.map (·.deps.l)).take i ++ [t.deps.l.take (j + 1)]) q = nextOf 0 ((l.map (·.deps.l)).take i ++ [t.deps.l.take j]) q ++ (if q = d.toNat then [((i : Nat) : Int)] else []) := by
    intro q hq
    rw [nextOf_app, nextOf_app, hli, take_succ_at hd, List.append_assoc]
    congr 1
    by_cases e : q = d.toNat
    · have e2 : ((q : Nat) : Int) = d := by omega
      rw [e2, if_pos (by simp), if_neg hnot, if_pos e]; simp
    · have e2 : ((q : Nat) : Int) ≠ d := by omega
      rw [if_neg e, List.append_nil]
      by_cases h9 : ((q : Nat) : Int) ∈ t.deps.l.take j
      · rw [if_pos (by simp [h9]), if_pos h9]
      · rw [if_neg (by simp [h9, e2]), if_neg h9]
  have e1 := h0.2
  refine ents_set h (fun q hq hne => ?_) (fun hi => ?_)
  · have hk := key q hq
    rw [if_neg hne, List.append_nil] at hk
    simp only [entN, hk]
  · have hk := key _ hi
    rw [if_pos rfl] at hk
    have a1 := congrArg BEntV.state e1; have a2 := congrArg BEntV.attempt e1; have a3 := congrArg BEntV.pending e1; have a4 := congrArg BEntV.next e1
    simp only [BEnt.v, entN] at a1 a2 a3 a4
    simp only [entN, BEnt.v, h1, h2, h3, h4, a1, a2, a3, a4, hk]
    split <;> rfl
theorem ents_done {es : List BEnt} {l : List Task} {n i : Nat} {t : Task} (h : es.map BEnt.v = (List.range n).map (entN l (i + 1) ((l.map (·.deps.l)).take i ++ [t.deps.l.take t.deps.l.length]))) (ht : l[i]? = some t) :
    es.map BEnt.v = (List.range n).map (entN l (i + 1) ((l.map (·.deps.l)).take (i + 1))) := by
  rw [h, List.take_length, take_succ_at (x := t.deps.l) (by simp [ht])]
theorem ents_new {es : List BEnt} {l : List Task} {n : Nat} (hn : l.length = n) (h : es.map BEnt.v = (List.range n).map (entN l n ((l.map (·.deps.l)).take n))) : es.map BEnt.v = entsOf (newB l) := by
  rw [h]
  unfold entsOf
  have hl : (newB l).deps.length = n := by simp [newB, hn]
  rw [hl, List.take_of_length_le (by simp [hn])]
  apply map_range
  intro q hq
  have hq2 : q < l.length := by omega
  simp only [entN, if_pos hq, entV, newB]
  have e1 : (l.map fun t => st0 t.deps.l).getD q 0 = st0 ((l.map (·.deps.l)).getD q []) := by simp [List.getD_eq_getElem?_getD, hq2]
  have e2 : (l.map fun _ => (0 : Int)).getD q 0 = 0 := by simp [List.getD_eq_getElem?_getD, hq2]
  have e3 : ∀ x, stAt (l.map fun t => st0 t.deps.l) x ≠ 4 := by
    intro x
    unfold stAt
    split
    · rw [List.getD_eq_getElem?_getD, List.getElem?_map]
      cases l[x.toNat]? with
      | none => simp
      | some t => simp [st0]; split <;> omega
    · omega
  have e4 : ∀ d, pendOf (l.map fun t => st0 t.deps.l) d = (d.length : Nat) := by
    intro d
    unfold pendOf
    rw [List.filter_eq_self.2 (fun x _ => by simp [e3 x])]
  rw [e1, e2, e4]
theorem done_new (l : List Task) : doneOf (newB l) = 0 := by
  unfold doneOf newB
  rw [List.filter_eq_nil_iff.2]
  · rfl
  · intro x hx
    obtain ⟨t, _, rfl⟩ := List.mem_map.1 hx
    simp [st0]; split <;> omega
theorem asc_len {i : Int} : ∀ {l : List Int} {a : Int}, a < i → ascFrom i a l = true → ((l.length : Nat) : Int) ≤ i - 1 - a
  | [], _, h0, _ => by simp; omega
  | y :: l, _, _, h => by
    simp only [ascFrom, Bool.and_eq_true, decide_eq_true_eq] at h
    have := asc_len (l := l) h.1.2 h.2
    simp only [List.length_cons]; omega

/-- The program's board at p: M is its memory. -/
def BoardR (p : Nat) (B : BS) (M : Chunk) : Prop := ∃ (a : Option Addr) (n k : Nat) (es : List BEnt) (c G : Chunk),
  M = [(p, .cells #[.slice a n k, .int .i64 (doneOf B)] 122 (0, 0))] ++ (c ++ G) ∧ OwnT encBEnt 125 4 a n k es c ∧ (∀ z ∈ es, BEnt.Ok [G] z) ∧ es.map BEnt.v = entsOf B
/-- The reference's board at p. -/
def RefR (p : Nat) (B : BS) (M : Chunk) : Prop := ∃ (a : Option Addr) (n k : Nat) (ts : List Task) (sa : Option Addr) (sn sk : Nat) (ta : Option Addr) (tn tk : Nat) (c G cs ct : Chunk),
  M = [(p, .cells #[.slice a n k, .slice sa sn sk, .slice ta tn tk] 0 (0, 0))] ++ (c ++ (G ++ (cs ++ ct))) ∧ OwnT encTask 31 9 a n k ts c ∧ (∀ z ∈ ts, Task.Ok [G] z) ∧ OwnT encI 3 1 sa sn sk B.st cs ∧ OwnT encI 3 1 ta tn tk B.att ct ∧ ts.map (·.deps.l) = B.deps
theorem tasksOK_at {l : List Task} {i : Nat} {t : Task} (h : tasksOK 0 l = true) (hx : l[i]? = some t) : taskOK i t = true := by
  cases h2 : taskOK i t with
  | true => rfl
  | false => rw [tasksOK_no hx h2] at h; cases h
theorem taskOK_asc {i : Int} {t : Task} (h : taskOK i t = true) : ascFrom i (-1) t.deps.l = true := by unfold taskOK at h; simp only [Bool.and_eq_true] at h; exact h.2
end Go.Proofs.Ytegmennaekipaaa
