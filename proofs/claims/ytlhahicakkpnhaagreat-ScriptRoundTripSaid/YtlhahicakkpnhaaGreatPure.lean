/-
  Runs of operations that touch no memory, all at once. For any program.
-/
import Derived.Test.YtlhahicakkpnhaaGreatDraw
namespace Go.E
section
variable {P : Program} {n : Nat} {ρ : Env} {w : World} {ops : Array Oper} {rest : List Oper} {N : Env → World → Prop}

/-- What a computation that touches no memory comes to. -/
def pureRun {α : Type} (P : Program) : Sem α → Option α
  | .pure a => some a
  | .program k => pureRun P (k P)
  | _ => none

theorem pureRun_run {α : Type} (P : Program) : ∀ (s : Sem α) (a : α), pureRun P s = some a → ∀ w, s.run P w = .ok a w := by
  intro s
  induction s with
  | pure b => intro a h w; simp only [pureRun, Option.some.injEq] at h; subst h; rfl
  | program k ih => intro a h w; exact ih P a h w
  | _ => intro a h; cases h

def valP : Option Next → Value
  | some (.value v) => v
  | _ => undef
def isV : Option Next → Bool
  | some (.value _) => true
  | _ => false

/-- The guard's word: some true: go; some false: pass over; none: not known. -/
def guardP (ops : Array Oper) (n : Nat) (ρ : Env) : Option (Nat × Bool) → Option Bool
  | none => some true
  | some (j, b) => match (ops[j]?).bind (·.dst) with
    | some d => bif Nat.blt d n then (match ρ d with | .bool b' => some (b' == b) | .tuple _ => some false | _ => none) else none
    | none => none

def goP (P : Program) (ρ : Env) (o : Oper) : Option Bool → Value
  | some true => valP (pureRun P (execOp (ev ρ) o))
  | _ => undef
def envP (P : Program) (n : Nat) (ops : Array Oper) : List Oper → Env → Env
  | [], ρ => ρ
  | o :: l, ρ => envP P n ops l (put ρ o.dst (goP P ρ o (guardP ops n ρ o.guard)))
def okP (P : Program) (ρ : Env) (o : Oper) : Option Bool → Bool
  | some true => isV (pureRun P (execOp (ev ρ) o))
  | some false => true
  | none => false
def pureB (P : Program) (n : Nat) (ops : Array Oper) : List Oper → Env → Bool
  | [], _ => true
  | o :: l, ρ => dstOK n o.dst && okP P ρ o (guardP ops n ρ o.guard) && pureB P n ops l (put ρ o.dst (goP P ρ o (guardP ops n ρ o.guard)))

theorem guardP_yes {j : Nat} {b : Bool} (h : guardP ops n ρ (some (j, b)) = some true) : yieldsAs ops ρ j n b := by
  simp only [guardP] at h
  split at h
  · rename_i d hd
    cases hb : Nat.blt d n with
    | false => simp [hb] at h
    | true =>
      simp only [hb, cond_true] at h
      split at h
      · rename_i b' hv
        simp only [Option.some.injEq, beq_iff_eq] at h
        subst h
        exact ⟨d, hd, hb, hv⟩
      · cases h
      · cases h
  · cases h
theorem guardP_no {j : Nat} {b : Bool} (h : guardP ops n ρ (some (j, b)) = some false) : noY ops ρ j n b := by
  simp only [guardP] at h
  split at h
  · rename_i d hd
    cases hb : Nat.blt d n with
    | false => simp [hb] at h
    | true =>
      simp only [hb, cond_true] at h
      split at h
      · rename_i b' hv
        simp only [Option.some.injEq] at h
        exact ⟨d, hd, hb, .inl ⟨b', hv, h⟩⟩
      · rename_i l hv
        exact ⟨d, hd, hb, .inr ⟨l, hv⟩⟩
      · cases h
  · cases h

theorem steadyP {C : World → Prop} {o : Oper} (h : okP P ρ o (guardP ops n ρ o.guard) = true) : SteadyE P n ops C o (goP P ρ o (guardP ops n ρ o.guard)) ρ := by
  have run : ∀ r, pureRun P (execOp (ev ρ) o) = r → isV r = true → ∀ w, Yields P ρ o (valP r) w := by
    intro r hr hi w
    cases r with
    | none => cases hi
    | some x =>
      cases x <;> simp only [isV] at hi <;> first | contradiction | exact pureRun_run P _ _ hr w
  cases hg : o.guard with
  | none =>
    rw [hg] at h
    simp only [guardP, okP] at h
    exact .inl ⟨hg, fun w _ => run _ rfl h w⟩
  | some g =>
    obtain ⟨j, b⟩ := g
    rw [hg] at h
    cases hgp : guardP ops n ρ (some (j, b)) with
    | none => rw [hgp] at h; cases h
    | some x =>
      rw [hgp] at h
      cases x with
      | true =>
        simp only [okP] at h
        exact .inr (.inl ⟨j, b, hg, guardP_yes hgp, fun w _ => run _ rfl h w⟩)
      | false => exact .inr (.inr ⟨j, b, hg, guardP_no hgp, rfl⟩)

theorem ops_steady {o : Oper} {v : Value} (hd : dstOK n o.dst = true) (hs : SteadyE P n ops (fun _ => True) o v ρ) (h : OpsE P n ops rest N (put ρ o.dst v) w) : OpsE P n ops (o :: rest) N ρ w := by
  rcases hs with ⟨hg, hy⟩ | ⟨j, b, hg, hj, hy⟩ | ⟨j, b, hg, hj, rfl⟩
  · exact stepY v hg hd (hy w trivial) h
  · exact guardYes hg hj (stepY v rfl hd (hy w trivial) h)
  · exact guardNo hg hd hj h

/-- k operations of the list at once. -/
theorem sP (l1 l2 : List Oper) (hl : l1 ++ l2 = rest) (hk : pureB P n ops l1 ρ = true) (h : OpsE P n ops l2 N (envP P n ops l1 ρ) w) : OpsE P n ops rest N ρ w := by
  subst hl
  induction l1 generalizing ρ with
  | nil => exact h
  | cons o l1 ih =>
    simp only [pureB, Bool.and_eq_true] at hk
    exact ops_steady hk.1.1 (steadyP hk.1.2) (ih hk.2 h)

theorem sp (k : Nat) (hk : pureB P n ops (rest.take k) ρ = true) (h : OpsE P n ops (rest.drop k) N (envP P n ops (rest.take k) ρ) w) : OpsE P n ops rest N ρ w :=
  sP _ _ (List.take_append_drop k rest) hk h

/-- A schedule's next operations at once. -/
def sel (ops : Array Oper) (is : List Nat) : List Oper := is.map fun i => ops.getD i default
def listAll (is : List Nat) (listed : Array Bool) : Array Bool := is.foldl (fun l i => l.setIfInBounds i true) listed
theorem wP {E : List Nat} {L : Facts} {s : Sched} {listed : Array Bool} (is : List Nat) (hl : (is.all fun i => Nat.blt i ops.size) = true) (hk : pureB P n ops (sel ops is) ρ = true)
    (h : walkE P n ops E L N (flat s) (listAll is listed) (envP P n ops (sel ops is) ρ) w) : walkE P n ops E L N (flat ((true, is) :: s)) listed ρ w := by
  show walkE P n ops E L N (is.map (fun i => (true, i)) ++ flat s) listed ρ w
  induction is generalizing ρ listed with
  | nil => exact h
  | cons i is ih =>
    simp only [List.all_cons, Bool.and_eq_true] at hl
    simp only [sel, List.map_cons, pureB, Bool.and_eq_true] at hk
    have hi : i < ops.size := by simpa using hl.1
    refine ⟨ops.getD i default, _, by simp [Array.getD, hi], hk.1.1, steadyP hk.1.2, ih hl.2 hk.2 h⟩

theorem p1 {o0 : Oper} (hk : pureB P n ops [o0] ρ = true) (h : OpsE P n ops rest N (envP P n ops [o0] ρ) w) : OpsE P n ops (o0 :: rest) N ρ w := sP [o0] rest rfl hk h
theorem p2 {o0 o1 : Oper} (hk : pureB P n ops [o0, o1] ρ = true) (h : OpsE P n ops rest N (envP P n ops [o0, o1] ρ) w) : OpsE P n ops (o0 :: o1 :: rest) N ρ w := sP [o0, o1] rest rfl hk h
theorem p3 {o0 o1 o2 : Oper} (hk : pureB P n ops [o0, o1, o2] ρ = true) (h : OpsE P n ops rest N (envP P n ops [o0, o1, o2] ρ) w) : OpsE P n ops (o0 :: o1 :: o2 :: rest) N ρ w := sP [o0, o1, o2] rest rfl hk h
theorem p4 {o0 o1 o2 o3 : Oper} (hk : pureB P n ops [o0, o1, o2, o3] ρ = true) (h : OpsE P n ops rest N (envP P n ops [o0, o1, o2, o3] ρ) w) : OpsE P n ops (o0 :: o1 :: o2 :: o3 :: rest) N ρ w := sP [o0, o1, o2, o3] rest rfl hk h
theorem p5 {o0 o1 o2 o3 o4 : Oper} (hk : pureB P n ops [o0, o1, o2, o3, o4] ρ = true) (h : OpsE P n ops rest N (envP P n ops [o0, o1, o2, o3, o4] ρ) w) : OpsE P n ops (o0 :: o1 :: o2 :: o3 :: o4 :: rest) N ρ w := sP [o0, o1, o2, o3, o4] rest rfl hk h
theorem p6 {o0 o1 o2 o3 o4 o5 : Oper} (hk : pureB P n ops [o0, o1, o2, o3, o4, o5] ρ = true) (h : OpsE P n ops rest N (envP P n ops [o0, o1, o2, o3, o4, o5] ρ) w) : OpsE P n ops (o0 :: o1 :: o2 :: o3 :: o4 :: o5 :: rest) N ρ w := sP [o0, o1, o2, o3, o4, o5] rest rfl hk h
theorem p7 {o0 o1 o2 o3 o4 o5 o6 : Oper} (hk : pureB P n ops [o0, o1, o2, o3, o4, o5, o6] ρ = true) (h : OpsE P n ops rest N (envP P n ops [o0, o1, o2, o3, o4, o5, o6] ρ) w) : OpsE P n ops (o0 :: o1 :: o2 :: o3 :: o4 :: o5 :: o6 :: rest) N ρ w := sP [o0, o1, o2, o3, o4, o5, o6] rest rfl hk h
theorem p8 {o0 o1 o2 o3 o4 o5 o6 o7 : Oper} (hk : pureB P n ops [o0, o1, o2, o3, o4, o5, o6, o7] ρ = true) (h : OpsE P n ops rest N (envP P n ops [o0, o1, o2, o3, o4, o5, o6, o7] ρ) w) : OpsE P n ops (o0 :: o1 :: o2 :: o3 :: o4 :: o5 :: o6 :: o7 :: rest) N ρ w := sP [o0, o1, o2, o3, o4, o5, o6, o7] rest rfl hk h
theorem p9 {o0 o1 o2 o3 o4 o5 o6 o7 o8 : Oper} (hk : pureB P n ops [o0, o1, o2, o3, o4, o5, o6, o7, o8] ρ = true) (h : OpsE P n ops rest N (envP P n ops [o0, o1, o2, o3, o4, o5, o6, o7, o8] ρ) w) : OpsE P n ops (o0 :: o1 :: o2 :: o3 :: o4 :: o5 :: o6 :: o7 :: o8 :: rest) N ρ w := sP [o0, o1, o2, o3, o4, o5, o6, o7, o8] rest rfl hk h
theorem p10 {o0 o1 o2 o3 o4 o5 o6 o7 o8 o9 : Oper} (hk : pureB P n ops [o0, o1, o2, o3, o4, o5, o6, o7, o8, o9] ρ = true) (h : OpsE P n ops rest N (envP P n ops [o0, o1, o2, o3, o4, o5, o6, o7, o8, o9] ρ) w) : OpsE P n ops (o0 :: o1 :: o2 :: o3 :: o4 :: o5 :: o6 :: o7 :: o8 :: o9 :: rest) N ρ w := sP [o0, o1, o2, o3, o4, o5, o6, o7, o8, o9] rest rfl hk h
theorem p11 {o0 o1 o2 o3 o4 o5 o6 o7 o8 o9 o10 : Oper} (hk : pureB P n ops [o0, o1, o2, o3, o4, o5, o6, o7, o8, o9, o10] ρ = true) (h : OpsE P n ops rest N (envP P n ops [o0, o1, o2, o3, o4, o5, o6, o7, o8, o9, o10] ρ) w) : OpsE P n ops (o0 :: o1 :: o2 :: o3 :: o4 :: o5 :: o6 :: o7 :: o8 :: o9 :: o10 :: rest) N ρ w := sP [o0, o1, o2, o3, o4, o5, o6, o7, o8, o9, o10] rest rfl hk h
theorem p12 {o0 o1 o2 o3 o4 o5 o6 o7 o8 o9 o10 o11 : Oper} (hk : pureB P n ops [o0, o1, o2, o3, o4, o5, o6, o7, o8, o9, o10, o11] ρ = true) (h : OpsE P n ops rest N (envP P n ops [o0, o1, o2, o3, o4, o5, o6, o7, o8, o9, o10, o11] ρ) w) : OpsE P n ops (o0 :: o1 :: o2 :: o3 :: o4 :: o5 :: o6 :: o7 :: o8 :: o9 :: o10 :: o11 :: rest) N ρ w := sP [o0, o1, o2, o3, o4, o5, o6, o7, o8, o9, o10, o11] rest rfl hk h
theorem p13 {o0 o1 o2 o3 o4 o5 o6 o7 o8 o9 o10 o11 o12 : Oper} (hk : pureB P n ops [o0, o1, o2, o3, o4, o5, o6, o7, o8, o9, o10, o11, o12] ρ = true) (h : OpsE P n ops rest N (envP P n ops [o0, o1, o2, o3, o4, o5, o6, o7, o8, o9, o10, o11, o12] ρ) w) : OpsE P n ops (o0 :: o1 :: o2 :: o3 :: o4 :: o5 :: o6 :: o7 :: o8 :: o9 :: o10 :: o11 :: o12 :: rest) N ρ w := sP [o0, o1, o2, o3, o4, o5, o6, o7, o8, o9, o10, o11, o12] rest rfl hk h
theorem p14 {o0 o1 o2 o3 o4 o5 o6 o7 o8 o9 o10 o11 o12 o13 : Oper} (hk : pureB P n ops [o0, o1, o2, o3, o4, o5, o6, o7, o8, o9, o10, o11, o12, o13] ρ = true) (h : OpsE P n ops rest N (envP P n ops [o0, o1, o2, o3, o4, o5, o6, o7, o8, o9, o10, o11, o12, o13] ρ) w) : OpsE P n ops (o0 :: o1 :: o2 :: o3 :: o4 :: o5 :: o6 :: o7 :: o8 :: o9 :: o10 :: o11 :: o12 :: o13 :: rest) N ρ w := sP [o0, o1, o2, o3, o4, o5, o6, o7, o8, o9, o10, o11, o12, o13] rest rfl hk h
theorem p15 {o0 o1 o2 o3 o4 o5 o6 o7 o8 o9 o10 o11 o12 o13 o14 : Oper} (hk : pureB P n ops [o0, o1, o2, o3, o4, o5, o6, o7, o8, o9, o10, o11, o12, o13, o14] ρ = true) (h : OpsE P n ops rest N (envP P n ops [o0, o1, o2, o3, o4, o5, o6, o7, o8, o9, o10, o11, o12, o13, o14] ρ) w) : OpsE P n ops (o0 :: o1 :: o2 :: o3 :: o4 :: o5 :: o6 :: o7 :: o8 :: o9 :: o10 :: o11 :: o12 :: o13 :: o14 :: rest) N ρ w := sP [o0, o1, o2, o3, o4, o5, o6, o7, o8, o9, o10, o11, o12, o13, o14] rest rfl hk h
theorem p16 {o0 o1 o2 o3 o4 o5 o6 o7 o8 o9 o10 o11 o12 o13 o14 o15 : Oper} (hk : pureB P n ops [o0, o1, o2, o3, o4, o5, o6, o7, o8, o9, o10, o11, o12, o13, o14, o15] ρ = true) (h : OpsE P n ops rest N (envP P n ops [o0, o1, o2, o3, o4, o5, o6, o7, o8, o9, o10, o11, o12, o13, o14, o15] ρ) w) : OpsE P n ops (o0 :: o1 :: o2 :: o3 :: o4 :: o5 :: o6 :: o7 :: o8 :: o9 :: o10 :: o11 :: o12 :: o13 :: o14 :: o15 :: rest) N ρ w := sP [o0, o1, o2, o3, o4, o5, o6, o7, o8, o9, o10, o11, o12, o13, o14, o15] rest rfl hk h
theorem pu1 {o0 : Oper} (h : OpsE P n ops rest N (envP P n ops [o0] ρ) w) (hk : pureB P n ops [o0] ρ = true := by kernel_rfl) : OpsE P n ops (o0 :: rest) N ρ w := sP [o0] rest rfl hk h
theorem pu2 {o0 o1 : Oper} (h : OpsE P n ops rest N (envP P n ops [o0, o1] ρ) w) (hk : pureB P n ops [o0, o1] ρ = true := by kernel_rfl) : OpsE P n ops (o0 :: o1 :: rest) N ρ w := sP [o0, o1] rest rfl hk h
theorem pu3 {o0 o1 o2 : Oper} (h : OpsE P n ops rest N (envP P n ops [o0, o1, o2] ρ) w) (hk : pureB P n ops [o0, o1, o2] ρ = true := by kernel_rfl) : OpsE P n ops (o0 :: o1 :: o2 :: rest) N ρ w := sP [o0, o1, o2] rest rfl hk h
theorem pu4 {o0 o1 o2 o3 : Oper} (h : OpsE P n ops rest N (envP P n ops [o0, o1, o2, o3] ρ) w) (hk : pureB P n ops [o0, o1, o2, o3] ρ = true := by kernel_rfl) : OpsE P n ops (o0 :: o1 :: o2 :: o3 :: rest) N ρ w := sP [o0, o1, o2, o3] rest rfl hk h
theorem pu5 {o0 o1 o2 o3 o4 : Oper} (h : OpsE P n ops rest N (envP P n ops [o0, o1, o2, o3, o4] ρ) w) (hk : pureB P n ops [o0, o1, o2, o3, o4] ρ = true := by kernel_rfl) : OpsE P n ops (o0 :: o1 :: o2 :: o3 :: o4 :: rest) N ρ w := sP [o0, o1, o2, o3, o4] rest rfl hk h
theorem pu6 {o0 o1 o2 o3 o4 o5 : Oper} (h : OpsE P n ops rest N (envP P n ops [o0, o1, o2, o3, o4, o5] ρ) w) (hk : pureB P n ops [o0, o1, o2, o3, o4, o5] ρ = true := by kernel_rfl) : OpsE P n ops (o0 :: o1 :: o2 :: o3 :: o4 :: o5 :: rest) N ρ w := sP [o0, o1, o2, o3, o4, o5] rest rfl hk h
theorem pu7 {o0 o1 o2 o3 o4 o5 o6 : Oper} (h : OpsE P n ops rest N (envP P n ops [o0, o1, o2, o3, o4, o5, o6] ρ) w) (hk : pureB P n ops [o0, o1, o2, o3, o4, o5, o6] ρ = true := by kernel_rfl) : OpsE P n ops (o0 :: o1 :: o2 :: o3 :: o4 :: o5 :: o6 :: rest) N ρ w := sP [o0, o1, o2, o3, o4, o5, o6] rest rfl hk h
theorem pu8 {o0 o1 o2 o3 o4 o5 o6 o7 : Oper} (h : OpsE P n ops rest N (envP P n ops [o0, o1, o2, o3, o4, o5, o6, o7] ρ) w) (hk : pureB P n ops [o0, o1, o2, o3, o4, o5, o6, o7] ρ = true := by kernel_rfl) : OpsE P n ops (o0 :: o1 :: o2 :: o3 :: o4 :: o5 :: o6 :: o7 :: rest) N ρ w := sP [o0, o1, o2, o3, o4, o5, o6, o7] rest rfl hk h
theorem pu9 {o0 o1 o2 o3 o4 o5 o6 o7 o8 : Oper} (h : OpsE P n ops rest N (envP P n ops [o0, o1, o2, o3, o4, o5, o6, o7, o8] ρ) w) (hk : pureB P n ops [o0, o1, o2, o3, o4, o5, o6, o7, o8] ρ = true := by kernel_rfl) : OpsE P n ops (o0 :: o1 :: o2 :: o3 :: o4 :: o5 :: o6 :: o7 :: o8 :: rest) N ρ w := sP [o0, o1, o2, o3, o4, o5, o6, o7, o8] rest rfl hk h
theorem pu10 {o0 o1 o2 o3 o4 o5 o6 o7 o8 o9 : Oper} (h : OpsE P n ops rest N (envP P n ops [o0, o1, o2, o3, o4, o5, o6, o7, o8, o9] ρ) w) (hk : pureB P n ops [o0, o1, o2, o3, o4, o5, o6, o7, o8, o9] ρ = true := by kernel_rfl) : OpsE P n ops (o0 :: o1 :: o2 :: o3 :: o4 :: o5 :: o6 :: o7 :: o8 :: o9 :: rest) N ρ w := sP [o0, o1, o2, o3, o4, o5, o6, o7, o8, o9] rest rfl hk h
theorem pu11 {o0 o1 o2 o3 o4 o5 o6 o7 o8 o9 o10 : Oper} (h : OpsE P n ops rest N (envP P n ops [o0, o1, o2, o3, o4, o5, o6, o7, o8, o9, o10] ρ) w) (hk : pureB P n ops [o0, o1, o2, o3, o4, o5, o6, o7, o8, o9, o10] ρ = true := by kernel_rfl) : OpsE P n ops (o0 :: o1 :: o2 :: o3 :: o4 :: o5 :: o6 :: o7 :: o8 :: o9 :: o10 :: rest) N ρ w := sP [o0, o1, o2, o3, o4, o5, o6, o7, o8, o9, o10] rest rfl hk h
theorem pu12 {o0 o1 o2 o3 o4 o5 o6 o7 o8 o9 o10 o11 : Oper} (h : OpsE P n ops rest N (envP P n ops [o0, o1, o2, o3, o4, o5, o6, o7, o8, o9, o10, o11] ρ) w) (hk : pureB P n ops [o0, o1, o2, o3, o4, o5, o6, o7, o8, o9, o10, o11] ρ = true := by kernel_rfl) : OpsE P n ops (o0 :: o1 :: o2 :: o3 :: o4 :: o5 :: o6 :: o7 :: o8 :: o9 :: o10 :: o11 :: rest) N ρ w := sP [o0, o1, o2, o3, o4, o5, o6, o7, o8, o9, o10, o11] rest rfl hk h
theorem pu13 {o0 o1 o2 o3 o4 o5 o6 o7 o8 o9 o10 o11 o12 : Oper} (h : OpsE P n ops rest N (envP P n ops [o0, o1, o2, o3, o4, o5, o6, o7, o8, o9, o10, o11, o12] ρ) w) (hk : pureB P n ops [o0, o1, o2, o3, o4, o5, o6, o7, o8, o9, o10, o11, o12] ρ = true := by kernel_rfl) : OpsE P n ops (o0 :: o1 :: o2 :: o3 :: o4 :: o5 :: o6 :: o7 :: o8 :: o9 :: o10 :: o11 :: o12 :: rest) N ρ w := sP [o0, o1, o2, o3, o4, o5, o6, o7, o8, o9, o10, o11, o12] rest rfl hk h
theorem pu14 {o0 o1 o2 o3 o4 o5 o6 o7 o8 o9 o10 o11 o12 o13 : Oper} (h : OpsE P n ops rest N (envP P n ops [o0, o1, o2, o3, o4, o5, o6, o7, o8, o9, o10, o11, o12, o13] ρ) w) (hk : pureB P n ops [o0, o1, o2, o3, o4, o5, o6, o7, o8, o9, o10, o11, o12, o13] ρ = true := by kernel_rfl) : OpsE P n ops (o0 :: o1 :: o2 :: o3 :: o4 :: o5 :: o6 :: o7 :: o8 :: o9 :: o10 :: o11 :: o12 :: o13 :: rest) N ρ w := sP [o0, o1, o2, o3, o4, o5, o6, o7, o8, o9, o10, o11, o12, o13] rest rfl hk h
theorem pu15 {o0 o1 o2 o3 o4 o5 o6 o7 o8 o9 o10 o11 o12 o13 o14 : Oper} (h : OpsE P n ops rest N (envP P n ops [o0, o1, o2, o3, o4, o5, o6, o7, o8, o9, o10, o11, o12, o13, o14] ρ) w) (hk : pureB P n ops [o0, o1, o2, o3, o4, o5, o6, o7, o8, o9, o10, o11, o12, o13, o14] ρ = true := by kernel_rfl) : OpsE P n ops (o0 :: o1 :: o2 :: o3 :: o4 :: o5 :: o6 :: o7 :: o8 :: o9 :: o10 :: o11 :: o12 :: o13 :: o14 :: rest) N ρ w := sP [o0, o1, o2, o3, o4, o5, o6, o7, o8, o9, o10, o11, o12, o13, o14] rest rfl hk h
theorem pu16 {o0 o1 o2 o3 o4 o5 o6 o7 o8 o9 o10 o11 o12 o13 o14 o15 : Oper} (h : OpsE P n ops rest N (envP P n ops [o0, o1, o2, o3, o4, o5, o6, o7, o8, o9, o10, o11, o12, o13, o14, o15] ρ) w) (hk : pureB P n ops [o0, o1, o2, o3, o4, o5, o6, o7, o8, o9, o10, o11, o12, o13, o14, o15] ρ = true := by kernel_rfl) : OpsE P n ops (o0 :: o1 :: o2 :: o3 :: o4 :: o5 :: o6 :: o7 :: o8 :: o9 :: o10 :: o11 :: o12 :: o13 :: o14 :: o15 :: rest) N ρ w := sP [o0, o1, o2, o3, o4, o5, o6, o7, o8, o9, o10, o11, o12, o13, o14, o15] rest rfl hk h
theorem wU {E : List Nat} {L : Facts} {s : Sched} {listed : Array Bool} (is : List Nat) (h : walkE P n ops E L N (flat s) (listAll is listed) (envP P n ops (sel ops is) ρ) w) (hl : (is.all fun i => Nat.blt i ops.size) = true := by rfl) (hk : pureB P n ops (sel ops is) ρ = true := by kernel_rfl) : walkE P n ops E L N (flat ((true, is) :: s)) listed ρ w := wP is hl hk h
end
end Go.E
