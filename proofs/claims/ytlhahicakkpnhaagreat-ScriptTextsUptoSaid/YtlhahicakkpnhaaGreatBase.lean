/-
  A walk over named slots: environments in place of frames, and the heap as a list of known pieces. For any program.
-/
import Derived.WalkKit
import Derived.Deep.Quiet
import Derived.KernelRfl
namespace Go.E

/-- What the slots hold. -/
abbrev Env := Nat → Value
def upd (ρ : Env) (d : Nat) (v : Value) : Env := fun t => bif Nat.beq t d then v else ρ t
def put (ρ : Env) : Option Tmp → Value → Env
  | some d, v => upd ρ d v
  | none, _ => ρ
def upds (ρ : Env) : List (Nat × Value) → Env
  | [] => ρ
  | (d, v) :: us => upds (upd ρ d v) us
def ev (ρ : Env) : Operand → Value
  | .tmp t => ρ t
  | .const v => v
  | .global g => .pointer (some ⟨g, 0, none⟩)
  | .func f => .func (.func f) #[] #[]
def rho0 (args : Array Value) : Env := fun t => args.getD t undef

structure Rep (n : Nat) (ρ : Env) (a : Act) : Prop where
  size : a.tmps.size = n
  dfr : a.defers = []
  val : ∀ t, a.tmps.getD t undef = ρ t

theorem Rep.eval {n : Nat} {ρ : Env} {a : Act} (h : Rep n ρ a) : a.eval = ev ρ := funext fun x => by cases x <;> simp [Act.eval, ev, h.val]

def dstOK (n : Nat) : Option Tmp → Bool
  | none => true
  | some d => Nat.blt d n

theorem Rep.put {n : Nat} {ρ : Env} {a : Act} (h : Rep n ρ a) {d : Option Tmp} (hd : dstOK n d = true) (v : Value) : Rep n (put ρ d v) (a.put d v) := by
  cases d with
  | none => exact h
  | some d =>
    have hd' : d < n := by simpa [dstOK] using hd
    refine ⟨by simp [Act.put, h.size], by simp [Act.put, h.dfr], fun t => ?_⟩
    have hv := h.val t
    have hs := h.size
    simp only [Act.put, E.put, upd, Bool.cond_eq_ite]
    by_cases htd : t = d
    · subst htd
      simp [hs, hd']
    · have : Nat.beq t d = false := by cases hb : Nat.beq t d with | false => rfl | true => exact absurd (Nat.eq_of_beq_eq_true hb) htd
      rw [if_neg (by simp [this]), ← hv]
      simp only [Array.getD_eq_getD_getElem?, Array.getElem?_setIfInBounds]
      rw [if_neg (fun e => htd e.symm)]

def lift (n : Nat) (K : Exit → Env → World → Prop) : Exit → Act → World → Prop := fun e a w => ∃ ρ, Rep n ρ a ∧ K e ρ w

def CodeE (P : Program) (n : Nat) (c : Code) (K : Exit → Env → World → Prop) (ρ : Env) (w : World) : Prop := ∀ a, Rep n ρ a → c.wp P (lift n K) a w

def OpsE (P : Program) (n : Nat) (ops : Array Oper) (l : List Oper) (K : Env → World → Prop) (ρ : Env) (w : World) : Prop :=
  ∀ a, Rep n ρ a → ∀ Q : Exit → Act → World → Prop, (∀ ρ a w, Rep n ρ a → K ρ w → Q .normal a w) → wpList P ops Q l a w

def thenK (N : Env → World → Prop) (K : Exit → Env → World → Prop) : Exit → Env → World → Prop
  | .normal, ρ, w => N ρ w
  | e, ρ, w => K e ρ w
def blockK (id : Nat) (K : Exit → Env → World → Prop) : Exit → Env → World → Prop
  | .exit id', ρ, w => if id' = id then K .normal ρ w else K (.exit id') ρ w
  | e, ρ, w => K e ρ w

section
variable {P : Program} {n : Nat} {K : Exit → Env → World → Prop} {ρ : Env} {w : World}

theorem CodeE.mono {c : Code} {K' : Exit → Env → World → Prop} (h : CodeE P n c K ρ w) (hk : ∀ e ρ w, K e ρ w → K' e ρ w) : CodeE P n c K' ρ w :=
  fun a ha => wp_mono (h a ha) fun _ _ _ ⟨ρ', hr, hK⟩ => ⟨ρ', hr, hk _ _ _ hK⟩

theorem seqE {x y : Code} (h : CodeE P n x (thenK (CodeE P n y K) K) ρ w) : CodeE P n (.seq x y) K ρ w := by
  intro a ha
  refine wp_seq (wp_mono (h a ha) fun e a' w' hq => ?_)
  obtain ⟨ρ', hr, hK⟩ := hq
  cases e with
  | normal => exact hK a' hr
  | exit id => exact ⟨ρ', hr, hK⟩
  | goto l => exact ⟨ρ', hr, hK⟩
  | ret => exact ⟨ρ', hr, hK⟩
  | panic c => exact ⟨ρ', hr, hK⟩
  | outgrown => exact ⟨ρ', hr, hK⟩

/-- The code behind is walked once, from whatever 'I' leaves. -/
theorem cutE {x y : Code} (I : Env → World → Prop) (h : CodeE P n x (thenK I K) ρ w) (h2 : ∀ ρ w, I ρ w → CodeE P n y K ρ w) : CodeE P n (.seq x y) K ρ w :=
  seqE (h.mono fun e ρ w hk => by
    cases e with
    | normal => exact h2 _ _ hk
    | exit id => exact hk
    | goto l => exact hk
    | ret => exact hk
    | panic c => exact hk
    | outgrown => exact hk)

theorem skipE (h : K .normal ρ w) : CodeE P n .skip K ρ w := fun _ ha => wp_skip ⟨ρ, ha, h⟩
theorem exitE {id : Nat} (h : K (.exit id) ρ w) : CodeE P n (.exit id) K ρ w := fun _ ha => wp_exit ⟨ρ, ha, h⟩
theorem retE (h : K .ret ρ w) : CodeE P n .ret K ρ w := fun _ ha => wp_ret ⟨ρ, ha, h⟩

theorem condE {c : Operand} {x y : Code} {b : Bool} (hc : ev ρ c = .bool b) (ht : b = true → CodeE P n x K ρ w) (hf : b = false → CodeE P n y K ρ w) :
    CodeE P n (.cond c x y) K ρ w := fun a ha => wp_cond_split (by rw [ha.eval]; exact hc) (fun h => ht h a ha) (fun h => hf h a ha)
theorem condE_true {c : Operand} {x y : Code} (hc : ev ρ c = .bool true) (h : CodeE P n x K ρ w) : CodeE P n (.cond c x y) K ρ w :=
  fun a ha => wp_cond_true (by rw [ha.eval]; exact hc) (h a ha)
theorem condE_false {c : Operand} {x y : Code} (hc : ev ρ c = .bool false) (h : CodeE P n y K ρ w) : CodeE P n (.cond c x y) K ρ w :=
  fun a ha => wp_cond_false (by rw [ha.eval]; exact hc) (h a ha)

theorem blockE {id : Nat} {c : Code} (h : CodeE P n c (blockK id K) ρ w) : CodeE P n (.block id c) K ρ w := by
  intro a ha
  refine wp_block (wp_mono (h a ha) fun e a' w' hq => ?_)
  obtain ⟨ρ', hr, hK⟩ := hq
  cases e with
  | normal => exact ⟨ρ', hr, hK⟩
  | exit id' =>
    simp only [blockK] at hK
    simp only [Exit.inBlock]
    split
    · rename_i h; rw [if_pos h] at hK; exact ⟨ρ', hr, hK⟩
    · rename_i h; rw [if_neg h] at hK; exact ⟨ρ', hr, hK⟩
  | goto l => exact ⟨ρ', hr, hK⟩
  | ret => exact ⟨ρ', hr, hK⟩
  | panic c => exact ⟨ρ', hr, hK⟩
  | outgrown => exact ⟨ρ', hr, hK⟩

/-- A loop, its invariant over ghosts of any type. -/
theorem loopE {c : Code} {γ : Type} (I : γ → Env → World → Prop) (μ : γ → Nat) (g0 : γ) (h0 : I g0 ρ w)
    (h : ∀ g ρ w, I g ρ w → CodeE P n c (thenK (fun ρ' w' => ∃ g', μ g' < μ g ∧ I g' ρ' w') K) ρ w) : CodeE P n (.loop c) K ρ w := by
  classical
  intro a ha
  let J : Nat → Act → World → Prop := fun m a w => ∃ g ρ, μ g = m ∧ Rep n ρ a ∧ I g ρ w
  let least : Act → World → Nat := fun a w => if hx : ∃ m, J m a w then Classical.choose (show ∃ m, J m a w ∧ ∀ k, J k a w → m ≤ k from by
    obtain ⟨m, hm⟩ := hx
    induction m using Nat.strongRecOn with
    | _ m ih =>
      by_cases hy : ∃ k, k < m ∧ J k a w
      · obtain ⟨k, hk, hj⟩ := hy; exact ih k hk hj
      · exact ⟨m, hm, fun k hk => Nat.le_of_not_lt fun hlt => hy ⟨k, hlt, hk⟩⟩) else 0
  have hleast : ∀ a w, (∃ m, J m a w) → J (least a w) a w ∧ ∀ k, J k a w → least a w ≤ k := by
    intro a w hx
    simp only [least, dif_pos hx]
    exact Classical.choose_spec (p := fun m => J m a w ∧ ∀ k, J k a w → m ≤ k) _
  refine wp_loop (fun a w => ∃ m, J m a w) least ⟨_, g0, ρ, rfl, ha, h0⟩ fun a w hx => ?_
  obtain ⟨⟨g, ρ', hm, hr, hI⟩, _⟩ := hleast a w hx
  refine wp_mono (h g ρ' w hI a hr) fun e a' w' hq => ?_
  obtain ⟨ρ'', hr', hK⟩ := hq
  cases e with
  | normal =>
    obtain ⟨g', hlt, hI'⟩ := hK
    have hj : J (μ g') a' w' := ⟨g', ρ'', rfl, hr', hI'⟩
    exact ⟨⟨_, hj⟩, Nat.lt_of_le_of_lt ((hleast a' w' ⟨_, hj⟩).2 _ hj) (hm ▸ hlt)⟩
  | exit id => exact ⟨ρ'', hr', hK⟩
  | goto l => exact ⟨ρ'', hr', hK⟩
  | ret => exact ⟨ρ'', hr', hK⟩
  | panic c => exact ⟨ρ'', hr', hK⟩
  | outgrown => exact ⟨ρ'', hr', hK⟩

def roundsE (P : Program) (n : Nat) (c : Code) (K : Exit → Env → World → Prop) : Nat → Env → World → Prop
  | 0, _, _ => False
  | m + 1, ρ, w => CodeE P n c (thenK (roundsE P n c K m) K) ρ w
theorem roundS {c : Code} {m : Nat} (h : CodeE P n c (thenK (roundsE P n c K m) K) ρ w) : roundsE P n c K (m + 1) ρ w := h
/-- A loop of at most m rounds, walked round by round. -/
theorem loopN {c : Code} (m : Nat) (h : roundsE P n c K m ρ w) : CodeE P n (.loop c) K ρ w := by
  have key : ∀ m ρ w, roundsE P n c K m ρ w → ∀ a, Rep n ρ a → Code.rounds P c (lift n K) m a w := by
    intro m
    induction m with
    | zero => intro ρ w h a _; exact h.elim
    | succ m ih =>
      intro ρ w h a ha
      refine wp_mono (h a ha) fun e a' w' hq => ?_
      obtain ⟨ρ', hr, hK⟩ := hq
      cases e with
      | normal => exact ih _ _ hK a' hr
      | exit id => exact ⟨ρ', hr, hK⟩
      | goto l => exact ⟨ρ', hr, hK⟩
      | ret => exact ⟨ρ', hr, hK⟩
      | panic c => exact ⟨ρ', hr, hK⟩
      | outgrown => exact ⟨ρ', hr, hK⟩
  exact fun a ha => wp_loop_rounds m (key m ρ w h a ha)

theorem regionE {id : Nat} {l : List Oper} (h : OpsE P n l.toArray l (K .normal) ρ w) : CodeE P n (.region id l.toArray false) K ρ w :=
  fun a ha => wp_region_lit (h a ha _ fun ρ _ _ hr hk => ⟨ρ, hr, hk⟩)

theorem thenK_n {N : Env → World → Prop} (h : N ρ w) : thenK N K .normal ρ w := h
theorem thenK_r {N : Env → World → Prop} (h : K .ret ρ w) : thenK N K .ret ρ w := h
theorem thenK_x {N : Env → World → Prop} {id : Nat} (h : K (.exit id) ρ w) : thenK N K (.exit id) ρ w := h
theorem blockK_n {id : Nat} (h : K .normal ρ w) : blockK id K .normal ρ w := h
theorem blockK_r {id : Nat} (h : K .ret ρ w) : blockK id K .ret ρ w := h
theorem blockK_x {id : Nat} (h : K .normal ρ w) : blockK id K (.exit id) ρ w := by simp only [blockK, if_true]; exact h
theorem blockK_y {id id' : Nat} (hn : Nat.beq id' id = false) (h : K (.exit id') ρ w) : blockK id K (.exit id') ρ w := by
  have : ¬ id' = id := fun e => by simp [e] at hn
  simp only [blockK, if_neg this]; exact h

/-! ### a call's ends -/
inductive Res1 (P : Program) (ρ : Env) (w : World) : ResultVar → Value → Prop
  | tmp (t : Tmp) (v : Value) (h : ρ t = v) : Res1 P ρ w (.tmp t) v
  | cell (t : Tmp) (ty : TypeId) (a : Addr) (v : Value) (h : ρ t = .pointer (some a)) (hv : (loadVar ty a).run P w = .ok v w) : Res1 P ρ w (.cell t ty) v
inductive ResN (P : Program) (ρ : Env) (w : World) : List ResultVar → List Value → Prop
  | nil : ResN P ρ w [] []
  | cons {r : ResultVar} {v : Value} {rs : List ResultVar} {vs : List Value} (h : Res1 P ρ w r v) (t : ResN P ρ w rs vs) : ResN P ρ w (r :: rs) (v :: vs)

def packed : List Value → Value
  | [v] => v
  | vs => .tuple vs.toArray

theorem packed_eq (vs : List Value) : (if h : vs.toArray.size = 1 then vs.toArray[0] else .tuple vs.toArray) = packed vs := by
  match vs with
  | [] => rfl
  | [v] => rfl
  | a :: b :: t => simp [packed]

def retK (P : Program) (fn : Func) (R : Ending → World → Prop) : Exit → Env → World → Prop
  | .ret, ρ, w | .normal, ρ, w => ∃ vs, ResN P ρ w fn.results.toList vs ∧ R (.returned (packed vs)) w
  | _, _, _ => False

def resG (ρ : Env) : ResultVar → Sem Value
  | .tmp t => pure (ρ t)
  | .cell a t => do loadVar t (← asAddr (ρ a))

theorem asAddr_ptr (a : Addr) : asAddr (.pointer (some a)) = pure a := rfl

theorem results_run {fn : Func} {tmps : Array Value} {vs : List Value} (hv : ∀ t, tmps.getD t undef = ρ t) (h : ResN P ρ w fn.results.toList vs) :
    (results fn tmps).run P w = .ok (packed vs) w := by
  have key : ∀ (rs : List ResultVar) (vs : List Value), ResN P ρ w rs vs → (rs.mapM (resG ρ)).run P w = .ok vs w := by
    intro rs vs h
    induction h with
    | nil => simp
    | cons h1 _ ih =>
      cases h1 with
      | tmp t v h => simp [List.mapM_cons, resG, h, ih]
      | cell t ty a v h hl => simp [List.mapM_cons, resG, h, asAddr_ptr, hl, ih]
  have hk := key _ _ h
  have e : fn.results = fn.results.toList.toArray := by simp
  have e2 : results fn tmps = (do let vs ← fn.results.mapM (resG ρ); pure (if h : vs.size = 1 then vs[0] else .tuple vs)) := by
    unfold results
    congr 2
    funext r
    cases r with
    | tmp t => simp [resG, hv]
    | cell t ty => simp only [resG, hv]
  rw [e2, e, List.mapM_toArray]
  simp only [Sem.run_bind, Sem.run_map, hk] 
  simpa using packed_eq vs

theorem callsE {f : FuncId} {fn : Func} {c : Code} {args : Array Value} {R : Ending → World → Prop} (hf : P.funcs[f]? = some fn) (hb : fn.body = some c) (hn : fn.ntmps = n)
    (hs : args.size ≤ n) (h : CodeE P n c (retK P fn R) (rho0 args) w) : Calls P f args w R := by
  refine calls_of_wp hf hb ?_
  have hrep : Rep n (rho0 args) { tmps := args ++ Array.replicate (fn.ntmps - args.size) undef, defers := [] } := by
    refine ⟨by simp [hn]; omega, rfl, fun t => ?_⟩
    simp only [rho0, Array.getD_eq_getD_getElem?, Array.getElem?_append]
    by_cases ht : t < args.size
    · simp [ht]
    · simp only [ht, if_false, Array.getElem?_replicate]
      split <;> simp [ht]
  refine wp_mono (h _ hrep) fun e a' w' hq => ?_
  obtain ⟨ρ', hr, hK⟩ := hq
  cases e with
  | normal => obtain ⟨vs, h1, h2⟩ := hK; exact ⟨hr.dfr, _, results_run hr.val h1, h2⟩
  | ret => obtain ⟨vs, h1, h2⟩ := hK; exact ⟨hr.dfr, _, results_run hr.val h1, h2⟩
  | exit id => exact hK.elim
  | goto l => exact hK.elim
  | panic c => exact hK.elim
  | outgrown => exact hK.elim

theorem ret0 {fn : Func} {R : Ending → World → Prop} (hr : fn.results = #[]) (h : R (.returned (.tuple #[])) w) : retK P fn R .ret ρ w := ⟨[], by rw [hr]; exact .nil, h⟩
theorem ret0n {fn : Func} {R : Ending → World → Prop} (hr : fn.results = #[]) (h : R (.returned (.tuple #[])) w) : retK P fn R .normal ρ w := ⟨[], by rw [hr]; exact .nil, h⟩
theorem retN {fn : Func} {R : Ending → World → Prop} {rs : List ResultVar} {vs : List Value} (hr : fn.results = rs.toArray) (hv : ResN P ρ w rs vs) (h : R (.returned (packed vs)) w) :
    retK P fn R .ret ρ w := ⟨vs, by rw [hr]; exact hv, h⟩

/-! ### operations -/
variable {ops : Array Oper} {rest : List Oper} {N : Env → World → Prop}

def Yields (P : Program) (ρ : Env) (o : Oper) (v : Value) (w : World) : Prop := (execOp (ev ρ) o).run P w = .ok (.value v) w

theorem nilO (h : N ρ w) : OpsE P n ops [] N ρ w := fun _ ha _ hq => hq _ _ _ ha h

theorem stepRun {o : Oper} {v : Value} {w' : World} (hg : o.guard = none) (hd : dstOK n o.dst = true) (hy : (execOp (ev ρ) o).run P w = .ok (.value v) w')
    (h : OpsE P n ops rest N (put ρ o.dst v) w') : OpsE P n ops (o :: rest) N ρ w := by
  intro a ha Q hq
  unfold wpList
  rw [if_pos (by simp [Region.wanted, hg])]
  refine .inl ?_
  unfold Oper.wp
  rw [ha.eval, hy]
  exact h _ (ha.put hd v) Q hq

theorem stepY {o : Oper} (v : Value) (hg : o.guard = none) (hd : dstOK n o.dst = true) (hy : Yields P ρ o v w)
    (h : OpsE P n ops rest N (put ρ o.dst v) w) : OpsE P n ops (o :: rest) N ρ w := stepRun hg hd hy h

theorem stepSkip {o : Oper} {w' : World} (hg : o.guard = none) (hd : dstOK n o.dst = true) (hy : (execOp (ev ρ) o).run P w = .ok .skip w')
    (h : OpsE P n ops rest N (put ρ o.dst undef) w') : OpsE P n ops (o :: rest) N ρ w := by
  intro a ha Q hq
  unfold wpList
  rw [if_pos (by simp [Region.wanted, hg])]
  refine .inl ?_
  unfold Oper.wp
  rw [ha.eval, hy]
  exact h _ (ha.put hd _) Q hq

theorem stepCall {o : Oper} {f : FuncId} {args : Array Value} (hg : o.guard = none) (hd : dstOK n o.dst = true) (hy : (execOp (ev ρ) o).run P w = .ok (.enter f args) w)
    (h : Calls P f args w fun e w' => ∃ v, e = .returned v ∧ OpsE P n ops rest N (put ρ o.dst v) w') : OpsE P n ops (o :: rest) N ρ w := by
  intro a ha Q hq
  unfold wpList
  rw [if_pos (by simp [Region.wanted, hg])]
  refine .inl ?_
  unfold Oper.wp
  rw [ha.eval, hy]
  refine h.mono fun e w' ⟨v, he, hv⟩ => ?_
  subst he
  exact hv _ (ha.put hd v) Q hq

/-- What guard number j yields. -/
def yieldsAs (ops : Array Oper) (ρ : Env) (j : Nat) (n : Nat) (b : Bool) : Prop := ∃ d, (ops[j]?).bind (·.dst) = some d ∧ Nat.blt d n = true ∧ ρ d = .bool b

theorem yielded_of {a : Act} (ha : Rep n ρ a) {j : Nat} {b : Bool} (h : yieldsAs ops ρ j n b) : yielded ops a.tmps j = some b := by
  obtain ⟨d, h1, h2, h3⟩ := h
  have hd : d < a.tmps.size := by rw [ha.size]; simpa using h2
  have hv := ha.val d
  rw [h3] at hv
  have : a.tmps[d]? = some (.bool b) := by
    rw [Array.getD_eq_getD_getElem?] at hv
    rw [Array.getElem?_eq_getElem hd] at hv ⊢
    simpa using hv
  simp [yielded, h1, this]

/-- An operation whose guard says yes goes as one without. -/
theorem guardYes {o : Oper} {j : Nat} {b : Bool} (hg : o.guard = some (j, b)) (hy : yieldsAs ops ρ j n b) (h : OpsE P n ops ({ o with guard := none } :: rest) N ρ w) : OpsE P n ops (o :: rest) N ρ w := by
  intro a ha Q hq
  have h1 := h a ha Q hq
  have hyd := yielded_of ha hy
  unfold wpList at h1 ⊢
  rw [if_pos (by simp [Region.wanted])] at h1
  rw [if_pos (by simp [Region.wanted, hg, hyd])]
  rcases h1 with h1 | h1
  · exact .inl h1
  · exact .inr h1
/-- Guard number j does not say b: it says otherwise, or was passed over itself. -/
def noY (ops : Array Oper) (ρ : Env) (j : Nat) (n : Nat) (b : Bool) : Prop := ∃ d, (ops[j]?).bind (·.dst) = some d ∧ Nat.blt d n = true ∧ ((∃ c, ρ d = .bool c ∧ (c == b) = false) ∨ ∃ l, ρ d = .tuple l)
theorem not_yielded {a : Act} (ha : Rep n ρ a) {j : Nat} {b : Bool} (h : noY ops ρ j n b) : yielded ops a.tmps j ≠ some b := by
  obtain ⟨d, h1, h2, h3⟩ := h
  have hd : d < a.tmps.size := by rw [ha.size]; simpa using h2
  have hv := ha.val d
  have hq : a.tmps[d]? = some (ρ d) := by
    rw [Array.getD_eq_getD_getElem?] at hv
    rw [Array.getElem?_eq_getElem hd] at hv ⊢
    simpa using hv
  rcases h3 with ⟨c, h3, hc⟩ | ⟨l, h3⟩
  · rw [h3] at hq
    intro e
    simp [yielded, h1, hq] at e
    simp [e] at hc
  · rw [h3] at hq
    simp [yielded, h1, hq]
theorem guardNo {o : Oper} {j : Nat} {b : Bool} (hg : o.guard = some (j, b)) (hd : dstOK n o.dst = true) (hy : noY ops ρ j n b) (h : OpsE P n ops rest N (put ρ o.dst undef) w) :
    OpsE P n ops (o :: rest) N ρ w := by
  intro a ha Q hq
  have hyd := not_yielded ha hy
  unfold wpList
  rw [if_neg (by simp [Region.wanted, hg, hyd])]
  exact h _ (ha.put hd _) Q hq
end
end Go.E
