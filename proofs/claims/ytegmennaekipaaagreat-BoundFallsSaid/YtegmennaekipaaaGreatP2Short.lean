/-
  Short steps: branches, calls, loops, cuts; one line each. For any program.
-/
import Derived.Test.YtegmennaekipaaaGreatP2Pure
import Derived.Test.YtegmennaekipaaaGreatProg
namespace Go.E
set_option linter.unusedVariables false
section
variable {P : Program} {n : Nat} {ρ : Env} {W w : World} {cs : List Chunk} {ops : Array Oper} {rest : List Oper} {N : Env → World → Prop} {o : Oper} {K : Exit → Env → World → Prop} {x y : Code} {c : Operand}
theorem cIf {p : Prop} (t : Bool) (e : p ↔ t = true) (h1 : p → CodeE P n x K ρ w) (h2 : ¬p → CodeE P n y K ρ w) (hc : ev ρ c = .bool t) : CodeE P n (.cond c x y) K ρ w :=
  condE hc (fun h => h1 (e.2 h)) (fun h => h2 (fun hp => by rw [e.1 hp] at h; cases h))
theorem sIf {p : Prop} {d : Nat} (t : Bool) (e : p ↔ t = true) (h1 : p → OpsE P n ops rest N (upd ρ d (.bool true)) w) (h2 : ¬p → OpsE P n ops rest N (upd ρ d (.bool false)) w) (hd : ρ d = .bool t) : OpsE P n ops rest N ρ w := by
  cases t with
  | true => exact sFix d true true rfl (h1 (e.2 rfl)) hd
  | false => exact sFix d false false rfl (h2 (fun h => by have := e.1 h; cases this)) hd
theorem nIff {p : Prop} {t : Bool} (e : p ↔ t = true) : ¬p ↔ (!t) = true := by cases t <;> simp_all
theorem eIff {a b : Int} : a = b ↔ (a == b) = true := by simp
theorem bIff {t : Bool} : t = true ↔ t = true := Iff.rfl
theorem dIff {p : Prop} [Decidable p] : p ↔ decide p = true := by simp
theorem cD (p : Prop) [Decidable p] (h1 : p → CodeE P n x K ρ w) (h2 : ¬ p → CodeE P n y K ρ w) (hc : ev ρ c = .bool (decide p) := by kernel_rfl) : CodeE P n (.cond c x y) K ρ w := cIf _ dIff h1 h2 hc
theorem sD (d : Nat) (p : Prop) [Decidable p] (h1 : p → OpsE P n ops rest N (upd ρ d (.bool true)) w) (h2 : ¬ p → OpsE P n ops rest N (upd ρ d (.bool false)) w) (hd : ρ d = .bool (decide p) := by kernel_rfl) : OpsE P n ops rest N ρ w := sIf _ dIff h1 h2 hd
theorem cDn (p : Prop) [Decidable p] (h1 : p → CodeE P n y K ρ w) (h2 : ¬ p → CodeE P n x K ρ w) (hc : ev ρ c = .bool (!(decide p)) := by kernel_rfl) : CodeE P n (.cond c x y) K ρ w := cIf _ (nIff dIff) h2 (fun h => h1 (Classical.not_not.1 h)) hc
theorem cE (a b : Int) (h1 : a = b → CodeE P n x K ρ w) (h2 : ¬ (a = b) → CodeE P n y K ρ w) (hc : ev ρ c = .bool (a == b) := by kernel_rfl) : CodeE P n (.cond c x y) K ρ w := cIf _ eIff h1 h2 hc
theorem sE (d : Nat) (a b : Int) (h1 : a = b → OpsE P n ops rest N (upd ρ d (.bool true)) w) (h2 : ¬ (a = b) → OpsE P n ops rest N (upd ρ d (.bool false)) w) (hd : ρ d = .bool (a == b) := by kernel_rfl) : OpsE P n ops rest N ρ w := sIf _ eIff h1 h2 hd
theorem cEn (a b : Int) (h1 : a = b → CodeE P n y K ρ w) (h2 : ¬ (a = b) → CodeE P n x K ρ w) (hc : ev ρ c = .bool (!(a == b)) := by kernel_rfl) : CodeE P n (.cond c x y) K ρ w := cIf _ (nIff eIff) h2 (fun h => h1 (Classical.not_not.1 h)) hc
theorem sEn (d : Nat) (a b : Int) (h1 : a = b → OpsE P n ops rest N (upd ρ d (.bool false)) w) (h2 : ¬ (a = b) → OpsE P n ops rest N (upd ρ d (.bool true)) w) (hd : ρ d = .bool (!(a == b)) := by kernel_rfl) : OpsE P n ops rest N ρ w := sIf _ (nIff eIff) h2 (fun h => h1 (Classical.not_not.1 h)) hd
theorem cN (a b : Int) (h1 : a = b → CodeE P n y K ρ w) (h2 : ¬ (a = b) → CodeE P n x K ρ w) (hc : ev ρ c = .bool (a != b) := by kernel_rfl) : CodeE P n (.cond c x y) K ρ w := cEn a b h1 h2 hc
theorem sN (d : Nat) (a b : Int) (h1 : a = b → OpsE P n ops rest N (upd ρ d (.bool false)) w) (h2 : ¬ (a = b) → OpsE P n ops rest N (upd ρ d (.bool true)) w) (hd : ρ d = .bool (a != b) := by kernel_rfl) : OpsE P n ops rest N ρ w := sEn d a b h1 h2 hd
theorem cB (t : Bool) (h1 : t = true → CodeE P n x K ρ w) (h2 : ¬ (t = true) → CodeE P n y K ρ w) (hc : ev ρ c = .bool (t) := by kernel_rfl) : CodeE P n (.cond c x y) K ρ w := cIf _ bIff h1 h2 hc
theorem cBn (t : Bool) (h1 : t = true → CodeE P n y K ρ w) (h2 : ¬ (t = true) → CodeE P n x K ρ w) (hc : ev ρ c = .bool (!(t)) := by kernel_rfl) : CodeE P n (.cond c x y) K ρ w := cIf _ (nIff bIff) h2 (fun h => h1 (Classical.not_not.1 h)) hc
/-! ### calls -/
/-- What comes behind a call that ends so. -/
def onRet : Ending → (Value → Prop) → Prop
  | .returned v, k => k v
  | _, _ => False
theorem onRet.ex {e : Ending} {k : Value → Prop} (h : onRet e k) : ∃ v, e = .returned v ∧ k v := by
  cases e with
  | returned v => exact ⟨v, rfl, h⟩
  | panicked c => exact h.elim
  | outgrown => exact h.elim
/-- A function that only reads. -/
abbrev Ro (P : Program) (f : FuncId) (args : Array Value) (v : Value) (W w : World) (cs : List Chunk) : Prop := Calls P f args w fun e w' => e = .returned v ∧ Sat W w' cs
theorem cR {f : FuncId} {xs : Array Operand} {ats : Array TypeId} {args : Array Value} {v : Value} (hc : ∀ args w, (callFunc f args).run P w = .ok (.enter f args) w) (hq : Calls P f args w fun e w' => e = .returned v ∧ Sat W w' [cs.flatten])
    (h : ∀ w', Sat W w' cs → OpsE P n ops rest N (put ρ o.dst v) w')
    (ho : o.op = .call { callee := .value (.func f), args := xs, argTypes := ats } := by rfl) (hg : o.guard = none := by rfl) (hd : dstOK n o.dst = true := by rfl) (hargs : xs.map (ev ρ) = args := by kernel_rfl) : OpsE P n ops (o :: rest) N ρ w :=
  sF args hc (hq.mono fun e w' he => ⟨v, he.1, h w' (Sat.unflat he.2)⟩) ho hg hd hargs
theorem cX {f : FuncId} {xs : Array Operand} {ats : Array TypeId} {args : Array Value} {R : Ending → World → Prop} (hc : ∀ args w, (callFunc f args).run P w = .ok (.enter f args) w) (hq : Calls P f args w R)
    (h : ∀ e w', R e w' → onRet e fun v => OpsE P n ops rest N (put ρ o.dst v) w')
    (ho : o.op = .call { callee := .value (.func f), args := xs, argTypes := ats } := by rfl) (hg : o.guard = none := by rfl) (hd : dstOK n o.dst = true := by rfl) (hargs : xs.map (ev ρ) = args := by kernel_rfl) : OpsE P n ops (o :: rest) N ρ w :=
  sF args hc (hq.mono fun e w' he => (h e w' he).ex) ho hg hd hargs
/-! ### loops and cuts -/
theorem loopA {b : Code} {γ : Type} (sl : γ → List (Nat × Value)) (I : γ → World → Prop) (μ : γ → Nat) (g0 : γ) (h0 : I g0 w)
    (h : ∀ g ρ w, I g w → CodeE P n b (thenK (fun ρ' w' => ∃ g', μ g' < μ g ∧ AllAt ρ' (sl g') ∧ I g' w') K) (upds ρ (sl g)) w) (ha : AllAt ρ (sl g0) := by exact alA) : CodeE P n (.loop b) K ρ w :=
  loopE (fun g ρ w => AllAt ρ (sl g) ∧ I g w) μ g0 ⟨ha, h0⟩ fun g ρ w hI => cAnchor hI.1 fun ρ => h g ρ w hI.2
theorem cutA {γ : Type} (sl : γ → List (Nat × Value)) (I : γ → World → Prop) (h : CodeE P n x (thenK (fun ρ w => ∃ g, AllAt ρ (sl g) ∧ I g w) K) ρ w)
    (h2 : ∀ g ρ w, I g w → CodeE P n y K (upds ρ (sl g)) w) : CodeE P n (.seq x y) K ρ w :=
  cutE (fun ρ w => ∃ g, AllAt ρ (sl g) ∧ I g w) h fun ρ w ⟨g, ha, hi⟩ => cAnchor ha fun ρ => h2 g ρ w hi

/-! ### loads, stores -/
theorem lA (hS : Sat W w cs) (i off k : Nat) {t : TypeId} {x : Operand} {b : Nat} {c : Array Value} {E : TypeId} {f : Nat × Nat} (hag : (isAgg t).run P w = .ok true w) (hsz : (sizeOf t).run P w = .ok k w) (h : OpsE P n ops rest N (put ρ o.dst (.agg ((c.toList.drop off).take k).toArray)) w)
    (ho : o.op = .load t x := by rfl) (hg : o.guard = none := by rfl) (hd : dstOK n o.dst = true := by rfl) (hi : cs[i]? = some [(b, .cells c E f)] := by rfl) (hx : ev ρ x = .pointer (some ⟨b, off, none⟩) := by kernel_rfl)
    (hk : ((c.toList.drop off).take k).length = k := by kernel_rfl) : OpsE P n ops (o :: rest) N ρ w :=
  sLA hS i off _ hag hsz h ho hg hd hi hx hk (by rw [hk])
theorem tW (hS : Sat W w cs) (i off : Nat) (v : Value) {t : TypeId} {x y : Operand} {b k : Nat} {c : Array Value} {E : TypeId} (hsz : ∀ w, (sizeOf t).run P w = .ok k w)
    (h : ∀ w', Sat W w' (cs.set i [(b, .cells (wr c off v.cells.toList) E (0, 0))]) → OpsE P n ops rest N ρ w')
    (ho : o.op = .store t x y := by rfl) (hg : o.guard = none := by rfl) (hd : o.dst = none := by rfl) (hi : cs[i]? = some [(b, .cells c E (0, 0))] := by rfl)
    (hx : ev ρ x = .pointer (some ⟨b, off, none⟩) := by kernel_rfl) (hy : ev ρ y = v := by kernel_rfl) (hk : v.cells.toList.length = k := by kernel_rfl)
    (h1 : v.cells.toList.all (·.oneCell') = true := by kernel_rfl) (hfit : Nat.ble (off + v.cells.toList.length) c.size = true := by kernel_rfl) : OpsE P n ops (o :: rest) N ρ w :=
  sT2 hS i off v hsz h ho hg hd hi hx hy hk h1 hfit

/-! ### operations within regions that draw their order -/
theorem wY {E : List Nat} {L : Facts} {s : Sched} {listed : Array Bool} {i : Nat} {o : Oper} (v : Value) (hi : ops[i]? = some o) (hy : ∀ w, factOf L i w → Yields P ρ o v w) (h : walkE P n ops E L N (flat s) (listed.setIfInBounds i true) (put ρ o.dst v) w) (hd : dstOK n o.dst = true := by rfl) (hg : guardP ops n ρ o.guard = some true := by kernel_rfl) : walkE P n ops E L N (flat ((true, [i]) :: s)) listed ρ w := by
  refine ⟨o, v, hi, hd, ?_, h⟩
  cases hq : o.guard with
  | none => exact .inl ⟨hq, hy⟩
  | some g => obtain ⟨j, b⟩ := g; rw [hq] at hg; exact .inr (.inl ⟨j, b, hq, guardP_yes hg, hy⟩)
theorem wAdd {E : List Nat} {L : Facts} {s : Sched} {listed : Array Bool} {i : Nat} {o : Oper} (a b : Int) {t u : TypeId} {x y : Operand} (h : walkE P n ops E L N (flat s) (listed.setIfInBounds i true) (put ρ o.dst (.int .i64 (a + b))) w) (hr : -9223372036854775808 ≤ a + b ∧ a + b ≤ 9223372036854775807 := by omega) (hi : ops[i]? = some o := by rfl) (ho : o.op = .binOp .add t x y u := by rfl) (hd : dstOK n o.dst = true := by rfl) (hg : guardP ops n ρ o.guard = some true := by kernel_rfl) (hx : ev ρ x = .int .i64 a := by kernel_rfl) (hy : ev ρ y = .int .i64 b := by kernel_rfl) : walkE P n ops E L N (flat ((true, [i]) :: s)) listed ρ w := wY _ hi (fun _ _ => Y_add ho hx hy hr) h hd hg
theorem wSub {E : List Nat} {L : Facts} {s : Sched} {listed : Array Bool} {i : Nat} {o : Oper} (a b : Int) {t u : TypeId} {x y : Operand} (h : walkE P n ops E L N (flat s) (listed.setIfInBounds i true) (put ρ o.dst (.int .i64 (a - b))) w) (hr : -9223372036854775808 ≤ a - b ∧ a - b ≤ 9223372036854775807 := by omega) (hi : ops[i]? = some o := by rfl) (ho : o.op = .binOp .sub t x y u := by rfl) (hd : dstOK n o.dst = true := by rfl) (hg : guardP ops n ρ o.guard = some true := by kernel_rfl) (hx : ev ρ x = .int .i64 a := by kernel_rfl) (hy : ev ρ y = .int .i64 b := by kernel_rfl) : walkE P n ops E L N (flat ((true, [i]) :: s)) listed ρ w := wY _ hi (fun _ _ => Y_sub ho hx hy hr) h hd hg
theorem wRem {E : List Nat} {L : Facts} {s : Sched} {listed : Array Bool} {i : Nat} {o : Oper} (a b : Int) {t u : TypeId} {x y : Operand} (h : walkE P n ops E L N (flat s) (listed.setIfInBounds i true) (put ρ o.dst (.int .i64 (a.tmod b))) w) (hb : b ≠ 0 := by omega) (hi : ops[i]? = some o := by rfl) (ho : o.op = .binOp .rem t x y u := by rfl) (hd : dstOK n o.dst = true := by rfl) (hg : guardP ops n ρ o.guard = some true := by kernel_rfl) (hx : ev ρ x = .int .i64 a := by kernel_rfl) (hy : ev ρ y = .int .i64 b := by kernel_rfl) : walkE P n ops E L N (flat ((true, [i]) :: s)) listed ρ w := wY _ hi (fun _ _ => Y_rem ho hx hy hb) h hd hg
theorem wLd {E : List Nat} {L : Facts} {s : Sched} {listed : Array Bool} {i : Nat} {o : Oper} (v : Value) (k : Nat) {t : TypeId} {x : Operand} {a : Addr} (hag : ∀ w, (isAgg t).run P w = .ok false w) (h : walkE P n ops E L N (flat s) (listed.setIfInBounds i true) (put ρ o.dst v) w) (hi : ops[i]? = some o := by rfl) (hk : L[k]? = some (i, a, v) := by rfl) (ho : o.op = .load t x := by rfl) (hd : dstOK n o.dst = true := by rfl) (hg : guardP ops n ρ o.guard = some true := by kernel_rfl) (hx : ev ρ x = .pointer (some a) := by kernel_rfl) : walkE P n ops E L N (flat ((true, [i]) :: s)) listed ρ w := wY _ hi (fun w hF => Y_load ho (hag w) hx (hF k _ _ hk)) h hd hg
theorem qY {E : List Nat} {L : Facts} {s : Plan} {listed : Array Bool} {i : Nat} {o : Oper} (v : Value) (hi : ops[i]? = some o) (hy : ∀ w, factOf L i w → Yields P ρ o v w) (h : walkP P n ops E L N s (listed.setIfInBounds i true) (put ρ o.dst v) w) (hd : dstOK n o.dst = true := by rfl) (hg : guardP ops n ρ o.guard = some true := by kernel_rfl) : walkP P n ops E L N (.st i s) listed ρ w := by
  refine ⟨o, v, hi, hd, ?_, h⟩
  cases hq : o.guard with
  | none => exact .inl ⟨hq, hy⟩
  | some g => obtain ⟨j, b⟩ := g; rw [hq] at hg; exact .inr (.inl ⟨j, b, hq, guardP_yes hg, hy⟩)
theorem qLd {E : List Nat} {L : Facts} {s : Plan} {listed : Array Bool} {i : Nat} {o : Oper} (v : Value) (k : Nat) {t : TypeId} {x : Operand} {a : Addr} (hag : ∀ w, (isAgg t).run P w = .ok false w) (h : walkP P n ops E L N s (listed.setIfInBounds i true) (put ρ o.dst v) w) (hi : ops[i]? = some o := by rfl) (hk : L[k]? = some (i, a, v) := by rfl) (ho : o.op = .load t x := by rfl) (hd : dstOK n o.dst = true := by rfl) (hg : guardP ops n ρ o.guard = some true := by kernel_rfl) (hx : ev ρ x = .pointer (some a) := by kernel_rfl) : walkP P n ops E L N (.st i s) listed ρ w := qY _ hi (fun w hF => Y_load ho (hag w) hx (hF k _ _ hk)) h hd hg
theorem callsA (n : Nat) {f : FuncId} {fn : Func} {b : Code} {args : Array Value} {R : Ending → World → Prop} (hf : P.funcs[f]? = some fn) (hb : fn.body = some b) (h : CodeE P n b (retK P fn R) (rho0 args) w) (hn : fn.ntmps = n := by rfl) (hs : Nat.ble args.size n = true := by rfl) : Calls P f args w R :=
  callsE hf hb hn (Nat.le_of_ble_eq_true hs) h
theorem set_at {α : Type} {l : List α} {k : Nat} {x y : α} (h : l[k]? = some x) : (l.set k y)[k]? = some y := by
  have hl : k < l.length := (List.getElem?_eq_some_iff.1 h).1
  simp [hl]
theorem OwnT.ptr {α : Type} {enc : α → List Value} {E sz : Nat} {a : Option Addr} {len cap k b off : Nat} {xs : List α} {c : Chunk} {x : α} (hO : OwnT enc E sz a len cap xs c) (hq : a = some ⟨b, off, none⟩) (hx : xs[k]? = some x) : PtR [c] b (off + k * sz) (enc x) := by
  have hk : k < len := by rw [← hO.1]; exact (List.getElem?_eq_some_iff.1 hx).1
  obtain ⟨y, b', o', hy, hp, _, ha⟩ := OwnT.elem hO ((k : Nat) : Int) (by omega) (by omega)
  rw [hq] at ha
  simp only [Option.some.injEq, Addr.mk.injEq, and_true] at ha
  obtain ⟨rfl, rfl⟩ := ha
  rw [Int.toNat_natCast] at hy hp
  rw [hx] at hy; cases hy
  exact hp
theorem sStrIdx {t : TypeId} {x y : Operand} {s : ByteArray} {k : IntKind} (i : Int) (hu : P.underlying t = some .string) (h : ∀ r : Int, 0 ≤ r ∧ r < 256 → OpsE P n ops rest N (put ρ o.dst (.int .u8 r)) w) (h0 : 0 ≤ i ∧ i < 256 := by omega)
    (ho : o.op = .index t x y := by rfl) (hg : o.guard = none := by rfl) (hd : dstOK n o.dst = true := by rfl) (hx : ev ρ x = .string s := by rfl) (hs : s.size = 256 := by kernel_rfl) (hy : ev ρ y = .int k i := by kernel_rfl) : OpsE P n ops (o :: rest) N ρ w := by
  have hl : i.toNat < s.size := by omega
  refine stepY (.int .u8 (s[i.toNat].toNat : Int)) hg hd ?_ (h _ ⟨by omega, by have := s[i.toNat].toNat_lt; omega⟩)
  unfold Yields execOp
  rw [ho]
  have hrun : (Instr.index t (.string s) (.int k i)).run P w = .ok (.int .u8 (s[i.toNat].toNat : Int)) w := by
    unfold Instr.index
    simp [asIntOf, run_underlying hu, h0.1, hl]
  simp [hx, hy, hrun]
end
end Go.E

namespace Go.Proofs.YtegmennaekipaaaGreat
open Go Go.E
set_option linter.unusedVariables false
set_option linter.unusedSimpArgs false
set_option linter.unnecessarySimpa false
set_option maxRecDepth 100000
set_option maxHeartbeats 2000000
variable {W w : World} {H : Chunk} {F : List Chunk}

/-- A slice: its header and what it holds. -/
structure Sl (α : Type) where
  a : Option Addr
  n : Nat
  k : Nat
  l : List α
structure Ref where
  job : Int
  task : Int
  deriving DecidableEq
def encRef (x : Ref) : List Value := [.int .i64 x.job, .int .i64 x.task]
structure Task where
  stage : Int
  part : Int
  rectX0 : Int
  rectY0 : Int
  rectX1 : Int
  rectY1 : Int
  deps : Sl Int
  rows : Int
  scratch : Int
def encTask (x : Task) : List Value := [.int .i64 x.stage, .int .i64 x.part, .int .i64 x.rectX0, .int .i64 x.rectY0, .int .i64 x.rectX1, .int .i64 x.rectY1, .slice x.deps.a x.deps.n x.deps.k, .int .i64 x.rows, .int .i64 x.scratch]
structure TaskV where
  stage : Int
  part : Int
  rectX0 : Int
  rectY0 : Int
  rectX1 : Int
  rectY1 : Int
  deps : List Int
  rows : Int
  scratch : Int
  deriving DecidableEq
def Task.v (x : Task) : TaskV := ⟨x.stage, x.part, x.rectX0, x.rectY0, x.rectX1, x.rectY1, x.deps.l, x.rows, x.scratch⟩
structure Task.Ok (cs : List Chunk) (q : Task) : Prop where
  deps : RdT encI 1 cs q.deps.a q.deps.n q.deps.k q.deps.l
theorem Task.Ok.of_mem {cs cs' : List Chunk} {x : Task} (h : Task.Ok cs x) (hm : ∀ p ∈ cs.flatten, p ∈ cs'.flatten) : Task.Ok cs' x := ⟨h.deps.of_mem hm⟩
end Go.Proofs.YtegmennaekipaaaGreat

namespace Go.Proofs.YtegmennaekipaaaGreat
open Go Go.E
set_option linter.unusedVariables false
set_option linter.unusedSimpArgs false
set_option linter.unnecessarySimpa false
set_option maxRecDepth 100000
set_option maxHeartbeats 2000000
variable {W w : World} {H : Chunk} {F : List Chunk}
theorem tape_new {cs : List Chunk} (a : Option Addr) (n k : Nat) (hS : Sat W w cs) :
    Calls Tryz.prog 8 #[.slice a n k] w fun e w' => ∃ p : Nat, e = .returned (.pointer (some ⟨p, 0, none⟩)) ∧ Sat W w' ([(p, .cells #[.slice a n k, .int .i64 0] 73 (0, 0))] :: cs) := by
  refine callsA 6 Tryz.func8 rfl ?_
  refine seqE <| regionE <| pu1 <| nilO <| thenK_n <| seqE <| regionE <| pu2 ?_
  refine sBox hS (.agg #[.slice a n k, .int .i64 0]) #[.slice a n k, .int .i64 0] ?_
  intro b_1 w_2 hS_3
  refine pu1 <| nilO <| thenK_n <| retE <| retT [.pointer (some ⟨b_1, 0, none⟩)] <| ?_
  exact ⟨_, rfl, hS_3⟩

theorem tmod_bd (v n : Int) (h : 0 < n) : -n < v.tmod n ∧ v.tmod n < n := by
  have h1 := Int.tmod_lt_of_pos v h
  have h2 := Int.lt_tmod_of_pos v h
  omega
theorem mod_ok {cs : List Chunk} (v n : Int) (hn : 0 < n) (hn2 : n ≤ 4611686018427387904) (hS : Sat W w cs) :
    Calls Tryz.prog 38 #[.int .i64 v, .int .i64 n] w fun e w' => ∃ r : Int, e = .returned (.int .i64 r) ∧ (0 ≤ r ∧ r < n) ∧ Sat W w' cs := by
  have hm := tmod_bd v n hn
  refine callsA 15 Tryz.func38 rfl ?_
  refine seqE <| regionE <| pu1 <| nilO <| thenK_n <| seqE <| regionE <| pu2 ?_
  refine sRem v n ?_
  refine pu1 <| nilO <| thenK_n <| seqE <| seqE <| regionE <| pu2 <| nilO <| thenK_n <| ?_
  refine cD ((v.tmod n) < 0) (fun hc_1 => ?_) (fun hc_1 => ?_)
  rotate_left
  · refine skipE <| thenK_n <| seqE <| regionE <| pu2 <| nilO <| thenK_n <| retE <| retT [.int .i64 (v.tmod n)] <| ?_
    exact ⟨_, rfl, by omega, hS⟩
  refine regionE <| pu2 ?_
  refine sAdd (v.tmod n) n ?_
  refine pu1 <| nilO <| thenK_n <| seqE <| regionE <| pu2 <| nilO <| thenK_n <| retE <| retT [.int .i64 ((v.tmod n) + n)] <| ?_
  exact ⟨_, rfl, by omega, hS⟩
theorem tape_next {p : Nat} {a : Option Addr} {n k : Nat} {i : Int} {xs : List Int} (hR : RdT encI 1 [H] a n k xs) (hi : 0 ≤ i ∧ i ≤ n) (hS : Sat W w ([(p, .cells #[.slice a n k, .int .i64 i] 73 (0, 0))] :: H :: F)) (m : Int) (hm : m ≤ 4611686018427387904) :
    Calls Tryz.prog 10 #[.pointer (some ⟨p, 0, none⟩), .int .i64 m] w fun e w' => ∃ r : Int, e = .returned (.int .i64 r) ∧ (0 ≤ r ∧ (r < m ∨ r = 0)) ∧ ∃ i' : Int, (0 ≤ i' ∧ i' ≤ n) ∧ Sat W w' ([(p, .cells #[.slice a n k, .int .i64 i'] 73 (0, 0))] :: H :: F) := by
  have hle := hR.le
  refine callsA 39 Tryz.func10 rfl ?_
  refine seqE <| regionE <| pu1 <| nilO <| thenK_n <| seqE <| seqE ?_
  by_cases hc_1 : (m : Int) < 1
  · refine drawE [] [] [(true, [0, 1, 2]), (true, [3, 4, 5, 7, 8, 9, 6, 10, 11, 12, 13])] rfl (by kernel_rfl) trivial ?_
    have hS_2 := hS.drew
    refine wU [0, 1, 2] ?_
    refine wFix 7 _ true (decide_eq_true hc_1) ?_
    refine wU [3, 4, 5, 7, 8, 9, 6, 10, 11, 12, 13] ?_
    refine wN ?_
    refine thenK_n <| cTt <| seqE <| regionE <| pu1 <| nilO <| thenK_n <| retE <| thenK_r <| retT [.int .i64 0] <| ?_
    exact ⟨_, rfl, by omega, _, by omega, hS_2⟩
  refine drawE [] [(6, ⟨p, 1, none⟩, .int .i64 i), (10, ⟨p, 0, none⟩, .slice a n k)] [(true, [0, 1, 2]), (true, [3, 4, 5, 7, 8, 9]), (true, [6]), (true, [10]), (true, [11, 12, 13])] rfl (by kernel_rfl) ⟨.inr (hS.cell 0 rfl rfl), .inr (hS.cell 0 rfl rfl), trivial⟩ ?_
  have hS_3 := hS.drew
  refine wU [0, 1, 2] ?_
  refine wFix 7 _ false (decide_eq_false hc_1) ?_
  refine wU [3, 4, 5, 7, 8, 9] ?_
  refine wLd (.int .i64 i) 0 Tryz.isAgg3 ?_
  refine wLd (.slice a n k) 1 Tryz.isAgg22 ?_
  refine wU [11, 12, 13] ?_
  refine wN ?_
  refine thenK_n <| ?_
  refine cD (i ≥ ((n : Nat) : Int)) (fun hc_4 => ?_) (fun hc_4 => ?_)
  · refine seqE <| regionE <| pu1 <| nilO <| thenK_n <| retE <| thenK_r <| retT [.int .i64 0] <| ?_
    exact ⟨_, rfl, by omega, _, by omega, hS_3⟩
  refine skipE <| thenK_n <| seqE <| regionE <| pu3 ?_
  refine sL hS_3 0 1 (.int .i64 i) (Tryz.isAgg3 _) ?_
  refine sAdd i 1 ?_
  refine pu2 ?_
  refine sT hS_3 0 1 (.int .i64 (i + 1)) [.int .i64 (i + 1)] #[.slice a n k, .int .i64 (i + 1)] Tryz.sizeOf3 ?_
  intro w_5 hS_6
  refine nilO <| thenK_n <| seqE ?_
  obtain ⟨x_7, b_8, o_9, hx_10, hp_11, hq_12⟩ := RdT.elem hR ((i + 1) - 1)
  refine drawE [12] [(3, ⟨p, 0, none⟩, .slice a n k), (7, ⟨p, 1, none⟩, .int .i64 (i + 1)), (10, ⟨b_8, o_9, none⟩, .int .i64 x_7)] [(true, [0, 1, 2, 4, 5, 6, 11]), (true, [3]), (true, [7]), (true, [8]), (true, [9]), (true, [10]), (false, [12]), (true, [13])] rfl (by kernel_rfl) ⟨.inr (hS_6.cell 0 rfl rfl), .inr (hS_6.cell 0 rfl rfl), .inr ((hp_11.up 1 rfl).cell hS_6 (k := 0) rfl), trivial⟩ ?_
  have hS_13 := hS_6.drew
  refine wU [0, 1, 2, 4, 5, 6, 11] ?_
  refine wLd (.slice a n k) 0 Tryz.isAgg22 ?_
  refine wLd (.int .i64 (i + 1)) 1 Tryz.isAgg3 ?_
  refine wSub (i + 1) 1 ?_
  refine wY (.pointer (some ⟨b_8, o_9, none⟩)) rfl (fun w _ => Y_idx (a := a) (i := ((i + 1) - 1)) (len := n) (cap := k) rfl Tryz.runUnderlying22 Tryz.sizeOf3 (by kernel_rfl) (by kernel_rfl) hq_12) ?_
  refine wLd (.int .i64 x_7) 2 Tryz.isAgg3 ?_
  refine wO rfl ?_
  refine cX Tryz.call38 (mod_ok x_7 m (by omega) (by omega) hS_13) ?_
  rintro _ w_14 ⟨r_16, rfl, hr_17, hS_15⟩
  refine nilO ⟨⟨.inr (hS_15.cell 0 rfl rfl), .inr (hS_15.cell 0 rfl rfl), .inl (by kernel_rfl), trivial⟩, ?_⟩
  refine wU [13] ?_
  refine wN ?_
  refine thenK_n <| retE <| retT [.int .i64 r_16] <| ?_
  exact ⟨_, rfl, by omega, _, by omega, hS_15⟩
theorem tape_left {p : Nat} {a : Option Addr} {n k : Nat} {i : Int} {xs : List Int} (hR : RdT encI 1 [H] a n k xs) (hi : 0 ≤ i ∧ i ≤ n) (hS : Sat W w ([(p, .cells #[.slice a n k, .int .i64 i] 73 (0, 0))] :: H :: F)) :
    Calls Tryz.prog 14 #[.pointer (some ⟨p, 0, none⟩)] w fun e w' => ∃ v : Bool, e = .returned (.bool v) ∧ Sat W w' ([(p, .cells #[.slice a n k, .int .i64 i] 73 (0, 0))] :: H :: F) := by
  have hle := hR.le
  refine callsA 13 Tryz.func14 rfl ?_
  refine seqE <| regionE <| pu1 <| nilO <| thenK_n <| seqE ?_
  refine drawE [] [(3, ⟨p, 1, none⟩, .int .i64 i), (7, ⟨p, 0, none⟩, .slice a n k)] [(true, [0, 1, 2, 4, 5, 6]), (true, [3]), (true, [7]), (true, [8, 9, 10])] rfl (by kernel_rfl) ⟨.inr (hS.cell 0 rfl rfl), .inr (hS.cell 0 rfl rfl), trivial⟩ ?_
  have hS_1 := hS.drew
  refine wU [0, 1, 2, 4, 5, 6] ?_
  refine wLd (.int .i64 i) 0 Tryz.isAgg3 ?_
  refine wLd (.slice a n k) 1 Tryz.isAgg22 ?_
  refine wU [8, 9, 10] ?_
  refine wN ?_
  refine thenK_n <| retE <| retT [.bool (decide ((i : Int) < ((n : Nat) : Int)))] <| ?_
  exact ⟨_, rfl, hS_1⟩
theorem tape_pick {p : Nat} {a : Option Addr} {n k : Nat} {i : Int} {xs : List Int} (hR : RdT encI 1 [H] a n k xs) (hi : 0 ≤ i ∧ i ≤ n) (hS : Sat W w ([(p, .cells #[.slice a n k, .int .i64 i] 73 (0, 0))] :: H :: F)) {b : Option Addr} {m cap : Nat} {l : List Int} (hL : RdT encI 1 [H] b m cap l) (h0 : 0 < m) (hm : m ≤ 1000000) :
    Calls Tryz.prog 16 #[.pointer (some ⟨p, 0, none⟩), .slice b m cap] w fun e w' => ∃ x : Int, e = .returned (.int .i64 x) ∧ x ∈ l ∧ ∃ i' : Int, (0 ≤ i' ∧ i' ≤ n) ∧ Sat W w' ([(p, .cells #[.slice a n k, .int .i64 i'] 73 (0, 0))] :: H :: F) := by
  have hle := hR.le
  refine callsA 12 Tryz.func16 rfl ?_
  refine seqE <| regionE <| pu1 <| nilO <| thenK_n <| seqE <| regionE <| pu4 ?_
  refine cX Tryz.call10 (tape_next (RdT.flat (hR.up 0 (by rfl))) (by omega) (Sat.flat1 hS) ((m : Nat) : Int) (by omega)) ?_
  rintro _ w_1 ⟨r_3, rfl, hr_4, i_5, hi_6, hS_2⟩
  have hS_7 := Sat.unflat1 hS_2
  refine sIdx hL r_3 Tryz.runUnderlying22 Tryz.sizeOf3 ?_
  intro x_8 b_9 o_10 hx_11 hp_12
  refine sLp hS_7 (hp_12.up 1 rfl) 0 (.int .i64 x_8) (Tryz.isAgg3 _) ?_
  refine pu1 <| nilO <| thenK_n <| retE <| retT [.int .i64 x_8] <| ?_
  exact ⟨_, rfl, List.mem_of_getElem? hx_11, _, by omega, hS_7⟩
end Go.Proofs.YtegmennaekipaaaGreat

namespace Go.Proofs.YtegmennaekipaaaGreat
open Go Go.E
set_option linter.unusedVariables false
set_option linter.unusedSimpArgs false
set_option linter.unnecessarySimpa false
set_option maxRecDepth 100000
set_option maxHeartbeats 2000000
variable {W w : World} {H : Chunk} {F : List Chunk}

/-- Strictly ascending, above 'last', below i. -/
def ascFrom (i : Int) : Int → List Int → Bool
  | _, [] => true
  | a, x :: l => (decide (a < x) && decide (x < i)) && ascFrom i x l
def lastD : Int → List Int → Int
  | a, [] => a
  | _, x :: l => lastD x l
theorem lastD_snoc (a : Int) (l : List Int) (x : Int) : lastD a (l ++ [x]) = x := by
  induction l generalizing a with
  | nil => rfl
  | cons y l ih => exact ih y
theorem asc_snoc (i a : Int) (l : List Int) (x : Int) : ascFrom i a (l ++ [x]) = (ascFrom i a l && (decide (lastD a l < x) && decide (x < i))) := by
  induction l generalizing a with
  | nil => simp [ascFrom, lastD]; try rfl
  | cons y l ih => simp only [List.cons_append, ascFrom, ih, lastD, Bool.and_assoc]; try rfl
theorem asc_take {i a x : Int} {l : List Int} {k : Nat} (hx : l[k]? = some x) : ascFrom i a (l.take (k + 1)) = (ascFrom i a (l.take k) && (decide (lastD a (l.take k) < x) && decide (x < i))) := by rw [take_succ_at hx, asc_snoc]
theorem asc_pre {i a : Int} : ∀ {l m : List Int}, ascFrom i a (l ++ m) = true → ascFrom i a l = true
  | [], _, _ => rfl
  | x :: l, m, h => by
    simp only [List.cons_append, ascFrom, Bool.and_eq_true] at h ⊢
    exact ⟨h.1, asc_pre h.2⟩
theorem asc_no {i a x : Int} {l : List Int} {k : Nat} (hx : l[k]? = some x) (h : ¬ (lastD a (l.take k) < x ∧ x < i)) : ascFrom i a l = false := by
  cases h2 : ascFrom i a l with
  | false => rfl
  | true =>
    rw [← List.take_append_drop (k + 1) l] at h2
    have h3 := asc_pre h2
    rw [asc_take hx] at h3
    simp only [Bool.and_eq_true, decide_eq_true_eq] at h3
    exact absurd h3.2 h
theorem lastD_at {a : Int} : ∀ {l : List Int} {k : Nat} {y : Int}, l[k]? = some y → lastD a (l.take (k + 1)) = y := by
  intro l k y h
  rw [take_succ_at h, lastD_snoc]
theorem lastD_pred {a y : Int} {l : List Int} {j : Nat} (h0 : 0 < j) (hy : l[(((j : Nat) : Int) - 1).toNat]? = some y) : lastD a (l.take j) = y := by
  have e : j = (((j : Nat) : Int) - 1).toNat + 1 := by omega
  rw [e]; exact lastD_at (by rw [← hy])
theorem asc_mem {i a : Int} : ∀ {l : List Int}, ascFrom i a l = true → ∀ x ∈ l, a < x ∧ x < i
  | [], _, x, h => by cases h
  | y :: l, h, x, hx => by
    simp only [ascFrom, Bool.and_eq_true, decide_eq_true_eq] at h
    rcases List.mem_cons.1 hx with rfl | hx
    · exact h.1
    · have := asc_mem h.2 x hx; omega
theorem asc_last {i a : Int} : ∀ {l : List Int}, ascFrom i a l = true → a ≤ lastD a l
  | [], _ => Int.le_refl _
  | y :: l, h => by
    simp only [ascFrom, Bool.and_eq_true, decide_eq_true_eq] at h
    have := asc_last h.2
    simp only [lastD]; omega
def taskOK (i : Int) (t : Task) : Bool := decide ((1 ≤ t.rows ∧ t.rows ≤ 128) ∧ 0 ≤ t.scratch) && ascFrom i (-1) t.deps.l
def tasksOK : Int → List Task → Bool
  | _, [] => true
  | i, t :: l => taskOK i t && tasksOK (i + 1) l
def validC (l : List Task) : Int := if l.length = 0 ∨ 4096 < l.length then 5 else if tasksOK 0 l then 0 else 1
theorem tasksOK_app (i : Int) (l m : List Task) : tasksOK i (l ++ m) = (tasksOK i l && tasksOK (i + l.length) m) := by
  induction l generalizing i with
  | nil => simp [tasksOK]
  | cons t l ih => simp only [List.cons_append, tasksOK, ih, List.length_cons, Bool.and_assoc]; congr 3; omega
theorem tasksOK_take {l : List Task} {i : Nat} {t : Task} (hx : l[i]? = some t) : tasksOK 0 (l.take (i + 1)) = (tasksOK 0 (l.take i) && taskOK i t) := by
  have hl : i < l.length := (List.getElem?_eq_some_iff.1 hx).1
  rw [take_succ_at hx, tasksOK_app, List.length_take, Nat.min_eq_left (by omega)]
  simp [tasksOK]
theorem tasksOK_no {l : List Task} {i : Nat} {t : Task} (hx : l[i]? = some t) (h : taskOK i t = false) : tasksOK 0 l = false := by
  cases h2 : tasksOK 0 l with
  | false => rfl
  | true =>
    rw [← List.take_append_drop (i + 1) l, tasksOK_app, Bool.and_eq_true, tasksOK_take hx] at h2
    simp [h] at h2
theorem validC_bad {l : List Task} (h1 : 0 < l.length) (h2 : l.length ≤ 4096) (h : tasksOK 0 l = false) : validC l = 1 := by unfold validC; rw [if_neg (by omega), h]; rfl
theorem validC_ok {l : List Task} (h1 : 0 < l.length) (h2 : l.length ≤ 4096) (h : tasksOK 0 l = true) : validC l = 0 := by unfold validC; rw [if_neg (by omega), if_pos h]
theorem validC_lim {l : List Task} (h : l.length = 0 ∨ 4096 < l.length) : validC l = 5 := by unfold validC; rw [if_pos h]
theorem validC_zero {l : List Task} (h : validC l = 0) : 0 < l.length ∧ l.length ≤ 4096 ∧ tasksOK 0 l = true := by
  unfold validC at h
  split at h
  · omega
  · split at h
    · rename_i h1 h2; exact ⟨by omega, by omega, h2⟩
    · omega
theorem r25_valid (al : Option Addr) (nl kl : Nat) (l : List Task) (hl : RdT encTask 9 [H] al nl kl l) (dl : ∀ z ∈ l, Task.Ok [H] z) (hS : Sat W w (H :: F)) :
    Ro Tryz.prog 110 #[.slice al nl kl] (.int .i64 (validC l)) W w (H :: F) := by
  have hl_l := hl.le; have hn_l := hl.len
  refine callsA 77 Tryz.func110 rfl ?_
  refine seqE <| regionE <| pu1 <| nilO <| thenK_n <| seqE <| seqE <| regionE <| pu4 ?_
  refine sE 9 ((nl : Nat) : Int) 0 (fun hc_1 => ?_) (fun hc_1 => ?_)
  · refine pu4 <| nilO <| thenK_n <| cTt <| seqE <| regionE <| pu1 <| nilO <| thenK_n <| retE <| thenK_r <| retT [.int .i64 5] <| ?_
    exact ⟨by rw [validC_lim (by omega)]; rfl, hS⟩
  refine pu4 <| nilO <| thenK_n <| ?_
  refine cD (((nl : Nat) : Int) > 4096) (fun hc_2 => ?_) (fun hc_2 => ?_)
  · refine seqE <| regionE <| pu1 <| nilO <| thenK_n <| retE <| thenK_r <| retT [.int .i64 5] <| ?_
    exact ⟨by rw [validC_lim (by omega)]; rfl, hS⟩
  refine skipE <| thenK_n <| seqE <| seqE <| regionE <| pu1 <| nilO <| thenK_n <| blockE ?_
  refine loopA (γ := Nat) (fun i => [(0, .slice al nl kl), (3, .int .i64 ((i : Nat) : Int))]) (fun i w => Sat W w (H :: F) ∧ i ≤ nl ∧ (tasksOK 0 (l.take i) = true) ∧ (0 < nl ∧ nl ≤ 4096)) (fun i => nl - i) 0 ⟨hS, by omega, by simp [tasksOK], by omega⟩ ?_
  rintro i ρ w_3 ⟨hS_4, hi, hV, hl0⟩
  refine seqE <| seqE <| regionE <| pu4 <| nilO <| thenK_n <| ?_
  refine cD (((i : Nat) : Int) < ((nl : Nat) : Int)) (fun hc_5 => ?_) (fun hc_5 => ?_)
  rotate_left
  · refine exitE <| thenK_x <| thenK_x <| blockK_x <| thenK_n <| seqE <| regionE <| pu1 <| nilO <| thenK_n <| retE <| retT [.int .i64 0] <| ?_
    exact ⟨by rw [validC_ok (by omega) (by omega) (by rw [← List.take_of_length_le (i := i) (l := l) (by omega)]; exact hV)]; rfl, hS_4⟩
  refine skipE <| thenK_n <| seqE <| blockE <| seqE <| regionE <| pu2 ?_
  refine sIdx hl ((i : Nat) : Int) Tryz.runUnderlying39 Tryz.sizeOf45 ?_
  intro x_6 b_7 o_8 hx_9 hp_10
  rw [Int.toNat_natCast] at hx_9
  refine sLpA hS_4 (hp_10.up 0 rfl) 0 (encTask x_6) (Tryz.isAgg45 _) (Tryz.sizeOf45 _) ?_
  refine sAlloc hS_4 Tryz.zeroValue45 ?_
  intro b_11 w_12 hS_13
  refine sT hS_13 0 0 (.agg (encTask x_6).toArray) (encTask x_6) (encTask x_6).toArray Tryz.sizeOf45 ?_
  intro w_14 hS_15
  refine nilO ?_
  have hnd := (dl x_6 (List.mem_of_getElem? hx_9)).deps.len; have hld := (dl x_6 (List.mem_of_getElem? hx_9)).deps.le
  refine thenK_n <| seqE <| seqE <| regionE <| pu1 ?_
  refine sL hS_15 0 7 (.int .i64 x_6.rows) (Tryz.isAgg3 _) ?_
  refine pu2 ?_
  refine sD 27 (x_6.rows < 1) (fun hc_16 => ?_) (fun hc_16 => ?_)
  · refine pu9 <| nilO <| thenK_n <| cTt <| seqE <| regionE <| pu1 <| nilO <| thenK_n <| retE <| thenK_r <| blockK_r <| thenK_r <| thenK_r <| blockK_r <| thenK_r <| retT [.int .i64 1] <| ?_
    have hS_17 := (hS_15.dropAt 0 rfl)
    have hno : taskOK i x_6 = false := by unfold taskOK; rw [decide_eq_false (by omega)]; rfl
    exact ⟨by rw [validC_bad (by omega) (by omega) (tasksOK_no hx_9 hno)]; rfl, hS_17⟩
  refine pu1 <| gY ?_
  refine sL hS_15 0 7 (.int .i64 x_6.rows) (Tryz.isAgg3 _) ?_
  refine pu3 ?_
  refine sD 32 (x_6.rows > 128) (fun hc_18 => ?_) (fun hc_18 => ?_)
  · refine pu4 <| nilO <| thenK_n <| cTt <| seqE <| regionE <| pu1 <| nilO <| thenK_n <| retE <| thenK_r <| blockK_r <| thenK_r <| thenK_r <| blockK_r <| thenK_r <| retT [.int .i64 1] <| ?_
    have hS_19 := (hS_15.dropAt 0 rfl)
    have hno : taskOK i x_6 = false := by unfold taskOK; rw [decide_eq_false (by omega)]; rfl
    exact ⟨by rw [validC_bad (by omega) (by omega) (tasksOK_no hx_9 hno)]; rfl, hS_19⟩
  refine pu1 <| gY ?_
  refine sL hS_15 0 8 (.int .i64 x_6.scratch) (Tryz.isAgg3 _) ?_
  refine pu2 <| nilO <| thenK_n <| ?_
  refine cD (x_6.scratch < 0) (fun hc_20 => ?_) (fun hc_20 => ?_)
  · refine seqE <| regionE <| pu1 <| nilO <| thenK_n <| retE <| thenK_r <| blockK_r <| thenK_r <| thenK_r <| blockK_r <| thenK_r <| retT [.int .i64 1] <| ?_
    have hS_21 := (hS_15.dropAt 0 rfl)
    have hno : taskOK i x_6 = false := by unfold taskOK; rw [decide_eq_false (by omega)]; rfl
    exact ⟨by rw [validC_bad (by omega) (by omega) (tasksOK_no hx_9 hno)]; rfl, hS_21⟩
  refine skipE <| thenK_n <| seqE <| regionE <| pu1 <| nilO <| thenK_n <| blockE ?_
  refine loopA (γ := Nat) (fun j => [(0, .slice al nl kl), (3, .int .i64 ((i : Nat) : Int)), (4, .pointer (some ⟨b_11, 0, none⟩)), (5, .int .i64 ((j : Nat) : Int))]) (fun j w => Sat W w ([(b_11, .cells (encTask x_6).toArray 45 (0, 0))] :: H :: F) ∧ j ≤ x_6.deps.n ∧ (ascFrom i (-1) (x_6.deps.l.take j) = true)) (fun j => x_6.deps.n - j) 0 ⟨hS_15, by omega, by simp [ascFrom]⟩ ?_
  rintro j ρ w_22 ⟨hS_23, hj, hA⟩
  refine seqE <| seqE <| regionE <| pu2 ?_
  refine sL hS_23 0 6 (.slice x_6.deps.a x_6.deps.n x_6.deps.k) (Tryz.isAgg22 _) ?_
  refine pu2 <| nilO <| thenK_n <| ?_
  refine cD (((j : Nat) : Int) < ((x_6.deps.n : Nat) : Int)) (fun hc_24 => ?_) (fun hc_24 => ?_)
  rotate_left
  · refine exitE <| thenK_x <| thenK_x <| blockK_x <| blockK_n <| thenK_n <| regionE <| pu1 ?_
    refine sAdd ((i : Nat) : Int) 1 ?_
    refine pu1 <| nilO <| thenK_n <| ?_
    have hS_48 := (hS_23.dropAt 0 rfl)
    exact ⟨i + 1, by first | omega | (dsimp only; omega), alA, hS_48, by omega, (by rw [tasksOK_take hx_9, hV]; unfold taskOK; rw [decide_eq_true (by omega), ← List.take_of_length_le (i := j) (l := x_6.deps.l) (by omega), hA]; rfl), by omega⟩
  refine skipE <| thenK_n <| seqE <| blockE <| seqE ?_
  obtain ⟨x_25, b_26, o_27, hx_28, hp_29, hq_30⟩ := RdT.elem (dl x_6 (List.mem_of_getElem? hx_9)).deps ((j : Nat) : Int)
  rw [Int.toNat_natCast] at hx_28
  by_cases hc_31 : (x_25 : Int) < 0
  · refine drawE [] [(1, ⟨b_11, 6, none⟩, .slice x_6.deps.a x_6.deps.n x_6.deps.k), (4, ⟨b_26, o_27, none⟩, .int .i64 x_25)] [(true, [0, 2]), (true, [1]), (true, [3]), (true, [4]), (true, [5, 6]), (true, [7, 9, 12, 8, 10, 11, 13, 14, 15, 16, 17, 18, 19, 21, 24, 26, 27, 20, 22, 23, 25, 28, 29, 30, 31, 32])] rfl (by kernel_rfl) ⟨.inr (hS_23.cell 0 rfl rfl), .inr ((hp_29.up 1 rfl).cell hS_23 (k := 0) rfl), trivial⟩ ?_
    have hS_32 := hS_23.drew
    refine wU [0, 2] ?_
    refine wLd (.slice x_6.deps.a x_6.deps.n x_6.deps.k) 0 Tryz.isAgg22 ?_
    refine wY (.pointer (some ⟨b_26, o_27, none⟩)) rfl (fun w _ => Y_idx (a := x_6.deps.a) (i := ((j : Nat) : Int)) (len := x_6.deps.n) (cap := x_6.deps.k) rfl Tryz.runUnderlying22 Tryz.sizeOf3 (by kernel_rfl) (by kernel_rfl) hq_30) ?_
    refine wLd (.int .i64 x_25) 1 Tryz.isAgg3 ?_
    refine wU [5, 6] ?_
    refine wFix 50 _ true (decide_eq_true hc_31) ?_
    refine wU [7, 9, 12, 8, 10, 11, 13, 14, 15, 16, 17, 18, 19, 21, 24, 26, 27, 20, 22, 23, 25, 28, 29, 30, 31, 32] ?_
    refine wN ?_
    refine thenK_n <| cTt <| seqE <| regionE <| pu1 <| nilO <| thenK_n <| retE <| blockK_r <| thenK_r <| thenK_r <| blockK_r <| blockK_r <| thenK_r <| thenK_r <| blockK_r <| thenK_r <| retT [.int .i64 1] <| ?_
    have hS_33 := (hS_32.dropAt 0 rfl)
    have hla := asc_last hA
    have hno : taskOK i x_6 = false := by unfold taskOK; rw [asc_no hx_28 (by omega)]; simp
    exact ⟨by rw [validC_bad (by omega) (by omega) (tasksOK_no hx_9 hno)]; rfl, hS_33⟩
  by_cases hc_34 : (x_25 : Int) ≥ ((i : Nat) : Int)
  · refine drawE [] [(1, ⟨b_11, 6, none⟩, .slice x_6.deps.a x_6.deps.n x_6.deps.k), (4, ⟨b_26, o_27, none⟩, .int .i64 x_25), (8, ⟨b_11, 6, none⟩, .slice x_6.deps.a x_6.deps.n x_6.deps.k), (11, ⟨b_26, o_27, none⟩, .int .i64 x_25)] [(true, [0, 2]), (true, [1]), (true, [3]), (true, [4]), (true, [5, 6]), (true, [7, 9, 12]), (true, [8]), (true, [10]), (true, [11]), (true, [13, 14, 15]), (true, [16, 17, 18, 19, 21, 24, 26, 27, 20, 22, 23, 25, 28, 29, 30, 31, 32])] rfl (by kernel_rfl) ⟨.inr (hS_23.cell 0 rfl rfl), .inr ((hp_29.up 1 rfl).cell hS_23 (k := 0) rfl), .inr (hS_23.cell 0 rfl rfl), .inr ((hp_29.up 1 rfl).cell hS_23 (k := 0) rfl), trivial⟩ ?_
    have hS_35 := hS_23.drew
    refine wU [0, 2] ?_
    refine wLd (.slice x_6.deps.a x_6.deps.n x_6.deps.k) 0 Tryz.isAgg22 ?_
    refine wY (.pointer (some ⟨b_26, o_27, none⟩)) rfl (fun w _ => Y_idx (a := x_6.deps.a) (i := ((j : Nat) : Int)) (len := x_6.deps.n) (cap := x_6.deps.k) rfl Tryz.runUnderlying22 Tryz.sizeOf3 (by kernel_rfl) (by kernel_rfl) hq_30) ?_
    refine wLd (.int .i64 x_25) 1 Tryz.isAgg3 ?_
    refine wU [5, 6] ?_
    refine wFix 50 _ false (decide_eq_false hc_31) ?_
    refine wU [7, 9, 12] ?_
    refine wLd (.slice x_6.deps.a x_6.deps.n x_6.deps.k) 2 Tryz.isAgg22 ?_
    refine wY (.pointer (some ⟨b_26, o_27, none⟩)) rfl (fun w _ => Y_idx (a := x_6.deps.a) (i := ((j : Nat) : Int)) (len := x_6.deps.n) (cap := x_6.deps.k) rfl Tryz.runUnderlying22 Tryz.sizeOf3 (by kernel_rfl) (by kernel_rfl) hq_30) ?_
    refine wLd (.int .i64 x_25) 3 Tryz.isAgg3 ?_
    refine wU [13, 14, 15] ?_
    refine wFix 59 _ true (decide_eq_true hc_34) ?_
    refine wU [16, 17, 18, 19, 21, 24, 26, 27, 20, 22, 23, 25, 28, 29, 30, 31, 32] ?_
    refine wN ?_
    refine thenK_n <| cTt <| seqE <| regionE <| pu1 <| nilO <| thenK_n <| retE <| blockK_r <| thenK_r <| thenK_r <| blockK_r <| blockK_r <| thenK_r <| thenK_r <| blockK_r <| thenK_r <| retT [.int .i64 1] <| ?_
    have hS_36 := (hS_35.dropAt 0 rfl)
    have hla := asc_last hA
    have hno : taskOK i x_6 = false := by unfold taskOK; rw [asc_no hx_28 (by omega)]; simp
    exact ⟨by rw [validC_bad (by omega) (by omega) (tasksOK_no hx_9 hno)]; rfl, hS_36⟩
  by_cases hc_37 : (((j : Nat) : Int) : Int) > 0
  rotate_left
  · refine drawE [] [(1, ⟨b_11, 6, none⟩, .slice x_6.deps.a x_6.deps.n x_6.deps.k), (4, ⟨b_26, o_27, none⟩, .int .i64 x_25), (8, ⟨b_11, 6, none⟩, .slice x_6.deps.a x_6.deps.n x_6.deps.k), (11, ⟨b_26, o_27, none⟩, .int .i64 x_25)] [(true, [0, 2]), (true, [1]), (true, [3]), (true, [4]), (true, [5, 6]), (true, [7, 9, 12]), (true, [8]), (true, [10]), (true, [11]), (true, [13, 14, 15]), (true, [16, 17, 18]), (true, [19, 21, 24, 26, 27, 20, 22, 23, 25, 28, 29, 30, 31, 32])] rfl (by kernel_rfl) ⟨.inr (hS_23.cell 0 rfl rfl), .inr ((hp_29.up 1 rfl).cell hS_23 (k := 0) rfl), .inr (hS_23.cell 0 rfl rfl), .inr ((hp_29.up 1 rfl).cell hS_23 (k := 0) rfl), trivial⟩ ?_
    have hS_47 := hS_23.drew
    refine wU [0, 2] ?_
    refine wLd (.slice x_6.deps.a x_6.deps.n x_6.deps.k) 0 Tryz.isAgg22 ?_
    refine wY (.pointer (some ⟨b_26, o_27, none⟩)) rfl (fun w _ => Y_idx (a := x_6.deps.a) (i := ((j : Nat) : Int)) (len := x_6.deps.n) (cap := x_6.deps.k) rfl Tryz.runUnderlying22 Tryz.sizeOf3 (by kernel_rfl) (by kernel_rfl) hq_30) ?_
    refine wLd (.int .i64 x_25) 1 Tryz.isAgg3 ?_
    refine wU [5, 6] ?_
    refine wFix 50 _ false (decide_eq_false hc_31) ?_
    refine wU [7, 9, 12] ?_
    refine wLd (.slice x_6.deps.a x_6.deps.n x_6.deps.k) 2 Tryz.isAgg22 ?_
    refine wY (.pointer (some ⟨b_26, o_27, none⟩)) rfl (fun w _ => Y_idx (a := x_6.deps.a) (i := ((j : Nat) : Int)) (len := x_6.deps.n) (cap := x_6.deps.k) rfl Tryz.runUnderlying22 Tryz.sizeOf3 (by kernel_rfl) (by kernel_rfl) hq_30) ?_
    refine wLd (.int .i64 x_25) 3 Tryz.isAgg3 ?_
    refine wU [13, 14, 15] ?_
    refine wFix 59 _ false (decide_eq_false hc_34) ?_
    refine wU [16, 17, 18] ?_
    refine wFix 62 _ false (decide_eq_false hc_37) ?_
    refine wU [19, 21, 24, 26, 27, 20, 22, 23, 25, 28, 29, 30, 31, 32] ?_
    refine wN ?_
    refine thenK_n <| cFf <| skipE <| blockK_n <| thenK_n <| regionE <| pu1 ?_
    refine sAdd ((j : Nat) : Int) 1 ?_
    refine pu1 <| nilO <| thenK_n <| ?_
    exact ⟨j + 1, by first | omega | (dsimp only; omega), alA, hS_47, by omega, (by rw [asc_take hx_28, hA]; simp; (obtain rfl : j = 0 := by omega); simp only [List.take_zero, lastD]; omega)⟩
  obtain ⟨x_38, b_39, o_40, hx_41, hp_42, hq_43⟩ := RdT.elem (dl x_6 (List.mem_of_getElem? hx_9)).deps (((j : Nat) : Int) - 1)
  refine drawE [] [(1, ⟨b_11, 6, none⟩, .slice x_6.deps.a x_6.deps.n x_6.deps.k), (4, ⟨b_26, o_27, none⟩, .int .i64 x_25), (8, ⟨b_11, 6, none⟩, .slice x_6.deps.a x_6.deps.n x_6.deps.k), (11, ⟨b_26, o_27, none⟩, .int .i64 x_25), (20, ⟨b_11, 6, none⟩, .slice x_6.deps.a x_6.deps.n x_6.deps.k), (23, ⟨b_26, o_27, none⟩, .int .i64 x_25), (25, ⟨b_11, 6, none⟩, .slice x_6.deps.a x_6.deps.n x_6.deps.k), (29, ⟨b_39, o_40, none⟩, .int .i64 x_38)] [(true, [0, 2]), (true, [1]), (true, [3]), (true, [4]), (true, [5, 6]), (true, [7, 9, 12]), (true, [8]), (true, [10]), (true, [11]), (true, [13, 14, 15]), (true, [16, 17, 18]), (true, [19, 21, 24, 26]), (true, [27]), (true, [20]), (true, [22]), (true, [23]), (true, [25]), (true, [28]), (true, [29]), (true, [30, 31, 32])] rfl (by kernel_rfl) ⟨.inr (hS_23.cell 0 rfl rfl), .inr ((hp_29.up 1 rfl).cell hS_23 (k := 0) rfl), .inr (hS_23.cell 0 rfl rfl), .inr ((hp_29.up 1 rfl).cell hS_23 (k := 0) rfl), .inr (hS_23.cell 0 rfl rfl), .inr ((hp_29.up 1 rfl).cell hS_23 (k := 0) rfl), .inr (hS_23.cell 0 rfl rfl), .inr ((hp_42.up 1 rfl).cell hS_23 (k := 0) rfl), trivial⟩ ?_
  have hS_44 := hS_23.drew
  refine wU [0, 2] ?_
  refine wLd (.slice x_6.deps.a x_6.deps.n x_6.deps.k) 0 Tryz.isAgg22 ?_
  refine wY (.pointer (some ⟨b_26, o_27, none⟩)) rfl (fun w _ => Y_idx (a := x_6.deps.a) (i := ((j : Nat) : Int)) (len := x_6.deps.n) (cap := x_6.deps.k) rfl Tryz.runUnderlying22 Tryz.sizeOf3 (by kernel_rfl) (by kernel_rfl) hq_30) ?_
  refine wLd (.int .i64 x_25) 1 Tryz.isAgg3 ?_
  refine wU [5, 6] ?_
  refine wFix 50 _ false (decide_eq_false hc_31) ?_
  refine wU [7, 9, 12] ?_
  refine wLd (.slice x_6.deps.a x_6.deps.n x_6.deps.k) 2 Tryz.isAgg22 ?_
  refine wY (.pointer (some ⟨b_26, o_27, none⟩)) rfl (fun w _ => Y_idx (a := x_6.deps.a) (i := ((j : Nat) : Int)) (len := x_6.deps.n) (cap := x_6.deps.k) rfl Tryz.runUnderlying22 Tryz.sizeOf3 (by kernel_rfl) (by kernel_rfl) hq_30) ?_
  refine wLd (.int .i64 x_25) 3 Tryz.isAgg3 ?_
  refine wU [13, 14, 15] ?_
  refine wFix 59 _ false (decide_eq_false hc_34) ?_
  refine wU [16, 17, 18] ?_
  refine wFix 62 _ true (decide_eq_true hc_37) ?_
  refine wU [19, 21, 24, 26] ?_
  refine wSub ((j : Nat) : Int) 1 ?_
  refine wLd (.slice x_6.deps.a x_6.deps.n x_6.deps.k) 4 Tryz.isAgg22 ?_
  refine wY (.pointer (some ⟨b_26, o_27, none⟩)) rfl (fun w _ => Y_idx (a := x_6.deps.a) (i := ((j : Nat) : Int)) (len := x_6.deps.n) (cap := x_6.deps.k) rfl Tryz.runUnderlying22 Tryz.sizeOf3 (by kernel_rfl) (by kernel_rfl) hq_30) ?_
  refine wLd (.int .i64 x_25) 5 Tryz.isAgg3 ?_
  refine wLd (.slice x_6.deps.a x_6.deps.n x_6.deps.k) 6 Tryz.isAgg22 ?_
  refine wY (.pointer (some ⟨b_39, o_40, none⟩)) rfl (fun w _ => Y_idx (a := x_6.deps.a) (i := (((j : Nat) : Int) - 1)) (len := x_6.deps.n) (cap := x_6.deps.k) rfl Tryz.runUnderlying22 Tryz.sizeOf3 (by kernel_rfl) (by kernel_rfl) hq_43) ?_
  refine wLd (.int .i64 x_38) 7 Tryz.isAgg3 ?_
  refine wU [30, 31, 32] ?_
  refine wN ?_
  refine thenK_n <| ?_
  refine cD (x_25 ≤ x_38) (fun hc_45 => ?_) (fun hc_45 => ?_)
  rotate_left
  · refine skipE <| blockK_n <| thenK_n <| regionE <| pu1 ?_
    refine sAdd ((j : Nat) : Int) 1 ?_
    refine pu1 <| nilO <| thenK_n <| ?_
    exact ⟨j + 1, by first | omega | (dsimp only; omega), alA, hS_44, by omega, (by rw [asc_take hx_28, hA]; simp; rw [lastD_pred (by omega) hx_41]; omega)⟩
  refine seqE <| regionE <| pu1 <| nilO <| thenK_n <| retE <| blockK_r <| thenK_r <| thenK_r <| blockK_r <| blockK_r <| thenK_r <| thenK_r <| blockK_r <| thenK_r <| retT [.int .i64 1] <| ?_
  have hS_46 := (hS_44.dropAt 0 rfl)
  have hla := asc_last hA
  have hno : taskOK i x_6 = false := by unfold taskOK; rw [asc_no hx_28 (by rw [lastD_pred (by omega) hx_41]; omega)]; simp
  exact ⟨by rw [validC_bad (by omega) (by omega) (tasksOK_no hx_9 hno)]; rfl, hS_46⟩
theorem b_valid (t : Task) (ix : Int) (ht : Task.Ok [H] t) (hS : Sat W w (H :: F)) :
    Ro Tryz.prog 106 #[.agg (encTask t).toArray, .int .i64 ix] (.bool (taskOK ix t)) W w (H :: F) := by
  have hl_t_deps := ht.deps.le; have hn_t_deps := ht.deps.len
  refine callsA 38 Tryz.func106 rfl ?_
  refine seqE <| regionE ?_
  refine sBox hS (.agg (encTask t).toArray) (encTask t).toArray ?_
  intro b_1 w_2 hS_3
  refine pu1 <| nilO <| thenK_n <| seqE <| regionE <| pu1 <| nilO <| thenK_n <| seqE <| seqE <| regionE <| pu1 ?_
  refine sL hS_3 0 6 (.slice t.deps.a t.deps.n t.deps.k) (Tryz.isAgg22 _) ?_
  refine pu2 <| nilO <| thenK_n <| blockE ?_
  refine loopA (γ := Nat × Int) (fun ⟨i, la⟩ => [(1, .int .i64 ix), (2, .pointer (some ⟨b_1, 0, none⟩)), (9, .slice t.deps.a t.deps.n t.deps.k), (10, .int .i64 ((t.deps.n : Nat) : Int)), (11, .int .i64 ((i : Nat) : Int)), (5, .int .i64 la)]) (fun ⟨i, la⟩ w => Sat W w ([(b_1, .cells (encTask t).toArray 45 (0, 0))] :: H :: F) ∧ i ≤ t.deps.n ∧ (ascFrom ix (-1) (t.deps.l.take i) = true) ∧ (la = lastD (-1) (t.deps.l.take i))) (fun ⟨i, la⟩ => t.deps.n - i) (0, (-1)) ⟨hS_3, by omega, by simp [ascFrom], rfl⟩ ?_
  rintro ⟨i, la⟩ ρ w_4 ⟨hS_5, hi, hA, hla⟩
  refine seqE <| regionE <| pu1 <| nilO <| thenK_n <| seqE ?_
  refine cD (((i : Nat) : Int) < ((t.deps.n : Nat) : Int)) (fun hc_6 => ?_) (fun hc_6 => ?_)
  rotate_left
  · refine exitE <| thenK_x <| thenK_x <| blockK_x <| thenK_n <| seqE <| regionE <| pu1 ?_
    refine sL hS_5 0 7 (.int .i64 t.rows) (Tryz.isAgg3 _) ?_
    refine pu2 ?_
    refine sD 28 (t.rows ≥ 1) (fun hc_16 => ?_) (fun hc_16 => ?_)
    rotate_left
    · refine pu10 <| nilO <| thenK_n <| retE <| retT [.bool false] <| ?_
      have hS_20 := (hS_5.dropAt 0 rfl)
      exact ⟨by unfold taskOK; rw [decide_eq_false (by omega)]; rfl, hS_20⟩
    refine pu1 <| gY ?_
    refine sL hS_5 0 7 (.int .i64 t.rows) (Tryz.isAgg3 _) ?_
    refine pu3 ?_
    refine sD 33 (t.rows ≤ 128) (fun hc_17 => ?_) (fun hc_17 => ?_)
    rotate_left
    · refine pu5 <| nilO <| thenK_n <| retE <| retT [.bool false] <| ?_
      have hS_19 := (hS_5.dropAt 0 rfl)
      exact ⟨by unfold taskOK; rw [decide_eq_false (by omega)]; rfl, hS_19⟩
    refine pu1 <| gY ?_
    refine sL hS_5 0 8 (.int .i64 t.scratch) (Tryz.isAgg3 _) ?_
    refine pu3 <| nilO <| thenK_n <| retE <| retT [.bool (decide ((t.scratch : Int) ≥ 0))] <| ?_
    have hS_18 := (hS_5.dropAt 0 rfl)
    exact ⟨by unfold taskOK; rw [← List.take_of_length_le (i := i) (l := t.deps.l) (by omega), hA, Bool.and_true]; exact congrArg (fun b => Ending.returned (.bool b)) (decide_eq_decide.2 (by omega)), hS_18⟩
  refine skipE <| thenK_n <| seqE <| blockE <| seqE <| regionE ?_
  refine sIdx ht.deps ((i : Nat) : Int) Tryz.runUnderlying22 Tryz.sizeOf3 ?_
  intro x_7 b_8 o_9 hx_10 hp_11
  rw [Int.toNat_natCast] at hx_10
  refine sLp hS_5 (hp_11.up 1 rfl) 0 (.int .i64 x_7) (Tryz.isAgg3 _) ?_
  refine pu1 <| nilO <| thenK_n <| seqE <| seqE <| regionE <| pu4 ?_
  refine sD 18 (x_7 ≤ la) (fun hc_12 => ?_) (fun hc_12 => ?_)
  · refine pu4 <| nilO <| thenK_n <| cTt <| seqE <| regionE <| pu1 <| nilO <| thenK_n <| retE <| thenK_r <| blockK_r <| thenK_r <| thenK_r <| blockK_r <| thenK_r <| retT [.bool false] <| ?_
    have hS_13 := (hS_5.dropAt 0 rfl)
    exact ⟨by unfold taskOK; rw [asc_no hx_10 (by omega), Bool.and_false]; rfl, hS_13⟩
  refine pu4 <| nilO <| thenK_n <| ?_
  refine cD (x_7 ≥ ix) (fun hc_14 => ?_) (fun hc_14 => ?_)
  · refine seqE <| regionE <| pu1 <| nilO <| thenK_n <| retE <| thenK_r <| blockK_r <| thenK_r <| thenK_r <| blockK_r <| thenK_r <| retT [.bool false] <| ?_
    have hS_15 := (hS_5.dropAt 0 rfl)
    exact ⟨by unfold taskOK; rw [asc_no hx_10 (by omega), Bool.and_false]; rfl, hS_15⟩
  refine skipE <| thenK_n <| regionE <| pu2 <| nilO <| blockK_n <| thenK_n <| regionE ?_
  refine sAdd ((i : Nat) : Int) 1 ?_
  refine pu1 <| nilO <| thenK_n <| ?_
  exact ⟨(i + 1, x_7), by first | omega | (dsimp only; omega), alA, hS_5, by omega, (by rw [asc_take hx_10, hA]; simp; omega), (lastD_at hx_10).symm⟩
end Go.Proofs.YtegmennaekipaaaGreat

namespace Go.Proofs.YtegmennaekipaaaGreat
open Go Go.E
set_option linter.unusedVariables false
set_option linter.unusedSimpArgs false
set_option linter.unnecessarySimpa false
set_option maxRecDepth 100000
set_option maxHeartbeats 2000000
variable {W w : World} {H : Chunk} {F : List Chunk}

theorem asc_grow {i j a : Int} (hij : i ≤ j) : ∀ {l : List Int} {a : Int}, ascFrom i a l = true → ascFrom j a l = true
  | [], _, _ => rfl
  | x :: l, a, h => by
    simp only [ascFrom, Bool.and_eq_true, decide_eq_true_eq] at h ⊢
    exact ⟨⟨h.1.1, by omega⟩, asc_grow (a := a) hij h.2⟩
theorem asc_lt {i : Int} : ∀ {l : List Int} {a : Int}, a < i → ascFrom i a l = true → lastD a l < i
  | [], _, h0, _ => h0
  | y :: l, _, _, h => by
    simp only [ascFrom, Bool.and_eq_true, decide_eq_true_eq] at h
    exact asc_lt (l := l) h.1.2 h.2
theorem asc_add {j : Nat} {l : List Int} (h : ascFrom j (-1) l = true) : ascFrom ((j + 1 : Nat) : Int) (-1) (l ++ [((j : Nat) : Int)]) = true := by
  have h1 := asc_lt (by omega) h
  rw [asc_snoc, asc_grow (j := ((j + 1 : Nat) : Int)) (a := 0) (by omega) h]
  simp; omega
theorem taskOK_of {i : Int} {t : Task} (h : (1 ≤ t.rows ∧ t.rows ≤ 128) ∧ 0 ≤ t.scratch) (h2 : ascFrom i (-1) t.deps.l = true) : taskOK i t = true := by unfold taskOK; rw [decide_eq_true h, h2]; rfl
theorem tasksOK_snoc {l : List Task} {i : Nat} {t : Task} (h : tasksOK 0 l = true) (hl : l.length = i) (ht : taskOK i t = true) : tasksOK 0 (l ++ [t]) = true := by
  rw [tasksOK_app, h, hl]; simp [tasksOK, ht]
theorem tg_tasks {p : Nat} {a : Option Addr} {n k : Nat} {i : Int} {xs : List Int} (hR : RdT encI 1 [H] a n k xs) (hi : 0 ≤ i ∧ i ≤ n) (hS : Sat W w ([(p, .cells #[.slice a n k, .int .i64 i] 73 (0, 0))] :: H :: F)) (m0 : Int) (hm : 1 ≤ m0 ∧ m0 ≤ 64) :
    Calls Tryz.prog 15 #[.pointer (some ⟨p, 0, none⟩), .int .i64 m0] w fun e w' => ∃ (az : Option Addr) (nz : Nat) (kz : Nat) (zs : List Task) (C : Chunk) (G : Chunk), e = .returned (.slice az nz kz) ∧ (OwnT encTask 45 9 az nz kz zs C) ∧ (∀ z ∈ zs, Task.Ok [G] z) ∧ (1 ≤ zs.length ∧ zs.length ≤ m0.toNat ∧ tasksOK 0 zs = true) ∧ (∀ z ∈ zs, z.scratch ≤ 512) ∧ (∀ z ∈ zs, z.rows ≤ 3) ∧ ∃ i' : Int, (0 ≤ i' ∧ i' ≤ n) ∧ Sat W w' ([(p, .cells #[.slice a n k, .int .i64 i'] 73 (0, 0))] :: C :: G :: H :: F) := by
  have hle := hR.le
  refine callsA 45 Tryz.func15 rfl ?_
  refine seqE <| regionE <| pu1 <| nilO <| thenK_n <| seqE <| regionE <| pu1 <| nilO <| thenK_n <| seqE <| regionE <| pu2 ?_
  refine cX Tryz.call10 (tape_next (RdT.flat (hR.up 0 (by rfl))) (by omega) (Sat.flat1 hS) m0 (by omega)) ?_
  rintro _ w_1 ⟨r_3, rfl, hr_4, i_5, hi_6, hS_2⟩
  have hS_7 := Sat.unflat1 hS_2
  refine sAdd 1 r_3 ?_
  refine pu1 <| nilO <| thenK_n <| seqE <| seqE <| regionE <| pu1 <| nilO <| thenK_n <| blockE ?_
  have hS_8 := Sat.nilc hS_7
  have hO_9 := OwnT.nil (enc := encTask) (E := 45) (sz := 9) (fun _ => rfl)
  have hS_10 := Sat.nilc hS_8
  refine loopA (γ := Nat × Int × (List Task) × (Option Addr) × Nat × Nat × Chunk × Chunk) (fun ⟨i, iti, zs, azs, nzs, kzs, czs, Gzs⟩ => [(0, .pointer (some ⟨p, 0, none⟩)), (6, .int .i64 (1 + r_3)), (7, .int .i64 ((i : Nat) : Int)), (5, .slice azs nzs kzs)]) (fun ⟨i, iti, zs, azs, nzs, kzs, czs, Gzs⟩ w => Sat W w (Gzs :: czs :: [(p, .cells #[.slice a n k, .int .i64 iti] 73 (0, 0))] :: H :: F) ∧ i ≤ ((1 + r_3)).toNat ∧ (tasksOK 0 zs = true) ∧ (zs.length = i) ∧ ((∀ z ∈ zs, z.scratch ≤ 512)) ∧ ((∀ z ∈ zs, z.rows ≤ 3)) ∧ (0 ≤ iti ∧ iti ≤ n) ∧ OwnT encTask 45 9 azs nzs kzs zs czs ∧ (∀ z ∈ zs, Task.Ok [Gzs] z)) (fun ⟨i, iti, zs, azs, nzs, kzs, czs, Gzs⟩ => (((1 + r_3)).toNat) - i) (0, i_5, [], none, 0, 0, [], []) ⟨hS_10, by omega, rfl, by rfl, (by intro z hz; cases hz), (by intro z hz; cases hz), by omega, hO_9, (by intro z hz; cases hz)⟩ ?_
  rintro ⟨i, iti, zs, azs, nzs, kzs, czs, Gzs⟩ ρ w_11 ⟨hS_12, hi, hT, hzl, hSc, hRo, hiti, hOzs, hDzs⟩
  have hn_zs := hOzs.len; have hl_zs := hOzs.le
  refine seqE <| seqE <| regionE <| pu3 <| nilO <| thenK_n <| ?_
  refine cD (((i : Nat) : Int) < (1 + r_3)) (fun hc_13 => ?_) (fun hc_13 => ?_)
  rotate_left
  · refine exitE <| thenK_x <| thenK_x <| blockK_x <| thenK_n <| seqE <| regionE <| pu2 <| nilO <| thenK_n <| retE <| retT [.slice azs nzs kzs] <| ?_
    have hS_77 := (hS_12.picks [1, 2])
    exact ⟨_, _, _, zs, czs, Gzs, rfl, hOzs, hDzs, ⟨by omega, by omega, hT⟩, hSc, hRo, _, by omega, hS_77⟩
  refine skipE <| thenK_n <| seqE <| blockE <| seqE <| regionE <| pu1 ?_
  have hS_14 := (hS_12.pick 2 rfl)
  refine cX Tryz.call10 (tape_next (RdT.flat (hR.up 2 (by rfl))) (by omega) (Sat.flat1 hS_14) 3 (by omega)) ?_
  rintro _ w_15 ⟨r_17, rfl, hr_18, i_19, hi_20, hS_16⟩
  have hS_21 := Sat.unflat1 hS_16
  refine sAdd 1 r_17 ?_
  refine pu1 ?_
  refine sBS hS_21 #[.int .i64 16, .int .i64 0, .int .i64 48, .int .i64 512] Tryz.runUnderlying22 Tryz.sizeOf3 Tryz.zeroValue3 ?_
  intro b_22 w_23 hS_24
  have hS_25 := (hS_24.pick 1 rfl)
  refine cX Tryz.call16 (tape_pick (RdT.flat (hR.up 3 (by rfl))) (by omega) (Sat.flat1 hS_25) (RdT.flat (RdT.blk (enc := encI) (sz := 1) (xs := [16, 0, 48, 512]) (fun _ => (by rfl)) 4 0 rfl rfl rfl (by omega))) (by omega) (by omega)) ?_
  rintro _ w_26 ⟨x_28, rfl, hx_29, i_30, hi_31, hS_27⟩
  have hS_32 := Sat.unflat1 hS_27
  have hx_33 : (x_28 : Int) = 16 ∨ (x_28 : Int) = 0 ∨ (x_28 : Int) = 48 ∨ (x_28 : Int) = 512 := by simpa using hx_29
  refine pu1 ?_
  refine sAlloc hS_32 Tryz.zeroValue45 ?_
  intro b_34 w_35 hS_36
  refine sT hS_36 0 0 (.agg #[.int .i64 0, .int .i64 0, .int .i64 0, .int .i64 0, .int .i64 0, .int .i64 0, .slice none 0 0, .int .i64 (1 + r_17), .int .i64 x_28]) [.int .i64 0, .int .i64 0, .int .i64 0, .int .i64 0, .int .i64 0, .int .i64 0, .slice none 0 0, .int .i64 (1 + r_17), .int .i64 x_28] #[.int .i64 0, .int .i64 0, .int .i64 0, .int .i64 0, .int .i64 0, .int .i64 0, .slice none 0 0, .int .i64 (1 + r_17), .int .i64 x_28] Tryz.sizeOf45 ?_
  intro w_37 hS_38
  refine nilO <| thenK_n <| seqE <| seqE <| regionE <| pu1 <| nilO <| thenK_n <| blockE ?_
  have hS_39 := Sat.nilc hS_38
  have hO_40 := OwnT.nil (enc := encI) (E := 3) (sz := 1) (fun _ => rfl)
  refine loopA (γ := Nat × Int × (List Int) × (Option Addr) × Nat × Nat × Chunk) (fun ⟨j, itj, ds, ads, nds, kds, cds⟩ => [(0, .pointer (some ⟨p, 0, none⟩)), (6, .int .i64 (1 + r_3)), (7, .int .i64 ((i : Nat) : Int)), (5, .slice azs nzs kzs), (8, .pointer (some ⟨b_34, 0, none⟩)), (9, .int .i64 ((j : Nat) : Int))]) (fun ⟨j, itj, ds, ads, nds, kds, cds⟩ w => Sat W w (cds :: [(b_34, .cells #[.int .i64 0, .int .i64 0, .int .i64 0, .int .i64 0, .int .i64 0, .int .i64 0, .slice ads nds kds, .int .i64 (1 + r_17), .int .i64 x_28] 45 (0, 0))] :: [(p, .cells #[.slice a n k, .int .i64 itj] 73 (0, 0))] :: [(b_22, .cells #[.int .i64 16, .int .i64 0, .int .i64 48, .int .i64 512] 3 (0, 0))] :: Gzs :: czs :: H :: F) ∧ j ≤ i ∧ (ascFrom j (-1) ds = true) ∧ (ds.length ≤ j) ∧ (0 ≤ itj ∧ itj ≤ n) ∧ OwnT encI 3 1 ads nds kds ds cds) (fun ⟨j, itj, ds, ads, nds, kds, cds⟩ => i - j) (0, i_30, [], none, 0, 0, []) ⟨hS_39, by omega, rfl, by simp, by omega, hO_40⟩ ?_
  rintro ⟨j, itj, ds, ads, nds, kds, cds⟩ ρ w_41 ⟨hS_42, hj, hA, hdl, hitj, hOds⟩
  have hn_ds := hOds.len; have hl_ds := hOds.le
  refine seqE <| seqE <| regionE <| pu3 <| nilO <| thenK_n <| ?_
  refine cD (((j : Nat) : Int) < ((i : Nat) : Int)) (fun hc_43 => ?_) (fun hc_43 => ?_)
  · refine skipE <| thenK_n <| seqE <| blockE <| seqE <| regionE <| pu1 ?_
    have hS_44 := (hS_42.pick 2 rfl)
    refine cX Tryz.call10 (tape_next (RdT.flat (hR.up 5 (by rfl))) (by omega) (Sat.flat1 hS_44) 3 (by omega)) ?_
    rintro _ w_45 ⟨r_47, rfl, hr_48, i_49, hi_50, hS_46⟩
    have hS_51 := Sat.unflat1 hS_46
    refine pu1 <| nilO <| thenK_n <| ?_
    refine cE r_47 0 (fun hc_52 => ?_) (fun hc_52 => ?_)
    rotate_left
    · refine skipE <| blockK_n <| thenK_n <| regionE <| pu1 ?_
      refine sAdd ((j : Nat) : Int) 1 ?_
      refine pu1 <| nilO <| thenK_n <| ?_
      have hS_65 := (hS_51.picks [2, 2])
      exact ⟨(j + 1, i_49, ds, ads, nds, kds, cds), by first | omega | (dsimp only; omega), alA, hS_65, by omega, (asc_grow (a := 0) (by omega) hA), by first | omega | (simp; omega), by omega, hOds⟩
    refine regionE <| pu1 ?_
    refine sL hS_51 2 6 (.slice ads nds kds) (Tryz.isAgg22 _) ?_
    refine pu1 ?_
    refine sBS hS_51 #[.int .i64 ((j : Nat) : Int)] Tryz.runUnderlying22 Tryz.sizeOf3 Tryz.zeroValue3 ?_
    intro b_53 w_54 hS_55
    refine sApp (nb := 8) hS_55 hOds 2 (RdT.blk (enc := encI) (sz := 1) (xs := [((j : Nat) : Int)]) (fun _ => rfl) 1 0 rfl rfl rfl (by omega)) Tryz.underlying22 (i := Tryz.t3) (by kernel_rfl) (fun _ => rfl) ?_
    intro a_56 cap_57 c_58 w_59 hO_60 hS_61
    refine pu1 ?_
    refine tW hS_61 3 6 (.slice a_56 (nds + 1) cap_57) Tryz.sizeOf22 ?_
    intro w_62 hS_63
    refine nilO <| blockK_n <| thenK_n <| regionE <| pu1 ?_
    refine sAdd ((j : Nat) : Int) 1 ?_
    refine pu1 <| nilO <| thenK_n <| ?_
    have hS_64 := ((hS_63.picks [3, 3]).dropAt 2 rfl)
    exact ⟨(j + 1, i_49, (ds ++ [((j : Nat) : Int)]), a_56, (nds + 1), cap_57, c_58), by first | omega | (dsimp only; omega), alA, hS_64, by omega, (asc_add hA), by first | omega | (simp; omega), by omega, hO_60⟩
  refine exitE <| thenK_x <| thenK_x <| blockK_x <| thenK_n <| regionE <| pu1 ?_
  refine lA hS_42 1 0 9 (Tryz.isAgg45 _) (Tryz.sizeOf45 _) ?_
  refine sBS hS_42 #[.int .i64 0, .int .i64 0, .int .i64 0, .int .i64 0, .int .i64 0, .int .i64 0, .slice ads nds kds, .int .i64 (1 + r_17), .int .i64 x_28] Tryz.runUnderlying39 Tryz.sizeOf45 Tryz.zeroValue45 ?_
  intro b_66 w_67 hS_68
  refine sApp (nb := 88) hS_68 hOzs 6 (RdT.blk (enc := encTask) (sz := 9) (xs := [(⟨0, 0, 0, 0, 0, 0, ⟨ads, nds, kds, ds⟩, (1 + r_17), x_28⟩ : Task)]) (fun _ => rfl) 1 0 rfl rfl rfl (by omega)) Tryz.underlying39 (i := Tryz.t45) (by kernel_rfl) (fun _ => rfl) ?_
  intro a_69 cap_70 c_71 w_72 hO_73 hS_74
  refine pu1 <| nilO <| blockK_n <| thenK_n <| regionE <| pu1 ?_
  refine sAdd ((i : Nat) : Int) 1 ?_
  refine pu1 <| nilO <| thenK_n <| ?_
  have hS_75 := ((hS_74.picks [6, 6, 3]).drops [3, 3, 4])
  have hS_76 := (Sat.perm (cs' := (cds ++ Gzs) :: (c_71 :: [(p, .cells #[.slice a n k, .int .i64 itj] 73 (0, 0))] :: H :: F)) hS_75 (by simp))
  exact ⟨(i + 1, itj, (zs ++ [(⟨0, 0, 0, 0, 0, 0, ⟨ads, nds, kds, ds⟩, (1 + r_17), x_28⟩ : Task)]), a_69, (nzs + 1), cap_70, c_71, (cds ++ Gzs)), by first | omega | (dsimp only; omega), alA, hS_76, by omega, (tasksOK_snoc hT hzl (taskOK_of (by dsimp only; omega) (by dsimp only; rw [show i = j by omega]; exact hA))), by simp; omega, (by intro z hz; rcases List.mem_append.1 hz with h | h; exact hSc z h; rw [List.mem_singleton.1 h]; dsimp only; omega), (by intro z hz; rcases List.mem_append.1 hz with h | h; exact hRo z h; rw [List.mem_singleton.1 h]; dsimp only; omega), by omega, hO_73, (by
      intro z hz
      rcases List.mem_append.1 hz with h | h
      · exact (hDzs z h).of_mem (fun p hp => by simp at hp ⊢; simp [hp])
      · simp only [List.mem_singleton] at h; subst h; exact ⟨(hOds.rdAt (cs := [cds]) 0 rfl).of_mem (fun p hp => by simp at hp ⊢; simp [hp])⟩)⟩
end Go.Proofs.YtegmennaekipaaaGreat

namespace Go.Proofs.YtegmennaekipaaaGreat
open Go Go.E
set_option linter.unusedVariables false
set_option linter.unusedSimpArgs false
set_option linter.unnecessarySimpa false
set_option maxRecDepth 100000
set_option maxHeartbeats 2000000
variable {W w : World} {H : Chunk} {F : List Chunk}
structure BEnt where
  state : Int
  attempt : Int
  pending : Int
  next : Sl Int
def encBEnt (x : BEnt) : List Value := [.int .i64 x.state, .int .i64 x.attempt, .int .i64 x.pending, .slice x.next.a x.next.n x.next.k]
structure BEntV where
  state : Int
  attempt : Int
  pending : Int
  next : List Int
  deriving DecidableEq
def BEnt.v (x : BEnt) : BEntV := ⟨x.state, x.attempt, x.pending, x.next.l⟩
structure BEnt.Ok (cs : List Chunk) (q : BEnt) : Prop where
  next : RdT encI 1 cs q.next.a q.next.n q.next.k q.next.l
theorem BEnt.Ok.of_mem {cs cs' : List Chunk} {x : BEnt} (h : BEnt.Ok cs x) (hm : ∀ p ∈ cs.flatten, p ∈ cs'.flatten) : BEnt.Ok cs' x := ⟨h.next.of_mem hm⟩
/-! ### boards: what they are -/
structure BS where
  deps : List (List Int)
  st : List Int
  att : List Int
def stAt (l : List Int) (i : Int) : Int := if 0 ≤ i then l.getD i.toNat 0 else 0
def openB (st d : List Int) : Bool := d.any fun x => decide (stAt st x ≠ 4)
def nextOf : Nat → List (List Int) → Int → List Int
  | _, [], _ => []
  | k, d :: D, j => (if j ∈ d then [((k : Nat) : Int)] else []) ++ nextOf (k + 1) D j
def pendOf (st d : List Int) : Int := ((d.filter fun x => decide (stAt st x ≠ 4)).length : Nat)
def entV (B : BS) (q : Nat) : BEntV := ⟨B.st.getD q 0, B.att.getD q 0, pendOf B.st (B.deps.getD q []), nextOf 0 B.deps q⟩
def entsOf (B : BS) : List BEntV := (List.range B.deps.length).map (entV B)
def doneOf (B : BS) : Int := ((B.st.filter fun x => decide (x = 4)).length : Nat)
def st0 (d : List Int) : Int := if d.length = 0 then 2 else 1
def newB (l : List Task) : BS := ⟨l.map (·.deps.l), l.map (fun t => st0 t.deps.l), l.map (fun _ => 0)⟩
theorem nextOf_app (k : Nat) (D : List (List Int)) (d : List Int) (j : Int) : nextOf k (D ++ [d]) j = nextOf k D j ++ (if j ∈ d then [((k + D.length : Nat) : Int)] else []) := by
  induction D generalizing k with
  | nil => simp [nextOf]
  | cons e D ih => simp only [List.cons_append, nextOf, ih, List.append_assoc, List.length_cons]; congr 4; simp; omega
/-- The entries while the board is made: m tasks have their states; the dependencies D are in. -/
def entN (l : List Task) (m : Nat) (D : List (List Int)) (q : Nat) : BEntV :=
  if q < m then ⟨st0 ((l.map (·.deps.l)).getD q []), 0, (((l.map (·.deps.l)).getD q []).length : Nat), nextOf 0 D q⟩ else ⟨0, 0, 0, nextOf 0 D q⟩
theorem range_set {α : Type} (n i : Nat) (f : Nat → α) (y : α) : ((List.range n).map f).set i y = (List.range n).map fun q => if q = i then y else f q := by
  apply List.ext_getElem?
  intro q
  rw [List.getElem?_set, List.getElem?_map, List.getElem?_map]
  by_cases h : i = q
  · subst h
    by_cases h2 : i < n
    · simp [h2]
    · simp [h2]
  · rw [if_neg h]
    by_cases h2 : q < n
    · simp [h2, Ne.symm h]
    · simp [h2]
theorem map_range {α : Type} {n : Nat} {f g : Nat → α} (h : ∀ q, q < n → f q = g q) : (List.range n).map f = (List.range n).map g := by
  apply List.map_congr_left
  intro q hq
  exact h q (List.mem_range.1 hq)
theorem map_range_at {α : Type} {n i : Nat} {f : Nat → α} (h : i < n) : ((List.range n).map f)[i]? = some (f i) := by simp [h]
/-- What is known of an element. -/
theorem ent_at {es : List BEnt} {n i : Nat} {f : Nat → BEntV} {x : BEnt} (h : es.map BEnt.v = (List.range n).map f) (hx : es[i]? = some x) : i < n ∧ x.v = f i := by
  have h1 := map_at (f := BEnt.v) hx
  rw [h] at h1
  have hl : i < n := by
    have := (List.getElem?_eq_some_iff.1 h1).1
    simpa using this
  rw [map_range_at hl] at h1
  exact ⟨hl, (Option.some.inj h1).symm⟩
theorem ents_set {es : List BEnt} {n i : Nat} {f g : Nat → BEntV} {x' : BEnt} (h : es.map BEnt.v = (List.range n).map f) (h1 : ∀ q, q < n → q ≠ i → f q = g q) (h2 : i < n → x'.v = g i) : (es.set i x').map BEnt.v = (List.range n).map g := by
  rw [List.map_set, h, range_set]
  apply map_range
  intro q hq
  by_cases e : q = i
  · subst e; rw [if_pos rfl, h2 hq]
  · rw [if_neg e, h1 q hq e]
/-! ### entries each of which owns its list -/
def Nx (es : List BEnt) (cs : List Chunk) : Prop := es.length = cs.length ∧ ∀ (i : Nat) e c, es[i]? = some e → cs[i]? = some c → OwnT encI 3 1 e.next.a e.next.n e.next.k e.next.l c
theorem Nx.get {es : List BEnt} {cs : List Chunk} (h : Nx es cs) {i : Nat} {e : BEnt} (he : es[i]? = some e) : ∃ c, cs[i]? = some c ∧ OwnT encI 3 1 e.next.a e.next.n e.next.k e.next.l c := by
  have hl : i < cs.length := by rw [← h.1]; exact (List.getElem?_eq_some_iff.1 he).1
  exact ⟨cs[i], by simp [hl], h.2 i e _ he (by simp [hl])⟩
theorem Nx.set {es : List BEnt} {cs : List Chunk} (h : Nx es cs) {i : Nat} {e : BEnt} {c : Chunk} (hO : OwnT encI 3 1 e.next.a e.next.n e.next.k e.next.l c) : Nx (es.set i e) (cs.set i c) := by
  refine ⟨by simp [h.1], fun q e' c' h1 h2 => ?_⟩
  rw [List.getElem?_set] at h1 h2
  by_cases hq : i = q
  · rw [if_pos hq] at h1 h2
    split at h1
    · split at h2
      · cases h1; cases h2; exact hO
      · cases h2
    · cases h1
  · rw [if_neg hq] at h1 h2; exact h.2 q e' c' h1 h2
theorem Nx.keep {es : List BEnt} {cs : List Chunk} (h : Nx es cs) {i : Nat} {e e' : BEnt} (he : es[i]? = some e) (hn : e'.next = e.next) : Nx (es.set i e') cs := by
  obtain ⟨c, hc, hO⟩ := h.get he
  have h2 := h.set (i := i) (e := e') (c := c) (by rw [hn]; exact hO)
  have e2 : cs.set i c = cs := by
    apply List.ext_getElem?
    intro q
    rw [List.getElem?_set]
    by_cases hq : i = q
    · subst hq; rw [if_pos rfl, hc]; simp [(List.getElem?_eq_some_iff.1 hc).1]
    · rw [if_neg hq]
  rw [e2] at h2; exact h2
theorem Nx.rep (n : Nat) (z : BEnt) (hz : z.next = ⟨none, 0, 0, []⟩) : Nx (List.replicate n z) (List.replicate n []) := by
  refine ⟨by simp, fun i e c h1 h2 => ?_⟩
  have he := List.eq_of_mem_replicate (List.mem_of_getElem? h1)
  have hc := List.eq_of_mem_replicate (List.mem_of_getElem? h2)
  subst he; subst hc
  rw [hz]; exact OwnT.nil (fun _ => rfl)
theorem Nx.ok {es : List BEnt} {cs : List Chunk} (h : Nx es cs) : ∀ z ∈ es, BEnt.Ok [cs.flatten] z := by
  intro z hz
  obtain ⟨i, hi⟩ := List.mem_iff_getElem?.1 hz
  obtain ⟨c, hc, hO⟩ := h.get hi
  exact ⟨hO.rd (fun p hp => by simp only [List.flatten_cons, List.flatten_nil, List.append_nil]; exact mem_in i hc hp)⟩
theorem Sat.openN {W w : World} {cs : List Chunk} {c : Chunk} {A F : List Chunk} (i : Nat) (hi : cs[i]? = some c) (h : Sat W w (A ++ cs.flatten :: F)) : Sat W w (c :: A ++ (cs.eraseIdx i).flatten :: F) := by
  refine h.perm ?_
  have h1 := flatten_pick cs i c hi
  simp only [List.flatten_append, List.flatten_cons, List.cons_append]
  refine (List.Perm.append_left _ (List.Perm.append_right _ h1)).trans ?_
  simp only [← List.append_assoc]
  exact List.Perm.append_right _ (List.Perm.append_right _ List.perm_append_comm)
theorem Sat.shutN {W w : World} {cs : List Chunk} {c d : Chunk} {A F : List Chunk} (i : Nat) (hi : cs[i]? = some c) (h : Sat W w (d :: A ++ (cs.eraseIdx i).flatten :: F)) : Sat W w (A ++ (cs.set i d).flatten :: F) := by
  refine h.perm ?_
  have h1 := (flatten_set cs i c d hi).symm
  simp only [List.flatten_append, List.flatten_cons, List.cons_append]
  refine List.Perm.trans ?_ (List.Perm.append_left _ (List.Perm.append_right _ h1))
  simp only [← List.append_assoc]
  exact List.Perm.append_right _ (List.Perm.append_right _ List.perm_append_comm)
/-! ### making a board -/
theorem ents_init (l : List Task) (n : Nat) (z : BEnt) (hz : z.v = ⟨0, 0, 0, []⟩) : (List.replicate n z).map BEnt.v = (List.range n).map (entN l 0 []) := by
  rw [List.map_replicate, hz]
  apply List.ext_getElem?
  intro q
  by_cases h : q < n
  · simp [h, entN, nextOf]
  · simp [h]
theorem depsAt {l : List Task} {i : Nat} {t : Task} (h : l[i]? = some t) : (l.map (·.deps.l)).getD i [] = t.deps.l := by simp [List.getD_eq_getElem?_getD, h]
theorem ents_open {es : List BEnt} {l : List Task} {n i : Nat} {t : Task} {x x' : BEnt} (h : es.map BEnt.v = (List.range n).map (entN l i ((l.map (·.deps.l)).take i))) (ht : l[i]? = some t) (hx : es[i]? = some x)
    (h1 : x'.state = st0 t.deps.l) (h2 : x'.attempt = x.attempt) (h3 : x'.pending = (t.deps.l.length : Nat)) (h4 : x'.next = x.next) : (es.set i x').map BEnt.v = (List.range n).map (entN l (i + 1) ((l.map (·.deps.l)).take i ++ [t.deps.l.take 0])) := by
  have h0 := ent_at h hx
  have e1 := h0.2
  simp only [entN, Nat.lt_irrefl, if_false] at e1
  refine ents_set h (fun q hq hne => ?_) (fun hi => ?_)
  · simp only [entN, List.take_zero, nextOf_app, List.not_mem_nil, if_false, List.append_nil]
    by_cases h6 : q < i
    · rw [if_pos h6, if_pos (by omega)]
    · rw [if_neg h6, if_neg (by omega)]
  · simp only [entN, List.take_zero, nextOf_app, List.not_mem_nil, if_false, List.append_nil, Nat.lt_succ_self, if_true, depsAt ht, BEnt.v, h1, h2, h3, h4]
    have e2 := congrArg BEntV.attempt e1; have e3 := congrArg BEntV.next e1
    simp only [BEnt.v] at e2 e3
    rw [e2, e3]
theorem ents_dep {es : List BEnt} {l : List Task} {n i j : Nat} {t : Task} {d : Int} {x x' : BEnt} (h : es.map BEnt.v = (List.range n).map (entN l (i + 1) ((l.map (·.deps.l)).take i ++ [t.deps.l.take j]))) (ht : l[i]? = some t)
    (hd : t.deps.l[j]? = some d) (hA : ascFrom i (-1) t.deps.l = true) (hx : es[d.toNat]? = some x)
    (h1 : x'.state = x.state) (h2 : x'.attempt = x.attempt) (h3 : x'.pending = x.pending) (h4 : x'.next.l = x.next.l ++ [((i : Nat) : Int)]) : (es.set d.toNat x').map BEnt.v = (List.range n).map (entN l (i + 1) ((l.map (·.deps.l)).take i ++ [t.deps.l.take (j + 1)])) := by
  have hm := asc_mem hA d (List.mem_of_getElem? hd)
  have h0 := ent_at h hx
  have hil : i < l.length := (List.getElem?_eq_some_iff.1 ht).1
  have hli : ((l.map (·.deps.l)).take i).length = i := by simp; omega
  have hnot : d ∉ t.deps.l.take j := by
    intro hin
    have h5 : ascFrom i (-1) (t.deps.l.take (j + 1)) = true := by rw [← List.take_append_drop (j + 1) t.deps.l] at hA; exact asc_pre hA
    rw [asc_take hd, Bool.and_eq_true] at h5
    have h6 : ∀ (l : List Int) (a : Int), ascFrom i a l = true → ∀ y ∈ l, y ≤ lastD a l := by
      intro l
      induction l with
      | nil => intro _ _ y hy; cases hy
      | cons z l ih =>
        intro a ha y hy
        simp only [ascFrom, Bool.and_eq_true, decide_eq_true_eq] at ha
        rcases List.mem_cons.1 hy with rfl | hy
        · exact asc_last ha.2
        · exact ih z ha.2 y hy
    have h7 := h6 _ _ h5.1 d hin
    have h8 := h5.2
    simp at h8
    omega
  have key : ∀ q : Nat, q < n → nextOf 0 ((l.map (·.deps.l)).take i ++ [t.deps.l.take (j + 1)]) q = nextOf 0 ((l.map (·.deps.l)).take i ++ [t.deps.l.take j]) q ++ (if q = d.toNat then [((i : Nat) : Int)] else []) := by
    intro q hq
    rw [nextOf_app, nextOf_app, hli, take_succ_at hd, List.append_assoc]
    congr 1
    by_cases e : q = d.toNat
    · have e2 : ((q : Nat) : Int) = d := by omega
      rw [e2, if_pos (by simp), if_neg hnot, if_pos e]; simp
    · have e2 : ((q : Nat) : Int) ≠ d := by omega
      rw [if_neg e, List.append_nil]
      by_cases h9 : ((q : Nat) : Int) ∈ t.deps.l.take j
      · rw [if_pos (by simp [h9]), if_pos h9]
      · rw [if_neg (by simp [h9, e2]), if_neg h9]
  have e1 := h0.2
  refine ents_set h (fun q hq hne => ?_) (fun hi => ?_)
  · have hk := key q hq
    rw [if_neg hne, List.append_nil] at hk
    simp only [entN, hk]
  · have hk := key _ hi
    rw [if_pos rfl] at hk
    have a1 := congrArg BEntV.state e1; have a2 := congrArg BEntV.attempt e1; have a3 := congrArg BEntV.pending e1; have a4 := congrArg BEntV.next e1
    simp only [BEnt.v, entN] at a1 a2 a3 a4
    simp only [entN, BEnt.v, h1, h2, h3, h4, a1, a2, a3, a4, hk]
    split <;> rfl
theorem ents_done {es : List BEnt} {l : List Task} {n i : Nat} {t : Task} (h : es.map BEnt.v = (List.range n).map (entN l (i + 1) ((l.map (·.deps.l)).take i ++ [t.deps.l.take t.deps.l.length]))) (ht : l[i]? = some t) :
    es.map BEnt.v = (List.range n).map (entN l (i + 1) ((l.map (·.deps.l)).take (i + 1))) := by
  rw [h, List.take_length, take_succ_at (x := t.deps.l) (by simp [ht])]
theorem ents_new {es : List BEnt} {l : List Task} {n : Nat} (hn : l.length = n) (h : es.map BEnt.v = (List.range n).map (entN l n ((l.map (·.deps.l)).take n))) : es.map BEnt.v = entsOf (newB l) := by
  rw [h]
  unfold entsOf
  have hl : (newB l).deps.length = n := by simp [newB, hn]
  rw [hl, List.take_of_length_le (by simp [hn])]
  apply map_range
  intro q hq
  have hq2 : q < l.length := by omega
  simp only [entN, if_pos hq, entV, newB]
  have e1 : (l.map fun t => st0 t.deps.l).getD q 0 = st0 ((l.map (·.deps.l)).getD q []) := by simp [List.getD_eq_getElem?_getD, hq2]
  have e2 : (l.map fun _ => (0 : Int)).getD q 0 = 0 := by simp [List.getD_eq_getElem?_getD, hq2]
  have e3 : ∀ x, stAt (l.map fun t => st0 t.deps.l) x ≠ 4 := by
    intro x
    unfold stAt
    split
    · rw [List.getD_eq_getElem?_getD, List.getElem?_map]
      cases l[x.toNat]? with
      | none => simp
      | some t => simp [st0]; split <;> omega
    · omega
  have e4 : ∀ d, pendOf (l.map fun t => st0 t.deps.l) d = (d.length : Nat) := by
    intro d
    unfold pendOf
    rw [List.filter_eq_self.2 (fun x _ => by simp [e3 x])]
  rw [e1, e2, e4]
theorem done_new (l : List Task) : doneOf (newB l) = 0 := by
  unfold doneOf newB
  rw [List.filter_eq_nil_iff.2]
  · rfl
  · intro x hx
    obtain ⟨t, _, rfl⟩ := List.mem_map.1 hx
    simp [st0]; split <;> omega
theorem asc_len {i : Int} : ∀ {l : List Int} {a : Int}, a < i → ascFrom i a l = true → ((l.length : Nat) : Int) ≤ i - 1 - a
  | [], _, h0, _ => by simp; omega
  | y :: l, _, _, h => by
    simp only [ascFrom, Bool.and_eq_true, decide_eq_true_eq] at h
    have := asc_len (l := l) h.1.2 h.2
    simp only [List.length_cons]; omega

/-- The program's board at p: M is its memory. -/
def BoardR (p : Nat) (B : BS) (M : Chunk) : Prop := ∃ (a : Option Addr) (n k : Nat) (es : List BEnt) (c G : Chunk),
  M = [(p, .cells #[.slice a n k, .int .i64 (doneOf B)] 162 (0, 0))] ++ (c ++ G) ∧ OwnT encBEnt 165 4 a n k es c ∧ (∀ z ∈ es, BEnt.Ok [G] z) ∧ es.map BEnt.v = entsOf B
/-- The reference's board at p. -/
def RefR (p : Nat) (B : BS) (M : Chunk) : Prop := ∃ (a : Option Addr) (n k : Nat) (ts : List Task) (sa : Option Addr) (sn sk : Nat) (ta : Option Addr) (tn tk : Nat) (c G cs ct : Chunk),
  M = [(p, .cells #[.slice a n k, .slice sa sn sk, .slice ta tn tk] 169 (0, 0))] ++ (c ++ (G ++ (cs ++ ct))) ∧ OwnT encTask 45 9 a n k ts c ∧ (∀ z ∈ ts, Task.Ok [G] z) ∧ OwnT encI 3 1 sa sn sk B.st cs ∧ OwnT encI 3 1 ta tn tk B.att ct ∧ ts.map (·.deps.l) = B.deps
theorem tasksOK_at {l : List Task} {i : Nat} {t : Task} (h : tasksOK 0 l = true) (hx : l[i]? = some t) : taskOK i t = true := by
  cases h2 : taskOK i t with
  | true => rfl
  | false => rw [tasksOK_no hx h2] at h; cases h
theorem taskOK_asc {i : Int} {t : Task} (h : taskOK i t = true) : ascFrom i (-1) t.deps.l = true := by unfold taskOK at h; simp only [Bool.and_eq_true] at h; exact h.2
end Go.Proofs.YtegmennaekipaaaGreat
