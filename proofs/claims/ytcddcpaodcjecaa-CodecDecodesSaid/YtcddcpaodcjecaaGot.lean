import Derived.Test.YtcddcpaodcjecaaPut
namespace Go.Proofs.Ytcddcpaodcjecaa
open Go Go.E
set_option linter.unusedVariables false
set_option linter.unusedSimpArgs false
set_option linter.unnecessarySimpa false
set_option maxRecDepth 100000
set_option maxHeartbeats 2000000

-- squeezed
def WfI (x : Int) : Prop := -9223372036854775808 ≤ x ∧ x ≤ 9223372036854775807
/-- From the bytes r0 a value was read, and r1 is left; b0, b1: whether the reader had failed. -/
structure Got {α : Type} (enc : α → List Int) (wf : α → Prop) (r0 : List Int) (b0 : Bool) (v : α) (r1 : List Int) (b1 : Bool) : Prop where
  snd : b1 = false → b0 = false ∧ wf v ∧ r0 = bytesOf (enc v) ++ r1
  cmp : b0 = false → ∀ v0 r, wf v0 → r0 = bytesOf (enc v0) ++ r → b1 = false
  len : r1.length ≤ r0.length
  byt : Bytes r0 → Bytes r1
/-- No encoding is the beginning of another. -/
def Pf {α : Type} (enc : α → List Int) (wf : α → Prop) : Prop := ∀ v v' r r', wf v → wf v' → bytesOf (enc v) ++ r = bytesOf (enc v') ++ r' → v = v' ∧ r = r'
theorem be8_inj {x y : Int} (hx : WfI x) (hy : WfI y) (h : be8 x = be8 y) : x = y := by
  simp only [be8, List.cons.injEq, and_true] at h
  unfold WfI at hx hy
  omega
theorem be8_pf {x y : Int} {r r' : List Int} (hx : WfI x) (hy : WfI y) (h : be8 x ++ r = be8 y ++ r') : x = y ∧ r = r' := by
  have := List.append_inj h (by simp [be8_len])
  exact ⟨be8_inj hx hy this.1, this.2⟩
def encN (x : Int) : List Int := [x]
theorem bytes_encN (x : Int) : bytesOf (encN x) = be8 x := by simp [bytesOf, encN]
theorem pfI : Pf encN WfI := by
  intro v v' r r' h h' e
  rw [bytes_encN, bytes_encN] at e
  exact be8_pf h h' e
def encP {α β : Type} (f : α → List Int) (g : β → List Int) (p : α × β) : List Int := f p.1 ++ g p.2
def wfP {α β : Type} (f : α → Prop) (g : β → Prop) (p : α × β) : Prop := f p.1 ∧ g p.2
theorem Pf.pair {α β : Type} {f : α → List Int} {g : β → List Int} {wf : α → Prop} {wg : β → Prop} (hf : Pf f wf) (hg : Pf g wg) : Pf (encP f g) (wfP wf wg) := by
  intro ⟨a, b⟩ ⟨a', b'⟩ r r' h h' e
  simp only [encP, bytesOf_app, List.append_assoc] at e
  obtain ⟨rfl, e2⟩ := hf _ _ _ _ h.1 h'.1 e
  obtain ⟨rfl, e3⟩ := hg _ _ _ _ h.2 h'.2 e2
  exact ⟨rfl, e3⟩
theorem Got.pair {α β : Type} {f : α → List Int} {g : β → List Int} {wf : α → Prop} {wg : β → Prop} {r0 r1 r2 : List Int} {b0 b1 b2 : Bool} {a : α} {b : β} (hf : Pf f wf) (hA : Got f wf r0 b0 a r1 b1) (hB : Got g wg r1 b1 b r2 b2) :
  Got (encP f g) (wfP wf wg) r0 b0 (a, b) r2 b2 := by
 refine ⟨fun h => ?_, fun h v0 r hw he => ?_, Nat.le_trans hB.len hA.len, fun h => hB.byt (hA.byt h)⟩
 ·obtain ⟨h1, hw, e⟩ := hB.snd h
  obtain ⟨h2, hw2, e2⟩ := hA.snd h1
  exact ⟨h2, ⟨hw2, hw⟩, by simp only [encP, bytesOf_app, List.append_assoc]; rw [e2, e]⟩
 ·simp only [encP, bytesOf_app, List.append_assoc] at he
  have h1 := hA.cmp h v0.1 _ hw.1 he
  obtain ⟨_, hwa, e2⟩ := hA.snd h1
  rw [he] at e2
  obtain ⟨_, e3⟩ := hf _ _ _ _ hw.1 hwa e2
  exact hB.cmp h1 v0.2 r hw.2 e3.symm
/-- The same, told of another type. -/
theorem Got.map {α β : Type} {f : α → List Int} {g : β → List Int} {wf : α → Prop} {wg : β → Prop} {r0 r1 : List Int} {b0 b1 : Bool} {a : α} (φ : α → β) (hA : Got f wf r0 b0 a r1 b1) (he : ∀ a, wf a → g (φ a) = f a) (hw : ∀ a, wf a → wg (φ a)) (hs : ∀ b, wg b → ∃ a, wf a ∧ φ a = b) :
    Got g wg r0 b0 (φ a) r1 b1 := by
  refine ⟨fun h => ?_, fun h v0 r hw0 e => ?_, hA.len, hA.byt⟩
  · obtain ⟨h1, h2, h3⟩ := hA.snd h
    exact ⟨h1, hw _ h2, by rw [he _ h2]; exact h3⟩
  · obtain ⟨a0, h1, rfl⟩ := hs _ hw0
    exact hA.cmp h a0 r h1 (by rw [he _ h1] at e; exact e)
theorem Pf.map {α β : Type} {f : α → List Int} {g : β → List Int} {wf : α → Prop} {wg : β → Prop} (φ : α → β) (hf : Pf f wf) (he : ∀ a, wf a → g (φ a) = f a) (hs : ∀ b, wg b → ∃ a, wf a ∧ φ a = b) : Pf g wg := by
  intro v v' r r' h h' e
  obtain ⟨a, ha, rfl⟩ := hs _ h
  obtain ⟨a', ha', rfl⟩ := hs _ h'
  rw [he _ ha, he _ ha'] at e
  obtain ⟨rfl, e2⟩ := hf _ _ _ _ ha ha' e
  exact ⟨rfl, e2⟩
/-- i elements of a list -/
def wfN {α : Type} (wf : α → Prop) (i : Nat) (l : List α) : Prop := l.length = i ∧ ∀ x ∈ l, wf x
def encF {α : Type} (f : α → List Int) (l : List α) : List Int := l.flatMap f
theorem Pf.listN {α : Type} {f : α → List Int} {wf : α → Prop} (hf : Pf f wf) (n : Nat) : Pf (encF f) (wfN wf n) := by
 induction n with
 | zero =>
  intro v v' r r' h h' e
  have h1 := List.eq_nil_of_length_eq_zero h.1
  have h2 := List.eq_nil_of_length_eq_zero h'.1
  subst h1; subst h2
  exact ⟨rfl, by simpa [encF, bytesOf] using e⟩
 | succ n ih =>
  intro v v' r r' h h' e
  cases v with
  | nil => have := h.1; simp at this
  | cons x v =>
   cases v' with
   | nil => have := h'.1; simp at this
   | cons x' v' =>
    simp only [encF, List.flatMap_cons, bytesOf_app, List.append_assoc] at e
    obtain ⟨rfl, e2⟩ := hf _ _ _ _ (h.2 x (by simp)) (h'.2 x' (by simp)) e
    obtain ⟨rfl, e3⟩ := ih v v' r r' ⟨by have := h.1; simp at this; exact this, fun y hy => h.2 y (by simp [hy])⟩ ⟨by have := h'.1; simp at this; exact this, fun y hy => h'.2 y (by simp [hy])⟩ e2
    exact ⟨rfl, e3⟩
theorem Got.none {α : Type} {f : α → List Int} {wf : α → Prop} (r : List Int) (b : Bool) : Got (encF f) (wfN wf 0) r b [] r b :=
  ⟨fun h => ⟨h, ⟨rfl, fun _ hx => by cases hx⟩, rfl⟩, fun h _ _ _ _ => h, Nat.le_refl _, fun h => h⟩
theorem Got.snoc {α : Type} {f : α → List Int} {wf : α → Prop} {i : Nat} {r0 r1 r2 : List Int} {b0 b1 b2 : Bool} {l : List α} {x : α} (hf : Pf f wf) (hA : Got (encF f) (wfN wf i) r0 b0 l r1 b1) (hB : Got f wf r1 b1 x r2 b2) :
  Got (encF f) (wfN wf (i + 1)) r0 b0 (l ++ [x]) r2 b2 := by
 refine (Got.pair (hf.listN i) hA hB).map (g := encF f) (wg := wfN wf (i + 1)) (fun p => p.1 ++ [p.2]) (fun a _ => by simp [encF, encP]) (fun a ha => ?_) (fun l hl => ?_)
 ·refine ⟨by simp [ha.1.1], fun y hy => ?_⟩
  rcases List.mem_append.1 hy with h | h
  ·exact ha.1.2 y h
  ·simp at h; subst h; exact ha.2
 ·have hne : l ≠ [] := by intro h; subst h; have := hl.1; simp at this
  refine ⟨(l.dropLast, l.getLast hne), ⟨⟨by simp [hl.1], fun y hy => hl.2 y (List.dropLast_subset l hy)⟩, hl.2 _ (List.getLast_mem hne)⟩, List.dropLast_concat_getLast hne⟩
/-- Failed within a list: the list has not been read. -/
theorem Got.stop {α : Type} {f : α → List Int} {wf : α → Prop} {i n : Nat} {r0 r1 : List Int} {b0 : Bool} {l : List α} (hA : Got (encF f) (wfN wf i) r0 b0 l r1 true) (hi : i ≤ n) (v : List α) : Got (encF f) (wfN wf n) r0 b0 v r1 true := by
  refine ⟨(fun h => nomatch h), (fun h v0 r hw he => ?_), hA.len, hA.byt⟩
  refine hA.cmp h (v0.take i) (bytesOf (encF f (v0.drop i)) ++ r) ⟨by simp [hw.1]; omega, fun x hx => hw.2 x (List.mem_of_mem_take hx)⟩ ?_
  rw [← List.append_assoc, ← bytesOf_app, he]
  congr 2
  simp only [encF]
  rw [← List.flatMap_append, List.take_append_drop]
/-- Behind a failure. -/
theorem Got.dead {α : Type} {f : α → List Int} {wf : α → Prop} (r : List Int) (v : α) : Got f wf r true v r true :=
  ⟨(fun h => nomatch h), (fun h => nomatch h), Nat.le_refl _, fun h => h⟩
theorem Got.any {α : Type} {f : α → List Int} {wf : α → Prop} {r0 r1 : List Int} {b0 : Bool} {v : α} (h : Got f wf r0 b0 v r1 true) (v' : α) : Got f wf r0 b0 v' r1 true :=
  ⟨(fun h => nomatch h), h.cmp, h.len, h.byt⟩
/-- The number of the elements of a list, each of size numbers at least. -/
structure GotC (size : Nat) (r0 : List Int) (b0 : Bool) (n : Int) (r1 : List Int) (b1 : Bool) : Prop where
  snd : b1 = false → b0 = false ∧ r0 = be8 n ++ r1
  cmp : b0 = false → ∀ (n0 : Nat) r, WfI n0 → r0 = be8 n0 ++ r → n0 * (8 * size) ≤ r.length → b1 = false
  len : r1.length ≤ r0.length
  byt : Bytes r0 → Bytes r1
  rng : 0 ≤ n ∧ 8 * n ≤ r1.length ∧ WfI n
def encL {α : Type} (f : α → List Int) (l : List α) : List Int := (l.length : Int) :: l.flatMap f
def wfL {α : Type} (wf : α → Prop) (l : List α) : Prop := WfI l.length ∧ ∀ x ∈ l, wf x
theorem Pf.list {α : Type} {f : α → List Int} {wf : α → Prop} (hf : Pf f wf) : Pf (encL f) (wfL wf) := by
  intro v v' r r' h h' e
  simp only [encL, bytesOf_cons, List.append_assoc] at e
  obtain ⟨e1, e2⟩ := be8_pf h.1 h'.1 e
  exact hf.listN v.length _ _ _ _ ⟨rfl, h.2⟩ ⟨by omega, h'.2⟩ e2
theorem flat_ge {α : Type} {f : α → List Int} {size : Nat} (hs : ∀ x, size ≤ (f x).length) (l : List α) : l.length * size ≤ (l.flatMap f).length := by
  induction l with
  | nil => simp
  | cons x l ih => have := hs x; simp only [List.flatMap_cons, List.length_append, List.length_cons, Nat.add_mul, Nat.one_mul]; omega
theorem Got.list {α : Type} {f : α → List Int} {wf : α → Prop} {size : Nat} {r0 rc r1 : List Int} {b0 bc b1 : Bool} {n : Int} {l : List α} (hs : ∀ x, size ≤ (f x).length) (hC : GotC size r0 b0 n rc bc) (hA : Got (encF f) (wfN wf n.toNat) rc bc l r1 b1) :
  Got (encL f) (wfL wf) r0 b0 l r1 b1 := by
 refine ⟨fun h => ?_, fun h v0 r hw he => ?_, Nat.le_trans hA.len hC.len, fun h => hA.byt (hC.byt h)⟩
 ·obtain ⟨h1, ⟨h2, h3⟩, e⟩ := hA.snd h
  obtain ⟨h4, e2⟩ := hC.snd h1
  have hn : (l.length : Int) = n := by have := hC.rng; omega
  refine ⟨h4, ⟨by rw [hn]; exact hC.rng.2.2, h3⟩, ?_⟩
  rw [encL, bytesOf_cons, hn, List.append_assoc, e2, e]; rfl
 ·simp only [encL, bytesOf_cons, List.append_assoc] at he
  have hl := flat_ge hs v0
  have h1 := hC.cmp h v0.length _ hw.1 he (by
   rw [List.length_append, bytesOf_len]
   have : v0.length * (8 * size) = 8 * (v0.length * size) := by rw [Nat.mul_left_comm]
   omega)
  obtain ⟨_, e2⟩ := hC.snd h1
  rw [he] at e2
  obtain ⟨e3, e4⟩ := be8_pf hw.1 hC.rng.2.2 e2
  exact hA.cmp h1 v0 r ⟨om, hw.2⟩ e4.symm
theorem take8 {l : List Int} {x0 x1 x2 x3 x4 x5 x6 x7 : Int} (h0 : l[0]? = some x0) (h1 : l[1]? = some x1) (h2 : l[2]? = some x2) (h3 : l[3]? = some x3) (h4 : l[4]? = some x4) (h5 : l[5]? = some x5) (h6 : l[6]? = some x6) (h7 : l[7]? = some x7) :
    l = [x0, x1, x2, x3, x4, x5, x6, x7] ++ l.drop 8 := by
  match l with
  | [] => simp at h0
  | [_] => simp at h1
  | [_, _] => simp at h2
  | [_, _, _] => simp at h3
  | [_, _, _, _] => simp at h4
  | [_, _, _, _, _] => simp at h5
  | [_, _, _, _, _, _] => simp at h6
  | [_, _, _, _, _, _, _] => simp at h7
  | a :: b :: c :: d :: e :: f :: g :: h :: l => simp at h0 h1 h2 h3 h4 h5 h6 h7; simp [*]
theorem dec8 {x0 x1 x2 x3 x4 x5 x6 x7 : Int} (h0 : 0 ≤ x0 ∧ x0 < 256) (h1 : 0 ≤ x1 ∧ x1 < 256) (h2 : 0 ≤ x2 ∧ x2 < 256) (h3 : 0 ≤ x3 ∧ x3 < 256) (h4 : 0 ≤ x4 ∧ x4 < 256) (h5 : 0 ≤ x5 ∧ x5 < 256) (h6 : 0 ≤ x6 ∧ x6 < 256) (h7 : 0 ≤ x7 ∧ x7 < 256) (E : Int)
  (hE : E = x0 * 72057594037927936 + x1 * 281474976710656 + x2 * 1099511627776 + x3 * 4294967296 + x4 * 16777216 + x5 * 65536 + x6 * 256 + x7) : be8 (IntKind.i64.wrap E) = [x0, x1, x2, x3, x4, x5, x6, x7] ∧ WfI (IntKind.i64.wrap E) := by
 have hm : IntKind.i64.wrap E % 18446744073709551616 = E := by
  simp only [IntKind.wrap, IntKind.bits, IntKind.signed]; simp; split <;> omega
 have hw : WfI (IntKind.i64.wrap E) := by
  unfold WfI; simp only [IntKind.wrap, IntKind.bits, IntKind.signed]; simp; split <;> omega
 refine ⟨?_, hw⟩
 simp only [be8, hm, List.cons.injEq, and_true]
 refine ⟨?_, ?_, ?_, ?_, ?_, ?_, ?_, ?_⟩ <;> omega

theorem GotC.bad {size : Nat} {r r1 : List Int} {b b1 : Bool} {v : Int} (hG : Got encN WfI r b v r1 b1) (h : v < 0 ∨ (r1.length : Int) < v * ((8 * size : Nat) : Int)) : GotC size r b 0 r1 true := by
  refine ⟨(fun h => nomatch h), (fun hb n0 r2 hw he hle => ?_), hG.len, hG.byt, ⟨by omega, by omega, by unfold WfI; omega⟩⟩
  have h1 := hG.cmp hb n0 r2 hw (by rw [bytes_encN]; exact he)
  obtain ⟨_, hwv, e2⟩ := hG.snd h1
  rw [bytes_encN, he] at e2
  obtain ⟨rfl, rfl⟩ := be8_pf hw hwv e2
  rcases h with h | h
  · omega
  · have : ((n0 * (8 * size) : Nat) : Int) ≤ r2.length := by exact_mod_cast hle
    rw [Int.natCast_mul] at this
    omega
theorem GotC.good {size : Nat} {r r1 : List Int} {b b1 : Bool} {v : Int} (hG : Got encN WfI r b v r1 b1) (hw : WfI v) (h0 : 0 ≤ v) (h8 : 8 * v ≤ r1.length) : GotC size r b v r1 b1 := by
  refine ⟨fun h => ?_, fun hb n0 r2 hw he hle => ?_, hG.len, hG.byt, ⟨h0, h8, hw⟩⟩
  · obtain ⟨h1, _, e⟩ := hG.snd h
    exact ⟨h1, by rw [bytes_encN] at e; exact e⟩
  · exact hG.cmp hb n0 r2 hw (by rw [bytes_encN]; exact he)
theorem Got.fail {r : List Int} {b : Bool} (v : Int) (h : b = true ∨ r.length < 8) : Got encN WfI r b v r true := by
  refine ⟨(fun h => nomatch h), (fun hb v0 r2 _ he => ?_), Nat.le_refl _, fun h => h⟩
  rcases h with h | h
  · rw [h] at hb; exact hb
  · rw [he, bytes_encN] at h; simp [be8_len] at h; omega
theorem Got.read {r : List Int} {v : Int} {l : List Int} (hl : r = l ++ r.drop 8) (hv : be8 v = l) (hw : WfI v) : Got encN WfI r false v (r.drop 8) false := by
  refine ⟨fun _ => ⟨rfl, hw, by rw [bytes_encN, hv]; exact hl⟩, fun _ _ _ _ _ => rfl, by simp, fun h x hx => h x (List.mem_of_mem_drop hx)⟩
def RdrR (T : Nat) (H : Chunk) (p : Nat) (r : List Int) (b : Bool) (fp : Chunk) : Prop := ∃ (a : Option Addr) (n k : Nat), fp = [(p, Obj.cells #[.slice a n k, .bool b] T (0, 0))] ∧ RdT encB 1 [H] a n k r ∧ Bytes r ∧ r.length ≤ 262144
theorem nInts_enc (l : List Int) : nInts l = encL encN l := by
  simp only [nInts, encL]
  rw [show l.flatMap encN = l from flat_one l]

def wfTap (t : TapV) : Prop := WfI t.first ∧ wfL WfI t.weights
def wfOp (p : POp) : Prop := WfI p.code ∧ WfI p.arg
theorem pfN : Pf (encL encN) (wfL WfI) := pfI.list
theorem Got.tap {r0 r1 r2 : List Int} {b0 b1 b2 : Bool} {v : Int} {l : List Int} (hA : Got encN WfI r0 b0 v r1 b1) (hB : Got (encL encN) (wfL WfI) r1 b1 l r2 b2) : Got nTap wfTap r0 b0 ⟨v, l⟩ r2 b2 :=
  (Got.pair pfI hA hB).map (fun p => (⟨p.1, p.2⟩ : TapV)) (fun a _ => by simp [nTap, nInts_enc, encP, encN]) (fun a h => h) (fun b h => ⟨(b.first, b.weights), h, rfl⟩)
theorem pfTap : Pf nTap wfTap := (pfI.pair pfN).map (fun p => (⟨p.1, p.2⟩ : TapV)) (fun a _ => by simp [nTap, nInts_enc, encP, encN]) (fun b h => ⟨(b.first, b.weights), h, rfl⟩)
theorem Got.op {r0 r1 r2 : List Int} {b0 b1 b2 : Bool} {v u : Int} (hA : Got encN WfI r0 b0 v r1 b1) (hB : Got encN WfI r1 b1 u r2 b2) : Got nOp wfOp r0 b0 ⟨v, u⟩ r2 b2 :=
  (Got.pair pfI hA hB).map (fun p => (⟨p.1, p.2⟩ : POp)) (fun a _ => by simp [nOp, encP, encN]) (fun a h => h) (fun b h => ⟨(b.code, b.arg), h, rfl⟩)
theorem pfOp : Pf nOp wfOp := (pfI.pair pfI).map (fun p => (⟨p.1, p.2⟩ : POp)) (fun a _ => by simp [nOp, encP, encN]) (fun b h => ⟨(b.code, b.arg), h, rfl⟩)
theorem nTap_ge (t : TapV) : 2 ≤ (nTap t).length := by simp [nTap, nInts]
theorem nTap_ge1 (t : TapV) : 1 ≤ (nTap t).length := by simp [nTap, nInts]
theorem nOp_ge1 (t : POp) : 1 ≤ (nOp t).length := by simp [nOp]
theorem nOp_ge (t : POp) : 2 ≤ (nOp t).length := by simp [nOp]
theorem encN_ge (t : Int) : 1 ≤ (encN t).length := by simp [encN]

def encBo (b : Bool) : List Int := [nBool b]
def wfBo (_ : Bool) : Prop := True
theorem nBool_wf (b : Bool) : WfI (nBool b) := by cases b <;> simp [nBool, WfI]
theorem nBool_inj {b c : Bool} (h : nBool b = nBool c) : b = c := by cases b <;> cases c <;> simp [nBool] at h ⊢
theorem bytes_encBo (b : Bool) : bytesOf (encBo b) = be8 (nBool b) := by simp [bytesOf, encBo]
theorem pfBo : Pf encBo wfBo := by
  intro v v' r r' _ _ e
  rw [bytes_encBo, bytes_encBo] at e
  obtain ⟨h1, h2⟩ := be8_pf (nBool_wf v) (nBool_wf v') e
  exact ⟨nBool_inj h1, h2⟩
theorem Got.bool {r0 r1 : List Int} {b0 b1 : Bool} {n : Int} (v : Bool) (h : Got encN WfI r0 b0 n r1 b1) (hn : n = nBool v) : Got encBo wfBo r0 b0 v r1 b1 := by
  subst hn
  refine ⟨fun hb => ?_, fun hb v0 r _ he => h.cmp hb (nBool v0) r (nBool_wf v0) (by rw [bytes_encN, ← bytes_encBo]; exact he), h.len, h.byt⟩
  obtain ⟨h1, _, h3⟩ := h.snd hb
  exact ⟨h1, trivial, by rw [bytes_encBo, ← bytes_encN]; exact h3⟩
theorem Got.boolbad {r0 r1 : List Int} {b0 b1 : Bool} {n : Int} (v : Bool) (h : Got encN WfI r0 b0 n r1 b1) (h0 : n ≠ 0) (h1 : n ≠ 1) : Got encBo wfBo r0 b0 v r1 true := by
  refine ⟨(fun h => nomatch h), fun hb v0 r _ he => ?_, h.len, h.byt⟩
  rw [bytes_encBo] at he
  have hb1 := h.cmp hb (nBool v0) r (nBool_wf v0) (by rw [bytes_encN]; exact he)
  obtain ⟨_, hw, h3⟩ := h.snd hb1
  rw [bytes_encN, he] at h3
  obtain ⟨e, _⟩ := be8_pf (nBool_wf v0) hw h3
  cases v0 <;> simp [nBool] at e <;> omega
theorem nPlane_ge (t : PlaneV) : 4 ≤ (nPlane t).length := by simp [nPlane, nInts]
theorem nStage_ge (t : StageV) : 18 ≤ (nStage t).length := by simp [nStage, nInts, nTaps, nOps]; omega
theorem nPlane_ge1 (t : PlaneV) : 1 ≤ (nPlane t).length := by simp [nPlane, nInts]
theorem nStage_ge1 (t : StageV) : 1 ≤ (nStage t).length := by simp [nStage, nInts]
def wfPlane (s : PlaneV) : Prop := WfI s.w ∧ WfI s.h ∧ WfI s.max_ ∧ (wfL WfI) s.pix
theorem Got.plane {r0 r1 r2 r3 r4 : List Int} {b0 b1 b2 b3 b4 : Bool} {v0 : Int} {v1 : Int} {v2 : Int} {v3 : List Int} (h0 : Got encN WfI r0 b0 v0 r1 b1) (h1 : Got encN WfI r1 b1 v1 r2 b2) (h2 : Got encN WfI r2 b2 v2 r3 b3) (h3 : Got (encL encN) (wfL WfI) r3 b3 v3 r4 b4) : Got nPlane wfPlane r0 b0 ⟨v0, v1, v2, v3⟩ r4 b4 := by
  have H := Got.map (g := nPlane) (wg := wfPlane) (fun p : (Int) × (Int) × (Int) × (List Int) => (⟨p.1, p.2.1, p.2.2.1, p.2.2.2⟩ : PlaneV)) (Got.pair pfI h0 (Got.pair pfI h1 (Got.pair pfI h2 h3))) (fun p _ => by simp [nPlane, nInts_enc, encP, encN, encBo, encL, nTaps, nOps]) (fun p h => h) (fun s h => ⟨(s.w, s.h, s.max_, s.pix), h, rfl⟩)
  exact H
theorem pfPlane : Pf nPlane wfPlane := Pf.map (g := nPlane) (wg := wfPlane) (fun p : (Int) × (Int) × (Int) × (List Int) => (⟨p.1, p.2.1, p.2.2.1, p.2.2.2⟩ : PlaneV)) (Pf.pair pfI (Pf.pair pfI (Pf.pair pfI pfN))) (fun p _ => by simp [nPlane, nInts_enc, encP, encN, encBo, encL, nTaps, nOps]) (fun s h => ⟨(s.w, s.h, s.max_, s.pix), h, rfl⟩)
def wfStage (s : StageV) : Prop := WfI s.kind ∧ WfI s.a ∧ WfI s.b ∧ wfBo s.barrier ∧ WfI s.edgePolicy ∧ WfI s.edgeFill ∧ WfI s.kW ∧ WfI s.kH ∧ (wfL WfI) s.weights ∧ (wfL WfI) s.row ∧ (wfL WfI) s.col ∧ WfI s.shift ∧ WfI s.shift2 ∧ (wfL wfTap) s.x ∧ (wfL wfTap) s.y ∧ WfI s.bins ∧ (wfL wfOp) s.ops ∧ WfI s.max_
theorem Got.stage {r0 r1 r2 r3 r4 r5 r6 r7 r8 r9 r10 r11 r12 r13 r14 r15 r16 r17 r18 : List Int} {b0 b1 b2 b3 b4 b5 b6 b7 b8 b9 b10 b11 b12 b13 b14 b15 b16 b17 b18 : Bool} {v0 : Int} {v1 : Int} {v2 : Int} {v3 : Bool} {v4 : Int} {v5 : Int} {v6 : Int} {v7 : Int} {v8 : List Int} {v9 : List Int} {v10 : List Int} {v11 : Int} {v12 : Int} {v13 : List TapV} {v14 : List TapV} {v15 : Int} {v16 : List POp} {v17 : Int} (h0 : Got encN WfI r0 b0 v0 r1 b1) (h1 : Got encN WfI r1 b1 v1 r2 b2) (h2 : Got encN WfI r2 b2 v2 r3 b3) (h3 : Got encBo wfBo r3 b3 v3 r4 b4) (h4 : Got encN WfI r4 b4 v4 r5 b5) (h5 : Got encN WfI r5 b5 v5 r6 b6) (h6 : Got encN WfI r6 b6 v6 r7 b7) (h7 : Got encN WfI r7 b7 v7 r8 b8) (h8 : Got (encL encN) (wfL WfI) r8 b8 v8 r9 b9) (h9 : Got (encL encN) (wfL WfI) r9 b9 v9 r10 b10) (h10 : Got (encL encN) (wfL WfI) r10 b10 v10 r11 b11) (h11 : Got encN WfI r11 b11 v11 r12 b12) (h12 : Got encN WfI r12 b12 v12 r13 b13) (h13 : Got (encL nTap) (wfL wfTap) r13 b13 v13 r14 b14) (h14 : Got (encL nTap) (wfL wfTap) r14 b14 v14 r15 b15) (h15 : Got encN WfI r15 b15 v15 r16 b16) (h16 : Got (encL nOp) (wfL wfOp) r16 b16 v16 r17 b17) (h17 : Got encN WfI r17 b17 v17 r18 b18) : Got nStage wfStage r0 b0 ⟨v0, v1, v2, v3, v4, v5, v6, v7, v8, v9, v10, v11, v12, v13, v14, v15, v16, v17⟩ r18 b18 := by
 have H := Got.map (g := nStage) (wg := wfStage) (fun p : (Int) × (Int) × (Int) × (Bool) × (Int) × (Int) × (Int) × (Int) × (List Int) × (List Int) × (List Int) × (Int) × (Int) × (List TapV) × (List TapV) × (Int) × (List POp) × (Int) => (⟨p.1, p.2.1, p.2.2.1, p.2.2.2.1, p.2.2.2.2.1, p.2.2.2.2.2.1, p.2.2.2.2.2.2.1, p.2.2.2.2.2.2.2.1, p.2.2.2.2.2.2.2.2.1, p.2.2.2.2.2.2.2.2.2.1, p.2.2.2.2.2.2.2.2.2.2.1, p.2.2.2.2.2.2.2.2.2.2.2.1, p.2.2.2.2.2.2.2.2.2.2.2.2.1, p.2.2.2.2.2.2.2.2.2.2.2.2.2.1, p.2.2.2.2.2.2.2.2.2.2.2.2.2.2.1, p.2.2.2.2.2.2.2.2.2.2.2.2.2.2.2.1, p.2.2.2.2.2.2.2.2.2.2.2.2.2.2.2.2.1, p.2.2.2.2.2.2.2.2.2.2.2.2.2.2.2.2.2⟩ : StageV)) (Got.pair pfI h0 (Got.pair pfI h1 (Got.pair pfI h2 (Got.pair pfBo h3 (Got.pair pfI h4 (Got.pair pfI h5 (Got.pair pfI h6 (Got.pair pfI h7 (Got.pair pfN h8 (Got.pair pfN h9 (Got.pair pfN h10 (Got.pair pfI h11 (Got.pair pfI h12 (Got.pair pfTap.list h13 (Got.pair pfTap.list h14 (Got.pair pfI h15 (Got.pair pfOp.list h16 h17))))))))))))))))) (fun p _ => by simp [nStage, nInts_enc, encP, encN, encBo, encL, nTaps, nOps]) (fun p h => h) (fun s h => ⟨(s.kind, s.a, s.b, s.barrier, s.edgePolicy, s.edgeFill, s.kW, s.kH, s.weights, s.row, s.col, s.shift, s.shift2, s.x, s.y, s.bins, s.ops, s.max_), h, rfl⟩)
 exact H
theorem pfStage : Pf nStage wfStage := Pf.map (g := nStage) (wg := wfStage) (fun p : (Int) × (Int) × (Int) × (Bool) × (Int) × (Int) × (Int) × (Int) × (List Int) × (List Int) × (List Int) × (Int) × (Int) × (List TapV) × (List TapV) × (Int) × (List POp) × (Int) => (⟨p.1, p.2.1, p.2.2.1, p.2.2.2.1, p.2.2.2.2.1, p.2.2.2.2.2.1, p.2.2.2.2.2.2.1, p.2.2.2.2.2.2.2.1, p.2.2.2.2.2.2.2.2.1, p.2.2.2.2.2.2.2.2.2.1, p.2.2.2.2.2.2.2.2.2.2.1, p.2.2.2.2.2.2.2.2.2.2.2.1, p.2.2.2.2.2.2.2.2.2.2.2.2.1, p.2.2.2.2.2.2.2.2.2.2.2.2.2.1, p.2.2.2.2.2.2.2.2.2.2.2.2.2.2.1, p.2.2.2.2.2.2.2.2.2.2.2.2.2.2.2.1, p.2.2.2.2.2.2.2.2.2.2.2.2.2.2.2.2.1, p.2.2.2.2.2.2.2.2.2.2.2.2.2.2.2.2.2⟩ : StageV)) (Pf.pair pfI (Pf.pair pfI (Pf.pair pfI (Pf.pair pfBo (Pf.pair pfI (Pf.pair pfI (Pf.pair pfI (Pf.pair pfI (Pf.pair pfN (Pf.pair pfN (Pf.pair pfN (Pf.pair pfI (Pf.pair pfI (Pf.pair pfTap.list (Pf.pair pfTap.list (Pf.pair pfI (Pf.pair pfOp.list pfI))))))))))))))))) (fun p _ => by simp [nStage, nInts_enc, encP, encN, encBo, encL, nTaps, nOps]) (fun s h => ⟨(s.kind, s.a, s.b, s.barrier, s.edgePolicy, s.edgeFill, s.kW, s.kH, s.weights, s.row, s.col, s.shift, s.shift2, s.x, s.y, s.bins, s.ops, s.max_), h, rfl⟩)
def wfJob (s : JobV) : Prop := WfI s.priority ∧ (wfL wfPlane) s.inputs ∧ (wfL wfStage) s.stages ∧ (wfL WfI) s.outputs
theorem Got.job {r0 r1 r2 r3 r4 : List Int} {b0 b1 b2 b3 b4 : Bool} {v0 : Int} {v1 : List PlaneV} {v2 : List StageV} {v3 : List Int} (h0 : Got encN WfI r0 b0 v0 r1 b1) (h1 : Got (encL nPlane) (wfL wfPlane) r1 b1 v1 r2 b2) (h2 : Got (encL nStage) (wfL wfStage) r2 b2 v2 r3 b3) (h3 : Got (encL encN) (wfL WfI) r3 b3 v3 r4 b4) : Got nJob wfJob r0 b0 ⟨v1, v2, v3, v0⟩ r4 b4 := by
 have H := Got.map (g := nJob) (wg := wfJob) (fun p : (Int) × (List PlaneV) × (List StageV) × (List Int) => (⟨p.2.1, p.2.2.1, p.2.2.2, p.1⟩ : JobV)) (Got.pair pfI h0 (Got.pair pfPlane.list h1 (Got.pair pfStage.list h2 h3))) (fun p _ => by simp [nJob, nInts_enc, encP, encN, encBo, encL, nTaps, nOps]) (fun p h => h) (fun s h => ⟨(s.priority, s.inputs, s.stages, s.outputs), h, rfl⟩)
 exact H
theorem pfJob : Pf nJob wfJob := Pf.map (g := nJob) (wg := wfJob) (fun p : (Int) × (List PlaneV) × (List StageV) × (List Int) => (⟨p.2.1, p.2.2.1, p.2.2.2, p.1⟩ : JobV)) (Pf.pair pfI (Pf.pair pfPlane.list (Pf.pair pfStage.list pfN))) (fun p _ => by simp [nJob, nInts_enc, encP, encN, encBo, encL, nTaps, nOps]) (fun s h => ⟨(s.priority, s.inputs, s.stages, s.outputs), h, rfl⟩)
end Go.Proofs.Ytcddcpaodcjecaa
