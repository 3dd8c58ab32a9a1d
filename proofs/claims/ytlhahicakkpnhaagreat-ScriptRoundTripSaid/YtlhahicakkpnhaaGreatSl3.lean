/-
  Parts of slices with a capacity of their own: s[:i:i]. For any program.
-/
import Derived.Test.YtlhahicakkpnhaaGreatTri
namespace Go.E
theorem Sat.unflat4 {W w : World} {c d e f : Chunk} {cs : List Chunk} (h : Sat W w [c, d, e, f, cs.flatten]) : Sat W w (c :: d :: e :: f :: cs) := h.perm (by simp)
theorem partAddr_zero {a : Option Addr} {n sz : Nat} (h : ∀ q, a = some q → ∃ b off, q = ⟨b, off, none⟩) : partAddr a n 0 sz = a := by
  unfold partAddr
  split
  · rfl
  · cases a with
    | none => rfl
    | some q =>
      obtain ⟨b, off, rfl⟩ := h q rfl
      simp only [Option.map_some, Nat.zero_mul, add_off]; rfl
theorem OwnS.cut {E : TypeId} {a : Option Addr} {len cap i sz : Nat} {l : List Value} {c : Chunk} (h : OwnS E sz a len cap l c) (h1 : i ≤ len) :
    OwnS E sz (partAddr a i 0 sz) i i (l.take (i * sz)) c := by
  obtain ⟨hl, hr⟩ := h
  have hms : i * sz ≤ len * sz := Nat.mul_le_mul_right _ h1
  refine ⟨by simp; omega, ?_⟩
  rcases hr with ⟨rfl, rfl, rfl, rfl⟩ | ⟨b, off, cur, rfl, rfl, h2, h3, h4, h5⟩
  · left
    obtain rfl : i = 0 := by omega
    exact ⟨by rw [partAddr_zero (fun q h => by cases h)], rfl, rfl, rfl⟩
  · right
    have hc : i * sz ≤ cap * sz := Nat.mul_le_mul_right _ (by omega)
    refine ⟨b, off, cur, partAddr_zero (fun q h => ⟨b, off, (Option.some.inj h).symm⟩), rfl, Nat.le_refl _, by omega, by omega, ?_⟩
    rw [← h5, List.take_take, Nat.min_eq_left hms]
theorem OwnT.cut {α : Type} {enc : α → List Value} {E sz : Nat} {a : Option Addr} {len cap i : Nat} {xs : List α} {c : Chunk} (h : OwnT enc E sz a len cap xs c) (h1 : i ≤ len) :
    OwnT enc E sz (partAddr a i 0 sz) i i (xs.take i) c := by
  refine ⟨by simp [h.1]; omega, h.2.1, ?_⟩
  rw [← flatMap_take h.2.1]
  exact h.2.2.cut h1
theorem run_bounds3 {P : Program} {w : World} {len cap n : Nat} {k k' : IntKind} {i : Int} (h0 : 0 ≤ i) (hn : i.toNat = n) (h2 : n ≤ cap) : (Instr.sliceBounds true len cap none (some (.int k i)) (some (.int k' i))).run P w = .ok (0, n, n) w := by
  subst hn
  have e1 : (0 ≤ i ∧ i ≤ ((cap : Nat) : Int)) := ⟨h0, by omega⟩
  have e2 : (0 ≤ i ∧ i ≤ ((i.toNat : Nat) : Int)) := ⟨h0, by omega⟩
  simp only [Instr.sliceBounds, Instr.sliceBound, asIntOf]
  simp only [Sem.run_bind, Sem.run_pure, Result.andThen, if_pos e1, if_pos e2]
theorem Y_sl3 {P : Program} {ρ : Env} {o : Oper} {w : World} (hi : Int) (n : Nat) {t E : TypeId} {x : Operand} {lo hi' mx : Option Operand} {a : Option Addr} {len cap sz : Nat} (hu : ∀ w, (underlying t).run P w = .ok (.slice E) w)
    (hsz : ∀ w, (sizeOf E).run P w = .ok sz w) (h0 : 0 ≤ hi) (hn : hi.toNat = n) (h2 : n ≤ cap)
    (ho : o.op = .slice t x lo hi' mx := by rfl) (hlo : lo = none := by rfl) (hx : ev ρ x = .slice a len cap := by kernel_rfl)
    (e1 : hi'.map (ev ρ) = some (.int .i64 hi) := by kernel_rfl) (e2 : mx.map (ev ρ) = some (.int .i64 hi) := by kernel_rfl) : Yields P ρ o (.slice (partAddr a n 0 sz) n n) w := by
  unfold Yields execOp
  rw [ho, hlo]
  simp [Instr.sliceAt, hu, Instr.slice, hx, e1, e2, run_bounds3 h0 hn h2, hsz, partAddr]
end Go.E
