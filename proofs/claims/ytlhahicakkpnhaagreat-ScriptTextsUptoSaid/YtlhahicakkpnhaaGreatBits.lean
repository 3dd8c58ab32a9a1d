/-
  Conversions of whole numbers, shifts, or, make, bytes and strings, as steps. For any program.
-/
import Derived.Test.YtlhahicakkpnhaaGreatWalk
import Derived.Laws.BytesString
import Derived.Laws.Shifts
import Derived.Laws.IdiomStrings
namespace Go.E
set_option linter.unusedVariables false
set_option linter.unusedSimpArgs false
section
variable {P : Program} {n : Nat} {ρ : Env} {W w : World} {cs : List Chunk} {ops : Array Oper} {rest : List Oper} {N : Env → World → Prop} {o : Oper}

theorem wrap_u64 (a : Int) : IntKind.u64.wrap a = a % 18446744073709551616 := by simp [IntKind.wrap, IntKind.bits, IntKind.signed]
theorem wrap_u8 (a : Int) : IntKind.u8.wrap a = a % 256 := by simp [IntKind.wrap, IntKind.bits, IntKind.signed]
theorem wrapIn_u64 (a : Int) (h : 0 ≤ a ∧ a < 18446744073709551616) : IntKind.u64.wrap a = a := by rw [wrap_u64]; omega
theorem wrapIn_u8 (a : Int) (h : 0 ≤ a ∧ a < 256) : IntKind.u8.wrap a = a := by rw [wrap_u8]; omega
theorem wrapIn_i64 (a : Int) (h : -9223372036854775808 ≤ a ∧ a ≤ 9223372036854775807) : IntKind.i64.wrap a = a := wrap_i64 h
theorem Y_conv {src dst : TypeId} {x : Operand} {k k' : IntKind} {a v : Int} {d : TypeDesc} (hs : P.underlying src = some d) (hd : P.underlying dst = some (.int k')) (hv : k'.wrap a = v)
    (ho : o.op = .convert src dst x) (hx : ev ρ x = .int k a) : Yields P ρ o (.int k' v) w := by
  unfold Yields execOp
  rw [ho]
  simp [hx, convert, run_underlying hs, run_underlying hd, Conv.intToInt, hv]
theorem sConv (k : IntKind) (a : Int) (k' : IntKind) (v : Int) {src dst : TypeId} {x : Operand} {d : TypeDesc} (hs : P.underlying src = some d) (hd' : P.underlying dst = some (.int k')) (hv : k'.wrap a = v)
    (h : OpsE P n ops rest N (put ρ o.dst (.int k' v)) w)
    (ho : o.op = .convert src dst x := by rfl) (hg : o.guard = none := by rfl) (hd : dstOK n o.dst = true := by rfl) (hx : ev ρ x = .int k a := by kernel_rfl) :
    OpsE P n ops (o :: rest) N ρ w := stepY _ hg hd (Y_conv hs hd' hv ho hx) h

theorem Y_arithK {op : BinOp} {t u : TypeId} {x y : Operand} {k k' : IntKind} {a b : Int} {v : Value} (ho : o.op = .binOp op t x y u) (hx : ev ρ x = .int k a) (hy : ev ρ y = .int k' b)
    (hr : (binOp op t (.int k a) (.int k' b)).run P w = .ok v w) : Yields P ρ o v w := by
  unfold Yields execOp
  rw [ho]
  simp [hx, hy, eqGuard, hr]
theorem Y_shr {t u : TypeId} {x y : Operand} (k k' : IntKind) (a s q : Int) (ho : o.op = .binOp .shr t x y u) (hx : ev ρ x = .int k a) (hy : ev ρ y = .int k' s) (hs : 0 ≤ s) (hq : 2 ^ min s.toNat k.bits = q) :
    Yields P ρ o (.int k (a / q)) w := by
  subst hq
  exact Y_arithK ho hx hy (by simp [binOp, shift_shr_any k k' a s hs])
theorem Y_shl {t u : TypeId} {x y : Operand} (k k' : IntKind) (a s q v : Int) (ho : o.op = .binOp .shl t x y u) (hx : ev ρ x = .int k a) (hy : ev ρ y = .int k' s) (hs : 0 ≤ s) (hq : 2 ^ min s.toNat k.bits = q) (hv : k.wrap (a * q) = v) :
    Yields P ρ o (.int k v) w := by
  subst hq; subst hv
  exact Y_arithK ho hx hy (by simp [binOp, shift_shl_any k k' a s hs])
theorem or_low (a b : Nat) (ha : a % 256 = 0) (hb : b < 256) : a ||| b = a + b := by
  have h : a = 2 ^ 8 * (a / 256) := by omega
  rw [h, Nat.two_pow_add_eq_or_of_lt (by simpa using hb)]
theorem run_or_low {t : TypeId} {a b : Int} (ha : 0 ≤ a ∧ a < 18446744073709551616) (h8 : a % 256 = 0) (hb : 0 ≤ b ∧ b < 256) :
    (binOp .or t (.int .u64 a) (.int .u64 b)).run P w = .ok (.int .u64 (a + b)) w := by
  obtain ⟨m, rfl⟩ := Int.eq_ofNat_of_zero_le ha.1
  obtain ⟨k, rfl⟩ := Int.eq_ofNat_of_zero_le hb.1
  have e : IntKind.u64.wrap (((BitVec.ofInt 64 (m : Int) ||| BitVec.ofInt 64 (k : Int)) : BitVec 64).toNat : Int) = (m : Int) + k := by
    rw [BitVec.toNat_or, BitVec.ofInt_natCast, BitVec.ofInt_natCast, BitVec.toNat_ofNat, BitVec.toNat_ofNat]
    rw [Nat.mod_eq_of_lt (by omega), Nat.mod_eq_of_lt (by omega), or_low m k (by omega) (by omega)]
    simp [IntKind.wrap, IntKind.bits, IntKind.signed]
    omega
  show (Op.intBits .or .u64 (m : Int) (k : Int)).run P w = _
  have e2 : (Op.intBits .or .u64 (m : Int) (k : Int)) = pure (.int .u64 (IntKind.u64.wrap (((BitVec.ofInt 64 (m : Int) ||| BitVec.ofInt 64 (k : Int)) : BitVec 64).toNat : Int))) := rfl
  rw [e2, e]
  rfl
theorem Y_orLow {t u : TypeId} {x y : Operand} (a b : Int) (ho : o.op = .binOp .or t x y u) (hx : ev ρ x = .int .u64 a) (hy : ev ρ y = .int .u64 b) (ha : 0 ≤ a ∧ a < 18446744073709551616) (h8 : a % 256 = 0) (hb : 0 ≤ b ∧ b < 256) :
    Yields P ρ o (.int .u64 (a + b)) w := Y_arithK ho hx hy (run_or_low ha h8 hb)
def xor8 (a b : Int) : Int := IntKind.u8.wrap (BitVec.ofInt IntKind.u8.bits a ^^^ BitVec.ofInt IntKind.u8.bits b).toNat
theorem xor8_bd (a b : Int) : 0 ≤ xor8 a b ∧ xor8 a b < 256 := by
  unfold xor8
  constructor <;> (simp [IntKind.wrap, IntKind.bits, IntKind.signed]; omega)
theorem Y_xor8 {t u : TypeId} {x y : Operand} (a b : Int) (ho : o.op = .binOp .xor t x y u) (hx : ev ρ x = .int .u8 a) (hy : ev ρ y = .int .u8 b) :
    Yields P ρ o (.int .u8 (xor8 a b)) w := Y_arithK ho hx hy (by simp [binOp, Op.intBits, xor8])

/-! ### make -/
theorem rep_at (l : List Value) (sz : Nat) (hl : l.length = sz) : ∀ (m i : Nat), i < m * sz → ((List.replicate m l).flatten)[i]? = l[i % sz]? := by
  intro m
  induction m with
  | zero => intro i h; omega
  | succ m ih =>
    intro i h
    rw [Nat.succ_mul] at h
    rw [List.replicate_succ, List.flatten_cons]
    rcases Nat.lt_or_ge i sz with hi | hi
    · rw [List.getElem?_append_left (by omega), Nat.mod_eq_of_lt hi]
    · rw [List.getElem?_append_right (by omega), hl, ih _ (by omega)]
      have e : i = (i - sz) + sz := by omega
      conv => rhs; rw [e, Nat.add_mod_right]
theorem cells_rep {α : Type} {enc : α → List Value} (z : α) (m sz : Nat) (zc : Array Value) (hz : zc.toList = enc z) (hsz : (enc z).length = sz) : (madeCells zc (m * sz)).toList = (List.replicate m z).flatMap enc := by
  have hs : zc.size = sz := by rw [← hsz, ← hz]; simp
  have he : (List.replicate m z).flatMap enc = (List.replicate m (enc z)).flatten := by simp [List.flatMap]
  rw [he]
  have hlen : ((List.replicate m (enc z)).flatten).length = m * sz := by simp [hsz]
  apply List.ext_getElem?
  intro i
  rcases Nat.lt_or_ge i (m * sz) with hi | hi
  · rw [rep_at _ sz hsz m i hi]
    have hsz0 : 0 < sz := by rcases Nat.eq_zero_or_pos sz with h | h; · subst h; simp at hi
                             · exact h
    have hm : i % sz < sz := Nat.mod_lt _ hsz0
    simp only [madeCells, Array.toList_map, Array.toList_range, List.getElem?_map]
    rw [List.getElem?_range hi]
    simp only [Option.map_some, hs]
    rw [← hz, Array.getElem?_toList]
    rw [Array.getElem?_eq_getElem (by omega), getElem!_pos zc (i % sz) (by omega)]
  · rw [List.getElem?_eq_none (by simp [madeCells]; omega), List.getElem?_eq_none (by omega)]
theorem sMake {α : Type} {enc : α → List Value} (hS : Sat W w cs) (zx : α) (m : Nat) (v : Int) (hv : v = (m : Int)) {t E : TypeId} {x y : Operand} {i : TypeInfo} {z : Value} {sz nb : Nat} {kl kc : IntKind} (ht : P.underlying t = some (.slice E)) (hi : P.info? E = some i)
    (he : ∀ x, (enc x).length = sz)
    (h : ∀ b c w', OwnT enc E sz (some ⟨b, 0, none⟩) m m (List.replicate m zx) c → Sat W w' (c :: cs) → OpsE P n ops rest N (put ρ o.dst (.slice (some ⟨b, 0, none⟩) m m)) w')
    (hb : nb * m ≤ 281474976710656 := by omega) 
    (ho : o.op = .makeSlice t x y := by rfl) (hg : o.guard = none := by rfl) (hd : dstOK n o.dst = true := by rfl) 
    (hz : i.zero = some z := by rfl) (hzx : z.cells.toList = enc zx := by rfl) (hsize : i.size = sz := by rfl) (hby : i.bytes = nb := by rfl)
    (hx : ev ρ x = .int kl v := by kernel_rfl) (hy : ev ρ y = .int kc v := by kernel_rfl) (hnb : 0 < nb := by omega) : OpsE P n ops (o :: rest) N ρ w := by
  subst hv
  have h63 : m ≤ maxLen := by
    have : 1 * m ≤ nb * m := Nat.mul_le_mul_right _ hnb
    have h0 : maxLen = 9223372036854775807 := by simp [maxLen]
    omega
  refine stepMake ho hg hd ht hi hz hsize hby hx hy hS hb h63 (fun b c w' hO hS' => h b c w' ⟨by simp, he, ?_⟩ hS')
  rw [← cells_rep zx m sz z.cells hzx (he zx)]
  exact hO

/-! ### bytes -/
def encB (x : Int) : List Value := [.int .u8 x]
def Bytes (l : List Int) : Prop := ∀ b ∈ l, 0 ≤ b ∧ b < 256
def bstr (xs : List Int) : ByteArray := xs.foldl (fun r n => r.push (UInt8.ofNat n.toNat)) ByteArray.empty
theorem bstr_eq (xs : List Int) : ∀ s : ByteArray, xs.foldl (fun r n => r.push (UInt8.ofNat n.toNat)) s = ⟨s.data ++ (xs.map (fun n => UInt8.ofNat n.toNat)).toArray⟩ := by
  induction xs with
  | nil => intro s; simp
  | cons x xs ih => intro s; simp only [List.foldl_cons, ih]; simp [ByteArray.push]
theorem bstr_list (xs : List Int) : (bstr xs).toList = xs.map (fun n => UInt8.ofNat n.toNat) := by
  rw [ByteArray.toList_eq]
  unfold bstr
  rw [bstr_eq]
  simp
theorem bytes_inj : ∀ {xs ys : List Int}, Bytes xs → Bytes ys → xs.map (fun n => UInt8.ofNat n.toNat) = ys.map (fun n => UInt8.ofNat n.toNat) → xs = ys := by
  intro xs
  induction xs with
  | nil => intro ys _ _ h; cases ys with | nil => rfl | cons y ys => simp at h
  | cons x xs ih =>
    intro ys hx hy h
    cases ys with
    | nil => simp at h
    | cons y ys =>
      simp only [List.map_cons, List.cons.injEq] at h
      have h1 := congrArg UInt8.toNat h.1
      simp only [UInt8.toNat_ofNat'] at h1
      have b1 := hx x (by simp); have b2 := hy y (by simp)
      rw [Nat.mod_eq_of_lt (by omega), Nat.mod_eq_of_lt (by omega)] at h1
      have e : x = y := by omega
      rw [e, ih (fun b hb => hx b (by simp [hb])) (fun b hb => hy b (by simp [hb])) h.2]
theorem bstr_beq {xs ys : List Int} (hx : Bytes xs) (hy : Bytes ys) : ((bstr xs).toList == (bstr ys).toList) = decide (xs = ys) := by
  rw [bstr_list, bstr_list]
  by_cases h : xs = ys
  · subst h; simp
  · have h2 : ¬ (xs.map (fun n => UInt8.ofNat n.toNat) = ys.map (fun n => UInt8.ofNat n.toNat)) := fun e => h (bytes_inj hx hy e)
    rw [decide_eq_false h, beq_eq_false_iff_ne.2 h2]
theorem Y_streq {t u : TypeId} {x y : Operand} (xs ys : List Int) (hx' : Bytes xs) (hy' : Bytes ys) (ho : o.op = .binOp .eql t x y u) (hx : ev ρ x = .string (bstr xs)) (hy : ev ρ y = .string (bstr ys)) :
    Yields P ρ o (.bool (decide (xs = ys))) w := by
  unfold Yields execOp
  rw [ho]
  simp [hx, hy, eqGuard, binOp, Op.stringOp, bstr_beq hx' hy']
theorem Y_strne {t u : TypeId} {x y : Operand} (xs ys : List Int) (hx' : Bytes xs) (hy' : Bytes ys) (ho : o.op = .binOp .neq t x y u) (hx : ev ρ x = .string (bstr xs)) (hy : ev ρ y = .string (bstr ys)) :
    Yields P ρ o (.bool (!decide (xs = ys))) w := by
  unfold Yields execOp
  rw [ho]
  simp [hx, hy, eqGuard, binOp, Op.stringOp, bstr_beq hx' hy']
theorem flatMap_encB (xs : List Int) : xs.flatMap encB = xs.map (Value.int .u8) := by
  induction xs with
  | nil => rfl
  | cons x xs ih => simp [encB, ih]
/-- string(b) -/
theorem Y_bstr {src dst E : TypeId} {x : Operand} {a : Option Addr} {m cap : Nat} {xs : List Int} (hs : P.underlying src = some (.slice E)) (he : P.underlying E = some (.int .u8)) (hd : P.underlying dst = some .string)
    (hS : Sat W w cs) (hR : RdT encB 1 cs a m cap xs) (ho : o.op = .convert src dst x) (hx : ev ρ x = .slice a m cap) : Yields P ρ o (.string (bstr xs)) w := by
  unfold Yields execOp
  rw [ho]
  have hrun : (convert src dst (.slice a m cap)).run P w = .ok (.string (bstr xs)) w := by
    rw [run_convert_bytes_string w src dst E a m cap hs he hd]
    obtain ⟨hl, _, _, hnc, hmx, h⟩ := hR
    rcases h with h | ⟨b, off, rfl, hp⟩
    · subst h
      have hxs : xs = [] := List.eq_nil_of_length_eq_zero hl
      subst hxs
      cases a with
      | none => simp [Conv.bytesToString, bstr]
      | some a =>
        have h0 := run_loadCells_list (P := P) w a [] (fun j v hj => by simp at hj)
        exact run_bytesToString w a 0 cap [] h0
    · rw [flatMap_encB] at hp
      have h0 := run_loadCells_list (P := P) w ⟨b, off, none⟩ (xs.map (Value.int .u8)) (fun j v hj => by rw [add_off]; exact hp.cell hS hj)
      simp only [List.length_map] at h0
      rw [hl] at h0
      exact run_bytesToString w _ m cap xs h0
  simp [hx, hrun]
theorem sBstr (hS : Sat W w cs) {a : Option Addr} {m cap : Nat} {xs : List Int} (hR : RdT encB 1 cs a m cap xs) {src dst E : TypeId} {x : Operand} (hs : P.underlying src = some (.slice E)) (he : P.underlying E = some (.int .u8)) (hd' : P.underlying dst = some .string)
    (h : OpsE P n ops rest N (put ρ o.dst (.string (bstr xs))) w)
    (ho : o.op = .convert src dst x := by rfl) (hg : o.guard = none := by rfl) (hd : dstOK n o.dst = true := by rfl) (hx : ev ρ x = .slice a m cap := by kernel_rfl) :
    OpsE P n ops (o :: rest) N ρ w := stepY _ hg hd (Y_bstr hs he hd' hS hR ho hx) h
end
/-! ### short forms -/
section
variable {P : Program} {n : Nat} {ρ : Env} {W w : World} {cs : List Chunk} {ops : Array Oper} {rest : List Oper} {N : Env → World → Prop} {o : Oper} {K : Exit → Env → World → Prop}
abbrev I (x : Int) : Value := .int .i64 x
abbrev At (b o : Nat) : Option Addr := some ⟨b, o, none⟩
abbrev Pt (b o : Nat) : Value := .pointer (some ⟨b, o, none⟩)
theorem kr {α : Type} {a b : α} (h : a = b := by kernel_rfl) : a = b := h
theorem om {p : Prop} (h : p := by omega) : p := h
theorem od {p : Prop} (h : p := by first | omega | (dsimp only; omega)) : p := h
theorem mS {A B : Chunk} (h : ∀ p ∈ A, p ∈ B := by intro p hp; simp at hp ⊢; simp [hp]) : ∀ p ∈ A, p ∈ B := h
theorem dI {α : Type} {a b : α} {q : Prop} (h : a = b := by kernel_rfl) : a = b ∨ q := .inl h
theorem dA {p : Prop} (h : p := by (repeat (refine ⟨.inl (by kernel_rfl), ?_⟩)); exact trivial) : p := h
theorem fR {α β : Type} {f g : α → β} (h : ∀ x, f x = g x := by intro _; rfl) : ∀ x, f x = g x := h
theorem nT {N' : Env → World → Prop} (h : N' ρ w) : OpsE P n ops [] (thenK N' K .normal) ρ w := nilO (thenK_n h)
theorem nB {N' : Env → World → Prop} {id : Nat} (h : N' ρ w) : OpsE P n ops [] (blockK id (thenK N' K) .normal) ρ w := nilO (blockK_n (thenK_n h))
theorem sR {id : Nat} {l : List Oper} {y : Code} (h : OpsE P n l.toArray l (thenK (CodeE P n y K) K .normal) ρ w) : CodeE P n (.seq (.region id l.toArray false) y) K ρ w := seqE (regionE h)
theorem kT {N' : Env → World → Prop} (h : N' ρ w) : CodeE P n .skip (thenK N' K) ρ w := skipE (thenK_n h)
theorem tR {N' : Env → World → Prop} {id : Nat} (h : K .ret ρ w) : thenK N' (blockK id K) .ret ρ w := thenK_r (blockK_r h)
theorem xB {N' N2 : Env → World → Prop} {id : Nat} (h : K .normal ρ w) : thenK N' (thenK N2 (blockK id K)) (.exit id) ρ w := thenK_x (thenK_x (blockK_x h))
theorem sT1 (hS : Sat W w cs) (i off : Nat) (v : Value) (c' : Array Value) {t : TypeId} {x y : Operand} {b k : Nat} {c : Array Value} {E : TypeId} (hsz : ∀ w, (sizeOf t).run P w = .ok k w)
    (h : ∀ w', Sat W w' (cs.set i [(b, .cells c' E (0, 0))]) → OpsE P n ops rest N ρ w')
    (ho : o.op = .store t x y := by rfl) (hg : o.guard = none := by rfl) (hd : o.dst = none := by rfl) (hi : cs[i]? = some [(b, .cells c E (0, 0))] := by rfl)
    (hx : ev ρ x = .pointer (some ⟨b, off, none⟩) := by kernel_rfl) (hy : ev ρ y = v := by kernel_rfl) (hv : v.cells.toList = [v] := by kernel_rfl) (hk : 1 = k := by kernel_rfl)
    (h1 : [v].all (·.oneCell') = true := by kernel_rfl) (hfit : Nat.ble (off + 1) c.size = true := by kernel_rfl) (hc' : wr c off [v] = c' := by kernel_rfl) : OpsE P n ops (o :: rest) N ρ w :=
  sT hS i off v [v] c' hsz h ho hg hd hi hx hy hv hk h1 hfit hc'
theorem sTA (hS : Sat W w cs) (i off : Nat) (vs : List Value) (c' : Array Value) {t : TypeId} {x y : Operand} {b k : Nat} {c : Array Value} {E : TypeId} (hsz : ∀ w, (sizeOf t).run P w = .ok k w)
    (h : ∀ w', Sat W w' (cs.set i [(b, .cells c' E (0, 0))]) → OpsE P n ops rest N ρ w')
    (ho : o.op = .store t x y := by rfl) (hg : o.guard = none := by rfl) (hd : o.dst = none := by rfl) (hi : cs[i]? = some [(b, .cells c E (0, 0))] := by rfl)
    (hx : ev ρ x = .pointer (some ⟨b, off, none⟩) := by kernel_rfl) (hy : ev ρ y = .agg vs.toArray := by kernel_rfl) (hk : vs.length = k := by kernel_rfl)
    (h1 : vs.all (·.oneCell') = true := by kernel_rfl) (hfit : Nat.ble (off + vs.length) c.size = true := by kernel_rfl) (hc' : wr c off vs = c' := by kernel_rfl) : OpsE P n ops (o :: rest) N ρ w :=
  sT hS i off (.agg vs.toArray) vs c' hsz h ho hg hd hi hx hy rfl hk h1 hfit hc'
theorem sTw (hS : Sat W w cs) (i : Nat) (vs : List Value) {t : TypeId} {x y : Operand} {b k : Nat} {c : Array Value} {E : TypeId} (hsz : ∀ w, (sizeOf t).run P w = .ok k w)
    (h : ∀ w', Sat W w' (cs.set i [(b, .cells vs.toArray E (0, 0))]) → OpsE P n ops rest N ρ w')
    (ho : o.op = .store t x y := by rfl) (hg : o.guard = none := by rfl) (hd : o.dst = none := by rfl) (hi : cs[i]? = some [(b, .cells c E (0, 0))] := by rfl)
    (hx : ev ρ x = .pointer (some ⟨b, 0, none⟩) := by kernel_rfl) (hy : ev ρ y = .agg vs.toArray := by kernel_rfl) (hk : vs.length = k := by kernel_rfl)
    (h1 : vs.all (·.oneCell') = true := by kernel_rfl) (hfit : Nat.ble (0 + vs.length) c.size = true := by kernel_rfl) (hc' : wr c 0 vs = vs.toArray := by kernel_rfl) : OpsE P n ops (o :: rest) N ρ w :=
  sTA hS i 0 vs vs.toArray hsz h ho hg hd hi hx hy hk h1 hfit hc'
end
end Go.E
