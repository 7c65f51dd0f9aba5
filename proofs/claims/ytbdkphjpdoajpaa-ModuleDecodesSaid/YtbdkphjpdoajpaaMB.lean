import Derived.Test.YtbdkphjpdoajpaaMA
namespace Go.Proofs.Ytbdkphjpdoajpaa.Md
open Go Go.RowKit Go.Proofs Go.Proofs.Ytbdkphjpdoajpaa.X
set_option linter.unusedVariables false
set_option linter.unusedSimpArgs false
noncomputable section
/-! A byte, and a number of two bytes -/
def imin (a b : Int) : Int := if b < a then b else a
theorem imin_eq (a b : Int) : imin a b = min a b := by unfold imin; split <;> omega
theorem cpos {α : Type} {p : Prop} {hd : Decidable p} {a b : α} (h : p) : cond (@decide p hd) a b = a := by rw [decide_eq_true h]; rfl
theorem cneg {α : Type} {p : Prop} {hd : Decidable p} {a b : α} (h : ¬ p) : cond (@decide p hd) a b = b := by rw [decide_eq_false h]; rfl
theorem bpos {a c : Int} (h : a = c) : (a == c) = true := by simp [h]
theorem bneg {a c : Int} (h : ¬ a = c) : (a == c) = false := by simp [h]
theorem loopN_succ {γ β : Type} (body : γ → (γ → Option β) → Option β) (k : Nat) (g : γ) : loopN body (k + 1) g = body g (loopN body k) := rfl
theorem wrapId {n : Int} (h0 : -9223372036854775808 ≤ n) (h1 : n < 9223372036854775808) : IntKind.i64.wrap n = n := by
  rw [IntKind.wrap_i64]; omega
abbrev U8 (n : Int) : Prop := 0 ≤ n ∧ n < 256
theorem getU8 {b : List Int} (h : ∀ x ∈ b, U8 x) (i : Nat) : U8 (b.getD i 0) := by
  rw [List.getD_eq_getElem?_getD]
  cases hh : b[i]? with
  | none => exact ⟨by simp, by simp⟩
  | some x => exact h x (List.mem_of_getElem? hh)
abbrev R1t : Type := ((Int × Unit) × Unit) × ((List Int × Int × Bool) × Unit) × Unit
abbrev R2t : Type := ((Int × Unit) × ((List Int × Int × Bool) × Unit) × Unit) × Unit
abbrev r1 (v : Int) (b : List Int) (p : Int) (bad : Bool) : Option R1t := some (((v, ()), ()), ((b, p, bad), ()), ())
abbrev r2 (v : Int) (b : List Int) (p : Int) (ok : Bool) : Option R2t := some (((v, ()), ((b, p, ok), ()), ()), ())
theorem e17_eq (k : Nat) (b : List Int) (p : Int) (bad : Bool) (lo : Int) (hi : Int) : f17 k ((((), ()), (lo, ()), (hi, ()), ()), ((b, p, bad), ()), ()) = bif bad then some ((((0 : Int), ()), ()), ((b, p, true), ()), ()) else bif decide (p ≥ (↑b.length : Int)) then some ((((0 : Int), ()), ()), ((b, p, true), ()), ()) else bif decide ((0 : Int) ≤ p ∧ p < (↑b.length : Int)) then bif decide (IntKind.i64.wrap (gt (Sh.int IntKind.u8) b p.toNat) < lo) then some ((((0 : Int), ()), ()), ((b, p, true), ()), ()) else bif decide ((0 : Int) ≤ p ∧ p < (↑b.length : Int)) then bif decide (IntKind.i64.wrap (gt (Sh.int IntKind.u8) b p.toNat) > hi) then some ((((0 : Int), ()), ()), ((b, p, true), ()), ()) else bif decide ((0 : Int) ≤ IntKind.i64.wrap (IntKind.i64.wrap (p + (1 : Int)) - (1 : Int)) ∧ IntKind.i64.wrap (IntKind.i64.wrap (p + (1 : Int)) - (1 : Int)) < (↑b.length : Int)) then some (((IntKind.i64.wrap (gt (Sh.int IntKind.u8) b (IntKind.i64.wrap (IntKind.i64.wrap (p + (1 : Int)) - (1 : Int))).toNat), ()), ()), ((b, IntKind.i64.wrap (p + (1 : Int)), bad), ()), ()) else none else none else none := by kernel_rfl
theorem e20_eq (k : Nat) (b : List Int) (p : Int) (ok : Bool) (lo : Int) (hi : Int) : f20 k ((((b, p, ok), ()), (lo, ()), (hi, ()), ()), ()) = bif !ok then some ((((0 : Int), ()), ((b, p, false), ()), ()), ()) else bif decide (p ≥ (↑b.length : Int)) then some ((((0 : Int), ()), ((b, p, false), ()), ()), ()) else bif decide ((0 : Int) ≤ p ∧ p < (↑b.length : Int)) then bif decide (IntKind.i64.wrap (gt (Sh.int IntKind.u8) b p.toNat) < lo) then some ((((0 : Int), ()), ((b, p, false), ()), ()), ()) else bif decide ((0 : Int) ≤ p ∧ p < (↑b.length : Int)) then bif decide (IntKind.i64.wrap (gt (Sh.int IntKind.u8) b p.toNat) > hi) then some ((((0 : Int), ()), ((b, p, false), ()), ()), ()) else bif decide ((0 : Int) ≤ IntKind.i64.wrap (IntKind.i64.wrap (p + (1 : Int)) - (1 : Int)) ∧ IntKind.i64.wrap (IntKind.i64.wrap (p + (1 : Int)) - (1 : Int)) < (↑b.length : Int)) then some (((IntKind.i64.wrap (gt (Sh.int IntKind.u8) b (IntKind.i64.wrap (IntKind.i64.wrap (p + (1 : Int)) - (1 : Int))).toNat), ()), ((b, IntKind.i64.wrap (p + (1 : Int)), ok), ()), ()), ()) else none else none else none := by kernel_rfl
theorem e18_eq (k : Nat) (b : List Int) (p : Int) (bad : Bool) (lo : Int) (hi : Int) : f18 k ((((), ()), (lo, ()), (hi, ()), ()), ((b, p, bad), ()), ()) = (f17 k ((((), ()), ((0 : Int), ()), (imin hi (255 : Int), ()), ()), ((b, p, bad), ()), ())).bind fun v => bif decide (v.1.1.1 < lo) then (f17 k ((((), ()), ((1 : Int), ()), ((IntKind.i64.wrap (hi - v.1.1.1)).fdiv ((2 : Int) ^ min (Int.toNat (8 : Int)) IntKind.i64.bits), ()), ()), ((v.2.1.1.1, v.2.1.1.2.1, v.2.1.1.2.2), ()), ())).bind fun v_1 => some (((IntKind.i64.wrap (↑(BitVec.ofInt IntKind.i64.bits v.1.1.1 ||| BitVec.ofInt IntKind.i64.bits (IntKind.i64.wrap (v_1.1.1.1 * (2 : Int) ^ min (Int.toNat (8 : Int)) IntKind.i64.bits))).toNat : Int), ()), ()), ((v_1.2.1.1.1, v_1.2.1.1.2.1, v_1.2.1.1.2.2), ()), ()) else (f17 k ((((), ()), ((0 : Int), ()), ((IntKind.i64.wrap (hi - v.1.1.1)).fdiv ((2 : Int) ^ min (Int.toNat (8 : Int)) IntKind.i64.bits), ()), ()), ((v.2.1.1.1, v.2.1.1.2.1, v.2.1.1.2.2), ()), ())).bind fun v_1 => some (((IntKind.i64.wrap (↑(BitVec.ofInt IntKind.i64.bits v.1.1.1 ||| BitVec.ofInt IntKind.i64.bits (IntKind.i64.wrap (v_1.1.1.1 * (2 : Int) ^ min (Int.toNat (8 : Int)) IntKind.i64.bits))).toNat : Int), ()), ()), ((v_1.2.1.1.1, v_1.2.1.1.2.1, v_1.2.1.1.2.2), ()), ()) := by kernel_rfl
def e21_0 (g : ((Int × Unit) × (Int × Unit) × (Unit × Unit) × (Unit × Unit) × (Int × Unit) × (Bool × Unit) × (Int × Unit) × Unit) × ((List Int × Int × Bool) × Unit) × ((List Int × Int × Bool) × Unit) × Unit) (L : ((Int × Unit) × (Int × Unit) × (Unit × Unit) × (Unit × Unit) × (Int × Unit) × (Bool × Unit) × (Int × Unit) × Unit) × ((List Int × Int × Bool) × Unit) × ((List Int × Int × Bool) × Unit) × Unit → Option (((Int × Unit) × ((List Int × Int × Bool) × Unit) × Unit) × Unit)) : Option (((Int × Unit) × ((List Int × Int × Bool) × Unit) × Unit) × Unit) := bif decide (g.1.2.2.2.2.2.2.1.1 < (256 : Int)) then bif g.1.2.2.2.2.2.1.1 then L (((g.1.1.1, ()), (g.1.2.1.1, ()), ((), ()), ((), ()), (g.1.2.2.2.2.1.1, ()), (true, ()), (IntKind.i64.wrap (g.1.2.2.2.2.2.2.1.1 + (1 : Int)), ()), ()), ((g.2.1.1.1, g.2.1.1.2.1, g.2.1.1.2.2), ()), ((g.2.2.1.1.1, g.2.2.1.1.2.1, g.2.2.1.1.2.2), ()), ()) else bif decide (IntKind.i64.wrap (g.1.2.2.2.2.1.1 + IntKind.i64.wrap ((256 : Int) * g.1.2.2.2.2.2.2.1.1)) ≥ g.1.1.1) then L (((g.1.1.1, ()), (g.1.2.1.1, ()), ((), ()), ((), ()), (g.1.2.2.2.2.1.1, ()), (decide (IntKind.i64.wrap (g.1.2.2.2.2.1.1 + IntKind.i64.wrap ((256 : Int) * g.1.2.2.2.2.2.2.1.1)) ≤ g.1.2.1.1), ()), (IntKind.i64.wrap (g.1.2.2.2.2.2.2.1.1 + (1 : Int)), ()), ()), ((g.2.1.1.1, g.2.1.1.2.1, g.2.1.1.2.2), ()), ((g.2.2.1.1.1, g.2.2.1.1.2.1, g.2.2.1.1.2.2), ()), ()) else L (((g.1.1.1, ()), (g.1.2.1.1, ()), ((), ()), ((), ()), (g.1.2.2.2.2.1.1, ()), (false, ()), (IntKind.i64.wrap (g.1.2.2.2.2.2.2.1.1 + (1 : Int)), ()), ()), ((g.2.1.1.1, g.2.1.1.2.1, g.2.1.1.2.2), ()), ((g.2.2.1.1.1, g.2.2.1.1.2.1, g.2.2.1.1.2.2), ()), ()) else bif !g.1.2.2.2.2.2.1.1 then some ((((0 : Int), ()), ((g.2.1.1.1, g.2.1.1.2.1, false), ()), ()), ()) else bif decide (IntKind.i64.wrap (g.2.1.1.2.1 + (1 : Int)) ≥ (↑g.2.1.1.1.length : Int)) then some ((((0 : Int), ()), ((g.2.1.1.1, IntKind.i64.wrap (g.2.1.1.2.1 + (1 : Int)), false), ()), ()), ()) else bif decide ((0 : Int) ≤ IntKind.i64.wrap (g.2.1.1.2.1 + (1 : Int)) ∧ IntKind.i64.wrap (g.2.1.1.2.1 + (1 : Int)) < (↑g.2.1.1.1.length : Int)) then bif decide (IntKind.i64.wrap (g.1.2.2.2.2.1.1 + IntKind.i64.wrap ((256 : Int) * IntKind.i64.wrap (gt (Sh.int IntKind.u8) g.2.1.1.1 (IntKind.i64.wrap (g.2.1.1.2.1 + (1 : Int))).toNat))) < g.1.1.1) then some ((((0 : Int), ()), ((g.2.1.1.1, IntKind.i64.wrap (g.2.1.1.2.1 + (1 : Int)), false), ()), ()), ()) else bif decide ((0 : Int) ≤ IntKind.i64.wrap (g.2.1.1.2.1 + (1 : Int)) ∧ IntKind.i64.wrap (g.2.1.1.2.1 + (1 : Int)) < (↑g.2.1.1.1.length : Int)) then bif decide (IntKind.i64.wrap (g.1.2.2.2.2.1.1 + IntKind.i64.wrap ((256 : Int) * IntKind.i64.wrap (gt (Sh.int IntKind.u8) g.2.1.1.1 (IntKind.i64.wrap (g.2.1.1.2.1 + (1 : Int))).toNat))) > g.1.2.1.1) then some ((((0 : Int), ()), ((g.2.1.1.1, IntKind.i64.wrap (g.2.1.1.2.1 + (1 : Int)), false), ()), ()), ()) else bif decide ((0 : Int) ≤ IntKind.i64.wrap (IntKind.i64.wrap (IntKind.i64.wrap (g.2.1.1.2.1 + (1 : Int)) + (1 : Int)) - (1 : Int)) ∧ IntKind.i64.wrap (IntKind.i64.wrap (IntKind.i64.wrap (g.2.1.1.2.1 + (1 : Int)) + (1 : Int)) - (1 : Int)) < (↑g.2.1.1.1.length : Int)) then some (((IntKind.i64.wrap (g.1.2.2.2.2.1.1 + IntKind.i64.wrap ((256 : Int) * IntKind.i64.wrap (gt (Sh.int IntKind.u8) g.2.1.1.1 (IntKind.i64.wrap (IntKind.i64.wrap (IntKind.i64.wrap (g.2.1.1.2.1 + (1 : Int)) + (1 : Int)) - (1 : Int))).toNat))), ()), ((g.2.1.1.1, IntKind.i64.wrap (IntKind.i64.wrap (g.2.1.1.2.1 + (1 : Int)) + (1 : Int)), g.2.1.1.2.2), ()), ()), ()) else none else none else none
theorem e21_eq (k : Nat) (b : List Int) (p : Int) (ok : Bool) (lo : Int) (hi : Int) : f21 k ((((b, p, ok), ()), (lo, ()), (hi, ()), ()), ()) = bif !ok then some ((((0 : Int), ()), ((b, p, false), ()), ()), ()) else bif decide (p ≥ (↑b.length : Int)) then some ((((0 : Int), ()), ((b, p, false), ()), ()), ()) else bif decide ((0 : Int) ≤ p ∧ p < (↑b.length : Int)) then loopN e21_0 k (((lo, ()), (hi, ()), ((), ()), ((), ()), (IntKind.i64.wrap (gt (Sh.int IntKind.u8) b p.toNat), ()), (false, ()), ((0 : Int), ()), ()), ((b, p, ok), ()), (([], (0 : Int), false), ()), ()) else none := by kernel_rfl

/-- does a byte come that lies within the bounds? -/
def hit (b : List Int) (p : Int) (bad : Bool) (lo hi : Int) : Bool := !bad && decide (p < (b.length : Int) ∧ lo ≤ b.getD p.toNat 0 ∧ b.getD p.toNat 0 ≤ hi)
/-- a byte: what it is, where it goes on, is it bad -/
def nx (b : List Int) (p : Int) (bad : Bool) (lo hi : Int) : Int × Int × Bool := if hit b p bad lo hi then (b.getD p.toNat 0, p + 1, false) else (0, p, true)
structure Pos (b : List Int) (p : Int) : Prop where
  ge : 0 ≤ p
  le : p ≤ (b.length : Int)
  lim : (b.length : Int) ≤ 4096
  u8 : ∀ x ∈ b, U8 x
theorem nx_pos {b : List Int} {p : Int} (h : Pos b p) (bad : Bool) (lo hi : Int) : Pos b (nx b p bad lo hi).2.1 := by
  unfold nx
  split
  · rename_i hh
    simp only [hit, Bool.and_eq_true, decide_eq_true_eq] at hh
    exact ⟨by have := h.ge; show 0 ≤ p + 1; omega, by show p + 1 ≤ _; omega, h.lim, h.u8⟩
  · exact h
theorem hit_bad {b : List Int} {p lo hi : Int} : hit b p true lo hi = false := rfl
theorem nx_bad {b : List Int} {p lo hi : Int} : nx b p true lo hi = (0, p, true) := rfl
theorem byte_at {b : List Int} {p : Int} (h : Pos b p) : IntKind.i64.wrap (gt (Sh.int IntKind.u8) b p.toNat) = b.getD p.toNat 0 := by
  have := getU8 h.u8 p.toNat
  show IntKind.i64.wrap (b.getD p.toNat 0) = _
  exact wrapId (by omega) (by omega)
theorem next_ok (k : Nat) {b : List Int} {p : Int} (h : Pos b p) (bad : Bool) (lo hi : Int) : f17 k ((((), ()), (lo, ()), (hi, ()), ()), (((b, p, bad), ()), ())) = r1 (nx b p bad lo hi).1 b (nx b p bad lo hi).2.1 (nx b p bad lo hi).2.2 := by
  have h1 := h.ge
  have h2 := h.lim
  rw [e17_eq]
  cases bad
  case true => rw [nx_bad]; rfl
  rw [cond_false]
  unfold nx hit
  by_cases c1 : p < (b.length : Int)
  · rw [cneg (by omega), cpos (by omega), byte_at h, cpos (p := 0 ≤ p ∧ p < (b.length : Int)) (by omega)]
    by_cases c2 : lo ≤ b.getD p.toNat 0
    · rw [cneg (p := b.getD p.toNat 0 < lo) (by omega)]
      by_cases c3 : b.getD p.toNat 0 ≤ hi
      · have e : IntKind.i64.wrap (IntKind.i64.wrap (p + 1) - 1) = p := by rw [wrapId (n := p + 1) (by omega) (by omega), wrapId (by omega) (by omega)]; omega
        rw [cneg (by omega), e, cpos (by omega), byte_at h, wrapId (n := p + 1) (by omega) (by omega), decide_eq_true ⟨c1, c2, c3⟩]; rfl
      · rw [cpos (by omega), decide_eq_false (fun q => c3 q.2.2)]; rfl
    · rw [cpos (p := b.getD p.toNat 0 < lo) (by omega), decide_eq_false (fun q => c2 q.2.1)]; rfl
  · rw [cpos (by omega), decide_eq_false (fun q => c1 q.1)]; rfl
theorem one_ok (k : Nat) {b : List Int} {p : Int} (h : Pos b p) (bad : Bool) (lo hi : Int) : f20 k ((((b, p, !bad), ()), (lo, ()), (hi, ()), ()), ()) = r2 (nx b p bad lo hi).1 b (nx b p bad lo hi).2.1 (!(nx b p bad lo hi).2.2) := by
  have h1 := h.ge
  have h2 := h.lim
  rw [e20_eq]
  cases bad
  case true => rw [nx_bad]; rfl
  simp only [Bool.not_false, Bool.not_true, cond_false]
  unfold nx hit
  by_cases c1 : p < (b.length : Int)
  · rw [cneg (by omega), cpos (by omega), byte_at h, cpos (p := 0 ≤ p ∧ p < (b.length : Int)) (by omega)]
    by_cases c2 : lo ≤ b.getD p.toNat 0
    · rw [cneg (p := b.getD p.toNat 0 < lo) (by omega)]
      by_cases c3 : b.getD p.toNat 0 ≤ hi
      · have e : IntKind.i64.wrap (IntKind.i64.wrap (p + 1) - 1) = p := by rw [wrapId (n := p + 1) (by omega) (by omega), wrapId (by omega) (by omega)]; omega
        rw [cneg (by omega), e, cpos (by omega), byte_at h, wrapId (n := p + 1) (by omega) (by omega), decide_eq_true ⟨c1, c2, c3⟩]; rfl
      · rw [cpos (by omega), decide_eq_false (fun q => c3 q.2.2)]; rfl
    · rw [cpos (p := b.getD p.toNat 0 < lo) (by omega), decide_eq_false (fun q => c2 q.2.1)]; rfl
  · rw [cpos (by omega), decide_eq_false (fun q => c1 q.1)]; rfl
theorem nx_val {b : List Int} {p : Int} (h : Pos b p) (bad : Bool) (lo hi : Int) : 0 ≤ (nx b p bad lo hi).1 ∧ (nx b p bad lo hi).1 < 256 ∧ ((nx b p bad lo hi).2.2 = false → lo ≤ (nx b p bad lo hi).1 ∧ (nx b p bad lo hi).1 ≤ hi) := by
  have := getU8 h.u8 p.toNat
  unfold nx
  split
  · rename_i hh
    simp only [hit, Bool.and_eq_true, decide_eq_true_eq] at hh
    exact ⟨this.1, this.2, fun _ => ⟨hh.2.2.1, hh.2.2.2⟩⟩
  · exact ⟨Int.le_refl _, by show (0 : Int) < 256; omega, fun q => by cases q⟩
/-- a number of two bytes -/
def tw (b : List Int) (p : Int) (bad : Bool) (lo hi : Int) : Int × Int × Bool :=
  ((nx b p bad 0 (min hi 255)).1 + 256 * (nx b (nx b p bad 0 (min hi 255)).2.1 (nx b p bad 0 (min hi 255)).2.2 (if (nx b p bad 0 (min hi 255)).1 < lo then 1 else 0) ((hi - (nx b p bad 0 (min hi 255)).1) / 256)).1,
    (nx b (nx b p bad 0 (min hi 255)).2.1 (nx b p bad 0 (min hi 255)).2.2 (if (nx b p bad 0 (min hi 255)).1 < lo then 1 else 0) ((hi - (nx b p bad 0 (min hi 255)).1) / 256)).2)
theorem bvN (w n : Nat) : BitVec.ofInt w (n : Int) = BitVec.ofNat w n := by
  apply BitVec.eq_of_toNat_eq
  rw [BitVec.toNat_ofInt, BitVec.toNat_ofNat]; omega
theorem or_two {l c : Int} (hl : 0 ≤ l ∧ l < 256) (hc : 0 ≤ c ∧ c < 256) : IntKind.i64.wrap (↑(BitVec.ofInt IntKind.i64.bits l ||| BitVec.ofInt IntKind.i64.bits (IntKind.i64.wrap (c * (2 : Int) ^ min (Int.toNat (8 : Int)) IntKind.i64.bits))).toNat : Int) = l + 256 * c := by
  obtain ⟨n, rfl⟩ := Int.eq_ofNat_of_zero_le hl.1
  obtain ⟨m, rfl⟩ := Int.eq_ofNat_of_zero_le hc.1
  have e : (m : Int) * (2 : Int) ^ min (Int.toNat (8 : Int)) IntKind.i64.bits = ((2 ^ 8 * m : Nat) : Int) := by
    show (m : Int) * 256 = _
    omega
  rw [e, wrapId (n := ((2 ^ 8 * m : Nat) : Int)) (by omega) (by omega), bvN, bvN, BitVec.toNat_or, BitVec.toNat_ofNat, BitVec.toNat_ofNat, show IntKind.i64.bits = 64 from rfl, Nat.mod_eq_of_lt (by omega), Nat.mod_eq_of_lt (by omega), Nat.or_comm, ← Nat.two_pow_add_eq_or_of_lt (by omega), wrapId (by omega) (by omega)]
  omega
theorem shr8 {n : Int} (h : -1000000 ≤ n ∧ n ≤ 1000000) : (IntKind.i64.wrap n).fdiv ((2 : Int) ^ min (Int.toNat (8 : Int)) IntKind.i64.bits) = n / 256 := by
  rw [wrapId (by omega) (by omega)]
  show n.fdiv 256 = _
  exact Int.fdiv_eq_ediv_of_nonneg _ (by omega)
theorem two_ok (k : Nat) {b : List Int} {p : Int} (h : Pos b p) (bad : Bool) {lo hi : Int} (hh : -1000 ≤ hi ∧ hi ≤ 65536) : f18 k ((((), ()), (lo, ()), (hi, ()), ()), (((b, p, bad), ()), ())) = r1 (tw b p bad lo hi).1 b (tw b p bad lo hi).2.1 (tw b p bad lo hi).2.2 := by
  rw [e18_eq, imin_eq, next_ok k h, Option.bind_some]
  simp only []
  have hv := nx_val h bad 0 (min hi 255)
  have hp := nx_pos h bad 0 (min hi 255)
  unfold tw
  generalize nx b p bad 0 (min hi 255) = q at *
  rw [shr8 (n := hi - q.1) (by omega)]
  by_cases c : q.1 < lo
  · rw [cpos c, if_pos c, next_ok k hp, Option.bind_some]
    simp only []
    have hv2 := nx_val hp q.2.2 1 ((hi - q.1) / 256)
    rw [or_two ⟨hv.1, hv.2.1⟩ ⟨hv2.1, hv2.2.1⟩]
  · rw [cneg c, if_neg c, next_ok k hp, Option.bind_some]
    simp only []
    have hv2 := nx_val hp q.2.2 0 ((hi - q.1) / 256)
    rw [or_two ⟨hv.1, hv.2.1⟩ ⟨hv2.1, hv2.2.1⟩]
theorem tw_pos {b : List Int} {p : Int} (h : Pos b p) (bad : Bool) (lo hi : Int) : Pos b (tw b p bad lo hi).2.1 := nx_pos (nx_pos h _ _ _) _ _ _
/-! the document's: the first byte has to have some second one -/
theorem e21_true (b : List Int) (p lo hi l : Int) (q : List Int × Int × Bool) : ∀ (n : Nat) (j : Int) (k : Nat), 256 - j ≤ n → 0 ≤ j → (256 - j).toNat + 1 ≤ k →
    ∃ k', loopN e21_0 k (((lo, ()), (hi, ()), ((), ()), ((), ()), (l, ()), (true, ()), (j, ()), ()), ((b, p, true), ()), (q, ()), ()) =
      e21_0 (((lo, ()), (hi, ()), ((), ()), ((), ()), (l, ()), (true, ()), (max j 256, ()), ()), ((b, p, true), ()), (q, ()), ()) (loopN e21_0 k') := by
  intro n
  induction n with
  | zero =>
    intro j k hn hj hk
    obtain ⟨k, rfl⟩ : ∃ k2, k = k2 + 1 := ⟨k - 1, by omega⟩
    exact ⟨k, by rw [loopN_succ, show max j 256 = j by omega]⟩
  | succ n ih =>
    intro j k hn hj hk
    obtain ⟨k, rfl⟩ : ∃ k2, k = k2 + 1 := ⟨k - 1, by omega⟩
    by_cases h : j < 256
    · obtain ⟨k', h'⟩ := ih (j + 1) k (by omega) (by omega) (by omega)
      refine ⟨k', ?_⟩
      rw [loopN_succ, e21_0]
      simp only []
      rw [cpos h, cond_true, wrapId (by omega) (by omega)]
      rw [h', show max (j + 1) 256 = max j 256 by omega]
    · exact ⟨k, by rw [loopN_succ, show max j 256 = j by omega]⟩
theorem e21_none (b : List Int) (p lo hi l : Int) (q : List Int × Int × Bool) (hl : 0 ≤ l ∧ l < 256) (hno : hi < l) : ∀ (n : Nat) (j : Int) (k : Nat), 256 - j ≤ n → 0 ≤ j → j ≤ 256 → (256 - j).toNat + 1 ≤ k →
    loopN e21_0 k (((lo, ()), (hi, ()), ((), ()), ((), ()), (l, ()), (false, ()), (j, ()), ()), ((b, p, true), ()), (q, ()), ()) = r2 0 b p false := by
  intro n
  induction n with
  | zero =>
    intro j k hn hj hj2 hk
    obtain ⟨k, rfl⟩ : ∃ k2, k = k2 + 1 := ⟨k - 1, by omega⟩
    rw [loopN_succ, e21_0]
    simp only []
    rw [cneg (by omega)]; rfl
  | succ n ih =>
    intro j k hn hj hj2 hk
    obtain ⟨k, rfl⟩ : ∃ k2, k = k2 + 1 := ⟨k - 1, by omega⟩
    rw [loopN_succ, e21_0]
    simp only []
    by_cases h : j < 256
    · rw [cpos h, cond_false, wrapId (n := 256 * j) (by omega) (by omega), wrapId (n := l + 256 * j) (by omega) (by omega), wrapId (n := j + 1) (by omega) (by omega), decide_eq_false (by omega : ¬ l + 256 * j ≤ hi)]
      have := ih (j + 1) k (by omega) (by omega) (by omega) (by omega)
      by_cases c : l + 256 * j ≥ lo
      · rw [cpos c]; exact this
      · rw [cneg c]; exact this
    · rw [cneg h]; rfl
theorem pair_ok (k : Nat) {b : List Int} {p : Int} (h : Pos b p) (bad : Bool) {lo hi : Int} (hh : hi ≤ 65536) (hlo : lo = 0 ∨ lo = 1 ∧ 256 ≤ hi) (hk : 300 ≤ k) :
    f21 k ((((b, p, !bad), ()), (lo, ()), (hi, ()), ()), ()) = r2 (if (tw b p bad lo hi).2.2 then 0 else (tw b p bad lo hi).1) b (tw b p bad lo hi).2.1 (!(tw b p bad lo hi).2.2) := by
  have h1 := h.ge
  have h2 := h.lim
  rw [e21_eq]
  unfold tw
  cases bad
  case true => rw [nx_bad]; simp only [nx_bad]; rfl
  simp only [Bool.not_false, Bool.not_true, cond_false]
  by_cases c1 : p < (b.length : Int)
  case neg =>
    have e : nx b p false 0 (min hi 255) = (0, p, true) := by unfold nx hit; rw [decide_eq_false (fun q => c1 q.1)]; rfl
    rw [cpos (by omega), e]
    simp only [nx_bad]; rfl
  have hl := getU8 h.u8 p.toNat
  rw [cneg (by omega), cpos (by omega), byte_at h]
  by_cases c2 : b.getD p.toNat 0 ≤ hi
  case neg =>
    have e : nx b p false 0 (min hi 255) = (0, p, true) := by unfold nx hit; rw [decide_eq_false (fun q => by have := q.2.2; omega)]; rfl
    rw [e21_none b p lo hi _ _ hl (by omega) 256 0 k (by omega) (by omega) (by omega) (by omega), e]
    simp only [nx_bad]; rfl
  have e : nx b p false 0 (min hi 255) = (b.getD p.toNat 0, p + 1, false) := by unfold nx hit; rw [decide_eq_true ⟨c1, hl.1, by omega⟩]; rfl
  have hp1 : Pos b (p + 1) := by have := nx_pos h false 0 (min hi 255); rw [e] at this; exact this
  have h3 := hp1.ge
  rw [e]
  simp only []
  generalize hL : b.getD p.toNat 0 = l at *
  -- some second one is there: told by the first or the second try
  have found : ∃ (j : Int) (k' : Nat), 0 ≤ j ∧ (256 - j).toNat + 1 ≤ k' ∧ loopN e21_0 k (((lo, ()), (hi, ()), ((), ()), ((), ()), (l, ()), (false, ()), ((0 : Int), ()), ()), ((b, p, true), ()), (([], (0 : Int), false), ()), ()) =
      loopN e21_0 k' (((lo, ()), (hi, ()), ((), ()), ((), ()), (l, ()), (true, ()), (j, ()), ()), ((b, p, true), ()), (([], (0 : Int), false), ()), ()) := by
    obtain ⟨k, rfl⟩ : ∃ k2, k = k2 + 1 := ⟨k - 1, by omega⟩
    by_cases c : lo ≤ l
    · refine ⟨1, k, by omega, by omega, ?_⟩
      rw [loopN_succ, e21_0]
      simp only []
      rw [cpos (by omega), cond_false, wrapId (n := 256 * 0) (by omega) (by omega), wrapId (n := l + 256 * 0) (by omega) (by omega), cpos (by omega), decide_eq_true (by omega : l + 256 * 0 ≤ hi)]; rfl
    · obtain ⟨k, rfl⟩ : ∃ k2, k = k2 + 1 := ⟨k - 1, by omega⟩
      refine ⟨2, k, by omega, by omega, ?_⟩
      rw [loopN_succ, e21_0]
      simp only []
      rw [cpos (by omega), cond_false, wrapId (n := 256 * 0) (by omega) (by omega), wrapId (n := l + 256 * 0) (by omega) (by omega), cneg (by omega), show IntKind.i64.wrap (0 + 1) = 1 from rfl, loopN_succ, e21_0]
      simp only []
      rw [cpos (by omega), cond_false, wrapId (n := 256 * 1) (by omega) (by omega), wrapId (n := l + 256 * 1) (by omega) (by omega), cpos (by omega), decide_eq_true (by omega : l + 256 * 1 ≤ hi)]; rfl
  obtain ⟨j, k', hj, hk', hf⟩ := found
  obtain ⟨k'', hf2⟩ := e21_true b p lo hi l ([], 0, false) 256 j k' (by omega) hj hk'
  rw [hf, hf2, e21_0]
  simp only []
  rw [cneg (by omega), Bool.not_true, cond_false, wrapId (n := p + 1) (by omega) (by omega)]
  by_cases c3 : p + 1 < (b.length : Int)
  case neg =>
    have e2 : ∀ x y, nx b (p + 1) false x y = (0, p + 1, true) := fun x y => by unfold nx hit; rw [decide_eq_false (fun q => c3 q.1)]; rfl
    rw [cpos (by omega), e2]; rfl
  have hl2 := getU8 h.u8 (p + 1).toNat
  rw [cneg (by omega), cpos (by omega), byte_at hp1]
  generalize hC : b.getD (p + 1).toNat 0 = c at *
  rw [wrapId (n := 256 * c) (by omega) (by omega), wrapId (n := l + 256 * c) (by omega) (by omega)]
  by_cases c4 : l + 256 * c < lo
  · have e2 : nx b (p + 1) false (if l < lo then 1 else 0) ((hi - l) / 256) = (0, p + 1, true) := by
      unfold nx hit
      rw [hC, if_pos (by omega : l < lo), decide_eq_false (fun q => by have := q.2.1; omega)]; rfl
    rw [cpos c4, e2]; rfl
  rw [cneg c4, cpos (p := 0 ≤ p + 1 ∧ p + 1 < (b.length : Int)) (by omega)]
  by_cases c5 : l + 256 * c > hi
  · have e2 : nx b (p + 1) false (if l < lo then 1 else 0) ((hi - l) / 256) = (0, p + 1, true) := by
      unfold nx hit
      rw [hC, decide_eq_false (fun q => by have := q.2.2; omega)]; rfl
    rw [cpos c5, e2]; rfl
  have e2 : nx b (p + 1) false (if l < lo then 1 else 0) ((hi - l) / 256) = (c, p + 1 + 1, false) := by
    unfold nx hit
    rw [hC, decide_eq_true ⟨c3, by split <;> omega, by omega⟩]; rfl
  have e3 : IntKind.i64.wrap (IntKind.i64.wrap (p + 1 + 1) - 1) = p + 1 := by rw [wrapId (n := p + 1 + 1) (by omega) (by omega), wrapId (by omega) (by omega)]; omega
  rw [cneg c5, e3, cpos (by omega), byte_at hp1, hC, wrapId (n := 256 * c) (by omega) (by omega), wrapId (n := l + 256 * c) (by omega) (by omega), wrapId (n := p + 1 + 1) (by omega) (by omega), e2]; rfl
end
end Go.Proofs.Ytbdkphjpdoajpaa.Md
