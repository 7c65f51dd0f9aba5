import Derived.Test.YtjdbamenbgfcjaaDoorGN
import Derived.Test.YtjdbamenbgfcjaaDoorGK
namespace Go.Proofs.YtjdbamenbgfcjaaDoor.Gl
open Go Go.RowKit Go.Proofs Go.Proofs.YtjdbamenbgfcjaaDoor.X
set_option linter.unusedVariables false
set_option linter.unusedSimpArgs false
noncomputable section
/-! Runes, written as bytes -/
def shr (n x : Int) : Int := Int.fdiv x ((2 : Int) ^ min (Int.toNat n) IntKind.i32.bits)
def o8 (c x : Int) : Int := IntKind.u8.wrap (↑(BitVec.ofInt IntKind.u8.bits c ||| BitVec.ofInt IntKind.u8.bits (IntKind.u8.wrap x)).toNat : Int)
def a8 (x : Int) : Int := (↑(BitVec.ofInt IntKind.u8.bits (IntKind.u8.wrap x) &&& BitVec.ofInt IntKind.u8.bits (63 : Int)).toNat : Int)
def a32 (x : Int) : Int := IntKind.i32.wrap (↑(BitVec.ofInt IntKind.i32.bits x &&& BitVec.ofInt IntKind.i32.bits (63 : Int)).toNat : Int)
abbrev bw2 (r : Int) : List Int := [o8 192 (shr 6 r), o8 128 (a8 r)]
abbrev bw3 (r : Int) : List Int := [o8 224 (shr 12 r), o8 128 (a8 (shr 6 r)), o8 128 (a8 r)]
abbrev bw4 (r : Int) : List Int := [o8 240 (shr 18 r), o8 128 (a8 (shr 12 r)), o8 128 (a8 (shr 6 r)), o8 128 (a8 r)]
abbrev by2 (r : Int) : List Int := [o8 192 (shr 6 r), o8 128 (a32 r)]
abbrev by3 (r : Int) : List Int := [o8 224 (shr 12 r), o8 128 (a32 (shr 6 r)), o8 128 (a32 r)]
abbrev by4 (r : Int) : List Int := [o8 240 (shr 18 r), o8 128 (a32 (shr 12 r)), o8 128 (a32 (shr 6 r)), o8 128 (a32 r)]
theorem e35_eq (k : Nat) (a : List Int) (r : Int) : f35 k ((((), ()), (r, ()), ()), a, ()) = bif decide (IntKind.u32.wrap r ≤ (127 : Int)) then bif ((a.length + [IntKind.u8.wrap r].length) * (1 : Nat)).ble (140737488355328 : Nat) then some ((((), ()), ()), (), a ++ [IntKind.u8.wrap r], ()) else none else (f42 k ((((), ()), (r, ()), ()), a, ())).bind fun v => some ((((), ()), ()), (), v.2.2.1, ()) := by kernel_rfl
theorem e42_eq (k : Nat) (a : List Int) (r : Int) : f42 k ((((), ()), (r, ()), ()), a, ()) = bif decide (IntKind.u32.wrap r ≤ (2047 : Int)) then bif ((a.length + (bw2 r).length) * (1 : Nat)).ble (140737488355328 : Nat) then some ((((), ()), ()), (), a ++ (bw2 r), ()) else none else bif decide (IntKind.u32.wrap r < (55296 : Int)) then bif ((a.length + (bw3 r).length) * (1 : Nat)).ble (140737488355328 : Nat) then some ((((), ()), ()), (), a ++ (bw3 r), ()) else none else bif decide ((57343 : Int) < IntKind.u32.wrap r) then bif decide (IntKind.u32.wrap r ≤ (65535 : Int)) then bif ((a.length + (bw3 r).length) * (1 : Nat)).ble (140737488355328 : Nat) then some ((((), ()), ()), (), a ++ (bw3 r), ()) else none else bif decide (IntKind.u32.wrap r > (65535 : Int)) then bif decide (IntKind.u32.wrap r ≤ (1114111 : Int)) then bif ((a.length + (bw4 r).length) * (1 : Nat)).ble (140737488355328 : Nat) then some ((((), ()), ()), (), a ++ (bw4 r), ()) else none else bif ((a.length + [(239 : Int), (191 : Int), (189 : Int)].length) * (1 : Nat)).ble (140737488355328 : Nat) then some ((((), ()), ()), (), a ++ [(239 : Int), (191 : Int), (189 : Int)], ()) else none else bif ((a.length + [(239 : Int), (191 : Int), (189 : Int)].length) * (1 : Nat)).ble (140737488355328 : Nat) then some ((((), ()), ()), (), a ++ [(239 : Int), (191 : Int), (189 : Int)], ()) else none else bif decide (IntKind.u32.wrap r > (65535 : Int)) then bif decide (IntKind.u32.wrap r ≤ (1114111 : Int)) then bif ((a.length + (bw4 r).length) * (1 : Nat)).ble (140737488355328 : Nat) then some ((((), ()), ()), (), a ++ (bw4 r), ()) else none else bif ((a.length + [(239 : Int), (191 : Int), (189 : Int)].length) * (1 : Nat)).ble (140737488355328 : Nat) then some ((((), ()), ()), (), a ++ [(239 : Int), (191 : Int), (189 : Int)], ()) else none else bif ((a.length + [(239 : Int), (191 : Int), (189 : Int)].length) * (1 : Nat)).ble (140737488355328 : Nat) then some ((((), ()), ()), (), a ++ [(239 : Int), (191 : Int), (189 : Int)], ()) else none := by kernel_rfl
def e21_0 (k : Nat) (b : List Int) (g : ((List Int × Unit) × (Unit × Unit) × (Int × Unit) × Unit) × List Int × Unit) (L : ((List Int × Unit) × (Unit × Unit) × (Int × Unit) × Unit) × List Int × Unit → Option (((List Int × Unit) × Unit) × Unit)) : Option (((List Int × Unit) × Unit) × Unit) := bif decide (g.1.2.2.1.1 < (↑g.1.1.1.length : Int)) then bif decide ((0 : Int) ≤ g.1.2.2.1.1 ∧ g.1.2.2.1.1 < (↑g.1.1.1.length : Int)) then (f22 k (((gt (Sh.int IntKind.i32) g.1.1.1 g.1.2.2.1.1.toNat, ()), ()), ())).bind fun v => bif !v.1.1.1 then bif ((g.2.1.length + (by3 (65533 : Int)).length) * (1 : Nat)).ble (140737488355328 : Nat) then L (((g.1.1.1, ()), ((), ()), (IntKind.i64.wrap (g.1.2.2.1.1 + (1 : Int)), ()), ()), g.2.1 ++ (by3 (65533 : Int)), ()) else none else bif decide (gt (Sh.int IntKind.i32) g.1.1.1 g.1.2.2.1.1.toNat < (128 : Int)) then bif ((g.2.1.length + [IntKind.u8.wrap (gt (Sh.int IntKind.i32) g.1.1.1 g.1.2.2.1.1.toNat)].length) * (1 : Nat)).ble (140737488355328 : Nat) then L (((g.1.1.1, ()), ((), ()), (IntKind.i64.wrap (g.1.2.2.1.1 + (1 : Int)), ()), ()), g.2.1 ++ [IntKind.u8.wrap (gt (Sh.int IntKind.i32) g.1.1.1 g.1.2.2.1.1.toNat)], ()) else none else bif decide (gt (Sh.int IntKind.i32) g.1.1.1 g.1.2.2.1.1.toNat < (2048 : Int)) then bif ((g.2.1.length + (by2 (gt (Sh.int IntKind.i32) g.1.1.1 g.1.2.2.1.1.toNat)).length) * (1 : Nat)).ble (140737488355328 : Nat) then L (((g.1.1.1, ()), ((), ()), (IntKind.i64.wrap (g.1.2.2.1.1 + (1 : Int)), ()), ()), g.2.1 ++ (by2 (gt (Sh.int IntKind.i32) g.1.1.1 g.1.2.2.1.1.toNat)), ()) else none else bif decide (gt (Sh.int IntKind.i32) g.1.1.1 g.1.2.2.1.1.toNat < (65536 : Int)) then bif ((g.2.1.length + (by3 (gt (Sh.int IntKind.i32) g.1.1.1 g.1.2.2.1.1.toNat)).length) * (1 : Nat)).ble (140737488355328 : Nat) then L (((g.1.1.1, ()), ((), ()), (IntKind.i64.wrap (g.1.2.2.1.1 + (1 : Int)), ()), ()), g.2.1 ++ (by3 (gt (Sh.int IntKind.i32) g.1.1.1 g.1.2.2.1.1.toNat)), ()) else none else bif ((g.2.1.length + (by4 (gt (Sh.int IntKind.i32) g.1.1.1 g.1.2.2.1.1.toNat)).length) * (1 : Nat)).ble (140737488355328 : Nat) then L (((g.1.1.1, ()), ((), ()), (IntKind.i64.wrap (g.1.2.2.1.1 + (1 : Int)), ()), ()), g.2.1 ++ (by4 (gt (Sh.int IntKind.i32) g.1.1.1 g.1.2.2.1.1.toNat)), ()) else none else none else some (((g.2.1, ()), ()), ())
theorem e21_eq (k : Nat) (b : List Int) : f21 k (((b, ()), ()), ()) = loopN (e21_0 k b) k (((b, ()), ((), ()), ((0 : Int), ()), ()), [], ()) := by kernel_rfl
def e20_0 (g : ((List Int × Unit) × (List Int × Unit) × (Int × Unit) × Unit) × Unit) (L : ((List Int × Unit) × (List Int × Unit) × (Int × Unit) × Unit) × Unit → Option (((Bool × Unit) × Unit) × Unit)) : Option (((Bool × Unit) × Unit) × Unit) := bif decide (g.1.2.2.1.1 < (↑g.1.1.1.length : Int)) then bif decide ((0 : Int) ≤ g.1.2.2.1.1 ∧ g.1.2.2.1.1 < (↑g.1.1.1.length : Int)) then bif decide ((0 : Int) ≤ g.1.2.2.1.1 ∧ g.1.2.2.1.1 < (↑g.1.2.1.1.length : Int)) then bif gt (Sh.int IntKind.u8) g.1.1.1 g.1.2.2.1.1.toNat != gt (Sh.int IntKind.u8) g.1.2.1.1 g.1.2.2.1.1.toNat then some (((false, ()), ()), ()) else L (((g.1.1.1, ()), (g.1.2.1.1, ()), (IntKind.i64.wrap (g.1.2.2.1.1 + (1 : Int)), ()), ()), ()) else none else none else some (((true, ()), ()), ())
theorem e20_eq (k : Nat) (a : List Int) (b : List Int) : f20 k (((a, ()), (b, ()), ()), ()) = bif (↑a.length : Int) != (↑b.length : Int) then some (((false, ()), ()), ()) else loopN e20_0 k (((a, ()), (b, ()), ((0 : Int), ()), ()), ()) := by kernel_rfl

/-- a rune's bytes -/
def encR (r : Int) : List Int := if r < 128 then [r] else if r < 2048 then [192 + r / 64, 128 + r % 64] else if r < 65536 then [224 + r / 4096, 128 + r / 64 % 64, 128 + r % 64] else [240 + r / 262144, 128 + r / 4096 % 64, 128 + r / 64 % 64, 128 + r % 64]
def IsR (r : Int) : Prop := 0 ≤ r ∧ r ≤ 1114111 ∧ (r < 55296 ∨ 57343 < r)
instance (r : Int) : Decidable (IsR r) := by unfold IsR; infer_instance
def fixR (r : Int) : Int := if IsR r then r else 65533
/-- all runes' bytes -/
def enc : List Int → List Int
  | [] => []
  | r :: rs => encR (fixR r) ++ enc rs
theorem shr_is (n : Nat) (hn : n ≤ 32) (x : Int) (h : 0 ≤ x) : shr (n : Int) x = x / (2 : Int) ^ n := by
  unfold shr
  rw [Int.toNat_natCast, show min n IntKind.i32.bits = n from Nat.min_eq_left hn, Int.fdiv_eq_ediv_of_nonneg _ (by exact Int.le_of_lt (Int.pow_pos (by omega)))]
def chkO (n : Nat) : Bool := (decide (32 ≤ n) || o8 192 n == 192 + n) && ((decide (16 ≤ n) || o8 224 n == 224 + n) && ((decide (8 ≤ n) || o8 240 n == 240 + n) && o8 128 n == 128 + n))
theorem chkOs : (List.range 64).all chkO = true := by kernel_rfl
theorem chkO_at {n : Nat} (h : n < 64) : chkO n = true := List.all_eq_true.1 chkOs n (List.mem_range.2 h)
theorem o8_192 {x : Int} (h : 0 ≤ x ∧ x < 32) : o8 192 x = 192 + x := by
  obtain ⟨n, rfl⟩ := Int.eq_ofNat_of_zero_le h.1
  have := chkO_at (n := n) (by omega)
  simp only [chkO, Bool.and_eq_true, Bool.or_eq_true, decide_eq_true_eq, beq_iff_eq] at this
  rcases this.1 with h1 | h1
  · omega
  · exact h1
theorem o8_224 {x : Int} (h : 0 ≤ x ∧ x < 16) : o8 224 x = 224 + x := by
  obtain ⟨n, rfl⟩ := Int.eq_ofNat_of_zero_le h.1
  have := chkO_at (n := n) (by omega)
  simp only [chkO, Bool.and_eq_true, Bool.or_eq_true, decide_eq_true_eq, beq_iff_eq] at this
  rcases this.2.1 with h1 | h1
  · omega
  · exact h1
theorem o8_240 {x : Int} (h : 0 ≤ x ∧ x < 8) : o8 240 x = 240 + x := by
  obtain ⟨n, rfl⟩ := Int.eq_ofNat_of_zero_le h.1
  have := chkO_at (n := n) (by omega)
  simp only [chkO, Bool.and_eq_true, Bool.or_eq_true, decide_eq_true_eq, beq_iff_eq] at this
  rcases this.2.2.1 with h1 | h1
  · omega
  · exact h1
theorem o8_128 {x : Int} (h : 0 ≤ x ∧ x < 64) : o8 128 x = 128 + x := by
  obtain ⟨n, rfl⟩ := Int.eq_ofNat_of_zero_le h.1
  have := chkO_at (n := n) (by omega)
  simp only [chkO, Bool.and_eq_true, Bool.or_eq_true, decide_eq_true_eq, beq_iff_eq] at this
  exact this.2.2.2
def chkA (n : Nat) : Bool := a8 n == ((n % 64 : Nat) : Int) && (msk 31 n == ((n % 32 : Nat) : Int) && (msk 15 n == ((n % 16 : Nat) : Int) && (msk 7 n == ((n % 8 : Nat) : Int) && msk 63 n == ((n % 64 : Nat) : Int))))
theorem chkAs : (List.range 256).all chkA = true := by kernel_rfl
theorem chkA_at {n : Nat} (h : n < 256) : a8 n = ((n % 64 : Nat) : Int) ∧ msk 31 n = ((n % 32 : Nat) : Int) ∧ msk 15 n = ((n % 16 : Nat) : Int) ∧ msk 7 n = ((n % 8 : Nat) : Int) ∧ msk 63 n = ((n % 64 : Nat) : Int) := by
  have := List.all_eq_true.1 chkAs n (List.mem_range.2 h)
  simpa only [chkA, Bool.and_eq_true, beq_iff_eq] using this
theorem a8_is {x : Int} (h : 0 ≤ x) : a8 x = x % 64 := by
  have e : a8 x = a8 ((x.toNat % 256 : Nat) : Int) := by
    unfold a8
    have hw : IntKind.u8.wrap x = IntKind.u8.wrap ((x.toNat % 256 : Nat) : Int) := by rw [IntKind.wrap_u8, IntKind.wrap_u8]; omega
    rw [hw]
  rw [e, (chkA_at (n := x.toNat % 256) (by omega)).1]; omega
theorem bvN (w n : Nat) : BitVec.ofInt w (n : Int) = BitVec.ofNat w n := by
  apply BitVec.eq_of_toNat_eq
  rw [BitVec.toNat_ofInt, BitVec.toNat_ofNat]; omega
theorem a32_is {x : Int} (h : 0 ≤ x ∧ x < 2147483648) : a32 x = x % 64 := by
  obtain ⟨n, rfl⟩ := Int.eq_ofNat_of_zero_le h.1
  have e : (BitVec.ofInt IntKind.i32.bits (n : Int) &&& BitVec.ofInt IntKind.i32.bits (63 : Int)).toNat = n % 64 := by
    rw [show (63 : Int) = ((63 : Nat) : Int) from rfl, bvN, bvN, BitVec.toNat_and, BitVec.toNat_ofNat, BitVec.toNat_ofNat, show (63 : Nat) % 2 ^ IntKind.i32.bits = 2 ^ 6 - 1 from rfl, Nat.and_two_pow_sub_one_eq_mod, show IntKind.i32.bits = 32 from rfl]; omega
  unfold a32
  rw [e, wrap32 (by omega) (by omega)]; omega
theorem bw2_is {r : Int} (h : 0 ≤ r ∧ r < 2048) : bw2 r = [192 + r / 64, 128 + r % 64] := by
  have h6 : shr 6 r = r / 64 := shr_is 6 (by omega) r h.1
  unfold bw2
  rw [h6, o8_192 (by omega), a8_is h.1, o8_128 (by omega)]
theorem bw3_is {r : Int} (h : 0 ≤ r ∧ r < 65536) : bw3 r = [224 + r / 4096, 128 + r / 64 % 64, 128 + r % 64] := by
  have h6 : shr 6 r = r / 64 := shr_is 6 (by omega) r h.1
  have h12 : shr 12 r = r / 4096 := shr_is 12 (by omega) r h.1
  unfold bw3
  rw [h6, h12, o8_224 (by omega), a8_is (x := r / 64) (by omega), a8_is h.1, o8_128 (by omega), o8_128 (by omega)]
theorem bw4_is {r : Int} (h : 0 ≤ r ∧ r < 2097152) : bw4 r = [240 + r / 262144, 128 + r / 4096 % 64, 128 + r / 64 % 64, 128 + r % 64] := by
  have h6 : shr 6 r = r / 64 := shr_is 6 (by omega) r h.1
  have h12 : shr 12 r = r / 4096 := shr_is 12 (by omega) r h.1
  have h18 : shr 18 r = r / 262144 := shr_is 18 (by omega) r h.1
  unfold bw4
  rw [h6, h12, h18, o8_240 (by omega), a8_is (x := r / 64) (by omega), a8_is (x := r / 4096) (by omega), a8_is h.1, o8_128 (by omega), o8_128 (by omega), o8_128 (by omega)]
theorem by2_is {r : Int} (h : 0 ≤ r ∧ r < 2048) : by2 r = [192 + r / 64, 128 + r % 64] := by
  have h6 : shr 6 r = r / 64 := shr_is 6 (by omega) r h.1
  unfold by2
  rw [h6, o8_192 (by omega), a32_is (x := r) (by omega), o8_128 (by omega)]
theorem by3_is {r : Int} (h : 0 ≤ r ∧ r < 65536) : by3 r = [224 + r / 4096, 128 + r / 64 % 64, 128 + r % 64] := by
  have h6 : shr 6 r = r / 64 := shr_is 6 (by omega) r h.1
  have h12 : shr 12 r = r / 4096 := shr_is 12 (by omega) r h.1
  unfold by3
  rw [h6, h12, o8_224 (by omega), a32_is (x := r / 64) (by omega), a32_is (x := r) (by omega), o8_128 (by omega), o8_128 (by omega)]
theorem by4_is {r : Int} (h : 0 ≤ r ∧ r < 2097152) : by4 r = [240 + r / 262144, 128 + r / 4096 % 64, 128 + r / 64 % 64, 128 + r % 64] := by
  have h6 : shr 6 r = r / 64 := shr_is 6 (by omega) r h.1
  have h12 : shr 12 r = r / 4096 := shr_is 12 (by omega) r h.1
  have h18 : shr 18 r = r / 262144 := shr_is 18 (by omega) r h.1
  unfold by4
  rw [h6, h12, h18, o8_240 (by omega), a32_is (x := r / 64) (by omega), a32_is (x := r / 4096) (by omega), a32_is (x := r) (by omega), o8_128 (by omega), o8_128 (by omega), o8_128 (by omega)]
/-! decoding, as sums -/
theorem shl32_is (s : Nat) (hs : s ≤ 32) (x : Int) (h0 : 0 ≤ x) (h : x * (2 : Int) ^ s < 2147483648) : shl32 (s : Int) x = x * (2 : Int) ^ s := by
  have : 0 ≤ x * (2 : Int) ^ s := Int.mul_nonneg h0 (Int.le_of_lt (Int.pow_pos (by omega)))
  unfold shl32
  rw [Int.toNat_natCast, show min s IntKind.i32.bits = s from Nat.min_eq_left hs, wrap32 (by omega) h]
theorem or32_is (k a b : Nat) (hb : b < 2 ^ k) (h : 2 ^ k * a + b < 2147483648) : or32 ((2 ^ k * a : Nat) : Int) (b : Int) = ((2 ^ k * a + b : Nat) : Int) := by
  unfold or32
  rw [bvN, bvN, BitVec.toNat_or, BitVec.toNat_ofNat, BitVec.toNat_ofNat, show IntKind.i32.bits = 32 from rfl, Nat.mod_eq_of_lt (by omega), Nat.mod_eq_of_lt (by omega), ← Nat.two_pow_add_eq_or_of_lt hb, wrap32 (by omega) (by omega)]
theorem or32_at {a b : Int} (k : Nat) (x : Int) (h0 : 0 ≤ x) (ha : a = (2 : Int) ^ k * x) (hb : 0 ≤ b ∧ b < (2 : Int) ^ k) (h : a + b < 2147483648) : or32 a b = a + b := by
  obtain ⟨y, rfl⟩ := Int.eq_ofNat_of_zero_le h0
  obtain ⟨z, rfl⟩ := Int.eq_ofNat_of_zero_le hb.1
  subst ha
  have e : ((2 ^ k * y : Nat) : Int) = (2 : Int) ^ k * (y : Int) := by rw [Int.natCast_mul, Int.natCast_pow]; rfl
  have hz : z < 2 ^ k := by
    have := hb.2
    rw [show (2 : Int) ^ k = ((2 ^ k : Nat) : Int) by rw [Int.natCast_pow]; rfl] at this
    exact Int.ofNat_lt.1 this
  have := or32_is k y z hz (by rw [← e] at h; omega)
  rw [← e, this, Int.natCast_add]
theorem R2_is {c d : Int} (hc : 192 ≤ c ∧ c < 224) (hd : 128 ≤ d ∧ d < 192) : R2 c d = (c - 192) * 64 + (d - 128) := by
  obtain ⟨n, rfl⟩ := Int.eq_ofNat_of_zero_le (a := c) (by omega)
  obtain ⟨m, rfl⟩ := Int.eq_ofNat_of_zero_le (a := d) (by omega)
  unfold R2
  rw [(chkA_at (n := n) (by omega)).2.1, (chkA_at (n := m) (by omega)).2.2.2.2]
  have e1 : ((n % 32 : Nat) : Int) = (n : Int) - 192 := by omega
  have e2 : ((m % 64 : Nat) : Int) = (m : Int) - 128 := by omega
  rw [e1, e2]
  have s6 : shl32 6 ((n : Int) - 192) = ((n : Int) - 192) * 64 := shl32_is 6 (by omega) _ (by omega) (by omega)
  rw [s6, or32_at 6 ((n : Int) - 192) (by omega) (by omega) (by omega) (by omega)]
theorem R3_is {c d e : Int} (hc : 224 ≤ c ∧ c < 240) (hd : 128 ≤ d ∧ d < 192) (he : 128 ≤ e ∧ e < 192) : R3 c d e = (c - 224) * 4096 + (d - 128) * 64 + (e - 128) := by
  obtain ⟨n, rfl⟩ := Int.eq_ofNat_of_zero_le (a := c) (by omega)
  obtain ⟨m, rfl⟩ := Int.eq_ofNat_of_zero_le (a := d) (by omega)
  obtain ⟨l, rfl⟩ := Int.eq_ofNat_of_zero_le (a := e) (by omega)
  unfold R3
  rw [(chkA_at (n := n) (by omega)).2.2.1, (chkA_at (n := m) (by omega)).2.2.2.2, (chkA_at (n := l) (by omega)).2.2.2.2]
  have e1 : ((n % 16 : Nat) : Int) = (n : Int) - 224 := by omega
  have e2 : ((m % 64 : Nat) : Int) = (m : Int) - 128 := by omega
  have e3 : ((l % 64 : Nat) : Int) = (l : Int) - 128 := by omega
  rw [e1, e2, e3]
  have s12 : shl32 12 ((n : Int) - 224) = ((n : Int) - 224) * 4096 := shl32_is 12 (by omega) _ (by omega) (by omega)
  have s6 : shl32 6 ((m : Int) - 128) = ((m : Int) - 128) * 64 := shl32_is 6 (by omega) _ (by omega) (by omega)
  have q1 : or32 (((n : Int) - 224) * 4096) (((m : Int) - 128) * 64) = ((n : Int) - 224) * 4096 + ((m : Int) - 128) * 64 := or32_at 12 ((n : Int) - 224) (by omega) (by omega) (by omega) (by omega)
  rw [s12, s6, q1, or32_at 6 (((n : Int) - 224) * 64 + ((m : Int) - 128)) (by omega) (by omega) (by omega) (by omega)]
theorem R4_is {c d e f : Int} (hc : 240 ≤ c ∧ c < 248) (hd : 128 ≤ d ∧ d < 192) (he : 128 ≤ e ∧ e < 192) (hf : 128 ≤ f ∧ f < 192) : R4 c d e f = (c - 240) * 262144 + (d - 128) * 4096 + (e - 128) * 64 + (f - 128) := by
  obtain ⟨n, rfl⟩ := Int.eq_ofNat_of_zero_le (a := c) (by omega)
  obtain ⟨m, rfl⟩ := Int.eq_ofNat_of_zero_le (a := d) (by omega)
  obtain ⟨l, rfl⟩ := Int.eq_ofNat_of_zero_le (a := e) (by omega)
  obtain ⟨j, rfl⟩ := Int.eq_ofNat_of_zero_le (a := f) (by omega)
  unfold R4
  rw [(chkA_at (n := n) (by omega)).2.2.2.1, (chkA_at (n := m) (by omega)).2.2.2.2, (chkA_at (n := l) (by omega)).2.2.2.2, (chkA_at (n := j) (by omega)).2.2.2.2]
  have e1 : ((n % 8 : Nat) : Int) = (n : Int) - 240 := by omega
  have e2 : ((m % 64 : Nat) : Int) = (m : Int) - 128 := by omega
  have e3 : ((l % 64 : Nat) : Int) = (l : Int) - 128 := by omega
  have e4 : ((j % 64 : Nat) : Int) = (j : Int) - 128 := by omega
  rw [e1, e2, e3, e4]
  have s18 : shl32 18 ((n : Int) - 240) = ((n : Int) - 240) * 262144 := shl32_is 18 (by omega) _ (by omega) (by omega)
  have s12 : shl32 12 ((m : Int) - 128) = ((m : Int) - 128) * 4096 := shl32_is 12 (by omega) _ (by omega) (by omega)
  have s6 : shl32 6 ((l : Int) - 128) = ((l : Int) - 128) * 64 := shl32_is 6 (by omega) _ (by omega) (by omega)
  have q1 : or32 (((n : Int) - 240) * 262144) (((m : Int) - 128) * 4096) = ((n : Int) - 240) * 262144 + ((m : Int) - 128) * 4096 := or32_at 18 ((n : Int) - 240) (by omega) (by omega) (by omega) (by omega)
  have q2 : or32 (((n : Int) - 240) * 262144 + ((m : Int) - 128) * 4096) (((l : Int) - 128) * 64) = ((n : Int) - 240) * 262144 + ((m : Int) - 128) * 4096 + ((l : Int) - 128) * 64 := or32_at 12 (((n : Int) - 240) * 64 + ((m : Int) - 128)) (by omega) (by omega) (by omega) (by omega)
  rw [s18, s12, s6, q1, q2, or32_at 6 ((((n : Int) - 240) * 64 + ((m : Int) - 128)) * 64 + ((l : Int) - 128)) (by omega) (by omega) (by omega) (by omega)]
/-! What writes runes, and that runes are read back -/
/-! casement/glyph.Bytes, its answer a row of the call's own -/
abbrev F19b : Fm := ⟨0, ⟨[⟨0, false, [.deep (.sl (.int .i32))]⟩], []⟩, ⟨[⟨0, false, [.own 0 (.int .u8)]⟩], [.row 5 (.int .u8)]⟩, anF Tryd.f19 [⟨[⟨3, false, [.own 0 (.int .u8)]⟩, ⟨6, false, [.deep (.sl (.int .i32))]⟩, ⟨7, false, [.deep is]⟩, ⟨8, false, [.deep is]⟩], [.row 5 (.int .u8)]⟩]⟩
def f19b (k : Nat) : F19b.pre.T → Option F19b.post.T := runFn Tryd.prog ti [Fm.entry Tryd.prog F35 35 (f35 k)] F19b Tryd.f19 k
theorem g19b (k : Nat) : EGood Tryd.prog (Fm.entry Tryd.prog F19b 19 (f19b k)) := good tiok mixed (goods_cons (g35 k) goods_nil) Tryd.func19 (by kernel_rfl) (by kernel_rfl)
def e19b_0 (k : Nat) (b : List Int) (g : ((Unit × Unit) × (List Int × Unit) × (Int × Unit) × (Int × Unit) × Unit) × List Int × Unit) (L : ((Unit × Unit) × (List Int × Unit) × (Int × Unit) × (Int × Unit) × Unit) × List Int × Unit → Option (((Unit × Unit) × Unit) × List Int × Unit)) : Option (((Unit × Unit) × Unit) × List Int × Unit) := bif decide (g.1.2.2.2.1.1 < g.1.2.2.1.1) then bif decide ((0 : Int) ≤ g.1.2.2.2.1.1 ∧ g.1.2.2.2.1.1 < (↑g.1.2.1.1.length : Int)) then (f35 k ((((), ()), (gt (Sh.int IntKind.i32) g.1.2.1.1 g.1.2.2.2.1.1.toNat, ()), ()), g.2.1, ())).bind fun v => L ((((), ()), (g.1.2.1.1, ()), (g.1.2.2.1.1, ()), (IntKind.i64.wrap (g.1.2.2.2.1.1 + (1 : Int)), ()), ()), v.2.2.1, ()) else none else some ((((), ()), ()), g.2.1, ())
theorem e19b_eq (k : Nat) (b : List Int) : f19b k (((b, ()), ()), ()) = loopN (e19b_0 k b) k ((((), ()), (b, ()), ((↑b.length : Int), ()), ((0 : Int), ()), ()), [], ()) := by kernel_rfl
theorem rune_ok (k : Nat) (n : Int) : f22 k (((n, ()), ()), ()) = some (((decide (IsR n), ()), ()), ()) := by
  rw [e22_eq]
  by_cases h1 : n ≥ 0
  · by_cases h2 : n ≤ 1114111
    · by_cases h3 : n < 55296
      · rw [decide_eq_true (show IsR n from ⟨by omega, by omega, by omega⟩)]; simp (disch := omega) only [cpos, cneg, dpos, dneg, cond_true, cond_false]
      · by_cases h4 : n > 57343
        · rw [decide_eq_true (show IsR n from ⟨by omega, by omega, by omega⟩)]; simp (disch := omega) only [cpos, cneg, dpos, dneg, cond_true, cond_false]
        · rw [decide_eq_false (show ¬ IsR n by unfold IsR; omega)]; simp (disch := omega) only [cpos, cneg, dpos, dneg, cond_true, cond_false]
    · rw [decide_eq_false (show ¬ IsR n by unfold IsR; omega)]; simp (disch := omega) only [cpos, cneg, dpos, dneg, cond_true, cond_false]
  · rw [decide_eq_false (show ¬ IsR n by unfold IsR; omega)]; simp (disch := omega) only [cpos, cneg, dpos, dneg, cond_true, cond_false]
theorem fix_of {r : Int} (h : IsR r) : fixR r = r := if_pos h
theorem fix_not {r : Int} (h : ¬ IsR r) : fixR r = 65533 := if_neg h
theorem fix_isR (r : Int) : IsR (fixR r) := by
  unfold fixR
  split
  · assumption
  · decide
theorem encR_len {r : Int} : 1 ≤ (encR r).length ∧ (encR r).length ≤ 4 := by
  unfold encR
  split
  · simp
  · split
    · simp
    · split <;> simp
theorem enc_len : ∀ rs : List Int, (enc rs).length ≤ 4 * rs.length
  | [] => Nat.le_refl _
  | r :: rs => by
    have := enc_len rs
    have := @encR_len (fixR r)
    rw [enc, List.length_append, List.length_cons]; omega
theorem enc_app (a b : List Int) : enc (a ++ b) = enc a ++ enc b := by
  induction a with
  | nil => rfl
  | cons x a ih => rw [List.cons_append, enc, enc, ih, List.append_assoc]
theorem wrapU32 (n : Int) : IntKind.u32.wrap n = n % 4294967296 := by rw [IntKind.wrap_u32]
theorem wrapU8 {n : Int} (h : U8 n) : IntKind.u8.wrap n = n := by
  have := h.1
  have := h.2
  rw [IntKind.wrap_u8]; omega
theorem enc_bad : encR 65533 = [239, 191, 189] := by decide
theorem write_ok (k : Nat) (a : List Int) (r : Int) (hr : I32 r) (ha : a.length ≤ 140737488351232) :
    f35 k ((((), ()), (r, ()), ()), a, ()) = some ((((), ()), ()), (), a ++ encR (fixR r), ()) := by
  have hr1 := hr.1
  have hr2 := hr.2
  rw [e35_eq, e42_eq, wrapU32]
  by_cases h0 : 0 ≤ r ∧ r ≤ 127
  · rw [cpos (by omega), bl1 (n := a.length + [IntKind.u8.wrap r].length) (by rw [List.length_singleton]; omega), wrapU8 ⟨h0.1, by omega⟩, fix_of ⟨h0.1, by omega, by omega⟩]
    unfold encR
    rw [if_pos (by omega)]
  rw [cneg (by omega)]
  by_cases h1 : 0 ≤ r ∧ r ≤ 2047
  · rw [cpos (by omega), bw2_is ⟨h1.1, by omega⟩, bl1 (n := a.length + [192 + r / 64, 128 + r % 64].length) (by simp only [List.length_cons, List.length_nil]; omega), Option.bind_some, fix_of ⟨h1.1, by omega, by omega⟩]
    unfold encR
    rw [if_neg (by omega), if_pos (by omega)]
  rw [cneg (p := r % 4294967296 ≤ 2047) (by omega)]
  by_cases h2 : 0 ≤ r ∧ r < 55296
  · rw [cpos (by omega), bw3_is ⟨h2.1, by omega⟩, bl1 (n := a.length + [224 + r / 4096, 128 + r / 64 % 64, 128 + r % 64].length) (by simp only [List.length_cons, List.length_nil]; omega), Option.bind_some, fix_of ⟨h2.1, by omega, by omega⟩]
    unfold encR
    rw [if_neg (by omega), if_neg (by omega), if_pos (by omega)]
  rw [cneg (p := r % 4294967296 < 55296) (by omega)]
  have bad : ∀ {x : Int}, x = r → ¬ IsR x → (bif ((a.length + [(239 : Int), (191 : Int), (189 : Int)].length) * (1 : Nat)).ble (140737488355328 : Nat) then some ((((), ()), ()), (), a ++ [(239 : Int), (191 : Int), (189 : Int)], ()) else none : Option F42.post.T) = some ((((), ()), ()), (), a ++ encR (fixR r), ()) := by
    intro x hx hb
    subst hx
    rw [bl1 (n := a.length + [(239 : Int), (191 : Int), (189 : Int)].length) (by simp only [List.length_cons, List.length_nil]; omega), fix_not hb, enc_bad]
  by_cases h3 : 0 ≤ r ∧ r ≤ 57343
  · rw [cneg (p := 57343 < r % 4294967296) (by omega), cneg (p := r % 4294967296 > 65535) (by omega), bad rfl (by unfold IsR; omega), Option.bind_some]
  rw [cpos (p := 57343 < r % 4294967296) (by omega)]
  by_cases h4 : 0 ≤ r ∧ r ≤ 65535
  · rw [cpos (p := r % 4294967296 ≤ 65535) (by omega), bw3_is ⟨h4.1, by omega⟩, bl1 (n := a.length + [224 + r / 4096, 128 + r / 64 % 64, 128 + r % 64].length) (by simp only [List.length_cons, List.length_nil]; omega), Option.bind_some, fix_of ⟨h4.1, by omega, by omega⟩]
    unfold encR
    rw [if_neg (by omega), if_neg (by omega), if_pos (by omega)]
  rw [cneg (p := r % 4294967296 ≤ 65535) (by omega), cpos (p := r % 4294967296 > 65535) (by omega)]
  by_cases h5 : 0 ≤ r ∧ r ≤ 1114111
  · rw [cpos (p := r % 4294967296 ≤ 1114111) (by omega), bw4_is ⟨h5.1, by omega⟩, bl1 (n := a.length + [240 + r / 262144, 128 + r / 4096 % 64, 128 + r / 64 % 64, 128 + r % 64].length) (by simp only [List.length_cons, List.length_nil]; omega), Option.bind_some, fix_of ⟨h5.1, by omega, by omega⟩]
    unfold encR
    rw [if_neg (by omega), if_neg (by omega), if_neg (by omega)]
  rw [cneg (p := r % 4294967296 ≤ 1114111) (by omega), bad rfl (by unfold IsR; omega), Option.bind_some]
theorem enc_drop {rs : List Int} {i : Nat} (h : i < rs.length) : enc (rs.drop i) = encR (fixR rs[i]) ++ enc (rs.drop (i + 1)) := by
  rw [List.drop_eq_getElem_cons h, enc]
theorem e19b_loop (k0 : Nat) (rs b0 : List Int) (hx : ∀ x ∈ rs, I32 x) (hl : rs.length ≤ 35184372080000) : ∀ (n i : Nat) (a : List Int) (k : Nat), rs.length - i ≤ n → i ≤ rs.length → rs.length - i + 1 ≤ k → a.length ≤ 4 * i →
    loopN (e19b_0 k0 b0) k ((((), ()), (rs, ()), ((rs.length : Int), ()), ((i : Int), ()), ()), a, ()) = some ((((), ()), ()), a ++ enc (rs.drop i), ()) := by
  intro n
  induction n with
  | zero =>
    intro i a k hn hi hk ha
    obtain ⟨k, rfl⟩ : ∃ k2, k = k2 + 1 := ⟨k - 1, by omega⟩
    rw [loopN_succ, e19b_0]
    simp only []
    rw [cneg (by omega), List.drop_of_length_le (by omega), enc, List.append_nil]
  | succ n ih =>
    intro i a k hn hi hk ha
    obtain ⟨k, rfl⟩ : ∃ k2, k = k2 + 1 := ⟨k - 1, by omega⟩
    rw [loopN_succ, e19b_0]
    simp only []
    by_cases h0 : rs.length ≤ i
    · rw [cneg (by omega), List.drop_of_length_le h0, enc, List.append_nil]
    · have h1 : i < rs.length := by omega
      have hen := @encR_len (fixR rs[i])
      rw [cpos (by omega), cpos (by omega), show ((i : Int)).toNat = i from Int.toNat_natCast _, gt_at h1, write_ok k0 a _ (hx _ (List.getElem_mem h1)) (by omega), Option.bind_some]
      simp only []
      rw [wrapId (by omega) (by omega), show ((i : Int) + 1) = ((i + 1 : Nat) : Int) by omega]
      rw [ih (i + 1) _ k (by omega) (by omega) (by omega) (by rw [List.length_append]; omega), enc_drop h1, List.append_assoc]
theorem bytes_ok (k : Nat) (rs : List Int) (hx : ∀ x ∈ rs, I32 x) (hl : rs.length ≤ 35184372080000) (hk : rs.length + 1 ≤ k) : f19b k (((rs, ()), ()), ()) = some ((((), ()), ()), enc rs, ()) := by
  have h := e19b_loop k rs rs hx hl rs.length 0 [] k (by omega) (by omega) (by omega) (by simp)
  rw [List.drop_zero, List.nil_append] at h
  rw [e19b_eq]; exact h
theorem e21_loop (k0 : Nat) (rs b0 : List Int) (hl : rs.length ≤ 35184372080000) : ∀ (n i : Nat) (a : List Int) (k : Nat), rs.length - i ≤ n → i ≤ rs.length → rs.length - i + 1 ≤ k → a.length ≤ 4 * i →
    loopN (e21_0 k0 b0) k (((rs, ()), ((), ()), ((i : Int), ()), ()), a, ()) = some (((a ++ enc (rs.drop i), ()), ()), ()) := by
  intro n
  induction n with
  | zero =>
    intro i a k hn hi hk ha
    obtain ⟨k, rfl⟩ : ∃ k2, k = k2 + 1 := ⟨k - 1, by omega⟩
    rw [loopN_succ, e21_0]
    simp only []
    rw [cneg (by omega), List.drop_of_length_le (by omega), enc, List.append_nil]
  | succ n ih =>
    intro i a k hn hi hk ha
    obtain ⟨k, rfl⟩ : ∃ k2, k = k2 + 1 := ⟨k - 1, by omega⟩
    rw [loopN_succ, e21_0]
    simp only []
    by_cases h0 : rs.length ≤ i
    · rw [cneg (by omega), List.drop_of_length_le h0, enc, List.append_nil]
    · have h1 : i < rs.length := by omega
      rw [cpos (by omega), cpos (by omega), show ((i : Int)).toNat = i from Int.toNat_natCast _, gt_at h1, rune_ok, Option.bind_some]
      simp only []
      rw [enc_drop h1]
      generalize hR : rs[i] = r
      have fin : ∀ {y : List Int}, y = encR (fixR r) → loopN (e21_0 k0 b0) k (((rs, ()), ((), ()), (IntKind.i64.wrap ((i : Int) + 1), ()), ()), a ++ y, ()) = some (((a ++ (encR (fixR r) ++ enc (rs.drop (i + 1))), ()), ()), ()) := by
        intro y hy
        subst hy
        have hen := @encR_len (fixR r)
        rw [wrapId (by omega) (by omega), show ((i : Int) + 1) = ((i + 1 : Nat) : Int) by omega, ih (i + 1) _ k (by omega) (by omega) (by omega) (by rw [List.length_append]; omega), List.append_assoc]
      by_cases hi1 : IsR r
      · rw [decide_eq_true hi1, Bool.not_true, cond_false]
        have hb1 := hi1.1
        have hb2 := hi1.2.1
        by_cases q1 : r < 128
        · rw [cpos q1, bl1 (n := a.length + [IntKind.u8.wrap r].length) (by rw [List.length_singleton]; omega)]
          exact fin (by rw [fix_of hi1, wrapU8 ⟨hb1, by omega⟩]; unfold encR; rw [if_pos q1])
        rw [cneg q1]
        by_cases q2 : r < 2048
        · rw [cpos q2, by2_is ⟨hb1, q2⟩, bl1 (n := a.length + [192 + r / 64, 128 + r % 64].length) (by simp only [List.length_cons, List.length_nil]; omega)]
          exact fin (by rw [fix_of hi1]; unfold encR; rw [if_neg q1, if_pos q2])
        rw [cneg q2]
        by_cases q3 : r < 65536
        · rw [cpos q3, by3_is ⟨hb1, q3⟩, bl1 (n := a.length + [224 + r / 4096, 128 + r / 64 % 64, 128 + r % 64].length) (by simp only [List.length_cons, List.length_nil]; omega)]
          exact fin (by rw [fix_of hi1]; unfold encR; rw [if_neg q1, if_neg q2, if_pos q3])
        rw [cneg q3, by4_is ⟨hb1, by omega⟩, bl1 (n := a.length + [240 + r / 262144, 128 + r / 4096 % 64, 128 + r / 64 % 64, 128 + r % 64].length) (by simp only [List.length_cons, List.length_nil]; omega)]
        exact fin (by rw [fix_of hi1]; unfold encR; rw [if_neg q1, if_neg q2, if_neg q3])
      · rw [decide_eq_false hi1, Bool.not_false, cond_true, by3_is (r := 65533) (by omega), bl1 (n := a.length + [224 + (65533 : Int) / 4096, 128 + (65533 : Int) / 64 % 64, 128 + (65533 : Int) % 64].length) (by simp only [List.length_cons, List.length_nil]; omega)]
        exact fin (by rw [fix_not hi1, enc_bad]; decide)
theorem rbytes_ok (k : Nat) (rs : List Int) (hl : rs.length ≤ 35184372080000) (hk : rs.length + 1 ≤ k) : f21 k (((rs, ()), ()), ()) = some (((enc rs, ()), ()), ()) := by
  have h := e21_loop k rs rs hl rs.length 0 [] k (by omega) (by omega) (by omega) (by simp)
  rw [List.drop_zero, List.nil_append] at h
  rw [e21_eq]; exact h
/-! runes are read back -/
theorem whole_enc {r : Int} (h : IsR r) (t : List Int) : whole (encR r ++ t) = (((encR r).length : Int), r) := by
  obtain ⟨h0, h1, h2⟩ := h
  unfold encR
  by_cases q1 : r < 128
  · rw [if_pos q1]
    unfold whole
    simp only [List.cons_append, List.nil_append, List.length_cons, List.getD_cons_zero]
    rw [if_neg (by omega), if_pos q1]; rfl
  rw [if_neg q1]
  by_cases q2 : r < 2048
  · rw [if_pos q2]
    unfold whole
    simp only [List.cons_append, List.nil_append, List.length_cons, List.getD_cons_zero, List.getD_cons_succ]
    rw [if_neg (by omega), if_neg (by omega), if_pos (by omega), R2_is (by omega) (by omega)]
    exact Prod.ext rfl (by show (_ : Int) = _; omega)
  rw [if_neg q2]
  by_cases q3 : r < 65536
  · rw [if_pos q3]
    unfold whole
    simp only [List.cons_append, List.nil_append, List.length_cons, List.getD_cons_zero, List.getD_cons_succ]
    have hlo : loOf (224 + r / 4096) ≤ 128 + r / 64 % 64 := by unfold loOf; repeat' split <;> omega
    have hhi : 128 + r / 64 % 64 ≤ hiOf (224 + r / 4096) := by unfold hiOf; repeat' split <;> omega
    rw [if_neg (by omega), if_neg (by omega), if_neg (by omega), if_pos (by omega), R3_is (by omega) (by omega) (by omega)]
    exact Prod.ext rfl (by show (_ : Int) = _; omega)
  · rw [if_neg q3]
    unfold whole
    simp only [List.cons_append, List.nil_append, List.length_cons, List.getD_cons_zero, List.getD_cons_succ]
    have hlo : loOf (240 + r / 262144) ≤ 128 + r / 4096 % 64 := by unfold loOf; repeat' split <;> omega
    have hhi : 128 + r / 4096 % 64 ≤ hiOf (240 + r / 262144) := by unfold hiOf; repeat' split <;> omega
    rw [if_neg (by omega), if_neg (by omega), if_neg (by omega), if_neg (by omega), if_pos (by omega), R4_is (by omega) (by omega) (by omega) (by omega)]
    exact Prod.ext rfl (by show (_ : Int) = _; omega)
theorem dec_enc {r : Int} (h : IsR r) (t : List Int) : dec (encR r ++ t) = (r, ((encR r).length : Int)) := by
  have hl := @encR_len r
  unfold dec
  rw [whole_enc h, if_neg (by rw [List.length_append]; omega), if_neg (by simp only []; omega)]
theorem runes_enc1 {r : Int} (h : IsR r) (t : List Int) : runes (encR r ++ t) = r :: runes t := by
  have hl := @encR_len r
  rw [runes_step (by rw [List.length_append]; omega), dec_enc h, show (((encR r).length : Int)).toNat = (encR r).length from Int.toNat_natCast _, List.drop_left]
theorem runes_enc : ∀ rs : List Int, runes (enc rs) = rs.map fixR
  | [] => rfl
  | r :: rs => by rw [enc, runes_enc1 (fix_isR r), runes_enc rs, List.map_cons]
theorem loOf_ge (c : Int) : 128 ≤ loOf c := by unfold loOf; repeat' split <;> omega
theorem hiOf_le (c : Int) : hiOf c ≤ 191 := by unfold hiOf; repeat' split <;> omega
theorem whole_isR {b : List Int} (hb : ∀ x ∈ b, U8 x) (h : (whole b).1 ≠ 0) : IsR (whole b).2 := by
  unfold whole at h ⊢
  by_cases h0 : b.length = 0
  · rw [if_pos h0] at h; exact absurd rfl h
  have hc := getU8 hb (i := 0) (by omega)
  rw [if_neg h0] at h ⊢
  generalize b.getD 0 0 = c at *
  generalize b.getD 1 0 = d at *
  generalize b.getD 2 0 = e at *
  generalize b.getD 3 0 = f at *
  have g1 := loOf_ge c
  have g2 := hiOf_le c
  by_cases q1 : c < 128
  · rw [if_pos q1]; exact ⟨hc.1, by show c ≤ _; omega, .inl (by show c < _; omega)⟩
  rw [if_neg q1] at h ⊢
  split
  · rename_i q
    rw [R2_is (by omega) (by omega)]
    unfold IsR; omega
  rename_i q2
  rw [if_neg q2] at h
  split
  · rename_i q
    rw [R3_is (by omega) (by omega) (by omega)]
    have hlo : c = 224 → 160 ≤ d := fun hh => by have := q.2.2.2.1; rw [hh] at this; exact this
    have hhi : c = 237 → d ≤ 159 := fun hh => by have := q.2.2.2.2.1; rw [hh] at this; exact this
    unfold IsR; omega
  rename_i q3
  rw [if_neg q3] at h
  split
  · rename_i q
    rw [R4_is (by omega) (by omega) (by omega) (by omega)]
    have hlo : c = 240 → 144 ≤ d := fun hh => by have := q.2.2.2.1; rw [hh] at this; exact this
    have hhi : c = 244 → d ≤ 143 := fun hh => by have := q.2.2.2.2.1; rw [hh] at this; exact this
    unfold IsR; omega
  rename_i q4
  rw [if_neg q4] at h; exact absurd rfl h
theorem dec_isR {b : List Int} (hb : ∀ x ∈ b, U8 x) : IsR (dec b).1 := by
  unfold dec
  split
  · decide
  · split
    · decide
    · rename_i h
      exact whole_isR hb h
theorem runes_isR : ∀ (n : Nat) (b : List Int), b.length ≤ n → (∀ x ∈ b, U8 x) → ∀ r ∈ runes b, IsR r
  | 0, b, h, _, r, hr => by rw [List.length_eq_zero_iff.1 (by omega : b.length = 0), runes_nil] at hr; cases hr
  | n + 1, b, h, hb, r, hr => by
    by_cases h0 : b.length = 0
    · rw [List.length_eq_zero_iff.1 h0, runes_nil] at hr; cases hr
    · have := dec_n h0
      rw [runes_step h0] at hr
      cases List.mem_cons.1 hr with
      | inl e => subst e; exact dec_isR hb
      | inr hr => exact runes_isR n (b.drop (dec b).2.toNat) (by rw [List.length_drop]; omega) (u8_drop hb _) r hr
theorem map_fix {rs : List Int} (h : ∀ r ∈ rs, IsR r) : rs.map fixR = rs := by
  conv => rhs; rw [← List.map_id rs]
  exact List.map_congr_left fun r hr => fix_of (h r hr)
theorem encR_u8 {r : Int} (h : IsR r) : ∀ x ∈ encR r, U8 x := by
  obtain ⟨h0, h1, h2⟩ := h
  unfold encR U8
  intro x hx
  repeat' split at hx
  all_goals
    simp only [List.mem_cons, List.not_mem_nil, or_false] at hx
    omega
theorem enc_u8 : ∀ rs : List Int, ∀ x ∈ enc rs, U8 x
  | [], x, h => by cases h
  | r :: rs, x, h => by
    rw [enc] at h
    cases List.mem_append.1 h with
    | inl h => exact encR_u8 (fix_isR r) x h
    | inr h => exact enc_u8 rs x h
end
end Go.Proofs.YtjdbamenbgfcjaaDoor.Gl
