import Derived.Test.YtjdbamenbgfcjaaDoorGN
import Derived.Test.YtjdbamenbgfcjaaDoorGK
namespace Go.Proofs.YtjdbamenbgfcjaaDoor.Gl
open Go Go.RowKit Go.Proofs Go.Proofs.YtjdbamenbgfcjaaDoor.X
set_option linter.unusedVariables false
set_option linter.unusedSimpArgs false
noncomputable section
/-! Runes, written as bytes -/
def shr (n x : Int) : Int := Int.fdiv x ((2 : Int) ^ min (Int.toNat n) IntKind.i32.bits)
def o8 (c x : Int) : Int := IntKind.u8.wrap (↑(BitVec.ofInt IntKind.u8.bits c ||| BitVec.ofInt IntKind.u8.bits (IntKind.u8.wrap x)).toNat : Int)
def a8 (x : Int) : Int := (↑(BitVec.ofInt IntKind.u8.bits (IntKind.u8.wrap x) &&& BitVec.ofInt IntKind.u8.bits (63 : Int)).toNat : Int)
def a32 (x : Int) : Int := IntKind.i32.wrap (↑(BitVec.ofInt IntKind.i32.bits x &&& BitVec.ofInt IntKind.i32.bits (63 : Int)).toNat : Int)
abbrev bw2 (r : Int) : List Int := [o8 192 (shr 6 r), o8 128 (a8 r)]
abbrev bw3 (r : Int) : List Int := [o8 224 (shr 12 r), o8 128 (a8 (shr 6 r)), o8 128 (a8 r)]
abbrev bw4 (r : Int) : List Int := [o8 240 (shr 18 r), o8 128 (a8 (shr 12 r)), o8 128 (a8 (shr 6 r)), o8 128 (a8 r)]
abbrev by2 (r : Int) : List Int := [o8 192 (shr 6 r), o8 128 (a32 r)]
abbrev by3 (r : Int) : List Int := [o8 224 (shr 12 r), o8 128 (a32 (shr 6 r)), o8 128 (a32 r)]
abbrev by4 (r : Int) : List Int := [o8 240 (shr 18 r), o8 128 (a32 (shr 12 r)), o8 128 (a32 (shr 6 r)), o8 128 (a32 r)]
theorem e35_eq (k : Nat) (a : List Int) (r : Int) : f35 k ((((), ()), (r, ()), ()), a, ()) = bif decide (IntKind.u32.wrap r ≤ (127 : Int)) then bif ((a.length + [IntKind.u8.wrap r].length) * (1 : Nat)).ble (140737488355328 : Nat) then some ((((), ()), ()), (), a ++ [IntKind.u8.wrap r], ()) else none else (f42 k ((((), ()), (r, ()), ()), a, ())).bind fun v => some ((((), ()), ()), (), v.2.2.1, ()) := by kernel_rfl
theorem e42_eq (k : Nat) (a : List Int) (r : Int) : f42 k ((((), ()), (r, ()), ()), a, ()) = bif decide (IntKind.u32.wrap r ≤ (2047 : Int)) then bif ((a.length + (bw2 r).length) * (1 : Nat)).ble (140737488355328 : Nat) then some ((((), ()), ()), (), a ++ (bw2 r), ()) else none else bif decide (IntKind.u32.wrap r < (55296 : Int)) then bif ((a.length + (bw3 r).length) * (1 : Nat)).ble (140737488355328 : Nat) then some ((((), ()), ()), (), a ++ (bw3 r), ()) else none else bif decide ((57343 : Int) < IntKind.u32.wrap r) then bif decide (IntKind.u32.wrap r ≤ (65535 : Int)) then bif ((a.length + (bw3 r).length) * (1 : Nat)).ble (140737488355328 : Nat) then some ((((), ()), ()), (), a ++ (bw3 r), ()) else none else bif decide (IntKind.u32.wrap r > (65535 : Int)) then bif decide (IntKind.u32.wrap r ≤ (1114111 : Int)) then bif ((a.length + (bw4 r).length) * (1 : Nat)).ble (140737488355328 : Nat) then some ((((), ()), ()), (), a ++ (bw4 r), ()) else none else bif ((a.length + [(239 : Int), (191 : Int), (189 : Int)].length) * (1 : Nat)).ble (140737488355328 : Nat) then some ((((), ()), ()), (), a ++ [(239 : Int), (191 : Int), (189 : Int)], ()) else none else bif ((a.length + [(239 : Int), (191 : Int), (189 : Int)].length) * (1 : Nat)).ble (140737488355328 : Nat) then some ((((), ()), ()), (), a ++ [(239 : Int), (191 : Int), (189 : Int)], ()) else none else bif decide (IntKind.u32.wrap r > (65535 : Int)) then bif decide (IntKind.u32.wrap r ≤ (1114111 : Int)) then bif ((a.length + (bw4 r).length) * (1 : Nat)).ble (140737488355328 : Nat) then some ((((), ()), ()), (), a ++ (bw4 r), ()) else none else bif ((a.length + [(239 : Int), (191 : Int), (189 : Int)].length) * (1 : Nat)).ble (140737488355328 : Nat) then some ((((), ()), ()), (), a ++ [(239 : Int), (191 : Int), (189 : Int)], ()) else none else bif ((a.length + [(239 : Int), (191 : Int), (189 : Int)].length) * (1 : Nat)).ble (140737488355328 : Nat) then some ((((), ()), ()), (), a ++ [(239 : Int), (191 : Int), (189 : Int)], ()) else none := by kernel_rfl
def e21_0 (k : Nat) (b : List Int) (g : ((List Int × Unit) × (Unit × Unit) × (Int × Unit) × Unit) × List Int × Unit) (L : ((List Int × Unit) × (Unit × Unit) × (Int × Unit) × Unit) × List Int × Unit → Option (((List Int × Unit) × Unit) × Unit)) : Option (((List Int × Unit) × Unit) × Unit) := bif decide (g.1.2.2.1.1 < (↑g.1.1.1.length : Int)) then bif decide ((0 : Int) ≤ g.1.2.2.1.1 ∧ g.1.2.2.1.1 < (↑g.1.1.1.length : Int)) then (f22 k (((gt (Sh.int IntKind.i32) g.1.1.1 g.1.2.2.1.1.toNat, ()), ()), ())).bind fun v => bif !v.1.1.1 then bif ((g.2.1.length + (by3 (65533 : Int)).length) * (1 : Nat)).ble (140737488355328 : Nat) then L (((g.1.1.1, ()), ((), ()), (IntKind.i64.wrap (g.1.2.2.1.1 + (1 : Int)), ()), ()), g.2.1 ++ (by3 (65533 : Int)), ()) else none else bif decide (gt (Sh.int IntKind.i32) g.1.1.1 g.1.2.2.1.1.toNat < (128 : Int)) then bif ((g.2.1.length + [IntKind.u8.wrap (gt (Sh.int IntKind.i32) g.1.1.1 g.1.2.2.1.1.toNat)].length) * (1 : Nat)).ble (140737488355328 : Nat) then L (((g.1.1.1, ()), ((), ()), (IntKind.i64.wrap (g.1.2.2.1.1 + (1 : Int)), ()), ()), g.2.1 ++ [IntKind.u8.wrap (gt (Sh.int IntKind.i32) g.1.1.1 g.1.2.2.1.1.toNat)], ()) else none else bif decide (gt (Sh.int IntKind.i32) g.1.1.1 g.1.2.2.1.1.toNat < (2048 : Int)) then bif ((g.2.1.length + (by2 (gt (Sh.int IntKind.i32) g.1.1.1 g.1.2.2.1.1.toNat)).length) * (1 : Nat)).ble (140737488355328 : Nat) then L (((g.1.1.1, ()), ((), ()), (IntKind.i64.wrap (g.1.2.2.1.1 + (1 : Int)), ()), ()), g.2.1 ++ (by2 (gt (Sh.int IntKind.i32) g.1.1.1 g.1.2.2.1.1.toNat)), ()) else none else bif decide (gt (Sh.int IntKind.i32) g.1.1.1 g.1.2.2.1.1.toNat < (65536 : Int)) then bif ((g.2.1.length + (by3 (gt (Sh.int IntKind.i32) g.1.1.1 g.1.2.2.1.1.toNat)).length) * (1 : Nat)).ble (140737488355328 : Nat) then L (((g.1.1.1, ()), ((), ()), (IntKind.i64.wrap (g.1.2.2.1.1 + (1 : Int)), ()), ()), g.2.1 ++ (by3 (gt (Sh.int IntKind.i32) g.1.1.1 g.1.2.2.1.1.toNat)), ()) else none else bif ((g.2.1.length + (by4 (gt (Sh.int IntKind.i32) g.1.1.1 g.1.2.2.1.1.toNat)).length) * (1 : Nat)).ble (140737488355328 : Nat) then L (((g.1.1.1, ()), ((), ()), (IntKind.i64.wrap (g.1.2.2.1.1 + (1 : Int)), ()), ()), g.2.1 ++ (by4 (gt (Sh.int IntKind.i32) g.1.1.1 g.1.2.2.1.1.toNat)), ()) else none else none else some (((g.2.1, ()), ()), ())
theorem e21_eq (k : Nat) (b : List Int) : f21 k (((b, ()), ()), ()) = loopN (e21_0 k b) k (((b, ()), ((), ()), ((0 : Int), ()), ()), [], ()) := by kernel_rfl
def e20_0 (g : ((List Int × Unit) × (List Int × Unit) × (Int × Unit) × Unit) × Unit) (L : ((List Int × Unit) × (List Int × Unit) × (Int × Unit) × Unit) × Unit → Option (((Bool × Unit) × Unit) × Unit)) : Option (((Bool × Unit) × Unit) × Unit) := bif decide (g.1.2.2.1.1 < (↑g.1.1.1.length : Int)) then bif decide ((0 : Int) ≤ g.1.2.2.1.1 ∧ g.1.2.2.1.1 < (↑g.1.1.1.length : Int)) then bif decide ((0 : Int) ≤ g.1.2.2.1.1 ∧ g.1.2.2.1.1 < (↑g.1.2.1.1.length : Int)) then bif gt (Sh.int IntKind.u8) g.1.1.1 g.1.2.2.1.1.toNat != gt (Sh.int IntKind.u8) g.1.2.1.1 g.1.2.2.1.1.toNat then some (((false, ()), ()), ()) else L (((g.1.1.1, ()), (g.1.2.1.1, ()), (IntKind.i64.wrap (g.1.2.2.1.1 + (1 : Int)), ()), ()), ()) else none else none else some (((true, ()), ()), ())
theorem e20_eq (k : Nat) (a : List Int) (b : List Int) : f20 k (((a, ()), (b, ()), ()), ()) = bif (↑a.length : Int) != (↑b.length : Int) then some (((false, ()), ()), ()) else loopN e20_0 k (((a, ()), (b, ()), ((0 : Int), ()), ()), ()) := by kernel_rfl

/-- a rune's bytes -/
def encR (r : Int) : List Int := if r < 128 then [r] else if r < 2048 then [192 + r / 64, 128 + r % 64] else if r < 65536 then [224 + r / 4096, 128 + r / 64 % 64, 128 + r % 64] else [240 + r / 262144, 128 + r / 4096 % 64, 128 + r / 64 % 64, 128 + r % 64]
def IsR (r : Int) : Prop := 0 ≤ r ∧ r ≤ 1114111 ∧ (r < 55296 ∨ 57343 < r)
instance (r : Int) : Decidable (IsR r) := by unfold IsR; infer_instance
def fixR (r : Int) : Int := if IsR r then r else 65533
/-- all runes' bytes -/
def enc : List Int → List Int
  | [] => []
  | r :: rs => encR (fixR r) ++ enc rs
theorem shr_is (n : Nat) (hn : n ≤ 32) (x : Int) (h : 0 ≤ x) : shr (n : Int) x = x / (2 : Int) ^ n := by
  unfold shr
  rw [Int.toNat_natCast, show min n IntKind.i32.bits = n from Nat.min_eq_left hn, Int.fdiv_eq_ediv_of_nonneg _ (by exact Int.le_of_lt (Int.pow_pos (by omega)))]
def chkO (n : Nat) : Bool := (decide (32 ≤ n) || o8 192 n == 192 + n) && ((decide (16 ≤ n) || o8 224 n == 224 + n) && ((decide (8 ≤ n) || o8 240 n == 240 + n) && o8 128 n == 128 + n))
theorem chkOs : (List.range 64).all chkO = true := by kernel_rfl
theorem chkO_at {n : Nat} (h : n < 64) : chkO n = true := List.all_eq_true.1 chkOs n (List.mem_range.2 h)
theorem o8_192 {x : Int} (h : 0 ≤ x ∧ x < 32) : o8 192 x = 192 + x := by
  obtain ⟨n, rfl⟩ := Int.eq_ofNat_of_zero_le h.1
  have := chkO_at (n := n) (by omega)
  simp only [chkO, Bool.and_eq_true, Bool.or_eq_true, decide_eq_true_eq, beq_iff_eq] at this
  rcases this.1 with h1 | h1
  · omega
  · exact h1
theorem o8_224 {x : Int} (h : 0 ≤ x ∧ x < 16) : o8 224 x = 224 + x := by
  obtain ⟨n, rfl⟩ := Int.eq_ofNat_of_zero_le h.1
  have := chkO_at (n := n) (by omega)
  simp only [chkO, Bool.and_eq_true, Bool.or_eq_true, decide_eq_true_eq, beq_iff_eq] at this
  rcases this.2.1 with h1 | h1
  · omega
  · exact h1
theorem o8_240 {x : Int} (h : 0 ≤ x ∧ x < 8) : o8 240 x = 240 + x := by
  obtain ⟨n, rfl⟩ := Int.eq_ofNat_of_zero_le h.1
  have := chkO_at (n := n) (by omega)
  simp only [chkO, Bool.and_eq_true, Bool.or_eq_true, decide_eq_true_eq, beq_iff_eq] at this
  rcases this.2.2.1 with h1 | h1
  · omega
  · exact h1
theorem o8_128 {x : Int} (h : 0 ≤ x ∧ x < 64) : o8 128 x = 128 + x := by
  obtain ⟨n, rfl⟩ := Int.eq_ofNat_of_zero_le h.1
  have := chkO_at (n := n) (by omega)
  simp only [chkO, Bool.and_eq_true, Bool.or_eq_true, decide_eq_true_eq, beq_iff_eq] at this
  exact this.2.2.2
def chkA (n : Nat) : Bool := a8 n == ((n % 64 : Nat) : Int) && (msk 31 n == ((n % 32 : Nat) : Int) && (msk 15 n == ((n % 16 : Nat) : Int) && (msk 7 n == ((n % 8 : Nat) : Int) && msk 63 n == ((n % 64 : Nat) : Int))))
theorem chkAs : (List.range 256).all chkA = true := by kernel_rfl
theorem chkA_at {n : Nat} (h : n < 256) : a8 n = ((n % 64 : Nat) : Int) ∧ msk 31 n = ((n % 32 : Nat) : Int) ∧ msk 15 n = ((n % 16 : Nat) : Int) ∧ msk 7 n = ((n % 8 : Nat) : Int) ∧ msk 63 n = ((n % 64 : Nat) : Int) := by
  have := List.all_eq_true.1 chkAs n (List.mem_range.2 h)
  simpa only [chkA, Bool.and_eq_true, beq_iff_eq] using this
theorem a8_is {x : Int} (h : 0 ≤ x) : a8 x = x % 64 := by
  have e : a8 x = a8 ((x.toNat % 256 : Nat) : Int) := by
    unfold a8
    have hw : IntKind.u8.wrap x = IntKind.u8.wrap ((x.toNat % 256 : Nat) : Int) := by rw [IntKind.wrap_u8, IntKind.wrap_u8]; omega
    rw [hw]
  rw [e, (chkA_at (n := x.toNat % 256) (by omega)).1]; omega
theorem bvN (w n : Nat) : BitVec.ofInt w (n : Int) = BitVec.ofNat w n := by
  apply BitVec.eq_of_toNat_eq
  rw [BitVec.toNat_ofInt, BitVec.toNat_ofNat]; omega
theorem a32_is {x : Int} (h : 0 ≤ x ∧ x < 2147483648) : a32 x = x % 64 := by
  obtain ⟨n, rfl⟩ := Int.eq_ofNat_of_zero_le h.1
  have e : (BitVec.ofInt IntKind.i32.bits (n : Int) &&& BitVec.ofInt IntKind.i32.bits (63 : Int)).toNat = n % 64 := by
    rw [show (63 : Int) = ((63 : Nat) : Int) from rfl, bvN, bvN, BitVec.toNat_and, BitVec.toNat_ofNat, BitVec.toNat_ofNat, show (63 : Nat) % 2 ^ IntKind.i32.bits = 2 ^ 6 - 1 from rfl, Nat.and_two_pow_sub_one_eq_mod, show IntKind.i32.bits = 32 from rfl]; omega
  unfold a32
  rw [e, wrap32 (by omega) (by omega)]; omega
theorem bw2_is {r : Int} (h : 0 ≤ r ∧ r < 2048) : bw2 r = [192 + r / 64, 128 + r % 64] := by
  have h6 : shr 6 r = r / 64 := shr_is 6 (by omega) r h.1
  unfold bw2
  rw [h6, o8_192 (by omega), a8_is h.1, o8_128 (by omega)]
theorem bw3_is {r : Int} (h : 0 ≤ r ∧ r < 65536) : bw3 r = [224 + r / 4096, 128 + r / 64 % 64, 128 + r % 64] := by
  have h6 : shr 6 r = r / 64 := shr_is 6 (by omega) r h.1
  have h12 : shr 12 r = r / 4096 := shr_is 12 (by omega) r h.1
  unfold bw3
  rw [h6, h12, o8_224 (by omega), a8_is (x := r / 64) (by omega), a8_is h.1, o8_128 (by omega), o8_128 (by omega)]
theorem bw4_is {r : Int} (h : 0 ≤ r ∧ r < 2097152) : bw4 r = [240 + r / 262144, 128 + r / 4096 % 64, 128 + r / 64 % 64, 128 + r % 64] := by
  have h6 : shr 6 r = r / 64 := shr_is 6 (by omega) r h.1
  have h12 : shr 12 r = r / 4096 := shr_is 12 (by omega) r h.1
  have h18 : shr 18 r = r / 262144 := shr_is 18 (by omega) r h.1
  unfold bw4
  rw [h6, h12, h18, o8_240 (by omega), a8_is (x := r / 64) (by omega), a8_is (x := r / 4096) (by omega), a8_is h.1, o8_128 (by omega), o8_128 (by omega), o8_128 (by omega)]
theorem by2_is {r : Int} (h : 0 ≤ r ∧ r < 2048) : by2 r = [192 + r / 64, 128 + r % 64] := by
  have h6 : shr 6 r = r / 64 := shr_is 6 (by omega) r h.1
  unfold by2
  rw [h6, o8_192 (by omega), a32_is (x := r) (by omega), o8_128 (by omega)]
theorem by3_is {r : Int} (h : 0 ≤ r ∧ r < 65536) : by3 r = [224 + r / 4096, 128 + r / 64 % 64, 128 + r % 64] := by
  have h6 : shr 6 r = r / 64 := shr_is 6 (by omega) r h.1
  have h12 : shr 12 r = r / 4096 := shr_is 12 (by omega) r h.1
  unfold by3
  rw [h6, h12, o8_224 (by omega), a32_is (x := r / 64) (by omega), a32_is (x := r) (by omega), o8_128 (by omega), o8_128 (by omega)]
theorem by4_is {r : Int} (h : 0 ≤ r ∧ r < 2097152) : by4 r = [240 + r / 262144, 128 + r / 4096 % 64, 128 + r / 64 % 64, 128 + r % 64] := by
  have h6 : shr 6 r = r / 64 := shr_is 6 (by omega) r h.1
  have h12 : shr 12 r = r / 4096 := shr_is 12 (by omega) r h.1
  have h18 : shr 18 r = r / 262144 := shr_is 18 (by omega) r h.1
  unfold by4
  rw [h6, h12, h18, o8_240 (by omega), a32_is (x := r / 64) (by omega), a32_is (x := r / 4096) (by omega), a32_is (x := r) (by omega), o8_128 (by omega), o8_128 (by omega), o8_128 (by omega)]
/-! decoding, as sums -/
theorem shl32_is (s : Nat) (hs : s ≤ 32) (x : Int) (h0 : 0 ≤ x) (h : x * (2 : Int) ^ s < 2147483648) : shl32 (s : Int) x = x * (2 : Int) ^ s := by
  have : 0 ≤ x * (2 : Int) ^ s := Int.mul_nonneg h0 (Int.le_of_lt (Int.pow_pos (by omega)))
  unfold shl32
  rw [Int.toNat_natCast, show min s IntKind.i32.bits = s from Nat.min_eq_left hs, wrap32 (by omega) h]
theorem or32_is (k a b : Nat) (hb : b < 2 ^ k) (h : 2 ^ k * a + b < 2147483648) : or32 ((2 ^ k * a : Nat) : Int) (b : Int) = ((2 ^ k * a + b : Nat) : Int) := by
  unfold or32
  rw [bvN, bvN, BitVec.toNat_or, BitVec.toNat_ofNat, BitVec.toNat_ofNat, show IntKind.i32.bits = 32 from rfl, Nat.mod_eq_of_lt (by omega), Nat.mod_eq_of_lt (by omega), ← Nat.two_pow_add_eq_or_of_lt hb, wrap32 (by omega) (by omega)]
theorem or32_at {a b : Int} (k : Nat) (x : Int) (h0 : 0 ≤ x) (ha : a = (2 : Int) ^ k * x) (hb : 0 ≤ b ∧ b < (2 : Int) ^ k) (h : a + b < 2147483648) : or32 a b = a + b := by
  obtain ⟨y, rfl⟩ := Int.eq_ofNat_of_zero_le h0
  obtain ⟨z, rfl⟩ := Int.eq_ofNat_of_zero_le hb.1
  subst ha
  have e : ((2 ^ k * y : Nat) : Int) = (2 : Int) ^ k * (y : Int) := by rw [Int.natCast_mul, Int.natCast_pow]; rfl
  have hz : z < 2 ^ k := by
    have := hb.2
    rw [show (2 : Int) ^ k = ((2 ^ k : Nat) : Int) by rw [Int.natCast_pow]; rfl] at this
    exact Int.ofNat_lt.1 this
  have := or32_is k y z hz (by rw [← e] at h; omega)
  rw [← e, this, Int.natCast_add]
theorem R2_is {c d : Int} (hc : 192 ≤ c ∧ c < 224) (hd : 128 ≤ d ∧ d < 192) : R2 c d = (c - 192) * 64 + (d - 128) := by
  obtain ⟨n, rfl⟩ := Int.eq_ofNat_of_zero_le (a := c) (by omega)
  obtain ⟨m, rfl⟩ := Int.eq_ofNat_of_zero_le (a := d) (by omega)
  unfold R2
  rw [(chkA_at (n := n) (by omega)).2.1, (chkA_at (n := m) (by omega)).2.2.2.2]
  have e1 : ((n % 32 : Nat) : Int) = (n : Int) - 192 := by omega
  have e2 : ((m % 64 : Nat) : Int) = (m : Int) - 128 := by omega
  rw [e1, e2]
  have s6 : shl32 6 ((n : Int) - 192) = ((n : Int) - 192) * 64 := shl32_is 6 (by omega) _ (by omega) (by omega)
  rw [s6, or32_at 6 ((n : Int) - 192) (by omega) (by omega) (by omega) (by omega)]
theorem R3_is {c d e : Int} (hc : 224 ≤ c ∧ c < 240) (hd : 128 ≤ d ∧ d < 192) (he : 128 ≤ e ∧ e < 192) : R3 c d e = (c - 224) * 4096 + (d - 128) * 64 + (e - 128) := by
  obtain ⟨n, rfl⟩ := Int.eq_ofNat_of_zero_le (a := c) (by omega)
  obtain ⟨m, rfl⟩ := Int.eq_ofNat_of_zero_le (a := d) (by omega)
  obtain ⟨l, rfl⟩ := Int.eq_ofNat_of_zero_le (a := e) (by omega)
  unfold R3
  rw [(chkA_at (n := n) (by omega)).2.2.1, (chkA_at (n := m) (by omega)).2.2.2.2, (chkA_at (n := l) (by omega)).2.2.2.2]
  have e1 : ((n % 16 : Nat) : Int) = (n : Int) - 224 := by omega
  have e2 : ((m % 64 : Nat) : Int) = (m : Int) - 128 := by omega
  have e3 : ((l % 64 : Nat) : Int) = (l : Int) - 128 := by omega
  rw [e1, e2, e3]
  have s12 : shl32 12 ((n : Int) - 224) = ((n : Int) - 224) * 4096 := shl32_is 12 (by omega) _ (by omega) (by omega)
  have s6 : shl32 6 ((m : Int) - 128) = ((m : Int) - 128) * 64 := shl32_is 6 (by omega) _ (by omega) (by omega)
  have q1 : or32 (((n : Int) - 224) * 4096) (((m : Int) - 128) * 64) = ((n : Int) - 224) * 4096 + ((m : Int) - 128) * 64 := or32_at 12 ((n : Int) - 224) (by omega) (by omega) (by omega) (by omega)
  rw [s12, s6, q1, or32_at 6 (((n : Int) - 224) * 64 + ((m : Int) - 128)) (by omega) (by omega) (by omega) (by omega)]
theorem R4_is {c d e f : Int} (hc : 240 ≤ c ∧ c < 248) (hd : 128 ≤ d ∧ d < 192) (he : 128 ≤ e ∧ e < 192) (hf : 128 ≤ f ∧ f < 192) : R4 c d e f = (c - 240) * 262144 + (d - 128) * 4096 + (e - 128) * 64 + (f - 128) := by
  obtain ⟨n, rfl⟩ := Int.eq_ofNat_of_zero_le (a := c) (by omega)
  obtain ⟨m, rfl⟩ := Int.eq_ofNat_of_zero_le (a := d) (by omega)
  obtain ⟨l, rfl⟩ := Int.eq_ofNat_of_zero_le (a := e) (by omega)
  obtain ⟨j, rfl⟩ := Int.eq_ofNat_of_zero_le (a := f) (by omega)
  unfold R4
  rw [(chkA_at (n := n) (by omega)).2.2.2.1, (chkA_at (n := m) (by omega)).2.2.2.2, (chkA_at (n := l) (by omega)).2.2.2.2, (chkA_at (n := j) (by omega)).2.2.2.2]
  have e1 : ((n % 8 : Nat) : Int) = (n : Int) - 240 := by omega
  have e2 : ((m % 64 : Nat) : Int) = (m : Int) - 128 := by omega
  have e3 : ((l % 64 : Nat) : Int) = (l : Int) - 128 := by omega
  have e4 : ((j % 64 : Nat) : Int) = (j : Int) - 128 := by omega
  rw [e1, e2, e3, e4]
  have s18 : shl32 18 ((n : Int) - 240) = ((n : Int) - 240) * 262144 := shl32_is 18 (by omega) _ (by omega) (by omega)
  have s12 : shl32 12 ((m : Int) - 128) = ((m : Int) - 128) * 4096 := shl32_is 12 (by omega) _ (by omega) (by omega)
  have s6 : shl32 6 ((l : Int) - 128) = ((l : Int) - 128) * 64 := shl32_is 6 (by omega) _ (by omega) (by omega)
  have q1 : or32 (((n : Int) - 240) * 262144) (((m : Int) - 128) * 4096) = ((n : Int) - 240) * 262144 + ((m : Int) - 128) * 4096 := or32_at 18 ((n : Int) - 240) (by omega) (by omega) (by omega) (by omega)
  have q2 : or32 (((n : Int) - 240) * 262144 + ((m : Int) - 128) * 4096) (((l : Int) - 128) * 64) = ((n : Int) - 240) * 262144 + ((m : Int) - 128) * 4096 + ((l : Int) - 128) * 64 := or32_at 12 (((n : Int) - 240) * 64 + ((m : Int) - 128)) (by omega) (by omega) (by omega) (by omega)
  rw [s18, s12, s6, q1, q2, or32_at 6 ((((n : Int) - 240) * 64 + ((m : Int) - 128)) * 64 + ((l : Int) - 128)) (by omega) (by omega) (by omega) (by omega)]
end
end Go.Proofs.YtjdbamenbgfcjaaDoor.Gl
