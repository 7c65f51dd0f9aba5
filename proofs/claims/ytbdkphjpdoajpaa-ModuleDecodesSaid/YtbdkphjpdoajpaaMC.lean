import Derived.Test.YtbdkphjpdoajpaaMB
namespace Go.Proofs.Ytbdkphjpdoajpaa.Md
open Go Go.RowKit Go.Proofs Go.Proofs.Ytbdkphjpdoajpaa.X
set_option linter.unusedVariables false
set_option linter.unusedSimpArgs false
noncomputable section
/-! A number in groups of seven bits -/
def vM (u : Int) : Int := IntKind.i64.wrap (↑(BitVec.ofInt IntKind.i64.bits (IntKind.i64.wrap (u.fdiv ((2 : Int) ^ min (Int.toNat (1 : Int)) IntKind.u64.bits))) ^^^ BitVec.ofInt IntKind.i64.bits (IntKind.i64.wrap ((0 : Int) - IntKind.i64.wrap (IntKind.u64.wrap (↑(BitVec.ofInt IntKind.u64.bits u &&& BitVec.ofInt IntKind.u64.bits (1 : Int)).toNat : Int))))).toNat : Int)
def uM (u c s : Int) : Int := IntKind.u64.wrap (↑(BitVec.ofInt IntKind.u64.bits u ||| BitVec.ofInt IntKind.u64.bits (IntKind.u64.wrap (IntKind.u64.wrap (IntKind.i64.wrap (↑(BitVec.ofInt IntKind.i64.bits c &&& BitVec.ofInt IntKind.i64.bits (127 : Int)).toNat : Int)) * (2 : Int) ^ min (Int.toNat s) IntKind.u64.bits))).toNat : Int)
def e28_0 (k : Nat) (b : List Int) (p : Int) (bad : Bool) (g : ((Unit × Unit) × (Int × Unit) × (Int × Unit) × Unit) × ((List Int × Int × Bool) × Unit) × Unit) (L : ((Unit × Unit) × (Int × Unit) × (Int × Unit) × Unit) × ((List Int × Int × Bool) × Unit) × Unit → Option (((Int × Unit) × Unit) × ((List Int × Int × Bool) × Unit) × Unit)) : Option (((Int × Unit) × Unit) × ((List Int × Int × Bool) × Unit) × Unit) := bif !g.2.1.1.2.2 then Option.bind (bif g.1.2.2.1.1 == (63 : Int) then some (Sum.inl ((((), ()), (g.1.2.1.1, ()), (g.1.2.2.1.1, ()), ((1 : Int), ()), ()), ((g.2.1.1.1, g.2.1.1.2.1, g.2.1.1.2.2), ()), ())) else some (Sum.inl ((((), ()), (g.1.2.1.1, ()), (g.1.2.2.1.1, ()), ((255 : Int), ()), ()), ((g.2.1.1.1, g.2.1.1.2.1, g.2.1.1.2.2), ()), ()))) fun v => Sum.elim (fun q => (f17 k ((((), ()), ((0 : Int), ()), (q.1.2.2.2.1.1, ()), ()), ((q.2.1.1.1, q.2.1.1.2.1, q.2.1.1.2.2), ()), ())).bind fun v => Option.bind (bif v.1.1.1 == (0 : Int) then bif decide (q.1.2.2.1.1 > (0 : Int)) then bif !v.2.1.1.2.2 then some (Sum.inl ((((), ()), (q.1.2.1.1, ()), (q.1.2.2.1.1, ()), (v.1.1.1, ()), ()), ((v.2.1.1.1, IntKind.i64.wrap (v.2.1.1.2.1 - (1 : Int)), true), ()), ())) else some (Sum.inl ((((), ()), (q.1.2.1.1, ()), (q.1.2.2.1.1, ()), (v.1.1.1, ()), ()), ((v.2.1.1.1, v.2.1.1.2.1, v.2.1.1.2.2), ()), ())) else some (Sum.inl ((((), ()), (q.1.2.1.1, ()), (q.1.2.2.1.1, ()), (v.1.1.1, ()), ()), ((v.2.1.1.1, v.2.1.1.2.1, v.2.1.1.2.2), ()), ())) else some (Sum.inl ((((), ()), (q.1.2.1.1, ()), (q.1.2.2.1.1, ()), (v.1.1.1, ()), ()), ((v.2.1.1.1, v.2.1.1.2.1, v.2.1.1.2.2), ()), ()))) fun v => Sum.elim (fun q => bif decide ((0 : Int) ≤ q.1.2.2.1.1) then bif decide (q.1.2.2.2.1.1 < (128 : Int)) then some (((vM (uM q.1.2.1.1 q.1.2.2.2.1.1 q.1.2.2.1.1), ()), ()), ((q.2.1.1.1, q.2.1.1.2.1, q.2.1.1.2.2), ()), ()) else L ((((), ()), (uM q.1.2.1.1 q.1.2.2.2.1.1 q.1.2.2.1.1, ()), (IntKind.i64.wrap (q.1.2.2.1.1 + (7 : Int)), ()), ()), ((q.2.1.1.1, q.2.1.1.2.1, q.2.1.1.2.2), ()), ()) else none) (fun q => some q) v) (fun q => some q) v else some (((vM g.1.2.1.1, ()), ()), ((g.2.1.1.1, g.2.1.1.2.1, g.2.1.1.2.2), ()), ())
theorem e28_eq (k : Nat) (b : List Int) (p : Int) (bad : Bool) : f28 k ((((), ()), ()), ((b, p, bad), ()), ()) = loopN (e28_0 k b p bad) k ((((), ()), ((0 : Int), ()), ((0 : Int), ()), ()), ((b, p, bad), ()), ()) := by kernel_rfl
def e30_0 (L1 : ((Unit × Unit) × (Unit × Unit) × (Int × Unit) × (Int × Unit) × Unit) × ((List Int × Int × Bool) × Unit) × ((List Int × Int × Bool) × Unit) × Unit → Option (((Int × Unit) × ((List Int × Int × Bool) × Unit) × Unit) × Unit)) (g : ((Unit × Unit) × (Unit × Unit) × (Int × Unit) × (Int × Unit) × (Int × Unit) × (Int × Unit) × (Int × Unit) × Unit) × ((List Int × Int × Bool) × Unit) × ((List Int × Int × Bool) × Unit) × Unit) (L : ((Unit × Unit) × (Unit × Unit) × (Int × Unit) × (Int × Unit) × (Int × Unit) × (Int × Unit) × (Int × Unit) × Unit) × ((List Int × Int × Bool) × Unit) × ((List Int × Int × Bool) × Unit) × Unit → Option (((Int × Unit) × ((List Int × Int × Bool) × Unit) × Unit) × Unit)) : Option (((Int × Unit) × ((List Int × Int × Bool) × Unit) × Unit) × Unit) := bif decide (g.1.2.2.2.2.2.2.1.1 < g.1.2.2.2.1.1) then L ((((), ()), ((), ()), (g.1.2.2.1.1, ()), (g.1.2.2.2.1.1, ()), (g.1.2.2.2.2.1.1, ()), (IntKind.u64.wrap (g.1.2.2.2.2.2.1.1 * (128 : Int)), ()), (IntKind.i64.wrap (g.1.2.2.2.2.2.2.1.1 + (1 : Int)), ()), ()), ((g.2.1.1.1, g.2.1.1.2.1, g.2.1.1.2.2), ()), ((g.2.2.1.1.1, g.2.2.1.1.2.1, g.2.2.1.1.2.2), ()), ()) else bif decide (g.1.2.2.2.2.1.1 < (128 : Int)) then bif ((IntKind.u64.wrap (g.1.2.2.1.1 + g.1.2.2.2.2.2.1.1)).tmod (2 : Int)) == (1 : Int) then some (((IntKind.i64.wrap (IntKind.i64.wrap ((0 : Int) - IntKind.i64.wrap (IntKind.u64.wrap ((IntKind.u64.wrap (g.1.2.2.1.1 + g.1.2.2.2.2.2.1.1)).tdiv (2 : Int)))) - (1 : Int)), ()), ((g.2.1.1.1, g.2.1.1.2.1, g.2.1.1.2.2), ()), ()), ()) else some (((IntKind.i64.wrap (IntKind.u64.wrap ((IntKind.u64.wrap (g.1.2.2.1.1 + g.1.2.2.2.2.2.1.1)).tdiv (2 : Int))), ()), ((g.2.1.1.1, g.2.1.1.2.1, g.2.1.1.2.2), ()), ()), ()) else L1 ((((), ()), ((), ()), (IntKind.u64.wrap (g.1.2.2.1.1 + g.1.2.2.2.2.2.1.1), ()), (IntKind.i64.wrap (g.1.2.2.2.1.1 + (1 : Int)), ()), ()), ((g.2.1.1.1, g.2.1.1.2.1, g.2.1.1.2.2), ()), ((g.2.2.1.1.1, g.2.2.1.1.2.1, g.2.2.1.1.2.2), ()), ())
def e30_1 (k : Nat) (b : List Int) (p : Int) (ok : Bool) (g : ((Unit × Unit) × (Unit × Unit) × (Int × Unit) × (Int × Unit) × Unit) × ((List Int × Int × Bool) × Unit) × ((List Int × Int × Bool) × Unit) × Unit) (L : ((Unit × Unit) × (Unit × Unit) × (Int × Unit) × (Int × Unit) × Unit) × ((List Int × Int × Bool) × Unit) × ((List Int × Int × Bool) × Unit) × Unit → Option (((Int × Unit) × ((List Int × Int × Bool) × Unit) × Unit) × Unit)) : Option (((Int × Unit) × ((List Int × Int × Bool) × Unit) × Unit) × Unit) := bif decide (g.1.2.2.2.1.1 < (10 : Int)) then Option.bind (bif g.1.2.2.2.1.1 == (9 : Int) then some (Sum.inl ((((), ()), ((), ()), (g.1.2.2.1.1, ()), (g.1.2.2.2.1.1, ()), ((1 : Int), ()), ()), ((g.2.1.1.1, g.2.1.1.2.1, g.2.1.1.2.2), ()), ((g.2.2.1.1.1, g.2.2.1.1.2.1, g.2.2.1.1.2.2), ()), ())) else some (Sum.inl ((((), ()), ((), ()), (g.1.2.2.1.1, ()), (g.1.2.2.2.1.1, ()), ((255 : Int), ()), ()), ((g.2.1.1.1, g.2.1.1.2.1, g.2.1.1.2.2), ()), ((g.2.2.1.1.1, g.2.2.1.1.2.1, g.2.2.1.1.2.2), ()), ()))) fun v => Sum.elim (fun q => (f20 k ((((q.2.1.1.1, q.2.1.1.2.1, q.2.1.1.2.2), ()), ((0 : Int), ()), (q.1.2.2.2.2.1.1, ()), ()), ())).bind fun v => bif !v.1.2.1.1.2.2 then some ((((0 : Int), ()), ((v.1.2.1.1.1, v.1.2.1.1.2.1, v.1.2.1.1.2.2), ()), ()), ()) else Option.bind (bif v.1.1.1 == (0 : Int) then bif decide (q.1.2.2.2.1.1 > (0 : Int)) then some (Sum.inr ((((0 : Int), ()), ((q.2.1.1.1, q.2.1.1.2.1, false), ()), ()), ())) else some (Sum.inl ((((), ()), ((), ()), (q.1.2.2.1.1, ()), (q.1.2.2.2.1.1, ()), (v.1.1.1, ()), ((), ()), ()), ((q.2.1.1.1, q.2.1.1.2.1, q.2.1.1.2.2), ()), ((q.2.2.1.1.1, q.2.2.1.1.2.1, q.2.2.1.1.2.2), ()), ((v.1.2.1.1.1, v.1.2.1.1.2.1, v.1.2.1.1.2.2), ()), ())) else some (Sum.inl ((((), ()), ((), ()), (q.1.2.2.1.1, ()), (q.1.2.2.2.1.1, ()), (v.1.1.1, ()), ((), ()), ()), ((q.2.1.1.1, q.2.1.1.2.1, q.2.1.1.2.2), ()), ((q.2.2.1.1.1, q.2.2.1.1.2.1, q.2.2.1.1.2.2), ()), ((v.1.2.1.1.1, v.1.2.1.1.2.1, v.1.2.1.1.2.2), ()), ()))) fun v => Sum.elim (fun q => loopN (e30_0 L) k ((((), ()), ((), ()), (q.1.2.2.1.1, ()), (q.1.2.2.2.1.1, ()), (q.1.2.2.2.2.1.1, ()), (IntKind.u64.wrap (Int.tmod q.1.2.2.2.2.1.1 (128 : Int)), ()), ((0 : Int), ()), ()), ((q.2.2.2.1.1.1, q.2.2.2.1.1.2.1, q.2.2.2.1.1.2.2), ()), ((q.2.2.1.1.1, q.2.2.1.1.2.1, q.2.2.1.1.2.2), ()), ())) (fun q => some q) v) (fun q => some q) v else bif (g.1.2.2.1.1.tmod (2 : Int)) == (1 : Int) then some (((IntKind.i64.wrap (IntKind.i64.wrap ((0 : Int) - IntKind.i64.wrap (IntKind.u64.wrap (g.1.2.2.1.1.tdiv (2 : Int)))) - (1 : Int)), ()), ((g.2.1.1.1, g.2.1.1.2.1, g.2.1.1.2.2), ()), ()), ()) else some (((IntKind.i64.wrap (IntKind.u64.wrap (g.1.2.2.1.1.tdiv (2 : Int))), ()), ((g.2.1.1.1, g.2.1.1.2.1, g.2.1.1.2.2), ()), ()), ())
theorem e30_eq (k : Nat) (b : List Int) (p : Int) (ok : Bool) : f30 k ((((b, p, ok), ()), ()), ()) = loopN (e30_1 k b p ok) k ((((), ()), ((), ()), ((0 : Int), ()), ((0 : Int), ()), ()), ((b, p, ok), ()), (([], (0 : Int), false), ()), ()) := by kernel_rfl
def sdec (u : Int) : Int := if u % 2 = 1 then -(u / 2) - 1 else u / 2
theorem bv64 (n : Nat) : BitVec.ofInt IntKind.i64.bits (n : Int) = BitVec.ofNat IntKind.i64.bits n := bvN _ _
theorem wrapU (n : Int) (h0 : 0 ≤ n) (h1 : n < 18446744073709551616) : IntKind.u64.wrap n = n := by rw [IntKind.wrap_u64]; omega
theorem and1 {u : Int} (h : 0 ≤ u) : (↑(BitVec.ofInt IntKind.u64.bits u &&& BitVec.ofInt IntKind.u64.bits (1 : Int)).toNat : Int) = u % 2 := by
  obtain ⟨n, rfl⟩ := Int.eq_ofNat_of_zero_le h
  have e : (BitVec.ofInt IntKind.u64.bits (n : Int) &&& BitVec.ofInt IntKind.u64.bits (1 : Int)).toNat = n % 2 := by
    rw [show (1 : Int) = ((1 : Nat) : Int) from rfl, bvN, bvN, BitVec.toNat_and, BitVec.toNat_ofNat, BitVec.toNat_ofNat, show (1 : Nat) % 2 ^ IntKind.u64.bits = 2 ^ 1 - 1 from rfl, Nat.and_two_pow_sub_one_eq_mod, show IntKind.u64.bits = 64 from rfl]; omega
  rw [e]; omega
theorem and127 {c : Int} (h : 0 ≤ c ∧ c < 256) : (↑(BitVec.ofInt IntKind.i64.bits c &&& BitVec.ofInt IntKind.i64.bits (127 : Int)).toNat : Int) = c % 128 := by
  obtain ⟨n, rfl⟩ := Int.eq_ofNat_of_zero_le h.1
  have e : (BitVec.ofInt IntKind.i64.bits (n : Int) &&& BitVec.ofInt IntKind.i64.bits (127 : Int)).toNat = n % 128 := by
    rw [show (127 : Int) = ((127 : Nat) : Int) from rfl, bvN, bvN, BitVec.toNat_and, BitVec.toNat_ofNat, BitVec.toNat_ofNat, show (127 : Nat) % 2 ^ IntKind.i64.bits = 2 ^ 7 - 1 from rfl, Nat.and_two_pow_sub_one_eq_mod, show IntKind.i64.bits = 64 from rfl]; omega
  rw [e]; omega
theorem vM_is {u : Int} (h : 0 ≤ u ∧ u < 18446744073709551616) : vM u = sdec u := by
  have h1 := h.1
  have h2 := h.2
  unfold vM sdec
  have ef : u.fdiv ((2 : Int) ^ min (Int.toNat (1 : Int)) IntKind.u64.bits) = u / 2 := by
    show u.fdiv 2 = _
    exact Int.fdiv_eq_ediv_of_nonneg _ (by omega)
  rw [ef, wrapId (n := u / 2) (by omega) (by omega), and1 h.1, wrapU (u % 2) (by omega) (by omega), wrapId (n := u % 2) (by omega) (by omega), wrapId (n := 0 - u % 2) (by omega) (by omega)]
  obtain ⟨x, hx⟩ := Int.eq_ofNat_of_zero_le (a := u / 2) (by omega)
  have hx2 : x < 9223372036854775808 := by omega
  rw [hx]
  by_cases c : u % 2 = 1
  · rw [if_pos c, c]
    have e : (BitVec.ofInt IntKind.i64.bits (x : Int) ^^^ BitVec.ofInt IntKind.i64.bits (0 - 1)).toNat = 18446744073709551615 - x := by
      rw [show BitVec.ofInt IntKind.i64.bits (0 - 1) = BitVec.allOnes IntKind.i64.bits from rfl, BitVec.xor_allOnes, BitVec.toNat_not, bv64, BitVec.toNat_ofNat, show IntKind.i64.bits = 64 from rfl, Nat.mod_eq_of_lt (by omega)]
    rw [e, IntKind.wrap_i64]; omega
  · have c0 : u % 2 = 0 := by omega
    rw [if_neg c, c0]
    have e : (BitVec.ofInt IntKind.i64.bits (x : Int) ^^^ BitVec.ofInt IntKind.i64.bits (0 - 0)).toNat = x := by
      rw [show BitVec.ofInt IntKind.i64.bits (0 - 0) = 0#IntKind.i64.bits from rfl, BitVec.xor_zero, bv64, BitVec.toNat_ofNat, show IntKind.i64.bits = 64 from rfl, Nat.mod_eq_of_lt (by omega)]
    rw [e, wrapId (by omega) (by omega)]
theorem uM_is {u c : Int} {s : Nat} (hu : 0 ≤ u ∧ u < (2 : Int) ^ s) (hc : 0 ≤ c ∧ c < 256) (hs : s ≤ 64) (hb : u + c % 128 * (2 : Int) ^ s < 18446744073709551616) : uM u c (s : Int) = u + c % 128 * (2 : Int) ^ s := by
  obtain ⟨n, rfl⟩ := Int.eq_ofNat_of_zero_le hu.1
  obtain ⟨m, rfl⟩ := Int.eq_ofNat_of_zero_le hc.1
  have hn : n < 2 ^ s := by
    have := hu.2
    rw [show (2 : Int) ^ s = ((2 ^ s : Nat) : Int) by rw [Int.natCast_pow]; rfl] at this
    exact Int.ofNat_lt.1 this
  have ep : (m : Int) % 128 * (2 : Int) ^ s = ((2 ^ s * (m % 128) : Nat) : Int) := by
    rw [Int.natCast_mul, Int.natCast_pow, Int.mul_comm]
    rfl
  rw [ep] at hb ⊢
  generalize hP : 2 ^ s * (m % 128) = P at *
  unfold uM
  rw [and127 ⟨by omega, by omega⟩, wrapId (n := (m : Int) % 128) (by omega) (by omega), wrapU ((m : Int) % 128) (by omega) (by omega), show min (Int.toNat (s : Int)) IntKind.u64.bits = s by rw [Int.toNat_natCast]; exact Nat.min_eq_left hs, ep, wrapU (P : Int) (by omega) (by omega)]
  rw [bvN, bvN, BitVec.toNat_or, BitVec.toNat_ofNat, BitVec.toNat_ofNat, show IntKind.u64.bits = 64 from rfl, Nat.mod_eq_of_lt (by omega), Nat.mod_eq_of_lt (by omega), Nat.or_comm, ← hP, ← Nat.two_pow_add_eq_or_of_lt hn, hP, wrapU _ (by omega) (by omega)]
  omega
/-- what is read: the groups' sum, where it goes on, is it bad -/
def numF (b : List Int) : Nat → Nat → Int → Int → Int × Int × Bool
  | 0, _, u, p => (u, p, false)
  | n + 1, i, u, p =>
    if (nx b p false 0 (if i = 9 then 1 else 255)).2.2 then (u, (nx b p false 0 (if i = 9 then 1 else 255)).2.1, true) else
    if (nx b p false 0 (if i = 9 then 1 else 255)).1 = 0 ∧ 0 < i then (u, p, true) else
    if (nx b p false 0 (if i = 9 then 1 else 255)).1 < 128 then (u + (nx b p false 0 (if i = 9 then 1 else 255)).1 % 128 * (2 : Int) ^ (7 * i), (nx b p false 0 (if i = 9 then 1 else 255)).2.1, false) else
    numF b n (i + 1) (u + (nx b p false 0 (if i = 9 then 1 else 255)).1 % 128 * (2 : Int) ^ (7 * i)) (nx b p false 0 (if i = 9 then 1 else 255)).2.1
theorem numF_pos {b : List Int} : ∀ (n i : Nat) (u p : Int), Pos b p → Pos b (numF b n i u p).2.1
  | 0, i, u, p, h => h
  | n + 1, i, u, p, h => by
    have h2 := nx_pos h false 0 (if i = 9 then 1 else 255)
    rw [numF]
    generalize nx b p false 0 (if i = 9 then 1 else 255) = q at *
    split
    · exact h2
    · split
      · exact h
      · split
        · exact h2
        · exact numF_pos n (i + 1) _ _ h2
theorem pow7 (i : Nat) : (2 : Int) ^ (7 * (i + 1)) = 128 * (2 : Int) ^ (7 * i) := by
  rw [show 7 * (i + 1) = 7 * i + 7 by omega, Int.pow_add]
  rw [Int.mul_comm]; rfl
theorem pow_pos (i : Nat) : 0 < (2 : Int) ^ (7 * i) := Int.pow_pos (by omega)
/-- the sum stays within its bounds -/
theorem sum_lt {i : Nat} {u c : Int} (hi : i ≤ 9) (hu : 0 ≤ u ∧ u < (2 : Int) ^ (7 * i)) (hc : 0 ≤ c ∧ c < 256) (h9 : i = 9 → c ≤ 1) : 0 ≤ u + c % 128 * (2 : Int) ^ (7 * i) ∧ u + c % 128 * (2 : Int) ^ (7 * i) < (2 : Int) ^ (7 * (i + 1)) ∧ u + c % 128 * (2 : Int) ^ (7 * i) < 18446744073709551616 := by
  have hp := pow7 i
  have hpp := pow_pos i
  generalize hX : (2 : Int) ^ (7 * i) = X at *
  have h1 : 0 ≤ c % 128 * X := Int.mul_nonneg (by omega) (by omega)
  have h2 : c % 128 * X ≤ 127 * X := Int.mul_le_mul_of_nonneg_right (by omega) (by omega)
  refine ⟨by omega, by rw [hp]; omega, ?_⟩
  by_cases h : i = 9
  · subst h
    have hX9 : X = 9223372036854775808 := by rw [← hX]; rfl
    have := h9 rfl
    have h3 : c % 128 * X ≤ 1 * X := Int.mul_le_mul_of_nonneg_right (by omega) (by omega)
    omega
  · have hle : X ≤ (2 : Int) ^ (7 * 8) := by
      rw [← hX]
      have := Nat.pow_le_pow_right (n := 2) (by omega) (show 7 * i ≤ 7 * 8 by omega)
      have e : ∀ m : Nat, (2 : Int) ^ m = ((2 ^ m : Nat) : Int) := fun m => by rw [Int.natCast_pow]; rfl
      rw [e, e]; omega
    have e8 : (2 : Int) ^ (7 * 8) = 72057594037927936 := rfl
    omega
theorem nx_true {b : List Int} {p : Int} {bad : Bool} {lo hi : Int} (hb : (nx b p bad lo hi).2.2 = true) : (nx b p bad lo hi).1 = 0 ∧ (nx b p bad lo hi).2.1 = p := by
  unfold nx at hb ⊢
  split
  · rename_i hn; rw [if_pos hn] at hb; cases hb
  · exact ⟨rfl, rfl⟩
theorem nx_false {b : List Int} {p : Int} {bad : Bool} {lo hi : Int} (hb : (nx b p bad lo hi).2.2 = false) : (nx b p bad lo hi).2.1 = p + 1 := by
  unfold nx at hb ⊢
  split
  · rfl
  · rename_i hn; rw [if_neg hn] at hb; cases hb
theorem step_nx {b : List Int} {p : Int} (h : Pos b p) (i : Nat) : 0 ≤ (nx b p false 0 (if i = 9 then 1 else 255)).1 ∧ (nx b p false 0 (if i = 9 then 1 else 255)).1 < 256 ∧ (i = 9 → (nx b p false 0 (if i = 9 then 1 else 255)).1 ≤ 1) ∧ ((nx b p false 0 (if i = 9 then 1 else 255)).2.2 = true → (nx b p false 0 (if i = 9 then 1 else 255)).1 = 0 ∧ (nx b p false 0 (if i = 9 then 1 else 255)).2.1 = p) ∧ ((nx b p false 0 (if i = 9 then 1 else 255)).2.2 = false → (nx b p false 0 (if i = 9 then 1 else 255)).2.1 = p + 1) := by
  have hv := nx_val h false 0 (if i = 9 then 1 else 255)
  refine ⟨hv.1, hv.2.1, fun h9 => ?_, nx_true, nx_false⟩
  cases hb : (nx b p false 0 (if i = 9 then 1 else 255)).2.2 with
  | false => have := (hv.2.2 hb).2; rw [if_pos h9] at this ⊢; exact this
  | true => rw [(nx_true hb).1]; omega
theorem e28_loop (k0 : Nat) (b b0 : List Int) (p0 : Int) (bad0 : Bool) : ∀ (n i : Nat) (u p : Int) (k : Nat), n + i = 10 → n ≠ 0 → n + 1 ≤ k → Pos b p → 0 ≤ u ∧ u < (2 : Int) ^ (7 * i) →
    ∃ v, loopN (e28_0 k0 b0 p0 bad0) k ((((), ()), (u, ()), (((7 * i : Nat) : Int), ()), ()), (((b, p, false), ()), ())) = r1 v b (numF b n i u p).2.1 (numF b n i u p).2.2 ∧ ((numF b n i u p).2.2 = false → v = sdec (numF b n i u p).1) := by
  intro n
  induction n with
  | zero => intro i u p k _ h0; exact absurd rfl h0
  | succ n ih =>
    intro i u p k hn _ hk hp hu
    obtain ⟨k, rfl⟩ : ∃ k2, k = k2 + 1 := ⟨k - 1, by omega⟩
    have hst := step_nx hp i
    have hnp := nx_pos hp false 0 (if i = 9 then 1 else 255)
    rw [loopN_succ, e28_0, numF]
    simp only []
    rw [Bool.not_false, cond_true]
    have most : (bif ((7 * i : Nat) : Int) == (63 : Int) then some (Sum.inl ((((), ()), (u, ()), (((7 * i : Nat) : Int), ()), ((1 : Int), ()), ()), (((b, p, false), ()), ()))) else some (Sum.inl ((((), ()), (u, ()), (((7 * i : Nat) : Int), ()), ((255 : Int), ()), ()), (((b, p, false), ()), ()))) : Option ((((Unit × Unit) × (Int × Unit) × (Int × Unit) × (Int × Unit) × Unit) × ((List Int × Int × Bool) × Unit) × Unit) ⊕ R1t)) =
        some (Sum.inl ((((), ()), (u, ()), (((7 * i : Nat) : Int), ()), ((if i = 9 then 1 else 255 : Int), ()), ()), (((b, p, false), ()), ()))) := by
      by_cases h9 : i = 9
      · rw [bpos (by omega), cond_true, if_pos h9]
      · rw [bneg (by omega), cond_false, if_neg h9]
    rw [most, Option.bind_some]
    simp only [Sum.elim_inl]
    rw [next_ok k0 hp, Option.bind_some]
    simp only []
    generalize nx b p false 0 (if i = 9 then 1 else 255) = q at *
    obtain ⟨c, p', bad'⟩ := q
    simp only [] at hst hnp ⊢
    obtain ⟨hc0, hc1, hc9, hbad, hok⟩ := hst
    have hs := sum_lt (i := i) (u := u) (c := c) (by omega) hu ⟨hc0, hc1⟩ hc9
    have hum : uM u c ((7 * i : Nat) : Int) = u + c % 128 * (2 : Int) ^ (7 * i) := uM_is hu ⟨hc0, hc1⟩ (by omega) hs.2.2
    have hsh : (0 : Int) ≤ ((7 * i : Nat) : Int) := by omega
    -- behind the check
    have rest : ∀ (pp : Int) (bb : Bool), (c < 128 ∨ bb = false) → ∃ x, (bif decide ((0 : Int) ≤ ((7 * i : Nat) : Int)) then bif decide (c < (128 : Int)) then r1 (vM (uM u c ((7 * i : Nat) : Int))) b pp bb else x else none) = (if c < 128 then r1 (vM (uM u c ((7 * i : Nat) : Int))) b pp bb else x) := by
      intro pp bb _
      refine ⟨none, ?_⟩
      rw [cpos hsh]
      by_cases c8 : c < 128
      · rw [cpos c8, if_pos c8]
      · rw [cneg c8, if_neg c8]
    clear rest
    cases bad' with
    | true =>
      obtain ⟨rfl, rfl⟩ := hbad rfl
      rw [if_pos rfl]
      refine ⟨vM (uM u 0 ((7 * i : Nat) : Int)), ?_, fun h => by cases h⟩
      rw [bpos rfl, cond_true]
      by_cases hi : 0 < i
      · rw [cpos (by omega), Bool.not_true, cond_false, Option.bind_some]
        simp only [Sum.elim_inl]
        rw [cpos hsh, cpos (by omega)]
      · rw [cneg (by omega), Option.bind_some]
        simp only [Sum.elim_inl]
        rw [cpos hsh, cpos (by omega)]
    | false =>
      have hp1 := hok rfl
      rw [if_neg Bool.false_ne_true]
      by_cases hz : c = 0 ∧ 0 < i
      · obtain ⟨rfl, hi⟩ := hz
        have hge := hp.ge
        have hle := hp.le
        have hlim := hp.lim
        rw [if_pos (show (0 : Int) = 0 ∧ 0 < i from ⟨rfl, hi⟩), bpos rfl, cond_true, cpos (by omega), Bool.not_false, cond_true, Option.bind_some]
        simp only [Sum.elim_inl]
        rw [cpos hsh, cpos (by omega), hp1, wrapId (n := p + 1 - 1) (by omega) (by omega), show p + 1 - 1 = p by omega]
        exact ⟨_, rfl, fun h => by cases h⟩
      · rw [if_neg hz]
        have chk : ∀ {x y z : Option ((((Unit × Unit) × (Int × Unit) × (Int × Unit) × (Int × Unit) × Unit) × ((List Int × Int × Bool) × Unit) × Unit) ⊕ R1t)}, (bif c == (0 : Int) then bif decide (((7 * i : Nat) : Int) > (0 : Int)) then x else y else y) = y := by
          intro x y z
          by_cases c0 : c = 0
          · rw [bpos c0, cond_true, cneg (by omega)]
          · rw [bneg c0, cond_false]
        rw [chk (z := none), Option.bind_some]
        simp only [Sum.elim_inl]
        rw [cpos hsh, hum]
        by_cases c8 : c < 128
        · rw [cpos c8, if_pos c8]
          exact ⟨_, rfl, fun _ => vM_is ⟨hs.1, hs.2.2⟩⟩
        · have hi9 : i ≠ 9 := fun h => by have := hc9 h; omega
          rw [cneg c8, if_neg c8, wrapId (n := ((7 * i : Nat) : Int) + 7) (by omega) (by omega), show ((7 * i : Nat) : Int) + 7 = ((7 * (i + 1) : Nat) : Int) by omega]
          exact ih (i + 1) _ p' k (by omega) (by omega) (by omega) hnp ⟨hs.1, hs.2.1⟩
def numR (b : List Int) (p : Int) (bad : Bool) : Int × Int × Bool := if bad then (0, p, true) else numF b 10 0 0 p
theorem number_ok (k : Nat) {b : List Int} {p : Int} (h : Pos b p) (bad : Bool) (hk : 11 ≤ k) : ∃ v, f28 k ((((), ()), ()), (((b, p, bad), ()), ())) = r1 v b (numR b p bad).2.1 (numR b p bad).2.2 ∧ ((numR b p bad).2.2 = false → v = sdec (numR b p bad).1) := by
  rw [e28_eq]
  unfold numR
  cases bad with
  | true =>
    obtain ⟨k, rfl⟩ : ∃ k2, k = k2 + 1 := ⟨k - 1, by omega⟩
    rw [loopN_succ, e28_0]
    simp only []
    rw [Bool.not_true, cond_false]
    exact ⟨_, rfl, fun h => by cases h⟩
  | false => exact e28_loop k b b p false 10 0 0 p k rfl (by omega) (by omega) h ⟨by omega, by decide⟩
theorem numR_pos {b : List Int} {p : Int} (h : Pos b p) (bad : Bool) : Pos b (numR b p bad).2.1 := by
  unfold numR
  cases bad
  · exact numF_pos _ _ _ _ h
  · exact h
/-! the document's -/
theorem e30_in (L : ((Unit × Unit) × (Unit × Unit) × (Int × Unit) × (Int × Unit) × Unit) × ((List Int × Int × Bool) × Unit) × ((List Int × Int × Bool) × Unit) × Unit → Option R2t) (u c : Int) (s q : List Int × Int × Bool) (i : Nat) (hi : i ≤ 9) : ∀ (n j : Nat) (P : Int) (k : Nat), n + j = i → n + 1 ≤ k → 0 ≤ P → P * (2 : Int) ^ (7 * n) < 18446744073709551616 →
    ∃ L', loopN (e30_0 L) k ((((), ()), ((), ()), (u, ()), ((i : Int), ()), (c, ()), (P, ()), ((j : Int), ()), ()), (s, ()), (q, ()), ()) = e30_0 L ((((), ()), ((), ()), (u, ()), ((i : Int), ()), (c, ()), (P * (2 : Int) ^ (7 * n), ()), ((i : Int), ()), ()), (s, ()), (q, ()), ()) L' := by
  intro n
  induction n with
  | zero =>
    intro j P k hn hk hP hb
    obtain ⟨k, rfl⟩ : ∃ k2, k = k2 + 1 := ⟨k - 1, by omega⟩
    have : j = i := by omega
    subst this
    refine ⟨loopN (e30_0 L) k, ?_⟩
    rw [loopN_succ, show P * (2 : Int) ^ (7 * 0) = P by rw [show (2 : Int) ^ (7 * 0) = 1 from rfl]; omega]
  | succ n ih =>
    intro j P k hn hk hP hb
    obtain ⟨k, rfl⟩ : ∃ k2, k = k2 + 1 := ⟨k - 1, by omega⟩
    have hp7 := pow7 n
    have hpp := pow_pos n
    have e : P * (2 : Int) ^ (7 * (n + 1)) = P * 128 * (2 : Int) ^ (7 * n) := by rw [hp7, Int.mul_assoc]
    rw [e] at hb ⊢
    have hle : P * 128 ≤ P * 128 * (2 : Int) ^ (7 * n) := by
      have := Int.mul_le_mul_of_nonneg_left (show (1 : Int) ≤ (2 : Int) ^ (7 * n) by omega) (show 0 ≤ P * 128 by omega)
      rw [Int.mul_one] at this; exact this
    obtain ⟨L', h⟩ := ih (j + 1) (P * 128) k (by omega) (by omega) (by omega) hb
    refine ⟨L', ?_⟩
    rw [loopN_succ]
    conv => lhs; rw [e30_0]
    simp only []
    rw [cpos (by omega), wrapU (P * 128) (by omega) (by omega), wrapId (n := (j : Int) + 1) (by omega) (by omega), show ((j : Int) + 1) = ((j + 1 : Nat) : Int) by omega]
    exact h
theorem half {u : Int} (h : 0 ≤ u ∧ u < 18446744073709551616) : IntKind.i64.wrap (IntKind.u64.wrap (u.tdiv 2)) = u / 2 ∧ u.tmod 2 = u % 2 := by
  rw [Int.tdiv_eq_ediv_of_nonneg h.1, Int.tmod_eq_emod_of_nonneg h.1, wrapU (u / 2) (by omega) (by omega), wrapId (by omega) (by omega)]
  exact ⟨rfl, rfl⟩
theorem fin30 {u : Int} (h : 0 ≤ u ∧ u < 18446744073709551616) (b : List Int) (p : Int) (ok : Bool) : (bif u.tmod 2 == (1 : Int) then r2 (IntKind.i64.wrap (IntKind.i64.wrap ((0 : Int) - IntKind.i64.wrap (IntKind.u64.wrap (u.tdiv 2))) - 1)) b p ok else r2 (IntKind.i64.wrap (IntKind.u64.wrap (u.tdiv 2))) b p ok) = r2 (sdec u) b p ok := by
  obtain ⟨h1, h2⟩ := half h
  have := h.1
  have := h.2
  rw [h1, h2]
  unfold sdec
  by_cases c : u % 2 = 1
  · rw [bpos c, cond_true, if_pos c, wrapId (n := 0 - u / 2) (by omega) (by omega), wrapId (n := 0 - u / 2 - 1) (by omega) (by omega), show 0 - u / 2 - 1 = -(u / 2) - 1 by omega]
  · rw [bneg c, cond_false, if_neg c]
theorem e30_loop (k0 : Nat) (b b0 : List Int) (p0 : Int) (ok0 : Bool) (q0 : List Int × Int × Bool) (hk0 : 20 ≤ k0) : ∀ (n i : Nat) (u p : Int) (k : Nat), n + i = 10 → n ≠ 0 → n + 1 ≤ k → Pos b p → 0 ≤ u ∧ u < (2 : Int) ^ (7 * i) →
    loopN (e30_1 k0 b0 p0 ok0) k ((((), ()), ((), ()), (u, ()), ((i : Int), ()), ()), ((b, p, true), ()), (q0, ()), ()) = r2 (if (numF b n i u p).2.2 then 0 else sdec (numF b n i u p).1) b (numF b n i u p).2.1 (!(numF b n i u p).2.2) := by
  intro n
  induction n with
  | zero => intro i u p k _ h0; exact absurd rfl h0
  | succ n ih =>
    intro i u p k hn _ hk hp hu
    obtain ⟨k, rfl⟩ : ∃ k2, k = k2 + 1 := ⟨k - 1, by omega⟩
    have hst := step_nx hp i
    have hnp := nx_pos hp false 0 (if i = 9 then 1 else 255)
    rw [loopN_succ, e30_1, numF]
    simp only []
    rw [cpos (by omega)]
    have most : (bif (i : Int) == (9 : Int) then some (Sum.inl ((((), ()), ((), ()), (u, ()), ((i : Int), ()), ((1 : Int), ()), ()), ((b, p, true), ()), ((q0.1, q0.2.1, q0.2.2), ()), ())) else some (Sum.inl ((((), ()), ((), ()), (u, ()), ((i : Int), ()), ((255 : Int), ()), ()), ((b, p, true), ()), ((q0.1, q0.2.1, q0.2.2), ()), ())) : Option ((((Unit × Unit) × (Unit × Unit) × (Int × Unit) × (Int × Unit) × (Int × Unit) × Unit) × ((List Int × Int × Bool) × Unit) × ((List Int × Int × Bool) × Unit) × Unit) ⊕ R2t)) =
        some (Sum.inl ((((), ()), ((), ()), (u, ()), ((i : Int), ()), ((if i = 9 then 1 else 255 : Int), ()), ()), ((b, p, true), ()), ((q0.1, q0.2.1, q0.2.2), ()), ())) := by
      by_cases h9 : i = 9
      · rw [bpos (by omega), cond_true, if_pos h9]
      · rw [bneg (by omega), cond_false, if_neg h9]
    rw [most, Option.bind_some]
    simp only [Sum.elim_inl]
    have ho := one_ok k0 hp false 0 (if i = 9 then 1 else 255)
    rw [Bool.not_false] at ho
    rw [ho, Option.bind_some]
    simp only []
    generalize nx b p false 0 (if i = 9 then 1 else 255) = q at *
    obtain ⟨c, p', bad'⟩ := q
    simp only [] at hst hnp ⊢
    obtain ⟨hc0, hc1, hc9, hbad, hok⟩ := hst
    have hs := sum_lt (i := i) (u := u) (c := c) (by omega) hu ⟨hc0, hc1⟩ hc9
    cases bad' with
    | true =>
      simp only [Bool.not_true, Bool.not_false, cond_true, if_true]
    | false =>
      simp only [Bool.not_false, Bool.not_true, cond_false]
      rw [if_neg Bool.false_ne_true]
      by_cases hz : c = 0 ∧ 0 < i
      · obtain ⟨rfl, hi⟩ := hz
        rw [if_pos (show (0 : Int) = 0 ∧ 0 < i from ⟨rfl, hi⟩), bpos rfl, cond_true, cpos (by omega), Option.bind_some]
        rfl
      · rw [if_neg hz]
        have chk : ∀ {α : Type} {x y z : α}, (bif c == (0 : Int) then bif decide ((i : Int) > (0 : Int)) then x else y else y) = y := by
          intro α x y z
          by_cases c0 : c = 0
          · rw [bpos c0, cond_true, cneg (by omega)]
          · rw [bneg c0, cond_false]
        rw [chk (z := none), Option.bind_some]
        simp only [Sum.elim_inl]
        have hm : IntKind.u64.wrap (c.tmod 128) = c % 128 := by rw [Int.tmod_eq_emod_of_nonneg hc0, wrapU _ (by omega) (by omega)]
        rw [hm]
        have hu0 := hu.1
        have hX : 0 ≤ c % 128 * (2 : Int) ^ (7 * i) := Int.mul_nonneg (by omega) (Int.le_of_lt (pow_pos i))
        obtain ⟨L', hin⟩ := e30_in (loopN (e30_1 k0 b0 p0 ok0) k) u c (b, p', true) q0 i (by omega) i 0 (c % 128) k0 (by omega) (by omega) (by omega) (by omega)
        refine Eq.trans hin ?_
        rw [e30_0]
        simp only []
        rw [cneg (by omega), wrapU (u + c % 128 * (2 : Int) ^ (7 * i)) hs.1 hs.2.2]
        by_cases c8 : c < 128
        · rw [cpos c8, if_pos c8, fin30 ⟨hs.1, hs.2.2⟩]
          simp only [Bool.not_false]
          rfl
        · have hi9 : i ≠ 9 := fun h => by have := hc9 h; omega
          rw [cneg c8, if_neg c8, wrapId (n := (i : Int) + 1) (by omega) (by omega), show (i : Int) + 1 = ((i + 1 : Nat) : Int) by omega]
          exact ih (i + 1) _ p' k (by omega) (by omega) (by omega) hnp ⟨hs.1, hs.2.1⟩
theorem number_ref (k : Nat) {b : List Int} {p : Int} (h : Pos b p) (bad : Bool) (hk : 20 ≤ k) : f30 k ((((b, p, !bad), ()), ()), ()) = r2 (if (numR b p bad).2.2 then 0 else sdec (numR b p bad).1) b (numR b p bad).2.1 (!(numR b p bad).2.2) := by
  rw [e30_eq]
  unfold numR
  cases bad with
  | false => exact e30_loop k b b p true ([], 0, false) hk 10 0 0 p k rfl (by omega) (by omega) h ⟨by omega, by decide⟩
  | true =>
    obtain ⟨k, rfl⟩ : ∃ k2, k = k2 + 1 := ⟨k - 1, by omega⟩
    rw [loopN_succ, e30_1]
    simp only []
    rw [cpos (by omega), show ((0 : Int) == 9) = false from rfl, cond_false, Option.bind_some]
    simp only [Sum.elim_inl]
    rw [one_ok _ h true, Option.bind_some, nx_bad]
    rfl
end
end Go.Proofs.Ytbdkphjpdoajpaa.Md
