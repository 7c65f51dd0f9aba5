import Derived.Test.YtjbdeccohpbegaaVJ
namespace Go.Proofs.Ytjbdeccohpbegaa.Vm
open Go Go.RowKit Go.Proofs Go.Proofs.Ytjbdeccohpbegaa.X
set_option linter.unusedVariables false
set_option linter.unusedSimpArgs false
noncomputable section
/-! Bytes put together; loads -/
theorem or8 (u b : Int) (hu : 0 ≤ u ∧ u < 72057594037927936) (hb : 0 ≤ b ∧ b < 256) :
    IntKind.u64.wrap (↑(BitVec.ofInt IntKind.u64.bits (IntKind.u64.wrap (u * (2 : Int) ^ min (Int.toNat (8 : Int)) IntKind.u64.bits)) ||| BitVec.ofInt IntKind.u64.bits (IntKind.u64.wrap b)).toNat : Int) = u * 256 + b := by
  obtain ⟨n, rfl⟩ : ∃ n : Nat, u = n := ⟨u.toNat, by omega⟩
  obtain ⟨c, rfl⟩ : ∃ c : Nat, b = c := ⟨b.toNat, by omega⟩
  rw [show (2 : Int) ^ min (Int.toNat (8 : Int)) IntKind.u64.bits = 256 from by decide]
  rw [IntKind.wrap_u64, IntKind.wrap_u64, IntKind.wrap_u64]
  rw [show ((n : Int) * 256) % 18446744073709551616 = ((n * 256 : Nat) : Int) by omega, show ((c : Int)) % 18446744073709551616 = ((c : Nat) : Int) by omega]
  rw [BitVec.ofInt_natCast, BitVec.ofInt_natCast, BitVec.toNat_or, BitVec.toNat_ofNat, BitVec.toNat_ofNat]
  rw [Nat.mod_eq_of_lt (show n * 256 < 2 ^ IntKind.u64.bits from by show n * 256 < 2 ^ 64; omega), Nat.mod_eq_of_lt (show c < 2 ^ IntKind.u64.bits from by show c < 2 ^ 64; omega)]
  have h := Nat.shiftLeft_add_eq_or_of_lt (show c < 2 ^ 8 by omega) n
  rw [Nat.shiftLeft_eq] at h
  rw [show (n * 256 ||| c) = n * 256 + c from h.symm]
  omega

theorem orS (u b : Int) (j : Nat) (hj : j < 8) (hu : 0 ≤ u ∧ u < 256 ^ j) (hb : 0 ≤ b ∧ b < 256) :
    IntKind.u64.wrap (↑(BitVec.ofInt IntKind.u64.bits u ||| BitVec.ofInt IntKind.u64.bits (IntKind.u64.wrap (IntKind.u64.wrap b * (2 : Int) ^ min (IntKind.i64.wrap ((8 : Int) * (j : Int))).toNat IntKind.u64.bits))).toNat : Int) = u + b * 256 ^ j := by
  obtain ⟨n, rfl⟩ : ∃ n : Nat, u = n := ⟨u.toNat, by omega⟩
  obtain ⟨c, rfl⟩ : ∃ c : Nat, b = c := ⟨b.toNat, by omega⟩
  have hp : ∀ e : Nat, 0 < e → e ≤ 72057594037927936 → (256 : Int) ^ j = (e : Int) → (2 : Int) ^ min (IntKind.i64.wrap ((8 : Int) * (j : Int))).toNat IntKind.u64.bits = (e : Int) → e = 2 ^ (8 * j) → IntKind.u64.wrap (↑(BitVec.ofInt IntKind.u64.bits (n : Int) ||| BitVec.ofInt IntKind.u64.bits (IntKind.u64.wrap (IntKind.u64.wrap (c : Int) * (2 : Int) ^ min (IntKind.i64.wrap ((8 : Int) * (j : Int))).toNat IntKind.u64.bits))).toNat : Int) = (n : Int) + (c : Int) * 256 ^ j := by
    intro e he0 he h1 h2 h3
    rw [h2, h1]
    rw [h1] at hu
    rw [IntKind.wrap_u64, IntKind.wrap_u64, IntKind.wrap_u64]
    have hce : c * e < 18446744073709551616 := by
      have : c * e ≤ 255 * e := Nat.mul_le_mul_right _ (by omega)
      omega
    rw [show ((c : Int)) % 18446744073709551616 = ((c : Nat) : Int) by omega, show ((c : Int) * (e : Int)) = ((c * e : Nat) : Int) by simp]
    rw [show (((c * e : Nat) : Int)) % 18446744073709551616 = ((c * e : Nat) : Int) by omega]
    rw [BitVec.ofInt_natCast, BitVec.ofInt_natCast, BitVec.toNat_or, BitVec.toNat_ofNat, BitVec.toNat_ofNat]
    rw [Nat.mod_eq_of_lt (show c * e < 2 ^ IntKind.u64.bits from by show c * e < 2 ^ 64; omega), Nat.mod_eq_of_lt (show n < 2 ^ IntKind.u64.bits from by show n < 2 ^ 64; omega)]
    have h := Nat.shiftLeft_add_eq_or_of_lt (show n < 2 ^ (8 * j) by omega) c
    rw [Nat.shiftLeft_eq, ← h3] at h
    rw [Nat.or_comm, ← h]
    have : c * e + n ≤ 255 * e + n := Nat.add_le_add_right (Nat.mul_le_mul_right _ (by omega)) _
    omega
  rcases (show j = 0 ∨ j = 1 ∨ j = 2 ∨ j = 3 ∨ j = 4 ∨ j = 5 ∨ j = 6 ∨ j = 7 by omega) with rfl | rfl | rfl | rfl | rfl | rfl | rfl | rfl
  · exact hp 1 (by decide) (by decide) (by decide) (by decide) (by decide)
  · exact hp 256 (by decide) (by decide) (by decide) (by decide) (by decide)
  · exact hp 65536 (by decide) (by decide) (by decide) (by decide) (by decide)
  · exact hp 16777216 (by decide) (by decide) (by decide) (by decide) (by decide)
  · exact hp 4294967296 (by decide) (by decide) (by decide) (by decide) (by decide)
  · exact hp 1099511627776 (by decide) (by decide) (by decide) (by decide) (by decide)
  · exact hp 281474976710656 (by decide) (by decide) (by decide) (by decide) (by decide)
  · exact hp 72057594037927936 (by decide) (by decide) (by decide) (by decide) (by decide)
def sumB (f : Nat → Int) : Nat → Int
  | 0 => 0
  | j + 1 => sumB f j + f j * 256 ^ j
theorem sumB_in (f : Nat → Int) (n : Nat) (hf : ∀ i, i < n → 0 ≤ f i ∧ f i < 256) : 0 ≤ sumB f n ∧ sumB f n < 256 ^ n := by
  induction n with
  | zero => exact ⟨Int.le_refl _, by show (0 : Int) < 1; decide⟩
  | succ n ih =>
    have h1 := ih fun i hi => hf i (by omega)
    have h2 := hf n (by omega)
    rw [sumB]
    have hp : (0 : Int) ≤ 256 ^ n := by omega
    have h3 : 0 ≤ f n * 256 ^ n := Int.mul_nonneg h2.1 hp
    have h4 : f n * 256 ^ n ≤ 255 * 256 ^ n := Int.mul_le_mul_of_nonneg_right (by omega) hp
    rw [Int.pow_succ]
    omega
theorem sumB_congr (f g : Nat → Int) (n : Nat) (h : ∀ i, i < n → f i = g i) : sumB f n = sumB g n := by
  induction n with
  | zero => rfl
  | succ n ih => rw [sumB, sumB, ih fun i hi => h i (by omega), h n (by omega)]
/-- a number's eight bytes are it -/
theorem bytes_of (v : Int) (hv : -9223372036854775808 ≤ v ∧ v < 9223372036854775808) :
    IntKind.i64.wrap (((((((bt v 7 * 256 + bt v 6) * 256 + bt v 5) * 256 + bt v 4) * 256 + bt v 3) * 256 + bt v 2) * 256 + bt v 1) * 256 + bt v 0) = v := by
  have b0 := bt_at v 0 1 (by decide) (by decide)
  have b1 := bt_at v 1 256 (by decide) (by decide)
  have b2 := bt_at v 2 65536 (by decide) (by decide)
  have b3 := bt_at v 3 16777216 (by decide) (by decide)
  have b4 := bt_at v 4 4294967296 (by decide) (by decide)
  have b5 := bt_at v 5 1099511627776 (by decide) (by decide)
  have b6 := bt_at v 6 281474976710656 (by decide) (by decide)
  have b7 := bt_at v 7 72057594037927936 (by decide) (by decide)
  obtain ⟨q1, h1⟩ : ∃ q, q = v / 256 := ⟨_, rfl⟩
  obtain ⟨q2, h2⟩ : ∃ q, q = q1 / 256 := ⟨_, rfl⟩
  obtain ⟨q3, h3⟩ : ∃ q, q = q2 / 256 := ⟨_, rfl⟩
  obtain ⟨q4, h4⟩ : ∃ q, q = q3 / 256 := ⟨_, rfl⟩
  obtain ⟨q5, h5⟩ : ∃ q, q = q4 / 256 := ⟨_, rfl⟩
  obtain ⟨q6, h6⟩ : ∃ q, q = q5 / 256 := ⟨_, rfl⟩
  obtain ⟨q7, h7⟩ : ∃ q, q = q6 / 256 := ⟨_, rfl⟩
  obtain ⟨q8, h8⟩ : ∃ q, q = q7 / 256 := ⟨_, rfl⟩
  have e2 : v / 65536 = q2 := by omega
  have e3 : v / 16777216 = q3 := by rw [h3, ← e2]; omega
  have e4 : v / 4294967296 = q4 := by rw [h4, ← e3]; omega
  have e5 : v / 1099511627776 = q5 := by rw [h5, ← e4]; omega
  have e6 : v / 281474976710656 = q6 := by rw [h6, ← e5]; omega
  have e7 : v / 72057594037927936 = q7 := by rw [h7, ← e6]; omega
  rw [Int.ediv_one] at b0
  rw [← h1] at b1
  rw [e2] at b2
  rw [e3] at b3
  rw [e4] at b4
  rw [e5] at b5
  rw [e6] at b6
  rw [e7] at b7
  generalize hx0 : bt v 0 = x0 at *
  generalize hx1 : bt v 1 = x1 at *
  generalize hx2 : bt v 2 = x2 at *
  generalize hx3 : bt v 3 = x3 at *
  generalize hx4 : bt v 4 = x4 at *
  generalize hx5 : bt v 5 = x5 at *
  generalize hx6 : bt v 6 = x6 at *
  generalize hx7 : bt v 7 = x7 at *
  have r1 : q1 * 256 + x0 = v := by omega
  have r2 : q2 * 256 + x1 = q1 := by omega
  have r3 : q3 * 256 + x2 = q2 := by omega
  have r4 : q4 * 256 + x3 = q3 := by omega
  have r5 : q5 * 256 + x4 = q4 := by omega
  have r6 : q6 * 256 + x5 = q5 := by omega
  have r7 : q7 * 256 + x6 = q6 := by omega
  have r8 : q8 * 256 + x7 = q7 := by omega
  have hb7 : 0 ≤ x7 ∧ x7 < 256 := by omega
  clear b0 b1 b2 b3 b4 b5 b6 b7 h1 h2 h3 h4 h5 h6 h7 h8 e2 e3 e4 e5 e6 e7 hx0 hx1 hx2 hx3 hx4 hx5 hx6 hx7
  rw [IntKind.wrap_i64]
  omega
theorem sumB8 (f : Nat → Int) : sumB f 8 = ((((((f 7 * 256 + f 6) * 256 + f 5) * 256 + f 4) * 256 + f 3) * 256 + f 2) * 256 + f 1) * 256 + f 0 := by
  simp only [sumB, Int.reducePow]
  omega
theorem e24_eq (k : Nat) (m : Int) (d : List Int) (l : Fs) (c : List Int) (fr : Fr) (asks : Bool) (call : Int) (args : List Int) (trap : Int) : f24 k ((((), ()), ()), ((m, d, l), (), (), (asks, call, args, trap), ()), c, fr, ()) = bif decide ((0 : Int) ≤ IntKind.i64.wrap ((↑(List.length fr) : Int) - (1 : Int)) ∧ IntKind.i64.wrap ((↑(List.length fr) : Int) - (1 : Int)) < (↑(List.length fr) : Int)) then some ((((IntKind.i64.wrap ((↑(List.length fr) : Int) - (1 : Int))).toNat, ()), ()), ()) else none := by kernel_rfl
theorem e25_eq (k : Nat) (i : Nat) (v : Int) (fr : Fr) : f25 k (((i, ()), (v, ()), ()), fr, ()) = bif decide (i = i) then bif ((List.length (gt SF fr i).2.2.2 + [v].length) * (8 : Nat)).ble (140737488355328 : Nat) then bif decide (i = i) then some ((), List.set fr i ((gt SF fr i).1, (gt SF fr i).2.1, (gt SF fr i).2.2.1, (gt SF fr i).2.2.2 ++ [v]), ()) else none else none else none := by kernel_rfl
theorem push_at (K : Nat) (M : (Int × List Int × Fs) × Unit × Unit × (Bool × Int × List Int × Int) × Unit) (c : List Int) (f at_ v : Int) (lo s : List Int) (hs : s.length ≤ 1000) :
    f25 K (((0, ()), (v, ()), ()), [(f, at_, lo, s)], ()) = some ((), [(f, at_, lo, s ++ [v])], ()) := by
  refine (e25_eq K 0 v [(f, at_, lo, s)]).trans ?_
  rw [cpos rfl, blt (by show (s.length + [v].length) * 8 ≤ _; simp only [List.length_cons, List.length_nil]; omega), cpos rfl]
  rfl
theorem top_at (K : Nat) (m : Int) (d : List Int) (l : Fs) (asks : Bool) (call : Int) (args : List Int) (trap : Int) (c : List Int) (fr : Int × Int × List Int × List Int) :
    f24 K ((((), ()), ()), MS m d l asks call args trap, c, [fr], ()) = some (((0, ()), ()), ()) := by
  refine (e24_eq K m d l c [fr] asks call args trap).trans ?_
  rfl
theorem load_loop (K : Nat) (m : Int) (d : List Int) (l : Fs) (call : Int) (args : List Int) (t : Int) (f at_ : Int) (lo s : List Int) (hs : s.length ≤ 1000) (A n : Nat) (hn : n ≤ 8) (c : List Int) (hc : ∀ i, i < n → 0 ≤ ub c (A + i) ∧ ub c (A + i) < 256) (P : Nat × Int × Int × List Int × Fs × Bool × Int × List Int × Int × List Int × Fr) : ∀ (e j k : Nat), j + e = n → e + 1 ≤ k →
    loopN (e34c_0 K P.2.1 P.2.2.1 P.2.2.2.1 P.2.2.2.2.1 P.2.2.2.2.2.1 P.2.2.2.2.2.2.1 P.2.2.2.2.2.2.2.1 P.2.2.2.2.2.2.2.2.1 P.2.2.2.2.2.2.2.2.2.1 P.2.2.2.2.2.2.2.2.2.2) k ((((), ()), (sumB (fun i => ub c (A + i)) j, ()), ((A, n), ()), ((n : Int), ()), ((j : Int), ()), ()), MS m d l false call args t, c, [(f, at_, lo, s)], ()) = R34 m d l call args t c [(f, at_, lo, s ++ [IntKind.i64.wrap (sumB (fun i => ub c (A + i)) n)])] := by
  intro e
  induction e with
  | zero =>
    intro j k he hk
    obtain ⟨k, rfl⟩ : ∃ k2, k = k2 + 1 := ⟨k - 1, by omega⟩
    rw [loopN_succ, e34c_0]
    simp only []
    rw [cneg (by omega), top_at, Option.bind_some]
    simp only []
    rw [push_at K (MS m d l false call args t) c _ _ _ _ _ hs, Option.bind_some, show j = n by omega]
  | succ e ih =>
    intro j k he hk
    obtain ⟨k, rfl⟩ : ∃ k2, k = k2 + 1 := ⟨k - 1, by omega⟩
    rw [loopN_succ, e34c_0]
    simp only []
    have hb := hc j (by omega)
    have hu := sumB_in (fun i => ub c (A + i)) j fun i hi => hc i (by omega)
    rw [cpos (by omega), cpos (p := 0 ≤ (j : Int) ∧ (j : Int) < (n : Int)) (by omega), cpos (p := 0 ≤ IntKind.i64.wrap (8 * (j : Int))) (by rw [wrapId (by omega) (by omega)]; omega), wrapId (n := (j : Int) + 1) (by omega) (by omega), Int.toNat_natCast, orS _ _ j (by omega) hu hb]
    have h := ih (j + 1) k (by omega) (by omega)
    rw [show ((j + 1 : Nat) : Int) = (j : Int) + 1 by omega] at h
    exact h
theorem load1 {K : Nat} (hK : 20 ≤ K) (a m : Int) (d : List Int) (l : Fs) (c : List Int) (f at_ : Int) (lo s : List Int) (hs : s.length ≤ 1000) (call : Int) (args : List Int) (hc : c.length ≤ 2000) (h : 0 ≤ a ∧ a + 1 ≤ (c.length : Int)) (hb : 0 ≤ ub c a.toNat ∧ ub c a.toNat < 256) :
    f34 K ((((), ()), ((20 : Int), ()), ([a], ()), ()), MS m d l false call args 0, c, [(f, at_, lo, s)], ()) = R34 m d l call args 0 c [(f, at_, lo, s ++ [ub c a.toNat])] := by
  refine (e34c_eq K a m d l c [(f, at_, lo, s)] false call args 0).trans ?_
  rw [mem_in h.1 (by decide) h.2 hc, Option.bind_some]
  simp only []
  rw [Bool.not_true, cond_false, wrapId (n := a + 1) (by omega) (by omega), cpos (by omega), show (a + 1).toNat - a.toNat = 1 by omega]
  refine (load_loop K m d l call args 0 f at_ lo s hs a.toNat 1 (by decide) c (fun i hi => by rw [show i = 0 by omega]; exact hb) (0, a, m, d, l, false, call, args, 0, c, [(f, at_, lo, s)]) 1 0 K (by omega) (by omega)).trans ?_
  have e : sumB (fun i => ub c (a.toNat + i)) 1 = ub c a.toNat := by
    show 0 + ub c (a.toNat + 0) * 1 = _
    rw [Nat.add_zero]; omega
  rw [e, wrapId (by omega) (by omega)]
theorem load8 {K : Nat} (hK : 20 ≤ K) (a v m : Int) (d : List Int) (l : Fs) (c : List Int) (f at_ : Int) (lo s : List Int) (hs : s.length ≤ 1000) (call : Int) (args : List Int) (hc : c.length ≤ 2000) (h : 0 ≤ a ∧ a + 8 ≤ (c.length : Int)) (hv : -9223372036854775808 ≤ v ∧ v < 9223372036854775808) (hb : ∀ i : Nat, i < 8 → ub c (a.toNat + i) = bt v i) :
    f34 K ((((), ()), ((22 : Int), ()), ([a], ()), ()), MS m d l false call args 0, c, [(f, at_, lo, s)], ()) = R34 m d l call args 0 c [(f, at_, lo, s ++ [v])] := by
  refine (e34d_eq K a m d l c [(f, at_, lo, s)] false call args 0).trans ?_
  rw [mem_in h.1 (by decide) h.2 hc, Option.bind_some]
  simp only []
  rw [Bool.not_true, cond_false, wrapId (n := a + 8) (by omega) (by omega), cpos (by omega), show (a + 8).toNat - a.toNat = 8 by omega]
  refine (load_loop K m d l call args 0 f at_ lo s hs a.toNat 8 (by decide) c (fun i hi => by rw [hb i hi]; exact bt_in v i) (0, a, m, d, l, false, call, args, 0, c, [(f, at_, lo, s)]) 8 0 K (by omega) (by omega)).trans ?_
  have e : IntKind.i64.wrap (sumB (fun i => ub c (a.toNat + i)) 8) = v := by
    rw [sumB_congr _ (fun i => bt v (i : Int)) 8 hb, sumB8]
    exact bytes_of v hv
  rw [e]
end
end Go.Proofs.Ytjbdeccohpbegaa.Vm
