/- The program's reader does as the tree says: a byte, two bytes, a number. Condition: bytes, and fewer than 2^40 of them. -/
import Derived.Test.YtbdkphjpdoajpaaMQ
import Derived.Test.YtbdkphjpdoajpaaQx2
import Derived.Test.YtbdkphjpdoajpaaQx3
import Derived.Test.YtbdkphjpdoajpaaQx7
namespace Go.Proofs.Ytbdkphjpdoajpaa.Mdl
open Go.RowKit Go.Proofs.Ytbdkphjpdoajpaa.Q Go.Proofs.YtbdkphjpdoajpaaW.PrintWords Go.Proofs.YtbdkphjpdoajpaaW.PrintLast

/-- Bytes. -/
structure Byt (b : List Int) : Prop where
  v : ∀ v ∈ b, 0 ≤ v ∧ v ≤ 255
  n : b.length ≤ 1000000000000
/-- What a part of the reader answers, from a place that can be. -/
def Is {α : Type} (t : P α) (b : List Int) (p : Nat) (r : α × Int × Bool) : Prop :=
  (∃ a q, r = (a, ((q : Nat) : Int), false) ∧ q ≤ b.length ∧ run t (b.drop p) p = (q, some (a, b.drop q))) ∨ (∃ v q, r = (v, ((q : Nat) : Int), true) ∧ run t (b.drop p) p = (q, none))
theorem drop_at {b : List Int} {p : Nat} (h : p < b.length) : b.drop p = b[p] :: b.drop (p + 1) := List.drop_eq_getElem_cons h
theorem rd_at {b : List Int} {p : Nat} (h : p < b.length) : rd b (p : Int) = b[p] := by
  unfold rd
  simp [List.getD, h]
theorem next_bad (b : List Int) (p lo hi : Int) : module_reader_next.f b p true lo hi = some (0, p, true) := by
  unfold module_reader_next.f
  rw [if_pos rfl]
theorem next_is {b : List Int} (hB : Byt b) {p : Nat} (hp : p ≤ b.length) (lo hi : Int) :
    (∃ a, module_reader_next.f b (p : Int) false lo hi = some (a, ((p + 1 : Nat) : Int), false) ∧ p < b.length ∧ (lo ≤ a ∧ a ≤ hi) ∧ (0 ≤ a ∧ a ≤ 255) ∧ b.drop p = a :: b.drop (p + 1)) ∨
    (module_reader_next.f b (p : Int) false lo hi = some (0, (p : Int), true) ∧ (∀ lo' hi' : Int, lo ≤ lo' → hi' ≤ hi → ∀ {β : Type} (k : Int → P β), run (.need lo' hi' k) (b.drop p) p = (p, none))) := by
  have hn := hB.n
  unfold module_reader_next.f
  rw [if_neg (by simp)]
  by_cases c : p < b.length
  · have hv := hB.v _ (List.getElem_mem c)
    have hw : wrap64 b[p] = b[p] := wrap_id (by unfold I64; omega)
    rw [if_neg (by omega), if_pos (by omega), if_pos (by omega), rd_at c, hw]
    by_cases c1 : b[p] < lo
    · rw [if_pos c1]
      right
      refine ⟨rfl, fun lo' hi' h1 h2 β k => ?_⟩
      rw [drop_at c]
      show (if lo' ≤ b[p] ∧ b[p] ≤ hi' then run (k b[p]) (b.drop (p + 1)) (p + 1) else (p, none)) = _
      rw [if_neg (by omega)]
    · rw [if_neg c1]
      by_cases c2 : b[p] > hi
      · rw [if_pos c2]
        right
        refine ⟨rfl, fun lo' hi' h1 h2 β k => ?_⟩
        rw [drop_at c]
        show (if lo' ≤ b[p] ∧ b[p] ≤ hi' then run (k b[p]) (b.drop (p + 1)) (p + 1) else (p, none)) = _
        rw [if_neg (by omega)]
      · rw [if_neg c2]
        left
        have e1 : wrap64 ((p : Int) + 1) = ((p + 1 : Nat) : Int) := by rw [wrap_id (by unfold I64; omega)]; omega
        have e2 : wrap64 (((p + 1 : Nat) : Int) - 1) = (p : Int) := by rw [wrap_id (by unfold I64; clear e1; omega)]; clear e1; omega
        rw [e1, e2]
        clear e1 e2
        rw [if_pos (by omega), if_pos (by omega), rd_at c, hw]
        exact ⟨b[p], rfl, c, ⟨by omega, by omega⟩, hv, drop_at c⟩
  · rw [if_pos (by omega)]
    right
    refine ⟨rfl, fun lo' hi' h1 h2 β k => ?_⟩
    rw [List.drop_of_length_le (by omega)]
    rfl
theorem byte_is {b : List Int} (hB : Byt b) {p : Nat} (hp : p ≤ b.length) (lo hi : Int) : ∃ r, module_reader_next.f b (p : Int) false lo hi = some r ∧ Is (byteT lo hi) b p r ∧ (r.2.2 = false → lo ≤ r.1 ∧ r.1 ≤ hi) := by
  rcases next_is hB hp lo hi with ⟨a, h1, h2, h3, _, h4⟩ | ⟨h1, h2⟩
  · refine ⟨_, h1, Or.inl ⟨a, p + 1, rfl, by omega, ?_⟩, fun _ => h3⟩
    rw [h4]
    show (if lo ≤ a ∧ a ≤ hi then run (.ret a) (b.drop (p + 1)) (p + 1) else (p, none)) = _
    rw [if_pos h3]
    rfl
  · exact ⟨_, h1, Or.inr ⟨0, p, rfl, h2 lo hi (Int.le_refl _) (Int.le_refl _) _⟩, fun h => by simp at h⟩
theorem or_comm_ (k : IntKind) (x y : Int) : Go.bits .or k x y = Go.bits .or k y x := by
  show k.wrap ((BitVec.ofInt k.bits x ||| BitVec.ofInt k.bits y).toNat : Int) = k.wrap ((BitVec.ofInt k.bits y ||| BitVec.ofInt k.bits x).toNat : Int)
  rw [BitVec.or_comm]
theorem i64_small (n : Int) (h0 : 0 ≤ n) (h1 : n < 2 ^ 62) : IntKind.i64.wrap n = n := by rw [IntKind.wrap_i64]; omega
theorem u64_small (n : Int) (h0 : 0 ≤ n) (h1 : n < 2 ^ 64) : IntKind.u64.wrap n = n := by rw [wrap_u64]; omega
theorem or_two {a c : Int} (a0 : 0 ≤ a) (a1 : a ≤ 255) (c0 : 0 ≤ c) (c1 : c ≤ 255) : Go.bits .or .i64 a (c * 256) = a + 256 * c := by
  rw [or_comm_, bits_join .i64 62 (by decide) i64_small 8 (c * 256) a (by omega) (by omega) (by omega) a0 (by omega) (by omega)]
  omega
theorem mn_min (a c : Int) : mn a c = min a c := by
  unfold mn
  split <;> omega
theorem two_bad (b : List Int) (p lo hi : Int) : ∃ v, module_reader_two.f b p true lo hi = some (v, p, true) := by
  unfold module_reader_two.f
  rw [next_bad]
  simp only [Option.bind_some]
  split
  · rw [next_bad]
    exact ⟨_, rfl⟩
  · rw [next_bad]
    exact ⟨_, rfl⟩
theorem two_is {b : List Int} (hB : Byt b) {p : Nat} (hp : p ≤ b.length) {lo hi : Int} (l0 : 0 ≤ lo) (l1 : lo ≤ 1) (h0 : 0 ≤ hi) (h1 : hi ≤ 1024) : ∃ r, module_reader_two.f b (p : Int) false lo hi = some r ∧ Is (twoT lo hi) b p r := by
  unfold module_reader_two.f
  rw [mn_min]
  obtain ⟨r, hr, hI, hbd⟩ := byte_is hB hp 0 (min hi 255)
  rw [hr]
  simp only [Option.bind_some]
  rcases hI with ⟨a, q, rfl, hq, hrun⟩ | ⟨v, q, rfl, hrun⟩
  · have hb := hbd rfl
    simp only at hb
    simp only
    have hw : wrap64 (hi - a) = hi - a := wrap_id (by unfold I64; omega)
    rw [hw]
    have hboth : ∀ L : Int, 0 ≤ L → ∃ r, ((module_reader_next.f b (q : Int) false L ((hi - a) / 256)).bind fun bt => some (Go.bits .or .i64 a (wrap64 (bt.1 * 256)), bt.2.1, bt.2.2)) = some r ∧ Is ((byteT L ((hi - a) / 256)).bind fun c => .ret (a + 256 * c)) b q r := by
      intro L hL
      obtain ⟨r2, hr2, hI2, hbd2⟩ := byte_is hB hq L ((hi - a) / 256)
      rw [hr2]
      simp only [Option.bind_some]
      rcases hI2 with ⟨c, q2, rfl, hq2, hrun2⟩ | ⟨v, q2, rfl, hrun2⟩
      · have hb2 := hbd2 rfl
        simp only at hb2
        refine ⟨_, rfl, Or.inl ⟨a + 256 * c, q2, ?_, hq2, ?_⟩⟩
        · have hw2 : wrap64 (c * 256) = c * 256 := wrap_id (by clear hw; unfold I64; omega)
          simp only
          rw [hw2, or_two hb.1 (by clear hw hw2; omega) (by clear hw hw2; omega) (by clear hw hw2; omega)]
        · rw [run_bind, hrun2]
          rfl
      · refine ⟨_, rfl, Or.inr ⟨_, q2, rfl, ?_⟩⟩
        rw [run_bind, hrun2]
    have hfin : ∀ {r : Int × Int × Bool}, Is ((byteT (if a < lo then 1 else 0) ((hi - a) / 256)).bind fun c => .ret (a + 256 * c)) b q r → Is (twoT lo hi) b p r := by
      intro r h
      have e : run (twoT lo hi) (b.drop p) p = run ((byteT (if a < lo then 1 else 0) ((hi - a) / 256)).bind fun c => .ret (a + 256 * c)) (b.drop q) q := by
        unfold twoT
        rw [run_bind, hrun]
      unfold Is
      rw [e]
      exact h
    by_cases c : a < lo
    · rw [if_pos c]
      obtain ⟨r2, h2, h3⟩ := hboth 1 (by omega)
      refine ⟨r2, h2, hfin ?_⟩
      rw [if_pos c]
      exact h3
    · rw [if_neg c]
      obtain ⟨r2, h2, h3⟩ := hboth 0 (by omega)
      refine ⟨r2, h2, hfin ?_⟩
      rw [if_neg c]
      exact h3
  · simp only [next_bad, Option.bind_some]
    have e : run (twoT lo hi) (b.drop p) p = (q, none) := by
      unfold twoT
      rw [run_bind, hrun]
    split
    · exact ⟨_, rfl, Or.inr ⟨_, q, rfl, e⟩⟩
    · exact ⟨_, rfl, Or.inr ⟨_, q, rfl, e⟩⟩
theorem xor_def64 (x y : Int) : Go.bits .xor .i64 x y = IntKind.i64.wrap ((BitVec.ofInt 64 x ^^^ BitVec.ofInt 64 y).toNat : Int) := rfl
theorem ixor0 {x : Int} (h0 : 0 ≤ x) (h1 : x < 9223372036854775808) : Go.bits .xor .i64 x 0 = x := by
  obtain ⟨a, rfl⟩ := Int.eq_ofNat_of_zero_le h0
  rw [xor_def64]
  have : (BitVec.ofInt 64 0) = 0#64 := by decide
  simp only [BitVec.ofInt_natCast, this, BitVec.xor_zero, BitVec.toNat_ofNat]
  rw [IntKind.wrap_i64]
  omega
theorem ixor1 {x : Int} (h0 : 0 ≤ x) (h1 : x < 9223372036854775808) : Go.bits .xor .i64 x (-1) = -x - 1 := by
  obtain ⟨a, rfl⟩ := Int.eq_ofNat_of_zero_le h0
  rw [xor_def64]
  have : (BitVec.ofInt 64 (-1)) = BitVec.allOnes 64 := by decide
  simp only [BitVec.ofInt_natCast, this, BitVec.xor_allOnes, BitVec.toNat_not, BitVec.toNat_ofNat]
  rw [IntKind.wrap_i64]
  omega
/-- The number that bits stand for. -/
theorem val_is {u : Int} (h0 : 0 ≤ u) (h1 : u < 18446744073709551616) : Go.bits .xor .i64 (wrap64 (u / 2)) (wrap64 (-(wrap64 (Go.bits .and .u64 u 1)))) = unz u := by
  have e : Go.bits .and .u64 u 1 = u % 2 := bits_mask .u64 64 (by decide) u64_small 1 (by decide) u h0 (by omega)
  rw [e]
  have w1 : wrap64 (u / 2) = u / 2 := wrap_id (by unfold I64; omega)
  have w2 : wrap64 (u % 2) = u % 2 := wrap_id (by unfold I64; clear w1; omega)
  have w3 : wrap64 (-(u % 2)) = -(u % 2) := wrap_id (by unfold I64; clear w1 w2; omega)
  rw [w1, w2, w3]
  clear w1 w2 w3
  unfold unz
  by_cases c : u % 2 = 0
  · rw [if_pos c, c]
    exact ixor0 (by omega) (by omega)
  · rw [if_neg c, show u % 2 = 1 by omega]
    exact ixor1 (by omega) (by omega)
theorem pow63 {i : Nat} (hi : i ≤ 9) : (2 : Int) ^ (7 * i) ≤ 9223372036854775808 := by
  obtain rfl | rfl | rfl | rfl | rfl | rfl | rfl | rfl | rfl | rfl : i = 0 ∨ i = 1 ∨ i = 2 ∨ i = 3 ∨ i = 4 ∨ i = 5 ∨ i = 6 ∨ i = 7 ∨ i = 8 ∨ i = 9 := by omega
  all_goals decide
/-- One group more. -/
theorem or_group {u c : Int} {i : Nat} (hi : i ≤ 9) (u0 : 0 ≤ u) (u1 : u < 2 ^ (7 * i)) (c0 : 0 ≤ c) (c1 : c ≤ 255) (hc : c % 128 * 2 ^ (7 * i) < 18446744073709551616) :
    Go.bits .or .u64 u (shl .u64 (IntKind.u64.wrap (Go.bits .and .i64 c 127)) ((7 * i : Nat) : Int)) = u + c % 128 * 2 ^ (7 * i) := by
  have e1 : Go.bits .and .i64 c 127 = c % 128 := bits_mask .i64 62 (by decide) i64_small 7 (by decide) c c0 (by omega)
  have hp : (0 : Int) < 2 ^ (7 * i) := Int.pow_pos (by decide)
  have hm : 0 ≤ c % 128 * 2 ^ (7 * i) := Int.mul_nonneg (by omega) (by omega)
  have e2 : shl .u64 (IntKind.u64.wrap (c % 128)) ((7 * i : Nat) : Int) = c % 128 * 2 ^ (7 * i) := by
    unfold shl
    rw [wrap_u64, wrap_u64, show min (((7 * i : Nat) : Int)).toNat (IntKind.u64.bits) = 7 * i from by simp [IntKind.bits]; omega, Int.emod_eq_of_lt (a := c % 128) (by omega) (by omega), Int.emod_eq_of_lt hm hc]
  have hu : u < 18446744073709551616 := by
    have := pow63 hi
    omega
  rw [e1, e2, or_comm_, bits_join .u64 64 (by decide) u64_small (7 * i) _ u hm (by simp) hc u0 u1 hu]
  omega
end Go.Proofs.Ytbdkphjpdoajpaa.Mdl
