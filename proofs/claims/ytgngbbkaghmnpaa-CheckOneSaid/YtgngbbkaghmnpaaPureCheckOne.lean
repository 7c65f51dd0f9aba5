/- One op is flawed just if there are fewer numbers than it takes: CheckOne answers true for all numbers; there are but 192 cases. No condition. -/
import Derived.Test.YtgngbbkaghmnpaaQx20
import Derived.Laws.BitsLemmas
namespace Go.Proofs.Ytgngbbkaghmnpaa.Pure
open Go.RowKit Go.Proofs.Ytgngbbkaghmnpaa.Q Go.Proofs.YtgngbbkaghmnpaaW.PrintWords Go.Proofs.YtgngbbkaghmnpaaW.PrintLast

theorem alive_ok : casementlaw13_alive.f 100 = some true := by kernel_rfl
theorem alive_k {k : Nat} (hk : 100 ≤ k) : casementlaw13_alive.f k = some true := at_rounds casementlaw13_alive.mono hk alive_ok
theorem and_small {x : Int} {m : Nat} (hm : m ≤ 1023) : ∃ v : Nat, Go.bits .and .i64 x (m : Int) = (v : Int) ∧ v ≤ m := by
  refine ⟨(BitVec.ofInt 64 x &&& BitVec.ofInt 64 (m : Int)).toNat, ?_, ?_⟩
  · have h : (BitVec.ofInt 64 x &&& BitVec.ofInt 64 (m : Int)).toNat ≤ m := by
      rw [BitVec.toNat_and, BitVec.ofInt_natCast, BitVec.toNat_ofNat, Nat.mod_eq_of_lt (by omega)]
      exact Nat.and_le_right
    have e : Go.bits .and .i64 x (m : Int) = IntKind.i64.wrap ((BitVec.ofInt 64 x &&& BitVec.ofInt 64 (m : Int)).toNat : Int) := rfl
    rw [e, IntKind.wrap_i64]
    omega
  · rw [BitVec.toNat_and, BitVec.ofInt_natCast, BitVec.toNat_ofNat, Nat.mod_eq_of_lt (by omega)]
    exact Nat.and_le_right
/-- The cases, one by one. -/
def good (o k : Nat) : Bool := casementlaw13_CheckOne.j0 400 (o : Int) (k : Int) (if (o : Int) = 5 then true else ((o : Int) == 6)) == some true
def goods (o : Nat) : Bool := good o 0 && good o 1 && good o 2 && good o 3 && good o 4 && good o 5 && good o 6 && good o 7
theorem all_0 : goods 0 = true := by kernel_rfl
theorem all_1 : goods 1 = true := by kernel_rfl
theorem all_2 : goods 2 = true := by kernel_rfl
theorem all_3 : goods 3 = true := by kernel_rfl
theorem all_4 : goods 4 = true := by kernel_rfl
theorem all_5 : goods 5 = true := by kernel_rfl
theorem all_6 : goods 6 = true := by kernel_rfl
theorem all_7 : goods 7 = true := by kernel_rfl
theorem all_8 : goods 8 = true := by kernel_rfl
theorem all_9 : goods 9 = true := by kernel_rfl
theorem all_10 : goods 10 = true := by kernel_rfl
theorem all_11 : goods 11 = true := by kernel_rfl
theorem all_12 : goods 12 = true := by kernel_rfl
theorem all_13 : goods 13 = true := by kernel_rfl
theorem all_14 : goods 14 = true := by kernel_rfl
theorem all_15 : goods 15 = true := by kernel_rfl
theorem all_16 : goods 16 = true := by kernel_rfl
theorem all_17 : goods 17 = true := by kernel_rfl
theorem all_18 : goods 18 = true := by kernel_rfl
theorem all_19 : goods 19 = true := by kernel_rfl
theorem all_20 : goods 20 = true := by kernel_rfl
theorem all_21 : goods 21 = true := by kernel_rfl
theorem all_22 : goods 22 = true := by kernel_rfl
theorem all_23 : goods 23 = true := by kernel_rfl
theorem goods_k {o : Nat} (h : goods o = true) {k : Nat} (hk : k ≤ 7) : good o k = true := by
  unfold goods at h
  simp only [Bool.and_eq_true] at h
  obtain ⟨⟨⟨⟨⟨⟨⟨h0, h1⟩, h2⟩, h3⟩, h4⟩, h5⟩, h6⟩, h7⟩ := h
  obtain rfl | rfl | rfl | rfl | rfl | rfl | rfl | rfl : k = 0 ∨ k = 1 ∨ k = 2 ∨ k = 3 ∨ k = 4 ∨ k = 5 ∨ k = 6 ∨ k = 7 := by omega
  all_goals assumption
theorem good_ok {o k : Nat} (ho : o ≤ 23) (hk : k ≤ 7) : good o k = true := by
  apply goods_k _ hk
  obtain rfl | rfl | rfl | rfl | rfl | rfl | rfl | rfl | rfl | rfl | rfl | rfl | rfl | rfl | rfl | rfl | rfl | rfl | rfl | rfl | rfl | rfl | rfl | rfl : o = 0 ∨ o = 1 ∨ o = 2 ∨ o = 3 ∨ o = 4 ∨ o = 5 ∨ o = 6 ∨ o = 7 ∨ o = 8 ∨ o = 9 ∨ o = 10 ∨ o = 11 ∨ o = 12 ∨ o = 13 ∨ o = 14 ∨ o = 15 ∨ o = 16 ∨ o = 17 ∨ o = 18 ∨ o = 19 ∨ o = 20 ∨ o = 21 ∨ o = 22 ∨ o = 23 := by omega
  · exact all_0
  · exact all_1
  · exact all_2
  · exact all_3
  · exact all_4
  · exact all_5
  · exact all_6
  · exact all_7
  · exact all_8
  · exact all_9
  · exact all_10
  · exact all_11
  · exact all_12
  · exact all_13
  · exact all_14
  · exact all_15
  · exact all_16
  · exact all_17
  · exact all_18
  · exact all_19
  · exact all_20
  · exact all_21
  · exact all_22
  · exact all_23
theorem CheckOne : casementlaw13_CheckOne.Pure := by
  intro a0 a1 _ _
  refine ⟨400, ?_⟩
  unfold casementlaw13_CheckOne.f
  rw [alive_k (by omega)]
  simp only [Option.bind_some, if_true]
  obtain ⟨u, hu, hu2⟩ := and_small (x := a0) (m := 1023) (by omega)
  obtain ⟨v, hv, hv2⟩ := and_small (x := a1) (m := 7) (by omega)
  rw [show Go.bits .and .i64 a0 1023 = (u : Int) from hu, show Go.bits .and .i64 a1 7 = (v : Int) from hv]
  have ht : Int.tmod (u : Int) 24 = ((u % 24 : Nat) : Int) := by
    rw [Int.tmod_eq_emod_of_nonneg (by omega)]
    omega
  rw [ht]
  have h := good_ok (o := u % 24) (k := v) (by omega) hv2
  unfold good at h
  split
  · rename_i c
    rw [if_pos c] at h
    simpa using h
  · rename_i c
    rw [if_neg c] at h
    simpa using h
end Go.Proofs.Ytgngbbkaghmnpaa.Pure
