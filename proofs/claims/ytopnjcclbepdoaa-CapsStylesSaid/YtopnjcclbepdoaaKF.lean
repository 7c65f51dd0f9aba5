import Derived.Test.YtopnjcclbepdoaaKE
namespace Go.Proofs.Ytopnjcclbepdoaa.Caps
open Go Go.RowKit Go.Proofs Go.Proofs.Ytopnjcclbepdoaa.X
set_option linter.unusedVariables false
set_option linter.unusedSimpArgs false
noncomputable section
/-! Without its capability a call is refused -/
def and64 (a b : Int) : Int := IntKind.i64.wrap ((BitVec.ofInt 64 a &&& BitVec.ofInt 64 b).toNat : Int)
theorem ofInt_wrap (x : BitVec 64) : BitVec.ofInt 64 (IntKind.i64.wrap (x.toNat : Int)) = x := by
  apply BitVec.eq_of_toNat_eq
  rw [BitVec.toNat_ofInt, IntKind.wrap_i64]
  have := x.isLt
  omega
theorem need_cases (n : Int) : need n = 0 ∨ need n = 1 ∨ need n = 2 ∨ need n = 4 ∨ need n = 8 ∨ need n = 16 ∨ need n = 32 := by
  unfold need
  split
  · rename_i h
    have : n = 0 ∨ n = 1 ∨ n = 2 ∨ n = 3 ∨ n = 4 ∨ n = 5 ∨ n = 6 ∨ n = 7 ∨ n = 8 ∨ n = 9 := by omega
    rcases this with rfl | rfl | rfl | rfl | rfl | rfl | rfl | rfl | rfl | rfl <;> decide
  · exact .inl rfl
theorem pow_of {d : Int} (h : d = 1 ∨ d = 2 ∨ d = 4 ∨ d = 8 ∨ d = 16 ∨ d = 32) : ∃ i, i < 6 ∧ BitVec.ofInt 64 d = BitVec.twoPow 64 i ∧ IntKind.i64.wrap ((BitVec.twoPow 64 i).toNat : Int) = d := by
  rcases h with rfl | rfl | rfl | rfl | rfl | rfl
  · exact ⟨0, by decide, by decide, by decide⟩
  · exact ⟨1, by decide, by decide, by decide⟩
  · exact ⟨2, by decide, by decide, by decide⟩
  · exact ⟨3, by decide, by decide, by decide⟩
  · exact ⟨4, by decide, by decide, by decide⟩
  · exact ⟨5, by decide, by decide, by decide⟩
theorem and_zero (a : Int) : and64 a 0 = 0 := by
  unfold and64
  rw [show BitVec.ofInt 64 0 = 0#64 from rfl, BitVec.and_zero]; rfl
def grant (a b : Int) : Int := IntKind.i64.wrap ((BitVec.ofInt 64 (IntKind.i64.wrap ((BitVec.ofInt 64 a ||| BitVec.ofInt 64 b).toNat : Int)) &&& BitVec.ofInt 64 63).toNat : Int)
theorem keep (A M : BitVec 64) (i : Nat) (hi : i < 6) (h : A &&& BitVec.twoPow 64 i = BitVec.twoPow 64 i) : ((A ||| M) &&& BitVec.ofInt 64 63) &&& BitVec.twoPow 64 i = BitVec.twoPow 64 i := by
  rw [BitVec.and_twoPow] at h ⊢
  have h6 : (BitVec.ofInt 64 63).getLsbD i = true := by
    have : i = 0 ∨ i = 1 ∨ i = 2 ∨ i = 3 ∨ i = 4 ∨ i = 5 := by omega
    rcases this with rfl | rfl | rfl | rfl | rfl | rfl <;> decide
  have hA : A.getLsbD i = true := by
    cases hc : A.getLsbD i with
    | true => rfl
    | false =>
      rw [hc] at h
      have : i = 0 ∨ i = 1 ∨ i = 2 ∨ i = 3 ∨ i = 4 ∨ i = 5 := by omega
      rcases this with rfl | rfl | rfl | rfl | rfl | rfl <;> exact absurd h (by decide)
  rw [BitVec.getLsbD_and, BitVec.getLsbD_or, hA, h6]
  rfl
theorem and_cases (a : Int) {d : Int} (h : d = 1 ∨ d = 2 ∨ d = 4 ∨ d = 8 ∨ d = 16 ∨ d = 32) : and64 a d = 0 ∨ and64 a d = d := by
  obtain ⟨i, hi, h1, h2⟩ := pow_of h
  unfold and64
  rw [h1, BitVec.and_twoPow]
  split
  · exact .inr h2
  · left; rfl
theorem grant_ok (a b : Int) {d : Int} (h : d = 0 ∨ d = 1 ∨ d = 2 ∨ d = 4 ∨ d = 8 ∨ d = 16 ∨ d = 32) (hd : and64 a d = d) : and64 (grant a b) d = d := by
  rcases h with rfl | h
  · exact and_zero _
  obtain ⟨i, hi, h1, h2⟩ := pow_of h
  have hA : BitVec.ofInt 64 a &&& BitVec.twoPow 64 i = BitVec.twoPow 64 i := by
    have := congrArg (BitVec.ofInt 64) hd
    unfold and64 at this
    rw [ofInt_wrap, h1] at this
    exact this
  unfold and64 grant
  rw [ofInt_wrap, ofInt_wrap, h1, keep _ _ i hi hA]
  exact h2
abbrev E1 : Option (((CT × Unit) × (Int × Unit) × Unit) × Unit) := some (((c0 0 0, ()), (-1, ()), ()), ())
abbrev E2 : Option (((CT × Unit) × (Int × Unit) × Unit) × Unit) := some (((c0 0 0, ()), (-2, ()), ()), ())
theorem ask_ok (k : Nat) (hv n : Int) (ar m : List Int) : f19 k (((hv, ()), (n, ()), (ar, ()), (m, ()), ()), ()) =
    if 0 ≤ n ∧ n < 12 then (if cnt n = (ar.length : Int) then (if and64 hv (need n) = need n then inner k n ar m (v0 n) else E2) else E1) else E1 := by
  rw [ask_eq, takes_ok, needs_ok]
  by_cases h : 0 ≤ n ∧ n < 12
  · simp only [if_pos h, Option.bind_some, Bool.not_true, cond_false]
    by_cases h2 : cnt n = (ar.length : Int)
    · rw [if_pos h2, h2, bne_self_eq_false, cond_false]
      by_cases h3 : and64 hv (need n) = need n
      · rw [if_pos h3]
        rw [show (IntKind.i64.wrap ((BitVec.ofInt IntKind.i64.bits hv &&& BitVec.ofInt IntKind.i64.bits (need n)).toNat : Int) != need n) = false from (by rw [show IntKind.i64.wrap ((BitVec.ofInt IntKind.i64.bits hv &&& BitVec.ofInt IntKind.i64.bits (need n)).toNat : Int) = need n from h3]; exact bne_self_eq_false _), cond_false, ← h2]
      · rw [if_neg h3]
        rw [show (IntKind.i64.wrap ((BitVec.ofInt IntKind.i64.bits hv &&& BitVec.ofInt IntKind.i64.bits (need n)).toNat : Int) != need n) = true from bne_iff_ne.mpr h3, cond_true]
    · rw [if_neg h2, show (cnt n != (ar.length : Int)) = true from by simpa using h2, cond_true]
  · simp only [if_neg h, Option.bind_some, Bool.not_false, cond_true]
theorem ask_tot {k : Nat} {hv n : Int} {ar m : List Int} (hk : 20 ≤ k) (hm : m.length ≤ 140737488355328) : ∃ (c : CT) (e : Int), f19 k (((hv, ()), (n, ()), (ar, ()), (m, ()), ()), ()) = some (((c, ()), (e, ()), ()), ()) := by
  rw [ask_ok]
  by_cases h : 0 ≤ n ∧ n < 12
  · rw [if_pos h]
    by_cases h2 : cnt n = (ar.length : Int)
    · rw [if_pos h2]
      by_cases h3 : and64 hv (need n) = need n
      · rw [if_pos h3]
        obtain ⟨c, e, h4, _⟩ := inner_ok hk hm h h2
        exact ⟨c, e, h4⟩
      · rw [if_neg h3]; exact ⟨_, _, rfl⟩
    · rw [if_neg h2]; exact ⟨_, _, rfl⟩
  · rw [if_neg h]; exact ⟨_, _, rfl⟩
theorem e6_eq (k : Nat) (hv : Int) (mr : Int) (n : Int) (ar : List Int) (os : List Int) (m : List Int) : f6 k (((hv, ()), (mr, ()), (n, ()), (ar, ()), (os, ()), (m, ()), ()), ()) = (f18 k ((), ())).bind fun v =>
  bif !v.1.1.1 then some (((false, ()), ()), ())
  else
    (f19 k (((hv, ()), (n, ()), (ar, ()), (m, ()), ()), ())).bind fun v_1 =>
      (f20 k (((hv, ()), (mr, ()), ()), ())).bind fun v_2 =>
        (f19 k (((v_2.1.1.1, ()), (n, ()), (ar, ()), (m, ()), ()), ())).bind fun v_3 =>
          (f21 k (((n, ()), ()), ())).bind fun v_4 =>
            bif v_4.1.1.1 != (0 : Int) then
              bif
                  IntKind.i64.wrap
                      (↑(BitVec.ofInt IntKind.i64.bits hv &&& BitVec.ofInt IntKind.i64.bits v_4.1.1.1).toNat : Int) ==
                    (0 : Int) then
                bif v_1.1.2.1.1 != (-2 : Int) then
                  bif v_1.1.2.1.1 != (-1 : Int) then some (((false, ()), ()), ())
                  else
                    bif v_1.1.1.1.1 != (0 : Int) then some (((false, ()), ()), ())
                    else
                      bif (↑(List.length v_1.1.1.1.2.2.2.2.2.2.2) : Int) != (0 : Int) then some (((false, ()), ()), ())
                      else
                        bif (↑os.length : Int) == (↑ar.length : Int) then
                          (f19 k (((hv, ()), (n, ()), (os, ()), ([], ()), ()), ())).bind fun v =>
                            some (((v.1.2.1.1 == v_1.1.2.1.1, ()), ()), ())
                        else some (((true, ()), ()), ())
                else
                  bif v_1.1.1.1.1 != (0 : Int) then some (((false, ()), ()), ())
                  else
                    bif (↑(List.length v_1.1.1.1.2.2.2.2.2.2.2) : Int) != (0 : Int) then some (((false, ()), ()), ())
                    else
                      bif (↑os.length : Int) == (↑ar.length : Int) then
                        (f19 k (((hv, ()), (n, ()), (os, ()), ([], ()), ()), ())).bind fun v =>
                          some (((v.1.2.1.1 == v_1.1.2.1.1, ()), ()), ())
                      else some (((true, ()), ()), ())
              else
                bif v_1.1.2.1.1 == (-2 : Int) then some (((false, ()), ()), ())
                else
                  bif v_1.1.2.1.1 == v_3.1.2.1.1 then
                    bif v_1.1.1.1.1 == v_3.1.1.1.1 then
                      bif v_1.1.1.1.2.1 == v_3.1.1.1.2.1 then
                        bif v_1.1.1.1.2.2.1 == v_3.1.1.1.2.2.1 then
                          bif v_1.1.1.1.2.2.2.1 == v_3.1.1.1.2.2.2.1 then
                            bif v_1.1.1.1.2.2.2.2.1 == v_3.1.1.1.2.2.2.2.1 then
                              bif v_1.1.1.1.2.2.2.2.2.1 == v_3.1.1.1.2.2.2.2.2.1 then
                                bif
                                    v_1.1.1.1.2.2.2.2.2.2.1.1 == v_3.1.1.1.2.2.2.2.2.2.1.1 &&
                                      (v_1.1.1.1.2.2.2.2.2.2.1.2.1 == v_3.1.1.1.2.2.2.2.2.2.1.2.1 &&
                                        (v_1.1.1.1.2.2.2.2.2.2.1.2.2 == v_3.1.1.1.2.2.2.2.2.2.1.2.2 && true)) then
                                  (f22 k (((v_1.1.1.1.2.2.2.2.2.2.2, ()), (v_3.1.1.1.2.2.2.2.2.2.2, ()), ()), ())).bind
                                    fun v => some (((v.1.1.1, ()), ()), ())
                                else some (((false, ()), ()), ())
                              else some (((false, ()), ()), ())
                            else some (((false, ()), ()), ())
                          else some (((false, ()), ()), ())
                        else some (((false, ()), ()), ())
                      else some (((false, ()), ()), ())
                    else some (((false, ()), ()), ())
                  else some (((false, ()), ()), ())
            else
              bif v_1.1.2.1.1 == (-2 : Int) then some (((false, ()), ()), ())
              else
                bif v_1.1.2.1.1 == v_3.1.2.1.1 then
                  bif v_1.1.1.1.1 == v_3.1.1.1.1 then
                    bif v_1.1.1.1.2.1 == v_3.1.1.1.2.1 then
                      bif v_1.1.1.1.2.2.1 == v_3.1.1.1.2.2.1 then
                        bif v_1.1.1.1.2.2.2.1 == v_3.1.1.1.2.2.2.1 then
                          bif v_1.1.1.1.2.2.2.2.1 == v_3.1.1.1.2.2.2.2.1 then
                            bif v_1.1.1.1.2.2.2.2.2.1 == v_3.1.1.1.2.2.2.2.2.1 then
                              bif
                                  v_1.1.1.1.2.2.2.2.2.2.1.1 == v_3.1.1.1.2.2.2.2.2.2.1.1 &&
                                    (v_1.1.1.1.2.2.2.2.2.2.1.2.1 == v_3.1.1.1.2.2.2.2.2.2.1.2.1 &&
                                      (v_1.1.1.1.2.2.2.2.2.2.1.2.2 == v_3.1.1.1.2.2.2.2.2.2.1.2.2 && true)) then
                                (f22 k (((v_1.1.1.1.2.2.2.2.2.2.2, ()), (v_3.1.1.1.2.2.2.2.2.2.2, ()), ()), ())).bind
                                  fun v => some (((v.1.1.1, ()), ()), ())
                              else some (((false, ()), ()), ())
                            else some (((false, ()), ()), ())
                          else some (((false, ()), ()), ())
                        else some (((false, ()), ()), ())
                      else some (((false, ()), ()), ())
                    else some (((false, ()), ()), ())
                  else some (((false, ()), ()), ())
                else some (((false, ()), ()), ()) := by kernel_rfl
theorem capsKeeps (hv mr n : Int) (ar os m : List Int) (h1 : ar.length * 8 ≤ 140737488351232) (h2 : os.length * 8 ≤ 140737488351232) (hm : m.length * 1 ≤ 140737488351232) : f6 (m.length + 100 + 20) (((hv, ()), (mr, ()), (n, ()), (ar, ()), (os, ()), (m, ()), ()), ()) = some (((true, ()), ()), ()) := by
  have hal := alive (m.length + 100)
  generalize hK : m.length + 100 + 20 = K at *
  have hgr : f20 K (((hv, ()), (mr, ()), ()), ()) = some (((grant hv mr, ()), ()), ()) := by kernel_rfl
  rw [e6_eq, hal, Option.bind_some]
  simp only [Bool.not_true, cond_false]
  rw [hgr, needs_ok]
  have hand : IntKind.i64.wrap ((BitVec.ofInt IntKind.i64.bits hv &&& BitVec.ofInt IntKind.i64.bits (need n)).toNat : Int) = and64 hv (need n) := rfl
  by_cases hA : need n ≠ 0 ∧ and64 hv (need n) = 0
  · obtain ⟨hA1, hA2⟩ := hA
    have hne : and64 hv (need n) ≠ need n := by rw [hA2]; exact fun h => hA1 h.symm
    obtain ⟨c3, e3, h3⟩ := ask_tot (k := K) (hv := grant hv mr) (n := n) (ar := ar) (m := m) (by omega) (by omega)
    have hb1 : (need n != 0) = true := by simpa using hA1
    have hE : ∀ (l : List Int) (mm : List Int), f19 K (((hv, ()), (n, ()), (l, ()), (mm, ()), ()), ()) = if 0 ≤ n ∧ n < 12 ∧ cnt n = (l.length : Int) then E2 else E1 := fun l mm => by
      rw [ask_ok]
      by_cases g : 0 ≤ n ∧ n < 12
      · rw [if_pos g]
        by_cases g2 : cnt n = (l.length : Int)
        · rw [if_pos g2, if_neg hne, if_pos ⟨g.1, g.2, g2⟩]
        · rw [if_neg g2, if_neg (fun hh => g2 hh.2.2)]
      · rw [if_neg g, if_neg (fun hh => g ⟨hh.1, hh.2.1⟩)]
    rw [hE ar m, hE os []]
    by_cases g : 0 ≤ n ∧ n < 12 ∧ cnt n = (ar.length : Int)
    · rw [if_pos g]
      simp only [Option.bind_some, h3, hand, hA2, hb1, beq_self_eq_true, cond_true]
      by_cases gl : os.length = ar.length
      · have gl' : ((os.length : Int) == (ar.length : Int)) = true := by simp [gl]
        rw [if_pos (by rw [gl]; exact g)]
        simp [gl']
      · have gl' : ((os.length : Int) == (ar.length : Int)) = false := by simp; omega
        simp [gl']
    · rw [if_neg g]
      simp only [Option.bind_some, h3, hand, hA2, hb1, beq_self_eq_true, cond_true]
      by_cases gl : os.length = ar.length
      · have gl' : ((os.length : Int) == (ar.length : Int)) = true := by simp [gl]
        rw [if_neg (by rw [gl]; exact g)]
        simp [gl']
      · have gl' : ((os.length : Int) == (ar.length : Int)) = false := by simp; omega
        simp [gl']
  · have hd : and64 hv (need n) = need n := by
      rcases need_cases n with h0 | h0
      · rw [h0]; exact and_zero _
      · rcases and_cases hv h0 with h | h
        · exact absurd ⟨by omega, h⟩ hA
        · exact h
    have hd2 := grant_ok hv mr (need_cases n) hd
    have hR : ∃ (c : CT) (e : Int), f19 K (((hv, ()), (n, ()), (ar, ()), (m, ()), ()), ()) = some (((c, ()), (e, ()), ()), ()) ∧ f19 K (((grant hv mr, ()), (n, ()), (ar, ()), (m, ()), ()), ()) = some (((c, ()), (e, ()), ()), ()) ∧ e ≠ -2 ∧ c.2.2.2.2.2.2.2.length ≤ m.length := by
      rw [ask_ok, ask_ok]
      by_cases g : 0 ≤ n ∧ n < 12
      · rw [if_pos g, if_pos g]
        by_cases g2 : cnt n = (ar.length : Int)
        · rw [if_pos g2, if_pos g2, if_pos hd, if_pos hd2]
          obtain ⟨c, e, k1, k2, k3⟩ := inner_ok (k := K) (m := m) (by omega) (by omega) g g2
          exact ⟨c, e, k1, k1, k2, k3⟩
        · rw [if_neg g2, if_neg g2]
          exact ⟨_, _, rfl, rfl, by decide, Nat.zero_le _⟩
      · rw [if_neg g, if_neg g]
        exact ⟨_, _, rfl, rfl, by decide, Nat.zero_le _⟩
    obtain ⟨c, e, k1, k2, k3, k4⟩ := hR
    rw [k1, Option.bind_some, Option.bind_some]
    simp only []
    rw [k2, Option.bind_some, Option.bind_some]
    have ke : (e == -2) = false := by simpa using k3
    have hs := same_ok c.2.2.2.2.2.2.2 K (by omega) (by omega)
    simp only [hand, ke, cond_false, beq_self_eq_true, cond_true, Bool.and_self, hs, Option.bind_some]
    by_cases h0 : need n = 0
    · simp [h0]
    · have hb : (need n != 0) = true := by simpa using h0
      have hc : (and64 hv (need n) == 0) = false := by
        rw [hd]; simpa using h0
      simp [hb, hc]
theorem law6 (k : Nat) : ∀ e ∈ [Fm.entry Try.prog F18 18 (f18 k), Fm.entry Try.prog F19 19 (f19 k), Fm.entry Try.prog F20 20 (f20 k), Fm.entry Try.prog F21 21 (f21 k), Fm.entry Try.prog F22 22 (f22 k)], EGood Try.prog e := (goods_cons (g18 k) (goods_cons (g19 k) (goods_cons (g20 k) (goods_cons (g21 k) (goods_cons (g22 k) goods_nil)))))
end
end Go.Proofs.Ytopnjcclbepdoaa.Caps
