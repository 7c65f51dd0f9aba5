import Derived.Test.YthllpilgfipkpaaRG7
import Derived.Test.YthllpilgfipkpaaRK
namespace Go.Proofs.Ythllpilgfipkpaa.Ring
open Go Go.RowKit Go.Proofs Go.Proofs.Ythllpilgfipkpaa.X
set_option linter.unusedVariables false
set_option linter.unusedSimpArgs false
noncomputable section
/-! Shrunk, a ring has the newest of its things -/
def e7_0 (k : Nat) (xs : List Int) (a : Int) (c : Int) (g : ((List Int × PUnit) ×
    (Int × PUnit) × (Int × PUnit) × (PUnit × PUnit) × (List Int × PUnit) × (Int × PUnit) × (Int × PUnit) × PUnit) ×
  (PUnit × Int × Int × Int × PUnit) × List Int × PUnit) (L : ((List Int × PUnit) ×
      (Int × PUnit) × (Int × PUnit) × (PUnit × PUnit) × (List Int × PUnit) × (Int × PUnit) × (Int × PUnit) × PUnit) ×
    (PUnit × Int × Int × Int × PUnit) × List Int × PUnit →
  Option (((Bool × PUnit) × PUnit) × PUnit)) : Option (((Bool × PUnit) × PUnit) × PUnit) := bif decide (g.1.2.2.2.2.2.2.1.1 < g.1.2.2.2.2.2.1.1) then
  bif decide ((0 : Int) ≤ g.1.2.2.2.2.2.2.1.1 ∧ g.1.2.2.2.2.2.2.1.1 < (↑g.1.2.2.2.2.1.1.length : Int)) then
    (f26 k
          ((((), ()), (gt (Sh.int IntKind.i64) g.1.2.2.2.2.1.1 g.1.2.2.2.2.2.2.1.1.toNat, ()), ()),
            ((), g.2.1.2.1, g.2.1.2.2.1, g.2.1.2.2.2.1, ()), g.2.2.1, ())).bind
      fun v =>
      L
        (((g.1.1.1, ()), (g.1.2.1.1, ()), (g.1.2.2.1.1, ()), ((), ()), (g.1.2.2.2.2.1.1, ()), (g.1.2.2.2.2.2.1.1, ()),
            (IntKind.i64.wrap (g.1.2.2.2.2.2.2.1.1 + (1 : Int)), ()), ()),
          ((), v.2.1.2.1, v.2.1.2.2.1, v.2.1.2.2.2.1, ()), v.2.2.1, ())
  else none
else
  (f35 k ((((), ()), (g.1.2.1.1, ()), ()), ((), g.2.1.2.1, g.2.1.2.2.1, g.2.1.2.2.2.1, ()), g.2.2.1, ())).bind fun v =>
    (f30 k ((((), ()), ()), ((), v.2.1.2.1, v.2.1.2.2.1, v.2.1.2.2.2.1, ()), v.2.2.2.1, ())).bind fun v_1 =>
      bif
          decide
            ((0 : Int) ≤
                IntKind.i64.wrap
                  ((↑g.1.1.1.length : Int) -
                    imin (imin (imax g.1.2.1.1 (0 : Int)) (1000 : Int)) (↑g.1.1.1.length : Int)) ∧
              IntKind.i64.wrap
                    ((↑g.1.1.1.length : Int) -
                      imin (imin (imax g.1.2.1.1 (0 : Int)) (1000 : Int)) (↑g.1.1.1.length : Int)) ≤
                  (↑g.1.1.1.length : Int) ∧
                (↑g.1.1.1.length : Int) ≤ (↑g.1.1.1.length : Int) ∧
                  (↑g.1.1.1.length : Int) ≤ (↑g.1.1.1.length : Int)) then
        (f37 k
              (((v_1.2.1, ()),
                  (List.drop
                      (IntKind.i64.wrap
                          ((↑g.1.1.1.length : Int) -
                            imin (imin (imax g.1.2.1.1 (0 : Int)) (1000 : Int)) (↑g.1.1.1.length : Int))).toNat
                      (List.take (↑g.1.1.1.length : Int).toNat g.1.1.1),
                    ()),
                  ()),
                ())).bind
          fun v_2 =>
          bif !v_2.1.1.1 then some (((false, ()), ()), ())
          else
            (f29 k ((((), ()), ()), ((), v.2.1.2.1, v.2.1.2.2.1, v.2.1.2.2.2.1, ()), v.2.2.2.1, ())).bind fun v_3 =>
              bif
                  v_3.1.1.1 !=
                    IntKind.i64.wrap
                      ((↑g.1.1.1.length : Int) -
                        imin (imin (imax g.1.2.1.1 (0 : Int)) (1000 : Int)) (↑g.1.1.1.length : Int)) then
                some (((false, ()), ()), ())
              else
                (f35 k
                      ((((), ()), (g.1.2.2.1.1, ()), ()), ((), v.2.1.2.1, v.2.1.2.2.1, v.2.1.2.2.2.1, ()), v.2.2.2.1,
                        ())).bind
                  fun v_4 =>
                  (f28 k ((((), ()), ()), ((), v_4.2.1.2.1, v_4.2.1.2.2.1, v_4.2.1.2.2.2.1, ()), v_4.2.2.2.1, ())).bind
                    fun v_5 =>
                    bif
                        v_5.1.1.1 !=
                          imin (imin (imax g.1.2.2.1.1 (0 : Int)) (1000 : Int))
                            (imin (imin (imax g.1.2.1.1 (0 : Int)) (1000 : Int)) (↑g.1.1.1.length : Int)) then
                      some (((false, ()), ()), ())
                    else
                      (f29 k
                            ((((), ()), ()), ((), v_4.2.1.2.1, v_4.2.1.2.2.1, v_4.2.1.2.2.2.1, ()), v_4.2.2.2.1,
                              ())).bind
                        fun v_6 =>
                        bif
                            v_6.1.1.1 !=
                              IntKind.i64.wrap
                                ((↑g.1.1.1.length : Int) -
                                  imin (imin (imax g.1.2.2.1.1 (0 : Int)) (1000 : Int))
                                    (imin (imin (imax g.1.2.1.1 (0 : Int)) (1000 : Int)) (↑g.1.1.1.length : Int))) then
                          some (((false, ()), ()), ())
                        else
                          (f26 k
                                ((((), ()), ((5 : Int), ()), ()), ((), v_4.2.1.2.1, v_4.2.1.2.2.1, v_4.2.1.2.2.2.1, ()),
                                  v_4.2.2.2.1, ())).bind
                            fun v =>
                            some
                              (((v.1.2.1.1 ==
                                      (imin (imin (imax g.1.2.2.1.1 (0 : Int)) (1000 : Int))
                                          (imin (imin (imax g.1.2.1.1 (0 : Int)) (1000 : Int))
                                            (↑g.1.1.1.length : Int)) ==
                                        imin (imax g.1.2.2.1.1 (0 : Int)) (1000 : Int)),
                                    ()),
                                  ()),
                                ())
      else none
theorem e7_eq (k : Nat) (a : Int) (xs : List Int) (c : Int) : f7 k (((xs, ()), (a, ()), (c, ()), ()), ()) = (f25 k ((((1000 : Int), ()), ()), ())).bind fun v =>
  (f13 k ((), ())).bind fun v_1 =>
    bif !v_1.1.1.1 then some (((false, ()), ()), ())
    else
      bif decide ((↑xs.length : Int) > (1000 : Int)) then
        bif
            decide
              ((0 : Int) ≤ (0 : Int) ∧
                (0 : Int) ≤ (1000 : Int) ∧ (1000 : Int) ≤ (1000 : Int) ∧ (1000 : Int) ≤ (↑xs.length : Int)) then
          loopN (e7_0 k xs a c) k
            (((List.drop (Int.toNat (0 : Int)) (List.take (Int.toNat (1000 : Int)) xs), ()), (a, ()), (c, ()), ((), ()),
                (List.drop (Int.toNat (0 : Int)) (List.take (Int.toNat (1000 : Int)) xs), ()),
                ((↑(List.drop (Int.toNat (0 : Int)) (List.take (Int.toNat (1000 : Int)) xs)).length : Int), ()),
                ((0 : Int), ()), ()),
              ((), v.2.1.2.1, v.2.1.2.2.1, v.2.1.2.2.2.1, ()), v.2.2.1, ())
        else none
      else
        loopN (e7_0 k xs a c) k
          (((xs, ()), (a, ()), (c, ()), ((), ()), (xs, ()), ((↑xs.length : Int), ()), ((0 : Int), ()), ()),
            ((), v.2.1.2.1, v.2.1.2.2.1, v.2.1.2.2.2.1, ()), v.2.2.1, ()) := by kernel_rfl
theorem shrinks_in {K : Nat} {a c : Int} {xs ys : List Int} (hy : ys.length ≤ 1000) (hK : 1002 ≤ K) : ∀ (j i k fr : Nat) (C rs : List Int), C = ys.take i → i + j = ys.length → j + 1 ≤ k → Has (s := .int .i64) 1000 C fr rs →
    loopN (e7_0 K xs a c) k (((ys, ()), (a, ()), (c, ()), ((), ()), (ys, ()), ((ys.length : Int), ()), ((i : Int), ()), ()), ((), (fr : Int), (C.length : Int), ((0 : Nat) : Int), ()), rs, ()) = some (((true, ()), ()), ()) := by
  intro j
  induction j with
  | zero =>
    intro i k fr C rs hC hi hk H
    obtain ⟨k, rfl⟩ : ∃ k', k = k' + 1 := ⟨k - 1, by omega⟩
    obtain rfl : C = ys := by rw [hC, List.take_of_length_le (by omega)]
    obtain ⟨ha1, ha2⟩ := bnd_ok a
    obtain ⟨hc1, hc2⟩ := bnd_ok c
    obtain ⟨fr1, rs1, hs1, H1⟩ := shrink_c (g := 0) (Nat.le_refl _) H (by omega) hK a
    have hl1 : (C.drop (C.length - (bnd a).toNat)).length = min C.length (bnd a).toNat := by simp; omega
    simp only [loopN_succ, e7_0, bnd_eq]
    have hm : imin (bnd a) (C.length : Int) = ((min C.length (bnd a).toNat : Nat) : Int) := by unfold imin; split <;> omega
    have hw : IntKind.i64.wrap ((C.length : Int) - imin (bnd a) (C.length : Int)) = ((C.length - (bnd a).toNat : Nat) : Int) := by
      rw [hm, wrapId (by omega) (by omega)]; omega
    rw [cneg (by omega), hs1, Option.bind_some]
    simp only []
    rw [all_c (e49 K) (e30 K) ha2 (by omega) H1 (by omega), Option.bind_some]
    simp only [hw, Int.toNat_natCast, List.take_length]
    rw [cpos (by omega)]
    rw [samei_ok _ K (by omega) (by omega), Option.bind_some]
    simp only [Bool.not_true, cond_false]
    rw [e29, Option.bind_some]
    obtain ⟨fr2, rs2, hs2, H2⟩ := shrink_c (g := 0 + (C.length - (bnd a).toNat)) ha2 H1 (by omega) hK c
    have hl2 : ((C.drop (C.length - (bnd a).toNat)).drop ((C.drop (C.length - (bnd a).toNat)).length - (bnd c).toNat)).length = min (min C.length (bnd a).toNat) (bnd c).toNat := by
      rw [List.length_drop, hl1]; omega
    have hm2 : imin (bnd c) (imin (bnd a) (C.length : Int)) = ((min (min C.length (bnd a).toNat) (bnd c).toNat : Nat) : Int) := by
      rw [hm]; unfold imin; split <;> omega
    obtain ⟨fr3, rs3, hp, H3⟩ := push_c (e49 K) (e26 K) (g := 0 + (C.length - (bnd a).toNat) + ((C.drop (C.length - (bnd a).toNat)).length - (bnd c).toNat)) hc2 H2 (by omega) (5 : Int)
    have e1 : (((0 + (C.length - (bnd a).toNat) : Nat) : Int) != ((C.length - (bnd a).toNat : Nat) : Int)) = false := by simp
    simp only [e1, cond_false]
    rw [hs2, Option.bind_some]
    simp only [hm2]
    rw [e28, Option.bind_some, e29, Option.bind_some]
    simp only []
    have e2 : ((((C.drop (C.length - (bnd a).toNat)).drop ((C.drop (C.length - (bnd a).toNat)).length - (bnd c).toNat)).length : Int) != ((min (min C.length (bnd a).toNat) (bnd c).toNat : Nat) : Int)) = false := by
      rw [hl2]; simp
    have hw2 : IntKind.i64.wrap ((C.length : Int) - ((min (min C.length (bnd a).toNat) (bnd c).toNat : Nat) : Int)) = ((0 + (C.length - (bnd a).toNat) + ((C.drop (C.length - (bnd a).toNat)).length - (bnd c).toNat) : Nat) : Int) := by
      rw [wrapId (by omega) (by omega), hl1]; omega
    simp only [e2, cond_false, hw2, bne_self_eq_false]
    rw [hp, Option.bind_some]
    simp only [hl2]
    by_cases h : (bnd c).toNat ≤ min (min C.length (bnd a).toNat) (bnd c).toNat
    · have : (((min (min C.length (bnd a).toNat) (bnd c).toNat : Nat) : Int) == bnd c) = true := by simp; omega
      rw [this, decide_eq_true h]; rfl
    · have : (((min (min C.length (bnd a).toNat) (bnd c).toNat : Nat) : Int) == bnd c) = false := by simp; omega
      rw [this, decide_eq_false h]; rfl
  | succ j ih =>
    intro i k fr C rs hC hi hk H
    obtain ⟨k, rfl⟩ : ∃ k', k = k' + 1 := ⟨k - 1, by omega⟩
    have hlt : i < ys.length := by omega
    have hEl : C.length = i := by rw [hC, List.length_take]; omega
    obtain ⟨fr', rs', hp, H'⟩ := push_c (e49 K) (e26 K) (g := 0) (Nat.le_refl _) H (by omega) (ys[i] : Int)
    have hd : (C ++ [ys[i]]).drop (C.length + 1 - 1000) = ys.take (i + 1) := by
      rw [show C.length + 1 - 1000 = 0 by omega, List.drop_zero, hC, List.take_add_one, List.getElem?_eq_getElem hlt]
      rfl
    rw [hd, if_pos (by omega), if_pos (by omega)] at hp
    rw [hd] at H'
    simp only [loopN_succ, e7_0]
    rw [cpos (by omega), cpos (by omega), Int.toNat_natCast, gtI ys i hlt, hp, Option.bind_some, wrapId (n := (i : Int) + 1) (by omega) (by omega), show ((i : Int) + 1) = ((i + 1 : Nat) : Int) by omega]
    exact ih (i + 1) k fr' _ rs' rfl (by omega) (by omega) H'
theorem ringShrinks (xs : List Int) (a c : Int) (hl : xs.length * 8 ≤ 140737488351232) : f7 (1002 + 5) (((xs, ()), (a, ()), (c, ()), ()), ()) = some (((true, ()), ()), ()) := by
  obtain ⟨rs0, hnew, H0⟩ := new_c (e25 (1002 + 5)) (by omega) 1000
  rw [e7_eq, hnew, Option.bind_some, alive, Option.bind_some]
  simp only [Bool.not_true, cond_false]
  generalize hk : 1002 + 5 = K
  have hK : 1002 + 5 ≤ K := by omega
  clear hk hnew
  have hb : (bnd 1000).toNat = 1000 := by decide
  rw [hb] at H0
  by_cases h : (xs.length : Int) > 1000
  · rw [cpos h, cpos (by omega)]
    rw [Int.toNat_zero, List.drop_zero]
    have := shrinks_in (K := K) (a := a) (c := c) (xs := xs) (ys := xs.take (Int.toNat 1000)) (by rw [List.length_take]; omega) (by omega) (xs.take (Int.toNat 1000)).length 0 K 0 [] rs0 (by simp) (by omega) (by rw [List.length_take]; omega) H0
    exact this
  · rw [cneg h]
    have := shrinks_in (K := K) (a := a) (c := c) (xs := xs) (ys := xs) (by omega) (by omega) xs.length 0 K 0 [] rs0 (by simp) (by omega) (by omega) H0
    exact this
end
end Go.Proofs.Ythllpilgfipkpaa.Ring
