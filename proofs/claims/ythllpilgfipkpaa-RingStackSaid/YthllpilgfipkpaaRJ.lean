import Derived.Test.YthllpilgfipkpaaRG4
import Derived.Test.YthllpilgfipkpaaRH
namespace Go.Proofs.Ythllpilgfipkpaa.Ring
open Go Go.RowKit Go.Proofs Go.Proofs.Ythllpilgfipkpaa.X
set_option linter.unusedVariables false
set_option linter.unusedSimpArgs false
noncomputable section
/-! What is pushed is popped in the opposite order -/
def e4_0 (k : Nat) (a : Int) (xs : List Int) (g : ((List Int × PUnit) × (PUnit × PUnit) × (Int × PUnit) × PUnit) ×
  (PUnit × Int × Int × Int × PUnit) × List (List Int) × PUnit) (L : ((List Int × PUnit) × (PUnit × PUnit) × (Int × PUnit) × PUnit) ×
    (PUnit × Int × Int × Int × PUnit) × List (List Int) × PUnit →
  Option (((Bool × PUnit) × PUnit) × PUnit)) : Option (((Bool × PUnit) × PUnit) × PUnit) := bif decide (g.1.2.2.1.1 ≥ (0 : Int)) then
  (f21 k ((((), ()), ()), ((), g.2.1.2.1, g.2.1.2.2.1, g.2.1.2.2.2.1, ()), g.2.2.1, ())).bind fun v =>
    bif !v.1.2.1.1 then some (((false, ()), ()), ())
    else
      bif (↑(List.length v.1.1.1) : Int) != (2 : Int) then some (((false, ()), ()), ())
      else
        bif decide ((0 : Int) ≤ (0 : Int) ∧ (0 : Int) < (↑(List.length v.1.1.1) : Int)) then
          bif gt (Sh.int IntKind.i64) v.1.1.1 (Int.toNat (0 : Int)) != g.1.2.2.1.1 then some (((false, ()), ()), ())
          else
            bif decide ((0 : Int) ≤ (1 : Int) ∧ (1 : Int) < (↑(List.length v.1.1.1) : Int)) then
              bif decide ((0 : Int) ≤ g.1.2.2.1.1 ∧ g.1.2.2.1.1 < (↑g.1.1.1.length : Int)) then
                bif
                    gt (Sh.int IntKind.i64) v.1.1.1 (Int.toNat (1 : Int)) !=
                      gt (Sh.int IntKind.i64) g.1.1.1 g.1.2.2.1.1.toNat then
                  some (((false, ()), ()), ())
                else
                  (f22 k ((((), ()), ()), ((), v.2.1.2.1, v.2.1.2.2.1, v.2.1.2.2.2.1, ()), v.2.2.1, ())).bind fun v_1 =>
                    bif v_1.1.1.1 != g.1.2.2.1.1 then some (((false, ()), ()), ())
                    else
                      L
                        (((g.1.1.1, ()), ((), ()), (IntKind.i64.wrap (g.1.2.2.1.1 - (1 : Int)), ()), ()),
                          ((), v.2.1.2.1, v.2.1.2.2.1, v.2.1.2.2.2.1, ()), v.2.2.1, ())
              else none
            else none
        else none
else
  (f21 k ((((), ()), ()), ((), g.2.1.2.1, g.2.1.2.2.1, g.2.1.2.2.2.1, ()), g.2.2.1, ())).bind fun v =>
    bif !v.1.2.1.1 then
      (f23 k ((((), ()), ()), ((), v.2.1.2.1, v.2.1.2.2.1, v.2.1.2.2.2.1, ()), v.2.2.1, ())).bind fun v_1 =>
        bif v_1.1.1.1 == (0 : Int) then
          (f24 k ((((), ()), ()), ((), v.2.1.2.1, v.2.1.2.2.1, v.2.1.2.2.2.1, ()), v.2.2.1, ())).bind fun v =>
            some ((((↑(List.length v.2.1) : Int) == (0 : Int), ()), ()), ())
        else some (((false, ()), ()), ())
    else some (((false, ()), ()), ())
def e4_1 (k : Nat) (a : Int) (xs : List Int) (g : ((List Int × PUnit) × (PUnit × PUnit) × (List Int × PUnit) × (Int × PUnit) × (Int × PUnit) × PUnit) ×
  (PUnit × Int × Int × Int × PUnit) × List (List Int) × PUnit) (L : ((List Int × PUnit) × (PUnit × PUnit) × (List Int × PUnit) × (Int × PUnit) × (Int × PUnit) × PUnit) ×
    (PUnit × Int × Int × Int × PUnit) × List (List Int) × PUnit →
  Option (((Bool × PUnit) × PUnit) × PUnit)) : Option (((Bool × PUnit) × PUnit) × PUnit) := bif decide (g.1.2.2.2.2.1.1 < g.1.2.2.2.1.1) then
  bif decide ((0 : Int) ≤ g.1.2.2.2.2.1.1 ∧ g.1.2.2.2.2.1.1 < (↑g.1.2.2.1.1.length : Int)) then
    (f20 k
          ((((), ()), ([g.1.2.2.2.2.1.1, gt (Sh.int IntKind.i64) g.1.2.2.1.1 g.1.2.2.2.2.1.1.toNat], ()), ()),
            ((), g.2.1.2.1, g.2.1.2.2.1, g.2.1.2.2.2.1, ()), g.2.2.1, ())).bind
      fun v =>
      L
        (((g.1.1.1, ()), ((), ()), (g.1.2.2.1.1, ()), (g.1.2.2.2.1.1, ()),
            (IntKind.i64.wrap (g.1.2.2.2.2.1.1 + (1 : Int)), ()), ()),
          ((), v.2.1.2.1, v.2.1.2.2.1, v.2.1.2.2.2.1, ()), v.2.2.1, ())
  else none
else
  loopN (e4_0 k a xs) k
    (((g.1.1.1, ()), ((), ()), (IntKind.i64.wrap ((↑g.1.1.1.length : Int) - (1 : Int)), ()), ()),
      ((), g.2.1.2.1, g.2.1.2.2.1, g.2.1.2.2.2.1, ()), g.2.2.1, ())
theorem e4_eq (k : Nat) (a : Int) (xs : List Int) : f4 k (((a, ()), (xs, ()), ()), ()) = (f19 k (((a, ()), ()), ())).bind fun v =>
  (f13 k ((), ())).bind fun v_1 =>
    bif !v_1.1.1.1 then some (((false, ()), ()), ())
    else
      bif decide ((↑xs.length : Int) > imin (imax a (0 : Int)) (1000 : Int)) then
        bif
            decide
              ((0 : Int) ≤ (0 : Int) ∧
                (0 : Int) ≤ imin (imax a (0 : Int)) (1000 : Int) ∧
                  imin (imax a (0 : Int)) (1000 : Int) ≤ imin (imax a (0 : Int)) (1000 : Int) ∧
                    imin (imax a (0 : Int)) (1000 : Int) ≤ (↑xs.length : Int)) then
          loopN (e4_1 k a xs) k
            (((List.drop (Int.toNat (0 : Int)) (List.take (Int.toNat (imin (imax a (0 : Int)) (1000 : Int))) xs), ()),
                ((), ()),
                (List.drop (Int.toNat (0 : Int)) (List.take (Int.toNat (imin (imax a (0 : Int)) (1000 : Int))) xs), ()),
                ((↑(List.drop (Int.toNat (0 : Int))
                          (List.take (Int.toNat (imin (imax a (0 : Int)) (1000 : Int))) xs)).length :
                    Int),
                  ()),
                ((0 : Int), ()), ()),
              ((), v.2.1.2.1, v.2.1.2.2.1, v.2.1.2.2.2.1, ()), v.2.2.1, ())
        else none
      else
        loopN (e4_1 k a xs) k
          (((xs, ()), ((), ()), (xs, ()), ((↑xs.length : Int), ()), ((0 : Int), ()), ()),
            ((), v.2.1.2.1, v.2.1.2.2.1, v.2.1.2.2.2.1, ()), v.2.2.1, ()) := by kernel_rfl
theorem e47 (k : Nat) : PlaceEq ints (f47 k) := fun xs a b c i => by kernel_rfl
theorem e19 (k : Nat) : NewEq ints ([] : List Int) 24 (f19 k) k := fun a => by kernel_rfl
theorem e20 (k : Nat) : PushEq ints ([] : List Int) (f47 k) (f20 k) := fun xs a b c i => by kernel_rfl
theorem e48 (k : Nat) : AtEq ints ([] : List Int) (f47 k) (f48 k) := fun xs a b c i => by kernel_rfl
theorem e21 (k : Nat) : PopEq ints ([] : List Int) (f47 k) (f48 k) (f21 k) := fun xs a b c => by kernel_rfl
theorem e22 (k : Nat) (xs : List (List Int)) (a b c : Int) : f22 k ((((), ()), ()), mk (s := ints) xs a b c) = some (((b, ()), ()), ()) := by kernel_rfl
theorem e23 (k : Nat) (xs : List (List Int)) (a b c : Int) : f23 k ((((), ()), ()), mk (s := ints) xs a b c) = some (((c, ()), ()), ()) := by kernel_rfl
theorem e24 (k : Nat) : AllEq ints 24 k (f47 k) (f24 k) := fun xs a b c => by kernel_rfl
/-- what is pushed -/
def prs (ys : List Int) : List (List Int) := (List.range ys.length).map fun t : Nat => [(t : Int), ys.getD t 0]
theorem prs_len (ys : List Int) : (prs ys).length = ys.length := by simp [prs]
theorem prs_get (ys : List Int) (t : Nat) (h : t < ys.length) : (prs ys)[t]? = some [(t : Int), ys.getD t 0] := by
  simp [prs, h]
theorem stack_out {K n fr : Nat} {a : Int} {xs ys : List Int} (hn : n ≤ 1000) (hy : ys.length ≤ 1000) (hK : 1001 ≤ K) : ∀ (i k : Nat) (C rs : List (List Int)), C = (prs ys).take i → i ≤ ys.length → i + 1 ≤ k → Has (s := ints) n C fr rs →
    loopN (e4_0 K a xs) k (((ys, ()), ((), ()), ((i : Int) - 1, ()), ()), ((), (fr : Int), (C.length : Int), ((0 : Nat) : Int), ()), rs, ()) = some (((true, ()), ()), ()) := by
  intro i
  induction i with
  | zero =>
    intro k C rs hC hi hk H
    obtain ⟨k, rfl⟩ : ∃ k', k = k' + 1 := ⟨k - 1, by omega⟩
    obtain rfl : C = [] := by simpa using hC
    obtain ⟨rs', hp, H'⟩ := pop_c (e47 K) (e48 K) (e21 K) (g := 0) hn H
    simp only [loopN_succ, e4_0]
    rw [cneg (by omega), hp, Option.bind_some]
    have d1 : decide (0 < ([] : List (List Int)).length) = false := rfl
    simp only [d1, Bool.not_false, cond_true]
    rw [e23, Option.bind_some, all_c (e47 K) (e24 K) hn (by omega) H' (by omega)]
    rfl
  | succ i ih =>
    intro k C rs hC hi hk H
    obtain ⟨k, rfl⟩ : ∃ k', k = k' + 1 := ⟨k - 1, by omega⟩
    have hlen : C.length = i + 1 := by rw [hC, List.length_take, prs_len]; omega
    obtain ⟨rs', hp, H'⟩ := pop_c (e47 K) (e48 K) (e21 K) (g := 0) hn H
    have hg : gt ints C (C.length - 1) = [(i : Int), ys.getD i 0] := by
      rw [hlen, hC]
      simp only [gt, List.getD_eq_getElem?_getD, Nat.add_sub_cancel]
      rw [List.getElem?_take_of_lt (by omega), prs_get ys i (by omega)]
      rfl
    have hd : C.dropLast = (prs ys).take i := by
      rw [List.dropLast_eq_take, hlen, hC, List.take_take]; congr 1; omega
    have hdl : (C.dropLast.length : Int) = (i : Int) := by rw [List.length_dropLast]; omega
    have hih := ih k C.dropLast rs' hd (by omega) (by omega) H'
    rw [hdl] at hih
    have d1 : decide (0 < C.length) = true := decide_eq_true (by omega)
    have hy0 : gt (.int .i64) ys i = ys.getD i 0 := rfl
    simp only [loopN_succ, e4_0]
    rw [show (((i + 1 : Nat) : Int) - 1) = (i : Int) by omega, cpos (by omega), hp, Option.bind_some, d1, if_pos (by omega), hg]
    simp only [Bool.not_true, cond_false]
    have d2 : ((([(i : Int), ys.getD i 0] : List Int).length : Int) != 2) = false := rfl
    have d3 : decide (0 ≤ (0 : Int) ∧ (0 : Int) < (([(i : Int), ys.getD i 0] : List Int).length : Int)) = true := rfl
    have d4 : decide (0 ≤ (1 : Int) ∧ (1 : Int) < (([(i : Int), ys.getD i 0] : List Int).length : Int)) = true := rfl
    have d5 : decide (0 ≤ (i : Int) ∧ (i : Int) < (ys.length : Int)) = true := decide_eq_true (by omega)
    have g0 : gt (.int .i64) [(i : Int), ys.getD i 0] (Int.toNat 0) = (i : Int) := rfl
    have g1 : gt (.int .i64) [(i : Int), ys.getD i 0] (Int.toNat 1) = ys.getD i 0 := rfl
    simp only [d2, d3, d4, d5, cond_true, cond_false, g0, g1, Int.toNat_natCast, hy0, bne_self_eq_false]
    rw [hdl, e22, Option.bind_some]
    simp only [bne_self_eq_false, cond_false]
    rw [wrapId (by omega) (by omega)]
    exact hih
theorem stack_in {K n fr : Nat} {a : Int} {xs ys : List Int} (hn : n ≤ 1000) (hy : ys.length ≤ n) (hK : 1001 ≤ K) : ∀ (j i k : Nat) (C rs : List (List Int)), C = (prs ys).take i → i + j = ys.length → j + 1 ≤ k → Has (s := ints) n C fr rs →
    loopN (e4_1 K a xs) k (((ys, ()), ((), ()), (ys, ()), ((ys.length : Int), ()), ((i : Int), ()), ()), ((), (fr : Int), (C.length : Int), ((0 : Nat) : Int), ()), rs, ()) = some (((true, ()), ()), ()) := by
  intro j
  induction j generalizing fr with
  | zero =>
    intro i k C rs hC hi hk H
    obtain ⟨k, rfl⟩ : ∃ k', k = k' + 1 := ⟨k - 1, by omega⟩
    obtain rfl : i = ys.length := by omega
    simp only [loopN_succ, e4_1]
    rw [cneg (by omega), wrapId (by omega) (by omega)]
    exact stack_out hn (by omega) hK ys.length K C rs hC (by omega) (by omega) H
  | succ j ih =>
    intro i k C rs hC hi hk H
    obtain ⟨k, rfl⟩ : ∃ k', k = k' + 1 := ⟨k - 1, by omega⟩
    have hlen : C.length = i := by rw [hC, List.length_take, prs_len]; omega
    have hy0 : gt (.int .i64) ys i = ys.getD i 0 := rfl
    obtain ⟨fr', rs', hp, H'⟩ := push_c (e47 K) (e20 K) (g := 0) hn H (by omega) ([(i : Int), ys.getD i 0] : List Int)
    have hd : (C ++ [[(i : Int), ys.getD i 0]]).drop (C.length + 1 - n) = (prs ys).take (i + 1) := by
      rw [show C.length + 1 - n = 0 by omega, List.drop_zero, hC, List.take_add_one, prs_get ys i (by omega)]
      rfl
    rw [hd, if_pos (by omega), if_pos (by omega)] at hp
    rw [hd] at H'
    simp only [loopN_succ, e4_1]
    rw [cpos (by omega), cpos (by omega), Int.toNat_natCast, hy0, hp, Option.bind_some, wrapId (by omega) (by omega), show ((i : Int) + 1) = ((i + 1 : Nat) : Int) by omega]
    exact ih (i + 1) k _ rs' rfl (by omega) (by omega) H'
theorem ringStack (a : Int) (xs : List Int) (hl : xs.length * 8 ≤ 140737488351232) : f4 (1001 + 5) (((a, ()), (xs, ()), ()), ()) = some (((true, ()), ()), ()) := by
  obtain ⟨hb1, hb2⟩ := bnd_ok a
  obtain ⟨rs0, hnew, H0⟩ := new_c (e19 (1001 + 5)) (by omega) a
  rw [e4_eq, hnew, Option.bind_some, alive, Option.bind_some]
  simp only [Bool.not_true, cond_false]
  generalize hk : 1001 + 5 = K
  have hK : 1001 + 5 ≤ K := by omega
  clear hk hnew
  by_cases h : (xs.length : Int) > bnd a
  · rw [cpos (by rw [bnd_eq]; exact h), cpos (by rw [bnd_eq]; omega)]
    rw [Int.toNat_zero, List.drop_zero]
    have := stack_in (K := K) (a := a) (xs := xs) (ys := xs.take (bnd a).toNat) (fr := 0) hb2 (by simp; omega) (by omega) (xs.take (bnd a).toNat).length 0 K [] rs0 (by simp) (by omega) (by rw [List.length_take]; omega) H0
    exact this
  · rw [cneg (by rw [bnd_eq]; exact h)]
    have := stack_in (K := K) (a := a) (xs := xs) (ys := xs) (fr := 0) hb2 (by omega) (by omega) xs.length 0 K [] rs0 (by simp) (by omega) (by omega) H0
    exact this
end
end Go.Proofs.Ythllpilgfipkpaa.Ring
