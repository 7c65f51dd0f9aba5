import Derived.Test.YthllpilgfipkpaaRB
namespace Go.Proofs.Ythllpilgfipkpaa.Ring
open Go Go.RowKit Go.Proofs Go.Proofs.Ythllpilgfipkpaa.X
set_option linter.unusedVariables false
set_option linter.unusedSimpArgs false
noncomputable section
/-! What is pushed last stands in the ring -/
def bnd (a : Int) : Int := if 1000 < (if 0 > a then 0 else a) then 1000 else if 0 > a then 0 else a
theorem bnd_ok (a : Int) : bnd a = ((bnd a).toNat : Int) ∧ (bnd a).toNat ≤ 1000 := by
  unfold bnd; split <;> (try split) <;> omega
theorem e45 (k : Nat) (a : Int) : f45 k (((a, ()), ()), ()) = some (((bnd a, ()), ()), ()) := by kernel_rfl
def NewEq (s : Sh) (z : s.T) (by_ : Nat) (h : ((Int × Unit) × Unit) × Unit → Option (((Unit × Unit) × Unit) × RT s)) (k : Nat) : Prop :=
  ∀ a : Int, h (((a, ()), ()), ()) = (f45 k (((a, ()), ()), ())).bind fun val => bif decide (0 ≤ val.1.1.1 ∧ val.1.1.1 ≤ val.1.1.1) && ((val.1.1.1.toNat * by_).ble 140737488355328 && val.1.1.1.toNat.ble 1152921504606846976) then
    some ((((), ()), ()), mk (List.replicate val.1.1.1.toNat z) 0 0 0) else none
theorem e12 (k : Nat) : NewEq .str ByteArray.empty 16 (f12 k) k := fun a => by kernel_rfl
theorem e25 (k : Nat) : NewEq (.int .i64) (0 : Int) 8 (f25 k) k := fun a => by kernel_rfl
theorem new_ok {s : Sh} {z : s.T} {by_ k : Nat} {h} (hh : NewEq s z by_ h k) (hby : by_ ≤ 1000) (a : Int) : h (((a, ()), ()), ()) = some ((((), ()), ()), mk (List.replicate (bnd a).toNat z) 0 0 0) := by
  obtain ⟨h1, h2⟩ := bnd_ok a
  rw [hh, e45]
  have e1 : decide (0 ≤ bnd a ∧ bnd a ≤ bnd a) = true := by simp; omega
  have e2 : ((bnd a).toNat * by_).ble 140737488355328 = true := by
    rw [Nat.ble_eq]
    have : (bnd a).toNat * by_ ≤ 1000 * 1000 := Nat.mul_le_mul h2 hby
    omega
  have e3 : (bnd a).toNat.ble 1152921504606846976 = true := by rw [Nat.ble_eq]; omega
  simp only [Option.bind_some, e1, e2, e3, Bool.and_self, cond_true]
theorem e15 (k : Nat) (xs : List ByteArray) (a b c : Int) : f15 k ((((), ()), ()), mk (s := .str) xs a b c) = some (((b, ()), ()), ()) := by kernel_rfl
theorem e16 (k : Nat) (xs : List ByteArray) (a b c : Int) : f16 k ((((), ()), ()), mk (s := .str) xs a b c) = some (((c, ()), ()), ()) := by kernel_rfl
theorem alive (k : Nat) : f13 (k + 5) ((), ()) = some (((true, ()), ()), ()) := by kernel_rfl
abbrev TT : Type := ((List ByteArray × Unit) × (List ByteArray × Unit) × (Int × Unit) × Unit) × Unit
def sameBody (g : TT) (L : TT → Option (((Bool × Unit) × Unit) × Unit)) : Option (((Bool × Unit) × Unit) × Unit) :=
  bif decide (g.1.2.2.1.1 < g.1.1.1.length) then
    bif decide (0 ≤ g.1.2.2.1.1 ∧ g.1.2.2.1.1 < g.1.1.1.length) then
      bif decide (0 ≤ g.1.2.2.1.1 ∧ g.1.2.2.1.1 < g.1.2.1.1.length) then
        bif !(ByteArray.toList (gt .str g.1.1.1 g.1.2.2.1.1.toNat) == ByteArray.toList (gt .str g.1.2.1.1 g.1.2.2.1.1.toNat)) then some (((false, ()), ()), ())
        else L (((g.1.1.1, ()), (g.1.2.1.1, ()), (IntKind.i64.wrap (g.1.2.2.1.1 + 1), ()), ()), ())
      else none
    else none
  else some (((true, ()), ()), ())
theorem e17 (k : Nat) (xs ys : List ByteArray) : f17 k (((xs, ()), (ys, ()), ()), ()) = bif (xs.length : Int) != ys.length then some (((false, ()), ()), ()) else loopN sameBody k (((xs, ()), (ys, ()), (0, ()), ()), ()) := by kernel_rfl
theorem same_ok (xs : List ByteArray) (k : Nat) (hl : xs.length < 4611686018427387904) (hk : xs.length + 1 ≤ k) : f17 k (((xs, ()), (xs, ()), ()), ()) = some (((true, ()), ()), ()) := by
  rw [e17]
  have e0 : ((xs.length : Int) != xs.length) = false := by simp
  simp only [e0, cond_false]
  have loop : ∀ (j k i : Nat), i + j = xs.length → j + 1 ≤ k → loopN sameBody k (((xs, ()), (xs, ()), ((i : Int), ()), ()), ()) = some (((true, ()), ()), ()) := by
    intro j
    induction j with
    | zero =>
      intro k i hi hk
      obtain ⟨k, rfl⟩ : ∃ k', k = k' + 1 := ⟨k - 1, by omega⟩
      have e1 : decide ((i : Int) < xs.length) = false := by simp; omega
      simp only [loopN_succ, sameBody, e1, cond_false]
    | succ j ih =>
      intro k i hi hk
      obtain ⟨k, rfl⟩ : ∃ k', k = k' + 1 := ⟨k - 1, by omega⟩
      have e1 : decide ((i : Int) < xs.length) = true := by simp; omega
      have e2 : decide (0 ≤ (i : Int) ∧ (i : Int) < xs.length) = true := by simp; omega
      simp only [loopN_succ, sameBody, e1, e2, cond_true, beq_self_eq_true, Bool.not_true, cond_false]
      rw [wrapId (by omega) (by omega), show ((i : Int) + 1) = ((i + 1 : Nat) : Int) by omega]
      exact ih k (i + 1) (by omega) (by omega)
  exact loop xs.length k 0 (by omega) hk
def nn (a : Int) (xs : List ByteArray) : Int := if (xs.length : Int) < bnd a then xs.length else bnd a
def lastEnd (k : Nat) (a : Int) (xs : List ByteArray) (r : RT .str) (gone : List ByteArray) : Option (((Bool × Unit) × Unit) × Unit) :=
  (f15 k ((((), ()), ()), r)).bind fun val => bif val.1.1.1 == nn a xs then
    (f16 k ((((), ()), ()), r)).bind fun val_2 => bif val_2.1.1.1 == (gone.length : Int) then
      bif decide (0 ≤ (0 : Int) ∧ 0 ≤ IntKind.i64.wrap ((xs.length : Int) - nn a xs) ∧ IntKind.i64.wrap ((xs.length : Int) - nn a xs) ≤ IntKind.i64.wrap ((xs.length : Int) - nn a xs) ∧ IntKind.i64.wrap ((xs.length : Int) - nn a xs) ≤ xs.length) then
        (f17 k (((gone, ()), (List.drop (Int.toNat 0) (List.take (IntKind.i64.wrap ((xs.length : Int) - nn a xs)).toNat xs), ()), ()), ())).bind fun val_3 => bif val_3.1.1.1 then
          (f18 k ((((), ()), ()), r)).bind fun val_4 =>
            bif decide (0 ≤ IntKind.i64.wrap ((xs.length : Int) - nn a xs) ∧ IntKind.i64.wrap ((xs.length : Int) - nn a xs) ≤ xs.length ∧ (xs.length : Int) ≤ xs.length ∧ (xs.length : Int) ≤ xs.length) then
              (f17 k (((val_4.2.1, ()), (List.drop (IntKind.i64.wrap ((xs.length : Int) - nn a xs)).toNat (List.take (xs.length : Int).toNat xs), ()), ()), ())).bind fun val => some (((val.1.1.1, ()), ()), ())
            else none
          else some (((false, ()), ()), ())
        else none
      else some (((false, ()), ()), ())
    else some (((false, ()), ()), ())
abbrev LT : Type := ((Int × Unit) × (List ByteArray × Unit) × (Unit × Unit) × (Unit × Unit) × (List ByteArray × Unit) × (Int × Unit) × (Int × Unit) × Unit) × (Unit × Int × Int × Int × Unit) × List ByteArray × List ByteArray × Unit
def lastBody (k : Nat) (g : LT) (L : LT → Option (((Bool × Unit) × Unit) × Unit)) : Option (((Bool × Unit) × Unit) × Unit) :=
  bif decide (g.1.2.2.2.2.2.2.1.1 < g.1.2.2.2.2.2.1.1) then
    bif decide (0 ≤ g.1.2.2.2.2.2.2.1.1 ∧ g.1.2.2.2.2.2.2.1.1 < g.1.2.2.2.2.1.1.length) then
      (f14 k ((((), ()), (gt .str g.1.2.2.2.2.1.1 g.1.2.2.2.2.2.2.1.1.toNat, ()), ()), mk g.2.2.1 g.2.1.2.1 g.2.1.2.2.1 g.2.1.2.2.2.1)).bind fun val =>
        bif val.1.2.1.1 then
          bif ((g.2.2.2.1.length + [val.1.1.1].length) * 16).ble 140737488355328 then
            L (((g.1.1.1, ()), (g.1.2.1.1, ()), ((), ()), ((), ()), (g.1.2.2.2.2.1.1, ()), (g.1.2.2.2.2.2.1.1, ()), (IntKind.i64.wrap (g.1.2.2.2.2.2.2.1.1 + 1), ()), ()),
              ((), val.2.1.2.1, val.2.1.2.2.1, val.2.1.2.2.2.1, ()), val.2.2.1, g.2.2.2.1 ++ [val.1.1.1], ())
          else none
        else bif !(ByteArray.toList val.1.1.1 == ByteArray.toList ⟨#[]⟩) then some (((false, ()), ()), ())
          else L (((g.1.1.1, ()), (g.1.2.1.1, ()), ((), ()), ((), ()), (g.1.2.2.2.2.1.1, ()), (g.1.2.2.2.2.2.1.1, ()), (IntKind.i64.wrap (g.1.2.2.2.2.2.2.1.1 + 1), ()), ()),
              ((), val.2.1.2.1, val.2.1.2.2.1, val.2.1.2.2.2.1, ()), val.2.2.1, g.2.2.2.1, ())
    else none
  else lastEnd k g.1.1.1 g.1.2.1.1 (mk g.2.2.1 g.2.1.2.1 g.2.1.2.2.1 g.2.1.2.2.2.1) g.2.2.2.1
theorem e3 (k : Nat) (a : Int) (xs : List ByteArray) : f3 k (((a, ()), (xs, ()), ()), ()) = (f12 k (((a, ()), ()), ())).bind fun val => (f13 k ((), ())).bind fun val_1 =>
    bif !val_1.1.1.1 then some (((false, ()), ()), ())
    else loopN (lastBody k) k (((a, ()), (xs, ()), ((), ()), ((), ()), (xs, ()), ((xs.length : Int), ()), (0, ()), ()), ((), val.2.1.2.1, val.2.1.2.2.1, val.2.1.2.2.2.1, ()), val.2.2.1, [], ()) := by kernel_rfl
end
end Go.Proofs.Ythllpilgfipkpaa.Ring
