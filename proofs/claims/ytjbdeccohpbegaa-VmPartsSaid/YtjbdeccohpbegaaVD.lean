import Derived.Test.YtjbdeccohpbegaaVC
namespace Go.Proofs.Ytjbdeccohpbegaa.Vm
open Go Go.RowKit Go.Proofs Go.Proofs.Ytjbdeccohpbegaa.X
set_option linter.unusedVariables false
set_option linter.unusedSimpArgs false
noncomputable section
/-! Heights -/
def e30_0 (L1 : ((Int × Unit) × (Unit × Unit) × (List (Int × Int) × Unit) × (Unit × Unit) × (Unit × Unit) × Unit) × ((Int × List Int × Fs) × Unit) × List Int × List Int × Unit → Option (((Unit × Unit) × (Bool × Unit) × Unit) × List Int × Unit)) (g : ((Int × Unit) × (Unit × Unit) × (List (Int × Int) × Unit) × (Unit × Unit) × (Unit × Unit) × (Int × Unit) × (Int × Unit) × (Unit × Unit) × (Int × Unit) × (Int × Unit) × Unit) × ((Int × List Int × Fs) × Unit) × List Int × List Int × List Int × Unit) (L : ((Int × Unit) × (Unit × Unit) × (List (Int × Int) × Unit) × (Unit × Unit) × (Unit × Unit) × (Int × Unit) × (Int × Unit) × (Unit × Unit) × (Int × Unit) × (Int × Unit) × Unit) × ((Int × List Int × Fs) × Unit) × List Int × List Int × List Int × Unit → Option (((Unit × Unit) × (Bool × Unit) × Unit) × List Int × Unit)) : Option (((Unit × Unit) × (Bool × Unit) × Unit) × List Int × Unit) := bif decide (g.1.2.2.2.2.2.2.2.2.2.1.1 < g.1.2.2.2.2.2.2.2.2.1.1) then bif decide ((0 : Int) ≤ g.1.2.2.2.2.2.2.2.2.2.1.1 ∧ g.1.2.2.2.2.2.2.2.2.2.1.1 < (↑g.2.2.2.2.1.length : Int)) then bif ia g.2.2.2.2.1 g.1.2.2.2.2.2.2.2.2.2.1.1.toNat == (↑g.1.2.2.1.1.length : Int) then some ((((), ()), (false, ()), ()), [], ()) else bif decide ((0 : Int) ≤ ia g.2.2.2.2.1 g.1.2.2.2.2.2.2.2.2.2.1.1.toNat ∧ ia g.2.2.2.2.1 g.1.2.2.2.2.2.2.2.2.2.1.1.toNat < (↑g.2.2.1.length : Int)) then bif decide (ia g.2.2.1 (Int.toNat (ia g.2.2.2.2.1 g.1.2.2.2.2.2.2.2.2.2.1.1.toNat)) ≥ (0 : Int)) then bif decide ((0 : Int) ≤ ia g.2.2.2.2.1 g.1.2.2.2.2.2.2.2.2.2.1.1.toNat ∧ ia g.2.2.2.2.1 g.1.2.2.2.2.2.2.2.2.2.1.1.toNat < (↑g.2.2.1.length : Int)) then bif ia g.2.2.1 (Int.toNat (ia g.2.2.2.2.1 g.1.2.2.2.2.2.2.2.2.2.1.1.toNat)) != IntKind.i64.wrap (g.1.2.2.2.2.2.2.1.1 + g.1.2.2.2.2.2.1.1) then some ((((), ()), (false, ()), ()), [], ()) else bif decide ((0 : Int) ≤ ia g.2.2.2.2.1 g.1.2.2.2.2.2.2.2.2.2.1.1.toNat ∧ ia g.2.2.2.2.1 g.1.2.2.2.2.2.2.2.2.2.1.1.toNat < (↑g.2.2.1.length : Int)) then bif decide (ia g.2.2.1 (Int.toNat (ia g.2.2.2.2.1 g.1.2.2.2.2.2.2.2.2.2.1.1.toNat)) < (0 : Int)) then bif decide ((0 : Int) ≤ ia g.2.2.2.2.1 g.1.2.2.2.2.2.2.2.2.2.1.1.toNat ∧ ia g.2.2.2.2.1 g.1.2.2.2.2.2.2.2.2.2.1.1.toNat < (↑g.2.2.1.length : Int)) then bif ((g.2.2.2.1.length + [ia g.2.2.2.2.1 g.1.2.2.2.2.2.2.2.2.2.1.1.toNat].length) * (8 : Nat)).ble (140737488355328 : Nat) then L (((g.1.1.1, ()), ((), ()), (g.1.2.2.1.1, ()), ((), ()), ((), ()), (g.1.2.2.2.2.2.1.1, ()), (g.1.2.2.2.2.2.2.1.1, ()), ((), ()), (g.1.2.2.2.2.2.2.2.2.1.1, ()), (IntKind.i64.wrap (g.1.2.2.2.2.2.2.2.2.2.1.1 + (1 : Int)), ()), ()), ((g.2.1.1.1, g.2.1.1.2.1, g.2.1.1.2.2), ()), g.2.2.1.set (Int.toNat (ia g.2.2.2.2.1 g.1.2.2.2.2.2.2.2.2.2.1.1.toNat)) (IntKind.i64.wrap (g.1.2.2.2.2.2.2.1.1 + g.1.2.2.2.2.2.1.1)), g.2.2.2.1 ++ [ia g.2.2.2.2.1 g.1.2.2.2.2.2.2.2.2.2.1.1.toNat], g.2.2.2.2.1, ()) else none else none else L (((g.1.1.1, ()), ((), ()), (g.1.2.2.1.1, ()), ((), ()), ((), ()), (g.1.2.2.2.2.2.1.1, ()), (g.1.2.2.2.2.2.2.1.1, ()), ((), ()), (g.1.2.2.2.2.2.2.2.2.1.1, ()), (IntKind.i64.wrap (g.1.2.2.2.2.2.2.2.2.2.1.1 + (1 : Int)), ()), ()), ((g.2.1.1.1, g.2.1.1.2.1, g.2.1.1.2.2), ()), g.2.2.1, g.2.2.2.1, g.2.2.2.2.1, ()) else none else none else bif decide ((0 : Int) ≤ ia g.2.2.2.2.1 g.1.2.2.2.2.2.2.2.2.2.1.1.toNat ∧ ia g.2.2.2.2.1 g.1.2.2.2.2.2.2.2.2.2.1.1.toNat < (↑g.2.2.1.length : Int)) then bif decide (ia g.2.2.1 (Int.toNat (ia g.2.2.2.2.1 g.1.2.2.2.2.2.2.2.2.2.1.1.toNat)) < (0 : Int)) then bif decide ((0 : Int) ≤ ia g.2.2.2.2.1 g.1.2.2.2.2.2.2.2.2.2.1.1.toNat ∧ ia g.2.2.2.2.1 g.1.2.2.2.2.2.2.2.2.2.1.1.toNat < (↑g.2.2.1.length : Int)) then bif ((g.2.2.2.1.length + [ia g.2.2.2.2.1 g.1.2.2.2.2.2.2.2.2.2.1.1.toNat].length) * (8 : Nat)).ble (140737488355328 : Nat) then L (((g.1.1.1, ()), ((), ()), (g.1.2.2.1.1, ()), ((), ()), ((), ()), (g.1.2.2.2.2.2.1.1, ()), (g.1.2.2.2.2.2.2.1.1, ()), ((), ()), (g.1.2.2.2.2.2.2.2.2.1.1, ()), (IntKind.i64.wrap (g.1.2.2.2.2.2.2.2.2.2.1.1 + (1 : Int)), ()), ()), ((g.2.1.1.1, g.2.1.1.2.1, g.2.1.1.2.2), ()), g.2.2.1.set (Int.toNat (ia g.2.2.2.2.1 g.1.2.2.2.2.2.2.2.2.2.1.1.toNat)) (IntKind.i64.wrap (g.1.2.2.2.2.2.2.1.1 + g.1.2.2.2.2.2.1.1)), g.2.2.2.1 ++ [ia g.2.2.2.2.1 g.1.2.2.2.2.2.2.2.2.2.1.1.toNat], g.2.2.2.2.1, ()) else none else none else L (((g.1.1.1, ()), ((), ()), (g.1.2.2.1.1, ()), ((), ()), ((), ()), (g.1.2.2.2.2.2.1.1, ()), (g.1.2.2.2.2.2.2.1.1, ()), ((), ()), (g.1.2.2.2.2.2.2.2.2.1.1, ()), (IntKind.i64.wrap (g.1.2.2.2.2.2.2.2.2.2.1.1 + (1 : Int)), ()), ()), ((g.2.1.1.1, g.2.1.1.2.1, g.2.1.1.2.2), ()), g.2.2.1, g.2.2.2.1, g.2.2.2.2.1, ()) else none else none else none else L1 (((g.1.1.1, ()), ((), ()), (g.1.2.2.1.1, ()), ((), ()), ((), ()), ()), ((g.2.1.1.1, g.2.1.1.2.1, g.2.1.1.2.2), ()), g.2.2.1, g.2.2.2.1, ())
def e30_1 (k : Nat) (m : Int) (d : List Int) (l : Fs) (g : ((Int × Unit) × (Unit × Unit) × (List (Int × Int) × Unit) × (Unit × Unit) × (Unit × Unit) × Unit) × ((Int × List Int × Fs) × Unit) × List Int × List Int × Unit) (L : ((Int × Unit) × (Unit × Unit) × (List (Int × Int) × Unit) × (Unit × Unit) × (Unit × Unit) × Unit) × ((Int × List Int × Fs) × Unit) × List Int × List Int × Unit → Option (((Unit × Unit) × (Bool × Unit) × Unit) × List Int × Unit)) : Option (((Unit × Unit) × (Bool × Unit) × Unit) × List Int × Unit) := bif decide ((↑g.2.2.2.1.length : Int) > (0 : Int)) then bif decide ((0 : Int) ≤ IntKind.i64.wrap ((↑g.2.2.2.1.length : Int) - (1 : Int)) ∧ IntKind.i64.wrap ((↑g.2.2.2.1.length : Int) - (1 : Int)) < (↑g.2.2.2.1.length : Int)) then bif decide ((0 : Int) ≤ (0 : Int) ∧ (0 : Int) ≤ IntKind.i64.wrap ((↑g.2.2.2.1.length : Int) - (1 : Int)) ∧ IntKind.i64.wrap ((↑g.2.2.2.1.length : Int) - (1 : Int)) ≤ IntKind.i64.wrap ((↑g.2.2.2.1.length : Int) - (1 : Int)) ∧ IntKind.i64.wrap ((↑g.2.2.2.1.length : Int) - (1 : Int)) ≤ (↑g.2.2.2.1.length : Int)) then bif decide ((0 : Int) ≤ ia g.2.2.2.1 (IntKind.i64.wrap ((↑g.2.2.2.1.length : Int) - (1 : Int))).toNat ∧ ia g.2.2.2.1 (IntKind.i64.wrap ((↑g.2.2.2.1.length : Int) - (1 : Int))).toNat < (↑g.1.2.2.1.1.length : Int)) then (f31 k ((((g.2.1.1.1, g.2.1.1.2.1, g.2.1.1.2.2), ()), (g.1.1.1, ()), (((ca g.1.2.2.1.1 (Int.toNat (ia g.2.2.2.1 (IntKind.i64.wrap ((↑g.2.2.2.1.length : Int) - (1 : Int))).toNat))).1, (ca g.1.2.2.1.1 (Int.toNat (ia g.2.2.2.1 (IntKind.i64.wrap ((↑g.2.2.2.1.length : Int) - (1 : Int))).toNat))).2), ()), ()), ())).bind fun v => bif decide ((0 : Int) ≤ ia g.2.2.2.1 (IntKind.i64.wrap ((↑g.2.2.2.1.length : Int) - (1 : Int))).toNat ∧ ia g.2.2.2.1 (IntKind.i64.wrap ((↑g.2.2.2.1.length : Int) - (1 : Int))).toNat < (↑g.2.2.1.length : Int)) then bif decide (IntKind.i64.wrap (ia g.2.2.1 (Int.toNat (ia g.2.2.2.1 (IntKind.i64.wrap ((↑g.2.2.2.1.length : Int) - (1 : Int))).toNat)) - v.1.1.1) < (0 : Int)) then some ((((), ()), (false, ()), ()), [], ()) else bif decide (IntKind.i64.wrap (IntKind.i64.wrap (ia g.2.2.1 (Int.toNat (ia g.2.2.2.1 (IntKind.i64.wrap ((↑g.2.2.2.1.length : Int) - (1 : Int))).toNat)) - v.1.1.1) + v.1.2.1.1) > (64 : Int)) then some ((((), ()), (false, ()), ()), [], ()) else bif decide ((0 : Int) ≤ ia g.2.2.2.1 (IntKind.i64.wrap ((↑g.2.2.2.1.length : Int) - (1 : Int))).toNat ∧ ia g.2.2.2.1 (IntKind.i64.wrap ((↑g.2.2.2.1.length : Int) - (1 : Int))).toNat < (↑g.1.2.2.1.1.length : Int)) then bif (ca g.1.2.2.1.1 (Int.toNat (ia g.2.2.2.1 (IntKind.i64.wrap ((↑g.2.2.2.1.length : Int) - (1 : Int))).toNat))).1 == (27 : Int) then bif IntKind.i64.wrap (ia g.2.2.1 (Int.toNat (ia g.2.2.2.1 (IntKind.i64.wrap ((↑g.2.2.2.1.length : Int) - (1 : Int))).toNat)) - v.1.1.1) != (0 : Int) then some ((((), ()), (false, ()), ()), [], ()) else bif decide ((0 : Int) ≤ ia g.2.2.2.1 (IntKind.i64.wrap ((↑g.2.2.2.1.length : Int) - (1 : Int))).toNat ∧ ia g.2.2.2.1 (IntKind.i64.wrap ((↑g.2.2.2.1.length : Int) - (1 : Int))).toNat < (↑g.1.2.2.1.1.length : Int)) then (f40 k (((ia g.2.2.2.1 (IntKind.i64.wrap ((↑g.2.2.2.1.length : Int) - (1 : Int))).toNat, ()), (((ca g.1.2.2.1.1 (Int.toNat (ia g.2.2.2.1 (IntKind.i64.wrap ((↑g.2.2.2.1.length : Int) - (1 : Int))).toNat))).1, (ca g.1.2.2.1.1 (Int.toNat (ia g.2.2.2.1 (IntKind.i64.wrap ((↑g.2.2.2.1.length : Int) - (1 : Int))).toNat))).2), ()), ()), ())).bind fun v_1 => loopN (e30_0 L) k (((g.1.1.1, ()), ((), ()), (g.1.2.2.1.1, ()), ((), ()), ((), ()), (v.1.2.1.1, ()), (IntKind.i64.wrap (ia g.2.2.1 (Int.toNat (ia g.2.2.2.1 (IntKind.i64.wrap ((↑g.2.2.2.1.length : Int) - (1 : Int))).toNat)) - v.1.1.1), ()), ((), ()), ((↑(List.length v_1.2.1) : Int), ()), ((0 : Int), ()), ()), ((g.2.1.1.1, g.2.1.1.2.1, g.2.1.1.2.2), ()), g.2.2.1, List.take ((IntKind.i64.wrap ((↑g.2.2.2.1.length : Int) - (1 : Int))).toNat - Int.toNat (0 : Int)) g.2.2.2.1, v_1.2.1, ()) else none else bif decide ((0 : Int) ≤ ia g.2.2.2.1 (IntKind.i64.wrap ((↑g.2.2.2.1.length : Int) - (1 : Int))).toNat ∧ ia g.2.2.2.1 (IntKind.i64.wrap ((↑g.2.2.2.1.length : Int) - (1 : Int))).toNat < (↑g.1.2.2.1.1.length : Int)) then (f40 k (((ia g.2.2.2.1 (IntKind.i64.wrap ((↑g.2.2.2.1.length : Int) - (1 : Int))).toNat, ()), (((ca g.1.2.2.1.1 (Int.toNat (ia g.2.2.2.1 (IntKind.i64.wrap ((↑g.2.2.2.1.length : Int) - (1 : Int))).toNat))).1, (ca g.1.2.2.1.1 (Int.toNat (ia g.2.2.2.1 (IntKind.i64.wrap ((↑g.2.2.2.1.length : Int) - (1 : Int))).toNat))).2), ()), ()), ())).bind fun v_1 => loopN (e30_0 L) k (((g.1.1.1, ()), ((), ()), (g.1.2.2.1.1, ()), ((), ()), ((), ()), (v.1.2.1.1, ()), (IntKind.i64.wrap (ia g.2.2.1 (Int.toNat (ia g.2.2.2.1 (IntKind.i64.wrap ((↑g.2.2.2.1.length : Int) - (1 : Int))).toNat)) - v.1.1.1), ()), ((), ()), ((↑(List.length v_1.2.1) : Int), ()), ((0 : Int), ()), ()), ((g.2.1.1.1, g.2.1.1.2.1, g.2.1.1.2.2), ()), g.2.2.1, List.take ((IntKind.i64.wrap ((↑g.2.2.2.1.length : Int) - (1 : Int))).toNat - Int.toNat (0 : Int)) g.2.2.2.1, v_1.2.1, ()) else none else none else none else none else none else none else some ((((), ()), (true, ()), ()), g.2.2.1, ())
def e30_2 (k : Nat) (m : Int) (d : List Int) (l : Fs) (g : ((Int × Unit) × (Unit × Unit) × (List (Int × Int) × Unit) × (Unit × Unit) × (Int × Unit) × (Int × Unit) × Unit) × ((Int × List Int × Fs) × Unit) × List Int × Unit) (L : ((Int × Unit) × (Unit × Unit) × (List (Int × Int) × Unit) × (Unit × Unit) × (Int × Unit) × (Int × Unit) × Unit) × ((Int × List Int × Fs) × Unit) × List Int × Unit → Option (((Unit × Unit) × (Bool × Unit) × Unit) × List Int × Unit)) : Option (((Unit × Unit) × (Bool × Unit) × Unit) × List Int × Unit) := bif decide (g.1.2.2.2.2.2.1.1 < g.1.2.2.2.2.1.1) then bif decide ((0 : Int) ≤ g.1.2.2.2.2.2.1.1 ∧ g.1.2.2.2.2.2.1.1 < (↑g.2.2.1.length : Int)) then L (((g.1.1.1, ()), ((), ()), (g.1.2.2.1.1, ()), ((), ()), (g.1.2.2.2.2.1.1, ()), (IntKind.i64.wrap (g.1.2.2.2.2.2.1.1 + (1 : Int)), ()), ()), ((g.2.1.1.1, g.2.1.1.2.1, g.2.1.1.2.2), ()), g.2.2.1.set g.1.2.2.2.2.2.1.1.toNat (-1 : Int), ()) else none else bif decide ((0 : Int) ≤ (0 : Int) ∧ (0 : Int) < (↑g.2.2.1.length : Int)) then loopN (e30_1 k m d l) k (((g.1.1.1, ()), ((), ()), (g.1.2.2.1.1, ()), ((), ()), ((), ()), ()), ((g.2.1.1.1, g.2.1.1.2.1, g.2.1.1.2.2), ()), g.2.2.1.set (Int.toNat (0 : Int)) (0 : Int), [(0 : Int)], ()) else none
theorem e30_eq (k : Nat) (m : Int) (d : List Int) (l : Fs) (f : Int) : f30 k ((((m, d, l), ()), (f, ()), ()), ()) = bif decide ((0 : Int) ≤ f ∧ f < (↑l.length : Int)) then bif decide ((0 : Int) ≤ (↑(List.length (fa l f.toNat).2.2.2) : Int) ∧ (↑(List.length (fa l f.toNat).2.2.2) : Int) ≤ (↑(List.length (fa l f.toNat).2.2.2) : Int)) && (((↑(List.length (fa l f.toNat).2.2.2) : Int).toNat * (8 : Nat)).ble (140737488355328 : Nat) && (↑(List.length (fa l f.toNat).2.2.2) : Int).toNat.ble (1152921504606846976 : Nat)) then loopN (e30_2 k m d l) k (((f, ()), ((), ()), ((fa l f.toNat).2.2.2, ()), ((), ()), ((↑(List.replicate (↑(List.length (fa l f.toNat).2.2.2) : Int).toNat (0 : Int)).length : Int), ()), ((0 : Int), ()), ()), ((m, d, l), ()), List.replicate (↑(List.length (fa l f.toNat).2.2.2) : Int).toNat (0 : Int), ()) else none else none := by kernel_rfl
abbrev T21 : Type := ((Int × Unit) × (Unit × Unit) × (List (Int × Int) × Unit) × (Unit × Unit) × (Unit × Unit) × Unit) × ((Int × List Int × Fs) × Unit) × List Int × List Int × Unit
abbrev V21 : Type := Option (((Unit × Unit) × (Bool × Unit) × Unit) × List Int × Unit)
abbrev A21 (m : Int) (d : List Int) (l : Fs) (f : Int) (c : List (Int × Int)) (out todo : List Int) : T21 := (((f, ()), ((), ()), (c, ()), ((), ()), ((), ()), ()), ((m, d, l), ()), out, todo, ())
abbrev U21 : Type := ((Int × Unit) × (Unit × Unit) × (List (Int × Int) × Unit) × (Unit × Unit) × (Unit × Unit) × (Int × Unit) × (Int × Unit) × (Unit × Unit) × (Int × Unit) × (Int × Unit) × Unit) × ((Int × List Int × Fs) × Unit) × List Int × List Int × List Int × Unit
abbrev B21 (m : Int) (d : List Int) (l : Fs) (f : Int) (c : List (Int × Int)) (p h : Int) (nx : List Int) (N j : Int) (out todo : List Int) : U21 := (((f, ()), ((), ()), (c, ()), ((), ()), ((), ()), (p, ()), (h, ()), ((), ()), (N, ()), (j, ()), ()), ((m, d, l), ()), out, todo, nx, ())
abbrev R21 (b : Bool) (out : List Int) : V21 := some ((((), ()), (b, ()), ()), out, ())
def holes (xs : List Int) : Nat := xs.countP (fun x => decide (x < 0))
def pad (xs : List Int) (e : Nat) : List Int := xs ++ List.replicate e (-1)
theorem ia_set {xs : List Int} {i j : Nat} {v : Int} (h : i < xs.length) : ia (xs.set i v) j = if j = i then v else ia xs j := by
  unfold ia gt
  rw [List.getD_eq_getElem?_getD, List.getD_eq_getElem?_getD, List.getElem?_set]
  by_cases e : j = i
  · subst e; simp [h]
  · rw [if_neg (fun q => e q.symm), if_neg e]
theorem ia_get {xs : List Int} {i : Nat} (h : i < xs.length) : ia xs i = xs[i] := by
  unfold ia gt
  rw [List.getD_eq_getElem?_getD, List.getElem?_eq_getElem h]; rfl
theorem holes_set {xs : List Int} {i : Nat} {v : Int} (h : i < xs.length) (hn : ia xs i < 0) (hv : 0 ≤ v) : holes (xs.set i v) + 1 = holes xs := by
  unfold holes
  have hx : xs[i] < 0 := by rw [← ia_get h]; exact hn
  have hp : 0 < xs.countP (fun x => decide (x < 0)) := List.countP_pos_iff.2 ⟨_, List.getElem_mem h, by simpa using hx⟩
  rw [List.countP_set h]
  simp only [hx, decide_true, if_true, show ¬ v < 0 by omega, decide_false, Bool.false_eq_true, if_false]
  omega
theorem ia_pad {xs : List Int} {e i : Nat} (h : i < xs.length) : ia (pad xs e) i = ia xs i := by
  unfold pad ia gt
  rw [List.getD_eq_getElem?_getD, List.getD_eq_getElem?_getD, List.getElem?_append_left h]
theorem pad_len (xs : List Int) (e : Nat) : (pad xs e).length = xs.length + e := by simp [pad]
theorem pad_set {xs : List Int} {e i : Nat} {v : Int} (h : i < xs.length) : (pad xs e).set i v = pad (xs.set i v) e := by
  unfold pad; rw [List.set_append_left _ _ h]
structure WF (n : Nat) (out todo : List Int) : Prop where
  len : out.length = n
  lo : ∀ i, i < n → -1 ≤ ia out i ∧ ia out i ≤ 64
  td : ∀ t ∈ todo, 0 ≤ t ∧ t < (n : Int) ∧ 0 ≤ ia out t.toNat
theorem WF.put {n : Nat} {out todo : List Int} (h : WF n out todo) {t : Nat} {v : Int} (ht : t < n) (hneg : ia out t < 0) (hv : 0 ≤ v ∧ v ≤ 64) : WF n (out.set t v) (todo ++ [(t : Int)]) := by
  have hl := h.len
  refine ⟨by simpa using hl, fun i hi => ?_, fun x hx => ?_⟩
  · rw [ia_set (by omega)]
    split
    · omega
    · exact h.lo i hi
  · rw [List.mem_append, List.mem_singleton] at hx
    rcases hx with hx | rfl
    · obtain ⟨a, b, c⟩ := h.td x hx
      refine ⟨a, b, ?_⟩
      rw [ia_set (by omega)]
      split
      · omega
      · exact c
    · refine ⟨by omega, by omega, ?_⟩
      rw [Int.toNat_natCast, ia_set (by omega), if_pos rfl]; omega
theorem in21 (L1 L2 : T21 → V21) (m m' : Int) (d d' : List Int) (l l' : Fs) (f : Int) (c c' : List (Int × Int)) (n e : Nat) (hn : c.length = n) (hn1 : n ≤ 400) (hc' : c'.length = n + e) (p h : Int) (hp : 0 ≤ p ∧ p ≤ 8) (hh : 0 ≤ h ∧ h + p ≤ 64) (nx : List Int) (hx2 : nx.length ≤ 2) (hx : ∀ j, j < nx.length → 0 ≤ ia nx j ∧ ia nx j ≤ (n : Int)) :
    ∀ (q j k : Nat) (out todo : List Int), nx.length - j ≤ q → q + 1 ≤ k → WF n out todo → todo.length + holes out ≤ 1000 →
      loopN (e30_0 L1) k (B21 m d l f c p h nx (nx.length : Int) (j : Int) out todo) = R21 false [] ∨
      ∃ out2 todo2, loopN (e30_0 L1) k (B21 m d l f c p h nx (nx.length : Int) (j : Int) out todo) = L1 (A21 m d l f c out2 todo2) ∧
        loopN (e30_0 L2) k (B21 m' d' l' f c' p h nx (nx.length : Int) (j : Int) (pad out e) todo) = L2 (A21 m' d' l' f c' (pad out2 e) todo2) ∧ WF n out2 todo2 ∧ todo2.length + holes out2 = todo.length + holes out := by
  intro q
  induction q with
  | zero =>
    intro j k out todo hq hk hW hs
    obtain ⟨k, rfl⟩ : ∃ k2, k = k2 + 1 := ⟨k - 1, by omega⟩
    rw [loopN_succ, loopN_succ, e30_0, e30_0]
    simp only []
    rw [cneg (by omega), cneg (by omega)]
    exact .inr ⟨out, todo, rfl, rfl, hW, rfl⟩
  | succ q ih =>
    intro j k out todo hq hk hW hs
    obtain ⟨k, rfl⟩ : ∃ k2, k = k2 + 1 := ⟨k - 1, by omega⟩
    have hlen := hW.len
    have hpl := pad_len out e
    rw [loopN_succ, loopN_succ, e30_0, e30_0]
    simp only []
    by_cases hj : (j : Int) < (nx.length : Int)
    · rw [cpos hj, cpos hj, cpos (p := 0 ≤ (j : Int) ∧ (j : Int) < (nx.length : Int)) (by omega), cpos (p := 0 ≤ (j : Int) ∧ (j : Int) < (nx.length : Int)) (by omega), Int.toNat_natCast]
      obtain ⟨t0, t1⟩ := hx j (by omega)
      obtain ⟨t, ht⟩ : ∃ t : Nat, ia nx j = (t : Int) := ⟨(ia nx j).toNat, by omega⟩
      rw [ht, Int.toNat_natCast]
      by_cases c1 : (t : Int) = (c.length : Int)
      · rw [bpos c1]; exact .inl rfl
      · have htn : t < n := by omega
        have hpt : ia (pad out e) t = ia out t := ia_pad (by omega)
        have hst : (pad out e).set t (h + p) = pad (out.set t (h + p)) e := pad_set (by omega)
        rw [bneg c1, bneg (show ¬ (t : Int) = (c'.length : Int) by omega), cond_false, cond_false, cpos (p := 0 ≤ (t : Int) ∧ (t : Int) < (out.length : Int)) (by omega), cpos (p := 0 ≤ (t : Int) ∧ (t : Int) < ((pad out e).length : Int)) (by omega), hpt, wrapId (n := h + p) (by omega) (by omega), wrapId (n := (j : Int) + 1) (by omega) (by omega)]
        by_cases c2 : ia out t ≥ 0
        · rw [cpos c2, cpos c2, cpos (p := 0 ≤ (t : Int) ∧ (t : Int) < (out.length : Int)) (by omega), cpos (p := 0 ≤ (t : Int) ∧ (t : Int) < ((pad out e).length : Int)) (by omega)]
          by_cases c3 : ia out t = h + p
          · rw [nneg c3, cond_false, cond_false, cpos (p := 0 ≤ (t : Int) ∧ (t : Int) < (out.length : Int)) (by omega), cpos (p := 0 ≤ (t : Int) ∧ (t : Int) < ((pad out e).length : Int)) (by omega), cneg (by omega), cneg (by omega)]
            have := ih (j + 1) k out todo (by omega) (by omega) hW hs
            rw [show ((j + 1 : Nat) : Int) = (j : Int) + 1 by omega] at this
            exact this
          · rw [npos c3]; exact .inl rfl
        · rw [cneg c2, cneg c2, cpos (p := 0 ≤ (t : Int) ∧ (t : Int) < (out.length : Int)) (by omega), cpos (p := 0 ≤ (t : Int) ∧ (t : Int) < ((pad out e).length : Int)) (by omega), cpos (show ia out t < 0 by omega), cpos (show ia out t < 0 by omega),
            cpos (p := 0 ≤ (t : Int) ∧ (t : Int) < (out.length : Int)) (by omega), cpos (p := 0 ≤ (t : Int) ∧ (t : Int) < ((pad out e).length : Int)) (by omega), blt (by simp only [List.length_singleton]; omega), blt (by simp only [List.length_singleton]; omega), hst]
          have hho := holes_set (v := h + p) (xs := out) (i := t) (by omega) (by omega) (by omega)
          have := ih (j + 1) k (out.set t (h + p)) (todo ++ [(t : Int)]) (by omega) (by omega) (hW.put htn (by omega) (by omega)) (by rw [List.length_append, List.length_singleton]; omega)
          rw [show ((j + 1 : Nat) : Int) = (j : Int) + 1 by omega] at this
          rcases this with g | ⟨o2, t2, g1, g2, g3, g4⟩
          · exact .inl g
          · exact .inr ⟨o2, t2, g1, g2, g3, by rw [List.length_append, List.length_singleton] at g4; omega⟩
    · rw [cneg hj, cneg hj]
      exact .inr ⟨out, todo, rfl, rfl, hW, rfl⟩
/-- two functions, the second one the first one with instructions behind -/
structure Pre (k0 : Nat) (m m' : Int) (d d' : List Int) (l l' : Fs) (f : Int) (c c' : List (Int × Int)) (n e : Nat) : Prop where
  n0 : 1 ≤ n ∧ n ≤ 400
  hc : c.length = n
  hc' : c'.length = n + e
  same : ∀ i, i < n → ca c' i = ca c i
  eff : ∀ i, i < n → ∃ T P b, E31 k0 m d l f (ca c i) = r31 T P b ∧ E31 k0 m' d' l' f (ca c i) = r31 T P b ∧ (0 ≤ T ∧ T ≤ 8) ∧ (0 ≤ P ∧ P ≤ 8)
  jmp : ∀ i, i < n → (ca c i).1 = 24 ∨ (ca c i).1 = 25 → 0 ≤ (ca c i).2 ∧ (ca c i).2 < (n : Int)
theorem out21 {k0 : Nat} (hk0 : 10 ≤ k0) {m m' : Int} {d d' : List Int} {l l' : Fs} {f : Int} {c c' : List (Int × Int)} {n e : Nat} (hP : Pre k0 m m' d d' l l' f c c' n e) (m0 m1 : Int) (d0 d1 : List Int) (l0 l1 : Fs) :
    ∀ (q k : Nat) (out todo : List Int), todo.length + holes out ≤ q → q + 1 ≤ k → q ≤ 1000 → WF n out todo →
      ∃ b r, loopN (e30_1 k0 m0 d0 l0) k (A21 m d l f c out todo) = R21 b r ∧ (b = true → r.length = n ∧ loopN (e30_1 k0 m1 d1 l1) k (A21 m' d' l' f c' (pad out e) todo) = R21 true (pad r e)) := by
  intro q
  induction q with
  | zero =>
    intro k out todo hq hk hq2 hW
    obtain ⟨k, rfl⟩ : ∃ k2, k = k2 + 1 := ⟨k - 1, by omega⟩
    rw [loopN_succ, loopN_succ, e30_1, e30_1]
    simp only []
    rw [cneg (by omega), cneg (by omega)]
    exact ⟨true, out, rfl, fun _ => ⟨hW.len, rfl⟩⟩
  | succ q ih =>
    intro k out todo hq hk hq2 hW
    obtain ⟨k, rfl⟩ : ∃ k2, k = k2 + 1 := ⟨k - 1, by omega⟩
    have hlen := hW.len
    have hpl := pad_len out e
    have hn0 := hP.n0
    have hcl := hP.hc
    have hcl' := hP.hc'
    rw [loopN_succ, loopN_succ, e30_1, e30_1]
    simp only []
    rcases List.eq_nil_or_concat todo with rfl | ⟨init, a, rfl⟩
    · rw [cneg (by simp), cneg (by simp)]
      exact ⟨true, out, rfl, fun _ => ⟨hW.len, rfl⟩⟩
    · rw [List.concat_eq_append] at *
      obtain ⟨a0, a1, a2⟩ := hW.td a (by simp)
      obtain ⟨t, rfl⟩ : ∃ t : Nat, a = (t : Int) := ⟨a.toNat, by omega⟩
      rw [Int.toNat_natCast] at a2
      have htn : t < n := by omega
      have hl1 : (((init ++ [(t : Int)]).length : Nat) : Int) = (init.length : Int) + 1 := by simp
      have hil : init.length ≤ 1000 := by simp only [List.length_append, List.length_singleton] at hq; omega
      have e1 : IntKind.i64.wrap ((((init ++ [(t : Int)]).length : Nat) : Int) - 1) = (init.length : Int) := by rw [hl1, wrapId (by omega) (by omega)]; omega
      have e3 : ia (init ++ [(t : Int)]) init.length = (t : Int) := by
        unfold ia gt
        rw [List.getD_eq_getElem?_getD, List.getElem?_append_right (Nat.le_refl _)]; simp
      have e2 : List.take (init.length - Int.toNat 0) (init ++ [(t : Int)]) = init := by simp
      have hlo := hW.lo t htn
      obtain ⟨T, P, eb, hE1, hE2, hT, hPb⟩ := hP.eff t htn
      obtain ⟨nx, hN, hx2, hx⟩ := next_tot k0 (t : Int) (n : Int) (ca c t) (by omega) (by omega) (by omega) (hP.jmp t htn)
      have hsm := hP.same t htn
      have hE1' : f31 k0 ((((m, d, l), ()), (f, ()), (((ca c t).1, (ca c t).2), ()), ()), ()) = r31 T P eb := hE1
      have hE2' : f31 k0 ((((m', d', l'), ()), (f, ()), (((ca c t).1, (ca c t).2), ()), ()), ()) = r31 T P eb := hE2
      have hpt : ia (pad out e) t = ia out t := ia_pad (by omega)
      simp only [e1, Int.toNat_natCast, e3, e2, hsm, hE1', hE2', hN, Option.bind_some, hpt]
      rw [cpos (show (((init ++ [(t : Int)]).length : Nat) : Int) > 0 by omega), cpos (show (0 : Int) ≤ (init.length : Int) ∧ (init.length : Int) < (((init ++ [(t : Int)]).length : Nat) : Int) by omega),
        cpos (show (0 : Int) ≤ 0 ∧ (0 : Int) ≤ (init.length : Int) ∧ (init.length : Int) ≤ (init.length : Int) ∧ (init.length : Int) ≤ (((init ++ [(t : Int)]).length : Nat) : Int) by omega),
        cpos (show (0 : Int) ≤ (t : Int) ∧ (t : Int) < (c.length : Int) by omega), cpos (show (0 : Int) ≤ (t : Int) ∧ (t : Int) < (out.length : Int) by omega)]
      rw [cpos (show (((init ++ [(t : Int)]).length : Nat) : Int) > 0 by omega), cpos (show (0 : Int) ≤ (init.length : Int) ∧ (init.length : Int) < (((init ++ [(t : Int)]).length : Nat) : Int) by omega),
        cpos (show (0 : Int) ≤ 0 ∧ (0 : Int) ≤ (init.length : Int) ∧ (init.length : Int) ≤ (init.length : Int) ∧ (init.length : Int) ≤ (((init ++ [(t : Int)]).length : Nat) : Int) by omega),
        cpos (show (0 : Int) ≤ (t : Int) ∧ (t : Int) < (c'.length : Int) by omega), cpos (show (0 : Int) ≤ (t : Int) ∧ (t : Int) < ((pad out e).length : Int) by omega)]
      rw [wrapId (n := ia out t - T) (by omega) (by omega), wrapId (n := ia out t - T + P) (by omega) (by omega)]
      have no : ∀ {X Y : V21}, X = R21 false [] → ∃ b r, X = R21 b r ∧ (b = true → r.length = n ∧ Y = R21 true (pad r e)) := fun h => ⟨false, [], h, fun q => by cases q⟩
      by_cases b1 : ia out t - T < 0
      · rw [cpos b1]; exact no rfl
      rw [cneg b1, cneg b1]
      by_cases b2 : ia out t - T + P > 64
      · rw [cpos b2]; exact no rfl
      rw [cneg b2, cneg b2, cpos (show (0 : Int) ≤ (t : Int) ∧ (t : Int) < (c.length : Int) by omega), cpos (show (0 : Int) ≤ (t : Int) ∧ (t : Int) < (c'.length : Int) by omega)]
      have hgo : ∃ b r, loopN (e30_0 (loopN (e30_1 k0 m0 d0 l0) k)) k0 (B21 m d l f c P (ia out t - T) nx (nx.length : Int) 0 out init) = R21 b r ∧ (b = true → r.length = n ∧ loopN (e30_0 (loopN (e30_1 k0 m1 d1 l1) k)) k0 (B21 m' d' l' f c' P (ia out t - T) nx (nx.length : Int) 0 (pad out e) init) = R21 true (pad r e)) := by
        rcases in21 (loopN (e30_1 k0 m0 d0 l0) k) (loopN (e30_1 k0 m1 d1 l1) k) m m' d d' l l' f c c' n e hcl hn0.2 hcl' P (ia out t - T) hPb ⟨by omega, by omega⟩ nx hx2 hx 2 0 k0 out init (by omega) (by omega) ⟨hW.len, hW.lo, fun t2 h2 => hW.td t2 (by simp [h2])⟩ (by simp only [List.length_append, List.length_singleton] at hq; omega) with g | ⟨o2, t2, g1, g2, g3, g4⟩
        · exact no g
        · obtain ⟨b, r, q1, q2⟩ := ih k o2 t2 (by simp only [List.length_append, List.length_singleton] at hq; omega) (by omega) (by omega) g3
          exact ⟨b, r, g1.trans q1, fun hb => ⟨(q2 hb).1, g2.trans (q2 hb).2⟩⟩
      cases h27 : ((ca c t).1 == (27 : Int)) with
      | true =>
        rw [cond_true, cond_true]
        cases hz : (ia out t - T != 0) with
        | true => exact no rfl
        | false =>
          rw [cond_false, cond_false, cpos (show (0 : Int) ≤ (t : Int) ∧ (t : Int) < (c.length : Int) by omega), cpos (show (0 : Int) ≤ (t : Int) ∧ (t : Int) < (c'.length : Int) by omega)]
          exact hgo
      | false =>
        rw [cond_false, cond_false, cpos (show (0 : Int) ≤ (t : Int) ∧ (t : Int) < (c.length : Int) by omega), cpos (show (0 : Int) ≤ (t : Int) ∧ (t : Int) < (c'.length : Int) by omega)]
        exact hgo
/-- all places at first without a height -/
theorem init21 (k0 : Nat) (m0 m : Int) (d0 d : List Int) (l0 l : Fs) (f : Int) (c : List (Int × Int)) (n : Nat) (hn : 1 ≤ n ∧ n ≤ 10000) : ∀ (q i k : Nat), i + q = n → q + 1 ≤ k →
    loopN (e30_2 k0 m0 d0 l0) k (((f, ()), ((), ()), (c, ()), ((), ()), ((n : Int), ()), ((i : Int), ()), ()), ((m, d, l), ()), List.replicate i (-1) ++ List.replicate q 0, ()) =
      loopN (e30_1 k0 m0 d0 l0) k0 (A21 m d l f c ((List.replicate n (-1)).set 0 0) [0]) := by
  intro q
  induction q with
  | zero =>
    intro i k hi hk
    obtain ⟨k, rfl⟩ : ∃ k2, k = k2 + 1 := ⟨k - 1, by omega⟩
    obtain rfl : i = n := by omega
    rw [loopN_succ, e30_2]
    simp only []
    rw [cneg (by omega), List.replicate_zero, List.append_nil, cpos (by rw [List.length_replicate]; omega)]
    rfl
  | succ q ih =>
    intro i k hi hk
    obtain ⟨k, rfl⟩ : ∃ k2, k = k2 + 1 := ⟨k - 1, by omega⟩
    rw [loopN_succ, e30_2]
    simp only []
    rw [cpos (by omega), cpos (by rw [List.length_append, List.length_replicate, List.length_replicate]; omega), Int.toNat_natCast, wrapId (by omega) (by omega), show (i : Int) + 1 = ((i + 1 : Nat) : Int) by omega]
    have e1 : (List.replicate i (-1 : Int) ++ List.replicate (q + 1) 0).set i (-1) = List.replicate (i + 1) (-1) ++ List.replicate q 0 := by
      rw [List.set_append_right _ _ (by simp), List.length_replicate, Nat.sub_self, List.replicate_succ, List.set_cons_zero, List.replicate_succ' (n := i), List.append_assoc]; rfl
    rw [e1]
    exact ih (i + 1) k (by omega) (by omega)
theorem heights_at (k : Nat) (m : Int) (d : List Int) (l : Fs) (f : Int) (h0 : 0 ≤ f) (h1 : f < (l.length : Int)) (c : List (Int × Int)) (hc : (fa l f.toNat).2.2.2 = c) (hn : 1 ≤ c.length ∧ c.length ≤ 10000) (hk : c.length + 1 ≤ k) :
    f30 k ((((m, d, l), ()), (f, ()), ()), ()) = loopN (e30_1 k m d l) k (A21 m d l f c ((List.replicate c.length (-1)).set 0 0) [0]) := by
  rw [e30_eq, cpos ⟨h0, h1⟩, hc]
  have e1 : (decide ((0 : Int) ≤ (c.length : Int) ∧ (c.length : Int) ≤ (c.length : Int)) && (((c.length : Int).toNat * 8).ble 140737488355328 && (c.length : Int).toNat.ble 1152921504606846976)) = true := by
    rw [Int.toNat_natCast, Nat.ble_eq_true_of_le (by omega), Nat.ble_eq_true_of_le (by omega), decide_eq_true (by omega)]; rfl
  rw [e1, cond_true, Int.toNat_natCast, List.length_replicate]
  have := init21 k m m d d l l f c c.length hn c.length 0 k (by omega) hk
  rw [List.replicate_zero, List.nil_append] at this
  exact this
theorem heights_two {k : Nat} (hk : 2000 ≤ k) {m m' : Int} {d d' : List Int} {l l' : Fs} {f : Int} (h0 : 0 ≤ f) (h1 : f < (l.length : Int)) (h1' : f < (l'.length : Int)) {c c' : List (Int × Int)} {n e : Nat} (he : e ≤ 1000) (hc : (fa l f.toNat).2.2.2 = c) (hc' : (fa l' f.toNat).2.2.2 = c') (hP : Pre k m m' d d' l l' f c c' n e) :
    ∃ b r, f30 k ((((m, d, l), ()), (f, ()), ()), ()) = R21 b r ∧ (b = true → r.length = n ∧ f30 k ((((m', d', l'), ()), (f, ()), ()), ()) = R21 true (pad r e)) := by
  have g1 := hP.hc
  have g2 := hP.hc'
  have g3 := hP.n0
  rw [heights_at k m d l f h0 h1 c hc (by omega) (by omega), heights_at k m' d' l' f h0 h1' c' hc' (by omega) (by omega)]
  have e1 : (List.replicate c'.length (-1 : Int)).set 0 0 = pad ((List.replicate c.length (-1)).set 0 0) e := by
    rw [← pad_set (by simp; omega)]
    unfold pad
    rw [g1, g2, List.replicate_append_replicate]
  rw [e1]
  have hset : ∀ i, i < n → ia ((List.replicate c.length (-1 : Int)).set 0 0) i = if i = 0 then 0 else -1 := fun i hi => by
    rw [ia_set (by simp; omega)]
    split
    · rfl
    · rw [ia_get (by simp; omega)]; simp
  refine out21 (by omega) hP m m' d d' l l' 401 k _ [0] ?_ (by omega) (by omega) ⟨by simp [g1], fun i hi => ?_, fun t ht => ?_⟩
  · have : holes ((List.replicate c.length (-1 : Int)).set 0 0) ≤ ((List.replicate c.length (-1 : Int)).set 0 0).length := List.countP_le_length
    rw [List.length_set, List.length_replicate] at this
    simp only [List.length_singleton]; omega
  · rw [hset i hi]; split <;> omega
  · simp only [List.mem_singleton] at ht
    subst ht
    refine ⟨by omega, by omega, ?_⟩
    rw [Int.toNat_zero, hset 0 (by omega), if_pos rfl]; exact Int.le_refl _
end
end Go.Proofs.Ytjbdeccohpbegaa.Vm
