import Derived.Test.YtopnjcclbepdoaaKA
import Derived.Laws.BitsLemmas
namespace Go.Proofs.Ytopnjcclbepdoaa.Caps
open Go Go.RowKit Go.Proofs Go.Proofs.Ytopnjcclbepdoaa.X
set_option linter.unusedVariables false
set_option linter.unusedSimpArgs false
noncomputable section
/-! What a call asks for -/
theorem wrapId {n : Int} (h0 : -9223372036854775808 ≤ n) (h1 : n < 9223372036854775808) : IntKind.i64.wrap n = n := by
  rw [IntKind.wrap_i64]; omega
theorem loopN_succ {γ β : Type} (body : γ → (γ → Option β) → Option β) (k : Nat) (g : γ) : loopN body (k + 1) g = body g (loopN body k) := rfl
theorem cpos {α : Type} {p : Prop} {hd : Decidable p} {a b : α} (h : p) : cond (@decide p hd) a b = a := by rw [decide_eq_true h]; rfl
theorem cneg {α : Type} {p : Prop} {hd : Decidable p} {a b : α} (h : ¬ p) : cond (@decide p hd) a b = b := by rw [decide_eq_false h]; rfl
theorem alive (k : Nat) : f18 (k + 20) ((), ()) = some (((true, ()), ()), ()) := by kernel_rfl
def cloneB (xs : List Int) : Option (((List Int × Unit) × Unit) × Unit) := bif ((0 + xs.length) * 1).ble 140737488355328 then some ((([] ++ xs, ()), ()), ()) else none
theorem e39 (k : Nat) (xs : List Int) : f39 k (((xs, ()), ()), ()) = bif xs.isEmpty then both (some ((([], ()), ()), ())) (cloneB xs) else cloneB xs := by kernel_rfl
theorem clone_ok (k : Nat) (xs : List Int) (h : xs.length ≤ 140737488355328) : f39 k (((xs, ()), ()), ()) = some (((xs, ()), ()), ()) := by
  have hb : ((0 + xs.length) * 1).ble 140737488355328 = true := by rw [Nat.ble_eq]; omega
  rw [e39]
  unfold cloneB
  rw [hb]
  cases xs with
  | nil => exact both_self _
  | cons x xs => rfl
theorem in_ok (k : Nat) (a lo hi : Int) : f46 k (((a, ()), (lo, ()), (hi, ()), ()), ()) = some (((decide (lo ≤ a ∧ a ≤ hi), ()), ()), ()) := by
  have e : f46 k (((a, ()), (lo, ()), (hi, ()), ()), ()) = bif decide (a ≥ lo) then some (((decide (a ≤ hi), ()), ()), ()) else some (((false, ()), ()), ()) := by kernel_rfl
  rw [e]
  by_cases h : a ≥ lo
  · rw [cpos h]
    by_cases h2 : a ≤ hi
    · rw [decide_eq_true h2, decide_eq_true ⟨h, h2⟩]
    · rw [decide_eq_false h2, decide_eq_false (fun hh => h2 hh.2)]
  · rw [cneg h, decide_eq_false (fun hh => h hh.1)]
/-- a call: its number, pane, x, y, kind, rune, style, bytes -/
abbrev CT : Type := Int × Int × Int × Int × Int × Int × (Int × Int × Int) × List Int
abbrev c0 (n p : Int) : CT := (n, p, 0, 0, 0, 0, (0, 0, 0), [])
/-- the bytes at a place, if they lie there -/
def tailB (k : Nat) (a n : Int) (m : List Int) (f : List Int → CT) : Option (((CT × Unit) × (Int × Unit) × Unit) × Unit) :=
  bif decide (a < 0) then some (((c0 0 0, ()), (-4, ()), ()), ())
  else bif decide (a > (m.length : Int)) then some (((c0 0 0, ()), (-4, ()), ()), ())
  else bif decide (n > IntKind.i64.wrap ((m.length : Int) - a)) then some (((c0 0 0, ()), (-4, ()), ()), ())
  else bif decide (0 ≤ a ∧ a ≤ IntKind.i64.wrap (a + n) ∧ IntKind.i64.wrap (a + n) ≤ IntKind.i64.wrap (a + n) ∧ IntKind.i64.wrap (a + n) ≤ (m.length : Int)) then
    (f39 k (((List.drop a.toNat (List.take (IntKind.i64.wrap (a + n)).toNat m), ()), ()), ())).bind fun v => some (((f v.1.1.1, ()), (0, ()), ()), ())
  else none
theorem tail_ok (k : Nat) (a n : Int) (m : List Int) (f : List Int → CT) (hm : m.length ≤ 140737488355328) (h0 : 0 ≤ n) (h1 : n ≤ 64) :
    tailB k a n m f = if 0 ≤ a ∧ a + n ≤ (m.length : Int) then some (((f ((m.take (a + n).toNat).drop a.toNat), ()), (0, ()), ()), ()) else some (((c0 0 0, ()), (-4, ()), ()), ()) := by
  unfold tailB
  by_cases g0 : a < 0
  · rw [cpos g0, if_neg (by omega)]
  rw [cneg g0]
  by_cases g1 : a > (m.length : Int)
  · rw [cpos g1, if_neg (by omega)]
  rw [cneg g1, wrapId (n := (m.length : Int) - a) (by omega) (by omega)]
  by_cases g2 : n > (m.length : Int) - a
  · rw [cpos g2, if_neg (by omega)]
  rw [cneg g2, wrapId (n := a + n) (by omega) (by omega), cpos (by omega), clone_ok k _ (by simp; omega), if_pos (by omega)]
  rfl
theorem r5_eq (k : Nat) (a n : Int) : f38 k ((((), ()), ([7, a, n], ()), ()), (((c0 5 0 : CT), ()), ())) = (f46 k (((n, ()), (0, ()), (64, ()), ()), ())).bind fun v => some (((v.1.1.1, ()), ()), ((c0 5 7 : CT), ()), ()) := by kernel_rfl
theorem r11_eq (k : Nat) (a n : Int) : f38 k ((((), ()), ([a, n], ()), ()), (((c0 11 0 : CT), ()), ())) = (f46 k (((n, ()), (0, ()), (64, ()), ()), ())).bind fun v => some (((v.1.1.1, ()), ()), ((c0 11 0 : CT), ()), ()) := by kernel_rfl
theorem a5_eq (k : Nat) (a n : Int) (m : List Int) : f19 k (((4, ()), (5, ()), ([7, a, n], ()), (m, ()), ()), ()) = (f38 k ((((), ()), ([7, a, n], ()), ()), (((c0 5 0 : CT), ()), ()))).bind fun v =>
    bif !v.1.1.1 then some (((c0 0 0, ()), (-3, ()), ()), ()) else tailB k a n m fun b => (v.2.1.1.1, v.2.1.1.2.1, v.2.1.1.2.2.1, v.2.1.1.2.2.2.1, v.2.1.1.2.2.2.2.1, v.2.1.1.2.2.2.2.2.1, (v.2.1.1.2.2.2.2.2.2.1.1, v.2.1.1.2.2.2.2.2.2.1.2.1, v.2.1.1.2.2.2.2.2.2.1.2.2), b) := by kernel_rfl
theorem a11_eq (k : Nat) (a n : Int) (m : List Int) : f19 k (((0, ()), (11, ()), ([a, n], ()), (m, ()), ()), ()) = (f38 k ((((), ()), ([a, n], ()), ()), (((c0 11 0 : CT), ()), ()))).bind fun v =>
    bif !v.1.1.1 then some (((c0 0 0, ()), (-3, ()), ()), ()) else tailB k a n m fun b => (v.2.1.1.1, v.2.1.1.2.1, v.2.1.1.2.2.1, v.2.1.1.2.2.2.1, v.2.1.1.2.2.2.2.1, v.2.1.1.2.2.2.2.2.1, (v.2.1.1.2.2.2.2.2.2.1.1, v.2.1.1.2.2.2.2.2.2.1.2.1, v.2.1.1.2.2.2.2.2.2.1.2.2), b) := by kernel_rfl
def askR (a n : Int) (m : List Int) (N P : Int) : Option (((CT × Unit) × (Int × Unit) × Unit) × Unit) :=
  if 0 ≤ n ∧ n ≤ 64 then (if 0 ≤ a ∧ a + n ≤ (m.length : Int) then some ((((N, P, 0, 0, 0, 0, (0, 0, 0), (m.take (a + n).toNat).drop a.toNat), ()), (0, ()), ()), ()) else some (((c0 0 0, ()), (-4, ()), ()), ())) else some (((c0 0 0, ()), (-3, ()), ()), ())
theorem ask5 (k : Nat) (a n : Int) (m : List Int) (hm : m.length ≤ 140737488355328) : f19 k (((4, ()), (5, ()), ([7, a, n], ()), (m, ()), ()), ()) = askR a n m 5 7 := by
  rw [a5_eq, r5_eq, in_ok, Option.bind_some, Option.bind_some]
  unfold askR
  by_cases h : 0 ≤ n ∧ n ≤ 64
  · simp only [decide_eq_true h, Bool.not_true, cond_false]
    rw [tail_ok k a n m _ hm h.1 h.2, if_pos h]
  · simp only [decide_eq_false h, Bool.not_false, cond_true]
    rw [if_neg h]
theorem ask11 (k : Nat) (a n : Int) (m : List Int) (hm : m.length ≤ 140737488355328) : f19 k (((0, ()), (11, ()), ([a, n], ()), (m, ()), ()), ()) = askR a n m 11 0 := by
  rw [a11_eq, r11_eq, in_ok, Option.bind_some, Option.bind_some]
  unfold askR
  by_cases h : 0 ≤ n ∧ n ≤ 64
  · simp only [decide_eq_true h, Bool.not_true, cond_false]
    rw [tail_ok k a n m _ hm h.1 h.2, if_pos h]
  · simp only [decide_eq_false h, Bool.not_false, cond_true]
    rw [if_neg h]
def e22_0 (g : ((List Int × PUnit) × (List Int × PUnit) × (Int × PUnit) × PUnit) × PUnit) (L : ((List Int × PUnit) × (List Int × PUnit) × (Int × PUnit) × PUnit) × PUnit → Option (((Bool × PUnit) × PUnit) × PUnit)) : Option (((Bool × PUnit) × PUnit) × PUnit) := bif decide (g.1.2.2.1.1 < (↑g.1.1.1.length : Int)) then
  bif decide ((0 : Int) ≤ g.1.2.2.1.1 ∧ g.1.2.2.1.1 < (↑g.1.1.1.length : Int)) then
    bif decide ((0 : Int) ≤ g.1.2.2.1.1 ∧ g.1.2.2.1.1 < (↑g.1.2.1.1.length : Int)) then
      bif gt (Sh.int IntKind.u8) g.1.1.1 g.1.2.2.1.1.toNat != gt (Sh.int IntKind.u8) g.1.2.1.1 g.1.2.2.1.1.toNat then
        some (((false, ()), ()), ())
      else L (((g.1.1.1, ()), (g.1.2.1.1, ()), (IntKind.i64.wrap (g.1.2.2.1.1 + (1 : Int)), ()), ()), ())
    else none
  else none
else some (((true, ()), ()), ())
theorem e22_eq (k : Nat) (xs : List Int) (ys : List Int) : f22 k (((xs, ()), (ys, ()), ()), ()) = bif (↑xs.length : Int) != (↑ys.length : Int) then some (((false, ()), ()), ())
else loopN e22_0 k (((xs, ()), (ys, ()), ((0 : Int), ()), ()), ()) := by kernel_rfl
theorem same_ok (xs : List Int) (k : Nat) (hl : xs.length < 4611686018427387904) (hk : xs.length + 1 ≤ k) : f22 k (((xs, ()), (xs, ()), ()), ()) = some (((true, ()), ()), ()) := by
  rw [e22_eq]
  simp only [bne_self_eq_false, cond_false]
  have loop : ∀ (j k i : Nat), i + j = xs.length → j + 1 ≤ k → loopN e22_0 k (((xs, ()), (xs, ()), ((i : Int), ()), ()), ()) = some (((true, ()), ()), ()) := by
    intro j
    induction j with
    | zero =>
      intro k i hi hk
      obtain ⟨k, rfl⟩ : ∃ k', k = k' + 1 := ⟨k - 1, by omega⟩
      simp only [loopN_succ, e22_0]
      rw [cneg (by omega)]
    | succ j ih =>
      intro k i hi hk
      obtain ⟨k, rfl⟩ : ∃ k', k = k' + 1 := ⟨k - 1, by omega⟩
      simp only [loopN_succ, e22_0]
      rw [cpos (by omega), cpos (by omega)]
      simp only [bne_self_eq_false, cond_false]
      rw [cpos (by omega), wrapId (by omega) (by omega), show ((i : Int) + 1) = ((i + 1 : Nat) : Int) by omega]
      exact ih k (i + 1) (by omega) (by omega)
  exact loop xs.length k 0 (by omega) hk
end
end Go.Proofs.Ytopnjcclbepdoaa.Caps
