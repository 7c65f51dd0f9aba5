import Derived.Test.YtmokmkaipcojkaaHA
namespace Go.Proofs.Ytmokmkaipcojkaa.Hull
open Go Go.RowKit Go.Proofs Go.Proofs.Ytmokmkaipcojkaa.X
set_option linter.unusedVariables false
set_option linter.unusedSimpArgs false
noncomputable section
/-! The hull of two rectangles -/
theorem alive (k : Nat) : f12 (k + 60) ((), ()) = some (((true, ()), ()), ()) := by kernel_rfl
def imin (a b : Int) : Int := if b < a then b else a
def imax (a b : Int) : Int := if b > a then b else a
theorem imin_eq (a b : Int) : imin a b = min a b := by unfold imin; split <;> omega
theorem imax_eq (a b : Int) : imax a b = max a b := by unfold imax; split <;> omega
theorem wrapId {n : Int} (h0 : -9223372036854775808 ≤ n) (h1 : n < 9223372036854775808) : IntKind.i64.wrap n = n := by
  rw [IntKind.wrap_i64]; omega
theorem bpos {a c : Int} (h : a = c) : (a == c) = true := by simp [h]
theorem bneg {a c : Int} (h : ¬ a = c) : (a == c) = false := by simp [h]
theorem e17_eq (k : Nat) (n : Int) (lo : Int) (hi : Int) : f17 k (((n, ()), (lo, ()), (hi, ()), ()), ()) = some (((imax lo (imin n hi), ()), ()), ()) := by kernel_rfl
theorem e20_eq (k : Nat) (x : Int) (y : Int) (w : Int) (h : Int) : f20 k ((((x, y, w, h), ()), ()), ()) = (f17 k (((x, ()), ((-5000 : Int), ()), ((5000 : Int), ()), ()), ())).bind fun v => (f17 k (((y, ()), ((-5000 : Int), ()), ((5000 : Int), ()), ()), ())).bind fun v_1 => (f17 k (((w, ()), ((0 : Int), ()), (imin (200 : Int) (IntKind.i64.wrap ((5000 : Int) - v.1.1.1)), ()), ()), ())).bind fun v_2 => (f17 k (((h, ()), ((0 : Int), ()), (imin (200 : Int) (IntKind.i64.wrap ((5000 : Int) - v_1.1.1.1)), ()), ()), ())).bind fun v_3 => bif v_2.1.1.1 == (0 : Int) then some (((((0 : Int), (0 : Int), (0 : Int), (0 : Int)), ()), ()), ()) else bif v_3.1.1.1 == (0 : Int) then some (((((0 : Int), (0 : Int), (0 : Int), (0 : Int)), ()), ()), ()) else some ((((v.1.1.1, v_1.1.1.1, v_2.1.1.1, v_3.1.1.1), ()), ()), ()) := by kernel_rfl
theorem e39_eq (k : Nat) (x : Int) (y : Int) (w : Int) (h : Int) : f39 k (((x, ()), (y, ()), (w, ()), (h, ()), ()), ()) = (f20 k ((((x, y, IntKind.i64.wrap (w - x), IntKind.i64.wrap (h - y)), ()), ()), ())).bind fun v => some ((((v.1.1.1.1, v.1.1.1.2.1, v.1.1.1.2.2.1, v.1.1.1.2.2.2), ()), ()), ()) := by kernel_rfl
theorem e26_eq (k : Nat) (x : Int) (y : Int) (w : Int) (h : Int) (x' : Int) (y' : Int) (w' : Int) (h' : Int) : f26 k ((((x, y, w, h), ()), ((x', y', w', h'), ()), ()), ()) = (f20 k ((((x, y, w, h), ()), ()), ())).bind fun v => (f20 k ((((x', y', w', h'), ()), ()), ())).bind fun v_1 => (f39 k (((imax v.1.1.1.1 v_1.1.1.1.1, ()), (imax v.1.1.1.2.1 v_1.1.1.1.2.1, ()), (imin (IntKind.i64.wrap (v.1.1.1.1 + v.1.1.1.2.2.1)) (IntKind.i64.wrap (v_1.1.1.1.1 + v_1.1.1.1.2.2.1)), ()), (imin (IntKind.i64.wrap (v.1.1.1.2.1 + v.1.1.1.2.2.2)) (IntKind.i64.wrap (v_1.1.1.1.2.1 + v_1.1.1.1.2.2.2)), ()), ()), ())).bind fun v => some ((((v.1.1.1.1, v.1.1.1.2.1, v.1.1.1.2.2.1, v.1.1.1.2.2.2), ()), ()), ()) := by kernel_rfl
theorem e25_eq (k : Nat) (x : Int) (y : Int) (w : Int) (h : Int) (x' : Int) (y' : Int) (w' : Int) (h' : Int) : f25 k ((((x, y, w, h), ()), ((x', y', w', h'), ()), ()), ()) = (f26 k ((((x, y, w, h), ()), ((x', y', w', h'), ()), ()), ())).bind fun v => (f20 k ((((x, y, w, h), ()), ()), ())).bind fun v_1 => some (((v.1.1.1.1 == v_1.1.1.1.1 && (v.1.1.1.2.1 == v_1.1.1.1.2.1 && (v.1.1.1.2.2.1 == v_1.1.1.1.2.2.1 && (v.1.1.1.2.2.2 == v_1.1.1.1.2.2.2 && true))), ()), ()), ()) := by kernel_rfl
theorem e35_eq (k : Nat) (x : Int) (y : Int) (w : Int) (h : Int) (x' : Int) (y' : Int) (w' : Int) (h' : Int) : f35 k ((((x, y, w, h), ()), ((x', y', w', h'), ()), ()), ()) = (f20 k ((((x, y, w, h), ()), ()), ())).bind fun v => (f20 k ((((x', y', w', h'), ()), ()), ())).bind fun v_1 => bif v.1.1.1.2.2.1 == (0 : Int) then some ((((v_1.1.1.1.1, v_1.1.1.1.2.1, v_1.1.1.1.2.2.1, v_1.1.1.1.2.2.2), ()), ()), ()) else bif v_1.1.1.1.2.2.1 == (0 : Int) then some ((((v.1.1.1.1, v.1.1.1.2.1, v.1.1.1.2.2.1, v.1.1.1.2.2.2), ()), ()), ()) else (f39 k (((imin v.1.1.1.1 v_1.1.1.1.1, ()), (imin v.1.1.1.2.1 v_1.1.1.1.2.1, ()), (imax (IntKind.i64.wrap (v.1.1.1.1 + v.1.1.1.2.2.1)) (IntKind.i64.wrap (v_1.1.1.1.1 + v_1.1.1.1.2.2.1)), ()), (imax (IntKind.i64.wrap (v.1.1.1.2.1 + v.1.1.1.2.2.2)) (IntKind.i64.wrap (v_1.1.1.1.2.1 + v_1.1.1.1.2.2.2)), ()), ()), ())).bind fun v => some ((((v.1.1.1.1, v.1.1.1.2.1, v.1.1.1.2.2.1, v.1.1.1.2.2.2), ()), ()), ()) := by kernel_rfl
theorem e10_eq (k : Nat) (x : Int) (y : Int) (w : Int) (h : Int) (x' : Int) (y' : Int) (w' : Int) (h' : Int) : f10 k ((((x, y, w, h), ()), ((x', y', w', h'), ()), ()), ()) = (f12 k ((), ())).bind fun v => bif !v.1.1.1 then some (((false, ()), ()), ()) else (f35 k ((((x, y, w, h), ()), ((x', y', w', h'), ()), ()), ())).bind fun v_1 => (f20 k ((((x, y, w, h), ()), ()), ())).bind fun v_2 => (f20 k ((((x', y', w', h'), ()), ()), ())).bind fun v_3 => (f35 k ((((x', y', w', h'), ()), ((x, y, w, h), ()), ()), ())).bind fun v_4 => bif !(v_1.1.1.1.1 == v_4.1.1.1.1 && (v_1.1.1.1.2.1 == v_4.1.1.1.2.1 && (v_1.1.1.1.2.2.1 == v_4.1.1.1.2.2.1 && (v_1.1.1.1.2.2.2 == v_4.1.1.1.2.2.2 && true)))) then some (((false, ()), ()), ()) else (f35 k ((((v_1.1.1.1.1, v_1.1.1.1.2.1, v_1.1.1.1.2.2.1, v_1.1.1.1.2.2.2), ()), ((v_1.1.1.1.1, v_1.1.1.1.2.1, v_1.1.1.1.2.2.1, v_1.1.1.1.2.2.2), ()), ()), ())).bind fun v_5 => bif !(v_5.1.1.1.1 == v_1.1.1.1.1 && (v_5.1.1.1.2.1 == v_1.1.1.1.2.1 && (v_5.1.1.1.2.2.1 == v_1.1.1.1.2.2.1 && (v_5.1.1.1.2.2.2 == v_1.1.1.1.2.2.2 && true)))) then some (((false, ()), ()), ()) else (f35 k ((((x, y, w, h), ()), (((0 : Int), (0 : Int), (0 : Int), (0 : Int)), ()), ()), ())).bind fun v_6 => bif !(v_6.1.1.1.1 == v_2.1.1.1.1 && (v_6.1.1.1.2.1 == v_2.1.1.1.2.1 && (v_6.1.1.1.2.2.1 == v_2.1.1.1.2.2.1 && (v_6.1.1.1.2.2.2 == v_2.1.1.1.2.2.2 && true)))) then some (((false, ()), ()), ()) else bif v_2.1.1.1.2.2.1 == (0 : Int) then some (((true, ()), ()), ()) else bif v_3.1.1.1.2.2.1 == (0 : Int) then some (((true, ()), ()), ()) else bif v_1.1.1.1.2.2.1 == (200 : Int) then some (((true, ()), ()), ()) else bif v_1.1.1.1.2.2.2 == (200 : Int) then some (((true, ()), ()), ()) else (f25 k ((((x, y, w, h), ()), ((v_1.1.1.1.1, v_1.1.1.1.2.1, v_1.1.1.1.2.2.1, v_1.1.1.1.2.2.2), ()), ()), ())).bind fun v_7 => bif v_7.1.1.1 then (f25 k ((((x', y', w', h'), ()), ((v_1.1.1.1.1, v_1.1.1.1.2.1, v_1.1.1.1.2.2.1, v_1.1.1.1.2.2.2), ()), ()), ())).bind fun v => bif v.1.1.1 then bif v_1.1.1.1.1 == v_2.1.1.1.1 then bif v_1.1.1.1.2.1 == v_2.1.1.1.2.1 then bif IntKind.i64.wrap (v_1.1.1.1.1 + v_1.1.1.1.2.2.1) == IntKind.i64.wrap (v_2.1.1.1.1 + v_2.1.1.1.2.2.1) then bif IntKind.i64.wrap (v_1.1.1.1.2.1 + v_1.1.1.1.2.2.2) == IntKind.i64.wrap (v_2.1.1.1.2.1 + v_2.1.1.1.2.2.2) then some (((true, ()), ()), ()) else some (((IntKind.i64.wrap (v_1.1.1.1.2.1 + v_1.1.1.1.2.2.2) == IntKind.i64.wrap (v_3.1.1.1.2.1 + v_3.1.1.1.2.2.2), ()), ()), ()) else bif IntKind.i64.wrap (v_1.1.1.1.1 + v_1.1.1.1.2.2.1) == IntKind.i64.wrap (v_3.1.1.1.1 + v_3.1.1.1.2.2.1) then bif IntKind.i64.wrap (v_1.1.1.1.2.1 + v_1.1.1.1.2.2.2) == IntKind.i64.wrap (v_2.1.1.1.2.1 + v_2.1.1.1.2.2.2) then some (((true, ()), ()), ()) else some (((IntKind.i64.wrap (v_1.1.1.1.2.1 + v_1.1.1.1.2.2.2) == IntKind.i64.wrap (v_3.1.1.1.2.1 + v_3.1.1.1.2.2.2), ()), ()), ()) else some (((false, ()), ()), ()) else bif v_1.1.1.1.2.1 == v_3.1.1.1.2.1 then bif IntKind.i64.wrap (v_1.1.1.1.1 + v_1.1.1.1.2.2.1) == IntKind.i64.wrap (v_2.1.1.1.1 + v_2.1.1.1.2.2.1) then bif IntKind.i64.wrap (v_1.1.1.1.2.1 + v_1.1.1.1.2.2.2) == IntKind.i64.wrap (v_2.1.1.1.2.1 + v_2.1.1.1.2.2.2) then some (((true, ()), ()), ()) else some (((IntKind.i64.wrap (v_1.1.1.1.2.1 + v_1.1.1.1.2.2.2) == IntKind.i64.wrap (v_3.1.1.1.2.1 + v_3.1.1.1.2.2.2), ()), ()), ()) else bif IntKind.i64.wrap (v_1.1.1.1.1 + v_1.1.1.1.2.2.1) == IntKind.i64.wrap (v_3.1.1.1.1 + v_3.1.1.1.2.2.1) then bif IntKind.i64.wrap (v_1.1.1.1.2.1 + v_1.1.1.1.2.2.2) == IntKind.i64.wrap (v_2.1.1.1.2.1 + v_2.1.1.1.2.2.2) then some (((true, ()), ()), ()) else some (((IntKind.i64.wrap (v_1.1.1.1.2.1 + v_1.1.1.1.2.2.2) == IntKind.i64.wrap (v_3.1.1.1.2.1 + v_3.1.1.1.2.2.2), ()), ()), ()) else some (((false, ()), ()), ()) else some (((false, ()), ()), ()) else bif v_1.1.1.1.1 == v_3.1.1.1.1 then bif v_1.1.1.1.2.1 == v_2.1.1.1.2.1 then bif IntKind.i64.wrap (v_1.1.1.1.1 + v_1.1.1.1.2.2.1) == IntKind.i64.wrap (v_2.1.1.1.1 + v_2.1.1.1.2.2.1) then bif IntKind.i64.wrap (v_1.1.1.1.2.1 + v_1.1.1.1.2.2.2) == IntKind.i64.wrap (v_2.1.1.1.2.1 + v_2.1.1.1.2.2.2) then some (((true, ()), ()), ()) else some (((IntKind.i64.wrap (v_1.1.1.1.2.1 + v_1.1.1.1.2.2.2) == IntKind.i64.wrap (v_3.1.1.1.2.1 + v_3.1.1.1.2.2.2), ()), ()), ()) else bif IntKind.i64.wrap (v_1.1.1.1.1 + v_1.1.1.1.2.2.1) == IntKind.i64.wrap (v_3.1.1.1.1 + v_3.1.1.1.2.2.1) then bif IntKind.i64.wrap (v_1.1.1.1.2.1 + v_1.1.1.1.2.2.2) == IntKind.i64.wrap (v_2.1.1.1.2.1 + v_2.1.1.1.2.2.2) then some (((true, ()), ()), ()) else some (((IntKind.i64.wrap (v_1.1.1.1.2.1 + v_1.1.1.1.2.2.2) == IntKind.i64.wrap (v_3.1.1.1.2.1 + v_3.1.1.1.2.2.2), ()), ()), ()) else some (((false, ()), ()), ()) else bif v_1.1.1.1.2.1 == v_3.1.1.1.2.1 then bif IntKind.i64.wrap (v_1.1.1.1.1 + v_1.1.1.1.2.2.1) == IntKind.i64.wrap (v_2.1.1.1.1 + v_2.1.1.1.2.2.1) then bif IntKind.i64.wrap (v_1.1.1.1.2.1 + v_1.1.1.1.2.2.2) == IntKind.i64.wrap (v_2.1.1.1.2.1 + v_2.1.1.1.2.2.2) then some (((true, ()), ()), ()) else some (((IntKind.i64.wrap (v_1.1.1.1.2.1 + v_1.1.1.1.2.2.2) == IntKind.i64.wrap (v_3.1.1.1.2.1 + v_3.1.1.1.2.2.2), ()), ()), ()) else bif IntKind.i64.wrap (v_1.1.1.1.1 + v_1.1.1.1.2.2.1) == IntKind.i64.wrap (v_3.1.1.1.1 + v_3.1.1.1.2.2.1) then bif IntKind.i64.wrap (v_1.1.1.1.2.1 + v_1.1.1.1.2.2.2) == IntKind.i64.wrap (v_2.1.1.1.2.1 + v_2.1.1.1.2.2.2) then some (((true, ()), ()), ()) else some (((IntKind.i64.wrap (v_1.1.1.1.2.1 + v_1.1.1.1.2.2.2) == IntKind.i64.wrap (v_3.1.1.1.2.1 + v_3.1.1.1.2.2.2), ()), ()), ()) else some (((false, ()), ()), ()) else some (((false, ()), ()), ()) else some (((false, ()), ()), ()) else some (((false, ()), ()), ()) else some (((false, ()), ()), ()) := by kernel_rfl

def cl (x y w h : Int) : Int × Int × Int × Int :=
  if max 0 (min w (min 200 (5000 - max (-5000) (min x 5000)))) = 0 then (0, 0, 0, 0) else
  if max 0 (min h (min 200 (5000 - max (-5000) (min y 5000)))) = 0 then (0, 0, 0, 0) else
  (max (-5000) (min x 5000), max (-5000) (min y 5000), max 0 (min w (min 200 (5000 - max (-5000) (min x 5000)))), max 0 (min h (min 200 (5000 - max (-5000) (min y 5000)))))
/-- A rectangle that is clean. -/
def Nrm (X Y W H : Int) : Prop := (X = 0 ∧ Y = 0 ∧ W = 0 ∧ H = 0) ∨ (-5000 ≤ X ∧ -5000 ≤ Y ∧ 1 ≤ W ∧ W ≤ 200 ∧ 1 ≤ H ∧ H ≤ 200 ∧ X + W ≤ 5000 ∧ Y + H ≤ 5000)
theorem clean_ok (k : Nat) (x y w h : Int) : f20 k ((((x, y, w, h), ()), ()), ()) = some (((cl x y w h, ()), ()), ()) := by
  rw [e20_eq, e17_eq, Option.bind_some]
  simp only []
  rw [e17_eq, Option.bind_some]
  simp only []
  rw [e17_eq, Option.bind_some]
  simp only []
  rw [e17_eq, Option.bind_some]
  simp only [imax_eq, imin_eq]
  rw [wrapId (n := 5000 - max (-5000) (min x 5000)) (by omega) (by omega), wrapId (n := 5000 - max (-5000) (min y 5000)) (by omega) (by omega)]
  unfold cl
  by_cases c1 : max 0 (min w (min 200 (5000 - max (-5000) (min x 5000)))) = 0
  · rw [bpos c1, cond_true, if_pos c1]
  · rw [bneg c1, cond_false, if_neg c1]
    by_cases c2 : max 0 (min h (min 200 (5000 - max (-5000) (min y 5000)))) = 0
    · rw [bpos c2, cond_true, if_pos c2]
    · rw [bneg c2, cond_false, if_neg c2]
theorem cl_nrm (x y w h : Int) : ∃ X Y W H, cl x y w h = (X, Y, W, H) ∧ Nrm X Y W H ∧
    ((W = 0 ∧ (max 0 (min w (min 200 (5000 - max (-5000) (min x 5000)))) = 0 ∨ max 0 (min h (min 200 (5000 - max (-5000) (min y 5000)))) = 0)) ∨
      (W ≠ 0 ∧ X = max (-5000) (min x 5000) ∧ Y = max (-5000) (min y 5000) ∧ W = max 0 (min w (min 200 (5000 - max (-5000) (min x 5000)))) ∧ H = max 0 (min h (min 200 (5000 - max (-5000) (min y 5000)))))) := by
  unfold cl
  split
  · exact ⟨0, 0, 0, 0, rfl, .inl ⟨rfl, rfl, rfl, rfl⟩, .inl ⟨rfl, .inl ‹_›⟩⟩
  · split
    · exact ⟨0, 0, 0, 0, rfl, .inl ⟨rfl, rfl, rfl, rfl⟩, .inl ⟨rfl, .inr ‹_›⟩⟩
    · refine ⟨_, _, _, _, rfl, .inr ?_, .inr ⟨‹_›, rfl, rfl, rfl, rfl⟩⟩
      omega
theorem cl_of_nrm {X Y W H : Int} (h : Nrm X Y W H) : cl X Y W H = (X, Y, W, H) := by
  obtain ⟨X', Y', W', H', e, n, r⟩ := cl_nrm X Y W H
  rw [e]
  unfold Nrm at *
  simp only [Prod.mk.injEq]
  omega
theorem nrm_ends {X Y W H : Int} (n : Nrm X Y W H) : IntKind.i64.wrap (X + W) = X + W ∧ IntKind.i64.wrap (Y + H) = Y + H := by
  unfold Nrm at n
  exact ⟨wrapId (by omega) (by omega), wrapId (by omega) (by omega)⟩
theorem between_ok (k : Nat) {x y r b : Int} (h1 : -20000 ≤ x ∧ x ≤ 20000) (h2 : -20000 ≤ y ∧ y ≤ 20000) (h3 : -20000 ≤ r ∧ r ≤ 20000) (h4 : -20000 ≤ b ∧ b ≤ 20000) : f39 k (((x, ()), (y, ()), (r, ()), (b, ()), ()), ()) = some (((cl x y (r - x) (b - y), ()), ()), ()) := by
  rw [e39_eq, wrapId (n := r - x) (by omega) (by omega), wrapId (n := b - y) (by omega) (by omega), clean_ok, Option.bind_some]
/-- Of a rectangle that begins in the field and ends in it nothing is cut away. -/
theorem cl_in {x y w h : Int} (h1 : -5000 ≤ x) (h2 : -5000 ≤ y) (h3 : x + w ≤ 5000) (h4 : y + h ≤ 5000) (h5 : w ≤ 200) (h6 : h ≤ 200) :
    cl x y w h = if w ≤ 0 ∨ h ≤ 0 then (0, 0, 0, 0) else (x, y, w, h) := by
  obtain ⟨X, Y, W, H, e, n, r⟩ := cl_nrm x y w h
  rw [e]
  unfold Nrm at n
  split <;> simp only [Prod.mk.injEq] <;> omega
def meetS (X Y W H X' Y' W' H' : Int) : Int × Int × Int × Int :=
  if min (X + W) (X' + W') ≤ max X X' ∨ min (Y + H) (Y' + H') ≤ max Y Y' then (0, 0, 0, 0) else (max X X', max Y Y', min (X + W) (X' + W') - max X X', min (Y + H) (Y' + H') - max Y Y')
theorem meet_ok (k : Nat) {x y w h X Y W H x' y' w' h' X' Y' W' H' : Int} (e : cl x y w h = (X, Y, W, H)) (e' : cl x' y' w' h' = (X', Y', W', H')) (n : Nrm X Y W H) (n' : Nrm X' Y' W' H') :
    f26 k ((((x, y, w, h), ()), ((x', y', w', h'), ()), ()), ()) = some (((meetS X Y W H X' Y' W' H', ()), ()), ()) := by
  obtain ⟨a1, a2⟩ := nrm_ends n
  obtain ⟨b1, b2⟩ := nrm_ends n'
  rw [e26_eq, clean_ok, Option.bind_some, clean_ok, Option.bind_some, e, e']
  simp only [imax_eq, imin_eq]
  rw [a1, a2, b1, b2]
  unfold Nrm at n n'
  rw [between_ok k (by omega) (by omega) (by omega) (by omega), Option.bind_some, cl_in (by omega) (by omega) (by omega) (by omega) (by omega) (by omega)]
  unfold meetS
  by_cases c : min (X + W) (X' + W') ≤ max X X' ∨ min (Y + H) (Y' + H') ≤ max Y Y'
  · rw [if_pos c, if_pos (by omega)]
  · rw [if_neg c, if_neg (by omega)]
theorem meetS_nrm {X Y W H X' Y' W' H' : Int} (n : Nrm X Y W H) (n' : Nrm X' Y' W' H') : ∃ M N P R, meetS X Y W H X' Y' W' H' = (M, N, P, R) ∧ Nrm M N P R ∧
    ((P = 0 ∧ (min (X + W) (X' + W') ≤ max X X' ∨ min (Y + H) (Y' + H') ≤ max Y Y')) ∨ (P ≠ 0 ∧ M = max X X' ∧ N = max Y Y' ∧ M + P = min (X + W) (X' + W') ∧ N + R = min (Y + H) (Y' + H'))) := by
  unfold meetS
  split
  · exact ⟨0, 0, 0, 0, rfl, .inl ⟨rfl, rfl, rfl, rfl⟩, .inl ⟨rfl, ‹_›⟩⟩
  · refine ⟨_, _, _, _, rfl, ?_, .inr ?_⟩
    · unfold Nrm at *; omega
    · omega
def hullS (X Y W H X' Y' W' H' : Int) : Int × Int × Int × Int :=
  if W = 0 then (X', Y', W', H') else if W' = 0 then (X, Y, W, H) else
    (min X X', min Y Y', min (max (X + W) (X' + W') - min X X') 200, min (max (Y + H) (Y' + H') - min Y Y') 200)
theorem hull_ok (k : Nat) {x y w h X Y W H x' y' w' h' X' Y' W' H' : Int} (e : cl x y w h = (X, Y, W, H)) (e' : cl x' y' w' h' = (X', Y', W', H')) (n : Nrm X Y W H) (n' : Nrm X' Y' W' H') :
    f35 k ((((x, y, w, h), ()), ((x', y', w', h'), ()), ()), ()) = some (((hullS X Y W H X' Y' W' H', ()), ()), ()) := by
  obtain ⟨a1, a2⟩ := nrm_ends n
  obtain ⟨b1, b2⟩ := nrm_ends n'
  unfold hullS
  rw [e35_eq, clean_ok, Option.bind_some, clean_ok, Option.bind_some, e, e']
  simp only [imax_eq, imin_eq]
  by_cases c1 : W = 0
  · rw [bpos c1, cond_true, if_pos c1]
  · rw [bneg c1, cond_false, if_neg c1]
    by_cases c2 : W' = 0
    · rw [bpos c2, cond_true, if_pos c2]
    · rw [bneg c2, cond_false, if_neg c2, a1, a2, b1, b2]
      unfold Nrm at n n'
      rw [between_ok k (by omega) (by omega) (by omega) (by omega), Option.bind_some]
      have hm : -5000 ≤ min X X' ∧ min X X' ≤ 4999 ∧ min X X' < max (X + W) (X' + W') ∧ max (X + W) (X' + W') ≤ 5000 := by omega
      have hn : -5000 ≤ min Y Y' ∧ min Y Y' ≤ 4999 ∧ min Y Y' < max (Y + H) (Y' + H') ∧ max (Y + H) (Y' + H') ≤ 5000 := by omega
      clear n n' a1 a2 b1 b2 e e'
      generalize min X X' = p at *
      generalize min Y Y' = q at *
      generalize max (X + W) (X' + W') = r at *
      generalize max (Y + H) (Y' + H') = s at *
      obtain ⟨X1, Y1, W1, H1, e1, n1, r1⟩ := cl_nrm p q (r - p) (s - q)
      rw [e1]
      unfold Nrm at n1
      have hh : X1 = p ∧ Y1 = q ∧ W1 = min (r - p) 200 ∧ H1 = min (s - q) 200 := by omega
      obtain ⟨rfl, rfl, rfl, rfl⟩ := hh
      rfl
def HC (X Y W H X' Y' W' H' M N P R : Int) : Prop := (W = 0 ∧ M = X' ∧ N = Y' ∧ P = W' ∧ R = H') ∨ (W ≠ 0 ∧ W' = 0 ∧ M = X ∧ N = Y ∧ P = W ∧ R = H) ∨
      (W ≠ 0 ∧ W' ≠ 0 ∧ M = min X X' ∧ N = min Y Y' ∧ P = min (max (X + W) (X' + W') - min X X') 200 ∧ R = min (max (Y + H) (Y' + H') - min Y Y') 200)
theorem hc_sym {X Y W H X' Y' W' H' M N P R M2 N2 P2 R2 : Int} (n : Nrm X Y W H) (n' : Nrm X' Y' W' H') (h : HC X Y W H X' Y' W' H' M N P R) (h2 : HC X' Y' W' H' X Y W H M2 N2 P2 R2) : M = M2 ∧ N = N2 ∧ P = P2 ∧ R = R2 := by
  unfold HC at h h2
  unfold Nrm at n n'
  by_cases c1 : W = 0
  · by_cases c2 : W' = 0
    · have g1 : X = 0 ∧ Y = 0 ∧ H = 0 := by clear h h2 n'; omega
      have g2 : X' = 0 ∧ Y' = 0 ∧ H' = 0 := by clear h h2 n; omega
      clear n n'; omega
    · clear n n'; omega
  · by_cases c2 : W' = 0
    · clear n n'; omega
    · have a := (h.resolve_left (fun q => c1 q.1)).resolve_left (fun q => c2 q.2.1)
      have b := (h2.resolve_left (fun q => c2 q.1)).resolve_left (fun q => c1 q.2.1)
      clear h h2 n n'
      rw [a.2.2.1, a.2.2.2.1, a.2.2.2.2.1, a.2.2.2.2.2, b.2.2.1, b.2.2.2.1, b.2.2.2.2.1, b.2.2.2.2.2, Int.min_comm X, Int.min_comm Y, Int.max_comm (X + W), Int.max_comm (Y + H)]
      exact ⟨rfl, rfl, rfl, rfl⟩
theorem hc_self {X Y W H M N P R : Int} (n : Nrm X Y W H) (h : HC X Y W H X Y W H M N P R) : M = X ∧ N = Y ∧ P = W ∧ R = H := by
  unfold HC at h
  unfold Nrm at n
  rw [Int.min_self, Int.min_self, Int.max_self, Int.max_self] at h
  omega
theorem hc_zero {X Y W H M N P R : Int} (n : Nrm X Y W H) (h : HC X Y W H 0 0 0 0 M N P R) : M = X ∧ N = Y ∧ P = W ∧ R = H := by
  unfold HC at h
  unfold Nrm at n
  by_cases c1 : W = 0
  · omega
  · have := (h.resolve_left (fun q => c1 q.1))
    rcases this with h1 | h1
    · clear n h; omega
    · exact absurd rfl h1.2.1
theorem hc_big {X Y W H X' Y' W' H' M N P R : Int} (c1 : ¬ W = 0) (c2 : ¬ W' = 0) (c3 : ¬ P = 200) (c4 : ¬ R = 200) (h : HC X Y W H X' Y' W' H' M N P R) : M = min X X' ∧ N = min Y Y' ∧ P = max (X + W) (X' + W') - M ∧ R = max (Y + H) (Y' + H') - N := by
  unfold HC at h
  have a := (h.resolve_left (fun q => c1 q.1)).resolve_left (fun q => c2 q.2.1)
  clear h
  omega
theorem hullS_nrm {X Y W H X' Y' W' H' : Int} (n : Nrm X Y W H) (n' : Nrm X' Y' W' H') : ∃ M N P R, hullS X Y W H X' Y' W' H' = (M, N, P, R) ∧ Nrm M N P R ∧ HC X Y W H X' Y' W' H' M N P R := by
  unfold HC
  unfold hullS
  by_cases c1 : W = 0
  · rw [if_pos c1]
    exact ⟨_, _, _, _, rfl, n', .inl ⟨c1, rfl, rfl, rfl, rfl⟩⟩
  · rw [if_neg c1]
    by_cases c2 : W' = 0
    · rw [if_pos c2]
      exact ⟨_, _, _, _, rfl, n, .inr (.inl ⟨c1, c2, rfl, rfl, rfl, rfl⟩)⟩
    · rw [if_neg c2]
      refine ⟨_, _, _, _, rfl, ?_, .inr (.inr ⟨c1, c2, rfl, rfl, rfl, rfl⟩)⟩
      unfold Nrm at *
      omega
def inside (X Y W H X' Y' W' H' : Int) : Prop := W = 0 ∨ (X' ≤ X ∧ X + W ≤ X' + W' ∧ Y' ≤ Y ∧ Y + H ≤ Y' + H')
theorem within_of (k : Nat) {x y w h X Y W H x' y' w' h' X' Y' W' H' : Int} (e : cl x y w h = (X, Y, W, H)) (e' : cl x' y' w' h' = (X', Y', W', H')) (n : Nrm X Y W H) (n' : Nrm X' Y' W' H') (hi : inside X Y W H X' Y' W' H') :
    f25 k ((((x, y, w, h), ()), ((x', y', w', h'), ()), ()), ()) = some (((true, ()), ()), ()) := by
  obtain ⟨M, N, P, R, em, nm, rm⟩ := meetS_nrm n n'
  rw [e25_eq, meet_ok k e e' n n', Option.bind_some, em, clean_ok, Option.bind_some, e]
  simp only []
  have hh : M = X ∧ N = Y ∧ P = W ∧ R = H := by
    unfold inside at hi
    unfold Nrm at *
    omega
  obtain ⟨rfl, rfl, rfl, rfl⟩ := hh
  simp only [beq_self_eq_true, Bool.true_and, Bool.and_true, Bool.and_self]
theorem in_big {X Y W H X' Y' W' H' M N P R : Int} (h : M = min X X' ∧ N = min Y Y' ∧ P = max (X + W) (X' + W') - M ∧ R = max (Y + H) (Y' + H') - N) : inside X Y W H M N P R := by
  unfold inside
  omega
theorem in_big2 {X Y W H X' Y' W' H' M N P R : Int} (h : M = min X X' ∧ N = min Y Y' ∧ P = max (X + W) (X' + W') - M ∧ R = max (Y + H) (Y' + H') - N) : inside X' Y' W' H' M N P R := by
  unfold inside
  omega
theorem ends_big {X Y W H X' Y' W' H' M N P R : Int} (h : M = min X X' ∧ N = min Y Y' ∧ P = max (X + W) (X' + W') - M ∧ R = max (Y + H) (Y' + H') - N) :
    (M = X ∨ M = X') ∧ (N = Y ∨ N = Y') ∧ (M + P = X + W ∨ M + P = X' + W') ∧ (N + R = Y + H ∨ N + R = Y' + H') := by
  omega
abbrev O1 : Type := Option (((Bool × Unit) × Unit) × Unit)
abbrev T1 : O1 := some (((true, ()), ()), ())
abbrev N1 : O1 := some (((false, ()), ()), ())
def l4 (b c : Bool) : O1 := bif b then T1 else some (((c, ()), ()), ())
def l2 (b c : Bool) (x : O1) : O1 := bif b then x else bif c then x else N1
theorem l4_ok {b c : Bool} (h : b = true ∨ c = true) : l4 b c = T1 := by
  unfold l4
  rcases h with h | h <;> subst h
  · rfl
  · cases b <;> rfl
theorem l2_ok {b c : Bool} {x : O1} (h : b = true ∨ c = true) : l2 b c x = x := by
  unfold l2
  rcases h with h | h <;> subst h
  · rfl
  · cases b <;> rfl
theorem beq_or {a b c : Int} (h : a = b ∨ a = c) : (a == b) = true ∨ (a == c) = true := h.imp bpos bpos
theorem same4 {a b c d a' b' c' d' : Int} (h : a = a' ∧ b = b' ∧ c = c' ∧ d = d') : (!(a == a' && (b == b' && (c == c' && (d == d' && true))))) = false := by
  obtain ⟨rfl, rfl, rfl, rfl⟩ := h
  simp
theorem rectHulls (r s : Int × Int × Int × Int) : f10 (20 + 60) (((r, ()), (s, ()), ()), ()) = some (((true, ()), ()), ()) := by
  obtain ⟨x, y, w, h⟩ := r
  obtain ⟨x', y', w', h'⟩ := s
  obtain ⟨X, Y, W, H, e, n, _⟩ := cl_nrm x y w h
  obtain ⟨X', Y', W', H', e', n', _⟩ := cl_nrm x' y' w' h'
  obtain ⟨M, N, P, R, eh, nh, hc⟩ := hullS_nrm n n'
  obtain ⟨M2, N2, P2, R2, eh2, nh2, hc2⟩ := hullS_nrm n' n
  obtain ⟨M3, N3, P3, R3, eh3, nh3, hc3⟩ := hullS_nrm nh nh
  have z0 : cl 0 0 0 0 = (0, 0, 0, 0) := cl_of_nrm (Or.inl ⟨rfl, rfl, rfl, rfl⟩)
  have nz : Nrm 0 0 0 0 := Or.inl ⟨rfl, rfl, rfl, rfl⟩
  obtain ⟨M4, N4, P4, R4, eh4, nh4, hc4⟩ := hullS_nrm n nz
  have s1 := hc_sym n n' hc hc2
  have s2 := hc_self nh hc3
  have s3 := hc_zero n hc4
  rw [e10_eq, alive, Option.bind_some]
  simp only [Bool.not_true, cond_false]
  rw [hull_ok _ e e' n n', Option.bind_some, clean_ok, Option.bind_some, clean_ok, Option.bind_some, e, e', hull_ok _ e' e n' n, Option.bind_some, eh, eh2]
  simp only []
  rw [same4 s1, cond_false, hull_ok _ (cl_of_nrm nh) (cl_of_nrm nh) nh nh, Option.bind_some, eh3]
  simp only []
  rw [same4 s2, cond_false, hull_ok _ e z0 n nz, Option.bind_some, eh4]
  simp only []
  rw [same4 s3, cond_false]
  by_cases c1 : W = 0
  · rw [bpos c1, cond_true]
  rw [bneg c1, cond_false]
  by_cases c2 : W' = 0
  · rw [bpos c2, cond_true]
  rw [bneg c2, cond_false]
  by_cases c3 : P = 200
  · rw [bpos c3, cond_true]
  rw [bneg c3, cond_false]
  by_cases c4 : R = 200
  · rw [bpos c4, cond_true]
  rw [bneg c4, cond_false]
  clear hc2 hc3 hc4 s1 s2 s3 eh eh2 eh3 eh4 nh2 nh3 nh4 z0 nz
  have hm := hc_big c1 c2 c3 c4 hc
  clear hc
  obtain ⟨a1, a2⟩ := nrm_ends n
  obtain ⟨b1, b2⟩ := nrm_ends n'
  obtain ⟨d1, d2⟩ := nrm_ends nh
  have i1 : inside X Y W H M N P R := in_big hm
  have i2 : inside X' Y' W' H' M N P R := in_big2 hm
  rw [within_of _ e (cl_of_nrm nh) n nh i1, Option.bind_some]
  simp only [cond_true]
  rw [within_of _ e' (cl_of_nrm nh) n' nh i2, Option.bind_some]
  simp only [cond_true]
  rw [a1, a2, b1, b2, d1, d2]
  show l2 (M == X) (M == X') (l2 (N == Y) (N == Y') (l2 (M + P == X + W) (M + P == X' + W') (l4 (N + R == Y + H) (N + R == Y' + H')))) = T1
  have hends := ends_big hm
  clear a1 a2 b1 b2 d1 d2 i1 i2 e e' n n' nh hm
  rw [l2_ok (beq_or hends.1), l2_ok (beq_or hends.2.1), l2_ok (beq_or hends.2.2.1), l4_ok (beq_or hends.2.2.2)]
theorem law10 (k : Nat) : ∀ e ∈ [Fm.entry Try.prog F12 12 (f12 k), Fm.entry Try.prog F35 35 (f35 k), Fm.entry Try.prog F20 20 (f20 k), Fm.entry Try.prog F25 25 (f25 k)], EGood Try.prog e := (goods_cons (g12 k) (goods_cons (g35 k) (goods_cons (g20 k) (goods_cons (g25 k) goods_nil))))
theorem rectHullsL (r s : Int × Int × Int × Int) {p q : Prop} (_ : p) (_ : q) : f10 (20 + 60) (((r, ()), (s, ()), ()), ()) = some (((true, ()), ()), ()) := rectHulls r s
end
end Go.Proofs.Ytmokmkaipcojkaa.Hull
