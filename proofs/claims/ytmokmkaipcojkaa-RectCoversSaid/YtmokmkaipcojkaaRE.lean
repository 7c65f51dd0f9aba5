/- Whether a rectangle is empty, its area, and whether it has a cell, out of its cleaned form. No condition. -/
import Derived.Test.YtmokmkaipcojkaaRC
import Derived.Test.YtmokmkaipcojkaaQx5
import Derived.Test.YtmokmkaipcojkaaQx4
import Derived.Test.YtmokmkaipcojkaaQx22
namespace Go.Proofs.Ytmokmkaipcojkaa.Rect
open Go.RowKit Go.Proofs.Ytmokmkaipcojkaa.Q Go.Proofs.YtmokmkaipcojkaaW.PrintWords Go.Proofs.YtmokmkaipcojkaaW.PrintLast Go.Proofs.YtmokmkaipcojkaaW.PrintMore

theorem empty_eq {x y w h X Y W H : Int} (e : cl x y w h = (X, Y, W, H)) : rect_Empty.f x y w h = some (W == 0) := by
  unfold rect_Empty.f
  rw [clean_eq, e]
  rfl
theorem area_eq {x y w h X Y W H : Int} (e : cl x y w h = (X, Y, W, H)) : rect_Area.f x y w h = some (wrap64 (W * H)) := by
  unfold rect_Area.f
  rw [clean_eq, e]
  rfl
/-- Has a clean rectangle a cell? -/
def inB (X Y W H a b : Int) : Bool := decide (X ≤ a ∧ a < X + W ∧ Y ≤ b ∧ b < Y + H)
theorem nrm_ends {X Y W H : Int} (n : Nrm X Y W H) : wrap64 (X + W) = X + W ∧ wrap64 (Y + H) = Y + H := by
  unfold Nrm at n
  exact ⟨wrap_id (by unfold I64; omega), wrap_id (by unfold I64; omega)⟩
theorem has_eq {x y w h X Y W H : Int} (e : cl x y w h = (X, Y, W, H)) (a b : Int) : rect_Has.f x y w h a b = some (inB X Y W H a b) := by
  obtain ⟨X', Y', W', H', e', n, _⟩ := cl_nrm x y w h
  rw [e] at e'
  simp only [Prod.mk.injEq] at e'
  obtain ⟨rfl, rfl, rfl, rfl⟩ := e'
  obtain ⟨e1, e2⟩ := nrm_ends n
  unfold rect_Has.f inB
  rw [clean_eq, e]
  simp only [Option.bind_some]
  rw [e1, e2]
  by_cases h1 : a ≥ X
  · rw [if_pos h1]
    by_cases h2 : a < X + W
    · rw [if_pos h2]
      by_cases h3 : b ≥ Y
      · rw [if_pos h3]
        refine congrArg some ?_
        simp only [decide_eq_decide]
        omega
      · rw [if_neg h3]
        refine congrArg some ?_
        simp only [Bool.false_eq, decide_eq_false_iff_not]
        omega
    · rw [if_neg h2]
      refine congrArg some ?_
      simp only [Bool.false_eq, decide_eq_false_iff_not]
      omega
  · rw [if_neg h1]
    refine congrArg some ?_
    simp only [Bool.false_eq, decide_eq_false_iff_not]
    omega
end Go.Proofs.Ytmokmkaipcojkaa.Rect
