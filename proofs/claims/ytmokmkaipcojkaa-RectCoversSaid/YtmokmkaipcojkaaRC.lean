/- A cleaned rectangle, as the program has it. No condition. -/
import Derived.Test.YtmokmkaipcojkaaRA
import Derived.Test.YtmokmkaipcojkaaQx3
import Derived.Test.YtmokmkaipcojkaaQx2
namespace Go.Proofs.Ytmokmkaipcojkaa.Rect
open Go.RowKit Go.Proofs.Ytmokmkaipcojkaa.Q Go.Proofs.YtmokmkaipcojkaaW.PrintWords Go.Proofs.YtmokmkaipcojkaaW.PrintLast Go.Proofs.YtmokmkaipcojkaaW.PrintMore

/-! ### Clean rectangles -/
def cl (x y w h : Int) : Int × Int × Int × Int :=
  if max 0 (min w (min 200 (5000 - max (-5000) (min x 5000)))) = 0 then (0, 0, 0, 0) else
  if max 0 (min h (min 200 (5000 - max (-5000) (min y 5000)))) = 0 then (0, 0, 0, 0) else
  (max (-5000) (min x 5000), max (-5000) (min y 5000), max 0 (min w (min 200 (5000 - max (-5000) (min x 5000)))), max 0 (min h (min 200 (5000 - max (-5000) (min y 5000)))))
/-- A rectangle that is clean. -/
def Nrm (X Y W H : Int) : Prop := (X = 0 ∧ Y = 0 ∧ W = 0 ∧ H = 0) ∨ (-5000 ≤ X ∧ -5000 ≤ Y ∧ 1 ≤ W ∧ W ≤ 200 ∧ 1 ≤ H ∧ H ≤ 200 ∧ X + W ≤ 5000 ∧ Y + H ≤ 5000)
theorem clamp_eq (a b c : Int) : rect_Clamp.f a b c = some (max b (min a c)) := by
  unfold rect_Clamp.f mx mn
  refine congrArg some ?_
  repeat' split
  all_goals omega
theorem clean_eq (x y w h : Int) : rect_Clean.f x y w h = some (cl x y w h) := by
  unfold rect_Clean.f cl
  simp only [clamp_eq, Option.bind_some]
  have e1 : wrap64 (5000 - max (-5000) (min x 5000)) = 5000 - max (-5000) (min x 5000) := wrap_id (by unfold I64; omega)
  have e2 : wrap64 (5000 - max (-5000) (min y 5000)) = 5000 - max (-5000) (min y 5000) := wrap_id (by unfold I64; omega)
  have m : ∀ z, mn 200 z = min 200 z := by intro z; unfold mn; split <;> omega
  rw [e1, e2, m, m]
  split
  · rfl
  · split <;> rfl
theorem cl_nrm (x y w h : Int) : ∃ X Y W H, cl x y w h = (X, Y, W, H) ∧ Nrm X Y W H ∧
    ((W = 0 ∧ (max 0 (min w (min 200 (5000 - max (-5000) (min x 5000)))) = 0 ∨ max 0 (min h (min 200 (5000 - max (-5000) (min y 5000)))) = 0)) ∨
      (W ≠ 0 ∧ X = max (-5000) (min x 5000) ∧ Y = max (-5000) (min y 5000) ∧ W = max 0 (min w (min 200 (5000 - max (-5000) (min x 5000)))) ∧ H = max 0 (min h (min 200 (5000 - max (-5000) (min y 5000)))))) := by
  unfold cl
  split
  · exact ⟨0, 0, 0, 0, rfl, .inl ⟨rfl, rfl, rfl, rfl⟩, .inl ⟨rfl, .inl ‹_›⟩⟩
  · split
    · exact ⟨0, 0, 0, 0, rfl, .inl ⟨rfl, rfl, rfl, rfl⟩, .inl ⟨rfl, .inr ‹_›⟩⟩
    · refine ⟨_, _, _, _, rfl, .inr ?_, .inr ⟨‹_›, rfl, rfl, rfl, rfl⟩⟩
      omega
theorem cl_of_nrm {X Y W H : Int} (h : Nrm X Y W H) : cl X Y W H = (X, Y, W, H) := by
  obtain ⟨X', Y', W', H', e, n, r⟩ := cl_nrm X Y W H
  rw [e]
  unfold Nrm at *
  simp only [Prod.mk.injEq]
  omega
end Go.Proofs.Ytmokmkaipcojkaa.Rect
