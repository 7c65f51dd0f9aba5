/- What two rectangles share, a rectangle made smaller, and whether one lies within another. No condition. -/
import Derived.Test.YtmokmkaipcojkaaRE
import Derived.Test.YtmokmkaipcojkaaQx6
import Derived.Test.YtmokmkaipcojkaaQx7
namespace Go.Proofs.Ytmokmkaipcojkaa.Rect
open Go.RowKit Go.Proofs.Ytmokmkaipcojkaa.Q Go.Proofs.YtmokmkaipcojkaaW.PrintWords Go.Proofs.YtmokmkaipcojkaaW.PrintLast Go.Proofs.YtmokmkaipcojkaaW.PrintMore

theorem mx_eq (a b : Int) : mx a b = max a b := by unfold mx; split <;> omega
theorem mn_eq (a b : Int) : mn a b = min a b := by unfold mn; split <;> omega
theorem between_eq {x y r b : Int} (h1 : -20000 ≤ x ∧ x ≤ 20000) (h2 : -20000 ≤ y ∧ y ≤ 20000) (h3 : -20000 ≤ r ∧ r ≤ 20000) (h4 : -20000 ≤ b ∧ b ≤ 20000) : rect_between.f x y r b = some (cl x y (r - x) (b - y)) := by
  unfold rect_between.f
  rw [wrap_id (by unfold I64; omega), wrap_id (by unfold I64; omega), clean_eq]
  rfl
/-- Of a rectangle that begins in the field and ends in it nothing is cut away. -/
theorem cl_in {x y w h : Int} (h1 : -5000 ≤ x) (h2 : -5000 ≤ y) (h3 : x + w ≤ 5000) (h4 : y + h ≤ 5000) (h5 : w ≤ 200) (h6 : h ≤ 200) :
    cl x y w h = if w ≤ 0 ∨ h ≤ 0 then (0, 0, 0, 0) else (x, y, w, h) := by
  obtain ⟨X, Y, W, H, e, n, r⟩ := cl_nrm x y w h
  rw [e]
  unfold Nrm at n
  split <;> simp only [Prod.mk.injEq] <;> omega
def meetS (X Y W H X' Y' W' H' : Int) : Int × Int × Int × Int :=
  if min (X + W) (X' + W') ≤ max X X' ∨ min (Y + H) (Y' + H') ≤ max Y Y' then (0, 0, 0, 0) else (max X X', max Y Y', min (X + W) (X' + W') - max X X', min (Y + H) (Y' + H') - max Y Y')
theorem meet_eq {x y w h X Y W H x' y' w' h' X' Y' W' H' : Int} (e : cl x y w h = (X, Y, W, H)) (e' : cl x' y' w' h' = (X', Y', W', H')) (n : Nrm X Y W H) (n' : Nrm X' Y' W' H') :
    rect_Meet.f x y w h x' y' w' h' = some (meetS X Y W H X' Y' W' H') := by
  obtain ⟨a1, a2⟩ := nrm_ends n
  obtain ⟨b1, b2⟩ := nrm_ends n'
  unfold rect_Meet.f
  rw [clean_eq, clean_eq, e, e']
  simp only [Option.bind_some, mx_eq, mn_eq]
  rw [a1, a2, b1, b2]
  unfold Nrm at n n'
  rw [between_eq (by omega) (by omega) (by omega) (by omega), cl_in (by omega) (by omega) (by omega) (by omega) (by omega) (by omega)]
  unfold meetS
  simp only [Option.bind_some]
  refine congrArg some ?_
  by_cases c : min (X + W) (X' + W') ≤ max X X' ∨ min (Y + H) (Y' + H') ≤ max Y Y'
  · rw [if_pos c, if_pos (by omega)]
  · rw [if_neg c, if_neg (by omega)]
theorem meetS_nrm {X Y W H X' Y' W' H' : Int} (n : Nrm X Y W H) (n' : Nrm X' Y' W' H') : ∃ M N P R, meetS X Y W H X' Y' W' H' = (M, N, P, R) ∧ Nrm M N P R ∧
    ((P = 0 ∧ (min (X + W) (X' + W') ≤ max X X' ∨ min (Y + H) (Y' + H') ≤ max Y Y')) ∨ (P ≠ 0 ∧ M = max X X' ∧ N = max Y Y' ∧ M + P = min (X + W) (X' + W') ∧ N + R = min (Y + H) (Y' + H'))) := by
  unfold meetS
  split
  · exact ⟨0, 0, 0, 0, rfl, .inl ⟨rfl, rfl, rfl, rfl⟩, .inl ⟨rfl, ‹_›⟩⟩
  · refine ⟨_, _, _, _, rfl, ?_, .inr ?_⟩
    · unfold Nrm at *; omega
    · omega
end Go.Proofs.Ytmokmkaipcojkaa.Rect
