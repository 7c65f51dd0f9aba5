/- What is moved into a box lies in it, and what lies there stays: RectInto answers true for every two rectangles and every two numbers. No condition. -/
import Derived.Test.YtmokmkaipcojkaaQx38
import Derived.Test.YtmokmkaipcojkaaQx37
import Derived.Test.YtmokmkaipcojkaaRA
import Derived.Test.YtmokmkaipcojkaaRS
import Derived.Test.YtmokmkaipcojkaaRT
import Derived.Test.YtmokmkaipcojkaaRV
namespace Go.Proofs.Ytmokmkaipcojkaa.Pure
open Go.RowKit Go.Proofs.Ytmokmkaipcojkaa.Q Go.Proofs.YtmokmkaipcojkaaW.PrintWords Go.Proofs.YtmokmkaipcojkaaW.PrintLast Go.Proofs.Ytmokmkaipcojkaa.Rect

theorem far_eq (a : Int) : casementlaw02_far.f a = some (decide (a < -1000 ∨ a > 1000)) := by
  unfold casementlaw02_far.f
  split
  · rw [show decide (a < -1000 ∨ a > 1000) = true from by simp; omega]
  · refine congrArg some ?_
    rw [decide_eq_decide]
    omega

theorem shift_small {X Y W H dx dy : Int} (n : Nrm X Y W H) (c1 : ¬ (dx < -1000 ∨ dx > 1000)) (c2 : ¬ (dy < -1000 ∨ dy > 1000)) (c3 : ¬ (X < -1000 ∨ X > 1000)) (c4 : ¬ (Y < -1000 ∨ Y > 1000)) :
    cl (sumS X dx) (sumS Y dy) W H = if W ≤ 0 ∨ H ≤ 0 then (0, 0, 0, 0) else (X + dx, Y + dy, W, H) := by
  have s1 : sumS X dx = X + dx := by unfold sumS; omega
  have s2 : sumS Y dy = Y + dy := by unfold sumS; omega
  rw [s1, s2]
  unfold Nrm at n
  exact cl_in (by omega) (by omega) (by omega) (by omega) (by omega) (by omega)

theorem into_end {x y w h X Y W H dx : Int} (e : cl x y w h = (X, Y, W, H)) (n : Nrm X Y W H) : casementlaw02_RectInto.j2 68 dx false x y w h = some true := by
  obtain ⟨X1, Y1, W1, H1, e1, n1, r1⟩ := insS_nrm n dx
  rw [casementlaw02_RectInto.j2, if_neg (by decide), inset_eq e n, e1]
  simp only [Option.bind_some]
  rw [within_of (cl_of_nrm n1) e n1 n (by unfold inside; unfold Nrm at *; omega)]
  rfl

theorem into_shift {x y w h X Y W H dx dy : Int} (e : cl x y w h = (X, Y, W, H)) (n : Nrm X Y W H) (hx : I64 dx) (hy : I64 dy) : casementlaw02_RectInto.j1 69 dx dy false x y w h = some true := by
  have hend := into_end (dx := dx) e n
  rw [casementlaw02_RectInto.j1, if_neg (by decide), shift_eq e n hx hy (by decide), clean_eq, e]
  simp only [Option.bind_some, far_eq]
  simp only [decide_eq_true_eq]
  by_cases c1 : dx < -1000 ∨ dx > 1000
  · rw [if_pos c1]; exact hend
  rw [if_neg c1]
  by_cases c2 : dy < -1000 ∨ dy > 1000
  · rw [if_pos c2]; exact hend
  rw [if_neg c2]
  by_cases c3 : X < -1000 ∨ X > 1000
  · rw [if_pos c3]; exact hend
  rw [if_neg c3]
  by_cases c4 : Y < -1000 ∨ Y > 1000
  · rw [if_pos c4]; exact hend
  rw [if_neg c4, shift_small n c1 c2 c3 c4]
  have wx : wrap64 (X + dx) = X + dx := wrap_id (by unfold I64; omega)
  have wy : wrap64 (Y + dy) = Y + dy := wrap_id (by unfold I64; omega)
  rw [wx, wy]
  unfold Nrm at n
  by_cases c5 : W ≤ 0 ∨ H ≤ 0
  · have hz : W = 0 ∧ H = 0 := by omega
    rw [if_pos c5, if_pos hz.1.symm, if_pos hz.2.symm, if_neg (by omega)]
    exact hend
  · rw [if_neg c5, if_pos rfl, if_pos rfl, if_pos (by omega), if_pos rfl, show ((Y + dy) != (Y + dy)) = false from by simp]
    exact hend

theorem into_rest {x y w h x' y' w' h' X Y W H X' Y' W' H' M N P R dx dy : Int} (e : cl x y w h = (X, Y, W, H)) (e' : cl x' y' w' h' = (X', Y', W', H')) (n : Nrm X Y W H) (n' : Nrm X' Y' W' H') (hx : I64 dx) (hy : I64 dy)
    (hs : inside X Y W H X' Y' W' H' → M = X ∧ N = Y ∧ P = W ∧ R = H) : casementlaw02_RectInto.j0 70 dx dy false x y w h x' y' w' h' M N P R = some true := by
  have h1 := into_shift e n hx hy
  rw [casementlaw02_RectInto.j0, if_neg (by decide)]
  by_cases c : inside X Y W H X' Y' W' H'
  · rw [within_eq e e' n n' (t := true) (by simp [c]), clean_eq, e]
    simp only [Option.bind_some, if_true]
    obtain ⟨rfl, rfl, rfl, rfl⟩ := hs c
    simp only [beq_self_eq_true, Bool.not_true, Bool.or_self]
    exact h1
  · rw [within_eq e e' n n' (t := false) (by simp [c])]
    simp only [Option.bind_some]
    rw [if_neg (by decide)]
    exact h1

theorem RectInto : casementlaw02_RectInto.Pure := by
  intro x y w h x' y' w' h' dx dy _ _ _ _ _ _ _ _ wx wy
  have hx := i64_of wx
  have hy := i64_of wy
  obtain ⟨X, Y, W, H, e, n, _⟩ := cl_nrm x y w h
  obtain ⟨X', Y', W', H', e', n', _⟩ := cl_nrm x' y' w' h'
  obtain ⟨M, N, P, R, ei, ni, hin, hP, hR, hs⟩ := intoS_nrm n n'
  refine ⟨70, ?_⟩
  unfold casementlaw02_RectInto.f
  rw [alive_k (by decide), into_eq e e' n n', ei]
  simp only [Option.bind_some, if_true]
  rw [within_of (cl_of_nrm ni) e' ni n' hin, clean_eq, e]
  simp only [Option.bind_some, if_true]
  rw [if_neg (Int.not_lt.2 hP), if_neg (Int.not_lt.2 hR), into_eq (cl_of_nrm ni) e' ni n', intoS_stay ni n' hin]
  simp only [Option.bind_some, beq_self_eq_true, Bool.not_true, Bool.or_self]
  exact into_rest e e' n n' hx hy hs
end Go.Proofs.Ytmokmkaipcojkaa.Pure
