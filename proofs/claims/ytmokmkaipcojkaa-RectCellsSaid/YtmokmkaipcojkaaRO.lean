/- The hull of two rectangles. No condition. -/
import Derived.Test.YtmokmkaipcojkaaRI
import Derived.Test.YtmokmkaipcojkaaQx39
namespace Go.Proofs.Ytmokmkaipcojkaa.Rect
open Go.RowKit Go.Proofs.Ytmokmkaipcojkaa.Q Go.Proofs.YtmokmkaipcojkaaW.PrintWords Go.Proofs.YtmokmkaipcojkaaW.PrintLast Go.Proofs.YtmokmkaipcojkaaW.PrintMore

def hullS (X Y W H X' Y' W' H' : Int) : Int × Int × Int × Int :=
  if W = 0 then (X', Y', W', H') else if W' = 0 then (X, Y, W, H) else
    (min X X', min Y Y', min (max (X + W) (X' + W') - min X X') 200, min (max (Y + H) (Y' + H') - min Y Y') 200)
theorem hull_eq {x y w h X Y W H x' y' w' h' X' Y' W' H' : Int} (e : cl x y w h = (X, Y, W, H)) (e' : cl x' y' w' h' = (X', Y', W', H')) (n : Nrm X Y W H) (n' : Nrm X' Y' W' H') :
    rect_Hull.f x y w h x' y' w' h' = some (hullS X Y W H X' Y' W' H') := by
  obtain ⟨a1, a2⟩ := nrm_ends n
  obtain ⟨b1, b2⟩ := nrm_ends n'
  unfold rect_Hull.f hullS
  rw [clean_eq, clean_eq, e, e']
  simp only [Option.bind_some, mx_eq, mn_eq]
  by_cases c1 : W = 0
  · rw [if_pos c1, if_pos c1]
  · rw [if_neg c1, if_neg c1]
    by_cases c2 : W' = 0
    · rw [if_pos c2, if_pos c2]
    · rw [if_neg c2, if_neg c2, a1, a2, b1, b2]
      unfold Nrm at n n'
      rw [between_eq (by omega) (by omega) (by omega) (by omega)]
      simp only [Option.bind_some]
      refine congrArg some ?_
      have hm : -5000 ≤ min X X' ∧ min X X' ≤ 4999 ∧ min X X' < max (X + W) (X' + W') ∧ max (X + W) (X' + W') ≤ 5000 := by omega
      have hn : -5000 ≤ min Y Y' ∧ min Y Y' ≤ 4999 ∧ min Y Y' < max (Y + H) (Y' + H') ∧ max (Y + H) (Y' + H') ≤ 5000 := by omega
      clear n n' a1 a2 b1 b2 e e'
      generalize min X X' = p at *
      generalize min Y Y' = q at *
      generalize max (X + W) (X' + W') = r at *
      generalize max (Y + H) (Y' + H') = s at *
      obtain ⟨X1, Y1, W1, H1, e1, n1, r1⟩ := cl_nrm p q (r - p) (s - q)
      rw [e1]
      unfold Nrm at n1
      simp only [Prod.mk.injEq]
      omega
theorem hullS_nrm {X Y W H X' Y' W' H' : Int} (n : Nrm X Y W H) (n' : Nrm X' Y' W' H') : ∃ M N P R, hullS X Y W H X' Y' W' H' = (M, N, P, R) ∧ Nrm M N P R ∧
    ((W = 0 ∧ M = X' ∧ N = Y' ∧ P = W' ∧ R = H') ∨ (W ≠ 0 ∧ W' = 0 ∧ M = X ∧ N = Y ∧ P = W ∧ R = H) ∨
      (W ≠ 0 ∧ W' ≠ 0 ∧ M = min X X' ∧ N = min Y Y' ∧ P = min (max (X + W) (X' + W') - min X X') 200 ∧ R = min (max (Y + H) (Y' + H') - min Y Y') 200)) := by
  unfold hullS
  by_cases c1 : W = 0
  · rw [if_pos c1]
    exact ⟨_, _, _, _, rfl, n', .inl ⟨c1, rfl, rfl, rfl, rfl⟩⟩
  · rw [if_neg c1]
    by_cases c2 : W' = 0
    · rw [if_pos c2]
      exact ⟨_, _, _, _, rfl, n, .inr (.inl ⟨c1, c2, rfl, rfl, rfl, rfl⟩)⟩
    · rw [if_neg c2]
      refine ⟨_, _, _, _, rfl, ?_, .inr (.inr ⟨c1, c2, rfl, rfl, rfl, rfl⟩)⟩
      unfold Nrm at *
      omega
end Go.Proofs.Ytmokmkaipcojkaa.Rect
