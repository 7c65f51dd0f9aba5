/- One rectangle within another. No condition. -/
import Derived.Test.YtmokmkaipcojkaaRI
import Derived.Test.YtmokmkaipcojkaaQx24
namespace Go.Proofs.Ytmokmkaipcojkaa.Rect
open Go.RowKit Go.Proofs.Ytmokmkaipcojkaa.Q Go.Proofs.YtmokmkaipcojkaaW.PrintWords Go.Proofs.YtmokmkaipcojkaaW.PrintLast Go.Proofs.YtmokmkaipcojkaaW.PrintMore

def inside (X Y W H X' Y' W' H' : Int) : Prop := W = 0 ∨ (X' ≤ X ∧ X + W ≤ X' + W' ∧ Y' ≤ Y ∧ Y + H ≤ Y' + H')
theorem within_eq {x y w h X Y W H x' y' w' h' X' Y' W' H' : Int} (e : cl x y w h = (X, Y, W, H)) (e' : cl x' y' w' h' = (X', Y', W', H')) (n : Nrm X Y W H) (n' : Nrm X' Y' W' H') {t : Bool} (ht : t = true ↔ inside X Y W H X' Y' W' H') :
    rect_Within.f x y w h x' y' w' h' = some t := by
  obtain ⟨M, N, P, R, em, nm, rm⟩ := meetS_nrm n n'
  unfold rect_Within.f
  rw [meet_eq e e' n n', em, clean_eq, e]
  simp only [Option.bind_some]
  refine congrArg some ?_
  unfold inside at ht
  unfold Nrm at *
  rw [Bool.eq_iff_iff, ht]
  simp only [Bool.and_eq_true, beq_iff_eq]
  omega
theorem within_of {x y w h X Y W H x' y' w' h' X' Y' W' H' : Int} (e : cl x y w h = (X, Y, W, H)) (e' : cl x' y' w' h' = (X', Y', W', H')) (n : Nrm X Y W H) (n' : Nrm X' Y' W' H') (hi : inside X Y W H X' Y' W' H') :
    rect_Within.f x y w h x' y' w' h' = some true := within_eq e e' n n' (by simp [hi])
end Go.Proofs.Ytmokmkaipcojkaa.Rect
