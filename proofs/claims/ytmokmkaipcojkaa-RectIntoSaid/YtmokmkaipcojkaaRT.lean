/- A rectangle moved into another. No condition. -/
import Derived.Test.YtmokmkaipcojkaaRI
import Derived.Test.YtmokmkaipcojkaaRP
import Derived.Test.YtmokmkaipcojkaaQx12
namespace Go.Proofs.Ytmokmkaipcojkaa.Rect
open Go.RowKit Go.Proofs.Ytmokmkaipcojkaa.Q Go.Proofs.YtmokmkaipcojkaaW.PrintWords Go.Proofs.YtmokmkaipcojkaaW.PrintLast Go.Proofs.YtmokmkaipcojkaaW.PrintMore

def intoS (X Y W H X' Y' W' H' : Int) : Int × Int × Int × Int :=
  if min W W' ≤ 0 ∨ min H H' ≤ 0 then (0, 0, 0, 0) else (max X' (min X (X' + W' - min W W')), max Y' (min Y (Y' + H' - min H H')), min W W', min H H')
theorem into_eq {x y w h X Y W H x' y' w' h' X' Y' W' H' : Int} (e : cl x y w h = (X, Y, W, H)) (e' : cl x' y' w' h' = (X', Y', W', H')) (n : Nrm X Y W H) (n' : Nrm X' Y' W' H') :
    rect_Into.f x y w h x' y' w' h' = some (intoS X Y W H X' Y' W' H') := by
  obtain ⟨b1, b2⟩ := nrm_ends n'
  unfold rect_Into.f intoS
  rw [clean_eq, clean_eq, e, e']
  simp only [Option.bind_some, mn_eq]
  rw [b1, b2]
  unfold Nrm at n n'
  rw [wrap_id (n := X' + W' - min W W') (by unfold I64; omega), wrap_id (n := Y' + H' - min H H') (by unfold I64; omega), clamp_eq, clamp_eq]
  simp only [Option.bind_some]
  rw [clean_eq, cl_in (by omega) (by omega) (by omega) (by omega) (by omega) (by omega)]
  simp only [Option.bind_some]
theorem intoS_nrm {X Y W H X' Y' W' H' : Int} (n : Nrm X Y W H) (n' : Nrm X' Y' W' H') : ∃ M N P R, intoS X Y W H X' Y' W' H' = (M, N, P, R) ∧ Nrm M N P R ∧ inside M N P R X' Y' W' H' ∧ P ≤ W ∧ R ≤ H ∧
    (inside X Y W H X' Y' W' H' → M = X ∧ N = Y ∧ P = W ∧ R = H) := by
  unfold intoS inside
  unfold Nrm at *
  split
  · refine ⟨0, 0, 0, 0, rfl, .inl ⟨rfl, rfl, rfl, rfl⟩, .inl rfl, by omega, by omega, fun _ => by omega⟩
  · refine ⟨_, _, _, _, rfl, by omega, by omega, by omega, by omega, fun _ => by omega⟩
theorem intoS_stay {X Y W H X' Y' W' H' : Int} (n : Nrm X Y W H) (n' : Nrm X' Y' W' H') (h : inside X Y W H X' Y' W' H') : intoS X Y W H X' Y' W' H' = (X, Y, W, H) := by
  obtain ⟨M, N, P, R, e, _, _, _, _, hs⟩ := intoS_nrm n n'
  obtain ⟨rfl, rfl, rfl, rfl⟩ := hs h
  exact e
end Go.Proofs.Ytmokmkaipcojkaa.Rect
