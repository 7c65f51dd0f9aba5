/- Rectangles moved. Conditions: numbers of 64 bits. -/
import Derived.Test.YtmokmkaipcojkaaRJ
import Derived.Test.YtmokmkaipcojkaaRS
import Derived.Test.YtmokmkaipcojkaaQx28
namespace Go.Proofs.Ytmokmkaipcojkaa.Rect
open Go.RowKit Go.Proofs.Ytmokmkaipcojkaa.Q Go.Proofs.YtmokmkaipcojkaaW.PrintWords Go.Proofs.YtmokmkaipcojkaaW.PrintLast Go.Proofs.YtmokmkaipcojkaaW.PrintMore

theorem nrm_i64 {X Y W H : Int} (n : Nrm X Y W H) : I64 X ∧ I64 Y := by unfold Nrm I64 at *; omega
theorem shift_eq {x y w h X Y W H dx dy : Int} (e : cl x y w h = (X, Y, W, H)) (n : Nrm X Y W H) (hx : I64 dx) (hy : I64 dy) {k : Nat} (hk : 1 ≤ k) :
    rect_Shift.f k x y w h dx dy = some (cl (sumS X dx) (sumS Y dy) W H) := by
  unfold rect_Shift.f
  rw [clean_eq, e]
  simp only [Option.bind_some]
  rw [sum_k hk (nrm_i64 n).1 hx, sum_k hk (nrm_i64 n).2 hy]
  simp only [Option.bind_some]
  rw [clean_eq]
  rfl
end Go.Proofs.Ytmokmkaipcojkaa.Rect
