/- Rectangles are moved, made smaller and parted as said: RectMoves answers true for every rectangle, every three numbers, every list of sizes, either way. No condition. -/
import Derived.Test.YtmokmkaipcojkaaQx36
import Derived.Test.YtmokmkaipcojkaaRA
import Derived.Test.YtmokmkaipcojkaaRK
import Derived.Test.YtmokmkaipcojkaaRM
namespace Go.Proofs.Ytmokmkaipcojkaa.Pure
open Go.RowKit Go.Proofs.Ytmokmkaipcojkaa.Q Go.Proofs.YtmokmkaipcojkaaW.PrintWords Go.Proofs.YtmokmkaipcojkaaW.PrintLast Go.Proofs.Ytmokmkaipcojkaa.Rect

theorem RectMoves : casementlaw02_RectMoves.Pure := by
  intro x y w h dx dy m l across _ _ _ _ wx wy wm _ _ _
  have hx := i64_of wx
  have hy := i64_of wy
  have hm := i64_of wm
  obtain ⟨X, Y, W, H, e, n, r⟩ := cl_nrm x y w h
  refine ⟨300, ?_⟩
  unfold casementlaw02_RectMoves.f
  rw [alive_k (by decide), refClean_k (by decide), e, shift_eq e n hx hy (by decide)]
  simp only [Option.bind_some, if_true]
  rw [refShift_eq n hx hy (by decide)]
  simp only [Option.bind_some, beq_self_eq_true, Bool.and_self, if_true]
  have hi : casementref02_Inset.f 300 X Y W H m = some (insS X Y W H m) := by
    unfold casementref02_Inset.f
    rw [refInset_loop m hm 200 300 0 X Y W H n (by unfold Nrm at n; omega) (by omega) (by omega), Int.sub_zero]
  rw [inset_eq e n, hi]
  simp only [Option.bind_some, beq_self_eq_true, Bool.and_self, if_true]
  rw [cut_eq e n l across (by decide), refCut_eq n l across (by decide)]
  simp only [Option.bind_some]
  have hl : (cutS across (l.take 16) X Y W H).length ≤ 16 := by rw [cutS_length]; simp; omega
  rw [same_self _ (by omega) (by omega)]
  rfl
end Go.Proofs.Ytmokmkaipcojkaa.Pure
