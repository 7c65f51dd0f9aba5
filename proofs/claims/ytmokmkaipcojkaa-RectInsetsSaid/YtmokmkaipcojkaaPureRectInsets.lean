/- What is inset twice is inset once by both, and areas and corner cells fit: RectInsets answers true for every rectangle and every two numbers. No condition. -/
import Derived.Test.YtmokmkaipcojkaaQx27
import Derived.Test.YtmokmkaipcojkaaRA
import Derived.Test.YtmokmkaipcojkaaRJ
namespace Go.Proofs.Ytmokmkaipcojkaa.Pure
open Go.RowKit Go.Proofs.Ytmokmkaipcojkaa.Q Go.Proofs.YtmokmkaipcojkaaW.PrintWords Go.Proofs.YtmokmkaipcojkaaW.PrintLast Go.Proofs.Ytmokmkaipcojkaa.Rect

theorem RectInsets : casementlaw02_RectInsets.Pure := by
  intro x y w h a b _ _ _ _ wa wb
  obtain ⟨X, Y, W, H, e, n, r⟩ := cl_nrm x y w h
  obtain ⟨X1, Y1, W1, H1, e1, n1, r1⟩ := insS_nrm n a
  obtain ⟨d1, d2⟩ := nrm_ends n
  refine ⟨61, ?_⟩
  unfold casementlaw02_RectInsets.f
  rw [alive_k (by decide)]
  simp only [Option.bind_some, if_true, mn_eq, mx_eq]
  rw [inset_eq e n, e1]
  simp only [Option.bind_some]
  have n' := n
  unfold Nrm at n'
  rw [inset_eq (cl_of_nrm n1) n1, inset_eq e n, inset_eq e n, ins_twice (by omega) (by omega) a b e1, ins_zero n]
  clear n1 r1 e1
  simp only [Option.bind_some]
  obtain ⟨X2, Y2, W2, H2⟩ := insS X Y W H (min (max a 0) 300 + min (max b 0) 300)
  simp only [beq_self_eq_true, Bool.not_true, Bool.or_self, Bool.false_eq_true, if_false]
  rw [clean_eq, e]
  simp only [Option.bind_some, beq_self_eq_true, Bool.not_true, Bool.or_self]
  rw [casementlaw02_RectInsets.j0]
  simp only [Bool.false_eq_true, if_false]
  rw [clean_eq, e, area_eq e]
  simp only [Option.bind_some, has_eq e]
  rw [d1, d2, wrap_id (n := X + W - 1) (by unfold I64; omega), wrap_id (n := Y + H - 1) (by unfold I64; omega), wrap_id (n := X - 1) (by unfold I64; omega)]
  unfold Nrm at n
  by_cases c : W = 0
  · rw [if_pos c]
    have : W * H = 0 := by rw [c, Int.zero_mul]
    rw [this, if_pos (wrap_id (n := 0) (by unfold I64; omega))]
    refine congrArg some ?_
    unfold inB
    simp
    omega
  · rw [if_neg c, if_pos trivial]
    have i1 : inB X Y W H X Y = true := by unfold inB; simp; omega
    have i2 : inB X Y W H (X + W - 1) (Y + H - 1) = true := by unfold inB; simp; omega
    have i3 : inB X Y W H (X + W) Y = false := by unfold inB; simp
    have i4 : inB X Y W H X (Y + H) = false := by unfold inB; simp
    have i5 : inB X Y W H (X - 1) Y = false := by unfold inB; simp; omega
    rw [i1, i2, i3, i4, i5]
    rfl
end Go.Proofs.Ytmokmkaipcojkaa.Pure
