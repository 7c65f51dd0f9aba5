/- Sums, as both texts have them. Conditions: numbers of 64 bits. -/
import Derived.Test.YtmokmkaipcojkaaRA
import Derived.Test.YtmokmkaipcojkaaQx10
import Derived.Test.YtmokmkaipcojkaaQx21
namespace Go.Proofs.Ytmokmkaipcojkaa.Rect
open Go.RowKit Go.Proofs.Ytmokmkaipcojkaa.Q Go.Proofs.YtmokmkaipcojkaaW.PrintWords Go.Proofs.YtmokmkaipcojkaaW.PrintLast Go.Proofs.YtmokmkaipcojkaaW.PrintMore

/-! ### Sums -/
def sumS (a b : Int) : Int := max (-9223372036854775808) (min (a + b) 9223372036854775807)
theorem sum_eq {a b : Int} (ha : I64 a) (hb : I64 b) (k : Nat) : rect_Sum.f (k + 1) a b = some (sumS a b) := by
  unfold I64 at *
  simp only [rect_Sum.f, rect_Sum.j0, sumS]
  unfold wrap64
  repeat' split
  all_goals simp only [decide_eq_true_eq, Bool.false_eq_true] at *
  all_goals (refine congrArg some ?_; omega)
theorem refSum_eq {a b : Int} (ha : I64 a) (hb : I64 b) (k : Nat) : casementref02_Sum.f (k + 1) a b = some (sumS a b) := by
  unfold I64 at *
  simp only [casementref02_Sum.f, casementref02_Sum.j0, sumS]
  unfold wrap64
  repeat' split
  all_goals simp only [decide_eq_true_eq, Bool.false_eq_true] at *
  all_goals (refine congrArg some ?_; omega)
theorem sumS_i64 {a b : Int} : I64 (sumS a b) := by unfold I64 sumS; omega

theorem sum_k {k : Nat} (hk : 1 ≤ k) {a b : Int} (ha : I64 a) (hb : I64 b) : rect_Sum.f k a b = some (sumS a b) := by
  obtain ⟨m, rfl⟩ := pos_of hk
  exact sum_eq ha hb m
theorem refSum_k {k : Nat} (hk : 1 ≤ k) {a b : Int} (ha : I64 a) (hb : I64 b) : casementref02_Sum.f k a b = some (sumS a b) := by
  obtain ⟨m, rfl⟩ := pos_of hk
  exact refSum_eq ha hb m
end Go.Proofs.Ytmokmkaipcojkaa.Rect
