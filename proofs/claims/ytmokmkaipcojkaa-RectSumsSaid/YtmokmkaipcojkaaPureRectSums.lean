/- Sums stay within what there is and never fall: RectSums answers true for every three numbers. No condition. -/
import Derived.Test.YtmokmkaipcojkaaQx20
import Derived.Test.YtmokmkaipcojkaaRS
import Derived.Test.YtmokmkaipcojkaaRC
namespace Go.Proofs.Ytmokmkaipcojkaa.Pure
open Go.RowKit Go.Proofs.Ytmokmkaipcojkaa.Q Go.Proofs.YtmokmkaipcojkaaW.PrintWords Go.Proofs.YtmokmkaipcojkaaW.PrintLast Go.Proofs.Ytmokmkaipcojkaa.Rect

theorem RectSums : casementlaw02_RectSums.Pure := by
  intro a b c wa wb wc
  have ha := i64_of wa
  have hb := i64_of wb
  have hc := i64_of wc
  have h0 : I64 0 := by unfold I64; omega
  refine ⟨60, ?_⟩
  unfold casementlaw02_RectSums.f
  rw [alive_k (by decide)]
  simp only [Option.bind_some, if_true]
  rw [sum_k (by decide) ha hb, sum_k (by decide) hb ha, sum_k (by decide) ha h0, sum_k (by decide) ha hc]
  simp only [Option.bind_some]
  unfold I64 at *
  have e1 : sumS a b = sumS b a := by unfold sumS; omega
  have e2 : sumS a 0 = a := by unfold sumS; omega
  have e3 : b ≤ c → decide (sumS a b > sumS a c) = false := by intro h; simp; unfold sumS; omega
  rw [if_pos e1, if_pos e2]
  have e4 : (if b ≤ c then casementlaw02_RectSums.j0 60 a b c (decide (sumS a b > sumS a c)) else casementlaw02_RectSums.j0 60 a b c false) = casementlaw02_RectSums.j0 60 a b c false := by
    split
    · rw [e3 ‹_›]
    · rfl
  rw [e4]
  have e5 : casementlaw02_RectSums.j0 60 a b c false = casementlaw02_RectSums.j1 59 a b c false := by
    rw [casementlaw02_RectSums.j0, if_neg (by decide)]
    split
    · rfl
    · rename_i hn
      have hm : I64 (-a) := by unfold I64; omega
      rw [wrap_id hm, sum_k (by decide) (by unfold I64; omega) hm]
      simp only [Option.bind_some]
      have : sumS a (-a) = 0 := by unfold sumS; omega
      rw [this]
      rfl
  rw [e5, casementlaw02_RectSums.j1, if_neg (by decide), clamp_eq]
  simp only [Option.bind_some]
  rw [clamp_eq]
  simp only [Option.bind_some]
  rw [if_pos (by omega), if_pos (by omega)]
  split
  · rfl
  · refine congrArg some ?_
    simp
    omega
end Go.Proofs.Ytmokmkaipcojkaa.Pure
