/- Sums, cleaned rectangles, areas and cells are as said: RectNumbers answers true for every rectangle and every three numbers. No condition. -/
import Derived.Test.YtmokmkaipcojkaaQx23
import Derived.Test.YtmokmkaipcojkaaQx17
import Derived.Test.YtmokmkaipcojkaaRS
import Derived.Test.YtmokmkaipcojkaaRD
import Derived.Test.YtmokmkaipcojkaaRE
namespace Go.Proofs.Ytmokmkaipcojkaa.Pure
open Go.RowKit Go.Proofs.Ytmokmkaipcojkaa.Q Go.Proofs.YtmokmkaipcojkaaW.PrintWords Go.Proofs.YtmokmkaipcojkaaW.PrintLast Go.Proofs.Ytmokmkaipcojkaa.Rect

theorem numbers_end {a b c x y w h X Y W H : Int} (ha : I64 a) (hb : I64 b) (e : cl x y w h = (X, Y, W, H)) :
    casementlaw02_RectNumbers.j3 60 a b c (max b (min a c)) x y w h X Y W H = some true := by
  have hr : rect_Has.f x y w h a b = casementref02_Has.f X Y W H a b := by
    unfold rect_Has.f casementref02_Has.f
    rw [clean_eq, e]
    rfl
  rw [casementlaw02_RectNumbers.j3, sum_k (by decide) ha hb, refSum_k (by decide) ha hb, clamp_eq, clean_eq, e, empty_eq e, area_eq e]
  simp only [Option.bind_some, if_true, beq_self_eq_true, Bool.and_self]
  rw [← hr, has_eq e]
  simp

theorem RectNumbers : casementlaw02_RectNumbers.Pure := by
  intro x y w h a b c _ _ _ _ wa wb wc
  have ha := i64_of wa
  have hb := i64_of wb
  obtain ⟨X, Y, W, H, e, n, _⟩ := cl_nrm x y w h
  refine ⟨64, ?_⟩
  unfold casementlaw02_RectNumbers.f
  rw [alive_k (by decide), refClean_k (by decide), e]
  simp only [Option.bind_some, if_true]
  have hj2 : ∀ (lo : Int) (t : Bool), (if t = true then c else lo) = max b (min a c) → casementlaw02_RectNumbers.j2 61 a b c lo t x y w h X Y W H = some true := by
    intro lo t ht
    rw [casementlaw02_RectNumbers.j2]
    cases t
    · simp only [Bool.false_eq_true, if_false] at ht ⊢
      have z := numbers_end (c := c) ha hb e
      rw [← ht] at z
      exact z
    · simp only [if_true] at ht ⊢
      have z := numbers_end (c := c) ha hb e
      rw [← ht] at z
      exact z
  have hj1 : ∀ (lo : Int), (if a > c ∧ c > b then c else lo) = max b (min a c) → casementlaw02_RectNumbers.j1 62 a b c lo x y w h X Y W H = some true := by
    intro lo hl
    rw [casementlaw02_RectNumbers.j1]
    split
    · refine hj2 lo _ ?_
      rw [← hl]
      by_cases h2 : c > b
      · rw [if_pos (by simpa using h2), if_pos ⟨‹_›, h2⟩]
      · rw [if_neg (by simpa using h2), if_neg (by omega)]
    · refine hj2 lo _ ?_
      rw [← hl, if_neg (by decide), if_neg (by omega)]
  have hj0 : ∀ (t : Bool), (t = true ↔ a > b ∧ a ≤ c) → casementlaw02_RectNumbers.j0 63 a b c b t x y w h X Y W H = some true := by
    intro t ht
    rw [casementlaw02_RectNumbers.j0]
    split
    · have h' := ht.1 ‹_›
      refine hj1 a ?_
      split <;> omega
    · have h' : ¬ (a > b ∧ a ≤ c) := fun h => absurd (ht.2 h) ‹_›
      refine hj1 b ?_
      split <;> omega
  have up : ∀ (t : Bool), casementlaw02_RectNumbers.j0 63 a b c b t x y w h X Y W H = some true → casementlaw02_RectNumbers.j0 64 a b c b t x y w h X Y W H = some true := fun t ht => (casementlaw02_RectNumbers.mono_l 63).1 _ _ _ _ _ _ _ _ _ _ _ _ _ _ ht
  split
  · exact up _ (hj0 _ (by simp; omega))
  · exact up _ (hj0 _ (by simp; omega))
end Go.Proofs.Ytmokmkaipcojkaa.Pure
