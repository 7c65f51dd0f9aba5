/- A cleaned rectangle, as the reference has it. No condition. -/
import Derived.Test.YtmokmkaipcojkaaRC
import Derived.Test.YtmokmkaipcojkaaQx16
import Derived.Test.YtmokmkaipcojkaaQx15
namespace Go.Proofs.Ytmokmkaipcojkaa.Rect
open Go.RowKit Go.Proofs.Ytmokmkaipcojkaa.Q Go.Proofs.YtmokmkaipcojkaaW.PrintWords Go.Proofs.YtmokmkaipcojkaaW.PrintLast Go.Proofs.YtmokmkaipcojkaaW.PrintMore

theorem refClean_eq (x y w h : Int) (k : Nat) : casementref02_Clean.f (k + 1) x y w h = some (cl x y w h) := by
  unfold casementref02_Clean.f cl
  simp only [casementref01_Between.f, casementref02_Clean.j0]
  have bx : ∀ (a lo hi : Int), lo ≤ hi → (if a < lo then some lo else if a > hi then some hi else some a) = some (max lo (min a hi)) := by
    intro a lo hi hl
    repeat' split
    all_goals (refine congrArg some ?_; omega)
  rw [bx _ _ _ (by omega), bx _ _ _ (by omega), bx _ _ _ (by omega), bx _ _ _ (by omega)]
  have hw : ∀ (w X : Int), -5000 ≤ X → X ≤ 5000 → max 0 (min w (min 200 (5000 - X))) = if X + max 0 (min w 200) > 5000 then 5000 - X else max 0 (min w 200) := by
    intro w X h1 h2
    split <;> omega
  rw [hw w _ (by omega) (by omega), hw h _ (by omega) (by omega)]
  have b1 : -5000 ≤ max (-5000) (min x 5000) ∧ max (-5000) (min x 5000) ≤ 5000 := by omega
  have b2 : -5000 ≤ max (-5000) (min y 5000) ∧ max (-5000) (min y 5000) ≤ 5000 := by omega
  have b3 : 0 ≤ max 0 (min w 200) ∧ max 0 (min w 200) ≤ 200 := by omega
  have b4 : 0 ≤ max 0 (min h 200) ∧ max 0 (min h 200) ≤ 200 := by omega
  generalize max (-5000) (min x 5000) = X at *
  generalize max (-5000) (min y 5000) = Y at *
  generalize max 0 (min w 200) = W at *
  generalize max 0 (min h 200) = H at *
  simp only [Option.bind_some]
  rw [wrap_id (n := X + W) (by unfold I64; omega), wrap_id (n := Y + H) (by unfold I64; omega), wrap_id (n := 5000 - X) (by unfold I64; omega), wrap_id (n := 5000 - Y) (by unfold I64; omega)]
  by_cases c1 : X + W > 5000 <;> by_cases c2 : Y + H > 5000 <;> simp only [c1, c2, if_true, if_false] <;> (repeat' split) <;> first | rfl | omega
theorem refClean_k {k : Nat} (hk : 1 ≤ k) (x y w h : Int) : casementref02_Clean.f k x y w h = some (cl x y w h) := by
  obtain ⟨m, rfl⟩ := pos_of hk
  exact refClean_eq x y w h m
end Go.Proofs.Ytmokmkaipcojkaa.Rect
