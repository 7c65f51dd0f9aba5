/- A rectangle made smaller. No condition. -/
import Derived.Test.YtmokmkaipcojkaaRI
import Derived.Test.YtmokmkaipcojkaaQx26
namespace Go.Proofs.Ytmokmkaipcojkaa.Rect
open Go.RowKit Go.Proofs.Ytmokmkaipcojkaa.Q Go.Proofs.YtmokmkaipcojkaaW.PrintWords Go.Proofs.YtmokmkaipcojkaaW.PrintLast Go.Proofs.YtmokmkaipcojkaaW.PrintMore

def insS (X Y W H n : Int) : Int × Int × Int × Int :=
  if W - 2 * max 0 (min n 200) ≤ 0 ∨ H - 2 * max 0 (min n 200) ≤ 0 then (0, 0, 0, 0) else (X + max 0 (min n 200), Y + max 0 (min n 200), W - 2 * max 0 (min n 200), H - 2 * max 0 (min n 200))
theorem inset_eq {x y w h X Y W H : Int} (e : cl x y w h = (X, Y, W, H)) (n : Nrm X Y W H) (m : Int) : rect_Inset.f x y w h m = some (insS X Y W H m) := by
  obtain ⟨a1, a2⟩ := nrm_ends n
  unfold rect_Inset.f insS
  rw [clean_eq, e]
  simp only [Option.bind_some, clamp_eq]
  rw [a1, a2]
  have hn : 0 ≤ max 0 (min m 200) ∧ max 0 (min m 200) ≤ 200 := by omega
  generalize max 0 (min m 200) = t at *
  unfold Nrm at n
  rw [wrap_id (n := X + t) (by unfold I64; omega), wrap_id (n := Y + t) (by unfold I64; omega), wrap_id (n := X + W - t) (by unfold I64; omega), wrap_id (n := Y + H - t) (by unfold I64; omega)]
  rw [between_eq (by omega) (by omega) (by omega) (by omega)]
  simp only [Option.bind_some]
  refine congrArg some ?_
  obtain ⟨X1, Y1, W1, H1, e1, n1, r1⟩ := cl_nrm (X + t) (Y + t) (X + W - t - (X + t)) (Y + H - t - (Y + t))
  rw [e1]
  unfold Nrm at n1
  split <;> simp only [Prod.mk.injEq] <;> omega
theorem insS_nrm {X Y W H : Int} (n : Nrm X Y W H) (m : Int) : ∃ X' Y' W' H', insS X Y W H m = (X', Y', W', H') ∧ Nrm X' Y' W' H' ∧
    ((W' = 0 ∧ (W - 2 * max 0 (min m 200) ≤ 0 ∨ H - 2 * max 0 (min m 200) ≤ 0)) ∨ (W' ≠ 0 ∧ X' = X + max 0 (min m 200) ∧ Y' = Y + max 0 (min m 200) ∧ W' = W - 2 * max 0 (min m 200) ∧ H' = H - 2 * max 0 (min m 200))) := by
  unfold insS
  split
  · exact ⟨0, 0, 0, 0, rfl, .inl ⟨rfl, rfl, rfl, rfl⟩, .inl ⟨rfl, ‹_›⟩⟩
  · refine ⟨_, _, _, _, rfl, ?_, .inr ?_⟩
    · unfold Nrm at *; omega
    · omega
theorem ins_twice {X Y W H X1 Y1 W1 H1 : Int} (hw : W ≤ 200) (hh : H ≤ 200) (a b : Int) (e1 : insS X Y W H a = (X1, Y1, W1, H1)) :
    insS X1 Y1 W1 H1 b = insS X Y W H (min (max a 0) 300 + min (max b 0) 300) := by
  have h1 : max 0 (min a 200) = min (min (max a 0) 300) 200 := by omega
  have h2 : max 0 (min b 200) = min (min (max b 0) 300) 200 := by omega
  have h3 : max 0 (min (min (max a 0) 300 + min (max b 0) 300) 200) = min (min (max a 0) 300 + min (max b 0) 300) 200 := by omega
  have h4 : 0 ≤ min (max a 0) 300 := by omega
  have h5 : 0 ≤ min (max b 0) 300 := by omega
  unfold insS at *
  rw [h1] at e1
  rw [h2, h3]
  generalize min (max a 0) 300 = p at *
  generalize min (max b 0) 300 = q at *
  clear h1 h2 h3
  obtain ⟨t, ht⟩ : ∃ t, t = min p 200 := ⟨_, rfl⟩
  obtain ⟨u, hu⟩ : ∃ u, u = min q 200 := ⟨_, rfl⟩
  obtain ⟨v, hv⟩ : ∃ v, v = min (p + q) 200 := ⟨_, rfl⟩
  rw [← ht] at e1
  rw [← hu, ← hv]
  by_cases c1 : W - 2 * t ≤ 0 ∨ H - 2 * t ≤ 0
  · rw [if_pos c1] at e1
    simp only [Prod.mk.injEq] at e1
    obtain ⟨rfl, rfl, rfl, rfl⟩ := e1
    rw [if_pos (by omega), if_pos (by omega)]
  · rw [if_neg c1] at e1
    simp only [Prod.mk.injEq] at e1
    obtain ⟨rfl, rfl, rfl, rfl⟩ := e1
    by_cases c2 : W - 2 * t - 2 * u ≤ 0 ∨ H - 2 * t - 2 * u ≤ 0
    · rw [if_pos c2, if_pos (by omega)]
    · rw [if_neg c2, if_neg (by omega)]
      simp only [Prod.mk.injEq]
      omega
theorem ins_zero {X Y W H : Int} (n : Nrm X Y W H) : insS X Y W H 0 = (X, Y, W, H) := by
  unfold insS Nrm at *
  split <;> simp only [Prod.mk.injEq] <;> omega
end Go.Proofs.Ytmokmkaipcojkaa.Rect
