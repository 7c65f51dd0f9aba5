/- What an instruction takes and puts, as both texts have it. Condition: numbers of 64 bits. -/
import Derived.Test.YtgngbbkaghmnpaaCF
import Derived.Test.YtgngbbkaghmnpaaQx21
import Derived.Test.YtgngbbkaghmnpaaQx19
namespace Go.Proofs.Ytgngbbkaghmnpaa.Chk
open Go.RowKit Go.Proofs.Ytgngbbkaghmnpaa.Q Go.Proofs.YtgngbbkaghmnpaaW.PrintWords Go.Proofs.YtgngbbkaghmnpaaW.PrintLast Go.Proofs.YtgngbbkaghmnpaaW.PrintMore

/-- Both texts say the same. -/
theorem eff_eq (m : Int) (d : List Int) (l : List S42) (f op n : Int) {k : Nat} (hk : 6 ≤ k) : ∃ v, check_Effect.f k m d l f op n = some v ∧ casementref13_Effect.f k m d l f op n = some v := by
  obtain ⟨k, rfl⟩ : ∃ q, k = q + 6 := ⟨k - 6, by omega⟩
  unfold check_Effect.f casementref13_Effect.f check_function.f
  by_cases h0 : f < 0
  · rw [if_neg (by omega), if_pos h0]
    exact ⟨_, rfl, rfl⟩
  · rw [if_pos (by omega), if_neg h0]
    by_cases h1 : f < (l.length : Int)
    · rw [if_neg (show ¬ f ≥ (l.length : Int) by omega)]
      simp only [h1, decide_true, Option.bind_some, if_true]
      by_cases h2 : op < 0 ∨ op > 29
      · refine ⟨(0, 0, false), ?_, ?_⟩
        · have e0 : (op == 29) = false := by simp; omega
          have e1 : (op == 5) = false := by simp; omega
          have e2 : (op == 25) = false := by simp; omega
          have e3 : (op == 22) = false := by simp; omega
          have e4 : (op == 23) = false := by simp; omega
          rw [if_neg (show ¬ op = 0 by omega), if_neg (show ¬ op = 24 by omega), e0, check_Effect.j0, if_neg (by decide), if_neg (by omega), e1, check_Effect.j1, if_neg (by decide), if_neg (by omega), if_neg (by omega), e2, check_Effect.j2, if_neg (by decide), if_neg (by omega), if_neg (by omega), if_neg (by omega), if_neg (by omega), e3, check_Effect.j3, if_neg (by decide), if_neg (by omega), e4, check_Effect.j4, if_neg (by decide), if_neg (by omega), if_neg (by omega), if_neg (by omega)]
          by_cases c : op ≥ 7
          · rw [if_pos c, if_neg (by omega)]
          · rw [if_neg c]
        · by_cases c : op < 0
          · rw [if_pos c, casementref13_Effect.j0, if_pos rfl]
          · rw [if_neg c, show decide (op > 29) = true from by simp; omega, casementref13_Effect.j0, if_pos rfl]
      · rw [if_neg (show ¬ op < 0 by omega), show decide (op > 29) = false from by simp; omega]
        by_cases c26 : op = 26
        · subst c26
          simp only [check_Effect.j0, check_Effect.j1, check_Effect.j2, check_Effect.j3, check_Effect.j4, casementref13_Effect.j0, check_function.f]
          by_cases a : n < 0
          · exact ⟨(0, 0, false), by simp [show ¬ n ≥ 0 by omega], by simp [a]⟩
          · by_cases b : n < (l.length : Int)
            · exact ⟨((rd_T42 l n).f0, (rd_T42 l n).f1, true), by simp [show n ≥ 0 by omega, b], by simp [a, b, show ¬ n ≥ (l.length : Int) by omega, show 0 ≤ n by omega]⟩
            · exact ⟨(0, 0, false), by simp [show n ≥ 0 by omega, b], by simp [a, show n ≥ (l.length : Int) by omega]⟩
        · by_cases c28 : op = 28
          · subst c28
            simp only [check_Effect.j0, check_Effect.j1, check_Effect.j2, check_Effect.j3, check_Effect.j4, casementref13_Effect.j0, check_host.f]
            by_cases a : n < 0
            · exact ⟨(0, 0, false), by simp [a], by simp [a]⟩
            · by_cases b : 12 ≤ n
              · exact ⟨(0, 0, false), by simp [a, b], by simp [a, show n > 11 by omega]⟩
              · obtain rfl | rfl | rfl | rfl | rfl | rfl | rfl | rfl | rfl | rfl | rfl | rfl : n = 0 ∨ n = 1 ∨ n = 2 ∨ n = 3 ∨ n = 4 ∨ n = 5 ∨ n = 6 ∨ n = 7 ∨ n = 8 ∨ n = 9 ∨ n = 10 ∨ n = 11 := by omega
                all_goals exact ⟨_, rfl, rfl⟩
          · by_cases c27 : op = 27
            · subst c27
              simp only [check_Effect.j0, check_Effect.j1, check_Effect.j2, check_Effect.j3, check_Effect.j4, casementref13_Effect.j0]
              exact ⟨((rd_T42 l f).f1, 0, true), by simp [show 0 ≤ f by omega, h1], by simp [show 0 ≤ f by omega, h1]⟩
            · obtain rfl | rfl | rfl | rfl | rfl | rfl | rfl | rfl | rfl | rfl | rfl | rfl | rfl | rfl | rfl | rfl | rfl | rfl | rfl | rfl | rfl | rfl | rfl | rfl | rfl | rfl | rfl | rfl | rfl | rfl : op = 0 ∨ op = 1 ∨ op = 2 ∨ op = 3 ∨ op = 4 ∨ op = 5 ∨ op = 6 ∨ op = 7 ∨ op = 8 ∨ op = 9 ∨ op = 10 ∨ op = 11 ∨ op = 12 ∨ op = 13 ∨ op = 14 ∨ op = 15 ∨ op = 16 ∨ op = 17 ∨ op = 18 ∨ op = 19 ∨ op = 20 ∨ op = 21 ∨ op = 22 ∨ op = 23 ∨ op = 24 ∨ op = 25 ∨ op = 26 ∨ op = 27 ∨ op = 28 ∨ op = 29 := by omega
              all_goals first | exact absurd rfl c26 | exact absurd rfl c27 | exact absurd rfl c28 | exact ⟨_, rfl, rfl⟩
    · rw [if_pos (show f ≥ (l.length : Int) by omega)]
      exact ⟨(0, 0, false), by simp [h1], by rw [casementref13_Effect.j0, if_pos rfl]⟩
end Go.Proofs.Ytgngbbkaghmnpaa.Chk
