/- What an instruction takes and puts, by a table; no other text is spoken of. No condition. -/
import Derived.Test.YtgngbbkaghmnpaaQx10
import Derived.OpenShut
namespace Go.Proofs.Ytgngbbkaghmnpaa.Chk
open Go.RowKit Go.Proofs.Ytgngbbkaghmnpaa.Q Go.Proofs.YtgngbbkaghmnpaaW.PrintWords Go.Proofs.YtgngbbkaghmnpaaW.PrintLast Go.Proofs.YtgngbbkaghmnpaaW.PrintMore

def I64 (a : Int) : Prop := -9223372036854775808 ≤ a ∧ a ≤ 9223372036854775807
theorem i64_of {a : Int} (h : (Lit.int .i64 a).wf = true) : I64 a := by
  have := bounds_i64 h
  exact ⟨by omega, by omega⟩
theorem wrap_id {n : Int} (h : I64 n) : wrap64 n = n := by unfold wrap64 I64 at *; omega
theorem rdT_at (l : List S42) (i : Nat) (h : i < l.length) : rd_T42 l (i : Int) = l[i] := by
  unfold rd_T42
  simp [h]
theorem rdI_at (l : List S46) (i : Nat) (h : i < l.length) : rd_T46 l (i : Int) = l[i] := by
  unfold rd_T46
  simp [h]
/-- The table. -/
def eT (l : List S42) (f op n : Int) : Int × Int × Bool :=
  if op = 0 ∨ op = 24 ∨ op = 29 then (0, 0, true)
  else if op = 1 ∨ op = 5 then (0, 1, true)
  else if op = 2 ∨ op = 6 ∨ op = 25 then (1, 0, true)
  else if op = 3 then (1, 2, true)
  else if op = 4 then (2, 2, true)
  else if op = 19 ∨ op = 20 ∨ op = 22 then (1, 1, true)
  else if op = 21 ∨ op = 23 then (2, 0, true)
  else if op = 27 then ((rd_T42 l f).f1, 0, true)
  else if op = 26 then (if 0 ≤ n ∧ n < (l.length : Int) then ((rd_T42 l n).f0, (rd_T42 l n).f1, true) else (0, 0, false))
  else if op = 28 then (if 0 ≤ n ∧ n < 12 then (rd [3, 3, 0, 1, 1, 3, 1, 0, 1, 3, 0, 2] n, 1, true) else (0, 0, false))
  else if 7 ≤ op ∧ op ≤ 18 then (2, 1, true)
  else (0, 0, false)
theorem eff_tab {m : Int} {d : List Int} {l : List S42} {f op n : Int} (f0 : 0 ≤ f) (f1 : f < (l.length : Int)) {k : Nat} (hk : 6 ≤ k) : check_Effect.f k m d l f op n = some (eT l f op n) := by
  obtain ⟨k, rfl⟩ : ∃ q, k = q + 6 := ⟨k - 6, by omega⟩
  unfold check_Effect.f check_function.f
  rw [if_pos (by omega)]
  simp only [f1, decide_true, Option.bind_some, if_true]
  by_cases h2 : op < 0 ∨ op > 29
  · have e0 : (op == 29) = false := by simp; omega
    have e1 : (op == 5) = false := by simp; omega
    have e2 : (op == 25) = false := by simp; omega
    have e3 : (op == 22) = false := by simp; omega
    have e4 : (op == 23) = false := by simp; omega
    rw [if_neg (show ¬ op = 0 by omega), if_neg (show ¬ op = 24 by omega), e0, check_Effect.j0, if_neg (by decide), if_neg (by omega), e1, check_Effect.j1, if_neg (by decide), if_neg (by omega), if_neg (by omega), e2, check_Effect.j2, if_neg (by decide), if_neg (by omega), if_neg (by omega), if_neg (by omega), if_neg (by omega), e3, check_Effect.j3, if_neg (by decide), if_neg (by omega), e4, check_Effect.j4, if_neg (by decide), if_neg (by omega), if_neg (by omega), if_neg (by omega)]
    have e5 : eT l f op n = (0, 0, false) := by
      unfold eT
      rw [if_neg (by omega), if_neg (by omega), if_neg (by omega), if_neg (by omega), if_neg (by omega), if_neg (by omega), if_neg (by omega), if_neg (by omega), if_neg (by omega), if_neg (by omega), if_neg (by omega)]
    rw [e5]
    by_cases c : op ≥ 7
    · rw [if_pos c, if_neg (by omega)]
    · rw [if_neg c]
  · by_cases c26 : op = 26
    · subst c26
      simp only [check_Effect.j0, check_Effect.j1, check_Effect.j2, check_Effect.j3, check_Effect.j4, check_function.f, eT]
      by_cases a : n < 0
      · simp [show ¬ n ≥ 0 by omega]
      · by_cases b : n < (l.length : Int)
        · simp [show 0 ≤ n by omega, b]
        · simp [show 0 ≤ n by omega, b]
    · by_cases c28 : op = 28
      · subst c28
        simp only [check_Effect.j0, check_Effect.j1, check_Effect.j2, check_Effect.j3, check_Effect.j4, check_host.f, eT]
        by_cases a : n < 0
        · simp [a, show ¬ 0 ≤ n by omega]
        · by_cases b : 12 ≤ n
          · simp [a, b, show ¬ n < 12 by omega]
          · obtain rfl | rfl | rfl | rfl | rfl | rfl | rfl | rfl | rfl | rfl | rfl | rfl : n = 0 ∨ n = 1 ∨ n = 2 ∨ n = 3 ∨ n = 4 ∨ n = 5 ∨ n = 6 ∨ n = 7 ∨ n = 8 ∨ n = 9 ∨ n = 10 ∨ n = 11 := by omega
            all_goals rfl
      · by_cases c27 : op = 27
        · subst c27
          simp only [check_Effect.j0, check_Effect.j1, check_Effect.j2, check_Effect.j3, check_Effect.j4, eT]
          simp [f0, f1]
        · obtain rfl | rfl | rfl | rfl | rfl | rfl | rfl | rfl | rfl | rfl | rfl | rfl | rfl | rfl | rfl | rfl | rfl | rfl | rfl | rfl | rfl | rfl | rfl | rfl | rfl | rfl | rfl | rfl | rfl | rfl : op = 0 ∨ op = 1 ∨ op = 2 ∨ op = 3 ∨ op = 4 ∨ op = 5 ∨ op = 6 ∨ op = 7 ∨ op = 8 ∨ op = 9 ∨ op = 10 ∨ op = 11 ∨ op = 12 ∨ op = 13 ∨ op = 14 ∨ op = 15 ∨ op = 16 ∨ op = 17 ∨ op = 18 ∨ op = 19 ∨ op = 20 ∨ op = 21 ∨ op = 22 ∨ op = 23 ∨ op = 24 ∨ op = 25 ∨ op = 26 ∨ op = 27 ∨ op = 28 ∨ op = 29 := by omega
          all_goals first | exact absurd rfl c26 | exact absurd rfl c27 | exact absurd rfl c28 | rfl
/-- What it says lies within bounds, if all functions do. -/
theorem eT_bnd {l : List S42} {f op n : Int} (hr : ∀ g : Int, 0 ≤ g → g < (l.length : Int) → (0 ≤ (rd_T42 l g).f0 ∧ (rd_T42 l g).f0 ≤ 8) ∧ (0 ≤ (rd_T42 l g).f1 ∧ (rd_T42 l g).f1 ≤ 8)) (f0 : 0 ≤ f) (f1 : f < (l.length : Int)) : (0 ≤ (eT l f op n).1 ∧ (eT l f op n).1 ≤ 8) ∧ (0 ≤ (eT l f op n).2.1 ∧ (eT l f op n).2.1 ≤ 8) := by
  unfold eT
  by_cases c : op = 27
  · subst c
    simp only [show ¬ ((27 : Int) = 0 ∨ (27 : Int) = 24 ∨ (27 : Int) = 29) by omega, show ¬ ((27 : Int) = 1 ∨ (27 : Int) = 5) by omega, show ¬ ((27 : Int) = 2 ∨ (27 : Int) = 6 ∨ (27 : Int) = 25) by omega, show ¬ (27 : Int) = 3 by omega, show ¬ (27 : Int) = 4 by omega, show ¬ ((27 : Int) = 19 ∨ (27 : Int) = 20 ∨ (27 : Int) = 22) by omega, show ¬ ((27 : Int) = 21 ∨ (27 : Int) = 23) by omega, if_false, if_true]
    exact ⟨(hr f f0 f1).2, by decide⟩
  · rw [if_neg c]
    by_cases c2 : op = 26
    · subst c2
      simp only [show ¬ ((26 : Int) = 0 ∨ (26 : Int) = 24 ∨ (26 : Int) = 29) by omega, show ¬ ((26 : Int) = 1 ∨ (26 : Int) = 5) by omega, show ¬ ((26 : Int) = 2 ∨ (26 : Int) = 6 ∨ (26 : Int) = 25) by omega, show ¬ (26 : Int) = 3 by omega, show ¬ (26 : Int) = 4 by omega, show ¬ ((26 : Int) = 19 ∨ (26 : Int) = 20 ∨ (26 : Int) = 22) by omega, show ¬ ((26 : Int) = 21 ∨ (26 : Int) = 23) by omega, if_false, if_true]
      split
      · rename_i h
        exact hr n h.1 h.2
      · exact ⟨by decide, by decide⟩
    · rw [if_neg c2]
      by_cases c3 : op = 28
      · subst c3
        simp only [show ¬ ((28 : Int) = 0 ∨ (28 : Int) = 24 ∨ (28 : Int) = 29) by omega, show ¬ ((28 : Int) = 1 ∨ (28 : Int) = 5) by omega, show ¬ ((28 : Int) = 2 ∨ (28 : Int) = 6 ∨ (28 : Int) = 25) by omega, show ¬ (28 : Int) = 3 by omega, show ¬ (28 : Int) = 4 by omega, show ¬ ((28 : Int) = 19 ∨ (28 : Int) = 20 ∨ (28 : Int) = 22) by omega, show ¬ ((28 : Int) = 21 ∨ (28 : Int) = 23) by omega, if_false, if_true]
        split
        · rename_i h
          obtain rfl | rfl | rfl | rfl | rfl | rfl | rfl | rfl | rfl | rfl | rfl | rfl : n = 0 ∨ n = 1 ∨ n = 2 ∨ n = 3 ∨ n = 4 ∨ n = 5 ∨ n = 6 ∨ n = 7 ∨ n = 8 ∨ n = 9 ∨ n = 10 ∨ n = 11 := by omega
          all_goals decide
        · exact ⟨by decide, by decide⟩
      · rw [if_neg c3]
        repeat' split
        all_goals exact ⟨by decide, by decide⟩
theorem eT_ok {l : List S42} {f op n : Int} (h0 : 0 ≤ op) (h1 : op ≤ 29) (h2 : op ≠ 26) (h3 : op ≠ 28) : (eT l f op n).2.2 = true := by
  unfold eT
  repeat' split
  all_goals first | rfl | (exfalso; omega)
theorem eT_ret {l : List S42} {f n : Int} : (eT l f 27 n).1 = (rd_T42 l f).f1 := by
  unfold eT
  simp
end Go.Proofs.Ytgngbbkaghmnpaa.Chk
