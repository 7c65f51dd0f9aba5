import Derived.Test.YtaklapcbbdcdpaaDoorXC
namespace Go.Proofs.YtaklapcbbdcdpaaDoor.X
open Go Go.RowKit
set_option linter.unusedVariables false
set_option linter.unusedSimpArgs false

/-! lists of elements and their cells -/
section flat
variable {α β : Type} {f : α → List β} {z : Nat} (hf : ∀ x, (f x).length = z)
include hf
theorem flat_len : ∀ xs : List α, (xs.flatMap f).length = xs.length * z
  | [] => by simp
  | x :: xs => by simp [List.flatMap_cons, flat_len xs, hf, Nat.succ_mul, Nat.add_comm]
theorem flat_drop : ∀ (xs : List α) (n : Nat), (xs.flatMap f).drop (n * z) = (xs.drop n).flatMap f
  | _, 0 => by simp
  | [], n + 1 => by simp
  | x :: xs, n + 1 => by
    rw [List.flatMap_cons, List.drop_succ_cons, ← flat_drop xs n, List.drop_append, List.drop_eq_nil_of_le (by rw [hf, Nat.succ_mul]; omega), List.nil_append, hf]
    congr 1
    rw [Nat.succ_mul]; omega
theorem flat_take : ∀ (xs : List α) (n : Nat), (xs.flatMap f).take (n * z) = (xs.take n).flatMap f
  | _, 0 => by simp
  | [], n + 1 => by simp
  | x :: xs, n + 1 => by
    rw [List.flatMap_cons, List.take_succ_cons, List.flatMap_cons, ← flat_take xs n, List.take_append, List.take_of_length_le (by rw [hf, Nat.succ_mul]; omega), hf]
    congr 2
    rw [Nat.succ_mul]; omega
theorem flat_get (xs : List α) (i : Nat) (d : α) (hi : i < xs.length) : ((xs.flatMap f).drop (i * z)).take z = f (xs.getD i d) := by
  have h := flat_take hf (xs.drop i) 1
  rw [Nat.one_mul] at h
  have : (xs.drop i).take 1 = [xs.getD i d] := by
    rw [List.drop_eq_getElem_cons hi, List.take_succ_cons, List.take_zero, List.getD_eq_getElem?_getD, List.getElem?_eq_getElem hi, Option.getD_some]
  rw [flat_drop hf, h, this]
  simp
theorem flat_set : ∀ (xs : List α) (i : Nat) (y : α), i < xs.length → (xs.set i y).flatMap f = (xs.flatMap f).take (i * z) ++ f y ++ (xs.flatMap f).drop (i * z + z)
  | [], i, y, h => by simp at h
  | x :: xs, 0, y, h => by simp [hf]
  | x :: xs, i + 1, y, h => by
    have ih := flat_set xs i y (by simpa using h)
    have e1 : (i + 1) * z = z + i * z := by rw [Nat.succ_mul]; omega
    have e2 : (i + 1) * z + z = z + (i * z + z) := by rw [Nat.succ_mul]; omega
    rw [List.set_cons_succ, List.flatMap_cons, List.flatMap_cons, ih, e2, e1, List.take_append, List.drop_append]
    rw [List.take_of_length_le (l := f x) (by rw [hf]; omega), List.drop_eq_nil_of_le (as := f x) (by rw [hf]; omega)]
    simp [hf, Nat.add_sub_cancel_left]
end flat
theorem dv_len : ∀ (s : Sh) (x : s.T), (s.dv x).length = s.sz
  | .unit, _ | .int _, _ | .bool, _ | .str, _ | .sl _, _ | .rs _, _ => by simp [Sh.dv, Sh.sz]
  | .pair a b, x => by simp [Sh.dv, Sh.sz, dv_len a, dv_len b]
theorem avs_len : ∀ (s : Sh) (x : s.T), (s.avs x).length = s.sz
  | .unit, _ | .int _, _ | .bool, _ | .str, _ | .sl _, _ | .rs _, _ => by simp [Sh.avs, Sh.sz]
  | .pair a b, x => by simp [Sh.avs, Sh.sz, avs_len a, avs_len b]

theorem R1.lit_inv {w : World} {A : Nat → Prop} {u v : Value} (h : R1 w A (.lit u) v) : v = u ∧ u.oneCell' = true := by cases h; exact ⟨rfl, by assumption⟩
section
variable {Z : Nat → Prop} {H H' : Heap} {ρ ρ' : Rho} {w w' : World}
theorem LR.nil_inv {α β : Type} {R : α → β → Prop} {bs : List β} (h : LR R [] bs) : bs = [] := by cases bs <;> first | rfl | exact h.elim
theorem LR.one_inv {α β : Type} {R : α → β → Prop} {a : α} {bs : List β} (h : LR R [a] bs) : ∃ b, bs = [b] ∧ R a b := by
  cases bs with
  | nil => exact h.elim
  | cons b bs => obtain rfl := LR.nil_inv h.2; exact ⟨b, rfl, h.1⟩
theorem LR.cons_inv {α β : Type} {R : α → β → Prop} {a : α} {as : List α} {bs : List β} (h : LR R (a :: as) bs) : ∃ b bs', bs = b :: bs' ∧ R a b ∧ LR R as bs' := by
  cases bs with
  | nil => exact h.elim
  | cons b bs => exact ⟨b, bs, rfl, h.1, h.2⟩
theorem V1_of_R1 : ∀ (s : Sh) (x : s.T) (us : List Value), LR (R1 w (A Z H ρ w)) (s.dv x) us → LR (V1 Z H ρ w) (s.avs x) us
  | .unit, _, us, h => by obtain rfl := LR.nil_inv h; trivial
  | .int k, n, us, h => by obtain ⟨u, rfl, hu⟩ := LR.one_inv h; exact ⟨hu.lit_inv, trivial⟩
  | .bool, n, us, h => by obtain ⟨u, rfl, hu⟩ := LR.one_inv h; exact ⟨hu.lit_inv, trivial⟩
  | .str, n, us, h => by obtain ⟨u, rfl, hu⟩ := LR.one_inv h; exact ⟨hu.lit_inv, trivial⟩
  | .sl s, n, us, h => by obtain ⟨u, rfl, hu⟩ := LR.one_inv h; exact ⟨hu, trivial⟩
  | .rs r, n, us, h => by rw [rs_dv] at h; obtain ⟨u, rfl, hu⟩ := LR.one_inv h; exact ⟨hu, trivial⟩
  | .pair a b, x, us, h => by
    obtain ⟨u1, u2, rfl, h1, h2⟩ := LR.split (as := a.dv x.1) h
    exact LR.append (V1_of_R1 a x.1 u1 h1) (V1_of_R1 b x.2 u2 h2)
/-- back: cells that have been decoded -/
theorem R1_of_V1 : ∀ (s : Sh) (cs : List C1) (x : s.T) (r : List C1) (us : List Value), s.dec cs = some (x, r) → LR (V1 Z H ρ w) cs us → ∃ u1 u2, us = u1 ++ u2 ∧ LR (R1 w (A Z H ρ w)) (s.dv x) u1 ∧ LR (V1 Z H ρ w) r u2
  | .unit, cs, x, r, us, hd, h => by
    simp only [Sh.dec, Option.some.injEq, Prod.mk.injEq] at hd
    obtain ⟨_, rfl⟩ := hd
    exact ⟨[], us, rfl, trivial, h⟩
  | .int k, cs, x, r, us, hd, h => by
    match cs, hd, h with
    | .lit (.int k' n) :: cs, hd, h =>
      simp only [Sh.dec] at hd
      split at hd
      · rename_i hk
        subst hk
        simp only [Option.some.injEq, Prod.mk.injEq] at hd
        obtain ⟨rfl, rfl⟩ := hd
        obtain ⟨u, us, rfl, h1, h2⟩ := LR.cons_inv h
        obtain ⟨rfl, h3⟩ := (h1 : u = _ ∧ _)
        exact ⟨[_], us, rfl, ⟨.lit rfl, trivial⟩, h2⟩
      · cases hd
  | .bool, cs, x, r, us, hd, h => by
    match cs, hd, h with
    | .lit (.bool n) :: cs, hd, h =>
      simp only [Sh.dec, Option.some.injEq, Prod.mk.injEq] at hd
      obtain ⟨rfl, rfl⟩ := hd
      obtain ⟨u, us, rfl, h1, h2⟩ := LR.cons_inv h
      obtain ⟨rfl, h3⟩ := (h1 : u = _ ∧ _)
      exact ⟨[_], us, rfl, ⟨.lit rfl, trivial⟩, h2⟩
  | .str, cs, x, r, us, hd, h => by
    match cs, hd, h with
    | .lit (.string n) :: cs, hd, h =>
      simp only [Sh.dec, Option.some.injEq, Prod.mk.injEq] at hd
      obtain ⟨rfl, rfl⟩ := hd
      obtain ⟨u, us, rfl, h1, h2⟩ := LR.cons_inv h
      obtain ⟨rfl, h3⟩ := (h1 : u = _ ∧ _)
      exact ⟨[_], us, rfl, ⟨.lit rfl, trivial⟩, h2⟩
  | .sl s, cs, x, r, us, hd, h => by
    match cs, hd, h with
    | .vsl s' xs :: cs, hd, h =>
      simp only [Sh.dec] at hd
      split at hd
      · rename_i hk
        subst hk
        simp only [Option.some.injEq, Prod.mk.injEq] at hd
        obtain ⟨rfl, rfl⟩ := hd
        obtain ⟨u, us, rfl, h1, h2⟩ := LR.cons_inv h
        exact ⟨[u], us, rfl, ⟨h1, trivial⟩, h2⟩
      · cases hd
    | .lit (.slice none 0 0) :: cs, hd, h =>
      simp only [Sh.dec, Option.some.injEq, Prod.mk.injEq] at hd
      obtain ⟨rfl, rfl⟩ := hd
      obtain ⟨u, us, rfl, h1, h2⟩ := LR.cons_inv h
      obtain ⟨rfl, h3⟩ := (h1 : u = _ ∧ _)
      exact ⟨[_], us, rfl, ⟨.nil (Nat.le_refl _), trivial⟩, h2⟩
  | .rs q, cs, x, r, us, hd, h => by
    match cs, hd, h with
    | .vsl s' xs :: cs, hd, h =>
      simp only [Sh.dec] at hd
      split at hd
      · rename_i hk
        subst hk
        simp only [Option.some.injEq, Prod.mk.injEq] at hd
        obtain ⟨rfl, rfl⟩ := hd
        obtain ⟨u, us, rfl, h1, h2⟩ := LR.cons_inv h
        exact ⟨[u], us, rfl, by rw [rs_dv_inn]; exact ⟨h1, trivial⟩, h2⟩
      · cases hd
    | .lit (.slice none 0 0) :: cs, hd, h =>
      simp only [Sh.dec, Option.some.injEq, Prod.mk.injEq] at hd
      obtain ⟨rfl, rfl⟩ := hd
      obtain ⟨u, us, rfl, h1, h2⟩ := LR.cons_inv h
      obtain ⟨rfl, h3⟩ := (h1 : u = _ ∧ _)
      exact ⟨[_], us, rfl, ⟨.nil (Nat.le_refl _), trivial⟩, h2⟩
  | .pair a b, cs, x, r, us, hd, h => by
    simp only [Sh.dec] at hd
    split at hd
    · rename_i y r1 h1
      split at hd
      · rename_i z r2 h2
        simp only [Option.some.injEq, Prod.mk.injEq] at hd
        obtain ⟨rfl, rfl⟩ := hd
        obtain ⟨u1, u2, rfl, g1, g2⟩ := R1_of_V1 a cs _ _ us h1 h
        obtain ⟨u3, u4, rfl, g3, g4⟩ := R1_of_V1 b r1 _ _ u2 h2 g2
        exact ⟨u1 ++ u3, u4, by simp, LR.append g1 g3, g4⟩
      · cases hd
    · cases hd
end
end Go.Proofs.YtaklapcbbdcdpaaDoor.X
