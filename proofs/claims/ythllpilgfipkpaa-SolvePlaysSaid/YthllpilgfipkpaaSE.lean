/- Lengths that are shared out are at least 1 and the total together. No condition. -/
import Derived.Test.YthllpilgfipkpaaSD
namespace Go.Proofs.Ythllpilgfipkpaa.Solve
open Go.RowKit Go.Proofs.Ythllpilgfipkpaa.Q Go.Proofs.YthllpilgfipkpaaW.PrintWords Go.Proofs.YthllpilgfipkpaaW.PrintLast Go.Proofs.YthllpilgfipkpaaW.PrintMore

theorem base_sum {w : Nat → Int} {n : Nat} {d : Int} (hw : ∀ i, i < n → 1 ≤ w i) : ∀ i, i ≤ n →
    sumN (base w n d) i = sumN w i - (max 0 (d - (sumN (fun j => w j - 1) n - sumN (fun j => w j - 1) i)) - max 0 (d - sumN (fun j => w j - 1) n))
  | 0, _ => by simp [sumN]
  | i + 1, h => by
    have ih := base_sum (d := d) hw i (by omega)
    have hi := hw i (by omega)
    simp only [sumN] at *
    rw [ih]
    unfold base
    simp only [sumN]
    omega
theorem deal_sum {n : Nat} {kd : Nat → Bool} (hf : 0 < rk kd n) : ∀ m : Nat, sumN (fun i => if kd i = true then deal (rk kd n) m (rk kd i) else 0) n = m
  | 0 => by
    rw [sumN_ext (g' := fun _ => 0) (fun i _ => by (try simp only); split <;> simp [deal_zero]), sumN_const]
    omega
  | m + 1 => by
    have ih := deal_sum hf m
    obtain ⟨q, h1, h2, h3, _⟩ := fl_at kd n (m % rk kd n) (Nat.mod_lt _ hf)
    rw [sumN_ext (g' := fun i => if i = q then (if kd i = true then deal (rk kd n) m (rk kd i) else 0) + 1 else if kd i = true then deal (rk kd n) m (rk kd i) else 0)]
    · rw [sumN_change q 1, ih, if_pos h1]
      omega
    · intro i hi
      (try simp only)
      cases c : kd i
      · have : i ≠ q := fun e => by rw [e, h2] at c; cases c
        rw [if_neg (by decide), if_neg this]
        rfl
      · rw [if_pos rfl, deal_succ hf (rk_lt c hi)]
        by_cases ci : i = q
        · rw [if_pos ci, if_pos (by rw [ci]; exact h3), if_pos rfl]
        · rw [if_neg ci, if_pos rfl, if_neg (fun he => ci (rk_inj c h2 (by omega)))]
          omega
theorem resB_sum {b : Nat → Int} {n : Nat} {kd : Nat → Bool} {m : Nat} (hn : 0 < n) : sumN (resB b n kd m) n = sumN b n + m := by
  have hadd : ∀ (g : Nat → Int) (q : Nat), sumN (fun i => b i + g i) q = sumN b q + sumN g q := by
    intro g q
    induction q with
    | zero => rfl
    | succ q ih => simp only [sumN]; rw [ih]; omega
  unfold resB
  rw [hadd]
  by_cases c : rk kd n = 0
  · simp only [c, if_true]
    have := sumN_change (g := fun _ => (0 : Int)) (n - 1) (m : Int) (n := n)
    rw [sumN_const, if_pos (by omega)] at this
    have e : sumN (fun i => if i = n - 1 then (m : Int) else 0) n = sumN (fun j => if j = n - 1 then (0 : Int) + m else 0) n := sumN_ext (fun i _ => by (try simp only); split <;> omega)
    rw [e, this]
    omega
  · simp only [c, if_false]
    rw [deal_sum (by omega)]
theorem resB_pos {b : Nat → Int} {n : Nat} {kd : Nat → Bool} {m i : Nat} (h : 1 ≤ b i) : 1 ≤ resB b n kd m i := by
  unfold resB
  have := deal_nonneg (rk kd n) m (rk kd i)
  repeat' split
  all_goals omega
theorem res_sum {T : Int} {l : List S70} (hr : ∀ s ∈ l, right s = true) (h0 : 0 < l.length) (h1 : (l.length : Int) ≤ T) (h2 : T ≤ 200) : sumN (resF T l) l.length = T := by
  have hw : ∀ i, i < l.length → 1 ≤ wL T l i := fun i hi => (wL_bd (by omega) h2 hr hi).1
  have hs := sum_bd (T := T) (by omega) h2 hr l.length (Nat.le_refl _)
  unfold resF
  rw [resB_sum h0, base_sum hw l.length (Nat.le_refl _), sumN_pred]
  omega
theorem res_pos {T : Int} {l : List S70} (hr : ∀ s ∈ l, right s = true) (h1 : 1 ≤ T) (h2 : T ≤ 200) {i : Nat} (hi : i < l.length) : 1 ≤ resF T l i := by
  unfold resF
  exact resB_pos (base_bd (wL_bd h1 h2 hr hi).1).1
/-- A flexible part. -/
theorem res_flex {T : Int} {l : List S70} {i : Nat} (hi : i < l.length) (hk : kdL l i = true) : resF T l i = 1 + deal (rk (kdL l) l.length) (max 0 (T - sumN (wL T l) l.length)).toNat (rk (kdL l) i) := by
  have hw : wL T l i = 1 := by
    unfold kdL at hk
    unfold wL want
    simp only [decide_eq_true_eq] at hk
    rw [hk]
    rfl
  have hf : rk (kdL l) l.length ≠ 0 := by have := rk_lt hk hi; omega
  unfold resF resB base
  rw [if_neg hf, if_pos hk, hw]
  omega
theorem deal_anti {f m i j : Nat} (h : i ≤ j) : deal f m j ≤ deal f m i := by
  unfold deal
  generalize m / f = q
  repeat' split
  all_goals omega
theorem deal_near {f m j : Nat} : deal f m 0 ≤ deal f m j + 1 := by
  unfold deal
  generalize m / f = q
  repeat' split
  all_goals omega
theorem kd_at {l : List S70} {i : Nat} (h : i < l.length) : kdL l i = true ↔ l[i].f0 = 0 := by
  unfold kdL
  rw [List.getD_eq_getElem?_getD, List.getElem?_eq_getElem h]
  simp
end Go.Proofs.Ythllpilgfipkpaa.Solve
