/- Plain words for lengths that are shared out: tables, sums, ranks. No condition. -/
import Derived.Test.YthllpilgfipkpaaSA
namespace Go.Proofs.Ythllpilgfipkpaa.Solve
open Go.RowKit Go.Proofs.Ythllpilgfipkpaa.Q Go.Proofs.YthllpilgfipkpaaW.PrintWords Go.Proofs.YthllpilgfipkpaaW.PrintLast Go.Proofs.YthllpilgfipkpaaW.PrintMore

def tab (n : Nat) (g : Nat → Int) : List Int := (List.range n).map g
theorem tab_len (n : Nat) (g : Nat → Int) : (tab n g).length = n := by simp [tab]
theorem tab_get {n : Nat} {g : Nat → Int} {i : Nat} (h : i < (tab n g).length) : (tab n g)[i] = g i := by simp [tab]
theorem rd_tab {n : Nat} {g : Nat → Int} {i : Nat} (h : i < n) : rd (tab n g) (i : Int) = g i := by
  rw [rd_at _ i (by rw [tab_len]; exact h), tab_get]
theorem tab_ext {n : Nat} {g g' : Nat → Int} (h : ∀ i, i < n → g i = g' i) : tab n g = tab n g' := by
  unfold tab
  exact List.map_congr_left (fun i hi => h i (by simpa using hi))
theorem tab_succ (n : Nat) (g : Nat → Int) : tab (n + 1) g = tab n g ++ [g n] := by simp [tab, List.range_succ]
theorem tab_set {n : Nat} {g : Nat → Int} {i : Nat} (v : Int) : (tab n g).set i v = tab n (fun j => if j = i then v else g j) := by
  apply List.ext_getElem
  · simp [tab]
  · intro j h1 h2
    rw [List.getElem_set, tab_get, tab_get]
    by_cases c : i = j
    · rw [if_pos c, if_pos c.symm]
    · rw [if_neg c, if_neg (fun e => c e.symm)]
def sumN (g : Nat → Int) : Nat → Int
  | 0 => 0
  | n + 1 => sumN g n + g n
theorem sumN_ext {g g' : Nat → Int} : ∀ {n : Nat}, (∀ i, i < n → g i = g' i) → sumN g n = sumN g' n
  | 0, _ => rfl
  | n + 1, h => by simp only [sumN]; rw [sumN_ext (fun i hi => h i (by omega)), h n (by omega)]
theorem sumN_change {g : Nat → Int} (at_ : Nat) (d : Int) : ∀ {n : Nat}, sumN (fun j => if j = at_ then g j + d else g j) n = sumN g n + if at_ < n then d else 0
  | 0 => by simp [sumN]
  | n + 1 => by
    simp only [sumN]
    rw [sumN_change at_ d]
    by_cases c : n = at_
    · subst c
      rw [if_pos rfl, if_neg (by omega), if_pos (by omega)]
      omega
    · rw [if_neg c]
      by_cases c2 : at_ < n
      · rw [if_pos c2, if_pos (by omega)]; omega
      · rw [if_neg c2, if_neg (by omega)]; omega
theorem sumN_le {g g' : Nat → Int} : ∀ {n : Nat}, (∀ i, i < n → g i ≤ g' i) → sumN g n ≤ sumN g' n
  | 0, _ => by simp [sumN]
  | n + 1, h => by
    have := sumN_le (n := n) (fun i hi => h i (by omega))
    have := h n (by omega)
    simp only [sumN]
    omega
theorem sumN_const (c : Int) : ∀ n : Nat, sumN (fun _ => c) n = n * c
  | 0 => by simp [sumN]
  | n + 1 => by simp only [sumN]; rw [sumN_const c n]; rw [show ((n + 1 : Nat) : Int) = (n : Int) + 1 from by omega, Int.add_mul, Int.one_mul]
theorem sumN_pred (w : Nat → Int) : ∀ n : Nat, sumN (fun j => w j - 1) n = sumN w n - n
  | 0 => by simp [sumN]
  | n + 1 => by simp only [sumN]; rw [sumN_pred w n]; omega
/-- How many are flexible ahead of a place. -/
def rk (kd : Nat → Bool) : Nat → Nat
  | 0 => 0
  | n + 1 => rk kd n + if kd n = true then 1 else 0
theorem rk_mono (kd : Nat → Bool) (i : Nat) : ∀ d : Nat, rk kd i ≤ rk kd (i + d)
  | 0 => Nat.le_refl _
  | d + 1 => by
    have := rk_mono kd i d
    rw [show i + (d + 1) = (i + d) + 1 from by omega]
    simp only [rk]
    omega
theorem rk_lt {kd : Nat → Bool} {i j : Nat} (h : kd i = true) (hij : i < j) : rk kd i < rk kd j := by
  have := rk_mono kd (i + 1) (j - (i + 1))
  rw [show i + 1 + (j - (i + 1)) = j from by omega] at this
  simp only [rk, h, if_true] at this
  omega
theorem rk_le (kd : Nat → Bool) : ∀ n : Nat, rk kd n ≤ n
  | 0 => by simp [rk]
  | n + 1 => by
    have := rk_le kd n
    simp only [rk]
    split <;> omega
theorem rk_inj {kd : Nat → Bool} {i j : Nat} (hi : kd i = true) (hj : kd j = true) (h : rk kd i = rk kd j) : i = j := by
  rcases Nat.lt_trichotomy i j with c | c | c
  · have := rk_lt hi c; omega
  · exact c
  · have := rk_lt hj c; omega
/-- The flexible places. -/
def fl (kd : Nat → Bool) : Nat → List Int
  | 0 => []
  | n + 1 => if kd n = true then fl kd n ++ [(n : Int)] else fl kd n
theorem fl_len (kd : Nat → Bool) : ∀ n, (fl kd n).length = rk kd n
  | 0 => rfl
  | n + 1 => by
    simp only [fl, rk]
    split
    · simp [fl_len kd n]
    · simp [fl_len kd n]
theorem fl_at (kd : Nat → Bool) : ∀ (n j : Nat), j < rk kd n → ∃ i, i < n ∧ kd i = true ∧ rk kd i = j ∧ (fl kd n)[j]? = some (i : Int)
  | 0, j, h => by simp [rk] at h
  | n + 1, j, h => by
    simp only [rk] at h
    by_cases c : j < rk kd n
    · obtain ⟨i, h1, h2, h3, h4⟩ := fl_at kd n j c
      refine ⟨i, by omega, h2, h3, ?_⟩
      simp only [fl]
      split
      · rw [List.getElem?_append_left (by rw [fl_len]; exact c)]
        exact h4
      · exact h4
    · cases hk : kd n
      · rw [hk] at h
        simp at h
        omega
      · rw [hk] at h
        simp at h
        refine ⟨n, by omega, hk, by omega, ?_⟩
        simp only [fl, hk, if_true]
        rw [List.getElem?_append_right (by rw [fl_len]; omega), fl_len, show j - rk kd n = 0 from by omega]
        rfl
theorem rd_of_get {l : List Int} {j : Nat} {v : Int} (h : l[j]? = some v) : rd l (j : Int) = v := by
  unfold rd
  simp [h]
/-- What the n-th of f gets of a number of things that are dealt out. -/
def deal (f m j : Nat) : Int := ((m / f : Nat) : Int) + if j < m % f then 1 else 0
theorem deal_zero (f j : Nat) : deal f 0 j = 0 := by simp [deal]
theorem deal_succ {f m j : Nat} (hf : 0 < f) (hj : j < f) : deal f (m + 1) j = deal f m j + if j = m % f then 1 else 0 := by
  unfold deal
  have h1 := Nat.div_add_mod m f
  have h2 := Nat.mod_lt m hf
  by_cases c : m % f + 1 < f
  · have e1 : (m + 1) / f = m / f := by
      rw [show m + 1 = (m % f + 1) + f * (m / f) from by omega, Nat.add_mul_div_left _ _ hf, Nat.div_eq_of_lt c, Nat.zero_add]
    have e2 : (m + 1) % f = m % f + 1 := by
      rw [show m + 1 = (m % f + 1) + f * (m / f) from by omega, Nat.add_mul_mod_self_left, Nat.mod_eq_of_lt c]
    rw [e1, e2]
    by_cases c1 : j < m % f
    · rw [if_pos c1, if_pos (by omega), if_neg (by omega)]; omega
    · by_cases c2 : j = m % f
      · rw [if_neg c1, if_pos (by omega), if_pos c2]; omega
      · rw [if_neg c1, if_neg (by omega), if_neg c2]; omega
  · have e0 : m % f + 1 = f := by omega
    have e1 : (m + 1) / f = m / f + 1 := by
      rw [show m + 1 = f + f * (m / f) from by omega, Nat.add_mul_div_left _ _ hf, Nat.div_self hf]
      omega
    have e2 : (m + 1) % f = 0 := by
      rw [show m + 1 = f + f * (m / f) from by omega, Nat.add_mul_mod_self_left, Nat.mod_self]
    rw [e1, e2]
    by_cases c1 : j < m % f
    · rw [if_pos c1, if_neg (by omega), if_neg (by omega)]; omega
    · rw [if_neg c1, if_neg (by omega), if_pos (by omega)]; omega
theorem deal_nonneg (f m j : Nat) : 0 ≤ deal f m j := by
  unfold deal
  generalize m / f = q
  split <;> omega
theorem deal_le {f m j : Nat} (hf : 0 < f) : deal f m j ≤ m := by
  unfold deal
  have h1 := Nat.div_add_mod m f
  have h3 : m / f ≤ f * (m / f) := Nat.le_mul_of_pos_left _ hf
  generalize m / f = q at *
  split <;> omega
end Go.Proofs.Ythllpilgfipkpaa.Solve
