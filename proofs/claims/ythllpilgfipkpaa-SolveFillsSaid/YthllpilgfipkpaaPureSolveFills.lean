/- Lengths are at least 1 and the total together, and Flex ones never rise and differ by one at most: SolveFills answers true for every total and sizes. No condition. -/
import Derived.Test.YthllpilgfipkpaaQx16
import Derived.Test.YthllpilgfipkpaaSE
namespace Go.Proofs.Ythllpilgfipkpaa.Pure
open Go.RowKit Go.Proofs.Ythllpilgfipkpaa.Q Go.Proofs.YthllpilgfipkpaaW.PrintWords Go.Proofs.YthllpilgfipkpaaW.PrintLast Go.Proofs.Ythllpilgfipkpaa.Solve

theorem fills_loop {T : Int} {l : List S70} {r : Nat → Int} {m : Nat} (hn : l.length ≤ 16) (hT : T ≤ 200) (hm : m ≤ 200) (hp : ∀ i, i < l.length → 1 ≤ r i) (hs : sumN r l.length = T) (hfx : ∀ i, i < l.length → kdL l i = true → r i = 1 + deal (rk (kdL l) l.length) m (rk (kdL l) i)) :
    ∀ (d k i : Nat) (last first : Int), l.length - i = d → i ≤ l.length → (rk (kdL l) i = 0 → last = 0 ∧ first = 0) → (0 < rk (kdL l) i → last = 1 + deal (rk (kdL l) l.length) m (rk (kdL l) i - 1) ∧ first = 1 + deal (rk (kdL l) l.length) m 0) → 2 * d + 1 ≤ k →
    casementlaw09_SolveFills.l0 k T l (tab l.length r) (sumN r i) last first (tab l.length r) (l.length : Int) (i : Int) = some true := by
  intro d
  induction d with
  | zero =>
    intro k i last first hd hi _ _ hk
    obtain ⟨k, rfl⟩ : ∃ q, k = q + 1 := ⟨k - 1, by omega⟩
    rw [show i = l.length from by omega, casementlaw09_SolveFills.l0, if_neg (by omega), if_pos hs, tab_len]
    simp
  | succ d ih =>
    intro k i last first hd hi h0 h1 hk
    obtain ⟨k, rfl⟩ : ∃ q, k = q + 2 := ⟨k - 2, by omega⟩
    have hlt : i < l.length := by omega
    have hpi := hp i hlt
    have hmono : ∀ e, i + e ≤ l.length → 0 ≤ sumN r i ∧ sumN r i ≤ sumN r (i + e) := by
      intro e
      have hz : ∀ q, q ≤ l.length → 0 ≤ sumN r q := by
        intro q
        induction q with
        | zero => intro _; exact Int.le_refl _
        | succ q ih => intro h; have := ih (by omega); have := hp q (by omega); simp only [sumN]; omega
      refine fun h => ⟨hz i (by omega), ?_⟩
      induction e with
      | zero => exact Int.le_refl _
      | succ e ih => have := ih (by omega); have := hp (i + e) (by omega); rw [show i + (e + 1) = (i + e) + 1 from by omega]; simp only [sumN]; omega
    have hsb := hmono (l.length - i) (by omega)
    have hsb1 := hmono 1 (by omega)
    rw [show i + (l.length - i) = l.length from by omega, hs] at hsb
    have hsi : sumN r (i + 1) = sumN r i + r i := rfl
    have hsb2 : sumN r (i + 1) ≤ 200 := by
      have hz : ∀ e, i + 1 + e ≤ l.length → sumN r (i + 1) ≤ sumN r (i + 1 + e) := by
        intro e
        induction e with
        | zero => intro _; exact Int.le_refl _
        | succ e ih => intro h; have := ih (by omega); have := hp (i + 1 + e) (by omega); rw [show i + 1 + (e + 1) = (i + 1 + e) + 1 from by omega]; simp only [sumN] at *; omega
      have := hz (l.length - (i + 1)) (by omega)
      rw [show i + 1 + (l.length - (i + 1)) = l.length from by omega, hs] at this
      omega
    rw [casementlaw09_SolveFills.l0, if_pos (by omega), if_pos (by omega), if_pos (by rw [tab_len]; omega), rd_tab hlt, if_neg (by omega), if_pos (by omega), rdT_at l i hlt]
    rw [wrap_id (n := sumN r i + r i) (by unfold I64; omega), ← hsi]
    have hrkS : rk (kdL l) (i + 1) = rk (kdL l) i + if kdL l i = true then 1 else 0 := rfl
    by_cases c : l[i].f0 = 0
    · have hk1 : kdL l i = true := (kd_at hlt).2 c
      have hri := hfx i hlt hk1
      rw [hk1, if_pos rfl] at hrkS
      rw [if_pos c]
      have hj : ∀ (la fi : Int), (rk (kdL l) i = 0 → la = 0 ∧ fi = 0) → (0 < rk (kdL l) i → fi = 1 + deal (rk (kdL l) l.length) m 0) → casementlaw09_SolveFills.j1 (k + 1) T l (tab l.length r) (sumN r (i + 1)) la fi (i : Int) (r i) (tab l.length r) (l.length : Int) (i : Int) false = some true := by
        intro la fi hz hfi
        rw [casementlaw09_SolveFills.j1, if_neg (by decide), if_pos (by omega), if_pos (by omega), rdT_at l i hlt, if_pos c, wrap_id (n := (i : Int) + 1) (by unfold I64; omega), show ((i : Int) + 1) = ((i + 1 : Nat) : Int) from by omega]
        by_cases cz : rk (kdL l) i = 0
        · rw [if_pos (hz cz).2]
          refine ih k (i + 1) (r i) (r i) (by omega) (by omega) (fun hh => by omega) (fun _ => ?_) (by omega)
          rw [cz] at hri
          rw [hrkS, cz]
          exact ⟨hri, hri⟩
        · have := hfi (by omega)
          have hdn := deal_nonneg (rk (kdL l) l.length) m 0
          rw [if_neg (by omega)]
          refine ih k (i + 1) (r i) fi (by omega) (by omega) (fun hh => by omega) (fun _ => ?_) (by omega)
          rw [hrkS, Nat.add_sub_cancel]
          exact ⟨hri, this⟩
      by_cases cz : rk (kdL l) i = 0
      · obtain ⟨rfl, rfl⟩ := h0 cz
        rw [if_neg (by omega)]
        exact hj 0 0 (fun _ => ⟨rfl, rfl⟩) (fun hh => by omega)
      · obtain ⟨e1, e2⟩ := h1 (by omega)
        have hdn := deal_nonneg (rk (kdL l) l.length) m 0
        have ha := deal_anti (f := rk (kdL l) l.length) (m := m) (i := rk (kdL l) i - 1) (j := rk (kdL l) i) (by omega)
        have hb := deal_near (f := rk (kdL l) l.length) (m := m) (j := rk (kdL l) i)
        have hrkn := rk_lt hk1 hlt
        have hc := deal_le (f := rk (kdL l) l.length) (m := m) (j := 0) (by omega)
        rw [if_pos (by omega), if_neg (by omega), wrap_id (n := first - 1) (by unfold I64; omega), show decide (r i < first - 1) = false from by simp; omega]
        exact hj last first (fun hh => by omega) (fun _ => e2)
    · have hk1 : ¬ kdL l i = true := fun hh => c ((kd_at hlt).1 hh)
      rw [if_neg hk1, Nat.add_zero] at hrkS
      rw [if_neg c, casementlaw09_SolveFills.j1, if_neg (by decide), if_pos (by omega), if_pos (by omega), rdT_at l i hlt, if_neg c, wrap_id (n := (i : Int) + 1) (by unfold I64; omega), show ((i : Int) + 1) = ((i + 1 : Nat) : Int) from by omega]
      exact ih k (i + 1) last first (by omega) (by omega) (by rw [hrkS]; exact h0) (by rw [hrkS]; exact h1) (by omega)

theorem SolveFills : casementlaw09_SolveFills.Pure := by
  intro T l wT _ hb _
  refine ⟨l.length + 100, ?_⟩
  unfold casementlaw09_SolveFills.f
  rw [alive_k (by omega)]
  simp only [Option.bind_some, if_true]
  by_cases he : shareErr T l = 0
  · obtain ⟨hr, hn, h0, h1, h2⟩ := share_zero he
    rw [share_ok hr hn h0 h1 h2 (by omega)]
    simp only [Option.bind_some, if_true, tab_len]
    have hs := sum_bd (T := T) (by omega) h2 hr l.length (Nat.le_refl _)
    exact fills_loop hn h2 (m := (max 0 (T - sumN (wL T l) l.length)).toNat) (by omega) (fun i hi => res_pos hr (by omega) h2 hi) (res_sum hr h0 h1 h2) (fun i hi hk => res_flex hi hk) l.length (l.length + 100) 0 0 0 (by omega) (by omega) (fun _ => ⟨rfl, rfl⟩) (fun hh => by simp [rk] at hh) (by omega)
  · rw [share_err (by omega) he (by omega)]
    simp only [Option.bind_some]
    rw [if_neg he]
    rfl
end Go.Proofs.Ythllpilgfipkpaa.Pure
