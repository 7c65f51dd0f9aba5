/- What the program answers to any total and any sizes. Conditions: numbers of 64 bits. -/
import Derived.Test.YthllpilgfipkpaaSC
namespace Go.Proofs.Ythllpilgfipkpaa.Solve
open Go.RowKit Go.Proofs.Ythllpilgfipkpaa.Q Go.Proofs.YthllpilgfipkpaaW.PrintWords Go.Proofs.YthllpilgfipkpaaW.PrintLast Go.Proofs.YthllpilgfipkpaaW.PrintMore

/-- The third loop: what is left is dealt out to the flexible parts. -/
theorem share_deal {b : Nat → Int} {n : Nat} {kd : Nat → Bool} {m : Nat} (hn : n ≤ 16) (hb : ∀ i, i < n → 0 ≤ b i ∧ b i ≤ 300) (hm : m ≤ 300) (hf : 0 < rk kd n) : ∀ (d k j : Nat), rk kd n - j = d → j ≤ rk kd n → d < k →
    solve_Share.l2 k (tab n (fun i => b i + if kd i = true ∧ rk kd i < j then deal (rk kd n) m (rk kd i) else 0)) (fl kd n) (m : Int) (fl kd n) ((fl kd n).length : Int) (j : Int) =
      some (tab n (fun i => b i + if kd i = true then deal (rk kd n) m (rk kd i) else 0), 0) := by
  intro d
  induction d with
  | zero =>
    intro k j hd hj hk
    obtain ⟨k, rfl⟩ : ∃ q, k = q + 1 := ⟨k - 1, by omega⟩
    rw [solve_Share.l2, if_neg (by rw [fl_len]; omega)]
    refine congrArg some (Prod.ext ?_ rfl)
    apply tab_ext
    intro i hi
    (try simp only)
    cases c : kd i
    · simp
    · have := rk_lt c hi
      rw [if_pos ⟨rfl, by omega⟩, if_pos rfl]
  | succ d ih =>
    intro k j hd hj hk
    obtain ⟨k, rfl⟩ : ∃ q, k = q + 1 := ⟨k - 1, by omega⟩
    obtain ⟨i, h1, h2, h3, h4⟩ := fl_at kd n j (by omega)
    have hbi := hb i h1
    have hd1 := deal_nonneg (rk kd n) m j
    have hd2 := deal_le (f := rk kd n) (m := m) (j := j) hf
    have hq : Int.tdiv (m : Int) ((fl kd n).length : Int) = ((m / rk kd n : Nat) : Int) := by rw [fl_len]; exact (Int.ofNat_tdiv m (rk kd n)).symm
    have hr : Int.tmod (m : Int) ((fl kd n).length : Int) = ((m % rk kd n : Nat) : Int) := by rw [fl_len]; exact (Int.ofNat_tmod m (rk kd n)).symm
    have hq2 : m / rk kd n ≤ m := Nat.div_le_self _ _
    have hq3 : (0 : Int) ≤ ((m / rk kd n : Nat) : Int) := Int.natCast_nonneg _
    have hrk := rk_le kd n
    have hg : rd (tab n (fun i => b i + if kd i = true ∧ rk kd i < j then deal (rk kd n) m (rk kd i) else 0)) (i : Int) = b i := by
      rw [rd_tab h1, if_neg (by omega)]
      omega
    rw [solve_Share.l2, if_pos (by rw [fl_len]; omega), if_pos (by omega), if_pos (by rw [fl_len]; omega), rd_of_get h4, if_pos (by omega), if_pos (by rw [tab_len]; omega), if_neg (by rw [fl_len]; omega), hq, hr, hg, Int.toNat_natCast]
    rw [wrap_id (n := ((m / rk kd n : Nat) : Int)) (by unfold I64; omega), wrap_id (n := b i + ((m / rk kd n : Nat) : Int)) (by unfold I64; omega), wrap_id (n := (j : Int) + 1) (by unfold I64; omega), show ((j : Int) + 1) = ((j + 1 : Nat) : Int) from by omega]
    simp only [Option.bind_some]
    rw [tab_set]
    have hnext := ih k (j + 1) (by omega) (by omega) (by omega)
    have hstep : ∀ v, v = b i + deal (rk kd n) m j → (fun i_1 => if i_1 = i then v else b i_1 + if kd i_1 = true ∧ rk kd i_1 < j then deal (rk kd n) m (rk kd i_1) else 0) = (fun i => b i + if kd i = true ∧ rk kd i < j + 1 then deal (rk kd n) m (rk kd i) else 0) := by
      intro v hv
      funext q
      by_cases c : q = i
      · subst c
        rw [if_pos rfl, if_pos ⟨h2, by omega⟩, h3, hv]
      · rw [if_neg c]
        by_cases c2 : kd q = true ∧ rk kd q < j
        · rw [if_pos c2, if_pos ⟨c2.1, by omega⟩]
        · rw [if_neg c2, if_neg (fun hh => ?_)]
          have : rk kd q ≠ j := fun he => c (rk_inj hh.1 h2 (by omega))
          exact c2 ⟨hh.1, by omega⟩
    by_cases c : (j : Int) < ((m % rk kd n : Nat) : Int)
    · rw [if_pos c, rd_tab h1, if_pos rfl, wrap_id (n := b i + ((m / rk kd n : Nat) : Int) + 1) (by unfold I64; omega), tab_set]
      have e : (fun j_1 => if j_1 = i then b i + ((m / rk kd n : Nat) : Int) + 1 else if j_1 = i then b i + ((m / rk kd n : Nat) : Int) else b j_1 + if kd j_1 = true ∧ rk kd j_1 < j then deal (rk kd n) m (rk kd j_1) else 0) = (fun i_1 => if i_1 = i then b i + ((m / rk kd n : Nat) : Int) + 1 else b i_1 + if kd i_1 = true ∧ rk kd i_1 < j then deal (rk kd n) m (rk kd i_1) else 0) := by
        funext q
        by_cases cq : q = i
        · rw [if_pos cq, if_pos cq]
        · rw [if_neg cq, if_neg cq, if_neg cq]
      rw [e, hstep _ (by unfold deal; rw [if_pos (by omega)]; omega)]
      exact hnext
    · rw [if_neg c, hstep _ (by unfold deal; rw [if_neg (by omega)]; omega)]
      exact hnext
/-- What comes behind the second loop. -/
def resB (b : Nat → Int) (n : Nat) (kd : Nat → Bool) (m : Nat) (i : Nat) : Int :=
  b i + if rk kd n = 0 then (if i = n - 1 then (m : Int) else 0) else if kd i = true then deal (rk kd n) m (rk kd i) else 0
theorem share_third {b : Nat → Int} {n : Nat} {kd : Nat → Bool} {m : Nat} (hn0 : 0 < n) (hn : n ≤ 16) (hb : ∀ i, i < n → 0 ≤ b i ∧ b i ≤ 300) (hm : m ≤ 300) {k : Nat} (hk : 20 ≤ k) (j : Int) :
    solve_Share.l1 k (tab n b) (fl kd n) (m : Int) j = some (tab n (resB b n kd m), 0) := by
  obtain ⟨k, rfl⟩ : ∃ q, k = q + 1 := ⟨k - 1, by omega⟩
  have hrk := rk_le kd n
  rw [solve_Share.l1, if_neg (by omega), fl_len, tab_len]
  by_cases c : rk kd n = 0
  · have hbn := hb (n - 1) (by omega)
    rw [if_pos (by omega), wrap_id (n := (n : Int) - 1) (by unfold I64; omega), if_pos (by omega), if_pos (by omega), show ((n : Int) - 1) = ((n - 1 : Nat) : Int) from by omega, rd_tab (by omega), Int.toNat_natCast, wrap_id (n := b (n - 1) + m) (by unfold I64; omega), tab_set]
    refine congrArg some (Prod.ext ?_ rfl)
    apply tab_ext
    intro i _
    unfold resB
    rw [if_pos c]
    by_cases ci : i = n - 1
    · rw [if_pos ci, if_pos ci, ci]
    · rw [if_neg ci, if_neg ci]; omega
  · rw [if_neg (by omega)]
    have h := share_deal (b := b) (kd := kd) hn hb hm (by omega) (rk kd n) k 0 (by omega) (by omega) (by omega)
    have e : tab n (fun i => b i + if kd i = true ∧ rk kd i < 0 then deal (rk kd n) m (rk kd i) else 0) = tab n b := tab_ext (fun i _ => by simp)
    rw [e, fl_len] at h
    refine Eq.trans h ?_
    refine congrArg some (Prod.ext ?_ rfl)
    apply tab_ext
    intro i _
    unfold resB
    rw [if_neg c]

def resF (T : Int) (l : List S70) : Nat → Int :=
  resB (base (wL T l) l.length (max 0 (sumN (wL T l) l.length - T))) l.length (kdL l) (max 0 (T - sumN (wL T l) l.length)).toNat
theorem share_ok {T : Int} {l : List S70} (hr : ∀ s ∈ l, right s = true) (hn : l.length ≤ 16) (h0 : 0 < l.length) (h1 : (l.length : Int) ≤ T) (h2 : T ≤ 200) {k : Nat} (hk : 80 ≤ k) : solve_Share.f k T l = some (tab l.length (resF T l), 0) := by
  have hT : 1 ≤ T := by omega
  have hw : ∀ i, i < l.length → 1 ≤ wL T l i ∧ wL T l i ≤ 200 := fun i hi => wL_bd hT h2 hr hi
  have hs := sum_bd hT h2 hr l.length (Nat.le_refl _)
  have hany : (l.any fun s => !right s) = false := by
    rw [List.any_eq_false]
    intro s hs
    simp [hr s hs]
  obtain ⟨k, rfl⟩ : ∃ q, k = (q + 1) := ⟨k - 1, by omega⟩
  unfold solve_Share.f
  rw [if_neg (by omega), if_neg (by omega), contains_k l (by omega) (by omega), hany]
  simp only [Option.bind_some]
  rw [solve_Share.j0, if_neg (by decide), if_neg (by omega), if_neg (by omega)]
  obtain ⟨q, hq⟩ : ∃ q, k = l.length + (q + 1) := ⟨k - l.length - 1, by omega⟩
  have hf := share_first hT h2 hr hn l.length (q + 1) 0 (by omega) (by omega)
  rw [← hq] at hf
  have e0 : tab 0 (wL T l) = [] := rfl
  rw [e0] at hf
  simp only [fl, sumN, Int.sub_zero] at hf
  refine Eq.trans hf ?_
  rw [solve_Share.l0, if_neg (by omega), tab_len, wrap_id (n := (l.length : Int) - 1) (by unfold I64; omega)]
  by_cases c : sumN (wL T l) l.length ≤ T
  · have e1 : T - sumN (wL T l) l.length = (((max 0 (T - sumN (wL T l) l.length)).toNat : Nat) : Int) := by omega
    have e2 : tab l.length (wL T l) = tab l.length (base (wL T l) l.length (max 0 (sumN (wL T l) l.length - T))) := by
      apply tab_ext
      intro i hi
      rw [show max 0 (sumN (wL T l) l.length - T) = 0 from by omega, base_zero (fun i hi => (hw i hi).1) hi]
    rw [e1, e2]
    have h := share_third (b := base (wL T l) l.length (max 0 (sumN (wL T l) l.length - T))) (n := l.length) (kd := kdL l) (m := (max 0 (T - sumN (wL T l) l.length)).toNat) h0 hn (fun i hi => by have := base_bd (n := l.length) (d := max 0 (sumN (wL T l) l.length - T)) (hw i hi).1; have := (hw i hi).2; omega) (by omega) (k := q) (by omega) ((l.length : Int) - 1)
    exact h
  · have hd : sumN (fun j => wL T l j - 1) l.length = sumN (wL T l) l.length - l.length := sumN_pred _ _
    have e0 : max 0 (sumN (wL T l) l.length - T) = sumN (wL T l) l.length - T := by omega
    have em : (max 0 (T - sumN (wL T l) l.length)).toNat = 0 := by omega
    have h := share_less (w := wL T l) (n := l.length) hn hw (fl (kdL l) l.length) (sumN (wL T l) l.length - T) (by omega) (by omega) 20 (some (tab l.length (resF T l), 0)) (fun k j hk => by
      have h := share_third (b := base (wL T l) l.length (sumN (wL T l) l.length - T)) (n := l.length) (kd := kdL l) (m := 0) h0 hn (fun i hi => by have := base_bd (n := l.length) (d := sumN (wL T l) l.length - T) (hw i hi).1; have := (hw i hi).2; omega) (by omega) (k := k) hk j
      unfold resF
      rw [e0, em]
      exact h) l.length q (Nat.le_refl _) (by omega)
    have e3 : tab l.length (fun j => if j < l.length then wL T l j else base (wL T l) l.length (sumN (wL T l) l.length - T) j) = tab l.length (wL T l) := tab_ext (fun i hi => by simp [hi])
    rw [e3, show -(max 0 (sumN (wL T l) l.length - T - (sumN (fun j => wL T l j - 1) l.length - sumN (fun j => wL T l j - 1) l.length))) = T - sumN (wL T l) l.length from by omega] at h
    exact h
/-- The error's number of a total and sizes. -/
def shareErr (T : Int) (l : List S70) : Int := if l.length = 0 ∨ T > 200 ∨ (l.any fun s => !right s) = true then 1 else if l.length > 16 then 3 else if T < l.length then 90 else 0
theorem share_err {T : Int} {l : List S70} (hl : l.length ≤ 9000000000000000000) (he : shareErr T l ≠ 0) {k : Nat} (hk : l.length + 4 ≤ k) : solve_Share.f k T l = some ([], shareErr T l) := by
  obtain ⟨k, rfl⟩ : ∃ q, k = (q + 1) := ⟨k - 1, by omega⟩
  unfold shareErr at *
  unfold solve_Share.f
  by_cases c1 : l.length = 0
  · rw [if_pos (by omega), solve_Share.j0, if_pos rfl, if_pos (.inl c1)]
  · rw [if_neg (by omega)]
    by_cases c2 : T > 200
    · rw [if_pos c2, solve_Share.j0, if_pos rfl, if_pos (.inr (.inl c2))]
    · rw [if_neg c2, contains_k l hl (by omega)]
      simp only [Option.bind_some]
      rw [solve_Share.j0]
      by_cases c3 : (l.any fun s => !right s) = true
      · rw [if_pos c3, if_pos (.inr (.inr c3))]
      · have c4 : ¬ (l.length = 0 ∨ T > 200 ∨ (l.any fun s => !right s) = true) := by rintro (h | h | h) <;> contradiction
        rw [if_neg c4] at he
        rw [if_neg c3, if_neg c4]
        by_cases c5 : l.length > 16
        · rw [if_pos (by omega), if_pos c5]
        · rw [if_neg c5] at he
          rw [if_neg (by omega), if_neg c5]
          by_cases c6 : T < l.length
          · rw [if_pos c6, if_pos c6]
          · rw [if_neg c6] at he
            exact absurd rfl he
theorem share_zero {T : Int} {l : List S70} (he : shareErr T l = 0) : (∀ s ∈ l, right s = true) ∧ l.length ≤ 16 ∧ 0 < l.length ∧ (l.length : Int) ≤ T ∧ T ≤ 200 := by
  unfold shareErr at he
  split at he
  · cases he
  · rename_i h
    split at he
    · cases he
    · split at he
      · cases he
      · refine ⟨fun s hs => ?_, by omega, by omega, by omega, by omega⟩
        cases hb : right s
        · exact absurd (List.any_eq_true.2 ⟨s, hs, by simp [hb]⟩) (fun hh => h (.inr (.inr hh)))
        · rfl
end Go.Proofs.Ythllpilgfipkpaa.Solve
