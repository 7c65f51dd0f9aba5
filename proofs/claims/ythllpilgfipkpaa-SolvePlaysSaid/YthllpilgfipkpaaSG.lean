/- How the reference shares a total out: cell by cell it comes to what the program's parts are. Condition: right sizes, as many as may be, a total that has room for them. -/
import Derived.Test.YthllpilgfipkpaaSF
import Derived.Test.YthllpilgfipkpaaQx13
import Derived.Test.YthllpilgfipkpaaQx14
import Derived.Test.YthllpilgfipkpaaQx11
import Derived.Test.YthllpilgfipkpaaQx12
namespace Go.Proofs.Ythllpilgfipkpaa.Solve
open Go.RowKit Go.Proofs.Ythllpilgfipkpaa.Q Go.Proofs.YthllpilgfipkpaaW.PrintWords Go.Proofs.YthllpilgfipkpaaW.PrintLast Go.Proofs.YthllpilgfipkpaaW.PrintMore

def Evt {α : Type} (g : Nat → Option α) (r : α) : Prop := ∃ K, ∀ k, K ≤ k → g k = some r
theorem Evt.step {α : Type} {g f : Nat → Option α} {r : α} (h : ∀ k, g (k + 1) = f k) (hf : Evt f r) : Evt g r := by
  obtain ⟨K, hK⟩ := hf
  refine ⟨K + 1, fun k hk => ?_⟩
  obtain ⟨q, rfl⟩ : ∃ q, k = q + 1 := ⟨k - 1, by omega⟩
  rw [h]
  exact hK q (by omega)
theorem Evt.stepL {α : Type} {g f : Nat → Option α} {r : α} (B : Nat) (h : ∀ k, B ≤ k → g (k + 1) = f k) (hf : Evt f r) : Evt g r := by
  obtain ⟨K, hK⟩ := hf
  refine ⟨K + B + 1, fun k hk => ?_⟩
  obtain ⟨q, rfl⟩ : ∃ q, k = q + 1 := ⟨k - 1, by omega⟩
  rw [h q (by omega)]
  exact hK q (by omega)
theorem sumN_bd {g : Nat → Int} {c : Int} : ∀ {n : Nat}, (∀ i, i < n → 0 ≤ g i ∧ g i ≤ c) → 0 ≤ sumN g n ∧ sumN g n ≤ c * n
  | 0, _ => by simp [sumN]
  | n + 1, h => by
    have h1 := sumN_bd (n := n) (fun i hi => h i (by omega))
    have h2 := h n (by omega)
    simp only [sumN]
    rw [show ((n + 1 : Nat) : Int) = (n : Int) + 1 from by omega, Int.mul_add, Int.mul_one]
    omega
theorem sum_loop {g : Nat → Int} {n : Nat} (hn : n ≤ 16) (hb : ∀ i, i < n → 0 ≤ g i ∧ g i ≤ 500) : ∀ (d k i : Nat), n - i = d → i ≤ n → d + 1 ≤ k →
    casementref09_sum.l0 k (tab n g) (sumN g i) (i : Int) = some (sumN g n) := by
  intro d
  induction d with
  | zero =>
    intro k i hd hi hk
    obtain ⟨k, rfl⟩ : ∃ q, k = q + 1 := ⟨k - 1, by omega⟩
    rw [casementref09_sum.l0, if_neg (by rw [tab_len]; omega), show i = n from by omega]
  | succ d ih =>
    intro k i hd hi hk
    obtain ⟨k, rfl⟩ : ∃ q, k = q + 1 := ⟨k - 1, by omega⟩
    have hlt : i < n := by omega
    have h1 := sumN_bd (g := g) (c := 500) (n := i) (fun j hj => hb j (by omega))
    have h2 := hb i hlt
    rw [casementref09_sum.l0, if_pos (by rw [tab_len]; omega), if_pos (by omega), rd_tab hlt, wrap_id (n := sumN g i + g i) (by unfold I64; omega), wrap_id (n := (i : Int) + 1) (by unfold I64; omega), show ((i : Int) + 1) = ((i + 1 : Nat) : Int) from by omega]
    exact ih k (i + 1) (by omega) (by omega) (by omega)
theorem sum_k {g : Nat → Int} {n : Nat} (hn : n ≤ 16) (hb : ∀ i, i < n → 0 ≤ g i ∧ g i ≤ 500) {k : Nat} (hk : 20 ≤ k) : casementref09_sum.f k (tab n g) = some (sumN g n) :=
  sum_loop hn hb n k 0 (by omega) (by omega) (by omega)
theorem change_loop {g : Nat → Int} {n at_ : Nat} {e : Int} (he : -1 ≤ e ∧ e ≤ 1) (hn : n ≤ 16) (hb : ∀ i, i < n → 0 ≤ g i ∧ g i ≤ 500) : ∀ (d k i : Nat), n - i = d → i ≤ n → d + 1 ≤ k →
    casementref09_change.l0 k (tab n g) (at_ : Int) e (tab i (fun j => if j = at_ then g j + e else g j)) (i : Int) = some (tab n (fun j => if j = at_ then g j + e else g j)) := by
  intro d
  induction d with
  | zero =>
    intro k i hd hi hk
    obtain ⟨k, rfl⟩ : ∃ q, k = q + 1 := ⟨k - 1, by omega⟩
    rw [casementref09_change.l0, if_neg (by rw [tab_len]; omega), show i = n from by omega]
  | succ d ih =>
    intro k i hd hi hk
    obtain ⟨k, rfl⟩ : ∃ q, k = q + 1 := ⟨k - 1, by omega⟩
    have hlt : i < n := by omega
    have h2 := hb i hlt
    have hnext := ih k (i + 1) (by omega) (by omega) (by omega)
    rw [tab_succ] at hnext
    rw [casementref09_change.l0, if_pos (by rw [tab_len]; omega), rd_tab hlt, wrap_id (n := g i + e) (by unfold I64; omega), wrap_id (n := (i : Int) + 1) (by unfold I64; omega), show ((i : Int) + 1) = ((i + 1 : Nat) : Int) from by omega]
    by_cases c : i = at_
    · rw [if_pos c] at hnext
      rw [if_pos (by omega), if_pos (by omega), if_pos (by rw [tab_len]; omega)]
      exact hnext
    · rw [if_neg c] at hnext
      rw [if_neg (by omega), if_pos (by omega), if_pos (by rw [tab_len]; omega)]
      exact hnext
theorem change_k {g : Nat → Int} {n at_ : Nat} {e : Int} (he : -1 ≤ e ∧ e ≤ 1) (hn : n ≤ 16) (hb : ∀ i, i < n → 0 ≤ g i ∧ g i ≤ 500) {k : Nat} (hk : 20 ≤ k) :
    casementref09_change.f k (tab n g) (at_ : Int) e = some (tab n (fun j => if j = at_ then g j + e else g j)) :=
  change_loop he hn hb n k 0 (by omega) (by omega) (by omega)
/-- The last place with more than one. -/
def lst (g : Nat → Int) : Nat → Nat
  | 0 => 0
  | i + 1 => if g i > 1 then i else lst g i
theorem lst_spec {g : Nat → Int} : ∀ {n : Nat}, (∃ i, i < n ∧ g i > 1) → lst g n < n ∧ g (lst g n) > 1 ∧ ∀ i, lst g n < i → i < n → ¬ g i > 1
  | 0, h => by obtain ⟨i, hi, _⟩ := h; omega
  | n + 1, h => by
    simp only [lst]
    by_cases c : g n > 1
    · rw [if_pos c]
      exact ⟨by omega, c, fun i h1 h2 => by omega⟩
    · rw [if_neg c]
      obtain ⟨i, hi, hg⟩ := h
      have hin : i ≠ n := fun e => c (e ▸ hg)
      obtain ⟨h1, h2, h3⟩ := lst_spec (n := n) ⟨i, by omega, hg⟩
      refine ⟨by omega, h2, fun j hj hj2 => ?_⟩
      by_cases cj : j = n
      · rw [cj]; exact c
      · exact h3 j hj (by omega)
/-- What one more cell that is taken does. -/
theorem base_succ {w : Nat → Int} {n : Nat} (hw : ∀ i, i < n → 1 ≤ w i) {d : Int} (hd : 0 ≤ d) {j : Nat} (hj : j < n) (h1 : base w n d j > 1) (h2 : ∀ i, j < i → i < n → ¬ base w n d i > 1) {i : Nat} (hi : i < n) :
    base w n (d + 1) i = if i = j then base w n d i + (-1) else base w n d i := by
  have hmono : ∀ e a, a + e ≤ n → sumN (fun j => w j - 1) a ≤ sumN (fun j => w j - 1) (a + e) := by
    intro e
    induction e with
    | zero => intro a _; exact Int.le_refl _
    | succ e ih =>
      intro a h
      have := ih a (by omega)
      have := hw (a + e) (by omega)
      rw [show a + (e + 1) = (a + e) + 1 from by omega]
      simp only [sumN] at *
      omega
  have hR : ∀ e a, n - a = e → j < a → a ≤ n → sumN (fun j => w j - 1) n - sumN (fun j => w j - 1) a ≤ d := by
    intro e
    induction e with
    | zero => intro a h _ _; rw [show a = n from by omega]; omega
    | succ e ih =>
      intro a h hja ha
      have h3 := ih (a + 1) (by omega) (by omega) (by omega)
      have h4 := h2 a hja (by omega)
      have h5 := hw a (by omega)
      unfold base at h4
      simp only [sumN] at h3 h4
      omega
  have hRj := hR (n - (j + 1)) (j + 1) rfl (by omega) (by omega)
  have hwi := hw i hi
  have hwj := hw j hj
  rcases Nat.lt_trichotomy i j with c | c | c
  · rw [if_neg (by omega)]
    have h3 := hmono (j - (i + 1)) (i + 1) (by omega)
    rw [show i + 1 + (j - (i + 1)) = j from by omega] at h3
    unfold base at h1 ⊢
    simp only [sumN] at h1 h3 hRj ⊢
    omega
  · subst c
    rw [if_pos rfl]
    unfold base at h1 ⊢
    simp only [sumN] at h1 hRj ⊢
    omega
  · rw [if_neg (by omega)]
    have h3 := h2 i c hi
    unfold base at h3 ⊢
    omega
theorem resB_zero {b : Nat → Int} {n : Nat} {kd : Nat → Bool} (i : Nat) : resB b n kd 0 i = b i := by
  unfold resB
  rw [deal_zero]
  repeat' split
  all_goals omega
theorem resB_le {b : Nat → Int} {n : Nat} {kd : Nat → Bool} {m i : Nat} (hi : i < n) : 0 ≤ resB b n kd m i - b i ∧ resB b n kd m i - b i ≤ m := by
  unfold resB
  have := deal_nonneg (rk kd n) m (rk kd i)
  by_cases c : rk kd n = 0
  · rw [if_pos c]
    split <;> omega
  · have := deal_le (f := rk kd n) (m := m) (j := rk kd i) (by omega)
    rw [if_neg c]
    split <;> omega

section
variable {T : Int} {l : List S70} {r : List Int × Int}
theorem ref_l4 (hT : T ≤ 200) (hn : l.length ≤ 16) (h0 : 0 < l.length) {b : Nat → Int} {M : Nat} (hM : M ≤ 200) (hb : ∀ i, i < l.length → 0 ≤ b i ∧ b i ≤ 200) (hs : sumN b l.length + M = T) : ∀ (d m : Nat), M - m = d → m ≤ M →
    Evt (fun k => casementref09_Share.l4 k T (tab l.length (resB b l.length (kdL l) m)) (fl (kdL l) l.length) (m : Int)) (tab l.length (resB b l.length (kdL l) M), 0) := by
  intro d
  induction d with
  | zero =>
    intro m hd hm
    have hm2 : m = M := by omega
    subst hm2
    refine ⟨30, fun k hk => ?_⟩
    obtain ⟨k, rfl⟩ : ∃ q, k = q + 1 := ⟨k - 1, by omega⟩
    (try simp only)
    rw [casementref09_Share.l4, sum_k hn (fun i hi => by have := hb i hi; have := resB_le (b := b) (kd := kdL l) (m := m) hi; omega) (by omega)]
    simp only [Option.bind_some]
    rw [resB_sum h0, if_neg (by omega)]
  | succ d ih =>
    intro m hd hm
    have hbd : ∀ i, i < l.length → 0 ≤ resB b l.length (kdL l) m i ∧ resB b l.length (kdL l) m i ≤ 500 := fun i hi => by have := hb i hi; have := resB_le (b := b) (kd := kdL l) (m := m) hi; omega
    have hnext := ih (m + 1) (by omega) (by omega)
    refine Evt.stepL 20 (fun k hk => ?_) hnext
    rw [casementref09_Share.l4, sum_k hn hbd hk]
    simp only [Option.bind_some]
    rw [resB_sum h0, if_pos (by omega), fl_len, tab_len, wrap_id (n := (m : Int) + 1) (by unfold I64; omega), show ((m : Int) + 1) = ((m + 1 : Nat) : Int) from by omega]
    by_cases c : rk (kdL l) l.length = 0
    · rw [if_pos (by omega), wrap_id (n := (l.length : Int) - 1) (by unfold I64; omega), show ((l.length : Int) - 1) = ((l.length - 1 : Nat) : Int) from by omega, change_k (by decide) hn hbd hk]
      simp only [Option.bind_some]
      have e : tab l.length (fun j => if j = l.length - 1 then resB b l.length (kdL l) m j + 1 else resB b l.length (kdL l) m j) = tab l.length (resB b l.length (kdL l) (m + 1)) := tab_ext (fun i hi => by
        (try simp only)
        unfold resB
        rw [if_pos c, if_pos c]
        split <;> omega)
      rw [e]
    · have hq : Int.tmod (m : Int) (rk (kdL l) l.length : Int) = ((m % rk (kdL l) l.length : Nat) : Int) := (Int.ofNat_tmod m _).symm
      have hml := Nat.mod_lt m (y := rk (kdL l) l.length) (by omega)
      obtain ⟨q, h1, h2, h3, h4⟩ := fl_at (kdL l) l.length (m % rk (kdL l) l.length) hml
      rw [if_neg (by omega), hq, if_pos (by omega), if_pos (by omega), rd_of_get h4, change_k (by decide) hn hbd hk]
      simp only [Option.bind_some]
      have e : tab l.length (fun j => if j = q then resB b l.length (kdL l) m j + 1 else resB b l.length (kdL l) m j) = tab l.length (resB b l.length (kdL l) (m + 1)) := tab_ext (fun i hi => by
        (try simp only)
        unfold resB
        rw [if_neg c, if_neg c]
        cases ck : kdL l i
        · have : i ≠ q := fun e => by rw [e, h2] at ck; cases ck
          rw [if_neg this]
          rfl
        · rw [if_pos rfl, if_pos rfl, deal_succ (by omega) (rk_lt ck hi)]
          by_cases ci : i = q
          · rw [if_pos ci, if_pos (by rw [ci]; exact h3)]; omega
          · rw [if_neg ci, if_neg (fun he => ci (rk_inj ck h2 (by omega)))]; omega)
      rw [e]
theorem ref_l3 {g : Nat → Int} {F : List Int} (hn : l.length ≤ 16) (hg : ∀ i, i < l.length → 0 ≤ g i ∧ g i ≤ 500) (hk0 : ∀ i, (h : i < l.length) → g i > 1 → l[i].f0 ≠ 0)
    (hend : Evt (fun k => casementref09_Share.l2 k T l (tab l.length (fun j => if j = lst g l.length then g j + (-1) else g j)) F) r) : ∀ (d i : Nat), l.length - i = d → i ≤ l.length →
    Evt (fun k => casementref09_Share.l3 k T l (tab l.length g) F (lst g i : Int) (i : Int)) r := by
  intro d
  induction d with
  | zero =>
    intro i hd hi
    refine Evt.stepL 20 (fun k hk => ?_) hend
    rw [casementref09_Share.l3, if_neg (by rw [tab_len]; omega), show i = l.length from by omega, change_k (by decide) hn hg hk]
    rfl
  | succ d ih =>
    intro i hd hi
    have hlt : i < l.length := by omega
    have hnext := ih (i + 1) (by omega) (by omega)
    refine Evt.step (fun k => ?_) hnext
    rw [casementref09_Share.l3, if_pos (by rw [tab_len]; omega), if_pos (by omega), rd_tab hlt, wrap_id (n := (i : Int) + 1) (by unfold I64; omega), show ((i : Int) + 1) = ((i + 1 : Nat) : Int) from by omega]
    simp only [lst]
    by_cases c : g i > 1
    · rw [if_pos c, if_pos c, if_pos (by omega), rdT_at l i hlt, if_neg (hk0 i hlt c)]
    · rw [if_neg c, if_neg c]
theorem ref_l2 (hr : ∀ s ∈ l, right s = true) (hn : l.length ≤ 16) (h0 : 0 < l.length) (h1 : (l.length : Int) ≤ T) (h2 : T ≤ 200) : ∀ (d e : Nat), (max 0 (sumN (wL T l) l.length - T)).toNat - e = d → e ≤ (max 0 (sumN (wL T l) l.length - T)).toNat →
    Evt (fun k => casementref09_Share.l2 k T l (tab l.length (base (wL T l) l.length (e : Int))) (fl (kdL l) l.length)) (tab l.length (resF T l), 0) := by
  have hT : 1 ≤ T := by omega
  have hw : ∀ i, i < l.length → 1 ≤ wL T l i ∧ wL T l i ≤ 200 := fun i hi => wL_bd hT h2 hr hi
  have hw1 : ∀ i, i < l.length → 1 ≤ wL T l i := fun i hi => (hw i hi).1
  have hs := sum_bd hT h2 hr l.length (Nat.le_refl _)
  have hp := sumN_pred (wL T l) l.length
  have hz : sumN (fun j => wL T l j - 1) 0 = 0 := rfl
  have hbd : ∀ e : Int, ∀ i, i < l.length → 1 ≤ base (wL T l) l.length e i ∧ base (wL T l) l.length e i ≤ 200 := fun e i hi => by
    have := base_bd (n := l.length) (d := e) (hw1 i hi)
    have := hw i hi
    omega
  have hsum : ∀ e : Nat, e ≤ (max 0 (sumN (wL T l) l.length - T)).toNat → sumN (base (wL T l) l.length (e : Int)) l.length = sumN (wL T l) l.length - e := by
    intro e he
    rw [base_sum hw1 l.length (Nat.le_refl _), hp]
    omega
  intro d
  induction d with
  | zero =>
    intro e hd he
    have hse := hsum e he
    have hM : (max 0 (T - sumN (wL T l) l.length)).toNat ≤ 200 := by omega
    have h := ref_l4 (T := T) (l := l) h2 hn h0 (b := base (wL T l) l.length (e : Int)) (M := (max 0 (T - sumN (wL T l) l.length)).toNat) hM (fun i hi => by have := hbd e i hi; omega) (by omega) (max 0 (T - sumN (wL T l) l.length)).toNat 0 (by omega) (by omega)
    have e1 : tab l.length (resB (base (wL T l) l.length (e : Int)) l.length (kdL l) 0) = tab l.length (base (wL T l) l.length (e : Int)) := tab_ext (fun i _ => resB_zero i)
    rw [e1] at h
    have e2 : tab l.length (resB (base (wL T l) l.length (e : Int)) l.length (kdL l) (max 0 (T - sumN (wL T l) l.length)).toNat) = tab l.length (resF T l) := by
      unfold resF
      rw [show max 0 (sumN (wL T l) l.length - T) = (e : Int) from by omega]
    rw [e2] at h
    refine Evt.stepL 20 (fun k hk => ?_) h
    rw [casementref09_Share.l2, sum_k hn (fun i hi => by have := hbd e i hi; omega) hk]
    simp only [Option.bind_some]
    rw [if_neg (by omega)]
    rfl
  | succ d ih =>
    intro e hd he
    have hse := hsum e (by omega)
    have hnext := ih (e + 1) (by omega) (by omega)
    have hex : ∃ i, i < l.length ∧ base (wL T l) l.length (e : Int) i > 1 := by
      refine Classical.byContradiction fun hh => ?_
      have h3 : sumN (base (wL T l) l.length (e : Int)) l.length ≤ sumN (fun _ => 1) l.length := sumN_le (fun i hi => by
        (try simp only)
        exact Int.not_lt.1 (fun h4 => hh ⟨i, hi, h4⟩))
      rw [sumN_const] at h3
      omega
    obtain ⟨l1, l2, l3⟩ := lst_spec hex
    have e3 : tab l.length (fun j => if j = lst (base (wL T l) l.length (e : Int)) l.length then base (wL T l) l.length (e : Int) j + (-1) else base (wL T l) l.length (e : Int) j) = tab l.length (base (wL T l) l.length ((e + 1 : Nat) : Int)) := tab_ext (fun i hi => by
      rw [show ((e + 1 : Nat) : Int) = (e : Int) + 1 from by omega, base_succ hw1 (by omega) l1 l2 l3 hi])
    rw [← e3] at hnext
    have h := ref_l3 (T := T) (l := l) (g := base (wL T l) l.length (e : Int)) hn (fun i hi => by have := hbd e i hi; omega) (fun i hi hg hf => by
      have hwi : wL T l i = 1 := by
        have hgd : l.getD i z70 = l[i] := by rw [List.getD_eq_getElem?_getD, List.getElem?_eq_getElem hi]; rfl
        unfold wL want
        rw [hgd, hf]
        rfl
      have := (base_bd (n := l.length) (d := (e : Int)) (hw1 i hi)).2
      omega) hnext l.length 0 (by omega) (by omega)
    refine Evt.stepL 20 (fun k hk => ?_) h
    rw [casementref09_Share.l2, sum_k hn (fun i hi => by have := hbd e i hi; omega) hk]
    simp only [Option.bind_some]
    rw [if_pos (by omega)]
    rfl
theorem ref_l1 (hr : ∀ s ∈ l, right s = true) (hn : l.length ≤ 16) (h1 : 1 ≤ T) (h2 : T ≤ 200)
    (hend : Evt (fun k => casementref09_Share.l2 k T l (tab l.length (wL T l)) (fl (kdL l) l.length)) r) : ∀ (d i : Nat), l.length - i = d → i ≤ l.length →
    Evt (fun k => casementref09_Share.l1 k T l (tab i (wL T l)) (fl (kdL l) i) (i : Int)) r := by
  intro d
  induction d with
  | zero =>
    intro i hd hi
    have : i = l.length := by omega
    subst this
    refine Evt.step (fun k => ?_) hend
    rw [casementref09_Share.l1, if_neg (by omega)]
  | succ d ih =>
    intro i hd hi
    have hlt : i < l.length := by omega
    have hnext := ih (i + 1) (by omega) (by omega)
    have hg : l.getD i z70 = l[i] := by rw [List.getD_eq_getElem?_getD, List.getElem?_eq_getElem hlt]; rfl
    have hw : wL T l i = want T l[i] := by unfold wL; rw [hg]
    have hf : (fl (kdL l) i).length ≤ 16 := by rw [fl_len]; have := rk_le (kdL l) i; omega
    have hri := hr _ (List.getElem_mem hlt)
    unfold right at hri
    simp only [decide_eq_true_eq] at hri
    rw [tab_succ, hw] at hnext
    have hk : kdL l i = true ↔ l[i].f0 = 0 := kd_at hlt
    have hfl : fl (kdL l) (i + 1) = if kdL l i = true then fl (kdL l) i ++ [(i : Int)] else fl (kdL l) i := rfl
    rw [hfl] at hnext
    have hj : ∀ (v : Int) (x : Bool), (x = true → l[i].f0 = 2 ∧ 100 ≤ T * l[i].f1) → (x = false → v = want T l[i]) → Evt (fun k => casementref09_Share.j4 k T l (tab i (wL T l)) (fl (kdL l) i) (i : Int) v x) r := by
      intro v x hx hv
      refine Evt.step (fun k => ?_) hnext
      cases x
      · rw [casementref09_Share.j4, if_neg (by decide), if_pos (by omega), if_pos (by omega), rdT_at l i hlt, hv rfl, wrap_id (n := (i : Int) + 1) (by unfold I64; omega), show ((i : Int) + 1) = ((i + 1 : Nat) : Int) from by omega]
        by_cases c : l[i].f0 = 0
        · rw [if_pos c, if_pos (by omega), if_pos (by rw [tab_len]; omega), if_pos (hk.2 c)]
        · rw [if_neg c, if_pos (by rw [tab_len]; omega), if_neg (fun hh => c (hk.1 hh))]
      · obtain ⟨c2, c3⟩ := hx rfl
        have hm := mul_bd (a := T) (b := l[i].f1) (p := 200) (q := 100) (by omega) h2 (by omega) (by omega)
        have hwt : want T l[i] = T * l[i].f1 / 100 := by
          unfold want
          rw [if_neg (by omega), if_pos c2]
          omega
        rw [casementref09_Share.j4, if_pos rfl, if_pos (by omega), if_pos (by omega), rdT_at l i hlt, wrap_id (n := T * l[i].f1) (by unfold I64; omega), Int.tdiv_eq_ediv_of_nonneg (by omega), wrap_id (n := T * l[i].f1 / 100) (by unfold I64; omega), ← hwt, wrap_id (n := (i : Int) + 1) (by unfold I64; omega), show ((i : Int) + 1) = ((i + 1 : Nat) : Int) from by omega]
        rw [if_neg (by omega), if_pos (by rw [tab_len]; omega), if_neg (fun hh => by have := hk.1 hh; omega)]
    have hj3 : ∀ v : Int, v = (if l[i].f0 = 1 then l[i].f1 else 1) → Evt (fun k => casementref09_Share.j3 k T l (tab i (wL T l)) (fl (kdL l) i) (i : Int) v) r := by
      intro v hv
      by_cases c : l[i].f0 = 2
      · have hm := mul_bd (a := T) (b := l[i].f1) (p := 200) (q := 100) (by omega) h2 (by omega) (by omega)
        refine Evt.step (fun k => ?_) (hj v (decide (T * l[i].f1 ≥ 100)) (fun hx => ⟨c, by simpa using hx⟩) (fun hx => ?_))
        · rw [casementref09_Share.j3, if_pos (by omega), if_pos (by omega), rdT_at l i hlt, if_pos c, wrap_id (n := T * l[i].f1) (by unfold I64; omega)]
        · have : ¬ (T * l[i].f1 ≥ 100) := by simpa using hx
          rw [hv, if_neg (by omega)]
          unfold want
          rw [if_neg (by omega), if_pos c]
          omega
      · refine Evt.step (fun k => ?_) (hj v false (fun hx => by cases hx) (fun _ => ?_))
        · rw [casementref09_Share.j3, if_pos (by omega), if_pos (by omega), rdT_at l i hlt, if_neg c]
        · rw [hv]
          unfold want
          by_cases c1 : l[i].f0 = 1
          · rw [if_pos c1, if_pos c1]
          · rw [if_neg c1, if_neg c1, if_neg c]
    refine Evt.step (fun k => ?_) (hj3 (if l[i].f0 = 1 then l[i].f1 else 1) rfl)
    rw [casementref09_Share.l1, if_pos (by omega), if_pos (by omega), rdT_at l i hlt]
    by_cases c1 : l[i].f0 = 1
    · rw [if_pos c1, if_pos c1]
    · rw [if_neg c1, if_neg c1]
theorem ref_l0_right (hl : l.length ≤ 9000000000000000000) (hr : ∀ s ∈ l, right s = true)
    (hend : Evt (fun k => casementref09_Share.l0 k T l (l.length : Int)) r) : ∀ (d i : Nat), l.length - i = d → i ≤ l.length →
    Evt (fun k => casementref09_Share.l0 k T l (i : Int)) r := by
  intro d
  induction d with
  | zero =>
    intro i hd hi
    rw [show i = l.length from by omega]
    exact hend
  | succ d ih =>
    intro i hd hi
    have hlt : i < l.length := by omega
    refine Evt.step (fun k => ?_) (ih (i + 1) (by omega) (by omega))
    rw [casementref09_Share.l0, if_pos (by omega), if_pos (by omega), rdT_at l i hlt, refRight_eq, hr _ (List.getElem_mem hlt)]
    simp only [Option.bind_some, if_true]
    rw [wrap_id (n := (i : Int) + 1) (by unfold I64; omega), show ((i : Int) + 1) = ((i + 1 : Nat) : Int) from by omega]
theorem ref_l0_wrong (hl : l.length ≤ 9000000000000000000) : ∀ (d i : Nat), l.length - i = d → i ≤ l.length → (∃ s ∈ l.drop i, right s = false) →
    Evt (fun k => casementref09_Share.l0 k T l (i : Int)) (([] : List Int), (1 : Int)) := by
  intro d
  induction d with
  | zero =>
    intro i hd hi h
    rw [List.drop_eq_nil_of_le (by omega)] at h
    simp at h
  | succ d ih =>
    intro i hd hi h
    have hlt : i < l.length := by omega
    rw [List.drop_eq_getElem_cons hlt] at h
    simp only [List.mem_cons, exists_eq_or_imp] at h
    cases hb : right l[i]
    · refine ⟨1, fun k hk => ?_⟩
      obtain ⟨k, rfl⟩ : ∃ q, k = q + 1 := ⟨k - 1, by omega⟩
      (try simp only)
      rw [casementref09_Share.l0, if_pos (by omega), if_pos (by omega), rdT_at l i hlt, refRight_eq, hb]
      rfl
    · refine Evt.step (fun k => ?_) (ih (i + 1) (by omega) (by omega) (h.elim (fun hh => by rw [hb] at hh; cases hh) id))
      rw [casementref09_Share.l0, if_pos (by omega), if_pos (by omega), rdT_at l i hlt, refRight_eq, hb]
      simp only [Option.bind_some, if_true]
      rw [wrap_id (n := (i : Int) + 1) (by unfold I64; omega), show ((i : Int) + 1) = ((i + 1 : Nat) : Int) from by omega]
theorem refShare_ok (hr : ∀ s ∈ l, right s = true) (hn : l.length ≤ 16) (h0 : 0 < l.length) (h1 : (l.length : Int) ≤ T) (h2 : T ≤ 200) : Evt (fun k => casementref09_Share.f k T l) (tab l.length (resF T l), 0) := by
  have hT : 1 ≤ T := by omega
  have h := ref_l2 hr hn h0 h1 h2 (max 0 (sumN (wL T l) l.length - T)).toNat 0 (by omega) (by omega)
  have e1 : tab l.length (base (wL T l) l.length ((0 : Nat) : Int)) = tab l.length (wL T l) := tab_ext (fun i hi => base_zero (fun i hi => (wL_bd hT h2 hr hi).1) hi)
  rw [e1] at h
  have h3 := ref_l1 hr hn hT h2 h l.length 0 (by omega) (by omega)
  have h4 := ref_l0_right (T := T) (l := l) (r := (tab l.length (resF T l), 0)) (by omega) hr (Evt.step (fun k => by rw [casementref09_Share.l0, if_neg (by omega), if_neg (by omega), if_neg (by omega)]; rfl) h3) l.length 0 (by omega) (by omega)
  obtain ⟨K, hK⟩ := h4
  refine ⟨K + 1, fun k hk => ?_⟩
  obtain ⟨k, rfl⟩ : ∃ q, k = q + 1 := ⟨k - 1, by omega⟩
  (try simp only)
  unfold casementref09_Share.f
  rw [if_neg (by omega), show decide (T > 200) = false from by simp; omega, casementref09_Share.j0, if_neg (by decide)]
  exact hK k (by omega)
theorem refShare_err (hl : l.length ≤ 9000000000000000000) (he : shareErr T l ≠ 0) : Evt (fun k => casementref09_Share.f k T l) (([] : List Int), shareErr T l) := by
  unfold shareErr at he ⊢
  by_cases c1 : l.length = 0
  · refine ⟨1, fun k hk => ?_⟩
    obtain ⟨k, rfl⟩ : ∃ q, k = q + 1 := ⟨k - 1, by omega⟩
    (try simp only)
    unfold casementref09_Share.f
    rw [if_pos (by omega), casementref09_Share.j0, if_pos rfl, if_pos (.inl c1)]
  · by_cases c2 : T > 200
    · refine ⟨1, fun k hk => ?_⟩
      obtain ⟨k, rfl⟩ : ∃ q, k = q + 1 := ⟨k - 1, by omega⟩
      (try simp only)
      unfold casementref09_Share.f
      rw [if_neg (by omega), show decide (T > 200) = true from by simpa using c2, casementref09_Share.j0, if_pos rfl, if_pos (.inr (.inl c2))]
    · have hstart : ∀ v : List Int × Int, Evt (fun k => casementref09_Share.l0 k T l ((0 : Nat) : Int)) v → Evt (fun k => casementref09_Share.f k T l) v := by
        intro v hv
        refine Evt.step (fun k => ?_) hv
        unfold casementref09_Share.f
        rw [if_neg (by omega), show decide (T > 200) = false from by simpa using c2, casementref09_Share.j0, if_neg (by decide)]
        rfl
      by_cases c3 : (l.any fun s => !right s) = true
      · rw [if_pos (.inr (.inr c3))]
        refine hstart _ (ref_l0_wrong hl l.length 0 (by omega) (by omega) ?_)
        obtain ⟨s, hs, hb⟩ := List.any_eq_true.1 c3
        exact ⟨s, by simpa using hs, by simpa using hb⟩
      · have c4 : ¬ (l.length = 0 ∨ T > 200 ∨ (l.any fun s => !right s) = true) := by rintro (h | h | h) <;> contradiction
        rw [if_neg c4] at he ⊢
        have hr : ∀ s ∈ l, right s = true := by
          intro s hs
          cases hb : right s
          · exact absurd (List.any_eq_true.2 ⟨s, hs, by simp [hb]⟩) c3
          · rfl
        refine hstart _ (ref_l0_right hl hr ⟨1, fun k hk => ?_⟩ l.length 0 (by omega) (by omega))
        obtain ⟨k, rfl⟩ : ∃ q, k = q + 1 := ⟨k - 1, by omega⟩
        (try simp only)
        rw [casementref09_Share.l0, if_neg (by omega)]
        by_cases c5 : l.length > 16
        · rw [if_pos (by omega), if_pos c5]
        · rw [if_neg c5] at he ⊢
          rw [if_neg (by omega)]
          by_cases c6 : T < l.length
          · rw [if_pos c6, if_pos c6]
          · rw [if_neg c6] at he
            exact absurd rfl he
theorem refLeast_evt : ∀ (d i : Nat), min l.length 16 - i = d → i ≤ min l.length 16 →
    Evt (fun k => casementref09_Least.l0 k l (sumN (lwL l) i) (i : Int)) (sumN (lwL l) (min l.length 16)) := by
  intro d
  induction d with
  | zero =>
    intro i hd hi
    have hi2 : i = min l.length 16 := by omega
    refine ⟨2, fun k hk => ?_⟩
    obtain ⟨k, rfl⟩ : ∃ q, k = q + 2 := ⟨k - 2, by omega⟩
    have hj : casementref09_Least.j1 (k + 1) l (sumN (lwL l) i) (i : Int) false = some (sumN (lwL l) i) := by rw [casementref09_Least.j1, if_neg (by decide)]
    (try simp only)
    rw [← hi2, casementref09_Least.l0]
    split
    · rw [show decide ((i : Int) < 16) = false from by simp; omega, hj]
    · exact hj
  | succ d ih =>
    intro i hd hi
    have hlt : i < l.length := by omega
    have hg : l.getD i z70 = l[i] := by rw [List.getD_eq_getElem?_getD, List.getElem?_eq_getElem hlt]; rfl
    have hb := lwL_bd l i
    have hw := lw_bd l[i]
    have hs : sumN (lwL l) (i + 1) = sumN (lwL l) i + lw l[i] := by
      simp only [sumN]
      unfold lwL
      rw [hg]
    have hnext := ih (i + 1) (by omega) (by omega)
    rw [hs] at hnext
    refine Evt.step (g := fun k => casementref09_Least.l0 k l (sumN (lwL l) i) (i : Int)) (f := fun k => casementref09_Least.j1 k l (sumN (lwL l) i) (i : Int) true) (fun k => ?_) (Evt.step (fun k => ?_) hnext)
    · rw [casementref09_Least.l0, if_pos (by omega), show decide ((i : Int) < 16) = true from by simp; omega]
    · rw [casementref09_Least.j1, if_pos rfl, if_pos (by omega), if_pos (by omega), rdT_at l i hlt, wrap_id (n := (i : Int) + 1) (by unfold I64; omega), show ((i : Int) + 1) = ((i + 1 : Nat) : Int) from by omega]
      by_cases c : l[i].f0 = 1
      · rw [if_pos c, refRight_eq]
        simp only [Option.bind_some]
        by_cases cr : right l[i] = true
        · have e : lw l[i] = l[i].f1 := by unfold lw; rw [if_pos ⟨c, cr⟩]
          rw [if_pos cr, ← e, wrap_id (n := sumN (lwL l) i + lw l[i]) (by unfold I64; omega)]
        · have e : lw l[i] = 1 := by unfold lw; rw [if_neg (fun hh => cr hh.2)]
          rw [if_neg cr, ← e, wrap_id (n := sumN (lwL l) i + lw l[i]) (by unfold I64; omega)]
      · have e : lw l[i] = 1 := by unfold lw; rw [if_neg (fun hh => c hh.1)]
        rw [if_neg c, ← e, wrap_id (n := sumN (lwL l) i + lw l[i]) (by unfold I64; omega)]
end
end Go.Proofs.Ythllpilgfipkpaa.Solve
