/- How the program shares a total out: each part's length, in plain words. Conditions: right sizes, as many as may be, a total that has room for them. -/
import Derived.Test.YthllpilgfipkpaaSB
import Derived.Test.YthllpilgfipkpaaQx7
import Derived.Test.YthllpilgfipkpaaQx6
namespace Go.Proofs.Ythllpilgfipkpaa.Solve
open Go.RowKit Go.Proofs.Ythllpilgfipkpaa.Q Go.Proofs.YthllpilgfipkpaaW.PrintWords Go.Proofs.YthllpilgfipkpaaW.PrintLast Go.Proofs.YthllpilgfipkpaaW.PrintMore

def want (T : Int) (s : S70) : Int := if s.f0 = 1 then s.f1 else if s.f0 = 2 then max (T * s.f1 / 100) 1 else 1
def kdL (l : List S70) (i : Nat) : Bool := decide ((l.getD i z70).f0 = 0)
def wL (T : Int) (l : List S70) (i : Nat) : Int := want T (l.getD i z70)
theorem mul_bd {a b p q : Int} (h1 : 0 ≤ a) (h2 : a ≤ p) (h3 : 0 ≤ b) (h4 : b ≤ q) : 0 ≤ a * b ∧ a * b ≤ p * q :=
  ⟨Int.mul_nonneg h1 h3, Int.mul_le_mul h2 h4 h3 (by omega)⟩
theorem want_bd {T : Int} {s : S70} (h1 : 1 ≤ T) (h2 : T ≤ 200) (hr : right s = true) : 1 ≤ want T s ∧ want T s ≤ 200 := by
  unfold right at hr
  simp only [decide_eq_true_eq] at hr
  unfold want
  split
  · omega
  · split
    · have := mul_bd (a := T) (b := s.f1) (p := 200) (q := 100) (by omega) h2 (by omega) (by omega)
      omega
    · omega
theorem wants_eq {T : Int} {s : S70} (h1 : 1 ≤ T) (h2 : T ≤ 200) (hr : right s = true) : solve_wants.f T s.f0 s.f1 = some (want T s) := by
  unfold right at hr
  simp only [decide_eq_true_eq] at hr
  unfold solve_wants.f want
  split
  · rfl
  · split
    · have := mul_bd (a := T) (b := s.f1) (p := 200) (q := 100) (by omega) h2 (by omega) (by omega)
      rw [wrap_id (n := T * s.f1) (by unfold I64; omega), Int.tdiv_eq_ediv_of_nonneg (by omega), wrap_id (n := T * s.f1 / 100) (by unfold I64; omega)]
      refine congrArg some ?_
      unfold mx
      split <;> omega
    · rfl

section
variable {T : Int} {l : List S70} (h1 : 1 ≤ T) (h2 : T ≤ 200) (hr : ∀ s ∈ l, right s = true) (hn : l.length ≤ 16)

theorem wL_bd (h1 : 1 ≤ T) (h2 : T ≤ 200) (hr : ∀ s ∈ l, right s = true) {i : Nat} (h : i < l.length) : 1 ≤ wL T l i ∧ wL T l i ≤ 200 := by
  unfold wL
  rw [List.getD_eq_getElem?_getD, List.getElem?_eq_getElem h]
  exact want_bd h1 h2 (hr _ (List.getElem_mem h))
theorem sum_bd (h1 : 1 ≤ T) (h2 : T ≤ 200) (hr : ∀ s ∈ l, right s = true) : ∀ i : Nat, i ≤ l.length → (i : Int) ≤ sumN (wL T l) i ∧ sumN (wL T l) i ≤ 200 * i
  | 0, _ => by simp [sumN]
  | i + 1, h => by
    have := sum_bd h1 h2 hr i (by omega)
    have := wL_bd h1 h2 hr (i := i) (by omega)
    simp only [sumN]
    omega
/-- The first loop: what each part wants. -/
theorem share_first (h1 : 1 ≤ T) (h2 : T ≤ 200) (hr : ∀ s ∈ l, right s = true) (hn : l.length ≤ 16) : ∀ (d m i : Nat), l.length - i = d → i ≤ l.length →
    solve_Share.l0 (d + m) T (tab i (wL T l)) (fl (kdL l) i) (T - sumN (wL T l) i) l (l.length : Int) (i : Int) =
      solve_Share.l0 m T (tab l.length (wL T l)) (fl (kdL l) l.length) (T - sumN (wL T l) l.length) l (l.length : Int) (l.length : Int) := by
  intro d
  induction d with
  | zero =>
    intro m i hd hi
    rw [show i = l.length from by omega, Nat.zero_add]
  | succ d ih =>
    intro m i hd hi
    have hlt : i < l.length := by omega
    have hw := wL_bd h1 h2 hr hlt
    have hs := sum_bd h1 h2 hr i (by omega)
    have hg : l.getD i z70 = l[i] := by rw [List.getD_eq_getElem?_getD, List.getElem?_eq_getElem hlt]; rfl
    have hf : (fl (kdL l) i).length ≤ 16 := by rw [fl_len]; have := rk_le (kdL l) i; omega
    rw [show d + 1 + m = (d + m) + 1 from by omega]
    conv => lhs; rw [solve_Share.l0]
    rw [if_pos (by omega), if_pos (by omega), if_pos (by omega), rdT_at l i hlt, wants_eq h1 h2 (hr _ (List.getElem_mem hlt))]
    simp only [Option.bind_some]
    have e1 : tab i (wL T l) ++ [want T l[i]] = tab (i + 1) (wL T l) := by rw [tab_succ]; unfold wL; rw [hg]
    rw [if_pos (by rw [tab_len]; omega), e1, if_pos (by rw [tab_len]; omega), rd_tab (by omega), wrap_id (n := (i : Int) + 1) (by unfold I64; omega), wrap_id (n := T - sumN (wL T l) i - wL T l i) (by unfold I64; omega), show ((i : Int) + 1) = ((i + 1 : Nat) : Int) from by omega]
    have e2 : T - sumN (wL T l) i - wL T l i = T - sumN (wL T l) (i + 1) := by simp only [sumN]; omega
    rw [e2]
    have hih := ih m (i + 1) (by omega) (by omega)
    by_cases c : l[i].f0 = 0
    · rw [if_pos c, if_pos (by omega)]
      have : fl (kdL l) (i + 1) = fl (kdL l) i ++ [(i : Int)] := by
        simp only [fl]
        rw [if_pos (by unfold kdL; rw [hg]; simpa using c)]
      rw [← this]
      exact hih
    · rw [if_neg c]
      have : fl (kdL l) (i + 1) = fl (kdL l) i := by
        simp only [fl]
        rw [if_neg (by unfold kdL; rw [hg]; simpa using c)]
      rw [← this]
      exact hih
end

/-- What is left of lengths w (V: the sum of what the first ones may lose) when d cells are taken, from the last ones on. -/
def base (w : Nat → Int) (n : Nat) (d : Int) (i : Nat) : Int := w i - min (w i - 1) (max 0 (d - (sumN (fun j => w j - 1) n - sumN (fun j => w j - 1) (i + 1))))
theorem base_zero {w : Nat → Int} {n : Nat} (hw : ∀ i, i < n → 1 ≤ w i) {i : Nat} (hi : i < n) : base w n 0 i = w i := by
  have hmono : ∀ e, i + 1 + e ≤ n → sumN (fun j => w j - 1) (i + 1) ≤ sumN (fun j => w j - 1) (i + 1 + e) := by
    intro e
    induction e with
    | zero => intro _; exact Int.le_refl _
    | succ e ih =>
      intro h
      have := ih (by omega)
      have := hw (i + 1 + e) (by omega)
      rw [show i + 1 + (e + 1) = (i + 1 + e) + 1 from by omega]
      simp only [sumN] at *
      omega
  have h := hmono (n - (i + 1)) (by omega)
  rw [show i + 1 + (n - (i + 1)) = n from by omega] at h
  have := hw i hi
  unfold base
  omega
theorem base_bd {w : Nat → Int} {n : Nat} {d : Int} {i : Nat} (h : 1 ≤ w i) : 1 ≤ base w n d i ∧ base w n d i ≤ w i := by
  unfold base
  omega
/-- The second loop: what is too much is taken from the last ones. -/
theorem share_less {w : Nat → Int} {n : Nat} (hn : n ≤ 16) (hw : ∀ i, i < n → 1 ≤ w i ∧ w i ≤ 200) (F : List Int) (d0 : Int) (hd0 : 0 ≤ d0) (hd1 : d0 ≤ sumN (fun j => w j - 1) n) (K : Nat) (res : Option (List Int × Int))
    (hend : ∀ k j, K ≤ k → solve_Share.l1 k (tab n (base w n d0)) F 0 j = res) : ∀ (m k : Nat), m ≤ n → K + m + 1 ≤ k →
    solve_Share.l1 k (tab n (fun j => if j < m then w j else base w n d0 j)) F (-(max 0 (d0 - (sumN (fun j => w j - 1) n - sumN (fun j => w j - 1) m)))) ((m : Int) - 1) = res := by
  intro m
  induction m with
  | zero =>
    intro k hm hk
    have e : max 0 (d0 - (sumN (fun j => w j - 1) n - sumN (fun j => w j - 1) 0)) = 0 := by simp only [sumN]; omega
    rw [e]
    have e2 : tab n (fun j => if j < 0 then w j else base w n d0 j) = tab n (base w n d0) := tab_ext (fun i _ => by simp)
    rw [e2]
    exact hend k _ (by omega)
  | succ m ih =>
    intro k hm hk
    obtain ⟨k, rfl⟩ : ∃ q, k = q + 1 := ⟨k - 1, by omega⟩
    have hwm := hw m (by omega)
    have hmono : ∀ e, m + 1 + e ≤ n → sumN (fun j => w j - 1) (m + 1) ≤ sumN (fun j => w j - 1) (m + 1 + e) := by
      intro e
      induction e with
      | zero => intro _; exact Int.le_refl _
      | succ e ih =>
        intro h
        have := ih (by omega)
        have := (hw (m + 1 + e) (by omega)).1
        rw [show m + 1 + (e + 1) = (m + 1 + e) + 1 from by omega]
        simp only [sumN] at *
        omega
    have hge := hmono (n - (m + 1)) (by omega)
    rw [show m + 1 + (n - (m + 1)) = n from by omega] at hge
    have hbound : sumN (fun j => w j - 1) n ≤ 4000 := by
      have h1 := sumN_le (g := fun j => w j - 1) (g' := fun _ => 200) (n := n) (fun i hi => by have := (hw i hi).2; (try simp only); omega)
      rw [sumN_const] at h1
      omega
    have hV : sumN (fun j => w j - 1) (m + 1) = sumN (fun j => w j - 1) m + (w m - 1) := rfl
    have hb : base w n d0 m = w m - min (w m - 1) (max 0 (d0 - (sumN (fun j => w j - 1) n - sumN (fun j => w j - 1) (m + 1)))) := rfl
    obtain ⟨D, hD⟩ : ∃ D, D = max 0 (d0 - (sumN (fun j => w j - 1) n - sumN (fun j => w j - 1) (m + 1))) := ⟨_, rfl⟩
    rw [← hD] at hb ⊢
    have hD2 : max 0 (d0 - (sumN (fun j => w j - 1) n - sumN (fun j => w j - 1) m)) = D - min (w m - 1) D := by omega
    have hstep : tab n (fun j => if j < m then w j else base w n d0 j) = tab n (fun j => if j = m then w m - min (w m - 1) D else if j < m + 1 then w j else base w n d0 j) := by
      apply tab_ext
      intro i _
      (try simp only)
      by_cases c : i = m
      · subst c
        rw [if_neg (by omega), if_pos rfl, hb]
      · rw [if_neg c]
        by_cases c2 : i < m
        · rw [if_pos c2, if_pos (by omega)]
        · rw [if_neg c2, if_neg (by omega)]
    by_cases hz : D = 0
    · have e3 : tab n (fun j => if j < m + 1 then w j else base w n d0 j) = tab n (base w n d0) := by
        have e4 : ∀ i, i ≤ m → i < n → w i = base w n d0 i := by
          intro i hi hin
          have hmo : ∀ e, i + 1 + e ≤ m + 1 → sumN (fun j => w j - 1) (i + 1) ≤ sumN (fun j => w j - 1) (i + 1 + e) := by
            intro e
            induction e with
            | zero => intro _; exact Int.le_refl _
            | succ e ih =>
              intro h
              have := ih (by omega)
              have := (hw (i + 1 + e) (by omega)).1
              rw [show i + 1 + (e + 1) = (i + 1 + e) + 1 from by omega]
              simp only [sumN] at *
              omega
          have h3 := hmo (m + 1 - (i + 1)) (by omega)
          rw [show i + 1 + (m + 1 - (i + 1)) = m + 1 from by omega] at h3
          have := (hw i hin).1
          unfold base
          omega
        apply tab_ext
        intro i hi
        (try simp only)
        by_cases c : i < m + 1
        · rw [if_pos c, e4 i (by omega) hi]
        · rw [if_neg c]
      rw [e3, hz]
      exact hend _ _ (by omega)
    · have hpos : 0 < D := by omega
      have hget : rd (tab n (fun j => if j < m + 1 then w j else base w n d0 j)) ((m : Int)) = w m := by
        rw [rd_tab (by omega)]
        simp
      rw [solve_Share.l1, if_pos (by omega), show (((m + 1 : Nat) : Int) - 1) = (m : Int) from by omega, if_pos (by omega), if_pos (by rw [tab_len]; omega), hget, Int.toNat_natCast]
      rw [wrap_id (n := w m - 1) (by unfold I64; omega), wrap_id (n := - -D) (by unfold I64; omega), Int.neg_neg]
      have hmn : mn (w m - 1) D = min (w m - 1) D := by unfold mn; split <;> omega
      rw [hmn, wrap_id (n := w m - min (w m - 1) D) (by unfold I64; omega), wrap_id (n := -D + min (w m - 1) D) (by unfold I64; omega), wrap_id (n := (m : Int) - 1) (by unfold I64; omega), tab_set, ← hstep, show -D + min (w m - 1) D = -(D - min (w m - 1) D) from by omega, ← hD2]
      exact ih k (by omega) (by omega)
end Go.Proofs.Ythllpilgfipkpaa.Solve
