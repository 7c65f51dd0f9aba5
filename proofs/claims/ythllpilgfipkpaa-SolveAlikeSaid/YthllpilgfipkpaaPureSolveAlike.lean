/- Parts of one kind share a length alike: SolveAlike answers true for every three numbers. No condition. -/
import Derived.Test.YthllpilgfipkpaaQx18
import Derived.Test.YthllpilgfipkpaaSE
import Derived.Laws.BitsLemmas
namespace Go.Proofs.Ythllpilgfipkpaa.Pure
open Go.RowKit Go.Proofs.Ythllpilgfipkpaa.Q Go.Proofs.YthllpilgfipkpaaW.PrintWords Go.Proofs.YthllpilgfipkpaaW.PrintLast Go.Proofs.Ythllpilgfipkpaa.Solve

theorem and_bd (a : Int) (M : Nat) (hM : M < 4611686018427387904) : 0 ≤ Go.bits .and .i64 a (M : Int) ∧ Go.bits .and .i64 a (M : Int) ≤ M := by
  have hb : IntKind.i64.bits = 64 := rfl
  have h : ∃ q : Nat, q ≤ M ∧ Go.bits .and .i64 a (M : Int) = IntKind.i64.wrap (q : Int) := by
    refine ⟨_, ?_, rfl⟩
    rw [BitVec.toNat_and]
    refine Nat.le_trans Nat.and_le_right ?_
    simp only [BitVec.ofInt_natCast, BitVec.toNat_ofNat]
    exact Nat.mod_le _ _
  obtain ⟨q, hq, e⟩ := h
  rw [e, IntKind.wrap_i64]
  omega

theorem right_z : right z70 = true := rfl
theorem rep_right (n : Nat) : ∀ s ∈ List.replicate n z70, right s = true := fun s hs => by rw [List.eq_of_mem_replicate hs]; rfl
theorem rep_getD {n i : Nat} : (List.replicate n z70).getD i z70 = z70 := by
  rw [List.getD_eq_getElem?_getD, List.getElem?_replicate]
  split <;> rfl
theorem rep_w (T : Int) (n : Nat) : wL T (List.replicate n z70) = fun _ => 1 := by
  funext i
  unfold wL
  rw [rep_getD]
  rfl
theorem rep_rk (n : Nat) : ∀ i, rk (kdL (List.replicate n z70)) i = i
  | 0 => rfl
  | i + 1 => by
    have : kdL (List.replicate n z70) i = true := by
      unfold kdL
      rw [rep_getD]
      rfl
    simp only [rk, rep_rk n i, this, if_true]
theorem rep_res {n t i : Nat} (hi : i < n) (h : n ≤ t) : resF (t : Int) (List.replicate n z70) i = ((t / n : Nat) : Int) + if i < t % n then 1 else 0 := by
  have hk : kdL (List.replicate n z70) i = true := by
    unfold kdL
    rw [rep_getD]
    rfl
  rw [res_flex (by simpa using hi) hk, List.length_replicate, rep_rk, rep_rk, rep_w, sumN_const]
  have e : (max 0 ((t : Int) - (n : Int) * 1)).toNat = t - n := by omega
  rw [e]
  have hd : t / n = (t - n) / n + 1 := by
    have := Nat.add_div_right (t - n) (z := n) (by omega)
    rw [show t - n + n = t from by omega] at this
    exact this
  have hm : t % n = (t - n) % n := by
    have := Nat.add_mod_right (t - n) n
    rw [show t - n + n = t from by omega] at this
    exact this
  rw [hd, hm]
  unfold deal
  generalize (t - n) / n = q
  split <;> omega
theorem one_res {T f : Int} (h1 : 2 ≤ T) (h2 : 1 ≤ f) : resF T [⟨1, f⟩, ⟨0, 0⟩] 0 = min f (T - 1) ∧ resF T [⟨1, f⟩, ⟨0, 0⟩] 1 = T - min f (T - 1) := by
  have w0 : wL T [⟨1, f⟩, ⟨0, 0⟩] 0 = f := rfl
  have w1 : wL T [⟨1, f⟩, ⟨0, 0⟩] 1 = 1 := rfl
  have k0 : kdL [⟨1, f⟩, ⟨0, 0⟩] 0 = false := rfl
  have k1 : kdL [⟨1, f⟩, ⟨0, 0⟩] 1 = true := rfl
  have r2 : rk (kdL [⟨1, f⟩, ⟨0, 0⟩]) 2 = 1 := rfl
  have r1 : rk (kdL [⟨1, f⟩, ⟨0, 0⟩]) 1 = 0 := rfl
  have hl : ([⟨1, f⟩, ⟨0, 0⟩] : List S70).length = 2 := rfl
  have hd : ∀ m, deal 1 m 0 = m := by intro m; unfold deal; rw [Nat.mod_one, Nat.div_one]; simp
  unfold resF resB base
  rw [hl, r2]
  simp only [sumN, w0, w1, k0, k1, r1, hd]
  constructor
  · simp only [Nat.one_ne_zero, if_false, Bool.false_eq_true]
    omega
  · simp only [Nat.one_ne_zero, if_false, if_true]
    omega
theorem hundred_res {T : Int} (h1 : 2 ≤ T) : resF T [⟨0, 0⟩, ⟨2, 100⟩] 0 = 1 ∧ resF T [⟨0, 0⟩, ⟨2, 100⟩] 1 = T - 1 := by
  have w0 : wL T [⟨0, 0⟩, ⟨2, 100⟩] 0 = 1 := rfl
  have w1 : wL T [⟨0, 0⟩, ⟨2, 100⟩] 1 = T := by
    show max (T * 100 / 100) 1 = T
    omega
  have k0 : kdL [⟨0, 0⟩, ⟨2, 100⟩] 0 = true := rfl
  have k1 : kdL [⟨0, 0⟩, ⟨2, 100⟩] 1 = false := rfl
  have r2 : rk (kdL [⟨0, 0⟩, ⟨2, 100⟩]) 2 = 1 := rfl
  have r0 : rk (kdL [⟨0, 0⟩, ⟨2, 100⟩]) 0 = 0 := rfl
  have hl : ([⟨0, 0⟩, ⟨2, 100⟩] : List S70).length = 2 := rfl
  have hd : ∀ m, deal 1 m 0 = m := by intro m; unfold deal; rw [Nat.mod_one, Nat.div_one]; simp
  unfold resF resB base
  rw [hl, r2]
  simp only [sumN, w0, w1, k0, k1, r0, hd]
  constructor
  · simp only [Nat.one_ne_zero, if_false, if_true]
    omega
  · simp only [Nat.one_ne_zero, if_false, Bool.false_eq_true]
    omega
theorem alike_end {t : Nat} (c : Int) (h1 : t ≤ 200) {k : Nat} (hk : 100 ≤ k) (L : List Int) (n : Int) :
    ∀ i : Int, L.length ≤ i → casementlaw09_SolveAlike.l0 k (t : Int) n c L (L.length : Int) i = some true := by
  intro i hi
  obtain ⟨k, rfl⟩ : ∃ q, k = q + 1 := ⟨k - 1, by omega⟩
  have hb := and_bd c 127 (by decide)
  rw [show ((127 : Nat) : Int) = 127 from rfl] at hb
  rw [casementlaw09_SolveAlike.l0, if_neg (by omega)]
  by_cases c2 : (t : Int) < 2
  · rw [if_pos c2]
  · rw [if_neg c2, wrap_id (n := 1 + Go.bits .and .i64 c 127) (by unfold I64; omega)]
    generalize Go.bits .and .i64 c 127 = q at *
    have r1 : ∀ s ∈ ([⟨1, 1 + q⟩, ⟨0, 0⟩] : List S70), right s = true := by
      intro s hs
      simp only [List.mem_cons, List.not_mem_nil, or_false] at hs
      rcases hs with rfl | rfl <;> unfold right <;> simp <;> omega
    have r2 : ∀ s ∈ ([⟨0, 0⟩, ⟨2, 100⟩] : List S70), right s = true := by
      intro s hs
      simp only [List.mem_cons, List.not_mem_nil, or_false] at hs
      rcases hs with rfl | rfl <;> rfl
    rw [share_ok r1 (by simp) (by simp) (by simp; omega) (by omega) (by omega)]
    simp only [Option.bind_some]
    rw [share_ok r2 (by simp) (by simp) (by simp; omega) (by omega) (by omega)]
    simp only [Option.bind_some, if_true, tab_len, List.length_cons, List.length_nil]
    obtain ⟨a1, a2⟩ := one_res (T := t) (f := 1 + q) (by omega) (by omega)
    obtain ⟨b1, b2⟩ := hundred_res (T := t) (by omega)
    have g0 : ∀ g, rd (tab 2 g) 0 = g 0 := fun g => rd_tab (i := 0) (by omega)
    have g1 : ∀ g, rd (tab 2 g) 1 = g 1 := fun g => rd_tab (i := 1) (by omega)
    rw [show (0 + 1 + 1 : Nat) = 2 from rfl, g0, g1, g0, g1, a1, a2, b1, b2]
    have hm : mn (1 + q) (wrap64 ((t : Int) - 1)) = min (1 + q) (t - 1) := by
      rw [wrap_id (n := (t : Int) - 1) (by unfold I64; omega)]
      unfold mn
      split <;> omega
    rw [hm, wrap_id (n := (t : Int) - 1) (by unfold I64; omega), wrap_id (n := (t : Int) - min (1 + q) (t - 1)) (by unfold I64; omega)]
    simp
theorem alike_loop {n t : Nat} (c : Int) (hn : n ≤ 16) (h0 : 0 < n) (h : n ≤ t) (h1 : t ≤ 200) : ∀ (d k i : Nat), n - i = d → i ≤ n → d + 101 ≤ k →
    casementlaw09_SolveAlike.l0 k (t : Int) (n : Int) c (tab n (resF (t : Int) (List.replicate n z70))) ((tab n (resF (t : Int) (List.replicate n z70))).length : Int) (i : Int) = some true := by
  intro d
  induction d with
  | zero =>
    intro k i hd hi hk
    exact alike_end c h1 (by omega) _ _ _ (by rw [tab_len]; omega)
  | succ d ih =>
    intro k i hd hi hk
    obtain ⟨k, rfl⟩ : ∃ q, k = q + 1 := ⟨k - 1, by omega⟩
    have hlt : i < n := by omega
    have hq : Int.tdiv (t : Int) (n : Int) = ((t / n : Nat) : Int) := (Int.ofNat_tdiv t n).symm
    have hr : Int.tmod (t : Int) (n : Int) = ((t % n : Nat) : Int) := (Int.ofNat_tmod t n).symm
    have hq2 : t / n ≤ t := Nat.div_le_self _ _
    have hq3 : (0 : Int) ≤ ((t / n : Nat) : Int) := Int.natCast_nonneg _
    have hnext := ih k (i + 1) (by omega) (by omega) (by omega)
    rw [tab_len] at hnext ⊢
    rw [casementlaw09_SolveAlike.l0, if_pos (by omega), if_neg (by omega), hq, hr, tab_len, rd_tab hlt, rep_res hlt h]
    rw [wrap_id (n := ((t / n : Nat) : Int)) (by unfold I64; omega), wrap_id (n := ((t / n : Nat) : Int) + 1) (by unfold I64; omega), wrap_id (n := (i : Int) + 1) (by unfold I64; omega), show ((i : Int) + 1) = ((i + 1 : Nat) : Int) from by omega]
    by_cases cc : i < t % n
    · rw [if_pos (by omega), if_pos (by omega), if_pos (by omega), if_pos (by rw [if_pos cc])]
      exact hnext
    · rw [if_neg (by omega), if_pos (by omega), if_pos (by omega), if_pos (by rw [if_neg cc, Int.add_zero])]
      exact hnext

theorem SolveAlike : casementlaw09_SolveAlike.Pure := by
  intro T a c wT _ _
  have hb := and_bd a 15 (by decide)
  rw [show ((15 : Nat) : Int) = 15 from rfl] at hb
  refine ⟨200, ?_⟩
  unfold casementlaw09_SolveAlike.f
  rw [alive_k (by decide)]
  simp only [Option.bind_some, if_true]
  rw [wrap_id (n := 1 + Go.bits .and .i64 a 15) (by unfold I64; omega)]
  obtain ⟨n, hn⟩ : ∃ n : Nat, 1 + Go.bits .and .i64 a 15 = (n : Int) := ⟨(1 + Go.bits .and .i64 a 15).toNat, by omega⟩
  rw [hn]
  have hn1 : 1 ≤ n ∧ n ≤ 16 := by omega
  have hany : ((List.replicate n z70).any fun s => !right s) = false := by
    rw [List.any_eq_false]
    intro s hs
    simp [rep_right n s hs]
  have hbad : (T < n ∨ T > 200) → casementlaw09_SolveAlike.j0 200 T (n : Int) c true = some true := by
    intro h
    have he : shareErr T (List.replicate n z70) = if T > 200 then 1 else 90 := by
      unfold shareErr
      rw [hany, List.length_replicate]
      by_cases c1 : T > 200
      · rw [if_pos (.inr (.inl c1)), if_pos c1]
      · rw [if_neg (by rintro (h | h | h); omega; omega; cases h), if_neg (by omega), if_pos (by omega), if_neg c1]
    rw [casementlaw09_SolveAlike.j0, if_pos rfl, if_pos (by omega), if_pos (by omega), Int.toNat_natCast, share_err (by simp; omega) (by rw [he]; split <;> decide) (by simp; omega), he]
    simp only [Option.bind_some]
    by_cases c1 : T > 200
    · rw [if_pos c1, if_neg (by decide), if_pos rfl]
      simpa using c1
    · rw [if_neg c1, if_pos rfl, if_pos (by omega)]
  by_cases c1 : T < n
  · rw [if_pos c1]
    exact hbad (.inl c1)
  · rw [if_neg c1]
    by_cases c2 : T > 200
    · rw [show decide (T > 200) = true from by simpa using c2]
      exact hbad (.inr c2)
    · rw [show decide (T > 200) = false from by simpa using c2]
      obtain ⟨t, rfl⟩ : ∃ t : Nat, T = (t : Int) := ⟨T.toNat, by omega⟩
      rw [casementlaw09_SolveAlike.j0, if_neg (by decide), if_pos (by omega), if_pos (by omega), Int.toNat_natCast, share_ok (rep_right n) (by simp; omega) (by simp; omega) (by simp; omega) (by omega) (by omega)]
      simp only [Option.bind_some, if_true, tab_len, List.length_replicate]
      rw [show ((n : Int) != n) = false from by simp, casementlaw09_SolveAlike.j1, if_neg (by decide)]
      exact alike_loop c hn1.2 (by omega) (by omega) (by omega) n 198 0 (by omega) (by omega) (by omega)
end Go.Proofs.Ythllpilgfipkpaa.Pure
