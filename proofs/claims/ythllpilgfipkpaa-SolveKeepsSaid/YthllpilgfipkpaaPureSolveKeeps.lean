/- Fixed parts have what they want, and one cell more makes no part shorter: SolveKeeps answers true for every total and sizes. No condition. -/
import Derived.Test.YthllpilgfipkpaaQx17
import Derived.Test.YthllpilgfipkpaaSF
namespace Go.Proofs.Ythllpilgfipkpaa.Pure
open Go.RowKit Go.Proofs.Ythllpilgfipkpaa.Q Go.Proofs.YthllpilgfipkpaaW.PrintWords Go.Proofs.YthllpilgfipkpaaW.PrintLast Go.Proofs.Ythllpilgfipkpaa.Solve

section
variable {T : Int} {l : List S70}
theorem keeps_l2 {g g' : Nat → Int} {n : Nat} (hn : n ≤ 16) (h : ∀ i, i < n → g i ≤ g' i ∧ g' i ≤ g i + 1) (hb : ∀ i, i < n → 0 ≤ g i ∧ g i ≤ 200) : ∀ (d k i : Nat), n - i = d → i ≤ n → d + 1 ≤ k →
    casementlaw09_SolveKeeps.l2 k (tab n g) (tab n g') (n : Int) (i : Int) = some true := by
  intro d
  induction d with
  | zero =>
    intro k i hd hi hk
    obtain ⟨k, rfl⟩ : ∃ q, k = q + 1 := ⟨k - 1, by omega⟩
    rw [casementlaw09_SolveKeeps.l2, if_neg (by omega)]
  | succ d ih =>
    intro k i hd hi hk
    obtain ⟨k, rfl⟩ : ∃ q, k = q + 1 := ⟨k - 1, by omega⟩
    have hlt : i < n := by omega
    have h1 := h i hlt
    have h2 := hb i hlt
    rw [casementlaw09_SolveKeeps.l2, if_pos (by omega), if_pos (by omega), if_pos (by rw [tab_len]; omega), if_pos (by rw [tab_len]; omega), rd_tab hlt, rd_tab hlt, if_neg (by omega), wrap_id (n := g i + 1) (by unfold I64; omega), if_neg (by omega), wrap_id (n := (i : Int) + 1) (by unfold I64; omega), show ((i : Int) + 1) = ((i + 1 : Nat) : Int) from by omega]
    exact ih k (i + 1) (by omega) (by omega) (by omega)
theorem res_bd (hr : ∀ s ∈ l, right s = true) (h0 : 0 < l.length) (h1 : (l.length : Int) ≤ T) (h2 : T ≤ 200) {i : Nat} (hi : i < l.length) : 0 ≤ resF T l i ∧ resF T l i ≤ 200 := by
  have hp : ∀ j, j < l.length → 1 ≤ resF T l j := fun j hj => res_pos hr (by omega) h2 hj
  have hs := res_sum hr h0 h1 h2
  have h3 := sumN_change (g := fun j => if j = i then (0 : Int) else 0) i (resF T l i) (n := l.length)
  have h4 : sumN (fun j => if j = i then (if j = i then (0 : Int) else 0) + resF T l i else if j = i then 0 else 0) l.length ≤ sumN (resF T l) l.length := sumN_le (fun j hj => by
    (try simp only)
    by_cases c : j = i
    · subst c; rw [if_pos rfl, if_pos rfl]; omega
    · have := hp j hj
      rw [if_neg c, if_neg c]; omega)
  have h5 : sumN (fun j => if j = i then (0 : Int) else 0) l.length = 0 := by
    rw [sumN_ext (g' := fun _ => 0) (fun j _ => by (try simp only); split <;> rfl), sumN_const]
    omega
  rw [if_pos hi, h5] at h3
  have := hp i hi
  omega
theorem keeps_l1 (hr : ∀ s ∈ l, right s = true) (hp : ∀ s ∈ l, s.f0 ≠ 2) (hn : l.length ≤ 16) (h0 : 0 < l.length) (h1 : (l.length : Int) ≤ T) (h2 : T ≤ 200) {fx : Bool} (hfx : fx = true ↔ 0 < rk (kdL l) l.length) : ∀ (d k i : Nat), l.length - i = d → i ≤ l.length → d + 100 ≤ k →
    casementlaw09_SolveKeeps.l1 k T l fx (tab l.length (resF T l)) l (l.length : Int) (i : Int) = some true := by
  intro d
  induction d with
  | zero =>
    intro k i hd hi hk
    obtain ⟨k, rfl⟩ : ∃ q, k = q + 1 := ⟨k - 1, by omega⟩
    rw [casementlaw09_SolveKeeps.l1, if_neg (by omega)]
    by_cases c : T ≥ 200
    · rw [if_pos c]
    · rw [if_neg c, wrap_id (n := T + 1) (by unfold I64; omega), share_ok hr hn h0 (by omega) (by omega) (by omega)]
      simp only [Option.bind_some, if_true, tab_len]
      exact keeps_l2 hn (fun i hi => res_step hr hp hi) (fun i hi => res_bd hr h0 h1 h2 hi) l.length k 0 (by omega) (by omega) (by omega)
  | succ d ih =>
    intro k i hd hi hk
    obtain ⟨k, rfl⟩ : ∃ q, k = q + 1 := ⟨k - 1, by omega⟩
    have hlt : i < l.length := by omega
    have hnext := ih k (i + 1) (by omega) (by omega) (by omega)
    rw [casementlaw09_SolveKeeps.l1, if_pos (by omega), if_pos (by omega), if_pos (by omega), rdT_at l i hlt, wrap_id (n := (i : Int) + 1) (by unfold I64; omega), show ((i : Int) + 1) = ((i + 1 : Nat) : Int) from by omega]
    by_cases c : l[i].f0 = 1
    · rw [if_pos c, least_k l (by omega)]
      simp only [Option.bind_some]
      rw [show min l.length 16 = l.length from by omega]
      by_cases c1 : T ≥ sumN (lwL l) l.length
      · rw [if_pos c1, if_pos (by rw [tab_len]; omega), rd_tab hlt]
        by_cases c2 : resF T l i = l[i].f1
        · rw [if_pos c2]
          exact hnext
        · rw [if_neg c2]
          have hg : l.getD i z70 = l[i] := by rw [List.getD_eq_getElem?_getD, List.getElem?_eq_getElem hlt]; rfl
          have hwi : lwL l i = l[i].f1 := by
            unfold lwL lw
            rw [hg, if_pos ⟨c, hr _ (List.getElem_mem hlt)⟩]
          have hk1 : ¬ kdL l i = true := fun hh => by have := (kd_at hlt).1 hh; omega
          have hres : resF T l i = l[i].f1 + if rk (kdL l) l.length = 0 then (if i = l.length - 1 then ((max 0 (T - sumN (lwL l) l.length)).toNat : Int) else 0) else 0 := by
            unfold resF
            rw [wL_eq hr hp, show max 0 (sumN (lwL l) l.length - T) = 0 from by omega]
            unfold resB
            rw [base_zero (w := lwL l) (fun i _ => (lw_bd _).1) hlt, hwi, if_neg hk1]
          have hz : rk (kdL l) l.length = 0 := by
            by_cases cz : rk (kdL l) l.length = 0
            · exact cz
            · rw [if_neg cz] at hres
              omega
          rw [if_pos hz] at hres
          have hl : i = l.length - 1 := by
            by_cases cl : i = l.length - 1
            · exact cl
            · rw [if_neg cl] at hres
              omega
          rw [if_pos hl] at hres
          rw [if_neg (fun hh => by have := hfx.1 hh; omega), wrap_id (n := (l.length : Int) - 1) (by unfold I64; omega), if_neg (by omega), if_neg (by omega)]
          exact hnext
      · rw [if_neg c1]
        exact hnext
    · rw [if_neg c]
      exact hnext
theorem keeps_l0 (hT : I64 T) (hl : l.length ≤ 9000000000000000000) : ∀ (d k i : Nat) (fx : Bool), l.length - i = d → i ≤ l.length → d + l.length + 200 ≤ k → (∀ j, j < i → (h : j < l.length) → l[j].f0 ≠ 2) → (fx = true ↔ 0 < rk (kdL l) i) →
    casementlaw09_SolveKeeps.l0 k T l fx l (l.length : Int) (i : Int) = some true := by
  intro d
  induction d with
  | zero =>
    intro k i fx hd hi hk hprev hfx
    obtain ⟨k, rfl⟩ : ∃ q, k = q + 1 := ⟨k - 1, by omega⟩
    have hp : ∀ s ∈ l, s.f0 ≠ 2 := by
      intro s hs
      obtain ⟨j, hj, rfl⟩ := List.getElem_of_mem hs
      exact hprev j (by omega) hj
    have hil : i = l.length := by omega
    rw [hil] at hfx
    rw [casementlaw09_SolveKeeps.l0, if_neg (by omega)]
    by_cases he : shareErr T l = 0
    · obtain ⟨hr, hn, h0, h1, h2⟩ := share_zero he
      rw [share_ok hr hn h0 h1 h2 (by omega)]
      simp only [Option.bind_some, if_true]
      exact keeps_l1 hr hp hn h0 h1 h2 hfx l.length k 0 (by omega) (by omega) (by omega)
    · rw [share_err hl he (by omega)]
      simp only [Option.bind_some]
      rw [if_neg he]
      rfl
  | succ d ih =>
    intro k i fx hd hi hk hprev hfx
    obtain ⟨k, rfl⟩ : ∃ q, k = q + 1 := ⟨k - 1, by omega⟩
    have hlt : i < l.length := by omega
    rw [casementlaw09_SolveKeeps.l0, if_pos (by omega), if_pos (by omega), if_pos (by omega), rdT_at l i hlt, wrap_id (n := (i : Int) + 1) (by unfold I64; omega), show ((i : Int) + 1) = ((i + 1 : Nat) : Int) from by omega]
    by_cases c : l[i].f0 = 2
    · rw [if_pos c]
    · rw [if_neg c]
      have hpn : ∀ j, j < i + 1 → (h : j < l.length) → l[j].f0 ≠ 2 := by
        intro j hj h
        by_cases cj : j = i
        · subst cj; exact c
        · exact hprev j (by omega) h
      have hrk : rk (kdL l) (i + 1) = rk (kdL l) i + if kdL l i = true then 1 else 0 := rfl
      cases fx
      · rw [if_neg (by decide)]
        have h0 : rk (kdL l) i = 0 := by
          by_cases cz : rk (kdL l) i = 0
          · exact cz
          · have := hfx.2 (by omega); cases this
        refine ih k (i + 1) _ (by omega) (by omega) (by omega) hpn ?_
        rw [hrk, h0]
        by_cases ck : l[i].f0 = 0
        · rw [if_pos ((kd_at hlt).2 ck), ck]
          simp
        · rw [if_neg (fun hh => ck ((kd_at hlt).1 hh))]
          simpa using ck
      · rw [if_pos rfl]
        refine ih k (i + 1) true (by omega) (by omega) (by omega) hpn ?_
        have := hfx.1 rfl
        rw [hrk]
        exact ⟨fun _ => by omega, fun _ => rfl⟩
end

theorem SolveKeeps : casementlaw09_SolveKeeps.Pure := by
  intro T l wT _ hb _
  have hl : l.length ≤ 9000000000000000000 := by omega
  refine ⟨l.length + l.length + 300, ?_⟩
  unfold casementlaw09_SolveKeeps.f
  rw [alive_k (by omega)]
  simp only [Option.bind_some, if_true]
  exact keeps_l0 (i64_of wT) hl l.length _ 0 false (by omega) (by omega) (by omega) (fun j hj => by omega) (by simp [rk])
end Go.Proofs.Ythllpilgfipkpaa.Pure
