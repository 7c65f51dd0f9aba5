/- The least total that sizes ask for, in plain words. Condition: as many sizes as may be. -/
import Derived.Test.YthllpilgfipkpaaSE
import Derived.Test.YthllpilgfipkpaaQx8
namespace Go.Proofs.Ythllpilgfipkpaa.Solve
open Go.RowKit Go.Proofs.Ythllpilgfipkpaa.Q Go.Proofs.YthllpilgfipkpaaW.PrintWords Go.Proofs.YthllpilgfipkpaaW.PrintLast Go.Proofs.YthllpilgfipkpaaW.PrintMore

def lw (s : S70) : Int := if s.f0 = 1 ∧ right s = true then s.f1 else 1
def lwL (l : List S70) (i : Nat) : Int := lw (l.getD i z70)
theorem lw_bd (s : S70) : 1 ≤ lw s ∧ lw s ≤ 200 := by
  unfold lw
  split
  · rename_i h
    have h2 := h.2
    unfold right at h2
    simp only [decide_eq_true_eq] at h2
    omega
  · omega
theorem lwL_bd (l : List S70) : ∀ i : Nat, (i : Int) ≤ sumN (lwL l) i ∧ sumN (lwL l) i ≤ 200 * i
  | 0 => by simp [sumN]
  | i + 1 => by
    have := lwL_bd l i
    have h : 1 ≤ lwL l i ∧ lwL l i ≤ 200 := lw_bd _
    simp only [sumN]
    omega
theorem least_loop {L : List S70} (hL : L.length ≤ 16) : ∀ (d k i : Nat), L.length - i = d → i ≤ L.length → d + 2 ≤ k →
    solve_Least.l0 k (sumN (lwL L) i) L (L.length : Int) (i : Int) = some (sumN (lwL L) L.length) := by
  intro d
  induction d with
  | zero =>
    intro k i hd hi hk
    obtain ⟨k, rfl⟩ : ∃ q, k = q + 1 := ⟨k - 1, by omega⟩
    rw [solve_Least.l0, if_neg (by omega), show i = L.length from by omega]
  | succ d ih =>
    intro k i hd hi hk
    obtain ⟨k, rfl⟩ : ∃ q, k = q + 1 := ⟨k - 1, by omega⟩
    have hlt : i < L.length := by omega
    have hg : L.getD i z70 = L[i] := by rw [List.getD_eq_getElem?_getD, List.getElem?_eq_getElem hlt]; rfl
    have hb := lwL_bd L i
    have hw := lw_bd L[i]
    have hnext := ih k (i + 1) (by omega) (by omega) (by omega)
    have hs : sumN (lwL L) (i + 1) = sumN (lwL L) i + lw L[i] := by
      simp only [sumN]
      unfold lwL
      rw [hg]
    rw [hs] at hnext
    rw [solve_Least.l0, if_pos (by omega), if_pos (by omega), if_pos (by omega), rdT_at L i hlt, wrap_id (n := (i : Int) + 1) (by unfold I64; omega), show ((i : Int) + 1) = ((i + 1 : Nat) : Int) from by omega]
    by_cases c : L[i].f0 = 1
    · rw [if_pos c, check_k _ (by omega)]
      simp only [Option.bind_some]
      by_cases cr : right L[i] = true
      · have e : lw L[i] = L[i].f1 := by unfold lw; rw [if_pos ⟨c, cr⟩]
        rw [if_pos cr, if_pos rfl, ← e, wrap_id (n := sumN (lwL L) i + lw L[i]) (by unfold I64; omega)]
        exact hnext
      · have e : lw L[i] = 1 := by unfold lw; rw [if_neg (fun hh => cr hh.2)]
        rw [if_neg cr, if_neg (by decide), ← e, wrap_id (n := sumN (lwL L) i + lw L[i]) (by unfold I64; omega)]
        exact hnext
    · have e : lw L[i] = 1 := by unfold lw; rw [if_neg (fun hh => c hh.1)]
      rw [if_neg c, ← e, wrap_id (n := sumN (lwL L) i + lw L[i]) (by unfold I64; omega)]
      exact hnext
theorem least_k (l : List S70) {k : Nat} (hk : 18 ≤ k) : solve_Least.f k l = some (sumN (lwL l) (min l.length 16)) := by
  have hm : mn (l.length : Int) 16 = ((min l.length 16 : Nat) : Int) := by unfold mn; split <;> omega
  unfold solve_Least.f
  rw [hm, if_pos (by omega), if_pos (by omega), Int.toNat_natCast]
  simp only [Option.bind_some]
  have hl : (l.take (min l.length 16)).length = min l.length 16 := by simp
  have h := least_loop (L := l.take (min l.length 16)) (by omega) (min l.length 16) k 0 (by omega) (by omega) (by omega)
  rw [hl] at h
  have e : sumN (lwL (l.take (min l.length 16))) (min l.length 16) = sumN (lwL l) (min l.length 16) := sumN_ext (fun i hi => by
    unfold lwL
    rw [List.getD_eq_getElem?_getD, List.getD_eq_getElem?_getD, List.getElem?_take, if_pos hi])
  rw [e] at h
  rw [hl]
  exact h
theorem wL_eq {T : Int} {l : List S70} (hr : ∀ s ∈ l, right s = true) (hp : ∀ s ∈ l, s.f0 ≠ 2) : wL T l = lwL l := by
  funext i
  unfold wL lwL want lw
  by_cases h : i < l.length
  · have hg : l.getD i z70 = l[i] := by rw [List.getD_eq_getElem?_getD, List.getElem?_eq_getElem h]; rfl
    have h1 := hr _ (List.getElem_mem h)
    have h2 := hp _ (List.getElem_mem h)
    rw [hg]
    by_cases c : l[i].f0 = 1
    · rw [if_pos c, if_pos ⟨c, h1⟩]
    · rw [if_neg c, if_neg h2, if_neg (fun hh => c hh.1)]
  · have hg : l.getD i z70 = z70 := by rw [List.getD_eq_getElem?_getD, List.getElem?_eq_none (by omega)]; rfl
    rw [hg]
    rfl
theorem deal_step {f m j : Nat} (hf : 0 < f) (hj : j < f) : deal f m j ≤ deal f (m + 1) j ∧ deal f (m + 1) j ≤ deal f m j + 1 := by
  rw [deal_succ hf hj]
  split <;> omega
/-- One cell more makes no part shorter, and each at most one longer. -/
theorem res_step {T : Int} {l : List S70} (hr : ∀ s ∈ l, right s = true) (hp : ∀ s ∈ l, s.f0 ≠ 2) {i : Nat} (hi : i < l.length) : resF T l i ≤ resF (T + 1) l i ∧ resF (T + 1) l i ≤ resF T l i + 1 := by
  have hw : 1 ≤ lwL l i := (lw_bd _).1
  unfold resF
  rw [wL_eq hr hp, wL_eq hr hp]
  generalize hS : sumN (lwL l) l.length = S
  by_cases c : S ≤ T
  · rw [show max 0 (S - T) = 0 from by omega, show max 0 (S - (T + 1)) = 0 from by omega, show (max 0 (T + 1 - S)).toNat = (max 0 (T - S)).toNat + 1 from by omega]
    generalize (max 0 (T - S)).toNat = m
    unfold resB
    by_cases c1 : rk (kdL l) l.length = 0
    · rw [if_pos c1, if_pos c1]
      split <;> omega
    · rw [if_neg c1, if_neg c1]
      cases ck : kdL l i
      · rw [if_neg (by decide), if_neg (by decide)]; omega
      · have := deal_step (f := rk (kdL l) l.length) (m := m) (j := rk (kdL l) i) (by omega) (rk_lt ck hi)
        rw [if_pos rfl, if_pos rfl]; omega
  · rw [show (max 0 (T - S)).toNat = 0 from by omega, show (max 0 (T + 1 - S)).toNat = 0 from by omega]
    unfold resB base
    generalize sumN (fun j => lwL l j - 1) l.length - sumN (fun j => lwL l j - 1) (i + 1) = R
    generalize (if rk (kdL l) l.length = 0 then if i = l.length - 1 then ((0 : Nat) : Int) else 0 else if kdL l i = true then deal (rk (kdL l) l.length) 0 (rk (kdL l) i) else 0) = Q
    omega
end Go.Proofs.Ythllpilgfipkpaa.Solve
