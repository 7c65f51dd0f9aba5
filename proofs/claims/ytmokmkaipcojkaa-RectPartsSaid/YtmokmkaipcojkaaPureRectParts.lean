/- A rectangle's parts share no cell and are its own: RectParts answers true for every rectangle, list of sizes, way and cell. No condition. -/
import Derived.Test.YtmokmkaipcojkaaQx25
import Derived.Test.YtmokmkaipcojkaaRA
import Derived.Test.YtmokmkaipcojkaaRP
import Derived.Test.YtmokmkaipcojkaaRQ
namespace Go.Proofs.Ytmokmkaipcojkaa.Pure
open Go.RowKit Go.Proofs.Ytmokmkaipcojkaa.Q Go.Proofs.YtmokmkaipcojkaaW.PrintWords Go.Proofs.YtmokmkaipcojkaaW.PrintLast Go.Proofs.Ytmokmkaipcojkaa.Rect

section
variable (sz : List Int) (a b : Int) (L : List S26) (hN : ∀ r ∈ L, NrmS r) (hl : L.length ≤ 16) (x y w h X Y W H : Int)

theorem parts_inner (hA : L.Pairwise Apart) (i : Nat) (hi : i < L.length) (n ar : Int) (hN : ∀ r ∈ L, NrmS r) (hl : L.length ≤ 16) : ∀ (d m j : Nat), i - j = d → j ≤ i →
    casementlaw02_RectParts.l1 (d + m) sz a b L n ar L (L.length : Int) (i : Int) (i : Int) (j : Int) x y w h L[i].f0 L[i].f1 L[i].f2 L[i].f3 = casementlaw02_RectParts.l1 m sz a b L n ar L (L.length : Int) (i : Int) (i : Int) (i : Int) x y w h L[i].f0 L[i].f1 L[i].f2 L[i].f3 := by
  intro d
  induction d with
  | zero =>
    intro m j hd hj
    rw [show j = i from by omega, Nat.zero_add]
  | succ d ih =>
    intro m j hd hj
    have hji : j < i := by omega
    have hjl : j < L.length := by omega
    have hr := hN L[i] (List.getElem_mem hi)
    have hq := hN L[j] (List.getElem_mem hjl)
    have hap : Apart L[j] L[i] := (List.pairwise_iff_getElem.1 hA) j i hjl hi hji
    rw [show d + 1 + m = (d + m) + 1 from by omega]
    conv => lhs; rw [casementlaw02_RectParts.l1]
    rw [if_pos (by omega), if_pos (by omega), if_pos (by omega), rd_T26_at L j hjl, wrap_id (n := (j : Int) + 1) (by unfold I64; omega), show ((j : Int) + 1) = ((j + 1 : Nat) : Int) from by omega]
    rw [meet_eq (cl_of_nrm hr) (cl_of_nrm hq) hr hq]
    have hz : meetS L[i].f0 L[i].f1 L[i].f2 L[i].f3 L[j].f0 L[j].f1 L[j].f2 L[j].f3 = (0, 0, 0, 0) := by
      unfold meetS
      unfold NrmS Nrm at hr hq
      unfold Apart at hap
      rw [if_pos (by omega)]
    rw [hz]
    simp only [Option.bind_some]
    rw [empty_eq (cl_of_nrm (.inl ⟨rfl, rfl, rfl, rfl⟩))]
    simp only [Option.bind_some, beq_self_eq_true, if_true]
    exact ih m (j + 1) (by omega) (by omega)

theorem take_succ_cnt (i : Nat) (hi : i < L.length) : cnt a b (L.take (i + 1)) = cnt a b (L.take i) + if inR L[i] a b = true then 1 else 0 := by
  rw [List.take_succ_eq_append_getElem hi, cnt_append]
  simp [cnt]
theorem take_succ_ars (i : Nat) (hi : i < L.length) : ars (L.take (i + 1)) = ars (L.take i) + L[i].f2 * L[i].f3 := by
  rw [List.take_succ_eq_append_getElem hi, ars_append]
  simp [ars]

theorem parts_outer (e : cl x y w h = (X, Y, W, H)) (nn : Nrm X Y W H) (hN : ∀ r ∈ L, NrmS r) (hW : ∀ r ∈ L, Within X Y W H r) (hA : L.Pairwise Apart) (hl : L.length ≤ 16)
    (hlen : (L.length : Int) = mn (sz.length : Int) 16) (har : ars L ≤ W * H) (hn1 : cnt a b L ≤ 1) (hfull : ars L = W * H → (cnt a b L = 1 ↔ inB X Y W H a b = true)) : ∀ (d k i : Nat), L.length - i = d → i ≤ L.length → 20 * d + 2 ≤ k →
    casementlaw02_RectParts.l0 k sz a b L (cnt a b (L.take i)) (ars (L.take i)) L (L.length : Int) (i : Int) x y w h = some true := by
  have hwh : 0 ≤ W * H ∧ W * H ≤ 40000 := area_bd (r := ⟨X, Y, W, H⟩) nn
  intro d
  induction d with
  | zero =>
    intro k i hd hi hk
    obtain ⟨k, rfl⟩ : ∃ q, k = q + 1 := ⟨k - 1, by omega⟩
    rw [List.take_of_length_le (by omega), casementlaw02_RectParts.l0, if_neg (by omega), area_eq e, has_eq e, wrap_id (n := W * H) (by unfold I64; omega)]
    simp only [Option.bind_some]
    rw [if_pos hlen, if_pos har]
    by_cases c : ars L = W * H
    · rw [if_pos c]
      have := hfull c
      have hb : ((cnt a b L == 1) == inB X Y W H a b) = true := by
        rw [beq_iff_eq, Bool.eq_iff_iff, beq_iff_eq]
        exact this
      rw [if_pos hb]
      refine congrArg some ?_
      simpa using hn1
    · rw [if_neg c]
      refine congrArg some ?_
      simpa using hn1
  | succ d ih =>
    intro k i hd hi hk
    obtain ⟨k, rfl⟩ : ∃ q, k = q + 1 := ⟨k - 1, by omega⟩
    have hlt : i < L.length := by omega
    have hr := hN L[i] (List.getElem_mem hlt)
    have hw := hW L[i] (List.getElem_mem hlt)
    rw [casementlaw02_RectParts.l0, if_pos (by omega), if_pos (by omega), if_pos (by omega), rd_T26_at L i hlt]
    rw [within_of (cl_of_nrm hr) e hr nn hw]
    simp only [Option.bind_some, if_true]
    have hin := parts_inner sz a b L x y w h hA i hlt (cnt a b (L.take i)) (ars (L.take i)) hN hl i (k - i) 0 (by omega) (by omega)
    rw [show i + (k - i) = k from by omega] at hin
    refine Eq.trans hin ?_
    obtain ⟨m, hm⟩ : ∃ m, k - i = m + 1 := ⟨k - i - 1, by omega⟩
    rw [hm, casementlaw02_RectParts.l1, if_neg (by omega), has_of hr, area_eq (cl_of_nrm hr)]
    have b1 := cnt_bd a b (L.take i)
    have b2 := ars_bd (L.take i) (fun r hr => hN r (List.mem_of_mem_take hr))
    have b3 := area_bd hr
    have b4 : (L.take i).length ≤ 16 := by simp; omega
    simp only [Option.bind_some]
    rw [wrap_id (n := L[i].f2 * L[i].f3) (by unfold I64; omega), wrap_id (n := (i : Int) + 1) (by unfold I64; omega), wrap_id (n := cnt a b (L.take i) + 1) (by unfold I64; omega), wrap_id (n := ars (L.take i) + _) (by unfold I64; omega), show ((i : Int) + 1) = ((i + 1 : Nat) : Int) from by omega]
    have hnext := ih m (i + 1) (by omega) (by omega) (by omega)
    rw [take_succ_cnt a b L i hlt, take_succ_ars L i hlt] at hnext
    by_cases t : inR L[i] a b = true
    · rw [if_pos t] at hnext ⊢
      exact hnext
    · rw [if_neg t, Int.add_zero] at hnext
      rw [if_neg t]
      exact hnext
end

theorem RectParts : casementlaw02_RectParts.Pure := by
  intro x y w h l across a b _ _ _ _ _ _ _ _ _
  obtain ⟨X, Y, W, H, e, n, _⟩ := cl_nrm x y w h
  refine ⟨400, ?_⟩
  unfold casementlaw02_RectParts.f
  rw [alive_k (by decide), cut_eq e n l across (by decide)]
  simp only [Option.bind_some, if_true]
  have hL := cutS_length across (l.take 16) X Y W H
  obtain ⟨s, hs, hsum⟩ := cutS_sum a b across (l.take 16) X Y W H (lft_of n)
  have hin : inB X Y W H a b = true ↔ X ≤ a ∧ a < X + W ∧ Y ≤ b ∧ b < Y + H := by unfold inB; simp
  have hN := n
  unfold Nrm at hN
  refine parts_outer l a b (cutS across (l.take 16) X Y W H) x y w h X Y W H e n (cutS_nrm across _ X Y W H) (cutS_within across _ X Y W H (lft_of n)) (cutS_apart across _ X Y W H (lft_of n)) ?_ ?_ ?_ ?_ ?_ (cutS across (l.take 16) X Y W H).length 400 0 (by omega) (by omega) ?_
  · rw [hL]; simp; omega
  · rw [hL, mn_eq]; simp; omega
  · rcases hsum with ⟨_, h1, h2, _⟩ | ⟨_, h1, h2, _⟩
    · rw [h2]; exact Int.mul_le_mul_of_nonneg_right h1 (by omega)
    · rw [h2]; exact Int.mul_le_mul_of_nonneg_left h1 (by omega)
  · rcases hsum with ⟨_, _, _, h3⟩ | ⟨_, _, _, h3⟩ <;> rw [h3] <;> split <;> omega
  · intro hf
    rw [hin]
    rcases hN with hN | hN
    · obtain ⟨rfl, rfl, rfl, rfl⟩ := hN
      rcases hsum with ⟨_, h1, _, h3⟩ | ⟨_, h1, _, h3⟩ <;> rw [h3] <;> rw [if_neg (by omega)] <;> constructor <;> intro hh <;> omega
    · rcases hsum with ⟨_, h1, h2, h3⟩ | ⟨_, h1, h2, h3⟩
      · rw [h2] at hf
        have hsW : s = W := Int.eq_of_mul_eq_mul_right (by omega) hf
        subst hsW
        rw [h3]
        split
        · exact ⟨fun _ => ‹_›, fun _ => rfl⟩
        · exact ⟨fun hh => by omega, fun hh => absurd hh ‹_›⟩
      · rw [h2] at hf
        have hsH : s = H := Int.eq_of_mul_eq_mul_left (by omega) hf
        subst hsH
        rw [h3]
        split
        · exact ⟨fun _ => ‹_›, fun _ => rfl⟩
        · exact ⟨fun hh => by omega, fun hh => absurd hh ‹_›⟩
  · rw [hL]; simp; omega
end Go.Proofs.Ytmokmkaipcojkaa.Pure
