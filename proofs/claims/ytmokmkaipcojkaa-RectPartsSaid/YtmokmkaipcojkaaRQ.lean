/- A rectangle's parts lie in it, share no cell, and have as many cells as they take of it. No condition. -/
import Derived.Test.YtmokmkaipcojkaaRL
import Derived.Test.YtmokmkaipcojkaaRN
namespace Go.Proofs.Ytmokmkaipcojkaa.Rect
open Go.RowKit Go.Proofs.Ytmokmkaipcojkaa.Q Go.Proofs.YtmokmkaipcojkaaW.PrintWords Go.Proofs.YtmokmkaipcojkaaW.PrintLast Go.Proofs.YtmokmkaipcojkaaW.PrintMore

def ars : List S26 → Int
  | [] => 0
  | r :: l => r.f2 * r.f3 + ars l
def Within (X Y W H : Int) (r : S26) : Prop := r.f2 = 0 ∨ (X ≤ r.f0 ∧ r.f0 + r.f2 ≤ X + W ∧ Y ≤ r.f1 ∧ r.f1 + r.f3 ≤ Y + H)
def Apart (p q : S26) : Prop := p.f2 = 0 ∨ q.f2 = 0 ∨ p.f0 + p.f2 ≤ q.f0 ∨ p.f1 + p.f3 ≤ q.f1
theorem mkS_nrm (x y w h : Int) : NrmS (mkS (cl x y w h)) := mkR_nrm x y w h
theorem cutS_nrm (across : Bool) : ∀ (l : List Int) (X Y W H : Int), ∀ r ∈ cutS across l X Y W H, NrmS r
  | [], _, _, _, _, r, hr => by simp [cutS] at hr
  | n :: l, X, Y, W, H, r, hr => by
    cases across <;> simp only [cutS, List.mem_cons] at hr <;> rcases hr with rfl | hr <;> first | exact mkS_nrm _ _ _ _ | exact cutS_nrm _ l _ _ _ _ r hr
theorem mkS_in {x y w h : Int} (h1 : -5000 ≤ x) (h2 : -5000 ≤ y) (h3 : x + w ≤ 5000) (h4 : y + h ≤ 5000) (h5 : w ≤ 200) (h6 : h ≤ 200) (h7 : 0 ≤ w) (h8 : 0 ≤ h) : (mkS (cl x y w h)).f2 * (mkS (cl x y w h)).f3 = w * h ∧ ((mkS (cl x y w h)).f2 = 0 ∨ ((mkS (cl x y w h)).f0 = x ∧ (mkS (cl x y w h)).f1 = y ∧ (mkS (cl x y w h)).f2 = w ∧ (mkS (cl x y w h)).f3 = h)) := by
  rw [cl_in h1 h2 h3 h4 h5 h6]
  split
  · rename_i c
    refine ⟨?_, .inl rfl⟩
    rcases c with c | c
    · rw [show w = 0 from by omega, Int.zero_mul]; rfl
    · rw [show h = 0 from by omega, Int.mul_zero]; rfl
  · exact ⟨rfl, .inr ⟨rfl, rfl, rfl, rfl⟩⟩
theorem cutS_within (across : Bool) : ∀ (l : List Int) (X Y W H : Int), Lft X Y W H → ∀ r ∈ cutS across l X Y W H, Within X Y W H r
  | [], _, _, _, _, _, r, hr => by simp [cutS] at hr
  | n :: l, X, Y, W, H, hL, r, hr => by
    unfold Lft at hL
    cases across
    · simp only [cutS, List.mem_cons] at hr
      have hb : 0 ≤ max 0 (min n W) ∧ max 0 (min n W) ≤ W := by omega
      generalize max 0 (min n W) = t at *
      rcases hr with rfl | hr
      · have := (mkS_in (x := X) (y := Y) (w := t) (h := H) (by omega) (by omega) (by omega) (by omega) (by omega) (by omega) (by omega) (by omega)).2
        unfold Within
        omega
      · have := cutS_within false l (X + t) Y (W - t) H (by unfold Lft; omega) r hr
        unfold Within at *
        omega
    · simp only [cutS, List.mem_cons] at hr
      have hb : 0 ≤ max 0 (min n H) ∧ max 0 (min n H) ≤ H := by omega
      generalize max 0 (min n H) = t at *
      rcases hr with rfl | hr
      · have := (mkS_in (x := X) (y := Y) (w := W) (h := t) (by omega) (by omega) (by omega) (by omega) (by omega) (by omega) (by omega) (by omega)).2
        unfold Within
        omega
      · have := cutS_within true l X (Y + t) W (H - t) (by unfold Lft; omega) r hr
        unfold Within at *
        omega
theorem cutS_apart (across : Bool) : ∀ (l : List Int) (X Y W H : Int), Lft X Y W H → (cutS across l X Y W H).Pairwise Apart
  | [], _, _, _, _, _ => by simp [cutS]
  | n :: l, X, Y, W, H, hL => by
    unfold Lft at hL
    cases across
    · simp only [cutS, List.pairwise_cons]
      have hb : 0 ≤ max 0 (min n W) ∧ max 0 (min n W) ≤ W := by omega
      generalize max 0 (min n W) = t at *
      refine ⟨fun q hq => ?_, cutS_apart false l _ _ _ _ (by unfold Lft; omega)⟩
      have h1 := (mkS_in (x := X) (y := Y) (w := t) (h := H) (by omega) (by omega) (by omega) (by omega) (by omega) (by omega) (by omega) (by omega)).2
      have h2 := cutS_within false l (X + t) Y (W - t) H (by unfold Lft; omega) q hq
      unfold Within at h2
      unfold Apart
      omega
    · simp only [cutS, List.pairwise_cons]
      have hb : 0 ≤ max 0 (min n H) ∧ max 0 (min n H) ≤ H := by omega
      generalize max 0 (min n H) = t at *
      refine ⟨fun q hq => ?_, cutS_apart true l _ _ _ _ (by unfold Lft; omega)⟩
      have h1 := (mkS_in (x := X) (y := Y) (w := W) (h := t) (by omega) (by omega) (by omega) (by omega) (by omega) (by omega) (by omega) (by omega)).2
      have h2 := cutS_within true l X (Y + t) W (H - t) (by unfold Lft; omega) q hq
      unfold Within at h2
      unfold Apart
      omega
theorem inR_mkS {x y w h : Int} (h1 : -5000 ≤ x) (h2 : -5000 ≤ y) (h3 : x + w ≤ 5000) (h4 : y + h ≤ 5000) (h5 : w ≤ 200) (h6 : h ≤ 200) (a b : Int) : inR (mkS (cl x y w h)) a b = decide (x ≤ a ∧ a < x + w ∧ y ≤ b ∧ b < y + h) := inR_cl h1 h2 h3 h4 h5 h6 a b
theorem cutS_sum (a b : Int) (across : Bool) : ∀ (l : List Int) (X Y W H : Int), Lft X Y W H → ∃ s, 0 ≤ s ∧
    ((across = false ∧ s ≤ W ∧ ars (cutS across l X Y W H) = s * H ∧ cnt a b (cutS across l X Y W H) = if X ≤ a ∧ a < X + s ∧ Y ≤ b ∧ b < Y + H then 1 else 0) ∨
     (across = true ∧ s ≤ H ∧ ars (cutS across l X Y W H) = W * s ∧ cnt a b (cutS across l X Y W H) = if X ≤ a ∧ a < X + W ∧ Y ≤ b ∧ b < Y + s then 1 else 0))
  | [], X, Y, W, H, hL => by
    unfold Lft at hL
    refine ⟨0, by omega, ?_⟩
    cases across
    · exact .inl ⟨rfl, by omega, by simp [cutS, ars], by simp only [cutS, cnt]; rw [if_neg (by omega)]⟩
    · exact .inr ⟨rfl, by omega, by simp [cutS, ars], by simp only [cutS, cnt]; rw [if_neg (by omega)]⟩
  | n :: l, X, Y, W, H, hL => by
    unfold Lft at hL
    cases across
    · have hb : 0 ≤ max 0 (min n W) ∧ max 0 (min n W) ≤ W := by omega
      obtain ⟨t, ht⟩ : ∃ t, max 0 (min n W) = t := ⟨_, rfl⟩
      obtain ⟨s, hs, h⟩ := cutS_sum a b false l (X + t) Y (W - t) H (by unfold Lft; omega)
      simp only [true_and, Bool.false_eq_true, false_and, or_false] at h
      obtain ⟨g1, g2, g3⟩ := h
      refine ⟨t + s, by omega, .inl ⟨rfl, by omega, ?_, ?_⟩⟩
      · simp only [cutS, ars, ht]
        rw [(mkS_in (by omega) (by omega) (by omega) (by omega) (by omega) (by omega) (by omega) (by omega)).1, g2, Int.add_mul]
      · simp only [cutS, cnt, ht]
        rw [inR_mkS (by omega) (by omega) (by omega) (by omega) (by omega) (by omega), g3]
        simp only [decide_eq_true_eq]
        by_cases c1 : X ≤ a ∧ a < X + t ∧ Y ≤ b ∧ b < Y + H
        · rw [if_pos c1, if_neg (by omega), if_pos (by omega)]; rfl
        · rw [if_neg c1]
          by_cases c2 : X + t ≤ a ∧ a < X + t + s ∧ Y ≤ b ∧ b < Y + H
          · rw [if_pos c2, if_pos (by omega)]; rfl
          · rw [if_neg c2, if_neg (by omega)]; rfl
    · have hb : 0 ≤ max 0 (min n H) ∧ max 0 (min n H) ≤ H := by omega
      obtain ⟨t, ht⟩ : ∃ t, max 0 (min n H) = t := ⟨_, rfl⟩
      obtain ⟨s, hs, h⟩ := cutS_sum a b true l X (Y + t) W (H - t) (by unfold Lft; omega)
      simp only [true_and, Bool.true_eq_false, false_and, false_or] at h
      obtain ⟨g1, g2, g3⟩ := h
      refine ⟨t + s, by omega, .inr ⟨rfl, by omega, ?_, ?_⟩⟩
      · simp only [cutS, ars, ht]
        rw [(mkS_in (by omega) (by omega) (by omega) (by omega) (by omega) (by omega) (by omega) (by omega)).1, g2, Int.mul_add]
      · simp only [cutS, cnt, ht]
        rw [inR_mkS (by omega) (by omega) (by omega) (by omega) (by omega) (by omega), g3]
        simp only [decide_eq_true_eq]
        by_cases c1 : X ≤ a ∧ a < X + W ∧ Y ≤ b ∧ b < Y + t
        · rw [if_pos c1, if_neg (by omega), if_pos (by omega)]; rfl
        · rw [if_neg c1]
          by_cases c2 : X ≤ a ∧ a < X + W ∧ Y + t ≤ b ∧ b < Y + t + s
          · rw [if_pos c2, if_pos (by omega)]; rfl
          · rw [if_neg c2, if_neg (by omega)]; rfl
theorem cnt_append (a b : Int) : ∀ (l m : List S26), cnt a b (l ++ m) = cnt a b l + cnt a b m
  | [], m => by simp [cnt]
  | r :: l, m => by simp only [List.cons_append, cnt, cnt_append a b l m, Int.add_assoc]
theorem ars_append : ∀ (l m : List S26), ars (l ++ m) = ars l + ars m
  | [], m => by simp [ars]
  | r :: l, m => by simp only [List.cons_append, ars, ars_append l m, Int.add_assoc]
theorem cnt_bd (a b : Int) : ∀ l : List S26, 0 ≤ cnt a b l ∧ cnt a b l ≤ l.length
  | [] => by simp [cnt]
  | r :: l => by
    have := cnt_bd a b l
    simp only [cnt, List.length_cons]
    split <;> omega
theorem area_bd {r : S26} (n : NrmS r) : 0 ≤ r.f2 * r.f3 ∧ r.f2 * r.f3 ≤ 40000 := by
  unfold NrmS Nrm at n
  have h1 : 0 ≤ r.f2 := by omega
  have h2 : 0 ≤ r.f3 := by omega
  refine ⟨Int.mul_nonneg h1 h2, ?_⟩
  have := Int.mul_le_mul (show r.f2 ≤ 200 by omega) (show r.f3 ≤ 200 by omega) h2 (by omega)
  omega
theorem ars_bd : ∀ l : List S26, (∀ r ∈ l, NrmS r) → 0 ≤ ars l ∧ ars l ≤ 40000 * l.length
  | [], _ => by simp [ars]
  | r :: l, h => by
    have h1 := ars_bd l (fun q hq => h q (List.mem_cons_of_mem _ hq))
    have h2 := area_bd (h r List.mem_cons_self)
    simp only [ars, List.length_cons]
    omega
end Go.Proofs.Ytmokmkaipcojkaa.Rect
