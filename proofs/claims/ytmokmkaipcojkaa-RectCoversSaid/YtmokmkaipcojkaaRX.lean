/- How many cells lie in rectangles that share none: plain words. No condition. -/
import Derived.Test.YtmokmkaipcojkaaRN
namespace Go.Proofs.Ytmokmkaipcojkaa.Rect
open Go.RowKit Go.Proofs.Ytmokmkaipcojkaa.Q Go.Proofs.YtmokmkaipcojkaaW.PrintWords Go.Proofs.YtmokmkaipcojkaaW.PrintLast Go.Proofs.YtmokmkaipcojkaaW.PrintMore

def minusR (f l : S26) : List S26 := minusS f.f0 f.f1 f.f2 f.f3 l.f0 l.f1 l.f2 l.f3
def subOne (fresh : List S26) (l : S26) : List S26 := fresh.flatMap (fun f => minusR f l)
def subAll : List S26 → List S26 → List S26
  | fresh, [] => fresh
  | fresh, l :: ls => subAll (subOne fresh l) ls
theorem cnt_app (a b : Int) : ∀ (l m : List S26), cnt a b (l ++ m) = cnt a b l + cnt a b m
  | [], m => by simp [cnt]
  | r :: l, m => by simp only [List.cons_append, cnt, cnt_app a b l m, Int.add_assoc]
theorem subOne_nrm {fresh : List S26} (l : S26) : ∀ r ∈ subOne fresh l, NrmS r := by
  intro r hr
  unfold subOne at hr
  obtain ⟨f, _, h⟩ := List.mem_flatMap.1 hr
  exact minusS_nrm _ _ _ _ _ _ _ _ r h
theorem subOne_cnt (a b : Int) {l : S26} (hl : NrmS l) : ∀ (fresh : List S26), (∀ r ∈ fresh, NrmS r) → cnt a b (subOne fresh l) = if inR l a b = true then 0 else cnt a b fresh
  | [], _ => by simp [subOne, cnt]
  | f :: fresh, h => by
    have ih := subOne_cnt a b hl fresh (fun r hr => h r (List.mem_cons_of_mem _ hr))
    have hf := h f List.mem_cons_self
    unfold subOne at ih ⊢
    rw [List.flatMap_cons, cnt_app, ih]
    unfold minusR
    rw [minusS_cnt hf hl]
    simp only [cnt]
    show (if inR f a b = true ∧ inR l a b = false then (1 : Int) else 0) + _ = _
    cases inR f a b <;> cases inR l a b <;> simp
theorem subAll_nrm : ∀ (L fresh : List S26), (∀ r ∈ fresh, NrmS r) → ∀ r ∈ subAll fresh L, NrmS r
  | [], _, h => h
  | l :: L, fresh, _ => subAll_nrm L (subOne fresh l) (subOne_nrm l)
theorem subAll_cnt (a b : Int) : ∀ (L fresh : List S26), (∀ r ∈ L, NrmS r) → (∀ r ∈ fresh, NrmS r) → cnt a b (subAll fresh L) = if 0 < cnt a b L then 0 else cnt a b fresh
  | [], fresh, _, _ => by simp [subAll, cnt]
  | l :: L, fresh, hL, hf => by
    have hl := hL l List.mem_cons_self
    rw [subAll, subAll_cnt a b L (subOne fresh l) (fun r hr => hL r (List.mem_cons_of_mem _ hr)) (subOne_nrm l), subOne_cnt a b hl fresh hf]
    have h0 : 0 ≤ cnt a b L := by
      clear hL
      induction L with
      | nil => simp [cnt]
      | cons r L ih => simp only [cnt]; split <;> omega
    have e : cnt a b (l :: L) = (if inR l a b = true then 1 else 0) + cnt a b L := rfl
    by_cases t : inR l a b = true
    · rw [if_pos t] at e ⊢
      rw [e, if_pos (show 0 < 1 + cnt a b L by omega)]
      split <;> rfl
    · rw [if_neg t] at e ⊢
      rw [e, Int.zero_add]
theorem cnt_nonneg (a b : Int) : ∀ L : List S26, 0 ≤ cnt a b L
  | [] => by simp [cnt]
  | r :: L => by
    have := cnt_nonneg a b L
    simp only [cnt]
    split <;> omega
/-- A sum over a range. -/
def sumR (lo : Int) (g : Int → Int) : Nat → Int
  | 0 => 0
  | n + 1 => sumR lo g n + g (lo + n)
theorem sumR_ext {lo : Int} {g g' : Int → Int} : ∀ {n : Nat}, (∀ x, lo ≤ x → x < lo + n → g x = g' x) → sumR lo g n = sumR lo g' n
  | 0, _ => rfl
  | n + 1, h => by simp only [sumR]; rw [sumR_ext (fun x h1 h2 => h x h1 (by omega)), h _ (by omega) (by omega)]
theorem sumR_zero (lo : Int) : ∀ n : Nat, sumR lo (fun _ => 0) n = 0
  | 0 => rfl
  | n + 1 => by simp only [sumR]; rw [sumR_zero lo n]; rfl
theorem sumR_add (lo : Int) (g g' : Int → Int) : ∀ n : Nat, sumR lo (fun x => g x + g' x) n = sumR lo g n + sumR lo g' n
  | 0 => rfl
  | n + 1 => by simp only [sumR]; rw [sumR_add lo g g' n]; omega
theorem sumR_le {lo : Int} {g g' : Int → Int} : ∀ {n : Nat}, (∀ x, lo ≤ x → x < lo + n → g x ≤ g' x) → sumR lo g n ≤ sumR lo g' n
  | 0, _ => Int.le_refl _
  | n + 1, h => by
    have h1 := sumR_le (lo := lo) (n := n) (fun x h1 h2 => h x h1 (by omega))
    have h2 := h (lo + n) (by omega) (by omega)
    simp only [sumR]
    omega
/-- How many of a range lie in another one, each weighed by v. -/
theorem sumR_range (lo p q v : Int) (hq : 0 ≤ q) (hp : lo ≤ p) : ∀ n : Nat, sumR lo (fun x => if p ≤ x ∧ x < p + q then v else 0) n = (max 0 (min q (lo + n - p))) * v
  | 0 => by
    have : max 0 (min q (lo + ((0 : Nat) : Int) - p)) = 0 := by omega
    rw [this]
    simp [sumR]
  | n + 1 => by
    simp only [sumR]
    rw [sumR_range lo p q v hq hp n]
    by_cases c : p ≤ lo + n ∧ lo + n < p + q
    · rw [if_pos c]
      have : max 0 (min q (lo + ((n + 1 : Nat) : Int) - p)) = max 0 (min q (lo + n - p)) + 1 := by omega
      rw [this, Int.add_mul, Int.one_mul]
    · rw [if_neg c]
      have : max 0 (min q (lo + ((n + 1 : Nat) : Int) - p)) = max 0 (min q (lo + n - p)) := by omega
      rw [this, Int.add_zero]
/-- A sum over a rectangle's cells, row by row. -/
def cells (X Y W H : Int) (g : Int → Int → Int) : Int := sumR Y (fun y => sumR X (fun x => g x y) W.toNat) H.toNat
theorem cells_ext {X Y W H : Int} {g g' : Int → Int → Int} (h : ∀ x y, X ≤ x → x < X + W → Y ≤ y → y < Y + H → g x y = g' x y) : cells X Y W H g = cells X Y W H g' :=
  sumR_ext (fun y h1 h2 => sumR_ext (fun x h3 h4 => h x y h3 (by omega) h1 (by omega)))
theorem cells_le {X Y W H : Int} {g g' : Int → Int → Int} (h : ∀ x y, X ≤ x → x < X + W → Y ≤ y → y < Y + H → g x y ≤ g' x y) : cells X Y W H g ≤ cells X Y W H g' :=
  sumR_le (fun y h1 h2 => sumR_le (fun x h3 h4 => h x y h3 (by omega) h1 (by omega)))
theorem cells_add (X Y W H : Int) (g g' : Int → Int → Int) : cells X Y W H (fun x y => g x y + g' x y) = cells X Y W H g + cells X Y W H g' := by
  unfold cells
  rw [← sumR_add]
  exact sumR_ext (fun y _ _ => sumR_add _ _ _ _)
/-- A rectangle within another one: its area is how many cells of the other it has. -/
theorem cells_rect {X Y W H p q s t : Int} (h1 : X ≤ p) (h2 : p + s ≤ X + W) (h3 : Y ≤ q) (h4 : q + t ≤ Y + H) (h5 : 0 ≤ s) (h6 : 0 ≤ t) : cells X Y W H (fun x y => if inB p q s t x y = true then 1 else 0) = s * t := by
  unfold cells
  have e : ∀ y, sumR X (fun x => if inB p q s t x y = true then (1 : Int) else 0) W.toNat = if q ≤ y ∧ y < q + t then s else 0 := by
    intro y
    by_cases c : q ≤ y ∧ y < q + t
    · rw [if_pos c, sumR_ext (g' := fun x => if p ≤ x ∧ x < p + s then 1 else 0)]
      · rw [sumR_range X p s 1 h5 h1, Int.mul_one]
        omega
      · intro x _ _
        unfold inB
        simp only [decide_eq_true_eq]
        by_cases d : p ≤ x ∧ x < p + s
        · rw [if_pos (by omega), if_pos d]
        · rw [if_neg (by omega), if_neg d]
    · rw [if_neg c, sumR_ext (g' := fun _ => 0)]
      · exact sumR_zero _ _
      · intro x _ _
        unfold inB
        simp only [decide_eq_true_eq]
        rw [if_neg (by omega)]
  rw [sumR_ext (fun y _ _ => e y), sumR_range Y q t s h6 h3]
  have : max 0 (min t (Y + H.toNat - q)) = t := by omega
  rw [this, Int.mul_comm]
def arsR : List S26 → Int
  | [] => 0
  | r :: l => r.f2 * r.f3 + arsR l
/-- Rectangles that lie within one: their areas together are how many of its cells they have. -/
theorem cells_list {X Y W H : Int} : ∀ L : List S26, (∀ r ∈ L, NrmS r ∧ (r.f2 = 0 ∨ (X ≤ r.f0 ∧ r.f0 + r.f2 ≤ X + W ∧ Y ≤ r.f1 ∧ r.f1 + r.f3 ≤ Y + H))) → cells X Y W H (fun x y => cnt x y L) = arsR L
  | [], _ => by
    unfold cells
    simp only [cnt, arsR]
    rw [sumR_ext (g' := fun _ => 0) (fun y _ _ => sumR_zero _ _), sumR_zero]
  | r :: L, h => by
    have ih := cells_list L (fun q hq => h q (List.mem_cons_of_mem _ hq))
    obtain ⟨hn, hw⟩ := h r List.mem_cons_self
    simp only [cnt, arsR]
    rw [cells_add, ih]
    refine congrArg (· + arsR L) ?_
    rcases hw with hz | hw
    · unfold NrmS Nrm at hn
      have e : ∀ x y, inR r x y = false := by
        intro x y
        unfold inR inB
        simp only [decide_eq_false_iff_not]
        omega
      rw [hz, Int.zero_mul, cells_ext (g' := fun _ _ => 0) (fun x y _ _ _ _ => by rw [e]; rfl)]
      unfold cells
      rw [sumR_ext (g' := fun _ => 0) (fun y _ _ => sumR_zero _ _), sumR_zero]
    · unfold NrmS Nrm at hn
      exact cells_rect hw.1 hw.2.1 hw.2.2.1 hw.2.2.2 (by omega) (by omega)
/-- What has cells of a rectangle alone lies within it. -/
theorem within_of_cells {X Y W H : Int} {r : S26} (hn : NrmS r) (h : ∀ a b, inR r a b = true → X ≤ a ∧ a < X + W ∧ Y ≤ b ∧ b < Y + H) : r.f2 = 0 ∨ (X ≤ r.f0 ∧ r.f0 + r.f2 ≤ X + W ∧ Y ≤ r.f1 ∧ r.f1 + r.f3 ≤ Y + H) := by
  unfold NrmS Nrm at hn
  by_cases c : r.f2 = 0
  · exact .inl c
  · have h1 := h r.f0 r.f1 (by unfold inR inB; simp only [decide_eq_true_eq]; omega)
    have h2 := h (r.f0 + r.f2 - 1) (r.f1 + r.f3 - 1) (by unfold inR inB; simp only [decide_eq_true_eq]; omega)
    omega
theorem mem_cnt {a b : Int} {r : S26} : ∀ {L : List S26}, r ∈ L → inR r a b = true → 0 < cnt a b L
  | q :: L, hm, h => by
    rcases List.mem_cons.1 hm with rfl | hm
    · have := cnt_nonneg a b L
      simp only [cnt, h, if_true]
      omega
    · have := mem_cnt hm h
      have := cnt_nonneg a b L
      simp only [cnt]
      split <;> omega
/-- What is fresh of a rectangle: its area is how many of its cells no earlier one has. -/
theorem fresh_area {c : S26} {L : List S26} (hc : NrmS c) (hL : ∀ r ∈ L, NrmS r) : arsR (subAll [c] L) = cells c.f0 c.f1 c.f2 c.f3 (fun x y => if 0 < cnt x y L then 0 else 1) := by
  have h1 : ∀ r ∈ [c], NrmS r := by simpa using hc
  have hcn : ∀ x y, cnt x y [c] = if inR c x y = true then 1 else 0 := by intro x y; simp [cnt]
  have hin : ∀ x y, inR c x y = true ↔ c.f0 ≤ x ∧ x < c.f0 + c.f2 ∧ c.f1 ≤ y ∧ y < c.f1 + c.f3 := by intro x y; unfold inR inB; simp
  rw [← cells_list (subAll [c] L)]
  · refine cells_ext (fun x y h3 h4 h5 h6 => ?_)
    rw [subAll_cnt x y L [c] hL h1, hcn, if_pos ((hin x y).2 ⟨h3, h4, h5, h6⟩)]
  · intro r hr
    have hn := subAll_nrm L [c] h1 r hr
    refine ⟨hn, within_of_cells hn (fun a b h => ?_)⟩
    have hp := mem_cnt hr h
    rw [subAll_cnt a b L [c] hL h1, hcn] at hp
    rw [← hin]
    split at hp
    · omega
    · split at hp
      · assumption
      · omega
theorem area_pos {r : S26} (h : NrmS r) : 0 ≤ r.f2 * r.f3 ∧ r.f2 * r.f3 ≤ 40000 := by
  unfold NrmS Nrm at h
  refine ⟨Int.mul_nonneg (by omega) (by omega), ?_⟩
  have := Int.mul_le_mul (show r.f2 ≤ 200 by omega) (show r.f3 ≤ 200 by omega) (show 0 ≤ r.f3 by omega) (by omega)
  omega
theorem fresh_le {c : S26} {L : List S26} (hc : NrmS c) (hL : ∀ r ∈ L, NrmS r) : 0 ≤ arsR (subAll [c] L) ∧ arsR (subAll [c] L) ≤ c.f2 * c.f3 := by
  rw [fresh_area hc hL]
  have hc' := hc
  unfold NrmS Nrm at hc'
  have e := cells_rect (X := c.f0) (Y := c.f1) (W := c.f2) (H := c.f3) (p := c.f0) (q := c.f1) (s := c.f2) (t := c.f3) (by omega) (by omega) (by omega) (by omega) (by omega) (by omega)
  rw [← e]
  constructor
  · have := cells_le (X := c.f0) (Y := c.f1) (W := c.f2) (H := c.f3) (g := fun _ _ => 0) (g' := fun x y => if 0 < cnt x y L then 0 else 1) (fun x y _ _ _ _ => by (try simp only); split <;> omega)
    refine Int.le_trans (Int.le_of_eq ?_) this
    unfold cells
    rw [sumR_ext (g' := fun _ => 0) (fun y _ _ => sumR_zero _ _), sumR_zero]
  · refine cells_le (fun x y h1 h2 h3 h4 => ?_)
    rw [if_pos (show inB c.f0 c.f1 c.f2 c.f3 x y = true by unfold inB; simp only [decide_eq_true_eq]; omega)]
    split <;> omega
theorem nonempty_len : ∀ L : List S26, (∀ r ∈ L, NrmS r ∧ nz r = true) → (L.length : Int) ≤ arsR L
  | [], _ => by simp [arsR]
  | r :: L, h => by
    have ih := nonempty_len L (fun q hq => h q (List.mem_cons_of_mem _ hq))
    obtain ⟨hn, hz⟩ := h r List.mem_cons_self
    unfold nz at hz
    simp at hz
    unfold NrmS Nrm at hn
    have := Int.mul_le_mul (show 1 ≤ r.f2 by omega) (show 1 ≤ r.f3 by omega) (by omega) (by omega)
    simp only [arsR, List.length_cons]
    omega
theorem subOne_nz {fresh : List S26} {l : S26} : ∀ r ∈ subOne fresh l, nz r = true := by
  intro r hr
  unfold subOne at hr
  obtain ⟨f, _, h⟩ := List.mem_flatMap.1 hr
  unfold minusR minusS at h
  exact (List.mem_filter.1 h).2
theorem subAll_nz : ∀ (L fresh : List S26), (∀ r ∈ fresh, nz r = true) → ∀ r ∈ subAll fresh L, nz r = true
  | [], _, h => h
  | l :: L, fresh, _ => subAll_nz L (subOne fresh l) subOne_nz
/-- There are never many fresh ones. -/
theorem fresh_len {c : S26} (hc : NrmS c) : ∀ L : List S26, (∀ r ∈ L, NrmS r) → ((subAll [c] L).length : Int) ≤ 40001
  | [], _ => by simp [subAll]
  | l :: L, hL => by
    have h1 : ∀ r ∈ [c], NrmS r := by simpa using hc
    have h2 := subAll_nrm (l :: L) [c] h1
    have h3 : ∀ r ∈ subAll [c] (l :: L), nz r = true := by
      rw [subAll]
      exact subAll_nz L _ subOne_nz
    have h4 := nonempty_len (subAll [c] (l :: L)) (fun r hr => ⟨h2 r hr, h3 r hr⟩)
    have h5 := fresh_le hc hL
    have h6 := area_pos hc
    omega
end Go.Proofs.Ytmokmkaipcojkaa.Rect
