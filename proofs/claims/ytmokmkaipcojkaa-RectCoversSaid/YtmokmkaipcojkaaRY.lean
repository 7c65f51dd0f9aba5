/- How many cells lie in some of many rectangles, as the program counts them. No condition. -/
import Derived.Test.YtmokmkaipcojkaaRX
import Derived.Test.YtmokmkaipcojkaaRE
import Derived.Test.YtmokmkaipcojkaaQx9
namespace Go.Proofs.Ytmokmkaipcojkaa.Rect
open Go.RowKit Go.Proofs.Ytmokmkaipcojkaa.Q Go.Proofs.YtmokmkaipcojkaaW.PrintWords Go.Proofs.YtmokmkaipcojkaaW.PrintLast Go.Proofs.YtmokmkaipcojkaaW.PrintMore

/-- From some number of rounds on. -/
def Evt {α : Type} (g : Nat → Option α) (r : α) : Prop := ∃ K, ∀ k, K ≤ k → g k = some r
theorem Evt.step {α : Type} {g f : Nat → Option α} {r : α} (h : ∀ k, g (k + 1) = f k) (hf : Evt f r) : Evt g r := by
  obtain ⟨K, hK⟩ := hf
  refine ⟨K + 1, fun k hk => ?_⟩
  obtain ⟨q, rfl⟩ : ∃ q, k = q + 1 := ⟨k - 1, by omega⟩
  rw [h]
  exact hK q (by omega)
theorem Evt.stepL {α : Type} {g f : Nat → Option α} {r : α} (B : Nat) (h : ∀ k, B ≤ k → g (k + 1) = f k) (hf : Evt f r) : Evt g r := by
  obtain ⟨K, hK⟩ := hf
  refine ⟨K + B + 1, fun k hk => ?_⟩
  obtain ⟨q, rfl⟩ : ∃ q, k = q + 1 := ⟨k - 1, by omega⟩
  rw [h q (by omega)]
  exact hK q (by omega)
theorem subAll_snoc : ∀ (L F : List S26) (l : S26), subAll F (L ++ [l]) = subOne (subAll F L) l
  | [], F, l => rfl
  | q :: L, F, l => by simp only [List.cons_append, subAll]; exact subAll_snoc L _ l
theorem arsR_bd : ∀ L : List S26, (∀ r ∈ L, NrmS r) → 0 ≤ arsR L ∧ arsR L ≤ 40000 * L.length
  | [], _ => by simp [arsR]
  | r :: L, h => by
    have h1 := arsR_bd L (fun q hq => h q (List.mem_cons_of_mem _ hq))
    have h2 := area_pos (h r List.mem_cons_self)
    simp only [arsR, List.length_cons]
    omega
section
variable {r : Int}
theorem cover_sum {left F xs : List S26} {ln i : Int} (hF : ∀ f ∈ F, NrmS f) (hl : F.length ≤ 40001) (hL : left.length ≤ 2000000) : ∀ (d j : Nat) (n : Int), F.length - j = d → j ≤ F.length → 0 ≤ n → n ≤ 1000000000 + 40000 * j →
    Evt (fun k => rect_Cover.l0 k (left ++ F) (n + arsR (F.drop j)) xs ln (wrap64 (i + 1))) r → Evt (fun k => rect_Cover.l3 k left n F xs ln i F (F.length : Int) (j : Int)) r := by
  intro d
  induction d with
  | zero =>
    intro j n hd hj h0 h1 h
    rw [List.drop_eq_nil_of_le (by omega)] at h
    simp only [arsR, Int.add_zero] at h
    refine Evt.step (fun k => ?_) h
    rw [rect_Cover.l3, if_neg (by omega), if_pos (by omega)]
  | succ d ih =>
    intro j n hd hj h0 h1 h
    have hlt : j < F.length := by omega
    have hf := hF F[j] (List.getElem_mem hlt)
    have ha := area_pos hf
    refine Evt.step (fun k => ?_) (ih (j + 1) (n + F[j].f2 * F[j].f3) (by omega) (by omega) (by omega) (by omega) ?_)
    · rw [rect_Cover.l3, if_pos (by omega), if_pos (by omega), if_pos (by omega), rd_T26_at F j hlt, area_eq (cl_of_nrm hf)]
      simp only [Option.bind_some]
      rw [wrap_id (n := F[j].f2 * F[j].f3) (by unfold I64; omega), wrap_id (n := n + _) (by unfold I64; omega), wrap_id (n := (j : Int) + 1) (by unfold I64; omega), show ((j : Int) + 1) = ((j + 1 : Nat) : Int) from by omega]
    · rw [List.drop_eq_getElem_cons hlt] at h
      simp only [arsR] at h
      rw [Int.add_assoc]
      exact h
theorem minusR_len (f l : S26) : (minusR f l).length ≤ 4 := minusS_length _ _ _ _ _ _ _ _
theorem cover_minus {left F xs : List S26} {n ln i lj jl : Int} {l : S26} (hl : NrmS l) (hF : ∀ f ∈ F, NrmS f) (hlen : F.length ≤ 40001) : ∀ (d j : Nat) (next : List S26), F.length - j = d → j ≤ F.length → next.length ≤ 4 * j →
    Evt (fun k => rect_Cover.l1 k left n (next ++ (F.drop j).flatMap (fun f => minusR f l)) xs ln i left lj (wrap64 (jl + 1))) r →
    Evt (fun k => rect_Cover.l2 k left n next xs ln i left lj jl F (F.length : Int) (j : Int) l.f0 l.f1 l.f2 l.f3) r := by
  intro d
  induction d with
  | zero =>
    intro j next hd hj hn h
    rw [List.drop_eq_nil_of_le (by omega)] at h
    simp only [List.flatMap_nil, List.append_nil] at h
    refine Evt.step (fun k => ?_) h
    rw [rect_Cover.l2, if_neg (by omega)]
  | succ d ih =>
    intro j next hd hj hn h
    have hlt : j < F.length := by omega
    have hf := hF F[j] (List.getElem_mem hlt)
    have hm := minusR_len F[j] l
    refine Evt.stepL 7 (fun k hk => ?_) (ih (j + 1) (next ++ minusR F[j] l) (by omega) (by omega) (by simp; omega) ?_)
    · rw [rect_Cover.l2, if_pos (by omega), if_pos (by omega), if_pos (by omega), rd_T26_at F j hlt, minus_eq (cl_of_nrm hf) (cl_of_nrm hl) hf hl hk]
      simp only [Option.bind_some]
      rw [wrap_id (n := (j : Int) + 1) (by unfold I64; omega), show ((j : Int) + 1) = ((j + 1 : Nat) : Int) from by omega]
      exact if_pos (by unfold minusR at hm; omega)
    · rw [List.drop_eq_getElem_cons hlt, List.flatMap_cons] at h
      rw [List.append_assoc]
      exact h
theorem cover_left {left xs : List S26} {n ln i : Int} {c : S26} (hc : NrmS c) (hL : ∀ l ∈ left, NrmS l) (hlen : left.length ≤ 2000000) : ∀ (d j : Nat), left.length - j = d → j ≤ left.length →
    Evt (fun k => rect_Cover.l3 k left n (subAll [c] left) xs ln i (subAll [c] left) ((subAll [c] left).length : Int) 0) r →
    Evt (fun k => rect_Cover.l1 k left n (subAll [c] (left.take j)) xs ln i left (left.length : Int) (j : Int)) r := by
  have h1 : ∀ q ∈ [c], NrmS q := by simpa using hc
  intro d
  induction d with
  | zero =>
    intro j hd hj h
    rw [List.take_of_length_le (by omega)]
    refine Evt.step (fun k => ?_) h
    rw [rect_Cover.l1, if_neg (by omega)]
  | succ d ih =>
    intro j hd hj h
    have hlt : j < left.length := by omega
    have hl := hL left[j] (List.getElem_mem hlt)
    have hfl := fresh_len hc (left.take j) (fun q hq => hL q (List.mem_of_mem_take hq))
    have hnext := ih (j + 1) (by omega) (by omega) h
    refine Evt.step (fun k => ?_) (cover_minus (left := left) (F := subAll [c] (left.take j)) (xs := xs) (n := n) (ln := ln) (i := i) (lj := (left.length : Int)) (jl := (j : Int)) hl (subAll_nrm _ _ h1) (by omega) (subAll [c] (left.take j)).length 0 [] (by omega) (by omega) (by simp) ?_)
    · rw [rect_Cover.l1, if_pos (by omega), if_pos (by omega), if_pos (by omega), rd_T26_at left j hlt]
      rfl
    · rw [List.nil_append, List.drop_zero, wrap_id (n := (j : Int) + 1) (by unfold I64; omega), show ((j : Int) + 1) = ((j + 1 : Nat) : Int) from by omega]
      rw [List.take_succ_eq_append_getElem hlt, subAll_snoc] at hnext
      exact hnext
end
def clR (q : S26) : S26 := mkR (cl q.f0 q.f1 q.f2 q.f3)
theorem clR_nrm (q : S26) : NrmS (clR q) := mkR_nrm _ _ _ _
/-- How many cells are added, rectangle by rectangle. -/
def covN : List S26 → List S26 → Int
  | [], _ => 0
  | c :: cs, left => arsR (subAll [c] left) + covN cs (left ++ subAll [c] left)
theorem cover_loop {xs : List S26} (hx : xs.length ≤ 24) : ∀ (d i : Nat) (left : List S26) (n : Int), xs.length - i = d → i ≤ xs.length → (∀ l ∈ left, NrmS l) → left.length ≤ 40001 * i → 0 ≤ n → n ≤ 40000 * i →
    Evt (fun k => rect_Cover.l0 k left n xs (xs.length : Int) (i : Int)) (n + covN ((xs.drop i).map clR) left) := by
  intro d
  induction d with
  | zero =>
    intro i left n hd hi _ _ _ _
    rw [List.drop_eq_nil_of_le (by omega)]
    refine ⟨1, fun k hk => ?_⟩
    obtain ⟨k, rfl⟩ : ∃ q, k = q + 1 := ⟨k - 1, by omega⟩
    simp only
    rw [rect_Cover.l0, if_neg (by omega)]
    simp [covN]
  | succ d ih =>
    intro i left n hd hi hL hlen h0 h1
    have hlt : i < xs.length := by omega
    have hc := clR_nrm xs[i]
    have hsn : ∀ q ∈ [clR xs[i]], NrmS q := by simpa using hc
    have hF := subAll_nrm left [clR xs[i]] hsn
    have hfl := fresh_len hc left hL
    have hfa := fresh_le hc hL
    have hca := area_pos hc
    have hnext := ih (i + 1) (left ++ subAll [clR xs[i]] left) (n + arsR (subAll [clR xs[i]] left)) (by omega) (by omega) (fun q hq => by
      rcases List.mem_append.1 hq with h | h
      · exact hL q h
      · exact hF q h) (by simp; omega) (by omega) (by omega)
    rw [List.drop_eq_getElem_cons hlt, List.map_cons, covN, ← Int.add_assoc]
    have h3 := cover_sum (r := n + arsR (subAll [clR xs[i]] left) + covN ((xs.drop (i + 1)).map clR) (left ++ subAll [clR xs[i]] left)) (left := left) (F := subAll [clR xs[i]] left) (xs := xs) (ln := (xs.length : Int)) (i := (i : Int)) hF (by omega) (by omega) (subAll [clR xs[i]] left).length 0 n (by omega) (by omega) h0 (by omega) (by
      rw [List.drop_zero, wrap_id (n := (i : Int) + 1) (by unfold I64; omega), show ((i : Int) + 1) = ((i + 1 : Nat) : Int) from by omega]
      exact hnext)
    have h4 := cover_left (left := left) (xs := xs) (n := n) (ln := (xs.length : Int)) (i := (i : Int)) hc hL (by omega) left.length 0 (by omega) (by omega) h3
    refine Evt.step (fun k => ?_) h4
    rw [rect_Cover.l0, if_pos (by omega), if_pos (by omega), if_pos (by omega), rd_T26_at xs i hlt, clean_eq]
    simp only [Option.bind_some, List.take_zero, subAll]
    rfl
theorem cover_evt (rs : List S26) : Evt (fun k => rect_Cover.f k rs) (covN ((rs.take 24).map clR) []) := by
  have hm : mn (rs.length : Int) 24 = ((min rs.length 24 : Nat) : Int) := by unfold mn; split <;> omega
  have ht : rs.take (min rs.length 24) = rs.take 24 := by
    rcases Nat.le_total rs.length 24 with c | c
    · rw [Nat.min_eq_left c, List.take_of_length_le (Nat.le_refl _), List.take_of_length_le c]
    · rw [Nat.min_eq_right c]
  have h := cover_loop (xs := rs.take 24) (by simp; omega) (rs.take 24).length 0 [] 0 (by omega) (by omega) (by simp) (by simp) (by omega) (by omega)
  rw [Int.zero_add, List.drop_zero] at h
  obtain ⟨K, hK⟩ := h
  refine ⟨K, fun k hk => ?_⟩
  have := hK k hk
  simp only
  unfold rect_Cover.f
  rw [hm, if_pos (by omega), if_pos (by omega), Int.toNat_natCast, ht]
  exact this
theorem covN_le : ∀ (cs left : List S26), (∀ c ∈ cs, NrmS c) → (∀ l ∈ left, NrmS l) → 0 ≤ covN cs left ∧ covN cs left ≤ arsR cs
  | [], _, _, _ => by simp [covN, arsR]
  | c :: cs, left, hc, hl => by
    have h1 := hc c List.mem_cons_self
    have h2 := fresh_le h1 hl
    have h3 := covN_le cs (left ++ subAll [c] left) (fun q hq => hc q (List.mem_cons_of_mem _ hq)) (fun q hq => by
      rcases List.mem_append.1 hq with h | h
      · exact hl q h
      · exact subAll_nrm left [c] (by simpa using h1) q h)
    simp only [covN, arsR]
    omega
/-- The same, said of the rectangles themselves. -/
def refN : List S26 → List S26 → Int
  | [], _ => 0
  | c :: cs, prev => cells c.f0 c.f1 c.f2 c.f3 (fun x y => if 0 < cnt x y prev then 0 else 1) + refN cs (prev ++ [c])
theorem covN_eq : ∀ (cs left prev : List S26), (∀ c ∈ cs, NrmS c) → (∀ l ∈ left, NrmS l) → (∀ x y, 0 < cnt x y left ↔ 0 < cnt x y prev) → covN cs left = refN cs prev
  | [], _, _, _, _, _ => rfl
  | c :: cs, left, prev, hc, hl, hq => by
    have h1 := hc c List.mem_cons_self
    have hs : ∀ q ∈ [c], NrmS q := by simpa using h1
    simp only [covN, refN]
    rw [fresh_area h1 hl, cells_ext (g' := fun x y => if 0 < cnt x y prev then 0 else 1) (fun x y _ _ _ _ => by
      by_cases t : 0 < cnt x y prev
      · rw [if_pos t, if_pos ((hq x y).2 t)]
      · rw [if_neg t, if_neg (fun h => t ((hq x y).1 h))])]
    refine congrArg (_ + ·) (covN_eq cs _ _ (fun q hq => hc q (List.mem_cons_of_mem _ hq)) (fun q hq => ?_) (fun x y => ?_))
    · rcases List.mem_append.1 hq with h | h
      · exact hl q h
      · exact subAll_nrm left [c] hs q h
    · rw [cnt_app, cnt_app, subAll_cnt x y left [c] hl hs]
      have a1 := cnt_nonneg x y left
      have a2 := cnt_nonneg x y prev
      have a3 := cnt_nonneg x y [c]
      have a4 := hq x y
      by_cases t : 0 < cnt x y left
      · rw [if_pos t]
        have := a4.1 t
        omega
      · rw [if_neg t]
        have : ¬ 0 < cnt x y prev := fun h => t (a4.2 h)
        omega
end Go.Proofs.Ytmokmkaipcojkaa.Rect
