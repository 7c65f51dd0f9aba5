import Derived.Test.YtaklapcbbdcdpaaDoorPK
namespace Go.Proofs.YtaklapcbbdcdpaaDoor.Pt
open Go Go.RowKit Go.Proofs Go.Proofs.YtaklapcbbdcdpaaDoor.X
set_option linter.unusedVariables false
set_option linter.unusedSimpArgs false
noncomputable section
/-! Rectangles, a pane's cells, a pane painted onto a screen -/
def clean (r : R4) : R4 :=
  let X := imax (-5000) (imin r.1 5000)
  let Y := imax (-5000) (imin r.2.1 5000)
  let W := imax 0 (imin r.2.2.1 (imin 200 (IntKind.i64.wrap (5000 - X))))
  let H := imax 0 (imin r.2.2.2 (imin 200 (IntKind.i64.wrap (5000 - Y))))
  if W = 0 ∨ H = 0 then (0, 0, 0, 0) else (X, Y, W, H)
theorem clean_ok (k : Nat) (a b c d : Int) : f17 k ((((a, b, c, d), ()), ()), ()) = some (((clean (a, b, c, d), ()), ()), ()) := by
  rw [e17_eq, e37_eq, e37_eq]
  simp only [Option.bind_some]
  rw [e37_eq, e37_eq]
  simp only [Option.bind_some, bq]
  unfold clean
  simp only
  generalize imax (-5000) (imin a 5000) = X
  generalize imax (-5000) (imin b 5000) = Y
  generalize imax 0 (imin c (imin 200 (IntKind.i64.wrap (5000 - X)))) = W
  generalize imax 0 (imin d (imin 200 (IntKind.i64.wrap (5000 - Y)))) = H
  by_cases h1 : W = 0
  · simp [h1]
  · by_cases h2 : H = 0
    · simp [h1, h2]
    · simp [h1, h2]
def Cl (r : R4) : Prop := r = (0, 0, 0, 0) ∨ (-5000 ≤ r.1 ∧ r.1 + r.2.2.1 ≤ 5000 ∧ 1 ≤ r.2.2.1 ∧ r.2.2.1 ≤ 200 ∧ -5000 ≤ r.2.1 ∧ r.2.1 + r.2.2.2 ≤ 5000 ∧ 1 ≤ r.2.2.2 ∧ r.2.2.2 ≤ 200)
theorem imax_le {a b c : Int} (h1 : a ≤ c) (h2 : b ≤ c) : imax a b ≤ c := by unfold imax; split <;> omega
theorem le_imax_l (a b : Int) : a ≤ imax a b := by unfold imax; split <;> omega
theorem le_imax_r (a b : Int) : b ≤ imax a b := by unfold imax; split <;> omega
theorem imin_le_l (a b : Int) : imin a b ≤ a := by unfold imin; split <;> omega
theorem imin_le_r (a b : Int) : imin a b ≤ b := by unfold imin; split <;> omega
theorem imax0 {x : Int} (h : x ≤ 0) : imax 0 x = 0 := by unfold imax; split <;> omega
theorem clean_cl (r : R4) : Cl (clean r) := by
  obtain ⟨a, b, c, d⟩ := r
  unfold clean
  simp only
  have hX1 := le_imax_l (-5000) (imin a 5000)
  have hX2 : imax (-5000) (imin a 5000) ≤ 5000 := imax_le (by decide) (imin_le_r _ _)
  have hY1 := le_imax_l (-5000) (imin b 5000)
  have hY2 : imax (-5000) (imin b 5000) ≤ 5000 := imax_le (by decide) (imin_le_r _ _)
  revert hX1 hX2 hY1 hY2
  generalize imax (-5000) (imin a 5000) = X
  generalize imax (-5000) (imin b 5000) = Y
  intro hX1 hX2 hY1 hY2
  rw [wrapId (n := 5000 - X) (by omega) (by omega), wrapId (n := 5000 - Y) (by omega) (by omega)]
  have hW1 := le_imax_l 0 (imin c (imin 200 (5000 - X)))
  have hW2 : imax 0 (imin c (imin 200 (5000 - X))) ≤ 200 := imax_le (by decide) (Int.le_trans (imin_le_r _ _) (imin_le_l _ _))
  have hW3 : imax 0 (imin c (imin 200 (5000 - X))) ≤ 5000 - X := imax_le (by omega) (Int.le_trans (imin_le_r _ _) (imin_le_r _ _))
  have hH1 := le_imax_l 0 (imin d (imin 200 (5000 - Y)))
  have hH2 : imax 0 (imin d (imin 200 (5000 - Y))) ≤ 200 := imax_le (by decide) (Int.le_trans (imin_le_r _ _) (imin_le_l _ _))
  have hH3 : imax 0 (imin d (imin 200 (5000 - Y))) ≤ 5000 - Y := imax_le (by omega) (Int.le_trans (imin_le_r _ _) (imin_le_r _ _))
  split
  · exact .inl rfl
  · rename_i h
    refine .inr ⟨hX1, ?_, ?_, hW2, hY1, ?_, ?_, hH2⟩ <;> simp only <;> omega
theorem clean_id {r : R4} (h : Cl r) : clean r = r := by
  rcases h with rfl | h
  · decide
  · obtain ⟨a, b, c, d⟩ := r
    simp only at h
    obtain ⟨h1, h2, h3, h4, h5, h6, h7, h8⟩ := h
    have e1 : imax (-5000) (imin a 5000) = a := by unfold imax imin; repeat' split <;> omega
    have e2 : imax (-5000) (imin b 5000) = b := by unfold imax imin; repeat' split <;> omega
    unfold clean
    simp only [e1, e2]
    rw [wrapId (n := 5000 - a) (by omega) (by omega), wrapId (n := 5000 - b) (by omega) (by omega)]
    have e3 : imax 0 (imin c (imin 200 (5000 - a))) = c := by unfold imax imin; repeat' split <;> omega
    have e4 : imax 0 (imin d (imin 200 (5000 - b))) = d := by unfold imax imin; repeat' split <;> omega
    rw [e3, e4, if_neg (by omega)]
/-- is a place within a rectangle that is as it may be? -/
def inR (r : R4) (x y : Int) : Bool := decide (r.1 ≤ x ∧ x < r.1 + r.2.2.1 ∧ r.2.1 ≤ y ∧ y < r.2.1 + r.2.2.2)
theorem cl_in64 {r : R4} (h : Cl r) : IntKind.i64.wrap (r.1 + r.2.2.1) = r.1 + r.2.2.1 ∧ IntKind.i64.wrap (r.2.1 + r.2.2.2) = r.2.1 + r.2.2.2 := by
  rcases h with rfl | h
  · exact ⟨by decide, by decide⟩
  · exact ⟨wrapId (by omega) (by omega), wrapId (by omega) (by omega)⟩
theorem has_ok (k : Nat) {r : R4} (h : Cl r) (x y : Int) : f18 k ((((r.1, r.2.1, r.2.2.1, r.2.2.2), ()), (x, ()), (y, ()), ()), ()) = V1 (inR r x y) := by
  rw [e18_eq, clean_ok]
  have e : clean (r.1, r.2.1, r.2.2.1, r.2.2.2) = r := clean_id h
  rw [e]
  obtain ⟨w1, w2⟩ := cl_in64 h
  simp only [Option.bind_some, w1, w2, inR, ge_iff_le]
  by_cases h1 : r.1 ≤ x <;> by_cases h2 : x < r.1 + r.2.2.1 <;> by_cases h3 : r.2.1 ≤ y <;> by_cases h4 : y < r.2.1 + r.2.2.2 <;> simp [h1, h2, h3, h4]
/-- the part of a rectangle that lies on the screen -/
def partR (r : R4) (W H : Int) : R4 := clean (imax r.1 0, imax r.2.1 0, imin (r.1 + r.2.2.1) W - imax r.1 0, imin (r.2.1 + r.2.2.2) H - imax r.2.1 0)
theorem meet_ok (k : Nat) {r : R4} (h : Cl r) (W H : Int) (hW : 1 ≤ W ∧ W ≤ 200) (hH : 1 ≤ H ∧ H ≤ 200) : f48 k ((((r.1, r.2.1, r.2.2.1, r.2.2.2), ()), ((0, 0, W, H), ()), ()), ()) = some (((partR r W H, ()), ()), ()) := by
  have hs : Cl (0, 0, W, H) := .inr ⟨by show (-5000 : Int) ≤ 0; decide, by simp only; omega, hW.1, hW.2, by show (-5000 : Int) ≤ 0; decide, by simp only; omega, hH.1, hH.2⟩
  rw [e48_eq, clean_ok, clean_ok]
  have e : clean (r.1, r.2.1, r.2.2.1, r.2.2.2) = r := clean_id h
  rw [e, clean_id hs]
  obtain ⟨w1, w2⟩ := cl_in64 h
  have w3 : IntKind.i64.wrap (0 + W) = W := by rw [wrapId (by omega) (by omega)]; omega
  have w4 : IntKind.i64.wrap (0 + H) = H := by rw [wrapId (by omega) (by omega)]; omega
  simp only [Option.bind_some, w1, w2, w3, w4]
  have b1 : -5000 ≤ r.1 ∧ r.1 + r.2.2.1 ≤ 5000 ∧ 0 ≤ r.2.2.1 ∧ -5000 ≤ r.2.1 ∧ r.2.1 + r.2.2.2 ≤ 5000 ∧ 0 ≤ r.2.2.2 := by
    rcases h with rfl | h
    · decide
    · omega
  have c1 : 0 ≤ imax r.1 0 ∧ imax r.1 0 ≤ 5000 := ⟨le_imax_r _ _, imax_le (by omega) (by decide)⟩
  have c2 : 0 ≤ imax r.2.1 0 ∧ imax r.2.1 0 ≤ 5000 := ⟨le_imax_r _ _, imax_le (by omega) (by decide)⟩
  have c3 : -5000 ≤ imin (r.1 + r.2.2.1) W ∧ imin (r.1 + r.2.2.1) W ≤ 200 := by unfold imin; split <;> omega
  have c4 : -5000 ≤ imin (r.2.1 + r.2.2.2) H ∧ imin (r.2.1 + r.2.2.2) H ≤ 200 := by unfold imin; split <;> omega
  rw [e63_eq, wrapId (by omega) (by omega), wrapId (by omega) (by omega), clean_ok]
  rfl
theorem part_is {r : R4} (h : Cl r) (W H : Int) (hW : 1 ≤ W ∧ W ≤ 200) (hH : 1 ≤ H ∧ H ≤ 200) :
    0 ≤ (partR r W H).1 ∧ 0 ≤ (partR r W H).2.1 ∧ 0 ≤ (partR r W H).2.2.1 ∧ 0 ≤ (partR r W H).2.2.2 ∧ (partR r W H).1 + (partR r W H).2.2.1 ≤ W ∧ (partR r W H).2.1 + (partR r W H).2.2.2 ≤ H ∧
      ∀ x y : Int, 0 ≤ x → x < W → 0 ≤ y → y < H → inR (partR r W H) x y = inR r x y := by
  have b1 : -5000 ≤ r.1 ∧ r.1 + r.2.2.1 ≤ 5000 ∧ 0 ≤ r.2.2.1 ∧ r.2.2.1 ≤ 200 ∧ -5000 ≤ r.2.1 ∧ r.2.1 + r.2.2.2 ≤ 5000 ∧ 0 ≤ r.2.2.2 ∧ r.2.2.2 ≤ 200 := by
    rcases h with rfl | h
    · decide
    · omega
  unfold partR
  have m1 : imax r.1 0 = if r.1 ≤ 0 then 0 else r.1 := by unfold imax; split <;> split <;> omega
  have m2 : imax r.2.1 0 = if r.2.1 ≤ 0 then 0 else r.2.1 := by unfold imax; split <;> split <;> omega
  have m3 : imin (r.1 + r.2.2.1) W = if W < r.1 + r.2.2.1 then W else r.1 + r.2.2.1 := rfl
  have m4 : imin (r.2.1 + r.2.2.2) H = if H < r.2.1 + r.2.2.2 then H else r.2.1 + r.2.2.2 := rfl
  generalize imax r.1 0 = px at *
  generalize imax r.2.1 0 = py at *
  generalize imin (r.1 + r.2.2.1) W = qx at *
  generalize imin (r.2.1 + r.2.2.2) H = qy at *
  have hx : (0 ≤ px ∧ r.1 ≤ px ∧ (px = 0 ∨ px = r.1)) ∧ (qx ≤ W ∧ qx ≤ r.1 + r.2.2.1 ∧ (qx = W ∨ qx = r.1 + r.2.2.1)) := by
    constructor
    · rw [m1]; split <;> omega
    · rw [m3]; split <;> omega
  have hy : (0 ≤ py ∧ r.2.1 ≤ py ∧ (py = 0 ∨ py = r.2.1)) ∧ (qy ≤ H ∧ qy ≤ r.2.1 + r.2.2.2 ∧ (qy = H ∨ qy = r.2.1 + r.2.2.2)) := by
    constructor
    · rw [m2]; split <;> omega
    · rw [m4]; split <;> omega
  clear m1 m2 m3 m4
  by_cases hp : 1 ≤ qx - px ∧ 1 ≤ qy - py
  · have hc : Cl (px, py, qx - px, qy - py) := .inr ⟨by simp only; omega, by simp only; omega, hp.1, by simp only; omega, by simp only; omega, by simp only; omega, hp.2, by simp only; omega⟩
    rw [clean_id hc]
    refine ⟨by simp only; omega, by simp only; omega, by simp only; omega, by simp only; omega, by simp only; omega, by simp only; omega, fun x y h1 h2 h3 h4 => ?_⟩
    unfold inR
    simp only
    congr 1
    apply propext
    constructor <;> intro q <;> omega
  · have hz : clean (px, py, qx - px, qy - py) = (0, 0, 0, 0) := by
      unfold clean
      simp only
      rw [if_pos]
      have : qx - px ≤ 0 ∨ qy - py ≤ 0 := by omega
      rcases this with q | q
      · refine .inl ?_
        have : imin (qx - px) (imin 200 (IntKind.i64.wrap (5000 - imax (-5000) (imin px 5000)))) ≤ 0 := Int.le_trans (imin_le_l _ _) q
        exact imax0 this
      · refine .inr ?_
        have : imin (qy - py) (imin 200 (IntKind.i64.wrap (5000 - imax (-5000) (imin py 5000)))) ≤ 0 := Int.le_trans (imin_le_l _ _) q
        exact imax0 this
    rw [hz]
    refine ⟨by decide, by decide, by decide, by decide, by simp only; omega, by simp only; omega, fun x y h1 h2 h3 h4 => ?_⟩
    unfold inR
    simp only
    congr 1
    apply propext
    constructor <;> intro q <;> omega
end
end Go.Proofs.YtaklapcbbdcdpaaDoor.Pt
