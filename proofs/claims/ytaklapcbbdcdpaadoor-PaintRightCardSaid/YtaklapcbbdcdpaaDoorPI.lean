import Derived.Test.YtaklapcbbdcdpaaDoorPH
namespace Go.Proofs.YtaklapcbbdcdpaaDoor.Pt
open Go Go.RowKit Go.Proofs Go.Proofs.YtaklapcbbdcdpaaDoor.X
set_option linter.unusedVariables false
noncomputable section
/-! PaintRight, for the values that its row hands in -/
theorem i32_of {n : Int} (h : (Lit.int .i32 n).wf = true) : I32 n := by
  simp only [Lit.wf, Bool.and_eq_true, decide_eq_true_eq] at h
  have h1 : -2147483648 ≤ n := h.1
  have h2 : n ≤ 2147483647 := h.2
  exact ⟨h1, by omega⟩
theorem i64_of {n : Int} (h : (Lit.int .i64 n).wf = true) : I64 n := by
  simp only [Lit.wf, Bool.and_eq_true, decide_eq_true_eq] at h
  have h1 : -9223372036854775808 ≤ n := h.1
  have h2 : n ≤ 9223372036854775807 := h.2
  exact ⟨h1, by omega⟩
abbrev OkCell (c : Cel) : Prop := (Lit.int .i32 c.1).wf = true ∧ (Lit.int .i64 c.2.1).wf = true ∧ (Lit.int .i64 c.2.2.1).wf = true ∧ (Lit.int .i64 c.2.2.2).wf = true
abbrev OkRow (r : List Cel) : Prop := r.length ≤ maxLen ∧ r.length * Tryd.prog.bytesOf 43 ≤ reachBytes ∧ ∀ c ∈ r, OkCell c
abbrev OkRows (l : List (List Cel)) : Prop := l.length ≤ maxLen ∧ l.length * Tryd.prog.bytesOf 39 ≤ reachBytes ∧ ∀ r ∈ l, OkRow r
abbrev OkScr (x : Scr) : Prop := (Lit.int .i64 x.1).wf = true ∧ (Lit.int .i64 x.2.1).wf = true ∧ OkRows x.2.2.1 ∧ (Lit.int .i64 x.2.2.2.1).wf = true ∧ (Lit.int .i64 x.2.2.2.2.1).wf = true ∧ True
theorem b43 : Tryd.prog.bytesOf 43 = 32 := by kernel_rfl
theorem b39 : Tryd.prog.bytesOf 39 = 24 := by kernel_rfl
theorem ok_i64 {l : List (List Cel)} (h : OkRows l) : (∀ r ∈ l, I64A r) ∧ l.length ≤ 140737488355328 ∧ ∀ r ∈ l, r.length ≤ 140737488355328 := by
  obtain ⟨_, h2, h3⟩ := h
  rw [b39, show reachBytes = 140737488351232 from rfl] at h2
  refine ⟨fun r hr c hc => ?_, by omega, fun r hr => ?_⟩
  · obtain ⟨k1, k2, k3, k4⟩ := (h3 r hr).2.2 c hc
    exact ⟨i32_of k1, i64_of k4⟩
  · have := (h3 r hr).2.1
    rw [b43, show reachBytes = 140737488351232 from rfl] at this
    omega
theorem len_le_sum {l : List (List Cel)} {r : List Cel} (h : r ∈ l) : r.length ≤ (l.map List.length).sum := by
  induction l with
  | nil => cases h
  | cons x l ih =>
    rw [List.map_cons, List.sum_cons]
    rcases List.mem_cons.1 h with rfl | h
    · omega
    · have := ih h; omega
theorem law4 (k : Nat) : ∀ e ∈ ([Fm.entry Tryd.prog F7 7 (f7 24), Fm.entry Tryd.prog F13 13 (f13 k), Fm.entry Tryd.prog F12 12 (f12 k), Fm.entry Tryd.prog F15 15 (f15 k), Fm.entry Tryd.prog F16 16 (f16 k), Fm.entry Tryd.prog F11 11 (f11 k), Fm.entry Tryd.prog F114 14 (f114 k)] : List (Entry Tryd.prog)), EGood Tryd.prog e := (goods_cons (g7 24) (goods_cons (g13 k) (goods_cons (g12 k) (goods_cons (g15 k) (goods_cons (g16 k) (goods_cons (g11 k) (goods_cons (g114 k) goods_nil)))))))
theorem paintRight (x y : Scr) (a b : Int) (hx : OkScr x) (hy : OkScr y) (_ : (Lit.int .i64 a).wf = true) (_ : (Lit.int .i64 b).wf = true) : f4 (x.2.2.1.length + (x.2.2.1.map List.length).sum + 300) (((x, ()), (y, ()), (a, ()), (b, ()), ()), ()) = some (((true, ()), ()), ()) := by
  obtain ⟨x1, x2, x3, x4, x5, x6⟩ := x
  obtain ⟨y1, y2, y3, y4, y5, y6⟩ := y
  obtain ⟨k1, k2, k3⟩ := ok_i64 hx.2.2.1
  obtain ⟨j1, _, _⟩ := ok_i64 hy.2.2.1
  have e : (x1, x2, x3, x4, x5, x6).2.2.1 = x3 := rfl
  simp only [e] at k1 k2 k3 ⊢
  exact law_right _ x1 x2 x3 x4 x5 x6 y1 y2 y3 y4 y5 y6 a b k1 j1 k2 (fun r hr => ⟨k3 r hr, by have := len_le_sum hr; omega⟩) (by omega) (by omega)
end
end Go.Proofs.YtaklapcbbdcdpaaDoor.Pt
