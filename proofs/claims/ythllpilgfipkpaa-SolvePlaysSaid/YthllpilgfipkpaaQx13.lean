-- written by a program of this session after the way of the kit's print; not the kit's own print. Lean checks it.
import Derived.Test.YthllpilgfipkpaaQx0
import Derived.Test.YthllpilgfipkpaaQx10
import Derived.Test.YthllpilgfipkpaaQx11
import Derived.Test.YthllpilgfipkpaaQx12
namespace Go.Proofs.Ythllpilgfipkpaa.Q
open Go.RowKit Go.Proofs.YthllpilgfipkpaaW.PrintWords Go.Proofs.YthllpilgfipkpaaW.PrintLast Go.Proofs.YthllpilgfipkpaaW.PrintMore
attribute [local go_sem] max2_int min2_int max_two min_two max_three min_three max_four min_four   -- for this text's walks alone
set_option linter.unusedVariables false
set_option linter.unusedSimpArgs false

/-! ### casementref09_Share: function 40 -/
mutual
def casementref09_Share.j0 : Nat → Int → List (S70) → Bool → Option (List Int × Int)
  | 0, _, _, _ => none
  | k + 1, x0, x1, x20 => if x20 = true then (some (([] : List Int), 1)) else (casementref09_Share.l0 k x0 x1 0)
def casementref09_Share.l0 : Nat → Int → List (S70) → Int → Option (List Int × Int)
  | 0, _, _, _ => none
  | k + 1, x0, x1, x6 => if x6 < (x1.length : Int) then (if 0 ≤ x6 then ((casementref09_Right.f ((rd_T70 x1 x6).f0) ((rd_T70 x1 x6).f1)).bind fun t198 => (if t198 = true then (casementref09_Share.l0 k x0 x1 (wrap64 (x6 + 1))) else (some (([] : List Int), 1)))) else (none)) else (if (x1.length : Int) > 16 then (some (([] : List Int), 3)) else (if x0 < (x1.length : Int) then (some (([] : List Int), 90)) else (casementref09_Share.l1 k x0 x1 (([] : List Int)) (([] : List Int)) 0)))
def casementref09_Share.l1 : Nat → Int → List (S70) → List Int → List Int → Int → Option (List Int × Int)
  | 0, _, _, _, _, _ => none
  | k + 1, x0, x1, x7, x8, x9 => if x9 < (x1.length : Int) then (if 0 ≤ x9 then (if ((rd_T70 x1 x9).f0) = 1 then (casementref09_Share.j3 k x0 x1 x7 x8 x9 ((rd_T70 x1 x9).f1)) else (casementref09_Share.j3 k x0 x1 x7 x8 x9 1)) else (none)) else (casementref09_Share.l2 k x0 x1 x7 x8)
def casementref09_Share.j3 : Nat → Int → List (S70) → List Int → List Int → Int → Int → Option (List Int × Int)
  | 0, _, _, _, _, _, _ => none
  | k + 1, x0, x1, x7, x8, x9, x10 => if 0 ≤ x9 then (if x9 < (x1.length : Int) then (if ((rd_T70 x1 x9).f0) = 2 then (casementref09_Share.j4 k x0 x1 x7 x8 x9 x10 (decide ((wrap64 (x0 * ((rd_T70 x1 x9).f1))) ≥ 100))) else (casementref09_Share.j4 k x0 x1 x7 x8 x9 x10 false)) else (none)) else (none)
def casementref09_Share.j4 : Nat → Int → List (S70) → List Int → List Int → Int → Int → Bool → Option (List Int × Int)
  | 0, _, _, _, _, _, _, _ => none
  | k + 1, x0, x1, x7, x8, x9, x10, x74 => if x74 = true then (if 0 ≤ x9 then (if x9 < (x1.length : Int) then (if ((rd_T70 x1 x9).f0) = 0 then (if x8.length < 17592186044416 then (if x7.length < 17592186044416 then (casementref09_Share.l1 k x0 x1 (x7 ++ [wrap64 (Int.tdiv (wrap64 (x0 * ((rd_T70 x1 x9).f1))) 100)]) (x8 ++ [x9]) (wrap64 (x9 + 1))) else (none)) else (none)) else (if x7.length < 17592186044416 then (casementref09_Share.l1 k x0 x1 (x7 ++ [wrap64 (Int.tdiv (wrap64 (x0 * ((rd_T70 x1 x9).f1))) 100)]) x8 (wrap64 (x9 + 1))) else (none))) else (none)) else (none)) else (if 0 ≤ x9 then (if x9 < (x1.length : Int) then (if ((rd_T70 x1 x9).f0) = 0 then (if x8.length < 17592186044416 then (if x7.length < 17592186044416 then (casementref09_Share.l1 k x0 x1 (x7 ++ [x10]) (x8 ++ [x9]) (wrap64 (x9 + 1))) else (none)) else (none)) else (if x7.length < 17592186044416 then (casementref09_Share.l1 k x0 x1 (x7 ++ [x10]) x8 (wrap64 (x9 + 1))) else (none))) else (none)) else (none))
def casementref09_Share.l2 : Nat → Int → List (S70) → List Int → List Int → Option (List Int × Int)
  | 0, _, _, _, _ => none
  | k + 1, x0, x1, x7, x8 => (casementref09_sum.f k x7).bind fun t230 => (if t230 > x0 then (casementref09_Share.l3 k x0 x1 x7 x8 0 0) else (casementref09_Share.l4 k x0 x7 x8 0))
def casementref09_Share.l3 : Nat → Int → List (S70) → List Int → List Int → Int → Int → Option (List Int × Int)
  | 0, _, _, _, _, _, _ => none
  | k + 1, x0, x1, x7, x8, x11, x12 => if x12 < (x7.length : Int) then (if 0 ≤ x12 then (if (rd x7 x12) > 1 then (if x12 < (x1.length : Int) then (if ((rd_T70 x1 x12).f0) = 0 then (casementref09_Share.l3 k x0 x1 x7 x8 x11 (wrap64 (x12 + 1))) else (casementref09_Share.l3 k x0 x1 x7 x8 x12 (wrap64 (x12 + 1)))) else (none)) else (casementref09_Share.l3 k x0 x1 x7 x8 x11 (wrap64 (x12 + 1)))) else (none)) else ((casementref09_change.f k x7 x11 (-1)).bind fun t233 => (casementref09_Share.l2 k x0 x1 t233 x8))
def casementref09_Share.l4 : Nat → Int → List Int → List Int → Int → Option (List Int × Int)
  | 0, _, _, _, _ => none
  | k + 1, x0, x7, x8, x13 => (casementref09_sum.f k x7).bind fun t236 => (if t236 < x0 then (if (x8.length : Int) = 0 then ((casementref09_change.f k x7 (wrap64 ((x7.length : Int) - 1)) 1).bind fun t237 => (casementref09_Share.l4 k x0 t237 x8 (wrap64 (x13 + 1)))) else (if 0 ≤ (Int.tmod x13 (x8.length : Int)) then (if (Int.tmod x13 (x8.length : Int)) < (x8.length : Int) then ((casementref09_change.f k x7 (rd x8 (Int.tmod x13 (x8.length : Int))) 1).bind fun t241 => (casementref09_Share.l4 k x0 t241 x8 (wrap64 (x13 + 1)))) else (none)) else (none))) else (some (x7, 0)))
end
def casementref09_Share.f (k : Nat) (a0 : Int) (l1 : List (S70)) : Option (List Int × Int) := if (l1.length : Int) = 0 then (casementref09_Share.j0 k a0 l1 true) else (casementref09_Share.j0 k a0 l1 (decide (a0 > 200)))
theorem casementref09_Share.mono_l : ∀ k, (∀ y0 y1 y2, LeO (casementref09_Share.j0 k y0 y1 y2) (casementref09_Share.j0 (k + 1) y0 y1 y2)) ∧ (∀ y0 y1 y2, LeO (casementref09_Share.l0 k y0 y1 y2) (casementref09_Share.l0 (k + 1) y0 y1 y2)) ∧ (∀ y0 y1 y2 y3 y4, LeO (casementref09_Share.l1 k y0 y1 y2 y3 y4) (casementref09_Share.l1 (k + 1) y0 y1 y2 y3 y4)) ∧ (∀ y0 y1 y2 y3 y4 y5, LeO (casementref09_Share.j3 k y0 y1 y2 y3 y4 y5) (casementref09_Share.j3 (k + 1) y0 y1 y2 y3 y4 y5)) ∧ (∀ y0 y1 y2 y3 y4 y5 y6, LeO (casementref09_Share.j4 k y0 y1 y2 y3 y4 y5 y6) (casementref09_Share.j4 (k + 1) y0 y1 y2 y3 y4 y5 y6)) ∧ (∀ y0 y1 y2 y3, LeO (casementref09_Share.l2 k y0 y1 y2 y3) (casementref09_Share.l2 (k + 1) y0 y1 y2 y3)) ∧ (∀ y0 y1 y2 y3 y4 y5, LeO (casementref09_Share.l3 k y0 y1 y2 y3 y4 y5) (casementref09_Share.l3 (k + 1) y0 y1 y2 y3 y4 y5)) ∧ (∀ y0 y1 y2 y3, LeO (casementref09_Share.l4 k y0 y1 y2 y3) (casementref09_Share.l4 (k + 1) y0 y1 y2 y3))
  | 0 => ⟨fun _ _ _ r h => by simp [casementref09_Share.j0] at h, fun _ _ _ r h => by simp [casementref09_Share.l0] at h, fun _ _ _ _ _ r h => by simp [casementref09_Share.l1] at h, fun _ _ _ _ _ _ r h => by simp [casementref09_Share.j3] at h, fun _ _ _ _ _ _ _ r h => by simp [casementref09_Share.j4] at h, fun _ _ _ _ r h => by simp [casementref09_Share.l2] at h, fun _ _ _ _ _ _ r h => by simp [casementref09_Share.l3] at h, fun _ _ _ _ r h => by simp [casementref09_Share.l4] at h⟩
  | k + 1 => by
    obtain ⟨ih0, ih1, ih2, ih3, ih4, ih5, ih6, ih7⟩ := casementref09_Share.mono_l k
    refine ⟨?_, ?_, ?_, ?_, ?_, ?_, ?_, ?_⟩
    · intro y0 y1 y2
      unfold casementref09_Share.j0
      repeat' first
      | (with_reducible exact ih0 _ _ _)
      | (with_reducible exact ih1 _ _ _)
      | (with_reducible exact ih2 _ _ _ _ _)
      | (with_reducible exact ih3 _ _ _ _ _ _)
      | (with_reducible exact ih4 _ _ _ _ _ _ _)
      | (with_reducible exact ih5 _ _ _ _)
      | (with_reducible exact ih6 _ _ _ _ _ _)
      | (with_reducible exact ih7 _ _ _ _)
      | (with_reducible exact casementref09_change.mono _ _ _ _)
      | (with_reducible exact casementref09_sum.mono _ _)
      | (with_reducible exact LeO.refl _)
      | (with_reducible exact LeO.none _)
      | (with_reducible refine LeO.ite ?_ ?_)
      | (with_reducible refine LeO.bind ?_ (fun _ => ?_))
      | exact ih0 _ _ _
      | exact ih1 _ _ _
      | exact ih2 _ _ _ _ _
      | exact ih3 _ _ _ _ _ _
      | exact ih4 _ _ _ _ _ _ _
      | exact ih5 _ _ _ _
      | exact ih6 _ _ _ _ _ _
      | exact ih7 _ _ _ _
      | exact casementref09_change.mono _ _ _ _
      | exact casementref09_sum.mono _ _
      | exact LeO.none _
      | refine LeO.ite ?_ ?_
      | refine LeO.bind ?_ (fun _ => ?_)
    · intro y0 y1 y2
      unfold casementref09_Share.l0
      repeat' first
      | (with_reducible exact ih0 _ _ _)
      | (with_reducible exact ih1 _ _ _)
      | (with_reducible exact ih2 _ _ _ _ _)
      | (with_reducible exact ih3 _ _ _ _ _ _)
      | (with_reducible exact ih4 _ _ _ _ _ _ _)
      | (with_reducible exact ih5 _ _ _ _)
      | (with_reducible exact ih6 _ _ _ _ _ _)
      | (with_reducible exact ih7 _ _ _ _)
      | (with_reducible exact casementref09_change.mono _ _ _ _)
      | (with_reducible exact casementref09_sum.mono _ _)
      | (with_reducible exact LeO.refl _)
      | (with_reducible exact LeO.none _)
      | (with_reducible refine LeO.ite ?_ ?_)
      | (with_reducible refine LeO.bind ?_ (fun _ => ?_))
      | exact ih0 _ _ _
      | exact ih1 _ _ _
      | exact ih2 _ _ _ _ _
      | exact ih3 _ _ _ _ _ _
      | exact ih4 _ _ _ _ _ _ _
      | exact ih5 _ _ _ _
      | exact ih6 _ _ _ _ _ _
      | exact ih7 _ _ _ _
      | exact casementref09_change.mono _ _ _ _
      | exact casementref09_sum.mono _ _
      | exact LeO.none _
      | refine LeO.ite ?_ ?_
      | refine LeO.bind ?_ (fun _ => ?_)
    · intro y0 y1 y2 y3 y4
      unfold casementref09_Share.l1
      repeat' first
      | (with_reducible exact ih0 _ _ _)
      | (with_reducible exact ih1 _ _ _)
      | (with_reducible exact ih2 _ _ _ _ _)
      | (with_reducible exact ih3 _ _ _ _ _ _)
      | (with_reducible exact ih4 _ _ _ _ _ _ _)
      | (with_reducible exact ih5 _ _ _ _)
      | (with_reducible exact ih6 _ _ _ _ _ _)
      | (with_reducible exact ih7 _ _ _ _)
      | (with_reducible exact casementref09_change.mono _ _ _ _)
      | (with_reducible exact casementref09_sum.mono _ _)
      | (with_reducible exact LeO.refl _)
      | (with_reducible exact LeO.none _)
      | (with_reducible refine LeO.ite ?_ ?_)
      | (with_reducible refine LeO.bind ?_ (fun _ => ?_))
      | exact ih0 _ _ _
      | exact ih1 _ _ _
      | exact ih2 _ _ _ _ _
      | exact ih3 _ _ _ _ _ _
      | exact ih4 _ _ _ _ _ _ _
      | exact ih5 _ _ _ _
      | exact ih6 _ _ _ _ _ _
      | exact ih7 _ _ _ _
      | exact casementref09_change.mono _ _ _ _
      | exact casementref09_sum.mono _ _
      | exact LeO.none _
      | refine LeO.ite ?_ ?_
      | refine LeO.bind ?_ (fun _ => ?_)
    · intro y0 y1 y2 y3 y4 y5
      unfold casementref09_Share.j3
      repeat' first
      | (with_reducible exact ih0 _ _ _)
      | (with_reducible exact ih1 _ _ _)
      | (with_reducible exact ih2 _ _ _ _ _)
      | (with_reducible exact ih3 _ _ _ _ _ _)
      | (with_reducible exact ih4 _ _ _ _ _ _ _)
      | (with_reducible exact ih5 _ _ _ _)
      | (with_reducible exact ih6 _ _ _ _ _ _)
      | (with_reducible exact ih7 _ _ _ _)
      | (with_reducible exact casementref09_change.mono _ _ _ _)
      | (with_reducible exact casementref09_sum.mono _ _)
      | (with_reducible exact LeO.refl _)
      | (with_reducible exact LeO.none _)
      | (with_reducible refine LeO.ite ?_ ?_)
      | (with_reducible refine LeO.bind ?_ (fun _ => ?_))
      | exact ih0 _ _ _
      | exact ih1 _ _ _
      | exact ih2 _ _ _ _ _
      | exact ih3 _ _ _ _ _ _
      | exact ih4 _ _ _ _ _ _ _
      | exact ih5 _ _ _ _
      | exact ih6 _ _ _ _ _ _
      | exact ih7 _ _ _ _
      | exact casementref09_change.mono _ _ _ _
      | exact casementref09_sum.mono _ _
      | exact LeO.none _
      | refine LeO.ite ?_ ?_
      | refine LeO.bind ?_ (fun _ => ?_)
    · intro y0 y1 y2 y3 y4 y5 y6
      unfold casementref09_Share.j4
      repeat' first
      | (with_reducible exact ih0 _ _ _)
      | (with_reducible exact ih1 _ _ _)
      | (with_reducible exact ih2 _ _ _ _ _)
      | (with_reducible exact ih3 _ _ _ _ _ _)
      | (with_reducible exact ih4 _ _ _ _ _ _ _)
      | (with_reducible exact ih5 _ _ _ _)
      | (with_reducible exact ih6 _ _ _ _ _ _)
      | (with_reducible exact ih7 _ _ _ _)
      | (with_reducible exact casementref09_change.mono _ _ _ _)
      | (with_reducible exact casementref09_sum.mono _ _)
      | (with_reducible exact LeO.refl _)
      | (with_reducible exact LeO.none _)
      | (with_reducible refine LeO.ite ?_ ?_)
      | (with_reducible refine LeO.bind ?_ (fun _ => ?_))
      | exact ih0 _ _ _
      | exact ih1 _ _ _
      | exact ih2 _ _ _ _ _
      | exact ih3 _ _ _ _ _ _
      | exact ih4 _ _ _ _ _ _ _
      | exact ih5 _ _ _ _
      | exact ih6 _ _ _ _ _ _
      | exact ih7 _ _ _ _
      | exact casementref09_change.mono _ _ _ _
      | exact casementref09_sum.mono _ _
      | exact LeO.none _
      | refine LeO.ite ?_ ?_
      | refine LeO.bind ?_ (fun _ => ?_)
    · intro y0 y1 y2 y3
      unfold casementref09_Share.l2
      repeat' first
      | (with_reducible exact ih0 _ _ _)
      | (with_reducible exact ih1 _ _ _)
      | (with_reducible exact ih2 _ _ _ _ _)
      | (with_reducible exact ih3 _ _ _ _ _ _)
      | (with_reducible exact ih4 _ _ _ _ _ _ _)
      | (with_reducible exact ih5 _ _ _ _)
      | (with_reducible exact ih6 _ _ _ _ _ _)
      | (with_reducible exact ih7 _ _ _ _)
      | (with_reducible exact casementref09_change.mono _ _ _ _)
      | (with_reducible exact casementref09_sum.mono _ _)
      | (with_reducible exact LeO.refl _)
      | (with_reducible exact LeO.none _)
      | (with_reducible refine LeO.ite ?_ ?_)
      | (with_reducible refine LeO.bind ?_ (fun _ => ?_))
      | exact ih0 _ _ _
      | exact ih1 _ _ _
      | exact ih2 _ _ _ _ _
      | exact ih3 _ _ _ _ _ _
      | exact ih4 _ _ _ _ _ _ _
      | exact ih5 _ _ _ _
      | exact ih6 _ _ _ _ _ _
      | exact ih7 _ _ _ _
      | exact casementref09_change.mono _ _ _ _
      | exact casementref09_sum.mono _ _
      | exact LeO.none _
      | refine LeO.ite ?_ ?_
      | refine LeO.bind ?_ (fun _ => ?_)
    · intro y0 y1 y2 y3 y4 y5
      unfold casementref09_Share.l3
      repeat' first
      | (with_reducible exact ih0 _ _ _)
      | (with_reducible exact ih1 _ _ _)
      | (with_reducible exact ih2 _ _ _ _ _)
      | (with_reducible exact ih3 _ _ _ _ _ _)
      | (with_reducible exact ih4 _ _ _ _ _ _ _)
      | (with_reducible exact ih5 _ _ _ _)
      | (with_reducible exact ih6 _ _ _ _ _ _)
      | (with_reducible exact ih7 _ _ _ _)
      | (with_reducible exact casementref09_change.mono _ _ _ _)
      | (with_reducible exact casementref09_sum.mono _ _)
      | (with_reducible exact LeO.refl _)
      | (with_reducible exact LeO.none _)
      | (with_reducible refine LeO.ite ?_ ?_)
      | (with_reducible refine LeO.bind ?_ (fun _ => ?_))
      | exact ih0 _ _ _
      | exact ih1 _ _ _
      | exact ih2 _ _ _ _ _
      | exact ih3 _ _ _ _ _ _
      | exact ih4 _ _ _ _ _ _ _
      | exact ih5 _ _ _ _
      | exact ih6 _ _ _ _ _ _
      | exact ih7 _ _ _ _
      | exact casementref09_change.mono _ _ _ _
      | exact casementref09_sum.mono _ _
      | exact LeO.none _
      | refine LeO.ite ?_ ?_
      | refine LeO.bind ?_ (fun _ => ?_)
    · intro y0 y1 y2 y3
      unfold casementref09_Share.l4
      repeat' first
      | (with_reducible exact ih0 _ _ _)
      | (with_reducible exact ih1 _ _ _)
      | (with_reducible exact ih2 _ _ _ _ _)
      | (with_reducible exact ih3 _ _ _ _ _ _)
      | (with_reducible exact ih4 _ _ _ _ _ _ _)
      | (with_reducible exact ih5 _ _ _ _)
      | (with_reducible exact ih6 _ _ _ _ _ _)
      | (with_reducible exact ih7 _ _ _ _)
      | (with_reducible exact casementref09_change.mono _ _ _ _)
      | (with_reducible exact casementref09_sum.mono _ _)
      | (with_reducible exact LeO.refl _)
      | (with_reducible exact LeO.none _)
      | (with_reducible refine LeO.ite ?_ ?_)
      | (with_reducible refine LeO.bind ?_ (fun _ => ?_))
      | exact ih0 _ _ _
      | exact ih1 _ _ _
      | exact ih2 _ _ _ _ _
      | exact ih3 _ _ _ _ _ _
      | exact ih4 _ _ _ _ _ _ _
      | exact ih5 _ _ _ _
      | exact ih6 _ _ _ _ _ _
      | exact ih7 _ _ _ _
      | exact casementref09_change.mono _ _ _ _
      | exact casementref09_sum.mono _ _
      | exact LeO.none _
      | refine LeO.ite ?_ ?_
      | refine LeO.bind ?_ (fun _ => ?_)
theorem casementref09_Share.mono : ∀ a0 a1 k, LeO (casementref09_Share.f k a0 a1) (casementref09_Share.f (k + 1) a0 a1) := by
  intro a0 a1 k
  obtain ⟨ih0, ih1, ih2, ih3, ih4, ih5, ih6, ih7⟩ := casementref09_Share.mono_l k
  unfold casementref09_Share.f
  repeat' first
      | (with_reducible exact ih0 _ _ _)
      | (with_reducible exact ih1 _ _ _)
      | (with_reducible exact ih2 _ _ _ _ _)
      | (with_reducible exact ih3 _ _ _ _ _ _)
      | (with_reducible exact ih4 _ _ _ _ _ _ _)
      | (with_reducible exact ih5 _ _ _ _)
      | (with_reducible exact ih6 _ _ _ _ _ _)
      | (with_reducible exact ih7 _ _ _ _)
      | (with_reducible exact casementref09_change.mono _ _ _ _)
      | (with_reducible exact casementref09_sum.mono _ _)
      | (with_reducible exact LeO.refl _)
      | (with_reducible exact LeO.none _)
      | (with_reducible refine LeO.ite ?_ ?_)
      | (with_reducible refine LeO.bind ?_ (fun _ => ?_))
      | exact ih0 _ _ _
      | exact ih1 _ _ _
      | exact ih2 _ _ _ _ _
      | exact ih3 _ _ _ _ _ _
      | exact ih4 _ _ _ _ _ _ _
      | exact ih5 _ _ _ _
      | exact ih6 _ _ _ _ _ _
      | exact ih7 _ _ _ _
      | exact casementref09_change.mono _ _ _ _
      | exact casementref09_sum.mono _ _
      | exact LeO.none _
      | refine LeO.ite ?_ ?_
      | refine LeO.bind ?_ (fun _ => ?_)
set_option maxHeartbeats 8000000 in
set_option maxRecDepth 100000 in
theorem casementref09_Share.calls (k : Nat) (a0 : Int) (A1 : Option Addr) (c1 : Nat) (l1 : List (S70)) (r1 : List Int) (r2 : Int) (w : World) (hr1 : Kd.C k70 w A1 l1.length l1) (hc1 : l1.length ≤ c1) (h : casementref09_Share.f k a0 l1 = some (r1, r2)) :
    Calls Try.prog 40 #[.int .i64 a0, .slice A1 l1.length c1] w fun e w' => ∃ v0_ : Value, e = .returned (.tuple #[v0_, .int .i64 r2]) ∧ Kd.R (Kd.int .i64) 3 w' w.heap.size (fun _ => True) v0_ r1 ∧ Below w.heap.size w w' := by
  have hu70 := Try.underlying70
  have HR1 := Aside0.mk hr1
  have HC1 := Aside0.mk hc1
  clear hr1 hc1
  have HB := Aside0.mk (Below.refl w.heap.size w)
  have H : (if (l1.length : Int) = 0 then (casementref09_Share.j0 k a0 l1 true) else (casementref09_Share.j0 k a0 l1 (decide (a0 > 200)))) = some (r1, r2) := h
  clear h
  have HC3 := Aside0.mk H
  clear H
  go_enter Try.func40, Try.ntmps40
  go_upto_region 1 with (fail)
  go_cut [20] (fun v20 wc => ∃ (kq : Nat) (x20_2 : Bool), v20 = .bool x20_2 ∧ Aside0 (casementref09_Share.j0 kq a0 l1 x20_2 = some (r1, r2)) ∧ Aside0 (kq ≤ k) ∧ Aside0 (Below w.heap.size w wc))
  case first =>
    have H := HC3.out
    clear HC3
    by_cases c4 : (l1.length : Int) = 0
    · rw [if_pos c4] at H
      have c4b0 : ((l1.length : Int) == 0) = true := beq_iff_eq.mpr c4
      have c4b1 : ((l1.length : Int) != 0) = false := bne_eq_false_iff_eq.mpr c4
      clear c4
      (first | rw [c4b0] | (simp only [i64_w, i32_w]; rw [c4b0]) | skip)
      have H' := Aside0.mk H
      clear H
      go_wp2
      go_meet
      case rel => exact ⟨_, (true), (by first | rfl | (simp; done) | (simp [*]; done)), H', ⟨by first | omega | exact Nat.le_refl _⟩, ⟨by repeat (first | (with_reducible first | exact HB.out | apply below_alloc | apply pw_below_drewN | apply below_drew1) | exact HB.out)⟩⟩
    · rw [if_neg c4] at H
      have c4b0 : ((l1.length : Int) == 0) = false := beq_eq_false_iff_ne.mpr c4
      have c4b1 : ((l1.length : Int) != 0) = true := bne_iff_ne.mpr c4
      have c4b2 : ¬ (l1 = []) := fun h_ => c4 (by rw [h_]; rfl)
      (first | rw [c4b0] | (simp only [i64_w, i32_w]; rw [c4b0]) | skip)
      have H' := Aside0.mk H
      clear H
      go_wp2
      go_meet
      case rel => exact ⟨_, (decide (a0 > 200)), (by first | rfl | (simp; done) | (simp [*]; done)), H', ⟨by first | omega | exact Nat.le_refl _⟩, ⟨by repeat (first | (with_reducible first | exact HB.out | apply below_alloc | apply pw_below_drewN | apply below_drew1) | exact HB.out)⟩⟩
  case rest =>
    clear HC3
    try clear c1
    try clear p2
    try clear c4
    try clear c4b0
    try clear c4b1
    try clear c4b2
    obtain ⟨kq, x20_2, rfl, HA, HJ2, HB⟩ := hcut
    cases kq with
    | zero => exact absurd HA.out (by simp [casementref09_Share.j0])
    | succ kj2 =>
      have H := HA.out
      clear HA
      simp only [casementref09_Share.j0] at H
      by_cases c5 : x20_2 = true
      · subst c5
        have H1 : (some (([] : List Int), 1)) = some (r1, r2) := by rw [if_pos rfl] at H; exact H
        clear H
        have H := H1
        clear H1
        simp only [Option.some.injEq, Prod.mk.injEq] at H
        obtain ⟨rfl, rfl⟩ := H
        go_wp2
        go_ret2
        exact ⟨_, by first | rfl | (simp [errW_none, errW_some] <;> rfl) | (simp [*, errW_none, errW_some] <;> rfl), by first | exact Kd.R_nil _ _ _ _ _ | exact Kd.N_nil _ _ _ _ _ | exact Kd.V_nil _ _ _ _ _ | exact Kd.Q_nil _ _ _ _ _ | exact Kd.S_nil _ _ _ _ _, by repeat (first | (with_reducible first | exact HB.out | apply below_alloc | apply pw_below_drewN | apply below_drew1) | exact HB.out)⟩
      · replace c5 := Bool.eq_false_iff.mpr c5
        subst c5
        have H1 : (casementref09_Share.l0 kj2 a0 l1 0) = some (r1, r2) := by rw [if_neg (show ¬ (false = true) by decide)] at H; exact H
        clear H
        have H := H1
        clear H1
        have H' := Aside0.mk H
        clear H
        go_wp2
        go_loopg [6] kj2 (fun kq v6 w' => ∃ (x6_2 : Int), v6 = .int .i64 x6_2 ∧ Aside0 (casementref09_Share.l0 kq a0 l1 x6_2 = some (r1, r2)) ∧ Aside0 (kq ≤ kj2) ∧ Aside0 (Below w.heap.size w w'))
        case atStart => exact ⟨(0), (by first | rfl | (simp; done) | (simp [*]; done)), H', ⟨Nat.le_refl _⟩, ⟨by repeat (first | (with_reducible first | exact HB.out | apply below_alloc | apply pw_below_drewN | apply below_drew1) | exact HB.out)⟩⟩
        case round =>
          clear H'
          try clear c1
          try clear p2
          try clear c4
          try clear c4b0
          try clear c4b1
          try clear c4b2
          try clear c5
          try clear p2
          obtain ⟨x6_2, rfl, HA, HK2, HB⟩ := hrel
          cases gk with
          | zero => exact absurd HA.out (by simp [casementref09_Share.l0])
          | succ k2 =>
            have H := HA.out
            clear HA
            simp only [casementref09_Share.l0] at H
            by_cases c6 : x6_2 < (l1.length : Int)
            · rw [if_pos c6] at H
              have c6b0 : decide (x6_2 < (l1.length : Int)) = true := decide_eq_true c6
              clear c6
              by_cases c7 : 0 ≤ x6_2
              · rw [if_pos c7] at H
                have c7b0 : decide (0 ≤ x6_2) = true := decide_eq_true c7
                clear c7
                replace H := Option.bind_eq_some_iff.mp H
                obtain ⟨t198, A80, H⟩ := H
                replace H : (if t198 = true then (casementref09_Share.l0 k2 a0 l1 (wrap64 (x6_2 + 1))) else (some (([] : List Int), 1))) = some (r1, r2) := H
                have A8 := Aside0.mk A80
                clear A80
                by_cases c9 : t198 = true
                · subst c9
                  have H1 : (casementref09_Share.l0 k2 a0 l1 (wrap64 (x6_2 + 1))) = some (r1, r2) := by rw [if_pos rfl] at H; exact H
                  clear H
                  have H := H1
                  clear H1
                  have H' := Aside0.mk H
                  clear H
                  have p197 : 0 ≤ (x6_2 : Int) := of_decide_eq_true (by first | (with_reducible assumption) | assumption)
                  have q197 : x6_2 < (l1.length : Int) := of_decide_eq_true (by first | (with_reducible assumption) | assumption)
                  obtain ⟨ad197, e197, hx197_0, hx197_1⟩ := at_T70 HR1.out x6_2 p197 q197
                  cases e197
                  replace hx197_0 := (HB.out.cell (World.block_lt_of_cell? w _ hx197_0)).trans hx197_0
                  replace hx197_1 := (HB.out.cell (World.block_lt_of_cell? w _ hx197_1)).trans hx197_1
                  replace p197 := eq_true p197
                  replace q197 := eq_true q197
                  go_wp2_with (first | ((with_reducible refine gate_callee (f := 44) rfl ?_); refine goesL_ (some 31) rfl rfl Try.func44 (by kernel_rfl) rfl #[.agg #[.int .i64 ((rd_T70 l1 x6_2).f0), .int .i64 ((rd_T70 l1 x6_2).f1)]] rfl (by (try simp only [List.map_toArray, List.map_cons, List.map_nil]); first | done | rfl | (simp only [List.length_drop, List.length_take]; rfl)) ?_; (with_reducible refine (casementref09_Right.calls ((rd_T70 l1 x6_2).f0) ((rd_T70 l1 x6_2).f1) true _ A8.out).mono ?_); rintro e w10 ⟨rfl, hb⟩; refine ⟨_, rfl, ?_⟩; have n0_ := Aside0.mk (below_step (by repeat (first | (with_reducible first | exact HB.out | apply below_alloc | apply pw_below_drewN | apply below_drew1) | exact HB.out)) hb); clear HB; have HB := n0_; clear n0_; (try clear hb); (try clear hb2); (try clear hk); (try clear hi)))
                  go_roundg k2
                  case measure => have := HJ2.out; have := HK2.out; omega
                  case rel => exact ⟨(wrap64 (x6_2 + 1)), (by first | rfl | (simp; done) | (simp [*]; done)), H', ⟨by have := HJ2.out; have := HK2.out; omega⟩, ⟨by repeat (first | (with_reducible first | exact HB.out | apply below_alloc | apply pw_below_drewN | apply below_drew1) | exact HB.out)⟩⟩
                · replace c9 := Bool.eq_false_iff.mpr c9
                  subst c9
                  have H1 : (some (([] : List Int), 1)) = some (r1, r2) := by rw [if_neg (show ¬ (false = true) by decide)] at H; exact H
                  clear H
                  have H := H1
                  clear H1
                  simp only [Option.some.injEq, Prod.mk.injEq] at H
                  obtain ⟨rfl, rfl⟩ := H
                  have p197 : 0 ≤ (x6_2 : Int) := of_decide_eq_true (by first | (with_reducible assumption) | assumption)
                  have q197 : x6_2 < (l1.length : Int) := of_decide_eq_true (by first | (with_reducible assumption) | assumption)
                  obtain ⟨ad197, e197, hx197_0, hx197_1⟩ := at_T70 HR1.out x6_2 p197 q197
                  cases e197
                  replace hx197_0 := (HB.out.cell (World.block_lt_of_cell? w _ hx197_0)).trans hx197_0
                  replace hx197_1 := (HB.out.cell (World.block_lt_of_cell? w _ hx197_1)).trans hx197_1
                  replace p197 := eq_true p197
                  replace q197 := eq_true q197
                  go_wp2_with (first | ((with_reducible refine gate_callee (f := 44) rfl ?_); refine goesL_ (some 31) rfl rfl Try.func44 (by kernel_rfl) rfl #[.agg #[.int .i64 ((rd_T70 l1 x6_2).f0), .int .i64 ((rd_T70 l1 x6_2).f1)]] rfl (by (try simp only [List.map_toArray, List.map_cons, List.map_nil]); first | done | rfl | (simp only [List.length_drop, List.length_take]; rfl)) ?_; (with_reducible refine (casementref09_Right.calls ((rd_T70 l1 x6_2).f0) ((rd_T70 l1 x6_2).f1) false _ A8.out).mono ?_); rintro e w11 ⟨rfl, hb⟩; refine ⟨_, rfl, ?_⟩; have n0_ := Aside0.mk (below_step (by repeat (first | (with_reducible first | exact HB.out | apply below_alloc | apply pw_below_drewN | apply below_drew1) | exact HB.out)) hb); clear HB; have HB := n0_; clear n0_; (try clear hb); (try clear hb2); (try clear hk); (try clear hi)))
                  go_ret2
                  exact ⟨_, by first | rfl | (simp [errW_none, errW_some] <;> rfl) | (simp [*, errW_none, errW_some] <;> rfl), by first | exact Kd.R_nil _ _ _ _ _ | exact Kd.N_nil _ _ _ _ _ | exact Kd.V_nil _ _ _ _ _ | exact Kd.Q_nil _ _ _ _ _ | exact Kd.S_nil _ _ _ _ _, by repeat (first | (with_reducible first | exact HB.out | apply below_alloc | apply pw_below_drewN | apply below_drew1) | exact HB.out)⟩
              · rw [if_neg c7] at H
                exact absurd H (by simp)
            · rw [if_neg c6] at H
              have c6b0 : decide (x6_2 < (l1.length : Int)) = false := decide_eq_false c6
              clear c6
              by_cases c12 : (l1.length : Int) > 16
              · rw [if_pos c12] at H
                have c12b0 : decide (16 < (l1.length : Int)) = true := decide_eq_true c12
                have c12b1 : decide (16 < l1.length) = true := decide_eq_true (by omega)
                clear c12
                simp only [Option.some.injEq, Prod.mk.injEq] at H
                obtain ⟨rfl, rfl⟩ := H
                go_wp2
                go_ret2
                exact ⟨_, by first | rfl | (simp [errW_none, errW_some] <;> rfl) | (simp [*, errW_none, errW_some] <;> rfl), by first | exact Kd.R_nil _ _ _ _ _ | exact Kd.N_nil _ _ _ _ _ | exact Kd.V_nil _ _ _ _ _ | exact Kd.Q_nil _ _ _ _ _ | exact Kd.S_nil _ _ _ _ _, by repeat (first | (with_reducible first | exact HB.out | apply below_alloc | apply pw_below_drewN | apply below_drew1) | exact HB.out)⟩
              · rw [if_neg c12] at H
                have c12b0 : decide (16 < (l1.length : Int)) = false := decide_eq_false c12
                have c12b1 : decide (16 < l1.length) = false := decide_eq_false (by omega)
                clear c12
                by_cases c13 : a0 < (l1.length : Int)
                · rw [if_pos c13] at H
                  have c13b0 : decide (a0 < (l1.length : Int)) = true := decide_eq_true c13
                  clear c13
                  simp only [Option.some.injEq, Prod.mk.injEq] at H
                  obtain ⟨rfl, rfl⟩ := H
                  go_wp2
                  go_ret2
                  exact ⟨_, by first | rfl | (simp [errW_none, errW_some] <;> rfl) | (simp [*, errW_none, errW_some] <;> rfl), by first | exact Kd.R_nil _ _ _ _ _ | exact Kd.N_nil _ _ _ _ _ | exact Kd.V_nil _ _ _ _ _ | exact Kd.Q_nil _ _ _ _ _ | exact Kd.S_nil _ _ _ _ _, by repeat (first | (with_reducible first | exact HB.out | apply below_alloc | apply pw_below_drewN | apply below_drew1) | exact HB.out)⟩
                · rw [if_neg c13] at H
                  have c13b0 : decide (a0 < (l1.length : Int)) = false := decide_eq_false c13
                  clear c13
                  obtain ⟨y199, hy199⟩ : ∃ y_ : List Int, y_ = (([] : List Int)) := ⟨_, rfl⟩
                  replace H : (casementref09_Share.l1 k2 a0 l1 y199 (([] : List Int)) 0) = some (r1, r2) := by first | (rw [hy199]; with_reducible exact H) | (have H2_ := (Option.bind_some _ _).symm.trans H; rw [hy199]; with_reducible exact H2_) | (have H2_ := (Option.bind_some _ _).symm.trans H; with_reducible exact H2_) | with_reducible exact H | (rw [hy199]; exact H) | exact H
                  have Ny199 := Aside0.mk hy199
                  clear hy199
                  obtain ⟨y202, hy202⟩ : ∃ y_ : List Int, y_ = (([] : List Int)) := ⟨_, rfl⟩
                  replace H : (casementref09_Share.l1 k2 a0 l1 y199 y202 0) = some (r1, r2) := by first | (rw [hy202]; with_reducible exact H) | (have H2_ := (Option.bind_some _ _).symm.trans H; rw [hy202]; with_reducible exact H2_) | (have H2_ := (Option.bind_some _ _).symm.trans H; with_reducible exact H2_) | with_reducible exact H | (rw [hy202]; exact H) | exact H
                  have Ny202 := Aside0.mk hy202
                  clear hy202
                  have H' := Aside0.mk H
                  clear H
                  go_wp2_with (first | ((with_reducible refine gate_dst (N := 40) rfl ?_); refine Kd.R_lit (Kd.int .i64) _ 3 ?hg (N := 40) ?hd (xs := ([] : List Int)) (inner := []) (ok := fun _ => True) (okp := fun _ => True) ?hr ?hp (fun _ hk => hk) trivial (Below.refl _ _) (Nat.le_refl _) (by simp) ?_; (case hd => rfl); (case hg => rfl); (case hr => first | (go_simp; done) | (go_simp; rfl)); (case hp => exact (Reps.none _ _)); intro v200 w14 ho15 hb hg_ hnew_; clear hg_ hnew_; (first | rw [← Ny199.out] at ho15 | (simp only [Int.reduceToNat] at ho15; rw [← Ny199.out] at ho15)); have n0_ := Aside0.mk (Kd.R_lower ho15 (below_size (by repeat (first | (with_reducible first | exact HB.out | apply below_alloc | apply pw_below_drewN | apply below_drew1) | exact HB.out)))); have n1_ := Aside0.mk (below_step (by repeat (first | (with_reducible first | exact HB.out | apply below_alloc | apply pw_below_drewN | apply below_drew1) | exact HB.out)) hb); clear HB; have HO201 := n0_; have HB := n1_; clear n0_ n1_; clear hb ho15) | ((with_reducible refine gate_dst (N := 41) rfl ?_); refine Kd.R_lit (Kd.int .i64) _ 3 ?hg (N := 41) ?hd (xs := ([] : List Int)) (inner := []) (ok := fun _ => True) (okp := fun _ => True) ?hr ?hp (fun _ hk => hk) trivial (Below.refl _ _) (Nat.le_refl _) (by simp) ?_; (case hd => rfl); (case hg => rfl); (case hr => first | (go_simp; done) | (go_simp; rfl)); (case hp => exact (Reps.none _ _)); intro v203 w16 ho17 hb hg_ hnew_; clear hg_ hnew_; (first | rw [← Ny202.out] at ho17 | (simp only [Int.reduceToNat] at ho17; rw [← Ny202.out] at ho17)); have n0_ := Aside0.mk (Kd.R_elder' (by (with_reducible repeat (first | apply Kd.R_alloc | apply Kd.R_drewN | apply Kd.R_drew)); exact HO201.out) (Kd.R_base ho17) hb); have n1_ := Aside0.mk (Kd.R_lower (Kd.R_new' ho17 (Kd.R_lt (by (with_reducible repeat (first | apply Kd.R_alloc | apply Kd.R_drewN | apply Kd.R_drew)); exact HO201.out))) (below_size (by repeat (first | (with_reducible first | exact HB.out | apply below_alloc | apply pw_below_drewN | apply below_drew1) | exact HB.out)))); have n2_ := Aside0.mk (below_step (by repeat (first | (with_reducible first | exact HB.out | apply below_alloc | apply pw_below_drewN | apply below_drew1) | exact HB.out)) hb); clear HO201; clear HB; have HO201 := n0_; have HO204 := n1_; have HB := n2_; clear n0_ n1_ n2_; clear hb ho17))
                  go_loopg [7, 8, 9] k2 (fun kq v7 v8 v9 w' => ∃ (x7_3 : List Int) (x8_3 : List Int) (x9_3 : Int), v9 = .int .i64 x9_3 ∧ Aside0 (casementref09_Share.l1 kq a0 l1 x7_3 x8_3 x9_3 = some (r1, r2)) ∧ Aside0 (kq ≤ k2) ∧ Aside0 (Kd.R (Kd.int .i64) 3 w' w.heap.size (fun k_ => some k_ ≠ (v8 : Value).ownBlock) v7 x7_3) ∧ Aside0 (Kd.R (Kd.int .i64) 3 w' w.heap.size (fun k_ => some k_ ≠ (v7 : Value).ownBlock) v8 x8_3) ∧ Aside0 (Below w.heap.size w w'))
                  case atStart => exact ⟨(y199), (y202), (0), (by first | rfl | (simp; done) | (simp [*]; done)), H', ⟨Nat.le_refl _⟩, ⟨by (with_reducible repeat (first | apply Kd.R_alloc | apply Kd.R_drewN | apply Kd.R_drew)); exact Kd.R_mono HO201.out (fun _ hk => hk.2)⟩, ⟨by (with_reducible repeat (first | apply Kd.R_alloc | apply Kd.R_drewN | apply Kd.R_drew)); exact Kd.R_mono HO204.out (fun _ hk => hk.2)⟩, ⟨by repeat (first | (with_reducible first | exact HB.out | apply below_alloc | apply pw_below_drewN | apply below_drew1) | exact HB.out)⟩⟩
                  case round =>
                    clear H'
                    try clear c1
                    try clear p1
                    try clear q1
                    try clear hx1
                    try clear p2
                    try clear c4
                    try clear c4b0
                    try clear c4b1
                    try clear c4b2
                    try clear c5
                    try clear c6
                    try clear c6b0
                    try clear p6
                    try clear c7
                    try clear c7b0
                    try clear c9
                    try clear c12
                    try clear c12b0
                    try clear c12b1
                    try clear c13
                    try clear c13b0
                    try clear hx197_0
                    try clear hx197_1
                    try clear p197
                    try clear p2
                    try clear q197
                    obtain ⟨x7_3, x8_3, x9_3, rfl, HA, HK3, HO_7, HO_8, HB⟩ := hrel
                    cases gk with
                    | zero => exact absurd HA.out (by simp [casementref09_Share.l1])
                    | succ k3 =>
                      have H := HA.out
                      clear HA
                      simp only [casementref09_Share.l1] at H
                      by_cases c18 : x9_3 < (l1.length : Int)
                      · rw [if_pos c18] at H
                        have c18b0 : decide (x9_3 < (l1.length : Int)) = true := decide_eq_true c18
                        clear c18
                        by_cases c19 : 0 ≤ x9_3
                        · rw [if_pos c19] at H
                          have c19b0 : decide (0 ≤ x9_3) = true := decide_eq_true c19
                          clear c19
                          have HC20 := Aside0.mk H
                          clear H
                          have p205 : 0 ≤ (x9_3 : Int) := of_decide_eq_true (by first | (with_reducible assumption) | assumption)
                          have q205 : x9_3 < (l1.length : Int) := of_decide_eq_true (by first | (with_reducible assumption) | assumption)
                          obtain ⟨ad205, e205, hx205_0, hx205_1⟩ := at_T70 HR1.out x9_3 p205 q205
                          cases e205
                          replace hx205_0 := (HB.out.cell (World.block_lt_of_cell? w _ hx205_0)).trans hx205_0
                          replace hx205_1 := (HB.out.cell (World.block_lt_of_cell? w _ hx205_1)).trans hx205_1
                          replace p205 := eq_true p205
                          replace q205 := eq_true q205
                          go_upto_if 53 with (fail)
                          go_cut [10] (fun v10 wc => ∃ (kq : Nat) (x10_19 : Int), v10 = .int .i64 x10_19 ∧ Aside0 (casementref09_Share.j3 kq a0 l1 x7_3 x8_3 x9_3 x10_19 = some (r1, r2)) ∧ Aside0 (kq ≤ k3) ∧ Aside0 (Kd.R (Kd.int .i64) 3 wc w.heap.size (fun k_ => some k_ ≠ (u8 : Value).ownBlock) u7 x7_3) ∧ Aside0 (Kd.R (Kd.int .i64) 3 wc w.heap.size (fun k_ => some k_ ≠ (u7 : Value).ownBlock) u8 x8_3) ∧ Aside0 (Below w.heap.size w wc))
                          case first =>
                            have H := HC20.out
                            clear HC20
                            by_cases c21 : ((rd_T70 l1 x9_3).f0) = 1
                            · rw [if_pos c21] at H
                              have c21b0 : (((rd_T70 l1 x9_3).f0) == 1) = true := beq_iff_eq.mpr c21
                              have c21b1 : (((rd_T70 l1 x9_3).f0) != 1) = false := bne_eq_false_iff_eq.mpr c21
                              clear c21
                              (first | rw [c21b0] | (simp only [i64_w, i32_w]; rw [c21b0]) | skip)
                              have H' := Aside0.mk H
                              clear H
                              have p206 : 0 ≤ (x9_3 : Int) := of_decide_eq_true (by first | (with_reducible assumption) | assumption)
                              have q206 : x9_3 < (l1.length : Int) := of_decide_eq_true (by first | (with_reducible assumption) | assumption)
                              obtain ⟨ad206, e206, hx206_0, hx206_1⟩ := at_T70 HR1.out x9_3 p206 q206
                              obtain rfl : ad205 = ad206 := (by injection e206)
                              replace hx206_0 := (HB.out.cell (World.block_lt_of_cell? w _ hx206_0)).trans hx206_0
                              replace hx206_1 := (HB.out.cell (World.block_lt_of_cell? w _ hx206_1)).trans hx206_1
                              replace p206 := eq_true p206
                              replace q206 := eq_true q206
                              go_wp2
                              go_meet
                              case rel => exact ⟨_, ((rd_T70 l1 x9_3).f1), (by first | rfl | (simp; done) | (simp [*]; done)), H', ⟨by have := HJ2.out; have := HK2.out; have := HK3.out; first | omega | exact Nat.le_refl _⟩, ⟨by (with_reducible repeat (first | apply Kd.R_alloc | apply Kd.R_drewN | apply Kd.R_drew)); exact HO_7.out⟩, ⟨by (with_reducible repeat (first | apply Kd.R_alloc | apply Kd.R_drewN | apply Kd.R_drew)); exact HO_8.out⟩, ⟨by repeat (first | (with_reducible first | exact HB.out | apply below_alloc | apply pw_below_drewN | apply below_drew1) | exact HB.out)⟩⟩
                            · rw [if_neg c21] at H
                              have c21b0 : (((rd_T70 l1 x9_3).f0) == 1) = false := beq_eq_false_iff_ne.mpr c21
                              have c21b1 : (((rd_T70 l1 x9_3).f0) != 1) = true := bne_iff_ne.mpr c21
                              (first | rw [c21b0] | (simp only [i64_w, i32_w]; rw [c21b0]) | skip)
                              have H' := Aside0.mk H
                              clear H
                              go_wp2
                              go_meet
                              case rel => exact ⟨_, (1), (by first | rfl | (simp; done) | (simp [*]; done)), H', ⟨by have := HJ2.out; have := HK2.out; have := HK3.out; first | omega | exact Nat.le_refl _⟩, ⟨by (with_reducible repeat (first | apply Kd.R_alloc | apply Kd.R_drewN | apply Kd.R_drew)); exact HO_7.out⟩, ⟨by (with_reducible repeat (first | apply Kd.R_alloc | apply Kd.R_drewN | apply Kd.R_drew)); exact HO_8.out⟩, ⟨by repeat (first | (with_reducible first | exact HB.out | apply below_alloc | apply pw_below_drewN | apply below_drew1) | exact HB.out)⟩⟩
                          case rest =>
                            clear HC20
                            try clear c1
                            try clear p1
                            try clear q1
                            try clear hx1
                            try clear c2
                            try clear p2
                            try clear q2
                            try clear hx2
                            try clear c4
                            try clear c4b0
                            try clear c4b1
                            try clear c4b2
                            try clear c5
                            try clear c6
                            try clear c6b0
                            try clear p6
                            try clear c7
                            try clear c7b0
                            try clear c9
                            try clear c12
                            try clear c12b0
                            try clear c12b1
                            try clear c13
                            try clear c13b0
                            try clear c18
                            try clear c18b0
                            try clear c19
                            try clear c19b0
                            try clear p19
                            try clear q19
                            try clear hx19
                            try clear p20
                            try clear q20
                            try clear hx20
                            try clear c21
                            try clear c21b0
                            try clear c21b1
                            try clear hx197_0
                            try clear hx197_1
                            try clear hx205_0
                            try clear hx205_1
                            try clear hx206_0
                            try clear hx206_1
                            try clear p1
                            try clear p197
                            try clear p2
                            try clear p205
                            try clear p206
                            try clear p6
                            try clear q1
                            try clear q197
                            try clear q205
                            try clear q206
                            obtain ⟨kq, x10_19, rfl, HA, HJ19, HO_7, HO_8, HB⟩ := hcut
                            cases kq with
                            | zero => exact absurd HA.out (by simp [casementref09_Share.j3])
                            | succ kj19 =>
                              have H := HA.out
                              clear HA
                              simp only [casementref09_Share.j3] at H
                              have HC22 := Aside0.mk H
                              clear H
                              go_upto_region 20 with (fail)
                              go_cut [74] (fun v74 wc => ∃ (kq : Nat) (x74_21 : Bool), v74 = .bool x74_21 ∧ Aside0 (casementref09_Share.j4 kq a0 l1 x7_3 x8_3 x9_3 x10_19 x74_21 = some (r1, r2)) ∧ Aside0 (kq ≤ kj19) ∧ Aside0 (Kd.R (Kd.int .i64) 3 wc w.heap.size (fun k_ => some k_ ≠ (u8 : Value).ownBlock) u7 x7_3) ∧ Aside0 (Kd.R (Kd.int .i64) 3 wc w.heap.size (fun k_ => some k_ ≠ (u7 : Value).ownBlock) u8 x8_3) ∧ Aside0 (Below w.heap.size w wc))
                              case first =>
                                have H := HC22.out
                                clear HC22
                                by_cases c23 : 0 ≤ x9_3
                                · rw [if_pos c23] at H
                                  have c23b0 : decide (0 ≤ x9_3) = true := decide_eq_true c23
                                  clear c23
                                  (first | rw [c23b0] | (simp only [i64_w, i32_w]; rw [c23b0]) | skip)
                                  by_cases c24 : x9_3 < (l1.length : Int)
                                  · rw [if_pos c24] at H
                                    have c24b0 : decide (x9_3 < (l1.length : Int)) = true := decide_eq_true c24
                                    clear c24
                                    by_cases c25 : ((rd_T70 l1 x9_3).f0) = 2
                                    · rw [if_pos c25] at H
                                      have c25b0 : (((rd_T70 l1 x9_3).f0) == 2) = true := beq_iff_eq.mpr c25
                                      have c25b1 : (((rd_T70 l1 x9_3).f0) != 2) = false := bne_eq_false_iff_eq.mpr c25
                                      clear c25
                                      have H' := Aside0.mk H
                                      clear H
                                      have p207 : 0 ≤ (x9_3 : Int) := of_decide_eq_true (by first | (with_reducible assumption) | assumption)
                                      have q207 : x9_3 < (l1.length : Int) := of_decide_eq_true (by first | (with_reducible assumption) | assumption)
                                      obtain ⟨ad207, e207, hx207_0, hx207_1⟩ := at_T70 HR1.out x9_3 p207 q207
                                      obtain rfl : ad205 = ad207 := (by injection e207)
                                      replace hx207_0 := (HB.out.cell (World.block_lt_of_cell? w _ hx207_0)).trans hx207_0
                                      replace hx207_1 := (HB.out.cell (World.block_lt_of_cell? w _ hx207_1)).trans hx207_1
                                      replace p207 := eq_true p207
                                      replace q207 := eq_true q207
                                      have p208 : 0 ≤ (x9_3 : Int) := of_decide_eq_true (by first | (with_reducible assumption) | assumption)
                                      have q208 : x9_3 < (l1.length : Int) := of_decide_eq_true (by first | (with_reducible assumption) | assumption)
                                      obtain ⟨ad208, e208, hx208_0, hx208_1⟩ := at_T70 HR1.out x9_3 p208 q208
                                      obtain rfl : ad205 = ad208 := (by injection e208)
                                      replace hx208_0 := (HB.out.cell (World.block_lt_of_cell? w _ hx208_0)).trans hx208_0
                                      replace hx208_1 := (HB.out.cell (World.block_lt_of_cell? w _ hx208_1)).trans hx208_1
                                      replace p208 := eq_true p208
                                      replace q208 := eq_true q208
                                      go_wp2
                                      go_meet
                                      case rel => exact ⟨_, (decide ((wrap64 (a0 * ((rd_T70 l1 x9_3).f1))) ≥ 100)), (by first | rfl | (simp; done) | (simp [*]; done)), H', ⟨by have := HJ2.out; have := HK2.out; have := HK3.out; have := HJ19.out; first | omega | exact Nat.le_refl _⟩, ⟨by (with_reducible repeat (first | apply Kd.R_alloc | apply Kd.R_drewN | apply Kd.R_drew)); exact HO_7.out⟩, ⟨by (with_reducible repeat (first | apply Kd.R_alloc | apply Kd.R_drewN | apply Kd.R_drew)); exact HO_8.out⟩, ⟨by repeat (first | (with_reducible first | exact HB.out | apply below_alloc | apply pw_below_drewN | apply below_drew1) | exact HB.out)⟩⟩
                                    · rw [if_neg c25] at H
                                      have c25b0 : (((rd_T70 l1 x9_3).f0) == 2) = false := beq_eq_false_iff_ne.mpr c25
                                      have c25b1 : (((rd_T70 l1 x9_3).f0) != 2) = true := bne_iff_ne.mpr c25
                                      have H' := Aside0.mk H
                                      clear H
                                      have p207 : 0 ≤ (x9_3 : Int) := of_decide_eq_true (by first | (with_reducible assumption) | assumption)
                                      have q207 : x9_3 < (l1.length : Int) := of_decide_eq_true (by first | (with_reducible assumption) | assumption)
                                      obtain ⟨ad207, e207, hx207_0, hx207_1⟩ := at_T70 HR1.out x9_3 p207 q207
                                      obtain rfl : ad205 = ad207 := (by injection e207)
                                      replace hx207_0 := (HB.out.cell (World.block_lt_of_cell? w _ hx207_0)).trans hx207_0
                                      replace hx207_1 := (HB.out.cell (World.block_lt_of_cell? w _ hx207_1)).trans hx207_1
                                      replace p207 := eq_true p207
                                      replace q207 := eq_true q207
                                      go_wp2
                                      go_meet
                                      case rel => exact ⟨_, (false), (by first | rfl | (simp; done) | (simp [*]; done)), H', ⟨by have := HJ2.out; have := HK2.out; have := HK3.out; have := HJ19.out; first | omega | exact Nat.le_refl _⟩, ⟨by (with_reducible repeat (first | apply Kd.R_alloc | apply Kd.R_drewN | apply Kd.R_drew)); exact HO_7.out⟩, ⟨by (with_reducible repeat (first | apply Kd.R_alloc | apply Kd.R_drewN | apply Kd.R_drew)); exact HO_8.out⟩, ⟨by repeat (first | (with_reducible first | exact HB.out | apply below_alloc | apply pw_below_drewN | apply below_drew1) | exact HB.out)⟩⟩
                                  · rw [if_neg c24] at H
                                    exact absurd H (by simp)
                                · rw [if_neg c23] at H
                                  exact absurd H (by simp)
                              case rest =>
                                clear HC22
                                try clear c1
                                try clear p1
                                try clear q1
                                try clear hx1
                                try clear c2
                                try clear p2
                                try clear q2
                                try clear hx2
                                try clear c4
                                try clear c4b0
                                try clear c4b1
                                try clear c4b2
                                try clear c5
                                try clear c6
                                try clear c6b0
                                try clear p6
                                try clear c7
                                try clear c7b0
                                try clear c9
                                try clear c12
                                try clear c12b0
                                try clear c12b1
                                try clear c13
                                try clear c13b0
                                try clear c18
                                try clear c18b0
                                try clear c19
                                try clear c19b0
                                try clear p19
                                try clear q19
                                try clear hx19
                                try clear p20
                                try clear q20
                                try clear hx20
                                try clear c21
                                try clear c21b0
                                try clear c21b1
                                try clear c23
                                try clear c23b0
                                try clear c24
                                try clear c24b0
                                try clear c25
                                try clear c25b0
                                try clear c25b1
                                try clear hx197_0
                                try clear hx197_1
                                try clear hx205_0
                                try clear hx205_1
                                try clear hx206_0
                                try clear hx206_1
                                try clear hx207_0
                                try clear hx207_1
                                try clear hx208_0
                                try clear hx208_1
                                try clear p1
                                try clear p19
                                try clear p197
                                try clear p2
                                try clear p20
                                try clear p205
                                try clear p206
                                try clear p207
                                try clear p208
                                try clear p6
                                try clear q1
                                try clear q19
                                try clear q197
                                try clear q2
                                try clear q20
                                try clear q205
                                try clear q206
                                try clear q207
                                try clear q208
                                obtain ⟨kq, x74_21, rfl, HA, HJ21, HO_7, HO_8, HB⟩ := hcut
                                cases kq with
                                | zero => exact absurd HA.out (by simp [casementref09_Share.j4])
                                | succ kj21 =>
                                  have H := HA.out
                                  clear HA
                                  simp only [casementref09_Share.j4] at H
                                  by_cases c26 : x74_21 = true
                                  · subst c26
                                    have H1 : (if 0 ≤ x9_3 then (if x9_3 < (l1.length : Int) then (if ((rd_T70 l1 x9_3).f0) = 0 then (if x8_3.length < 17592186044416 then (if x7_3.length < 17592186044416 then (casementref09_Share.l1 kj21 a0 l1 (x7_3 ++ [wrap64 (Int.tdiv (wrap64 (a0 * ((rd_T70 l1 x9_3).f1))) 100)]) (x8_3 ++ [x9_3]) (wrap64 (x9_3 + 1))) else (none)) else (none)) else (if x7_3.length < 17592186044416 then (casementref09_Share.l1 kj21 a0 l1 (x7_3 ++ [wrap64 (Int.tdiv (wrap64 (a0 * ((rd_T70 l1 x9_3).f1))) 100)]) x8_3 (wrap64 (x9_3 + 1))) else (none))) else (none)) else (none)) = some (r1, r2) := by rw [if_pos rfl] at H; exact H
                                    clear H
                                    have H := H1
                                    clear H1
                                    by_cases c27 : 0 ≤ x9_3
                                    · rw [if_pos c27] at H
                                      have c27b0 : decide (0 ≤ x9_3) = true := decide_eq_true c27
                                      clear c27
                                      by_cases c28 : x9_3 < (l1.length : Int)
                                      · rw [if_pos c28] at H
                                        have c28b0 : decide (x9_3 < (l1.length : Int)) = true := decide_eq_true c28
                                        clear c28
                                        by_cases c29 : ((rd_T70 l1 x9_3).f0) = 0
                                        · rw [if_pos c29] at H
                                          have c29b0 : (((rd_T70 l1 x9_3).f0) == 0) = true := beq_iff_eq.mpr c29
                                          have c29b1 : (((rd_T70 l1 x9_3).f0) != 0) = false := bne_eq_false_iff_eq.mpr c29
                                          clear c29
                                          by_cases c30 : x8_3.length < 17592186044416
                                          · rw [if_pos c30] at H
                                            have LMc30 := Aside0.mk c30
                                            clear c30
                                            obtain ⟨y211, hy211⟩ : ∃ y_ : List Int, y_ = (x8_3 ++ [x9_3]) := ⟨_, rfl⟩
                                            replace H : (if x7_3.length < 17592186044416 then (casementref09_Share.l1 kj21 a0 l1 (x7_3 ++ [wrap64 (Int.tdiv (wrap64 (a0 * ((rd_T70 l1 x9_3).f1))) 100)]) y211 (wrap64 (x9_3 + 1))) else (none)) = some (r1, r2) := by first | (rw [hy211]; with_reducible exact H) | (have H2_ := (Option.bind_some _ _).symm.trans H; rw [hy211]; with_reducible exact H2_) | (have H2_ := (Option.bind_some _ _).symm.trans H; with_reducible exact H2_) | with_reducible exact H | (rw [hy211]; exact H) | exact H
                                            have Ny211 := Aside0.mk hy211
                                            clear hy211
                                            by_cases c31 : x7_3.length < 17592186044416
                                            · rw [if_pos c31] at H
                                              have LMc31 := Aside0.mk c31
                                              clear c31
                                              obtain ⟨y214, hy214⟩ : ∃ y_ : List Int, y_ = (x7_3 ++ [wrap64 (Int.tdiv (wrap64 (a0 * ((rd_T70 l1 x9_3).f1))) 100)]) := ⟨_, rfl⟩
                                              replace H : (casementref09_Share.l1 kj21 a0 l1 y214 y211 (wrap64 (x9_3 + 1))) = some (r1, r2) := by first | (rw [hy214]; with_reducible exact H) | (have H2_ := (Option.bind_some _ _).symm.trans H; rw [hy214]; with_reducible exact H2_) | (have H2_ := (Option.bind_some _ _).symm.trans H; with_reducible exact H2_) | with_reducible exact H | (rw [hy214]; exact H) | exact H
                                              have Ny214 := Aside0.mk hy214
                                              clear hy214
                                              have H' := Aside0.mk H
                                              clear H
                                              have p209 : 0 ≤ (x9_3 : Int) := of_decide_eq_true (by first | (with_reducible assumption) | assumption)
                                              have q209 : x9_3 < (l1.length : Int) := of_decide_eq_true (by first | (with_reducible assumption) | assumption)
                                              obtain ⟨ad209, e209, hx209_0, hx209_1⟩ := at_T70 HR1.out x9_3 p209 q209
                                              obtain rfl : ad205 = ad209 := (by injection e209)
                                              replace hx209_0 := (HB.out.cell (World.block_lt_of_cell? w _ hx209_0)).trans hx209_0
                                              replace hx209_1 := (HB.out.cell (World.block_lt_of_cell? w _ hx209_1)).trans hx209_1
                                              replace p209 := eq_true p209
                                              replace q209 := eq_true q209
                                              have p210 : 0 ≤ (x9_3 : Int) := of_decide_eq_true (by first | (with_reducible assumption) | assumption)
                                              have q210 : x9_3 < (l1.length : Int) := of_decide_eq_true (by first | (with_reducible assumption) | assumption)
                                              obtain ⟨ad210, e210, hx210_0, hx210_1⟩ := at_T70 HR1.out x9_3 p210 q210
                                              obtain rfl : ad205 = ad210 := (by injection e210)
                                              replace hx210_0 := (HB.out.cell (World.block_lt_of_cell? w _ hx210_0)).trans hx210_0
                                              replace hx210_1 := (HB.out.cell (World.block_lt_of_cell? w _ hx210_1)).trans hx210_1
                                              replace p210 := eq_true p210
                                              replace q210 := eq_true q210
                                              go_wp2_with (first | ((with_reducible refine gate_builtin (b := .append) (xs := #[.tmp 89, .tmp 91]) rfl ?_); at_builtin; refine Kd.R_append (Kd.int .i64) (w0 := w) w.heap.size rfl (.tmp 89) (.tmp 91) 32 3 (.int .i64 0) 8 rfl Try.underlying32 info3 rfl (by decide) (by omega) u8 x8_3 x9_3 [.int .i64 x9_3] (fun k_ => some k_ ≠ (u7 : Value).ownBlock) (fun _ => False) rfl rfl ?aP (fun _ hk => hk.elim) ?aF ?aO ?aB ?aS ?aL ?_; (case aP => exact rfl); (case aB => exact (by repeat (first | (with_reducible first | exact HB.out | apply below_alloc | apply pw_below_drewN | apply below_drew1) | exact HB.out))); (case aF => exact (fun k_ hk => Kd.fresh' (Kd.R_lt (by (with_reducible repeat (first | apply Kd.R_alloc | apply Kd.R_drewN | apply Kd.R_drew)); exact HO_7.out)) k_ hk)); (case aO => exact (by (with_reducible repeat (first | apply Kd.R_alloc | apply Kd.R_drewN | apply Kd.R_drew)); exact HO_8.out)); (case aS => exact (below_size (by repeat (first | (with_reducible first | exact HB.out | apply below_alloc | apply pw_below_drewN | apply below_drew1) | exact HB.out)))); (case aL => have := LMc30.out; omega); intro v212 w32 ho hb hg hat; rw [← Ny211.out] at ho; have n0_ := Aside0.mk (Kd.R_after (ok := (fun _ => True)) (by (with_reducible repeat (first | apply Kd.R_alloc | apply Kd.R_drewN | apply Kd.R_drew)); exact Kd.R_mono HO_7.out (fun _ hk => ⟨trivial, hk⟩)) hg hat); have n1_ := Aside0.mk (hb); have n2_ := Aside0.mk (ho); clear HO_7; clear HB; clear HO_8; have HO_7 := n0_; have HB := n1_; have HO213 := n2_; clear n0_ n1_ n2_; clear ho hb hg hat) | ((with_reducible refine gate_builtin (b := .append) (xs := #[.tmp 93, .tmp 95]) rfl ?_); at_builtin; refine Kd.R_append (Kd.int .i64) (w0 := w) w.heap.size rfl (.tmp 93) (.tmp 95) 32 3 (.int .i64 0) 8 rfl Try.underlying32 info3 rfl (by decide) (by omega) u7 x7_3 (wrap64 (Int.tdiv (wrap64 (a0 * ((rd_T70 l1 x9_3).f1))) 100)) [.int .i64 (wrap64 (Int.tdiv (wrap64 (a0 * ((rd_T70 l1 x9_3).f1))) 100))] (fun k_ => some k_ ≠ (v212 : Value).ownBlock) (fun _ => False) rfl rfl ?aP (fun _ hk => hk.elim) ?aF ?aO ?aB ?aS ?aL ?_; (case aP => exact rfl); (case aB => exact (by repeat (first | (with_reducible first | exact HB.out | apply below_alloc | apply pw_below_drewN | apply below_drew1) | exact HB.out))); (case aF => exact (fun k_ hk => Kd.fresh' (Kd.R_lt (by (with_reducible repeat (first | apply Kd.R_alloc | apply Kd.R_drewN | apply Kd.R_drew)); exact HO213.out)) k_ hk)); (case aO => exact (by (with_reducible repeat (first | apply Kd.R_alloc | apply Kd.R_drewN | apply Kd.R_drew)); exact Kd.R_mono HO_7.out (fun _ hk => hk.2))); (case aS => exact (below_size (by repeat (first | (with_reducible first | exact HB.out | apply below_alloc | apply pw_below_drewN | apply below_drew1) | exact HB.out)))); (case aL => have := LMc31.out; omega); intro v215 w33 ho hb hg hat; rw [← Ny214.out] at ho; have n0_ := Aside0.mk (Kd.R_after (ok := (fun _ => True)) (by (with_reducible repeat (first | apply Kd.R_alloc | apply Kd.R_drewN | apply Kd.R_drew)); exact Kd.R_mono HO213.out (fun _ hk => ⟨trivial, hk⟩)) hg hat); have n1_ := Aside0.mk (hb); have n2_ := Aside0.mk (ho); clear HO213; clear HB; clear HO_7; have HO213 := n0_; have HB := n1_; have HO216 := n2_; clear n0_ n1_ n2_; clear ho hb hg hat))
                                              go_roundg kj21
                                              case measure => have := HJ2.out; have := HK2.out; have := HK3.out; have := HJ19.out; have := HJ21.out; omega
                                              case rel => exact ⟨(y214), (y211), (wrap64 (x9_3 + 1)), (by first | rfl | (simp; done) | (simp [*]; done)), H', ⟨by have := HJ2.out; have := HK2.out; have := HK3.out; have := HJ19.out; have := HJ21.out; omega⟩, ⟨by (with_reducible repeat (first | apply Kd.R_alloc | apply Kd.R_drewN | apply Kd.R_drew)); exact HO216.out⟩, ⟨by (with_reducible repeat (first | apply Kd.R_alloc | apply Kd.R_drewN | apply Kd.R_drew)); exact Kd.R_mono HO213.out (fun _ hk => hk.2)⟩, ⟨by repeat (first | (with_reducible first | exact HB.out | apply below_alloc | apply pw_below_drewN | apply below_drew1) | exact HB.out)⟩⟩
                                            · rw [if_neg c31] at H
                                              exact absurd H (by simp)
                                          · rw [if_neg c30] at H
                                            exact absurd H (by simp)
                                        · rw [if_neg c29] at H
                                          have c29b0 : (((rd_T70 l1 x9_3).f0) == 0) = false := beq_eq_false_iff_ne.mpr c29
                                          have c29b1 : (((rd_T70 l1 x9_3).f0) != 0) = true := bne_iff_ne.mpr c29
                                          by_cases c34 : x7_3.length < 17592186044416
                                          · rw [if_pos c34] at H
                                            have LMc34 := Aside0.mk c34
                                            clear c34
                                            obtain ⟨y217, hy217⟩ : ∃ y_ : List Int, y_ = (x7_3 ++ [wrap64 (Int.tdiv (wrap64 (a0 * ((rd_T70 l1 x9_3).f1))) 100)]) := ⟨_, rfl⟩
                                            replace H : (casementref09_Share.l1 kj21 a0 l1 y217 x8_3 (wrap64 (x9_3 + 1))) = some (r1, r2) := by first | (rw [hy217]; with_reducible exact H) | (have H2_ := (Option.bind_some _ _).symm.trans H; rw [hy217]; with_reducible exact H2_) | (have H2_ := (Option.bind_some _ _).symm.trans H; with_reducible exact H2_) | with_reducible exact H | (rw [hy217]; exact H) | exact H
                                            have Ny217 := Aside0.mk hy217
                                            clear hy217
                                            have H' := Aside0.mk H
                                            clear H
                                            have p209 : 0 ≤ (x9_3 : Int) := of_decide_eq_true (by first | (with_reducible assumption) | assumption)
                                            have q209 : x9_3 < (l1.length : Int) := of_decide_eq_true (by first | (with_reducible assumption) | assumption)
                                            obtain ⟨ad209, e209, hx209_0, hx209_1⟩ := at_T70 HR1.out x9_3 p209 q209
                                            obtain rfl : ad205 = ad209 := (by injection e209)
                                            replace hx209_0 := (HB.out.cell (World.block_lt_of_cell? w _ hx209_0)).trans hx209_0
                                            replace hx209_1 := (HB.out.cell (World.block_lt_of_cell? w _ hx209_1)).trans hx209_1
                                            replace p209 := eq_true p209
                                            replace q209 := eq_true q209
                                            have p210 : 0 ≤ (x9_3 : Int) := of_decide_eq_true (by first | (with_reducible assumption) | assumption)
                                            have q210 : x9_3 < (l1.length : Int) := of_decide_eq_true (by first | (with_reducible assumption) | assumption)
                                            obtain ⟨ad210, e210, hx210_0, hx210_1⟩ := at_T70 HR1.out x9_3 p210 q210
                                            obtain rfl : ad205 = ad210 := (by injection e210)
                                            replace hx210_0 := (HB.out.cell (World.block_lt_of_cell? w _ hx210_0)).trans hx210_0
                                            replace hx210_1 := (HB.out.cell (World.block_lt_of_cell? w _ hx210_1)).trans hx210_1
                                            replace p210 := eq_true p210
                                            replace q210 := eq_true q210
                                            go_wp2_with (first | ((with_reducible refine gate_builtin (b := .append) (xs := #[.tmp 93, .tmp 95]) rfl ?_); at_builtin; refine Kd.R_append (Kd.int .i64) (w0 := w) w.heap.size rfl (.tmp 93) (.tmp 95) 32 3 (.int .i64 0) 8 rfl Try.underlying32 info3 rfl (by decide) (by omega) u7 x7_3 (wrap64 (Int.tdiv (wrap64 (a0 * ((rd_T70 l1 x9_3).f1))) 100)) [.int .i64 (wrap64 (Int.tdiv (wrap64 (a0 * ((rd_T70 l1 x9_3).f1))) 100))] (fun k_ => some k_ ≠ (u8 : Value).ownBlock) (fun _ => False) rfl rfl ?aP (fun _ hk => hk.elim) ?aF ?aO ?aB ?aS ?aL ?_; (case aP => exact rfl); (case aB => exact (by repeat (first | (with_reducible first | exact HB.out | apply below_alloc | apply pw_below_drewN | apply below_drew1) | exact HB.out))); (case aF => exact (fun k_ hk => Kd.fresh' (Kd.R_lt (by (with_reducible repeat (first | apply Kd.R_alloc | apply Kd.R_drewN | apply Kd.R_drew)); exact HO_8.out)) k_ hk)); (case aO => exact (by (with_reducible repeat (first | apply Kd.R_alloc | apply Kd.R_drewN | apply Kd.R_drew)); exact HO_7.out)); (case aS => exact (below_size (by repeat (first | (with_reducible first | exact HB.out | apply below_alloc | apply pw_below_drewN | apply below_drew1) | exact HB.out)))); (case aL => have := LMc34.out; omega); intro v218 w35 ho hb hg hat; rw [← Ny217.out] at ho; have n0_ := Aside0.mk (Kd.R_after (ok := (fun _ => True)) (by (with_reducible repeat (first | apply Kd.R_alloc | apply Kd.R_drewN | apply Kd.R_drew)); exact Kd.R_mono HO_8.out (fun _ hk => ⟨trivial, hk⟩)) hg hat); have n1_ := Aside0.mk (hb); have n2_ := Aside0.mk (ho); clear HO_8; clear HB; clear HO_7; have HO_8 := n0_; have HB := n1_; have HO219 := n2_; clear n0_ n1_ n2_; clear ho hb hg hat))
                                            go_roundg kj21
                                            case measure => have := HJ2.out; have := HK2.out; have := HK3.out; have := HJ19.out; have := HJ21.out; omega
                                            case rel => exact ⟨(y217), (x8_3), (wrap64 (x9_3 + 1)), (by first | rfl | (simp; done) | (simp [*]; done)), H', ⟨by have := HJ2.out; have := HK2.out; have := HK3.out; have := HJ19.out; have := HJ21.out; omega⟩, ⟨by (with_reducible repeat (first | apply Kd.R_alloc | apply Kd.R_drewN | apply Kd.R_drew)); exact HO219.out⟩, ⟨by (with_reducible repeat (first | apply Kd.R_alloc | apply Kd.R_drewN | apply Kd.R_drew)); exact Kd.R_mono HO_8.out (fun _ hk => hk.2)⟩, ⟨by repeat (first | (with_reducible first | exact HB.out | apply below_alloc | apply pw_below_drewN | apply below_drew1) | exact HB.out)⟩⟩
                                          · rw [if_neg c34] at H
                                            exact absurd H (by simp)
                                      · rw [if_neg c28] at H
                                        exact absurd H (by simp)
                                    · rw [if_neg c27] at H
                                      exact absurd H (by simp)
                                  · replace c26 := Bool.eq_false_iff.mpr c26
                                    subst c26
                                    have H1 : (if 0 ≤ x9_3 then (if x9_3 < (l1.length : Int) then (if ((rd_T70 l1 x9_3).f0) = 0 then (if x8_3.length < 17592186044416 then (if x7_3.length < 17592186044416 then (casementref09_Share.l1 kj21 a0 l1 (x7_3 ++ [x10_19]) (x8_3 ++ [x9_3]) (wrap64 (x9_3 + 1))) else (none)) else (none)) else (if x7_3.length < 17592186044416 then (casementref09_Share.l1 kj21 a0 l1 (x7_3 ++ [x10_19]) x8_3 (wrap64 (x9_3 + 1))) else (none))) else (none)) else (none)) = some (r1, r2) := by rw [if_neg (show ¬ (false = true) by decide)] at H; exact H
                                    clear H
                                    have H := H1
                                    clear H1
                                    by_cases c36 : 0 ≤ x9_3
                                    · rw [if_pos c36] at H
                                      have c36b0 : decide (0 ≤ x9_3) = true := decide_eq_true c36
                                      clear c36
                                      by_cases c37 : x9_3 < (l1.length : Int)
                                      · rw [if_pos c37] at H
                                        have c37b0 : decide (x9_3 < (l1.length : Int)) = true := decide_eq_true c37
                                        clear c37
                                        by_cases c38 : ((rd_T70 l1 x9_3).f0) = 0
                                        · rw [if_pos c38] at H
                                          have c38b0 : (((rd_T70 l1 x9_3).f0) == 0) = true := beq_iff_eq.mpr c38
                                          have c38b1 : (((rd_T70 l1 x9_3).f0) != 0) = false := bne_eq_false_iff_eq.mpr c38
                                          clear c38
                                          by_cases c39 : x8_3.length < 17592186044416
                                          · rw [if_pos c39] at H
                                            have LMc39 := Aside0.mk c39
                                            clear c39
                                            obtain ⟨y221, hy221⟩ : ∃ y_ : List Int, y_ = (x8_3 ++ [x9_3]) := ⟨_, rfl⟩
                                            replace H : (if x7_3.length < 17592186044416 then (casementref09_Share.l1 kj21 a0 l1 (x7_3 ++ [x10_19]) y221 (wrap64 (x9_3 + 1))) else (none)) = some (r1, r2) := by first | (rw [hy221]; with_reducible exact H) | (have H2_ := (Option.bind_some _ _).symm.trans H; rw [hy221]; with_reducible exact H2_) | (have H2_ := (Option.bind_some _ _).symm.trans H; with_reducible exact H2_) | with_reducible exact H | (rw [hy221]; exact H) | exact H
                                            have Ny221 := Aside0.mk hy221
                                            clear hy221
                                            by_cases c40 : x7_3.length < 17592186044416
                                            · rw [if_pos c40] at H
                                              have LMc40 := Aside0.mk c40
                                              clear c40
                                              obtain ⟨y224, hy224⟩ : ∃ y_ : List Int, y_ = (x7_3 ++ [x10_19]) := ⟨_, rfl⟩
                                              replace H : (casementref09_Share.l1 kj21 a0 l1 y224 y221 (wrap64 (x9_3 + 1))) = some (r1, r2) := by first | (rw [hy224]; with_reducible exact H) | (have H2_ := (Option.bind_some _ _).symm.trans H; rw [hy224]; with_reducible exact H2_) | (have H2_ := (Option.bind_some _ _).symm.trans H; with_reducible exact H2_) | with_reducible exact H | (rw [hy224]; exact H) | exact H
                                              have Ny224 := Aside0.mk hy224
                                              clear hy224
                                              have H' := Aside0.mk H
                                              clear H
                                              have p220 : 0 ≤ (x9_3 : Int) := of_decide_eq_true (by first | (with_reducible assumption) | assumption)
                                              have q220 : x9_3 < (l1.length : Int) := of_decide_eq_true (by first | (with_reducible assumption) | assumption)
                                              obtain ⟨ad220, e220, hx220_0, hx220_1⟩ := at_T70 HR1.out x9_3 p220 q220
                                              obtain rfl : ad205 = ad220 := (by injection e220)
                                              replace hx220_0 := (HB.out.cell (World.block_lt_of_cell? w _ hx220_0)).trans hx220_0
                                              replace hx220_1 := (HB.out.cell (World.block_lt_of_cell? w _ hx220_1)).trans hx220_1
                                              replace p220 := eq_true p220
                                              replace q220 := eq_true q220
                                              go_wp2_with (first | ((with_reducible refine gate_builtin (b := .append) (xs := #[.tmp 89, .tmp 91]) rfl ?_); at_builtin; refine Kd.R_append (Kd.int .i64) (w0 := w) w.heap.size rfl (.tmp 89) (.tmp 91) 32 3 (.int .i64 0) 8 rfl Try.underlying32 info3 rfl (by decide) (by omega) u8 x8_3 x9_3 [.int .i64 x9_3] (fun k_ => some k_ ≠ (u7 : Value).ownBlock) (fun _ => False) rfl rfl ?aP (fun _ hk => hk.elim) ?aF ?aO ?aB ?aS ?aL ?_; (case aP => exact rfl); (case aB => exact (by repeat (first | (with_reducible first | exact HB.out | apply below_alloc | apply pw_below_drewN | apply below_drew1) | exact HB.out))); (case aF => exact (fun k_ hk => Kd.fresh' (Kd.R_lt (by (with_reducible repeat (first | apply Kd.R_alloc | apply Kd.R_drewN | apply Kd.R_drew)); exact HO_7.out)) k_ hk)); (case aO => exact (by (with_reducible repeat (first | apply Kd.R_alloc | apply Kd.R_drewN | apply Kd.R_drew)); exact HO_8.out)); (case aS => exact (below_size (by repeat (first | (with_reducible first | exact HB.out | apply below_alloc | apply pw_below_drewN | apply below_drew1) | exact HB.out)))); (case aL => have := LMc39.out; omega); intro v222 w41 ho hb hg hat; rw [← Ny221.out] at ho; have n0_ := Aside0.mk (Kd.R_after (ok := (fun _ => True)) (by (with_reducible repeat (first | apply Kd.R_alloc | apply Kd.R_drewN | apply Kd.R_drew)); exact Kd.R_mono HO_7.out (fun _ hk => ⟨trivial, hk⟩)) hg hat); have n1_ := Aside0.mk (hb); have n2_ := Aside0.mk (ho); clear HO_7; clear HB; clear HO_8; have HO_7 := n0_; have HB := n1_; have HO223 := n2_; clear n0_ n1_ n2_; clear ho hb hg hat) | ((with_reducible refine gate_builtin (b := .append) (xs := #[.tmp 93, .tmp 95]) rfl ?_); at_builtin; refine Kd.R_append (Kd.int .i64) (w0 := w) w.heap.size rfl (.tmp 93) (.tmp 95) 32 3 (.int .i64 0) 8 rfl Try.underlying32 info3 rfl (by decide) (by omega) u7 x7_3 x10_19 [.int .i64 x10_19] (fun k_ => some k_ ≠ (v222 : Value).ownBlock) (fun _ => False) rfl rfl ?aP (fun _ hk => hk.elim) ?aF ?aO ?aB ?aS ?aL ?_; (case aP => exact rfl); (case aB => exact (by repeat (first | (with_reducible first | exact HB.out | apply below_alloc | apply pw_below_drewN | apply below_drew1) | exact HB.out))); (case aF => exact (fun k_ hk => Kd.fresh' (Kd.R_lt (by (with_reducible repeat (first | apply Kd.R_alloc | apply Kd.R_drewN | apply Kd.R_drew)); exact HO223.out)) k_ hk)); (case aO => exact (by (with_reducible repeat (first | apply Kd.R_alloc | apply Kd.R_drewN | apply Kd.R_drew)); exact Kd.R_mono HO_7.out (fun _ hk => hk.2))); (case aS => exact (below_size (by repeat (first | (with_reducible first | exact HB.out | apply below_alloc | apply pw_below_drewN | apply below_drew1) | exact HB.out)))); (case aL => have := LMc40.out; omega); intro v225 w42 ho hb hg hat; rw [← Ny224.out] at ho; have n0_ := Aside0.mk (Kd.R_after (ok := (fun _ => True)) (by (with_reducible repeat (first | apply Kd.R_alloc | apply Kd.R_drewN | apply Kd.R_drew)); exact Kd.R_mono HO223.out (fun _ hk => ⟨trivial, hk⟩)) hg hat); have n1_ := Aside0.mk (hb); have n2_ := Aside0.mk (ho); clear HO223; clear HB; clear HO_7; have HO223 := n0_; have HB := n1_; have HO226 := n2_; clear n0_ n1_ n2_; clear ho hb hg hat))
                                              go_roundg kj21
                                              case measure => have := HJ2.out; have := HK2.out; have := HK3.out; have := HJ19.out; have := HJ21.out; omega
                                              case rel => exact ⟨(y224), (y221), (wrap64 (x9_3 + 1)), (by first | rfl | (simp; done) | (simp [*]; done)), H', ⟨by have := HJ2.out; have := HK2.out; have := HK3.out; have := HJ19.out; have := HJ21.out; omega⟩, ⟨by (with_reducible repeat (first | apply Kd.R_alloc | apply Kd.R_drewN | apply Kd.R_drew)); exact HO226.out⟩, ⟨by (with_reducible repeat (first | apply Kd.R_alloc | apply Kd.R_drewN | apply Kd.R_drew)); exact Kd.R_mono HO223.out (fun _ hk => hk.2)⟩, ⟨by repeat (first | (with_reducible first | exact HB.out | apply below_alloc | apply pw_below_drewN | apply below_drew1) | exact HB.out)⟩⟩
                                            · rw [if_neg c40] at H
                                              exact absurd H (by simp)
                                          · rw [if_neg c39] at H
                                            exact absurd H (by simp)
                                        · rw [if_neg c38] at H
                                          have c38b0 : (((rd_T70 l1 x9_3).f0) == 0) = false := beq_eq_false_iff_ne.mpr c38
                                          have c38b1 : (((rd_T70 l1 x9_3).f0) != 0) = true := bne_iff_ne.mpr c38
                                          by_cases c43 : x7_3.length < 17592186044416
                                          · rw [if_pos c43] at H
                                            have LMc43 := Aside0.mk c43
                                            clear c43
                                            obtain ⟨y227, hy227⟩ : ∃ y_ : List Int, y_ = (x7_3 ++ [x10_19]) := ⟨_, rfl⟩
                                            replace H : (casementref09_Share.l1 kj21 a0 l1 y227 x8_3 (wrap64 (x9_3 + 1))) = some (r1, r2) := by first | (rw [hy227]; with_reducible exact H) | (have H2_ := (Option.bind_some _ _).symm.trans H; rw [hy227]; with_reducible exact H2_) | (have H2_ := (Option.bind_some _ _).symm.trans H; with_reducible exact H2_) | with_reducible exact H | (rw [hy227]; exact H) | exact H
                                            have Ny227 := Aside0.mk hy227
                                            clear hy227
                                            have H' := Aside0.mk H
                                            clear H
                                            have p220 : 0 ≤ (x9_3 : Int) := of_decide_eq_true (by first | (with_reducible assumption) | assumption)
                                            have q220 : x9_3 < (l1.length : Int) := of_decide_eq_true (by first | (with_reducible assumption) | assumption)
                                            obtain ⟨ad220, e220, hx220_0, hx220_1⟩ := at_T70 HR1.out x9_3 p220 q220
                                            obtain rfl : ad205 = ad220 := (by injection e220)
                                            replace hx220_0 := (HB.out.cell (World.block_lt_of_cell? w _ hx220_0)).trans hx220_0
                                            replace hx220_1 := (HB.out.cell (World.block_lt_of_cell? w _ hx220_1)).trans hx220_1
                                            replace p220 := eq_true p220
                                            replace q220 := eq_true q220
                                            go_wp2_with (first | ((with_reducible refine gate_builtin (b := .append) (xs := #[.tmp 93, .tmp 95]) rfl ?_); at_builtin; refine Kd.R_append (Kd.int .i64) (w0 := w) w.heap.size rfl (.tmp 93) (.tmp 95) 32 3 (.int .i64 0) 8 rfl Try.underlying32 info3 rfl (by decide) (by omega) u7 x7_3 x10_19 [.int .i64 x10_19] (fun k_ => some k_ ≠ (u8 : Value).ownBlock) (fun _ => False) rfl rfl ?aP (fun _ hk => hk.elim) ?aF ?aO ?aB ?aS ?aL ?_; (case aP => exact rfl); (case aB => exact (by repeat (first | (with_reducible first | exact HB.out | apply below_alloc | apply pw_below_drewN | apply below_drew1) | exact HB.out))); (case aF => exact (fun k_ hk => Kd.fresh' (Kd.R_lt (by (with_reducible repeat (first | apply Kd.R_alloc | apply Kd.R_drewN | apply Kd.R_drew)); exact HO_8.out)) k_ hk)); (case aO => exact (by (with_reducible repeat (first | apply Kd.R_alloc | apply Kd.R_drewN | apply Kd.R_drew)); exact HO_7.out)); (case aS => exact (below_size (by repeat (first | (with_reducible first | exact HB.out | apply below_alloc | apply pw_below_drewN | apply below_drew1) | exact HB.out)))); (case aL => have := LMc43.out; omega); intro v228 w44 ho hb hg hat; rw [← Ny227.out] at ho; have n0_ := Aside0.mk (Kd.R_after (ok := (fun _ => True)) (by (with_reducible repeat (first | apply Kd.R_alloc | apply Kd.R_drewN | apply Kd.R_drew)); exact Kd.R_mono HO_8.out (fun _ hk => ⟨trivial, hk⟩)) hg hat); have n1_ := Aside0.mk (hb); have n2_ := Aside0.mk (ho); clear HO_8; clear HB; clear HO_7; have HO_8 := n0_; have HB := n1_; have HO229 := n2_; clear n0_ n1_ n2_; clear ho hb hg hat))
                                            go_roundg kj21
                                            case measure => have := HJ2.out; have := HK2.out; have := HK3.out; have := HJ19.out; have := HJ21.out; omega
                                            case rel => exact ⟨(y227), (x8_3), (wrap64 (x9_3 + 1)), (by first | rfl | (simp; done) | (simp [*]; done)), H', ⟨by have := HJ2.out; have := HK2.out; have := HK3.out; have := HJ19.out; have := HJ21.out; omega⟩, ⟨by (with_reducible repeat (first | apply Kd.R_alloc | apply Kd.R_drewN | apply Kd.R_drew)); exact HO229.out⟩, ⟨by (with_reducible repeat (first | apply Kd.R_alloc | apply Kd.R_drewN | apply Kd.R_drew)); exact Kd.R_mono HO_8.out (fun _ hk => hk.2)⟩, ⟨by repeat (first | (with_reducible first | exact HB.out | apply below_alloc | apply pw_below_drewN | apply below_drew1) | exact HB.out)⟩⟩
                                          · rw [if_neg c43] at H
                                            exact absurd H (by simp)
                                      · rw [if_neg c37] at H
                                        exact absurd H (by simp)
                                    · rw [if_neg c36] at H
                                      exact absurd H (by simp)
                        · rw [if_neg c19] at H
                          exact absurd H (by simp)
                      · rw [if_neg c18] at H
                        have c18b0 : decide (x9_3 < (l1.length : Int)) = false := decide_eq_false c18
                        clear c18
                        have H' := Aside0.mk H
                        clear H
                        go_wp2
                        go_loopg [7] k3 (fun kq v7 w' => ∃ (x7_4 : List Int), Aside0 (casementref09_Share.l2 kq a0 l1 x7_4 x8_3 = some (r1, r2)) ∧ Aside0 (kq ≤ k3) ∧ Aside0 (Kd.R (Kd.int .i64) 3 w' w.heap.size (fun k_ => some k_ ≠ (u8 : Value).ownBlock) v7 x7_4) ∧ Aside0 (Kd.R (Kd.int .i64) 3 w' w.heap.size (fun k_ => some k_ ≠ (v7 : Value).ownBlock) u8 x8_3) ∧ Aside0 (Below w.heap.size w w'))
                        case atStart => exact ⟨(x7_3), H', ⟨Nat.le_refl _⟩, ⟨by (with_reducible repeat (first | apply Kd.R_alloc | apply Kd.R_drewN | apply Kd.R_drew)); exact HO_7.out⟩, ⟨by (with_reducible repeat (first | apply Kd.R_alloc | apply Kd.R_drewN | apply Kd.R_drew)); exact HO_8.out⟩, ⟨by repeat (first | (with_reducible first | exact HB.out | apply below_alloc | apply pw_below_drewN | apply below_drew1) | exact HB.out)⟩⟩
                        case round =>
                          clear H'
                          try clear c1
                          try clear p1
                          try clear q1
                          try clear hx1
                          try clear c2
                          try clear p2
                          try clear q2
                          try clear hx2
                          try clear c3
                          try clear c4
                          try clear c4b0
                          try clear c4b1
                          try clear c4b2
                          try clear c5
                          try clear c6
                          try clear c6b0
                          try clear p6
                          try clear c7
                          try clear c7b0
                          try clear c9
                          try clear c12
                          try clear c12b0
                          try clear c12b1
                          try clear c13
                          try clear c13b0
                          try clear c18
                          try clear c18b0
                          try clear c19
                          try clear c19b0
                          try clear p19
                          try clear q19
                          try clear hx19
                          try clear p20
                          try clear q20
                          try clear hx20
                          try clear c21
                          try clear c21b0
                          try clear c21b1
                          try clear p21
                          try clear q21
                          try clear hx21
                          try clear p22
                          try clear q22
                          try clear hx22
                          try clear c23
                          try clear c23b0
                          try clear c24
                          try clear c24b0
                          try clear c25
                          try clear c25b0
                          try clear c25b1
                          try clear c26
                          try clear c27
                          try clear c27b0
                          try clear c28
                          try clear c28b0
                          try clear c29
                          try clear c29b0
                          try clear c29b1
                          try clear c30
                          try clear c31
                          try clear c34
                          try clear c36
                          try clear c36b0
                          try clear c37
                          try clear c37b0
                          try clear c38
                          try clear c38b0
                          try clear c38b1
                          try clear c39
                          try clear c40
                          try clear c43
                          try clear c44
                          try clear hx197_0
                          try clear hx197_1
                          try clear hx205_0
                          try clear hx205_1
                          try clear hx206_0
                          try clear hx206_1
                          try clear hx207_0
                          try clear hx207_1
                          try clear hx208_0
                          try clear hx208_1
                          try clear hx209_0
                          try clear hx209_1
                          try clear hx210_0
                          try clear hx210_1
                          try clear hx220_0
                          try clear hx220_1
                          try clear p1
                          try clear p19
                          try clear p197
                          try clear p2
                          try clear p20
                          try clear p205
                          try clear p206
                          try clear p207
                          try clear p208
                          try clear p209
                          try clear p210
                          try clear p220
                          try clear p6
                          try clear q1
                          try clear q19
                          try clear q197
                          try clear q2
                          try clear q20
                          try clear q205
                          try clear q206
                          try clear q207
                          try clear q208
                          try clear q209
                          try clear q210
                          try clear q220
                          obtain ⟨x7_4, HA, HK4, HO_7, HO_8, HB⟩ := hrel
                          cases gk with
                          | zero => exact absurd HA.out (by simp [casementref09_Share.l2])
                          | succ k4 =>
                            have H := HA.out
                            clear HA
                            simp only [casementref09_Share.l2] at H
                            replace H := Option.bind_eq_some_iff.mp H
                            obtain ⟨t230, A450, H⟩ := H
                            replace H : (if t230 > a0 then (casementref09_Share.l3 k4 a0 l1 x7_4 x8_3 0 0) else (casementref09_Share.l4 k4 a0 x7_4 x8_3 0)) = some (r1, r2) := H
                            have A45 := Aside0.mk A450
                            clear A450
                            by_cases c46 : t230 > a0
                            · rw [if_pos c46] at H
                              have c46b0 : decide (a0 < t230) = true := decide_eq_true c46
                              clear c46
                              have H' := Aside0.mk H
                              clear H
                              obtain ⟨Ao47, co47, eo47⟩ := Kd.R_slice HO_7.out
                              subst eo47
                              go_wp2_with (first | ((with_reducible refine gate_callee (f := 54) rfl ?_); refine goesL_ (some 98) rfl rfl Try.func54 (by kernel_rfl) rfl #[.slice Ao47 x7_4.length co47] rfl (by (try simp only [List.map_toArray, List.map_cons, List.map_nil]); first | done | rfl | (simp only [List.length_drop, List.length_take]; rfl)) ?_; (with_reducible refine (casementref09_sum.calls k4 _ _ x7_4 t230 _ ?side1 ?side2 A45.out).mono ?_); (case side1 => repeat (first | exact (Kd.R_reads' HO_7.out).2.2 | (with_reducible refine Kd.C_alloc ?_ _) | (with_reducible refine Kd.C_drewN ?_ _) | (with_reducible refine Kd.C_drew ?_))); (case side2 => exact (Kd.R_reads' HO_7.out).2.1); rintro e w' ⟨rfl, ⟨nd, rfl⟩⟩; refine ⟨_, rfl, ?_⟩))
                              go_loopg [11, 12] k4 (fun kq v11 v12 w' => ∃ (x11_5 : Int) (x12_5 : Int), v11 = .int .i64 x11_5 ∧ v12 = .int .i64 x12_5 ∧ Aside0 (casementref09_Share.l3 kq a0 l1 x7_4 x8_3 x11_5 x12_5 = some (r1, r2)) ∧ Aside0 (kq ≤ k4) ∧ Aside0 (Kd.R (Kd.int .i64) 3 w' w.heap.size (fun k_ => some k_ ≠ (u8 : Value).ownBlock) (.slice Ao47 x7_4.length co47) x7_4) ∧ Aside0 (Kd.R (Kd.int .i64) 3 w' w.heap.size (fun k_ => some k_ ≠ ((.slice Ao47 x7_4.length co47) : Value).ownBlock) u8 x8_3) ∧ Aside0 (Below w.heap.size w w'))
                              case atStart => exact ⟨(0), (0), (by first | rfl | (simp; done) | (simp [*]; done)), (by first | rfl | (simp; done) | (simp [*]; done)), H', ⟨Nat.le_refl _⟩, ⟨by (with_reducible repeat (first | apply Kd.R_alloc | apply Kd.R_drewN | apply Kd.R_drew)); exact HO_7.out⟩, ⟨by (with_reducible repeat (first | apply Kd.R_alloc | apply Kd.R_drewN | apply Kd.R_drew)); exact HO_8.out⟩, ⟨by repeat (first | (with_reducible first | exact HB.out | apply below_alloc | apply pw_below_drewN | apply below_drew1) | exact HB.out)⟩⟩
                              case round =>
                                clear H'
                                try clear c1
                                try clear p1
                                try clear q1
                                try clear hx1
                                try clear c2
                                try clear p2
                                try clear q2
                                try clear hx2
                                try clear c3
                                try clear c4
                                try clear c4b0
                                try clear c4b1
                                try clear c4b2
                                try clear c5
                                try clear c6
                                try clear c6b0
                                try clear p6
                                try clear c7
                                try clear c7b0
                                try clear c9
                                try clear c12
                                try clear c12b0
                                try clear c12b1
                                try clear c13
                                try clear c13b0
                                try clear c18
                                try clear c18b0
                                try clear c19
                                try clear c19b0
                                try clear p19
                                try clear q19
                                try clear hx19
                                try clear p20
                                try clear q20
                                try clear hx20
                                try clear c21
                                try clear c21b0
                                try clear c21b1
                                try clear p21
                                try clear q21
                                try clear hx21
                                try clear p22
                                try clear q22
                                try clear hx22
                                try clear c23
                                try clear c23b0
                                try clear c24
                                try clear c24b0
                                try clear c25
                                try clear c25b0
                                try clear c25b1
                                try clear c26
                                try clear c27
                                try clear c27b0
                                try clear c28
                                try clear c28b0
                                try clear c29
                                try clear c29b0
                                try clear c29b1
                                try clear c30
                                try clear c31
                                try clear c34
                                try clear c36
                                try clear c36b0
                                try clear c37
                                try clear c37b0
                                try clear c38
                                try clear c38b0
                                try clear c38b1
                                try clear c39
                                try clear c40
                                try clear c43
                                try clear c44
                                try clear c46
                                try clear c46b0
                                try clear hx197_0
                                try clear hx197_1
                                try clear hx205_0
                                try clear hx205_1
                                try clear hx206_0
                                try clear hx206_1
                                try clear hx207_0
                                try clear hx207_1
                                try clear hx208_0
                                try clear hx208_1
                                try clear hx209_0
                                try clear hx209_1
                                try clear hx210_0
                                try clear hx210_1
                                try clear hx220_0
                                try clear hx220_1
                                try clear p1
                                try clear p19
                                try clear p197
                                try clear p2
                                try clear p20
                                try clear p205
                                try clear p206
                                try clear p207
                                try clear p208
                                try clear p209
                                try clear p21
                                try clear p210
                                try clear p22
                                try clear p220
                                try clear p6
                                try clear q1
                                try clear q19
                                try clear q197
                                try clear q2
                                try clear q20
                                try clear q205
                                try clear q206
                                try clear q207
                                try clear q208
                                try clear q209
                                try clear q21
                                try clear q210
                                try clear q22
                                try clear q220
                                obtain ⟨x11_5, x12_5, rfl, rfl, HA, HK5, HO_7, HO_8, HB⟩ := hrel
                                cases gk with
                                | zero => exact absurd HA.out (by simp [casementref09_Share.l3])
                                | succ k5 =>
                                  have H := HA.out
                                  clear HA
                                  simp only [casementref09_Share.l3] at H
                                  by_cases c48 : x12_5 < (x7_4.length : Int)
                                  · rw [if_pos c48] at H
                                    have c48b0 : decide (x12_5 < (x7_4.length : Int)) = true := decide_eq_true c48
                                    clear c48
                                    by_cases c49 : 0 ≤ x12_5
                                    · rw [if_pos c49] at H
                                      have c49b0 : decide (0 ≤ x12_5) = true := decide_eq_true c49
                                      clear c49
                                      by_cases c50 : (rd x7_4 x12_5) > 1
                                      · rw [if_pos c50] at H
                                        have c50b0 : decide (1 < (rd x7_4 x12_5)) = true := decide_eq_true c50
                                        clear c50
                                        by_cases c51 : x12_5 < (l1.length : Int)
                                        · rw [if_pos c51] at H
                                          have c51b0 : decide (x12_5 < (l1.length : Int)) = true := decide_eq_true c51
                                          clear c51
                                          by_cases c52 : ((rd_T70 l1 x12_5).f0) = 0
                                          · rw [if_pos c52] at H
                                            have c52b0 : (((rd_T70 l1 x12_5).f0) == 0) = true := beq_iff_eq.mpr c52
                                            have c52b1 : (((rd_T70 l1 x12_5).f0) != 0) = false := bne_eq_false_iff_eq.mpr c52
                                            clear c52
                                            have H' := Aside0.mk H
                                            clear H
                                            have p231 : 0 ≤ (x12_5 : Int) := of_decide_eq_true (by first | (with_reducible assumption) | assumption)
                                            have q231 : x12_5 < (x7_4.length : Int) := of_decide_eq_true (by first | (with_reducible assumption) | assumption)
                                            obtain ⟨ad231, e231, hx231_0⟩ := Kd.at_int (Kd.R_reads' HO_7.out).2.2 x12_5 p231 q231
                                            cases e231
                                            replace p231 := eq_true p231
                                            replace q231 := eq_true q231
                                            have p232 : 0 ≤ (x12_5 : Int) := of_decide_eq_true (by first | (with_reducible assumption) | assumption)
                                            have q232 : x12_5 < (l1.length : Int) := of_decide_eq_true (by first | (with_reducible assumption) | assumption)
                                            obtain ⟨ad232, e232, hx232_0, hx232_1⟩ := at_T70 HR1.out x12_5 p232 q232
                                            cases e232
                                            replace hx232_0 := (HB.out.cell (World.block_lt_of_cell? w _ hx232_0)).trans hx232_0
                                            replace hx232_1 := (HB.out.cell (World.block_lt_of_cell? w _ hx232_1)).trans hx232_1
                                            replace p232 := eq_true p232
                                            replace q232 := eq_true q232
                                            go_wp2
                                            go_roundg k5
                                            case measure => have := HJ2.out; have := HK2.out; have := HK3.out; have := HK4.out; have := HK5.out; omega
                                            case rel => exact ⟨(x11_5), (wrap64 (x12_5 + 1)), (by first | rfl | (simp; done) | (simp [*]; done)), (by first | rfl | (simp; done) | (simp [*]; done)), H', ⟨by have := HJ2.out; have := HK2.out; have := HK3.out; have := HK4.out; have := HK5.out; omega⟩, ⟨by (with_reducible repeat (first | apply Kd.R_alloc | apply Kd.R_drewN | apply Kd.R_drew)); exact HO_7.out⟩, ⟨by (with_reducible repeat (first | apply Kd.R_alloc | apply Kd.R_drewN | apply Kd.R_drew)); exact HO_8.out⟩, ⟨by repeat (first | (with_reducible first | exact HB.out | apply below_alloc | apply pw_below_drewN | apply below_drew1) | exact HB.out)⟩⟩
                                          · rw [if_neg c52] at H
                                            have c52b0 : (((rd_T70 l1 x12_5).f0) == 0) = false := beq_eq_false_iff_ne.mpr c52
                                            have c52b1 : (((rd_T70 l1 x12_5).f0) != 0) = true := bne_iff_ne.mpr c52
                                            have H' := Aside0.mk H
                                            clear H
                                            have p231 : 0 ≤ (x12_5 : Int) := of_decide_eq_true (by first | (with_reducible assumption) | assumption)
                                            have q231 : x12_5 < (x7_4.length : Int) := of_decide_eq_true (by first | (with_reducible assumption) | assumption)
                                            obtain ⟨ad231, e231, hx231_0⟩ := Kd.at_int (Kd.R_reads' HO_7.out).2.2 x12_5 p231 q231
                                            cases e231
                                            replace p231 := eq_true p231
                                            replace q231 := eq_true q231
                                            have p232 : 0 ≤ (x12_5 : Int) := of_decide_eq_true (by first | (with_reducible assumption) | assumption)
                                            have q232 : x12_5 < (l1.length : Int) := of_decide_eq_true (by first | (with_reducible assumption) | assumption)
                                            obtain ⟨ad232, e232, hx232_0, hx232_1⟩ := at_T70 HR1.out x12_5 p232 q232
                                            cases e232
                                            replace hx232_0 := (HB.out.cell (World.block_lt_of_cell? w _ hx232_0)).trans hx232_0
                                            replace hx232_1 := (HB.out.cell (World.block_lt_of_cell? w _ hx232_1)).trans hx232_1
                                            replace p232 := eq_true p232
                                            replace q232 := eq_true q232
                                            go_wp2
                                            go_roundg k5
                                            case measure => have := HJ2.out; have := HK2.out; have := HK3.out; have := HK4.out; have := HK5.out; omega
                                            case rel => exact ⟨(x12_5), (wrap64 (x12_5 + 1)), (by first | rfl | (simp; done) | (simp [*]; done)), (by first | rfl | (simp; done) | (simp [*]; done)), H', ⟨by have := HJ2.out; have := HK2.out; have := HK3.out; have := HK4.out; have := HK5.out; omega⟩, ⟨by (with_reducible repeat (first | apply Kd.R_alloc | apply Kd.R_drewN | apply Kd.R_drew)); exact HO_7.out⟩, ⟨by (with_reducible repeat (first | apply Kd.R_alloc | apply Kd.R_drewN | apply Kd.R_drew)); exact HO_8.out⟩, ⟨by repeat (first | (with_reducible first | exact HB.out | apply below_alloc | apply pw_below_drewN | apply below_drew1) | exact HB.out)⟩⟩
                                        · rw [if_neg c51] at H
                                          exact absurd H (by simp)
                                      · rw [if_neg c50] at H
                                        have c50b0 : decide (1 < (rd x7_4 x12_5)) = false := decide_eq_false c50
                                        clear c50
                                        have H' := Aside0.mk H
                                        clear H
                                        have p231 : 0 ≤ (x12_5 : Int) := of_decide_eq_true (by first | (with_reducible assumption) | assumption)
                                        have q231 : x12_5 < (x7_4.length : Int) := of_decide_eq_true (by first | (with_reducible assumption) | assumption)
                                        obtain ⟨ad231, e231, hx231_0⟩ := Kd.at_int (Kd.R_reads' HO_7.out).2.2 x12_5 p231 q231
                                        cases e231
                                        replace p231 := eq_true p231
                                        replace q231 := eq_true q231
                                        go_wp2
                                        go_roundg k5
                                        case measure => have := HJ2.out; have := HK2.out; have := HK3.out; have := HK4.out; have := HK5.out; omega
                                        case rel => exact ⟨(x11_5), (wrap64 (x12_5 + 1)), (by first | rfl | (simp; done) | (simp [*]; done)), (by first | rfl | (simp; done) | (simp [*]; done)), H', ⟨by have := HJ2.out; have := HK2.out; have := HK3.out; have := HK4.out; have := HK5.out; omega⟩, ⟨by (with_reducible repeat (first | apply Kd.R_alloc | apply Kd.R_drewN | apply Kd.R_drew)); exact HO_7.out⟩, ⟨by (with_reducible repeat (first | apply Kd.R_alloc | apply Kd.R_drewN | apply Kd.R_drew)); exact HO_8.out⟩, ⟨by repeat (first | (with_reducible first | exact HB.out | apply below_alloc | apply pw_below_drewN | apply below_drew1) | exact HB.out)⟩⟩
                                    · rw [if_neg c49] at H
                                      exact absurd H (by simp)
                                  · rw [if_neg c48] at H
                                    have c48b0 : decide (x12_5 < (x7_4.length : Int)) = false := decide_eq_false c48
                                    clear c48
                                    replace H := Option.bind_eq_some_iff.mp H
                                    obtain ⟨t233, A530, H⟩ := H
                                    replace H : (casementref09_Share.l2 k5 a0 l1 t233 x8_3) = some (r1, r2) := H
                                    have A53 := Aside0.mk A530
                                    clear A530
                                    have H' := Aside0.mk H
                                    clear H
                                    go_wp2_with (first | ((with_reducible refine gate_callee (f := 55) rfl ?_); refine goesL_ (some 123) rfl rfl Try.func55 (by kernel_rfl) rfl #[.slice Ao47 x7_4.length co47, .int .i64 x11_5, .int .i64 (-1)] rfl (by (try simp only [List.map_toArray, List.map_cons, List.map_nil]); first | done | rfl | (simp only [List.length_drop, List.length_take]; rfl)) ?_; (with_reducible refine (casementref09_change.calls k5 _ _ x7_4 x11_5 (-1) t233 _ ?side1 ?side2 A53.out).mono ?_); (case side1 => repeat (first | exact (Kd.R_reads' HO_7.out).2.2 | (with_reducible refine Kd.C_alloc ?_ _) | (with_reducible refine Kd.C_drewN ?_ _) | (with_reducible refine Kd.C_drew ?_))); (case side2 => exact (Kd.R_reads' HO_7.out).2.1); rintro e w54 ⟨v234, rfl, ho0, hb⟩; refine ⟨_, rfl, ?_⟩; have n0_ := Aside0.mk (Kd.R_elder' (by (with_reducible repeat (first | apply Kd.R_alloc | apply Kd.R_drewN | apply Kd.R_drew)); exact HO_7.out) (Kd.R_base ho0) hb); have n1_ := Aside0.mk (Kd.R_elder' (by (with_reducible repeat (first | apply Kd.R_alloc | apply Kd.R_drewN | apply Kd.R_drew)); exact HO_8.out) (Kd.R_base ho0) hb); have n2_ := Aside0.mk (Kd.R_lower (Kd.R_new' (Kd.R_new' ho0 (Kd.R_lt (by (with_reducible repeat (first | apply Kd.R_alloc | apply Kd.R_drewN | apply Kd.R_drew)); exact HO_7.out))) (Kd.R_lt (by (with_reducible repeat (first | apply Kd.R_alloc | apply Kd.R_drewN | apply Kd.R_drew)); exact HO_8.out))) (below_size (by repeat (first | (with_reducible first | exact HB.out | apply below_alloc | apply pw_below_drewN | apply below_drew1) | exact HB.out)))); have n3_ := Aside0.mk (below_step (by repeat (first | (with_reducible first | exact HB.out | apply below_alloc | apply pw_below_drewN | apply below_drew1) | exact HB.out)) hb); clear HO_7; clear HO_8; clear HB; have HO_7 := n0_; have HO_8 := n1_; have HO235 := n2_; have HB := n3_; clear n0_ n1_ n2_ n3_; (try clear hb); (try clear hb2); (try clear hk); (try clear hi); (try clear ho0)))
                                    go_roundg k5
                                    case measure => have := HJ2.out; have := HK2.out; have := HK3.out; have := HK4.out; have := HK5.out; omega
                                    case rel => exact ⟨(t233), H', ⟨by have := HJ2.out; have := HK2.out; have := HK3.out; have := HK4.out; have := HK5.out; omega⟩, ⟨by (with_reducible repeat (first | apply Kd.R_alloc | apply Kd.R_drewN | apply Kd.R_drew)); exact Kd.R_mono HO235.out (fun _ hk => hk.2)⟩, ⟨by (with_reducible repeat (first | apply Kd.R_alloc | apply Kd.R_drewN | apply Kd.R_drew)); exact Kd.R_mono HO_8.out (fun _ hk => hk.2)⟩, ⟨by repeat (first | (with_reducible first | exact HB.out | apply below_alloc | apply pw_below_drewN | apply below_drew1) | exact HB.out)⟩⟩
                            · rw [if_neg c46] at H
                              have c46b0 : decide (a0 < t230) = false := decide_eq_false c46
                              clear c46
                              have H' := Aside0.mk H
                              clear H
                              obtain ⟨Ao55, co55, eo55⟩ := Kd.R_slice HO_7.out
                              subst eo55
                              go_wp2_with (first | ((with_reducible refine gate_callee (f := 54) rfl ?_); refine goesL_ (some 98) rfl rfl Try.func54 (by kernel_rfl) rfl #[.slice Ao55 x7_4.length co55] rfl (by (try simp only [List.map_toArray, List.map_cons, List.map_nil]); first | done | rfl | (simp only [List.length_drop, List.length_take]; rfl)) ?_; (with_reducible refine (casementref09_sum.calls k4 _ _ x7_4 t230 _ ?side1 ?side2 A45.out).mono ?_); (case side1 => repeat (first | exact (Kd.R_reads' HO_7.out).2.2 | (with_reducible refine Kd.C_alloc ?_ _) | (with_reducible refine Kd.C_drewN ?_ _) | (with_reducible refine Kd.C_drew ?_))); (case side2 => exact (Kd.R_reads' HO_7.out).2.1); rintro e w' ⟨rfl, ⟨nd, rfl⟩⟩; refine ⟨_, rfl, ?_⟩))
                              go_loopg [7, 13] k4 (fun kq v7 v13 w' => ∃ (x7_5 : List Int) (x13_5 : Int), v13 = .int .i64 x13_5 ∧ Aside0 (casementref09_Share.l4 kq a0 x7_5 x8_3 x13_5 = some (r1, r2)) ∧ Aside0 (kq ≤ k4) ∧ Aside0 (Kd.R (Kd.int .i64) 3 w' w.heap.size (fun k_ => some k_ ≠ (u8 : Value).ownBlock) v7 x7_5) ∧ Aside0 (Kd.R (Kd.int .i64) 3 w' w.heap.size (fun k_ => some k_ ≠ (v7 : Value).ownBlock) u8 x8_3) ∧ Aside0 (Below w.heap.size w w'))
                              case atStart => exact ⟨(x7_4), (0), (by first | rfl | (simp; done) | (simp [*]; done)), H', ⟨Nat.le_refl _⟩, ⟨by (with_reducible repeat (first | apply Kd.R_alloc | apply Kd.R_drewN | apply Kd.R_drew)); exact HO_7.out⟩, ⟨by (with_reducible repeat (first | apply Kd.R_alloc | apply Kd.R_drewN | apply Kd.R_drew)); exact HO_8.out⟩, ⟨by repeat (first | (with_reducible first | exact HB.out | apply below_alloc | apply pw_below_drewN | apply below_drew1) | exact HB.out)⟩⟩
                              case round =>
                                clear H'
                                try clear c1
                                try clear p1
                                try clear q1
                                try clear hx1
                                try clear c2
                                try clear p2
                                try clear q2
                                try clear hx2
                                try clear c3
                                try clear c4
                                try clear c4b0
                                try clear c4b1
                                try clear c4b2
                                try clear c5
                                try clear c6
                                try clear c6b0
                                try clear p6
                                try clear c7
                                try clear c7b0
                                try clear c9
                                try clear c12
                                try clear c12b0
                                try clear c12b1
                                try clear c13
                                try clear c13b0
                                try clear c18
                                try clear c18b0
                                try clear c19
                                try clear c19b0
                                try clear p19
                                try clear q19
                                try clear hx19
                                try clear p20
                                try clear q20
                                try clear hx20
                                try clear c21
                                try clear c21b0
                                try clear c21b1
                                try clear p21
                                try clear q21
                                try clear hx21
                                try clear p22
                                try clear q22
                                try clear hx22
                                try clear c23
                                try clear c23b0
                                try clear p23
                                try clear q23
                                try clear hx23
                                try clear c24
                                try clear c24b0
                                try clear c25
                                try clear c25b0
                                try clear c25b1
                                try clear c26
                                try clear c27
                                try clear c27b0
                                try clear c28
                                try clear c28b0
                                try clear c29
                                try clear c29b0
                                try clear c29b1
                                try clear c30
                                try clear c31
                                try clear c34
                                try clear c36
                                try clear c36b0
                                try clear c37
                                try clear c37b0
                                try clear c38
                                try clear c38b0
                                try clear c38b1
                                try clear c39
                                try clear c40
                                try clear c43
                                try clear c44
                                try clear c46
                                try clear c46b0
                                try clear c48
                                try clear c48b0
                                try clear c49
                                try clear c49b0
                                try clear c50
                                try clear c50b0
                                try clear c51
                                try clear c51b0
                                try clear c52
                                try clear c52b0
                                try clear c52b1
                                try clear c54
                                try clear c55
                                try clear hx197_0
                                try clear hx197_1
                                try clear hx205_0
                                try clear hx205_1
                                try clear hx206_0
                                try clear hx206_1
                                try clear hx207_0
                                try clear hx207_1
                                try clear hx208_0
                                try clear hx208_1
                                try clear hx209_0
                                try clear hx209_1
                                try clear hx210_0
                                try clear hx210_1
                                try clear hx220_0
                                try clear hx220_1
                                try clear hx231_0
                                try clear hx232_0
                                try clear hx232_1
                                try clear p1
                                try clear p19
                                try clear p197
                                try clear p2
                                try clear p20
                                try clear p205
                                try clear p206
                                try clear p207
                                try clear p208
                                try clear p209
                                try clear p21
                                try clear p210
                                try clear p22
                                try clear p220
                                try clear p231
                                try clear p232
                                try clear p6
                                try clear q1
                                try clear q19
                                try clear q197
                                try clear q2
                                try clear q20
                                try clear q205
                                try clear q206
                                try clear q207
                                try clear q208
                                try clear q209
                                try clear q21
                                try clear q210
                                try clear q22
                                try clear q220
                                try clear q231
                                try clear q232
                                obtain ⟨x7_5, x13_5, rfl, HA, HK5, HO_7, HO_8, HB⟩ := hrel
                                cases gk with
                                | zero => exact absurd HA.out (by simp [casementref09_Share.l4])
                                | succ k5 =>
                                  have H := HA.out
                                  clear HA
                                  simp only [casementref09_Share.l4] at H
                                  replace H := Option.bind_eq_some_iff.mp H
                                  obtain ⟨t236, A560, H⟩ := H
                                  replace H : (if t236 < a0 then (if (x8_3.length : Int) = 0 then ((casementref09_change.f k5 x7_5 (wrap64 ((x7_5.length : Int) - 1)) 1).bind fun t237 => (casementref09_Share.l4 k5 a0 t237 x8_3 (wrap64 (x13_5 + 1)))) else (if 0 ≤ (Int.tmod x13_5 (x8_3.length : Int)) then (if (Int.tmod x13_5 (x8_3.length : Int)) < (x8_3.length : Int) then ((casementref09_change.f k5 x7_5 (rd x8_3 (Int.tmod x13_5 (x8_3.length : Int))) 1).bind fun t241 => (casementref09_Share.l4 k5 a0 t241 x8_3 (wrap64 (x13_5 + 1)))) else (none)) else (none))) else (some (x7_5, 0))) = some (r1, r2) := H
                                  have A56 := Aside0.mk A560
                                  clear A560
                                  by_cases c57 : t236 < a0
                                  · rw [if_pos c57] at H
                                    have c57b0 : decide (t236 < a0) = true := decide_eq_true c57
                                    clear c57
                                    by_cases c58 : (x8_3.length : Int) = 0
                                    · rw [if_pos c58] at H
                                      have c58b0 : ((x8_3.length : Int) == 0) = true := beq_iff_eq.mpr c58
                                      have c58b1 : ((x8_3.length : Int) != 0) = false := bne_eq_false_iff_eq.mpr c58
                                      clear c58
                                      replace H := Option.bind_eq_some_iff.mp H
                                      obtain ⟨t237, A590, H⟩ := H
                                      replace H : (casementref09_Share.l4 k5 a0 t237 x8_3 (wrap64 (x13_5 + 1))) = some (r1, r2) := H
                                      have A59 := Aside0.mk A590
                                      clear A590
                                      have H' := Aside0.mk H
                                      clear H
                                      obtain ⟨Ao60, co60, eo60⟩ := Kd.R_slice HO_7.out
                                      subst eo60
                                      go_wp2_with (first | ((with_reducible refine gate_callee (f := 54) rfl ?_); refine goesL_ (some 125) rfl rfl Try.func54 (by kernel_rfl) rfl #[.slice Ao60 x7_5.length co60] rfl (by (try simp only [List.map_toArray, List.map_cons, List.map_nil]); first | done | rfl | (simp only [List.length_drop, List.length_take]; rfl)) ?_; (with_reducible refine (casementref09_sum.calls k5 _ _ x7_5 t236 _ ?side1 ?side2 A56.out).mono ?_); (case side1 => repeat (first | exact (Kd.R_reads' HO_7.out).2.2 | (with_reducible refine Kd.C_alloc ?_ _) | (with_reducible refine Kd.C_drewN ?_ _) | (with_reducible refine Kd.C_drew ?_))); (case side2 => exact (Kd.R_reads' HO_7.out).2.1); rintro e w' ⟨rfl, ⟨nd, rfl⟩⟩; refine ⟨_, rfl, ?_⟩; obtain ⟨Ao61, co61, eo61⟩ := Kd.R_slice HO_8.out; subst eo61) | ((with_reducible refine gate_callee (f := 55) rfl ?_); refine goesL_ (some 137) rfl rfl Try.func55 (by kernel_rfl) rfl #[.slice Ao60 x7_5.length co60, .int .i64 (wrap64 ((x7_5.length : Int) - 1)), .int .i64 1] rfl (by (try simp only [List.map_toArray, List.map_cons, List.map_nil]); first | done | rfl | (simp only [List.length_drop, List.length_take]; rfl)) ?_; (with_reducible refine (casementref09_change.calls k5 _ _ x7_5 (wrap64 ((x7_5.length : Int) - 1)) 1 t237 _ ?side1 ?side2 A59.out).mono ?_); (case side1 => repeat (first | exact (Kd.R_reads' HO_7.out).2.2 | (with_reducible refine Kd.C_alloc ?_ _) | (with_reducible refine Kd.C_drewN ?_ _) | (with_reducible refine Kd.C_drew ?_))); (case side2 => exact (Kd.R_reads' HO_7.out).2.1); rintro e w62 ⟨v238, rfl, ho0, hb⟩; refine ⟨_, rfl, ?_⟩; have n0_ := Aside0.mk (Kd.R_elder' (by (with_reducible repeat (first | apply Kd.R_alloc | apply Kd.R_drewN | apply Kd.R_drew)); exact HO_7.out) (Kd.R_base ho0) hb); have n1_ := Aside0.mk (Kd.R_elder' (by (with_reducible repeat (first | apply Kd.R_alloc | apply Kd.R_drewN | apply Kd.R_drew)); exact HO_8.out) (Kd.R_base ho0) hb); have n2_ := Aside0.mk (Kd.R_lower (Kd.R_new' (Kd.R_new' ho0 (Kd.R_lt (by (with_reducible repeat (first | apply Kd.R_alloc | apply Kd.R_drewN | apply Kd.R_drew)); exact HO_7.out))) (Kd.R_lt (by (with_reducible repeat (first | apply Kd.R_alloc | apply Kd.R_drewN | apply Kd.R_drew)); exact HO_8.out))) (below_size (by repeat (first | (with_reducible first | exact HB.out | apply below_alloc | apply pw_below_drewN | apply below_drew1) | exact HB.out)))); have n3_ := Aside0.mk (below_step (by repeat (first | (with_reducible first | exact HB.out | apply below_alloc | apply pw_below_drewN | apply below_drew1) | exact HB.out)) hb); clear HO_7; clear HO_8; clear HB; have HO_7 := n0_; have HO_8 := n1_; have HO239 := n2_; have HB := n3_; clear n0_ n1_ n2_ n3_; (try clear hb); (try clear hb2); (try clear hk); (try clear hi); (try clear ho0)))
                                      go_roundg k5
                                      case measure => have := HJ2.out; have := HK2.out; have := HK3.out; have := HK4.out; have := HK5.out; omega
                                      case rel => exact ⟨(t237), (wrap64 (x13_5 + 1)), (by first | rfl | (simp; done) | (simp [*]; done)), H', ⟨by have := HJ2.out; have := HK2.out; have := HK3.out; have := HK4.out; have := HK5.out; omega⟩, ⟨by (with_reducible repeat (first | apply Kd.R_alloc | apply Kd.R_drewN | apply Kd.R_drew)); exact Kd.R_mono HO239.out (fun _ hk => hk.2)⟩, ⟨by (with_reducible repeat (first | apply Kd.R_alloc | apply Kd.R_drewN | apply Kd.R_drew)); exact Kd.R_mono HO_8.out (fun _ hk => hk.2)⟩, ⟨by repeat (first | (with_reducible first | exact HB.out | apply below_alloc | apply pw_below_drewN | apply below_drew1) | exact HB.out)⟩⟩
                                    · rw [if_neg c58] at H
                                      have c58b0 : ((x8_3.length : Int) == 0) = false := beq_eq_false_iff_ne.mpr c58
                                      have c58b1 : ((x8_3.length : Int) != 0) = true := bne_iff_ne.mpr c58
                                      have c58b2 : ¬ (x8_3 = []) := fun h_ => c58 (by rw [h_]; rfl)
                                      obtain ⟨ji63, hji63⟩ : ∃ j_ : Int, (Int.tmod x13_5 (x8_3.length : Int)) = j_ := ⟨_, rfl⟩
                                      replace H : (if 0 ≤ (ji63) then (if (ji63) < (x8_3.length : Int) then ((casementref09_change.f k5 x7_5 (rd x8_3 (ji63)) 1).bind fun t241 => (casementref09_Share.l4 k5 a0 t241 x8_3 (wrap64 (x13_5 + 1)))) else (none)) else (none)) = some (r1, r2) := by first | (rw [hji63] at H; exact H) | (simp only [hji63] at H ⊢; exact H)
                                      (try rw [hji63] at A56)
                                      by_cases c64 : 0 ≤ (ji63)
                                      · rw [if_pos c64] at H
                                        have c64b0 : decide (0 ≤ (ji63)) = true := decide_eq_true c64
                                        clear c64
                                        by_cases c65 : (ji63) < (x8_3.length : Int)
                                        · rw [if_pos c65] at H
                                          have c65b0 : decide ((ji63) < (x8_3.length : Int)) = true := decide_eq_true c65
                                          clear c65
                                          replace H := Option.bind_eq_some_iff.mp H
                                          obtain ⟨t241, A660, H⟩ := H
                                          replace H : (casementref09_Share.l4 k5 a0 t241 x8_3 (wrap64 (x13_5 + 1))) = some (r1, r2) := H
                                          have A66 := Aside0.mk A660
                                          clear A660
                                          have H' := Aside0.mk H
                                          clear H
                                          obtain ⟨Ao67, co67, eo67⟩ := Kd.R_slice HO_7.out
                                          subst eo67
                                          go_wp2_with (first | ((with_reducible refine gate_callee (f := 54) rfl ?_); refine goesL_ (some 125) rfl rfl Try.func54 (by kernel_rfl) rfl #[.slice Ao67 x7_5.length co67] rfl (by (try simp only [List.map_toArray, List.map_cons, List.map_nil]); first | done | rfl | (simp only [List.length_drop, List.length_take]; rfl)) ?_; (with_reducible refine (casementref09_sum.calls k5 _ _ x7_5 t236 _ ?side1 ?side2 A56.out).mono ?_); (case side1 => repeat (first | exact (Kd.R_reads' HO_7.out).2.2 | (with_reducible refine Kd.C_alloc ?_ _) | (with_reducible refine Kd.C_drewN ?_ _) | (with_reducible refine Kd.C_drew ?_))); (case side2 => exact (Kd.R_reads' HO_7.out).2.1); rintro e w' ⟨rfl, ⟨nd, rfl⟩⟩; refine ⟨_, rfl, ?_⟩; obtain ⟨Ao68, co68, eo68⟩ := Kd.R_slice HO_8.out; subst eo68; have p240 : 0 ≤ ((ji63) : Int) := of_decide_eq_true (by first | (with_reducible assumption) | assumption); have q240 : (ji63) < (x8_3.length : Int) := of_decide_eq_true (by first | (with_reducible assumption) | assumption); obtain ⟨ad240, e240, hx240_0⟩ := Kd.at_int (Kd.R_reads' HO_8.out).2.2 (ji63) p240 q240; cases e240; replace p240 := eq_true p240; replace q240 := eq_true q240) | ((with_reducible refine gate_callee (f := 55) rfl ?_); refine goesL_ (some 146) rfl rfl Try.func55 (by kernel_rfl) rfl #[.slice Ao67 x7_5.length co67, .int .i64 (rd x8_3 (ji63)), .int .i64 1] rfl (by (try simp only [List.map_toArray, List.map_cons, List.map_nil]); first | done | (simp only [hji63]; rfl) | rfl | (simp only [List.length_drop, List.length_take]; rfl)) ?_; (with_reducible refine (casementref09_change.calls k5 _ _ x7_5 (rd x8_3 (ji63)) 1 t241 _ ?side1 ?side2 A66.out).mono ?_); (case side1 => repeat (first | exact (Kd.R_reads' HO_7.out).2.2 | (with_reducible refine Kd.C_alloc ?_ _) | (with_reducible refine Kd.C_drewN ?_ _) | (with_reducible refine Kd.C_drew ?_))); (case side2 => exact (Kd.R_reads' HO_7.out).2.1); rintro e w69 ⟨v242, rfl, ho0, hb⟩; refine ⟨_, rfl, ?_⟩; have n0_ := Aside0.mk (Kd.R_elder' (by (with_reducible repeat (first | apply Kd.R_alloc | apply Kd.R_drewN | apply Kd.R_drew)); exact HO_7.out) (Kd.R_base ho0) hb); have n1_ := Aside0.mk (Kd.R_elder' (by (with_reducible repeat (first | apply Kd.R_alloc | apply Kd.R_drewN | apply Kd.R_drew)); exact HO_8.out) (Kd.R_base ho0) hb); have n2_ := Aside0.mk (Kd.R_lower (Kd.R_new' (Kd.R_new' ho0 (Kd.R_lt (by (with_reducible repeat (first | apply Kd.R_alloc | apply Kd.R_drewN | apply Kd.R_drew)); exact HO_7.out))) (Kd.R_lt (by (with_reducible repeat (first | apply Kd.R_alloc | apply Kd.R_drewN | apply Kd.R_drew)); exact HO_8.out))) (below_size (by repeat (first | (with_reducible first | exact HB.out | apply below_alloc | apply pw_below_drewN | apply below_drew1) | exact HB.out)))); have n3_ := Aside0.mk (below_step (by repeat (first | (with_reducible first | exact HB.out | apply below_alloc | apply pw_below_drewN | apply below_drew1) | exact HB.out)) hb); clear HO_7; clear HO_8; clear HB; have HO_7 := n0_; have HO_8 := n1_; have HO243 := n2_; have HB := n3_; clear n0_ n1_ n2_ n3_; (try clear hb); (try clear hb2); (try clear hk); (try clear hi); (try clear ho0)))
                                          go_roundg k5
                                          case measure => have := HJ2.out; have := HK2.out; have := HK3.out; have := HK4.out; have := HK5.out; omega
                                          case rel => exact ⟨(t241), (wrap64 (x13_5 + 1)), (by first | rfl | (simp; done) | (simp [*]; done)), H', ⟨by have := HJ2.out; have := HK2.out; have := HK3.out; have := HK4.out; have := HK5.out; omega⟩, ⟨by (with_reducible repeat (first | apply Kd.R_alloc | apply Kd.R_drewN | apply Kd.R_drew)); exact Kd.R_mono HO243.out (fun _ hk => hk.2)⟩, ⟨by (with_reducible repeat (first | apply Kd.R_alloc | apply Kd.R_drewN | apply Kd.R_drew)); exact Kd.R_mono HO_8.out (fun _ hk => hk.2)⟩, ⟨by repeat (first | (with_reducible first | exact HB.out | apply below_alloc | apply pw_below_drewN | apply below_drew1) | exact HB.out)⟩⟩
                                        · rw [if_neg c65] at H
                                          exact absurd H (by simp)
                                      · rw [if_neg c64] at H
                                        exact absurd H (by simp)
                                  · rw [if_neg c57] at H
                                    have c57b0 : decide (t236 < a0) = false := decide_eq_false c57
                                    clear c57
                                    simp only [Option.some.injEq, Prod.mk.injEq] at H
                                    obtain ⟨rfl, rfl⟩ := H
                                    obtain ⟨Ao70, co70, eo70⟩ := Kd.R_slice HO_7.out
                                    subst eo70
                                    go_wp2_with (first | ((with_reducible refine gate_callee (f := 54) rfl ?_); refine goesL_ (some 125) rfl rfl Try.func54 (by kernel_rfl) rfl #[.slice Ao70 x7_5.length co70] rfl (by (try simp only [List.map_toArray, List.map_cons, List.map_nil]); first | done | rfl | (simp only [List.length_drop, List.length_take]; rfl)) ?_; (with_reducible refine (casementref09_sum.calls k5 _ _ x7_5 t236 _ ?side1 ?side2 A56.out).mono ?_); (case side1 => repeat (first | exact (Kd.R_reads' HO_7.out).2.2 | (with_reducible refine Kd.C_alloc ?_ _) | (with_reducible refine Kd.C_drewN ?_ _) | (with_reducible refine Kd.C_drew ?_))); (case side2 => exact (Kd.R_reads' HO_7.out).2.1); rintro e w' ⟨rfl, ⟨nd, rfl⟩⟩; refine ⟨_, rfl, ?_⟩))
                                    go_ret2
                                    exact ⟨_, by first | rfl | (simp [errW_none, errW_some] <;> rfl) | (simp [*, errW_none, errW_some] <;> rfl), by (with_reducible repeat (first | apply Kd.R_alloc | apply Kd.R_drewN | apply Kd.R_drew)); exact Kd.R_mono HO_7.out (fun _ hk => trivial), by repeat (first | (with_reducible first | exact HB.out | apply below_alloc | apply pw_below_drewN | apply below_drew1) | exact HB.out)⟩

end Go.Proofs.Ythllpilgfipkpaa.Q
