-- written by a program of this session after the way of the kit's print; not the kit's own print. Lean checks it.
import Derived.Test.YtgngbbkaghmnpaaQx0
import Derived.Test.YtgngbbkaghmnpaaQx21
import Derived.Test.YtgngbbkaghmnpaaQx22
namespace Go.Proofs.Ytgngbbkaghmnpaa.Q
open Go.RowKit Go.Proofs.YtgngbbkaghmnpaaW.PrintWords Go.Proofs.YtgngbbkaghmnpaaW.PrintLast Go.Proofs.YtgngbbkaghmnpaaW.PrintMore
attribute [local go_sem] max2_int min2_int max_two min_two max_three min_three max_four min_four   -- for this text's walks alone
set_option linter.unusedVariables false
set_option linter.unusedSimpArgs false

/-! ### casementref13_Heights: function 12 -/
mutual
def casementref13_Heights.l0 : Nat → Int → List (S46) → List Int → Int → Int → List Int → List (S42) → Option (List Int × Bool)
  | 0, _, _, _, _, _, _, _ => none
  | k + 1, x1, x6, x7, x8, x401000, x401001, x401002 => if x8 < (x6.length : Int) then (if x7.length < 17592186044416 then (casementref13_Heights.l0 k x1 x6 (x7 ++ [(-1)]) (wrap64 (x8 + 1)) x401000 x401001 x401002) else (none)) else (casementref13_Heights.l1 k x1 x6 x7 true x401000 x401001 x401002)
def casementref13_Heights.l1 : Nat → Int → List (S46) → List Int → Bool → Int → List Int → List (S42) → Option (List Int × Bool)
  | 0, _, _, _, _, _, _, _ => none
  | k + 1, x1, x6, x7, x9, x401000, x401001, x401002 => if x9 = true then (casementref13_Heights.l2 k x1 x6 x7 false 0 x401000 x401001 x401002) else (some (x7, true))
def casementref13_Heights.l2 : Nat → Int → List (S46) → List Int → Bool → Int → Int → List Int → List (S42) → Option (List Int × Bool)
  | 0, _, _, _, _, _, _, _, _ => none
  | k + 1, x1, x6, x7, x9, x10, x401000, x401001, x401002 => if x10 < (x6.length : Int) then (if 0 ≤ x10 then (if x10 < (x7.length : Int) then (if (rd x7 x10) < 0 then (casementref13_Heights.l2 k x1 x6 x7 x9 (wrap64 (x10 + 1)) x401000 x401001 x401002) else ((casementref13_Effect.f k x401000 x401001 x401002 x1 ((rd_T46 x6 x10).f0) ((rd_T46 x6 x10).f1)).bind fun bt411 => (if (wrap64 ((rd x7 x10) - bt411.1)) < 0 then (casementref13_Heights.j3 k x1 x6 x7 x9 x10 bt411.2.1 (wrap64 ((rd x7 x10) - bt411.1)) true x401000 x401001 x401002 ((rd_T46 x6 x10).f0) ((rd_T46 x6 x10).f1)) else (if (wrap64 ((wrap64 ((rd x7 x10) - bt411.1)) + bt411.2.1)) > 64 then (casementref13_Heights.j3 k x1 x6 x7 x9 x10 bt411.2.1 (wrap64 ((rd x7 x10) - bt411.1)) true x401000 x401001 x401002 ((rd_T46 x6 x10).f0) ((rd_T46 x6 x10).f1)) else (if ((rd_T46 x6 x10).f0) = 27 then (casementref13_Heights.j3 k x1 x6 x7 x9 x10 bt411.2.1 (wrap64 ((rd x7 x10) - bt411.1)) ((wrap64 ((rd x7 x10) - bt411.1)) != 0) x401000 x401001 x401002 ((rd_T46 x6 x10).f0) ((rd_T46 x6 x10).f1)) else (casementref13_Heights.j3 k x1 x6 x7 x9 x10 bt411.2.1 (wrap64 ((rd x7 x10) - bt411.1)) false x401000 x401001 x401002 ((rd_T46 x6 x10).f0) ((rd_T46 x6 x10).f1))))))) else (none)) else (none)) else (casementref13_Heights.l1 k x1 x6 x7 x9 x401000 x401001 x401002)
def casementref13_Heights.j3 : Nat → Int → List (S46) → List Int → Bool → Int → Int → Int → Bool → Int → List Int → List (S42) → Int → Int → Option (List Int × Bool)
  | 0, _, _, _, _, _, _, _, _, _, _, _, _, _ => none
  | k + 1, x1, x6, x7, x9, x10, x13, x15, x81, x401000, x401001, x401002, x411000, x411001 => if x81 = true then (some (([] : List Int), false)) else ((some (([] : List Int) : List Int)).bind fun y415 => (if x411000 = 24 then (casementref13_Heights.j4 k x1 x6 x7 x9 x10 x13 x15 y415 true x401000 x401001 x401002 x411000 x411001) else (casementref13_Heights.j4 k x1 x6 x7 x9 x10 x13 x15 y415 (x411000 == 25) x401000 x401001 x401002 x411000 x411001)))
def casementref13_Heights.j4 : Nat → Int → List (S46) → List Int → Bool → Int → Int → Int → List Int → Bool → Int → List Int → List (S42) → Int → Int → Option (List Int × Bool)
  | 0, _, _, _, _, _, _, _, _, _, _, _, _, _, _ => none
  | k + 1, x1, x6, x7, x9, x10, x13, x15, x16, x90, x401000, x401001, x401002, x411000, x411001 => if x90 = true then (if x16.length < 17592186044416 then (casementref13_Heights.j5 k x1 x6 x7 x9 x10 x13 x15 (x16 ++ [x411001]) x401000 x401001 x401002 x411000 x411001) else (none)) else (casementref13_Heights.j5 k x1 x6 x7 x9 x10 x13 x15 x16 x401000 x401001 x401002 x411000 x411001)
def casementref13_Heights.j5 : Nat → Int → List (S46) → List Int → Bool → Int → Int → Int → List Int → Int → List Int → List (S42) → Int → Int → Option (List Int × Bool)
  | 0, _, _, _, _, _, _, _, _, _, _, _, _, _ => none
  | k + 1, x1, x6, x7, x9, x10, x13, x15, x16, x401000, x401001, x401002, x411000, x411001 => if x411000 = 24 then (casementref13_Heights.j6 k x1 x6 x7 x9 x10 x13 x15 x16 false x401000 x401001 x401002) else (if x411000 = 27 then (casementref13_Heights.j6 k x1 x6 x7 x9 x10 x13 x15 x16 false x401000 x401001 x401002) else (casementref13_Heights.j6 k x1 x6 x7 x9 x10 x13 x15 x16 (x411000 != 29) x401000 x401001 x401002))
def casementref13_Heights.j6 : Nat → Int → List (S46) → List Int → Bool → Int → Int → Int → List Int → Bool → Int → List Int → List (S42) → Option (List Int × Bool)
  | 0, _, _, _, _, _, _, _, _, _, _, _, _ => none
  | k + 1, x1, x6, x7, x9, x10, x13, x15, x16, x108, x401000, x401001, x401002 => if x108 = true then (if x16.length < 17592186044416 then (casementref13_Heights.j7 k x1 x6 x7 x9 x10 x13 x15 (x16 ++ [wrap64 (x10 + 1)]) x401000 x401001 x401002) else (none)) else (casementref13_Heights.j7 k x1 x6 x7 x9 x10 x13 x15 x16 x401000 x401001 x401002)
def casementref13_Heights.j7 : Nat → Int → List (S46) → List Int → Bool → Int → Int → Int → List Int → Int → List Int → List (S42) → Option (List Int × Bool)
  | 0, _, _, _, _, _, _, _, _, _, _, _ => none
  | k + 1, x1, x6, x7, x9, x10, x13, x15, x16, x401000, x401001, x401002 => casementref13_Heights.l3 k x1 x6 x7 x9 x10 x13 x15 x16 0 x401000 x401001 x401002
def casementref13_Heights.l3 : Nat → Int → List (S46) → List Int → Bool → Int → Int → Int → List Int → Int → Int → List Int → List (S42) → Option (List Int × Bool)
  | 0, _, _, _, _, _, _, _, _, _, _, _, _ => none
  | k + 1, x1, x6, x7, x9, x10, x13, x15, x16, x17, x401000, x401001, x401002 => if x17 < (x16.length : Int) then (if 0 ≤ x17 then (if (rd x16 x17) ≥ (x6.length : Int) then (casementref13_Heights.j9 k x1 x6 x7 x9 x10 x13 x15 x16 x17 (rd x16 x17) true x401000 x401001 x401002) else (if 0 ≤ (rd x16 x17) then (if (rd x16 x17) < (x7.length : Int) then (if (rd x7 (rd x16 x17)) ≥ 0 then (casementref13_Heights.j9 k x1 x6 x7 x9 x10 x13 x15 x16 x17 (rd x16 x17) ((rd x7 (rd x16 x17)) != (wrap64 (x15 + x13))) x401000 x401001 x401002) else (casementref13_Heights.j9 k x1 x6 x7 x9 x10 x13 x15 x16 x17 (rd x16 x17) false x401000 x401001 x401002)) else (none)) else (none))) else (none)) else (casementref13_Heights.l2 k x1 x6 x7 x9 (wrap64 (x10 + 1)) x401000 x401001 x401002)
def casementref13_Heights.j9 : Nat → Int → List (S46) → List Int → Bool → Int → Int → Int → List Int → Int → Int → Bool → Int → List Int → List (S42) → Option (List Int × Bool)
  | 0, _, _, _, _, _, _, _, _, _, _, _, _, _, _ => none
  | k + 1, x1, x6, x7, x9, x10, x13, x15, x16, x17, x18, x144, x401000, x401001, x401002 => if x144 = true then (some (([] : List Int), false)) else (if 0 ≤ x18 then (if x18 < (x7.length : Int) then (if (rd x7 x18) < 0 then ((casementref13_put.f k x7 x18 (wrap64 (x15 + x13))).bind fun t428 => (casementref13_Heights.l3 k x1 x6 t428 true x10 x13 x15 x16 (wrap64 (x17 + 1)) x401000 x401001 x401002)) else (casementref13_Heights.l3 k x1 x6 x7 x9 x10 x13 x15 x16 (wrap64 (x17 + 1)) x401000 x401001 x401002)) else (none)) else (none))
end
def casementref13_Heights.f (k : Nat) (a0_0 : Int) (l0_1 : List Int) (l0_2 : List (S42)) (a1 : Int) : Option (List Int × Bool) := if 0 ≤ a1 then (if a1 < (l0_2.length : Int) then (casementref13_Heights.l0 k a1 ((rd_T42 l0_2 a1).f3) (([0] : List Int)) 1 a0_0 l0_1 l0_2) else (none)) else (none)
theorem casementref13_Heights.mono_l : ∀ k, (∀ y0 y1 y2 y3 y4 y5 y6, LeO (casementref13_Heights.l0 k y0 y1 y2 y3 y4 y5 y6) (casementref13_Heights.l0 (k + 1) y0 y1 y2 y3 y4 y5 y6)) ∧ (∀ y0 y1 y2 y3 y4 y5 y6, LeO (casementref13_Heights.l1 k y0 y1 y2 y3 y4 y5 y6) (casementref13_Heights.l1 (k + 1) y0 y1 y2 y3 y4 y5 y6)) ∧ (∀ y0 y1 y2 y3 y4 y5 y6 y7, LeO (casementref13_Heights.l2 k y0 y1 y2 y3 y4 y5 y6 y7) (casementref13_Heights.l2 (k + 1) y0 y1 y2 y3 y4 y5 y6 y7)) ∧ (∀ y0 y1 y2 y3 y4 y5 y6 y7 y8 y9 y10 y11 y12, LeO (casementref13_Heights.j3 k y0 y1 y2 y3 y4 y5 y6 y7 y8 y9 y10 y11 y12) (casementref13_Heights.j3 (k + 1) y0 y1 y2 y3 y4 y5 y6 y7 y8 y9 y10 y11 y12)) ∧ (∀ y0 y1 y2 y3 y4 y5 y6 y7 y8 y9 y10 y11 y12 y13, LeO (casementref13_Heights.j4 k y0 y1 y2 y3 y4 y5 y6 y7 y8 y9 y10 y11 y12 y13) (casementref13_Heights.j4 (k + 1) y0 y1 y2 y3 y4 y5 y6 y7 y8 y9 y10 y11 y12 y13)) ∧ (∀ y0 y1 y2 y3 y4 y5 y6 y7 y8 y9 y10 y11 y12, LeO (casementref13_Heights.j5 k y0 y1 y2 y3 y4 y5 y6 y7 y8 y9 y10 y11 y12) (casementref13_Heights.j5 (k + 1) y0 y1 y2 y3 y4 y5 y6 y7 y8 y9 y10 y11 y12)) ∧ (∀ y0 y1 y2 y3 y4 y5 y6 y7 y8 y9 y10 y11, LeO (casementref13_Heights.j6 k y0 y1 y2 y3 y4 y5 y6 y7 y8 y9 y10 y11) (casementref13_Heights.j6 (k + 1) y0 y1 y2 y3 y4 y5 y6 y7 y8 y9 y10 y11)) ∧ (∀ y0 y1 y2 y3 y4 y5 y6 y7 y8 y9 y10, LeO (casementref13_Heights.j7 k y0 y1 y2 y3 y4 y5 y6 y7 y8 y9 y10) (casementref13_Heights.j7 (k + 1) y0 y1 y2 y3 y4 y5 y6 y7 y8 y9 y10)) ∧ (∀ y0 y1 y2 y3 y4 y5 y6 y7 y8 y9 y10 y11, LeO (casementref13_Heights.l3 k y0 y1 y2 y3 y4 y5 y6 y7 y8 y9 y10 y11) (casementref13_Heights.l3 (k + 1) y0 y1 y2 y3 y4 y5 y6 y7 y8 y9 y10 y11)) ∧ (∀ y0 y1 y2 y3 y4 y5 y6 y7 y8 y9 y10 y11 y12 y13, LeO (casementref13_Heights.j9 k y0 y1 y2 y3 y4 y5 y6 y7 y8 y9 y10 y11 y12 y13) (casementref13_Heights.j9 (k + 1) y0 y1 y2 y3 y4 y5 y6 y7 y8 y9 y10 y11 y12 y13))
  | 0 => ⟨fun _ _ _ _ _ _ _ r h => by simp [casementref13_Heights.l0] at h, fun _ _ _ _ _ _ _ r h => by simp [casementref13_Heights.l1] at h, fun _ _ _ _ _ _ _ _ r h => by simp [casementref13_Heights.l2] at h, fun _ _ _ _ _ _ _ _ _ _ _ _ _ r h => by simp [casementref13_Heights.j3] at h, fun _ _ _ _ _ _ _ _ _ _ _ _ _ _ r h => by simp [casementref13_Heights.j4] at h, fun _ _ _ _ _ _ _ _ _ _ _ _ _ r h => by simp [casementref13_Heights.j5] at h, fun _ _ _ _ _ _ _ _ _ _ _ _ r h => by simp [casementref13_Heights.j6] at h, fun _ _ _ _ _ _ _ _ _ _ _ r h => by simp [casementref13_Heights.j7] at h, fun _ _ _ _ _ _ _ _ _ _ _ _ r h => by simp [casementref13_Heights.l3] at h, fun _ _ _ _ _ _ _ _ _ _ _ _ _ _ r h => by simp [casementref13_Heights.j9] at h⟩
  | k + 1 => by
    obtain ⟨ih0, ih1, ih2, ih3, ih4, ih5, ih6, ih7, ih8, ih9⟩ := casementref13_Heights.mono_l k
    refine ⟨?_, ?_, ?_, ?_, ?_, ?_, ?_, ?_, ?_, ?_⟩ <;> intros <;> (first | unfold casementref13_Heights.l0 | unfold casementref13_Heights.l1 | unfold casementref13_Heights.l2 | unfold casementref13_Heights.j3 | unfold casementref13_Heights.j4 | unfold casementref13_Heights.j5 | unfold casementref13_Heights.j6 | unfold casementref13_Heights.j7 | unfold casementref13_Heights.l3 | unfold casementref13_Heights.j9) <;>
      (repeat' first
      | (with_reducible exact ih0 _ _ _ _ _ _ _)
      | (with_reducible exact ih1 _ _ _ _ _ _ _)
      | (with_reducible exact ih2 _ _ _ _ _ _ _ _)
      | (with_reducible exact ih3 _ _ _ _ _ _ _ _ _ _ _ _ _)
      | (with_reducible exact ih4 _ _ _ _ _ _ _ _ _ _ _ _ _ _)
      | (with_reducible exact ih5 _ _ _ _ _ _ _ _ _ _ _ _ _)
      | (with_reducible exact ih6 _ _ _ _ _ _ _ _ _ _ _ _)
      | (with_reducible exact ih7 _ _ _ _ _ _ _ _ _ _ _)
      | (with_reducible exact ih8 _ _ _ _ _ _ _ _ _ _ _ _)
      | (with_reducible exact ih9 _ _ _ _ _ _ _ _ _ _ _ _ _ _)
      | (with_reducible exact casementref13_Effect.mono _ _ _ _ _ _ _)
      | (with_reducible exact casementref13_put.mono _ _ _ _)
      | (with_reducible exact LeO.refl _)
      | (with_reducible exact LeO.none _)
      | (with_reducible refine LeO.ite ?_ ?_)
      | (with_reducible refine LeO.bind ?_ (fun _ => ?_))
      | exact ih0 _ _ _ _ _ _ _
      | exact ih1 _ _ _ _ _ _ _
      | exact ih2 _ _ _ _ _ _ _ _
      | exact ih3 _ _ _ _ _ _ _ _ _ _ _ _ _
      | exact ih4 _ _ _ _ _ _ _ _ _ _ _ _ _ _
      | exact ih5 _ _ _ _ _ _ _ _ _ _ _ _ _
      | exact ih6 _ _ _ _ _ _ _ _ _ _ _ _
      | exact ih7 _ _ _ _ _ _ _ _ _ _ _
      | exact ih8 _ _ _ _ _ _ _ _ _ _ _ _
      | exact ih9 _ _ _ _ _ _ _ _ _ _ _ _ _ _
      | exact casementref13_Effect.mono _ _ _ _ _ _ _
      | exact casementref13_put.mono _ _ _ _
      | exact LeO.none _
      | refine LeO.ite ?_ ?_
      | refine LeO.bind ?_ (fun _ => ?_))
theorem casementref13_Heights.mono : ∀ a0 a1 a2 a3 k, LeO (casementref13_Heights.f k a0 a1 a2 a3) (casementref13_Heights.f (k + 1) a0 a1 a2 a3) := by
  intro a0 a1 a2 a3 k; obtain ⟨ih0, ih1, ih2, ih3, ih4, ih5, ih6, ih7, ih8, ih9⟩ := casementref13_Heights.mono_l k
  unfold casementref13_Heights.f
  repeat' first
      | (with_reducible exact ih0 _ _ _ _ _ _ _)
      | (with_reducible exact ih1 _ _ _ _ _ _ _)
      | (with_reducible exact ih2 _ _ _ _ _ _ _ _)
      | (with_reducible exact ih3 _ _ _ _ _ _ _ _ _ _ _ _ _)
      | (with_reducible exact ih4 _ _ _ _ _ _ _ _ _ _ _ _ _ _)
      | (with_reducible exact ih5 _ _ _ _ _ _ _ _ _ _ _ _ _)
      | (with_reducible exact ih6 _ _ _ _ _ _ _ _ _ _ _ _)
      | (with_reducible exact ih7 _ _ _ _ _ _ _ _ _ _ _)
      | (with_reducible exact ih8 _ _ _ _ _ _ _ _ _ _ _ _)
      | (with_reducible exact ih9 _ _ _ _ _ _ _ _ _ _ _ _ _ _)
      | (with_reducible exact casementref13_Effect.mono _ _ _ _ _ _ _)
      | (with_reducible exact casementref13_put.mono _ _ _ _)
      | (with_reducible exact LeO.refl _)
      | (with_reducible exact LeO.none _)
      | (with_reducible refine LeO.ite ?_ ?_)
      | (with_reducible refine LeO.bind ?_ (fun _ => ?_))
      | exact ih0 _ _ _ _ _ _ _
      | exact ih1 _ _ _ _ _ _ _
      | exact ih2 _ _ _ _ _ _ _ _
      | exact ih3 _ _ _ _ _ _ _ _ _ _ _ _ _
      | exact ih4 _ _ _ _ _ _ _ _ _ _ _ _ _ _
      | exact ih5 _ _ _ _ _ _ _ _ _ _ _ _ _
      | exact ih6 _ _ _ _ _ _ _ _ _ _ _ _
      | exact ih7 _ _ _ _ _ _ _ _ _ _ _
      | exact ih8 _ _ _ _ _ _ _ _ _ _ _ _
      | exact ih9 _ _ _ _ _ _ _ _ _ _ _ _ _ _
      | exact casementref13_Effect.mono _ _ _ _ _ _ _
      | exact casementref13_put.mono _ _ _ _
      | exact LeO.none _
      | refine LeO.ite ?_ ?_
      | refine LeO.bind ?_ (fun _ => ?_)
set_option maxHeartbeats 8000000 in
set_option maxRecDepth 100000 in
theorem casementref13_Heights.calls (k : Nat) (a0_0 : Int) (A0_1 : Option Addr) (c0_1 : Nat) (l0_1 : List Int) (A0_2 : Option Addr) (c0_2 : Nat) (l0_2 : List (S42)) (a1 : Int) (r1 : List Int) (r2 : Bool) (w : World) (hr0_1 : Kd.C (Kd.int .u8) w A0_1 l0_1.length l0_1) (hc0_1 : l0_1.length ≤ c0_1) (hr0_2 : Kd.C k42 w A0_2 l0_2.length l0_2) (hc0_2 : l0_2.length ≤ c0_2) (h : casementref13_Heights.f k a0_0 l0_1 l0_2 a1 = some (r1, r2)) :
    Calls Try.prog 12 #[.agg #[.int .i64 a0_0, .slice A0_1 l0_1.length c0_1, .slice A0_2 l0_2.length c0_2], .int .i64 a1] w fun e w' => ∃ v0_ : Value, e = .returned (.tuple #[v0_, .bool r2]) ∧ Kd.R (Kd.int .i64) 3 w' w.heap.size (fun _ => True) v0_ r1 ∧ Below w.heap.size w w' := by
  have hu25 := Try.underlying25; have hu46 := Try.underlying46; have HR0_1 := Aside0.mk hr0_1; have HC0_1 := Aside0.mk hc0_1; clear hr0_1 hc0_1; have HR0_2 := Aside0.mk hr0_2; have HC0_2 := Aside0.mk hc0_2; clear hr0_2 hc0_2; have HB := Aside0.mk (Below.refl w.heap.size w); have H : (if 0 ≤ a1 then (if a1 < (l0_2.length : Int) then (casementref13_Heights.l0 k a1 ((rd_T42 l0_2 a1).f3) (([0] : List Int)) 1 a0_0 l0_1 l0_2) else (none)) else (none)) = some (r1, r2) := h; clear h
  by_cases c3 : 0 ≤ a1
  case neg => rw [if_neg c3] at H; exact absurd H (by simp)
  rw [if_pos c3] at H; have c3b0 : decide (0 ≤ a1) = true := decide_eq_true c3; clear c3
  by_cases c4 : a1 < (l0_2.length : Int)
  case neg => rw [if_neg c4] at H; exact absurd H (by simp)
  rw [if_pos c4] at H; have c4b0 : decide (a1 < (l0_2.length : Int)) = true := decide_eq_true c4; clear c4; obtain ⟨y402, hy402⟩ : ∃ y_ : List Int, y_ = (([0] : List Int)) := ⟨_, rfl⟩
  replace H : (casementref13_Heights.l0 k a1 ((rd_T42 l0_2 a1).f3) y402 1 a0_0 l0_1 l0_2) = some (r1, r2) := by first | (rw [hy402]; with_reducible exact H) | (have H2_ := (Option.bind_some _ _).symm.trans H; rw [hy402]; with_reducible exact H2_) | (have H2_ := (Option.bind_some _ _).symm.trans H; with_reducible exact H2_) | with_reducible exact H | (rw [hy402]; exact H) | exact H
  have Ny402 := Aside0.mk hy402; clear hy402; have H' := Aside0.mk H; clear H
  go_enter Try.func12, Try.ntmps12
  go_wp2_with (first | ((with_reducible refine gate_dst (N := 2) rfl ?_); refine box_event ?hg (N := 2) ?hd (cs := #[.int .i64 a0_0, .slice A0_1 l0_1.length c0_1, .slice A0_2 l0_2.length c0_2]) (t := 25) ?hr ?_; (case hd => rfl); (case hg => rfl); (case hr => first | (go_simp; done) | (go_simp; rfl)); intro gb400 hg w5 hbox hb; have n0_ := Aside0.mk (below_step (bn0 HB) hb); have BK400 := Aside0.mk (hbox); have GW400 := Aside0.mk ((by rw [hg]; exact (below_size (bn0 HB)) : w.heap.size ≤ gb400)); have GE400 := Aside0.mk ((by rw [hg]; exact (below_size (bn0 HB)) : w.heap.size ≤ gb400)); replace HB := n0_; clear n0_; clear hb hbox hg; obtain ⟨hcz6_0, hcz6_1, hcz6_2⟩ := cells3 BK400.out; obtain ⟨hfz6_0, hfz6_1, hfz6_2⟩ := froz3 BK400.out; have p401 : 0 ≤ (a1 : Int) := of_decide_eq_true (by first | (with_reducible assumption) | assumption); have q401 : a1 < (l0_2.length : Int) := of_decide_eq_true (by first | (with_reducible assumption) | assumption); obtain ⟨ad401, A401_3, c401_3, e401, hx401_0, hx401_1, hx401_2, hx401_3, hl401_3, hi401_3⟩ := at_T42 HR0_2.out a1 p401 q401; cases e401; replace hx401_0 := (HB.out.cell (World.block_lt_of_cell? w _ hx401_0)).trans hx401_0; replace hx401_1 := (HB.out.cell (World.block_lt_of_cell? w _ hx401_1)).trans hx401_1; replace hx401_2 := (HB.out.cell (World.block_lt_of_cell? w _ hx401_2)).trans hx401_2; replace hx401_3 := (HB.out.cell (World.block_lt_of_cell? w _ hx401_3)).trans hx401_3; have HR401_3 := Aside0.mk hi401_3; have HC401_3 := Aside0.mk hl401_3; clear hi401_3 hl401_3; replace p401 := eq_true p401; replace q401 := eq_true q401) | ((with_reducible refine gate_dst (N := 25) rfl ?_); refine Kd.R_lit (Kd.int .i64) _ 3 ?hg (N := 25) ?hd (xs := ([0] : List Int)) (inner := [.int .i64 0]) (ok := fun _ => True) (okp := fun _ => True) ?hr ?hp (fun _ hk => hk) trivial (Below.refl _ _) (Nat.le_refl _) (by simp) ?_; (case hd => rfl); (case hg => rfl); (case hr => first | (go_simp; done) | (go_simp; rfl)); (case hp => exact (Reps.one (show Kd.M (Kd.int .i64) _ _ _ 0 [.int .i64 0] from rfl) (Reps.none _ _))); intro v403 w7 ho8 hb hg_ hnew_; clear hg_ hnew_; (first | rw [← Ny402.out] at ho8 | (simp only [Int.reduceToNat] at ho8; rw [← Ny402.out] at ho8)); have HO404 := Aside0.mk (Kd.R_lower ho8 (below_size (bn1 HB GE400))); replace BK400 := Aside0.mk (blk_below (g := gb400) (o := .cells #[.int .i64 a0_0, .slice A0_1 l0_1.length c0_1, .slice (some ad401) l0_2.length c0_2] 25 (0, 0)) (bkn BK400) hb); replace HB := Aside0.mk (below_step (bn1 HB GE400) hb); clear hb ho8))
  go_loopg [7, 8] k (fun kq v7 v8 w' => ∃ (x7_1 : List Int) (x8_1 : Int), v8 = .int .i64 x8_1 ∧ Aside0 (casementref13_Heights.l0 kq a1 ((rd_T42 l0_2 a1).f3) x7_1 x8_1 a0_0 l0_1 l0_2 = some (r1, r2)) ∧ Aside0 (kq ≤ k) ∧ Aside0 (Kd.R (Kd.int .i64) 3 w' w.heap.size (fun _ => True) v7 x7_1) ∧ Aside0 (w'.heap[gb400]? = some (.cells #[.int .i64 a0_0, (.slice A0_1 l0_1.length c0_1), (.slice (some ad401) l0_2.length c0_2)] 25 (0, 0))) ∧ Aside0 (Below w.heap.size w w'))
  case atStart => exact ⟨(y402), (1), (by first | rfl | (simp; done) | (simp [*]; done)), H', ⟨Nat.le_refl _⟩, ⟨by (with_reducible repeat (first | apply Kd.R_alloc | apply Kd.R_drewN | apply Kd.R_drew)); exact HO404.out⟩, ⟨by (with_reducible repeat (first | refine blk_drewN ?_ _ | refine blk_drew ?_ | refine blk_alloc ?_ _)); exact BK400.out⟩, ⟨bn1 HB GE400⟩⟩
  case round =>
    clear H'
    try clear c1
    try clear p2
    try clear c3
    try clear c3b0
    try clear c4
    try clear c4b0
    try clear p4
    try clear q4
    try clear hx4
    try clear hcz6_0
    try clear hcz6_1
    try clear hcz6_2
    try clear hfz6_0
    try clear hfz6_1
    try clear hfz6_2
    try clear hx401_0
    try clear hx401_1
    try clear hx401_2
    try clear hx401_3
    try clear p401
    try clear q401
    obtain ⟨x7_1, x8_1, rfl, HA, HK1, HO_7, BK400, HB⟩ := hrel
    cases gk with
    | zero => exact absurd HA.out (by simp [casementref13_Heights.l0])
    | succ k1 => ?_
    have H := HA.out; clear HA; simp only [casementref13_Heights.l0] at H
    by_cases c9 : x8_1 < (((rd_T42 l0_2 a1).f3).length : Int)
    · rw [if_pos c9] at H
      have c9b0 : decide (x8_1 < (((rd_T42 l0_2 a1).f3).length : Int)) = true := decide_eq_true c9; clear c9
      by_cases c10 : x7_1.length < 17592186044416
      case neg => rw [if_neg c10] at H; exact absurd H (by simp)
      rw [if_pos c10] at H; have LMc10 := Aside0.mk c10; clear c10; obtain ⟨y405, hy405⟩ : ∃ y_ : List Int, y_ = (x7_1 ++ [(-1)]) := ⟨_, rfl⟩
      replace H : (casementref13_Heights.l0 k1 a1 ((rd_T42 l0_2 a1).f3) y405 (wrap64 (x8_1 + 1)) a0_0 l0_1 l0_2) = some (r1, r2) := by first | (rw [hy405]; with_reducible exact H) | (have H2_ := (Option.bind_some _ _).symm.trans H; rw [hy405]; with_reducible exact H2_) | (have H2_ := (Option.bind_some _ _).symm.trans H; with_reducible exact H2_) | with_reducible exact H | (rw [hy405]; exact H) | exact H
      have Ny405 := Aside0.mk hy405; clear hy405; have H' := Aside0.mk H; clear H
      go_wp2_with (first | ((with_reducible refine gate_builtin (b := .append) (xs := #[.tmp 32, .tmp 33]) rfl ?_); at_builtin; refine Kd.R_append (Kd.int .i64) (w0 := w) w.heap.size rfl (.tmp 32) (.tmp 33) 34 3 (.int .i64 0) 8 rfl Try.underlying34 info3 rfl (by decide) (by omega) u7 x7_1 (-1) [.int .i64 (-1)] (fun _ => True) (fun _ => False) rfl rfl ?aP (fun _ hk => hk.elim) ?aF ?aO ?aB ?aS ?aL ?_; (case aP => exact rfl); (case aB => exact (bn1 HB GE400)); (case aF => exact (fun _ _ => trivial)); (case aO => exact (rnR HO_7)); (case aS => exact (below_size (bn1 HB GE400))); (case aL => have := LMc10.out; omega); intro v406 w11 ho hb hg hat; rw [← Ny405.out] at ho; replace BK400 := Aside0.mk (blk_grown (g := gb400) (o := .cells #[.int .i64 a0_0, .slice A0_1 l0_1.length c0_1, .slice (some ad401) l0_2.length c0_2] 25 (0, 0)) (bkn BK400) hg (Kd.R_ne HO_7.out BK400.out (by decide))); replace HB := Aside0.mk (hb); have HO407 := Aside0.mk (ho); clear HO_7; clear ho hb hg hat))
      go_roundg k1
      case measure => have := HK1.out; omega
      case rel => exact ⟨(y405), (wrap64 (x8_1 + 1)), (by first | rfl | (simp; done) | (simp [*]; done)), H', ⟨by have := HK1.out; omega⟩, ⟨by (with_reducible repeat (first | apply Kd.R_alloc | apply Kd.R_drewN | apply Kd.R_drew)); exact HO407.out⟩, ⟨by (with_reducible repeat (first | refine blk_drewN ?_ _ | refine blk_drew ?_ | refine blk_alloc ?_ _)); exact BK400.out⟩, ⟨bn1 HB GE400⟩⟩
    · rw [if_neg c9] at H
      have c9b0 : decide (x8_1 < (((rd_T42 l0_2 a1).f3).length : Int)) = false := decide_eq_false c9; clear c9; have H' := Aside0.mk H; clear H
      go_wp2
      go_loopg [7, 9] k1 (fun kq v7 v9 w' => ∃ (x7_2 : List Int) (x9_2 : Bool), v9 = .bool x9_2 ∧ Aside0 (casementref13_Heights.l1 kq a1 ((rd_T42 l0_2 a1).f3) x7_2 x9_2 a0_0 l0_1 l0_2 = some (r1, r2)) ∧ Aside0 (kq ≤ k1) ∧ Aside0 (Kd.R (Kd.int .i64) 3 w' w.heap.size (fun _ => True) v7 x7_2) ∧ Aside0 (w'.heap[gb400]? = some (.cells #[.int .i64 a0_0, (.slice A0_1 l0_1.length c0_1), (.slice (some ad401) l0_2.length c0_2)] 25 (0, 0))) ∧ Aside0 (Below w.heap.size w w'))
      case atStart => exact ⟨(x7_1), (true), (by first | rfl | (simp; done) | (simp [*]; done)), H', ⟨Nat.le_refl _⟩, ⟨by (with_reducible repeat (first | apply Kd.R_alloc | apply Kd.R_drewN | apply Kd.R_drew)); exact HO_7.out⟩, ⟨by (with_reducible repeat (first | refine blk_drewN ?_ _ | refine blk_drew ?_ | refine blk_alloc ?_ _)); exact BK400.out⟩, ⟨bn1 HB GE400⟩⟩
      case round =>
        clear H'
        try clear c1
        try clear p2
        try clear c3
        try clear c3b0
        try clear c4
        try clear c4b0
        try clear p4
        try clear q4
        try clear hx4
        try clear p6
        try clear c9
        try clear c9b0
        try clear c10
        try clear hcz6_0
        try clear hcz6_1
        try clear hcz6_2
        try clear hfz6_0
        try clear hfz6_1
        try clear hfz6_2
        try clear hx401_0
        try clear hx401_1
        try clear hx401_2
        try clear hx401_3
        try clear p2
        try clear p4
        try clear p401
        try clear q4
        try clear q401
        obtain ⟨x7_2, x9_2, rfl, HA, HK2, HO_7, BK400, HB⟩ := hrel
        cases gk with
        | zero => exact absurd HA.out (by simp [casementref13_Heights.l1])
        | succ k2 => ?_
        have H := HA.out; clear HA; simp only [casementref13_Heights.l1] at H
        by_cases c12 : x9_2 = true
        · subst c12
          have H1 : (casementref13_Heights.l2 k2 a1 ((rd_T42 l0_2 a1).f3) x7_2 false 0 a0_0 l0_1 l0_2) = some (r1, r2) := by rw [if_pos rfl] at H; exact H
          clear H; have H := H1; clear H1; have H' := Aside0.mk H; clear H
          go_wp2
          go_loopg [7, 9, 10] k2 (fun kq v7 v9 v10 w' => ∃ (x7_3 : List Int) (x9_3 : Bool) (x10_3 : Int), v9 = .bool x9_3 ∧ v10 = .int .i64 x10_3 ∧ Aside0 (casementref13_Heights.l2 kq a1 ((rd_T42 l0_2 a1).f3) x7_3 x9_3 x10_3 a0_0 l0_1 l0_2 = some (r1, r2)) ∧ Aside0 (kq ≤ k2) ∧ Aside0 (Kd.R (Kd.int .i64) 3 w' w.heap.size (fun _ => True) v7 x7_3) ∧ Aside0 (w'.heap[gb400]? = some (.cells #[.int .i64 a0_0, (.slice A0_1 l0_1.length c0_1), (.slice (some ad401) l0_2.length c0_2)] 25 (0, 0))) ∧ Aside0 (Below w.heap.size w w'))
          case atStart => exact ⟨(x7_2), (false), (0), (by first | rfl | (simp; done) | (simp [*]; done)), (by first | rfl | (simp; done) | (simp [*]; done)), H', ⟨Nat.le_refl _⟩, ⟨by (with_reducible repeat (first | apply Kd.R_alloc | apply Kd.R_drewN | apply Kd.R_drew)); exact HO_7.out⟩, ⟨by (with_reducible repeat (first | refine blk_drewN ?_ _ | refine blk_drew ?_ | refine blk_alloc ?_ _)); exact BK400.out⟩, ⟨bn1 HB GE400⟩⟩
          case round =>
            clear H'
            try clear c1
            try clear p2
            try clear c3
            try clear c3b0
            try clear c4
            try clear c4b0
            try clear p4
            try clear q4
            try clear hx4
            try clear p6
            try clear c9
            try clear c9b0
            try clear c10
            try clear c12
            try clear hcz6_0
            try clear hcz6_1
            try clear hcz6_2
            try clear hfz6_0
            try clear hfz6_1
            try clear hfz6_2
            try clear hx401_0
            try clear hx401_1
            try clear hx401_2
            try clear hx401_3
            try clear p2
            try clear p4
            try clear p401
            try clear p6
            try clear q4
            try clear q401
            obtain ⟨x7_3, x9_3, x10_3, rfl, rfl, HA, HK3, HO_7, BK400, HB⟩ := hrel
            cases gk with
            | zero => exact absurd HA.out (by simp [casementref13_Heights.l2])
            | succ k3 => ?_
            have H := HA.out; clear HA; simp only [casementref13_Heights.l2] at H
            by_cases c13 : x10_3 < (((rd_T42 l0_2 a1).f3).length : Int)
            · rw [if_pos c13] at H
              have c13b0 : decide (x10_3 < (((rd_T42 l0_2 a1).f3).length : Int)) = true := decide_eq_true c13; clear c13
              by_cases c14 : 0 ≤ x10_3
              case neg => rw [if_neg c14] at H; exact absurd H (by simp)
              rw [if_pos c14] at H; have c14b0 : decide (0 ≤ x10_3) = true := decide_eq_true c14; clear c14
              by_cases c15 : x10_3 < (x7_3.length : Int)
              case neg => rw [if_neg c15] at H; exact absurd H (by simp)
              rw [if_pos c15] at H; have c15b0 : decide (x10_3 < (x7_3.length : Int)) = true := decide_eq_true c15; clear c15
              by_cases c16 : (rd x7_3 x10_3) < 0
              · rw [if_pos c16] at H
                have c16b0 : decide ((rd x7_3 x10_3) < 0) = true := decide_eq_true c16; clear c16; have H' := Aside0.mk H; clear H; obtain ⟨Ao17, co17, eo17⟩ := Kd.R_slice HO_7.out; subst eo17; have p408 : 0 ≤ (x10_3 : Int) := of_decide_eq_true (by first | (with_reducible assumption) | assumption); have q408 : x10_3 < (x7_3.length : Int) := of_decide_eq_true (by first | (with_reducible assumption) | assumption); obtain ⟨ad408, e408, hx408_0⟩ := Kd.at_int (Kd.R_reads' HO_7.out).2.2 x10_3 p408 q408
                cases e408
                replace p408 := eq_true p408; replace q408 := eq_true q408
                go_wp2
                go_roundg k3
                case measure => have := HK1.out; have := HK2.out; have := HK3.out; omega
                case rel => exact ⟨(x7_3), (x9_3), (wrap64 (x10_3 + 1)), (by first | rfl | (simp; done) | (simp [*]; done)), (by first | rfl | (simp; done) | (simp [*]; done)), H', ⟨by have := HK1.out; have := HK2.out; have := HK3.out; omega⟩, ⟨by (with_reducible repeat (first | apply Kd.R_alloc | apply Kd.R_drewN | apply Kd.R_drew)); exact HO_7.out⟩, ⟨by (with_reducible repeat (first | refine blk_drewN ?_ _ | refine blk_drew ?_ | refine blk_alloc ?_ _)); exact BK400.out⟩, ⟨bn1 HB GE400⟩⟩
              · rw [if_neg c16] at H
                have c16b0 : decide ((rd x7_3 x10_3) < 0) = false := decide_eq_false c16; clear c16; replace H := Option.bind_eq_some_iff.mp H; obtain ⟨⟨t411, t412, t413⟩, A180, H⟩ := H; replace H : (if (wrap64 ((rd x7_3 x10_3) - t411)) < 0 then (casementref13_Heights.j3 k3 a1 ((rd_T42 l0_2 a1).f3) x7_3 x9_3 x10_3 t412 (wrap64 ((rd x7_3 x10_3) - t411)) true a0_0 l0_1 l0_2 ((rd_T46 ((rd_T42 l0_2 a1).f3) x10_3).f0) ((rd_T46 ((rd_T42 l0_2 a1).f3) x10_3).f1)) else (if (wrap64 ((wrap64 ((rd x7_3 x10_3) - t411)) + t412)) > 64 then (casementref13_Heights.j3 k3 a1 ((rd_T42 l0_2 a1).f3) x7_3 x9_3 x10_3 t412 (wrap64 ((rd x7_3 x10_3) - t411)) true a0_0 l0_1 l0_2 ((rd_T46 ((rd_T42 l0_2 a1).f3) x10_3).f0) ((rd_T46 ((rd_T42 l0_2 a1).f3) x10_3).f1)) else (if ((rd_T46 ((rd_T42 l0_2 a1).f3) x10_3).f0) = 27 then (casementref13_Heights.j3 k3 a1 ((rd_T42 l0_2 a1).f3) x7_3 x9_3 x10_3 t412 (wrap64 ((rd x7_3 x10_3) - t411)) ((wrap64 ((rd x7_3 x10_3) - t411)) != 0) a0_0 l0_1 l0_2 ((rd_T46 ((rd_T42 l0_2 a1).f3) x10_3).f0) ((rd_T46 ((rd_T42 l0_2 a1).f3) x10_3).f1)) else (casementref13_Heights.j3 k3 a1 ((rd_T42 l0_2 a1).f3) x7_3 x9_3 x10_3 t412 (wrap64 ((rd x7_3 x10_3) - t411)) false a0_0 l0_1 l0_2 ((rd_T46 ((rd_T42 l0_2 a1).f3) x10_3).f0) ((rd_T46 ((rd_T42 l0_2 a1).f3) x10_3).f1))))) = some (r1, r2) := H; have A18 := Aside0.mk A180; clear A180; have HC19 := Aside0.mk H; clear H; obtain ⟨Ao20, co20, eo20⟩ := Kd.R_slice HO_7.out; subst eo20; have p408 : 0 ≤ (x10_3 : Int) := of_decide_eq_true (by first | (with_reducible assumption) | assumption); have q408 : x10_3 < (x7_3.length : Int) := of_decide_eq_true (by first | (with_reducible assumption) | assumption); obtain ⟨ad408, e408, hx408_0⟩ := Kd.at_int (Kd.R_reads' HO_7.out).2.2 x10_3 p408 q408
                cases e408
                replace p408 := eq_true p408; replace q408 := eq_true q408; have p409 : 0 ≤ (x10_3 : Int) := of_decide_eq_true (by first | (with_reducible assumption) | assumption); have q409 : x10_3 < (((rd_T42 l0_2 a1).f3).length : Int) := of_decide_eq_true (by first | (with_reducible assumption) | assumption); obtain ⟨ad409, e409, hx409_0, hx409_1⟩ := at_T46 HR401_3.out x10_3 p409 q409
                cases e409
                replace hx409_0 := (HB.out.cell (World.block_lt_of_cell? w _ hx409_0)).trans hx409_0; replace hx409_1 := (HB.out.cell (World.block_lt_of_cell? w _ hx409_1)).trans hx409_1; replace p409 := eq_true p409; replace q409 := eq_true q409
                go_upto_region 17 with (first | ((with_reducible refine gate_dst (N := 11) rfl ?_); refine box_event ?hg (N := 11) ?hd (cs := #[.int .i64 0, .int .i64 0]) (t := 46) ?hr ?_; (case hd => rfl); (case hg => rfl); (case hr => first | (go_simp; done) | (go_simp; rfl)); intro gb410 hg w21 hbox hb; replace HO_7 := Aside0.mk (Kd.R_below (rnR HO_7) hb); have n1_ := Aside0.mk (blk_below (g := gb400) (o := .cells #[.int .i64 a0_0, .slice A0_1 l0_1.length c0_1, .slice (some ad401) l0_2.length c0_2] 25 (0, 0)) (bkn BK400) hb); have n2_ := Aside0.mk (below_step (bn1 HB GE400) hb); have BK410 := Aside0.mk (hbox); have GW410 := Aside0.mk ((by rw [hg]; exact (below_size (bn1 HB GE400)) : w.heap.size ≤ gb410)); have GE410 := Aside0.mk ((by rw [hg]; exact (below_size (bn1 HB GE400)) : w.heap.size ≤ gb410)); have NB400_410 := Aside0.mk ((by rw [hg]; exact Nat.ne_of_lt (blk_lt (g := gb400) (o := .cells #[.int .i64 a0_0, .slice A0_1 l0_1.length c0_1, .slice (some ad401) l0_2.length c0_2] 25 (0, 0)) (bkn BK400)) : gb400 ≠ gb410)); have NB410_400 := Aside0.mk ((by rw [hg]; exact Nat.ne_of_gt (blk_lt (g := gb400) (o := .cells #[.int .i64 a0_0, .slice A0_1 l0_1.length c0_1, .slice (some ad401) l0_2.length c0_2] 25 (0, 0)) (bkn BK400)) : gb410 ≠ gb400)); replace BK400 := n1_; replace HB := n2_; clear n1_ n2_; clear hb hbox hg; have hnb22 := NB410_400.out; have hnc22 := NB400_410.out; obtain ⟨hcz23_0, hcz23_1⟩ := cells2 BK410.out; obtain ⟨hfz23_0, hfz23_1⟩ := froz2 BK410.out; obtain ⟨hcz24_0, hcz24_1, hcz24_2⟩ := cells3 BK400.out; obtain ⟨hfz24_0, hfz24_1, hfz24_2⟩ := froz3 BK400.out) | ((with_reducible refine gate_callee (f := 16) rfl ?_); refine goesL_ (some 55) rfl rfl Try.func16 (by kernel_rfl) rfl #[.agg #[.int .i64 a0_0, .slice A0_1 l0_1.length c0_1, .slice (some ad401) l0_2.length c0_2], .int .i64 a1, .agg #[.int .i64 ((rd_T46 ((rd_T42 l0_2 a1).f3) x10_3).f0), .int .i64 ((rd_T46 ((rd_T42 l0_2 a1).f3) x10_3).f1)]] rfl (by (try simp only [List.map_toArray, List.map_cons, List.map_nil]); first | done | rfl | (simp only [List.length_drop, List.length_take]; rfl)) ?_; (with_reducible refine (casementref13_Effect.calls k3 a0_0 _ _ l0_1 _ _ l0_2 a1 ((rd_T46 ((rd_T42 l0_2 a1).f3) x10_3).f0) ((rd_T46 ((rd_T42 l0_2 a1).f3) x10_3).f1) t411 t412 t413 _ ?side1 ?side2 ?side3 ?side4 A18.out).mono ?_); (case side1 => exact Kd.C_below HR0_1.out (bn2 HB GE400 GE410)); (case side2 => exact HC0_1.out); (case side3 => exact Kd.C_below HR0_2.out (bn2 HB GE400 GE410)); (case side4 => exact HC0_2.out); rintro e w25 ⟨rfl, hb⟩; refine ⟨_, rfl, ?_⟩; replace HO_7 := Aside0.mk (Kd.R_below (by (with_reducible repeat (first | apply Kd.R_alloc | apply Kd.R_drewN | apply Kd.R_drew)); exact (Kd.R_mono (Kd.R_far (p := ⟨gb410, 1, none⟩) (Kd.R_far (p := ⟨gb410, 0, none⟩) (Kd.R_types HO_7.out BK410.out (by decide)) (fun _ hk => hk.2) (.int .i64 ((rd_T46 ((rd_T42 l0_2 a1).f3) x10_3).f0))) (fun _ hk => hk.2) (.int .i64 ((rd_T46 ((rd_T42 l0_2 a1).f3) x10_3).f1))) (fun _ h_ => h_.1))) hb); replace BK400 := Aside0.mk (blk_below (g := gb400) (o := .cells #[.int .i64 a0_0, .slice A0_1 l0_1.length c0_1, .slice (some ad401) l0_2.length c0_2] 25 (0, 0)) (by (with_reducible repeat (first | refine blk_drewN ?_ _ | refine blk_drew ?_ | refine blk_alloc ?_ _)); refine blk_far ?_ NB400_410.out _; (with_reducible repeat (first | refine blk_drewN ?_ _ | refine blk_drew ?_ | refine blk_alloc ?_ _)); refine blk_far ?_ NB400_410.out _; (with_reducible repeat (first | refine blk_drewN ?_ _ | refine blk_drew ?_ | refine blk_alloc ?_ _)); exact BK400.out) hb); replace BK410 := Aside0.mk (blk_below (g := gb410) (o := .cells #[.int .i64 ((rd_T46 ((rd_T42 l0_2 a1).f3) x10_3).f0), .int .i64 ((rd_T46 ((rd_T42 l0_2 a1).f3) x10_3).f1)] 46 (0, 0)) (by (with_reducible repeat (first | refine blk_drewN ?_ _ | refine blk_drew ?_ | refine blk_alloc ?_ _)); refine blk_put (cs := #[.int .i64 ((rd_T46 ((rd_T42 l0_2 a1).f3) x10_3).f0), .int .i64 0]) ?_ 1 _ rfl; (with_reducible repeat (first | refine blk_drewN ?_ _ | refine blk_drew ?_ | refine blk_alloc ?_ _)); refine blk_put (cs := #[.int .i64 0, .int .i64 0]) ?_ 0 _ rfl; (with_reducible repeat (first | refine blk_drewN ?_ _ | refine blk_drew ?_ | refine blk_alloc ?_ _)); exact BK410.out) hb); replace HB := Aside0.mk (below_step (bn2 HB GE400 GE410) hb); (try clear hb); have p414 : 0 ≤ (x10_3 : Int) := of_decide_eq_true (by first | (with_reducible assumption) | assumption); have q414 : x10_3 < (x7_3.length : Int) := of_decide_eq_true (by first | (with_reducible assumption) | assumption); obtain ⟨ad414, e414, hx414_0⟩ := Kd.at_int (Kd.R_reads' HO_7.out).2.2 x10_3 p414 q414; obtain rfl : ad408 = ad414 := (by injection e414); replace p414 := eq_true p414; replace q414 := eq_true q414))
                (try simp only [Act.put, List.setIfInBounds_toArray, List.set_cons_zero, List.set_cons_succ])
                go_cut [81] (fun v81 wc => ∃ (kq : Nat) (x81_18 : Bool), v81 = .bool x81_18 ∧ Aside0 (casementref13_Heights.j3 kq a1 ((rd_T42 l0_2 a1).f3) x7_3 x9_3 x10_3 t412 (wrap64 ((rd x7_3 x10_3) - t411)) x81_18 a0_0 l0_1 l0_2 ((rd_T46 ((rd_T42 l0_2 a1).f3) x10_3).f0) ((rd_T46 ((rd_T42 l0_2 a1).f3) x10_3).f1) = some (r1, r2)) ∧ Aside0 (kq ≤ k3) ∧ Aside0 (Kd.R (Kd.int .i64) 3 wc w.heap.size (fun _ => True) (.slice (some ad408) x7_3.length co20) x7_3) ∧ Aside0 (wc.heap[gb400]? = some (.cells #[.int .i64 a0_0, (.slice A0_1 l0_1.length c0_1), (.slice (some ad401) l0_2.length c0_2)] 25 (0, 0))) ∧ Aside0 (wc.heap[gb410]? = some (.cells #[.int .i64 ((rd_T46 ((rd_T42 l0_2 a1).f3) x10_3).f0), .int .i64 ((rd_T46 ((rd_T42 l0_2 a1).f3) x10_3).f1)] 46 (0, 0))) ∧ Aside0 (Below w.heap.size w wc))
                case first =>
                  have H := HC19.out; clear HC19
                  by_cases c26 : (wrap64 ((rd x7_3 x10_3) - t411)) < 0
                  · rw [if_pos c26] at H
                    have c26b0 : decide ((wrap64 ((rd x7_3 x10_3) - t411)) < 0) = true := decide_eq_true c26; clear c26
                    (first | rw [c26b0] | (simp only [i64_w, i32_w]; rw [c26b0]) | skip)
                    have H' := Aside0.mk H; clear H
                    go_wp2
                    go_meet
                    case rel => exact ⟨_, (true), (by first | rfl | (simp; done) | (simp [*]; done)), H', ⟨by have := HK1.out; have := HK2.out; have := HK3.out; first | omega | exact Nat.le_refl _⟩, ⟨by (with_reducible repeat (first | apply Kd.R_alloc | apply Kd.R_drewN | apply Kd.R_drew)); exact HO_7.out⟩, ⟨by (with_reducible repeat (first | refine blk_drewN ?_ _ | refine blk_drew ?_ | refine blk_alloc ?_ _)); exact BK400.out⟩, ⟨by (with_reducible repeat (first | refine blk_drewN ?_ _ | refine blk_drew ?_ | refine blk_alloc ?_ _)); exact BK410.out⟩, ⟨bn2 HB GE400 GE410⟩⟩
                  · rw [if_neg c26] at H
                    have c26b0 : decide ((wrap64 ((rd x7_3 x10_3) - t411)) < 0) = false := decide_eq_false c26; clear c26
                    (first | rw [c26b0] | (simp only [i64_w, i32_w]; rw [c26b0]) | skip)
                    by_cases c27 : (wrap64 ((wrap64 ((rd x7_3 x10_3) - t411)) + t412)) > 64
                    · rw [if_pos c27] at H
                      have c27b0 : decide (64 < (wrap64 ((wrap64 ((rd x7_3 x10_3) - t411)) + t412))) = true := decide_eq_true c27; clear c27; have H' := Aside0.mk H; clear H
                      go_wp2
                      go_meet
                      case rel => exact ⟨_, (true), (by first | rfl | (simp; done) | (simp [*]; done)), H', ⟨by have := HK1.out; have := HK2.out; have := HK3.out; first | omega | exact Nat.le_refl _⟩, ⟨by (with_reducible repeat (first | apply Kd.R_alloc | apply Kd.R_drewN | apply Kd.R_drew)); exact HO_7.out⟩, ⟨by (with_reducible repeat (first | refine blk_drewN ?_ _ | refine blk_drew ?_ | refine blk_alloc ?_ _)); exact BK400.out⟩, ⟨by (with_reducible repeat (first | refine blk_drewN ?_ _ | refine blk_drew ?_ | refine blk_alloc ?_ _)); exact BK410.out⟩, ⟨bn2 HB GE400 GE410⟩⟩
                    · rw [if_neg c27] at H
                      have c27b0 : decide (64 < (wrap64 ((wrap64 ((rd x7_3 x10_3) - t411)) + t412))) = false := decide_eq_false c27; clear c27
                      by_cases c28 : ((rd_T46 ((rd_T42 l0_2 a1).f3) x10_3).f0) = 27
                      · rw [if_pos c28] at H
                        have c28b0 : (((rd_T46 ((rd_T42 l0_2 a1).f3) x10_3).f0) == 27) = true := beq_iff_eq.mpr c28; have c28b1 : (((rd_T46 ((rd_T42 l0_2 a1).f3) x10_3).f0) != 27) = false := bne_eq_false_iff_eq.mpr c28; clear c28; have H' := Aside0.mk H; clear H; have hnb29 := NB410_400.out; have hnc29 := NB400_410.out; obtain ⟨hcz30_0, hcz30_1⟩ := cells2 BK410.out; obtain ⟨hfz30_0, hfz30_1⟩ := froz2 BK410.out
                        go_wp2
                        go_meet
                        case rel => exact ⟨_, (((wrap64 ((rd x7_3 x10_3) - t411)) != 0)), (by first | rfl | (simp; done) | (simp [*]; done)), H', ⟨by have := HK1.out; have := HK2.out; have := HK3.out; first | omega | exact Nat.le_refl _⟩, ⟨by (with_reducible repeat (first | apply Kd.R_alloc | apply Kd.R_drewN | apply Kd.R_drew)); exact HO_7.out⟩, ⟨by (with_reducible repeat (first | refine blk_drewN ?_ _ | refine blk_drew ?_ | refine blk_alloc ?_ _)); exact BK400.out⟩, ⟨by (with_reducible repeat (first | refine blk_drewN ?_ _ | refine blk_drew ?_ | refine blk_alloc ?_ _)); exact BK410.out⟩, ⟨bn2 HB GE400 GE410⟩⟩
                      · rw [if_neg c28] at H
                        have c28b0 : (((rd_T46 ((rd_T42 l0_2 a1).f3) x10_3).f0) == 27) = false := beq_eq_false_iff_ne.mpr c28; have c28b1 : (((rd_T46 ((rd_T42 l0_2 a1).f3) x10_3).f0) != 27) = true := bne_iff_ne.mpr c28; have H' := Aside0.mk H; clear H; have hnb31 := NB410_400.out; have hnc31 := NB400_410.out; obtain ⟨hcz32_0, hcz32_1⟩ := cells2 BK410.out; obtain ⟨hfz32_0, hfz32_1⟩ := froz2 BK410.out
                        go_wp2
                        go_meet
                        case rel => exact ⟨_, (false), (by first | rfl | (simp; done) | (simp [*]; done)), H', ⟨by have := HK1.out; have := HK2.out; have := HK3.out; first | omega | exact Nat.le_refl _⟩, ⟨by (with_reducible repeat (first | apply Kd.R_alloc | apply Kd.R_drewN | apply Kd.R_drew)); exact HO_7.out⟩, ⟨by (with_reducible repeat (first | refine blk_drewN ?_ _ | refine blk_drew ?_ | refine blk_alloc ?_ _)); exact BK400.out⟩, ⟨by (with_reducible repeat (first | refine blk_drewN ?_ _ | refine blk_drew ?_ | refine blk_alloc ?_ _)); exact BK410.out⟩, ⟨bn2 HB GE400 GE410⟩⟩
                case rest =>
                  clear HC19
                  try clear c1
                  try clear c2
                  try clear p2
                  try clear c3
                  try clear c3b0
                  try clear c4
                  try clear c4b0
                  try clear p4
                  try clear q4
                  try clear hx4
                  try clear p6
                  try clear c9
                  try clear c9b0
                  try clear c10
                  try clear c12
                  try clear c13
                  try clear c13b0
                  try clear c14
                  try clear c14b0
                  try clear c15
                  try clear c15b0
                  try clear c16
                  try clear c16b0
                  try clear c22
                  try clear c26
                  try clear c26b0
                  try clear c27
                  try clear c27b0
                  try clear c28
                  try clear c28b0
                  try clear c28b1
                  try clear c29
                  try clear c31
                  try clear hcz23_0
                  try clear hcz23_1
                  try clear hcz24_0
                  try clear hcz24_1
                  try clear hcz24_2
                  try clear hcz30_0
                  try clear hcz30_1
                  try clear hcz32_0
                  try clear hcz32_1
                  try clear hcz6_0
                  try clear hcz6_1
                  try clear hcz6_2
                  try clear hfz23_0
                  try clear hfz23_1
                  try clear hfz24_0
                  try clear hfz24_1
                  try clear hfz24_2
                  try clear hfz30_0
                  try clear hfz30_1
                  try clear hfz32_0
                  try clear hfz32_1
                  try clear hfz6_0
                  try clear hfz6_1
                  try clear hfz6_2
                  try clear hx401_0
                  try clear hx401_1
                  try clear hx401_2
                  try clear hx401_3
                  try clear hx408_0
                  try clear hx409_0
                  try clear hx409_1
                  try clear hx414_0
                  try clear p2
                  try clear p4
                  try clear p401
                  try clear p408
                  try clear p409
                  try clear p414
                  try clear p6
                  try clear q4
                  try clear q401
                  try clear q408
                  try clear q409
                  try clear q414
                  obtain ⟨kq, x81_18, rfl, HA, HJ18, HO_7, BK400, BK410, HB⟩ := hcut
                  cases kq with
                  | zero => exact absurd HA.out (by simp [casementref13_Heights.j3])
                  | succ kj18 => ?_
                  have H := HA.out; clear HA; simp only [casementref13_Heights.j3] at H
                  by_cases c33 : x81_18 = true
                  · subst c33
                    have H1 : (some (([] : List Int), false)) = some (r1, r2) := by rw [if_pos rfl] at H; exact H
                    clear H; have H := H1; clear H1; simp only [Option.some.injEq, Prod.mk.injEq] at H; obtain ⟨rfl, rfl⟩ := H
                    go_wp2
                    go_ret2
                    exact ⟨_, by first | rfl | (simp [errW_none, errW_some] <;> rfl) | (simp [*, errW_none, errW_some] <;> rfl), by first | exact Kd.R_nil _ _ _ _ _ | exact Kd.N_nil _ _ _ _ _ | exact Kd.V_nil _ _ _ _ _ | exact Kd.Q_nil _ _ _ _ _ | exact Kd.S_nil _ _ _ _ _, bn2 HB GE400 GE410⟩
                  · replace c33 := Bool.eq_false_iff.mpr c33
                    subst c33
                    have H1 : ((some (([] : List Int) : List Int)).bind fun y415 => (if ((rd_T46 ((rd_T42 l0_2 a1).f3) x10_3).f0) = 24 then (casementref13_Heights.j4 kj18 a1 ((rd_T42 l0_2 a1).f3) x7_3 x9_3 x10_3 t412 (wrap64 ((rd x7_3 x10_3) - t411)) y415 true a0_0 l0_1 l0_2 ((rd_T46 ((rd_T42 l0_2 a1).f3) x10_3).f0) ((rd_T46 ((rd_T42 l0_2 a1).f3) x10_3).f1)) else (casementref13_Heights.j4 kj18 a1 ((rd_T42 l0_2 a1).f3) x7_3 x9_3 x10_3 t412 (wrap64 ((rd x7_3 x10_3) - t411)) y415 (((rd_T46 ((rd_T42 l0_2 a1).f3) x10_3).f0) == 25) a0_0 l0_1 l0_2 ((rd_T46 ((rd_T42 l0_2 a1).f3) x10_3).f0) ((rd_T46 ((rd_T42 l0_2 a1).f3) x10_3).f1)))) = some (r1, r2) := by rw [if_neg (show ¬ (false = true) by decide)] at H; exact H
                    clear H; have H := H1; clear H1; obtain ⟨y415, hy415⟩ : ∃ y_ : List Int, y_ = (([] : List Int)) := ⟨_, rfl⟩
                    replace H : (if ((rd_T46 ((rd_T42 l0_2 a1).f3) x10_3).f0) = 24 then (casementref13_Heights.j4 kj18 a1 ((rd_T42 l0_2 a1).f3) x7_3 x9_3 x10_3 t412 (wrap64 ((rd x7_3 x10_3) - t411)) y415 true a0_0 l0_1 l0_2 ((rd_T46 ((rd_T42 l0_2 a1).f3) x10_3).f0) ((rd_T46 ((rd_T42 l0_2 a1).f3) x10_3).f1)) else (casementref13_Heights.j4 kj18 a1 ((rd_T42 l0_2 a1).f3) x7_3 x9_3 x10_3 t412 (wrap64 ((rd x7_3 x10_3) - t411)) y415 (((rd_T46 ((rd_T42 l0_2 a1).f3) x10_3).f0) == 25) a0_0 l0_1 l0_2 ((rd_T46 ((rd_T42 l0_2 a1).f3) x10_3).f0) ((rd_T46 ((rd_T42 l0_2 a1).f3) x10_3).f1))) = some (r1, r2) := by first | (rw [hy415]; with_reducible exact H) | (have H2_ := (Option.bind_some _ _).symm.trans H; rw [hy415]; with_reducible exact H2_) | (have H2_ := (Option.bind_some _ _).symm.trans H; with_reducible exact H2_) | with_reducible exact H | (rw [hy415]; exact H) | exact H
                    have Ny415 := Aside0.mk hy415; clear hy415; have HC34 := Aside0.mk H; clear H
                    go_upto_region 20 with (first | ((with_reducible refine gate_dst (N := 82) rfl ?_); refine Kd.R_lit (Kd.int .i64) _ 3 ?hg (N := 82) ?hd (xs := ([] : List Int)) (inner := []) (ok := fun _ => True) (okp := fun _ => True) ?hr ?hp (fun _ hk => hk) trivial (Below.refl _ _) (Nat.le_refl _) (by simp) ?_; (case hd => rfl); (case hg => rfl); (case hr => first | (go_simp; done) | (go_simp; rfl)); (case hp => exact (Reps.none _ _)); intro v416 w35 ho36 hb hg_ hnew_; clear hg_ hnew_; (first | rw [← Ny415.out] at ho36 | (simp only [Int.reduceToNat] at ho36; rw [← Ny415.out] at ho36)); have n0_ := Aside0.mk (Kd.R_elder' (rnR HO_7) (Kd.R_base ho36) hb); have HO417 := Aside0.mk (Kd.R_lower (Kd.R_new' ho36 (Kd.R_lt (rnR HO_7))) (below_size (bn2 HB GE400 GE410))); replace BK400 := Aside0.mk (blk_below (g := gb400) (o := .cells #[.int .i64 a0_0, .slice A0_1 l0_1.length c0_1, .slice (some ad401) l0_2.length c0_2] 25 (0, 0)) (bkn BK400) hb); replace BK410 := Aside0.mk (blk_below (g := gb410) (o := .cells #[.int .i64 ((rd_T46 ((rd_T42 l0_2 a1).f3) x10_3).f0), .int .i64 ((rd_T46 ((rd_T42 l0_2 a1).f3) x10_3).f1)] 46 (0, 0)) (bkn BK410) hb); replace HB := Aside0.mk (below_step (bn2 HB GE400 GE410) hb); replace HO_7 := n0_; clear n0_; clear hb ho36))
                    (try simp only [Act.put, List.setIfInBounds_toArray, List.set_cons_zero, List.set_cons_succ])
                    go_cut [90] (fun v90 wc => ∃ (kq : Nat) (x90_33 : Bool), v90 = .bool x90_33 ∧ Aside0 (casementref13_Heights.j4 kq a1 ((rd_T42 l0_2 a1).f3) x7_3 x9_3 x10_3 t412 (wrap64 ((rd x7_3 x10_3) - t411)) y415 x90_33 a0_0 l0_1 l0_2 ((rd_T46 ((rd_T42 l0_2 a1).f3) x10_3).f0) ((rd_T46 ((rd_T42 l0_2 a1).f3) x10_3).f1) = some (r1, r2)) ∧ Aside0 (kq ≤ kj18) ∧ Aside0 (Kd.R (Kd.int .i64) 3 wc w.heap.size (fun k_ => some k_ ≠ (v416 : Value).ownBlock) (.slice (some ad408) x7_3.length co20) x7_3) ∧ Aside0 (Kd.R (Kd.int .i64) 3 wc w.heap.size (fun k_ => some k_ ≠ ((.slice (some ad408) x7_3.length co20) : Value).ownBlock) v416 y415) ∧ Aside0 (wc.heap[gb400]? = some (.cells #[.int .i64 a0_0, (.slice A0_1 l0_1.length c0_1), (.slice (some ad401) l0_2.length c0_2)] 25 (0, 0))) ∧ Aside0 (wc.heap[gb410]? = some (.cells #[.int .i64 ((rd_T46 ((rd_T42 l0_2 a1).f3) x10_3).f0), .int .i64 ((rd_T46 ((rd_T42 l0_2 a1).f3) x10_3).f1)] 46 (0, 0))) ∧ Aside0 (Below w.heap.size w wc))
                    case first =>
                      have H := HC34.out; clear HC34
                      by_cases c37 : ((rd_T46 ((rd_T42 l0_2 a1).f3) x10_3).f0) = 24
                      · rw [if_pos c37] at H
                        have c37b0 : (((rd_T46 ((rd_T42 l0_2 a1).f3) x10_3).f0) == 24) = true := beq_iff_eq.mpr c37; have c37b1 : (((rd_T46 ((rd_T42 l0_2 a1).f3) x10_3).f0) != 24) = false := bne_eq_false_iff_eq.mpr c37; clear c37
                        (first | rw [c37b0] | (simp only [i64_w, i32_w]; rw [c37b0]) | skip)
                        have H' := Aside0.mk H; clear H; have hnb38 := NB410_400.out; have hnc38 := NB400_410.out; obtain ⟨hcz39_0, hcz39_1⟩ := cells2 BK410.out; obtain ⟨hfz39_0, hfz39_1⟩ := froz2 BK410.out
                        go_wp2
                        go_meet
                        case rel => exact ⟨_, (true), (by first | rfl | (simp; done) | (simp [*]; done)), H', ⟨by have := HK1.out; have := HK2.out; have := HK3.out; have := HJ18.out; first | omega | exact Nat.le_refl _⟩, ⟨by (with_reducible repeat (first | apply Kd.R_alloc | apply Kd.R_drewN | apply Kd.R_drew)); exact Kd.R_mono HO_7.out (fun _ hk => hk.2)⟩, ⟨by (with_reducible repeat (first | apply Kd.R_alloc | apply Kd.R_drewN | apply Kd.R_drew)); exact Kd.R_mono HO417.out (fun _ hk => hk.2)⟩, ⟨by (with_reducible repeat (first | refine blk_drewN ?_ _ | refine blk_drew ?_ | refine blk_alloc ?_ _)); exact BK400.out⟩, ⟨by (with_reducible repeat (first | refine blk_drewN ?_ _ | refine blk_drew ?_ | refine blk_alloc ?_ _)); exact BK410.out⟩, ⟨bn2 HB GE400 GE410⟩⟩
                      · rw [if_neg c37] at H
                        have c37b0 : (((rd_T46 ((rd_T42 l0_2 a1).f3) x10_3).f0) == 24) = false := beq_eq_false_iff_ne.mpr c37; have c37b1 : (((rd_T46 ((rd_T42 l0_2 a1).f3) x10_3).f0) != 24) = true := bne_iff_ne.mpr c37
                        (first | rw [c37b0] | (simp only [i64_w, i32_w]; rw [c37b0]) | skip)
                        have H' := Aside0.mk H; clear H; have hnb40 := NB410_400.out; have hnc40 := NB400_410.out; obtain ⟨hcz41_0, hcz41_1⟩ := cells2 BK410.out; obtain ⟨hfz41_0, hfz41_1⟩ := froz2 BK410.out
                        go_wp2
                        go_meet
                        case rel => exact ⟨_, ((((rd_T46 ((rd_T42 l0_2 a1).f3) x10_3).f0) == 25)), (by first | rfl | (simp; done) | (simp [*]; done)), H', ⟨by have := HK1.out; have := HK2.out; have := HK3.out; have := HJ18.out; first | omega | exact Nat.le_refl _⟩, ⟨by (with_reducible repeat (first | apply Kd.R_alloc | apply Kd.R_drewN | apply Kd.R_drew)); exact Kd.R_mono HO_7.out (fun _ hk => hk.2)⟩, ⟨by (with_reducible repeat (first | apply Kd.R_alloc | apply Kd.R_drewN | apply Kd.R_drew)); exact Kd.R_mono HO417.out (fun _ hk => hk.2)⟩, ⟨by (with_reducible repeat (first | refine blk_drewN ?_ _ | refine blk_drew ?_ | refine blk_alloc ?_ _)); exact BK400.out⟩, ⟨by (with_reducible repeat (first | refine blk_drewN ?_ _ | refine blk_drew ?_ | refine blk_alloc ?_ _)); exact BK410.out⟩, ⟨bn2 HB GE400 GE410⟩⟩
                    case rest =>
                      clear HC34
                      try clear c1
                      try clear c2
                      try clear p2
                      try clear c3
                      try clear c3b0
                      try clear c4
                      try clear c4b0
                      try clear p4
                      try clear q4
                      try clear hx4
                      try clear p6
                      try clear c9
                      try clear c9b0
                      try clear c10
                      try clear c12
                      try clear c13
                      try clear c13b0
                      try clear c14
                      try clear c14b0
                      try clear c15
                      try clear c15b0
                      try clear c16
                      try clear c16b0
                      try clear c22
                      try clear c26
                      try clear c26b0
                      try clear c27
                      try clear c27b0
                      try clear c28
                      try clear c28b0
                      try clear c28b1
                      try clear c29
                      try clear c31
                      try clear c33
                      try clear c37
                      try clear c37b0
                      try clear c37b1
                      try clear c38
                      try clear c40
                      try clear p40
                      try clear q40
                      try clear hx40
                      try clear p41
                      try clear q41
                      try clear hx41
                      try clear hcz23_0
                      try clear hcz23_1
                      try clear hcz24_0
                      try clear hcz24_1
                      try clear hcz24_2
                      try clear hcz30_0
                      try clear hcz30_1
                      try clear hcz32_0
                      try clear hcz32_1
                      try clear hcz39_0
                      try clear hcz39_1
                      try clear hcz41_0
                      try clear hcz41_1
                      try clear hcz6_0
                      try clear hcz6_1
                      try clear hcz6_2
                      try clear hfz23_0
                      try clear hfz23_1
                      try clear hfz24_0
                      try clear hfz24_1
                      try clear hfz24_2
                      try clear hfz30_0
                      try clear hfz30_1
                      try clear hfz32_0
                      try clear hfz32_1
                      try clear hfz39_0
                      try clear hfz39_1
                      try clear hfz41_0
                      try clear hfz41_1
                      try clear hfz6_0
                      try clear hfz6_1
                      try clear hfz6_2
                      try clear hx401_0
                      try clear hx401_1
                      try clear hx401_2
                      try clear hx401_3
                      try clear hx408_0
                      try clear hx409_0
                      try clear hx409_1
                      try clear hx414_0
                      try clear p2
                      try clear p4
                      try clear p401
                      try clear p408
                      try clear p409
                      try clear p414
                      try clear p6
                      try clear q4
                      try clear q401
                      try clear q408
                      try clear q409
                      try clear q414
                      obtain ⟨kq, x90_33, rfl, HA, HJ33, HO_7, HO_16, BK400, BK410, HB⟩ := hcut
                      cases kq with
                      | zero => exact absurd HA.out (by simp [casementref13_Heights.j4])
                      | succ kj33 => ?_
                      have H := HA.out; clear HA; simp only [casementref13_Heights.j4] at H; have HC42 := Aside0.mk H; clear H
                      go_upto_if 90 with (fail)
                      go_cut [16] (fun v16 wc => ∃ (kq : Nat) (x16_41 : List Int), Aside0 (casementref13_Heights.j5 kq a1 ((rd_T42 l0_2 a1).f3) x7_3 x9_3 x10_3 t412 (wrap64 ((rd x7_3 x10_3) - t411)) x16_41 a0_0 l0_1 l0_2 ((rd_T46 ((rd_T42 l0_2 a1).f3) x10_3).f0) ((rd_T46 ((rd_T42 l0_2 a1).f3) x10_3).f1) = some (r1, r2)) ∧ Aside0 (kq ≤ kj33) ∧ Aside0 (Kd.R (Kd.int .i64) 3 wc w.heap.size (fun k_ => some k_ ≠ (v16 : Value).ownBlock) (.slice (some ad408) x7_3.length co20) x7_3) ∧ Aside0 (Kd.R (Kd.int .i64) 3 wc w.heap.size (fun k_ => some k_ ≠ ((.slice (some ad408) x7_3.length co20) : Value).ownBlock) v16 x16_41) ∧ Aside0 (wc.heap[gb400]? = some (.cells #[.int .i64 a0_0, (.slice A0_1 l0_1.length c0_1), (.slice (some ad401) l0_2.length c0_2)] 25 (0, 0))) ∧ Aside0 (wc.heap[gb410]? = some (.cells #[.int .i64 ((rd_T46 ((rd_T42 l0_2 a1).f3) x10_3).f0), .int .i64 ((rd_T46 ((rd_T42 l0_2 a1).f3) x10_3).f1)] 46 (0, 0))) ∧ Aside0 (Below w.heap.size w wc))
                      case first =>
                        have H := HC42.out; clear HC42
                        by_cases c43 : x90_33 = true
                        · subst c43
                          have H1 : (if y415.length < 17592186044416 then (casementref13_Heights.j5 kj33 a1 ((rd_T42 l0_2 a1).f3) x7_3 x9_3 x10_3 t412 (wrap64 ((rd x7_3 x10_3) - t411)) (y415 ++ [((rd_T46 ((rd_T42 l0_2 a1).f3) x10_3).f1)]) a0_0 l0_1 l0_2 ((rd_T46 ((rd_T42 l0_2 a1).f3) x10_3).f0) ((rd_T46 ((rd_T42 l0_2 a1).f3) x10_3).f1)) else (none)) = some (r1, r2) := by rw [if_pos rfl] at H; exact H
                          clear H; have H := H1; clear H1
                          by_cases c44 : y415.length < 17592186044416
                          case neg => rw [if_neg c44] at H; exact absurd H (by simp)
                          rw [if_pos c44] at H; have LMc44 := Aside0.mk c44; clear c44; obtain ⟨y418, hy418⟩ : ∃ y_ : List Int, y_ = (y415 ++ [((rd_T46 ((rd_T42 l0_2 a1).f3) x10_3).f1)]) := ⟨_, rfl⟩
                          replace H : (casementref13_Heights.j5 kj33 a1 ((rd_T42 l0_2 a1).f3) x7_3 x9_3 x10_3 t412 (wrap64 ((rd x7_3 x10_3) - t411)) y418 a0_0 l0_1 l0_2 ((rd_T46 ((rd_T42 l0_2 a1).f3) x10_3).f0) ((rd_T46 ((rd_T42 l0_2 a1).f3) x10_3).f1)) = some (r1, r2) := by first | (rw [hy418]; with_reducible exact H) | (have H2_ := (Option.bind_some _ _).symm.trans H; rw [hy418]; with_reducible exact H2_) | (have H2_ := (Option.bind_some _ _).symm.trans H; with_reducible exact H2_) | with_reducible exact H | (rw [hy418]; exact H) | exact H
                          have Ny418 := Aside0.mk hy418; clear hy418; have H' := Aside0.mk H; clear H; have hnb45 := NB410_400.out; have hnc45 := NB400_410.out; obtain ⟨hcz46_0, hcz46_1⟩ := cells2 BK410.out; obtain ⟨hfz46_0, hfz46_1⟩ := froz2 BK410.out
                          go_wp2_with (first | ((with_reducible refine gate_builtin (b := .append) (xs := #[.tmp 91, .tmp 94]) rfl ?_); at_builtin; refine Kd.R_append (Kd.int .i64) (w0 := w) w.heap.size rfl (.tmp 91) (.tmp 94) 34 3 (.int .i64 0) 8 rfl Try.underlying34 info3 rfl (by decide) (by omega) v416 y415 ((rd_T46 ((rd_T42 l0_2 a1).f3) x10_3).f1) [.int .i64 ((rd_T46 ((rd_T42 l0_2 a1).f3) x10_3).f1)] (fun k_ => some k_ ≠ (.slice (some ad408) x7_3.length co20 : Value).ownBlock) (fun _ => False) rfl rfl ?aP (fun _ hk => hk.elim) ?aF ?aO ?aB ?aS ?aL ?_; (case aP => exact rfl); (case aB => exact (bn2 HB GE400 GE410)); (case aF => exact (fun k_ hk => Kd.fresh' (Kd.R_lt (rnR HO_7)) k_ hk)); (case aO => exact (rnR HO_16)); (case aS => exact (below_size (bn2 HB GE400 GE410))); (case aL => have := LMc44.out; omega); intro v419 w47 ho hb hg hat; rw [← Ny418.out] at ho; replace HO_7 := Aside0.mk (Kd.R_after (ok := (fun _ => True)) (by (with_reducible repeat (first | apply Kd.R_alloc | apply Kd.R_drewN | apply Kd.R_drew)); exact Kd.R_mono HO_7.out (fun _ hk => ⟨trivial, hk⟩)) hg hat); replace BK400 := Aside0.mk (blk_grown (g := gb400) (o := .cells #[.int .i64 a0_0, .slice A0_1 l0_1.length c0_1, .slice (some ad401) l0_2.length c0_2] 25 (0, 0)) (bkn BK400) hg (Kd.R_ne HO_16.out BK400.out (by decide))); replace BK410 := Aside0.mk (blk_grown (g := gb410) (o := .cells #[.int .i64 ((rd_T46 ((rd_T42 l0_2 a1).f3) x10_3).f0), .int .i64 ((rd_T46 ((rd_T42 l0_2 a1).f3) x10_3).f1)] 46 (0, 0)) (bkn BK410) hg (Kd.R_ne HO_16.out BK410.out (by decide))); replace HB := Aside0.mk (hb); have HO420 := Aside0.mk (ho); clear HO_16; clear ho hb hg hat))
                          go_meet
                          case rel => exact ⟨_, (y418), H', ⟨by have := HK1.out; have := HK2.out; have := HK3.out; have := HJ18.out; have := HJ33.out; first | omega | exact Nat.le_refl _⟩, ⟨by (with_reducible repeat (first | apply Kd.R_alloc | apply Kd.R_drewN | apply Kd.R_drew)); exact Kd.R_mono HO_7.out (fun _ hk => hk.2)⟩, ⟨by (with_reducible repeat (first | apply Kd.R_alloc | apply Kd.R_drewN | apply Kd.R_drew)); exact HO420.out⟩, ⟨by (with_reducible repeat (first | refine blk_drewN ?_ _ | refine blk_drew ?_ | refine blk_alloc ?_ _)); exact BK400.out⟩, ⟨by (with_reducible repeat (first | refine blk_drewN ?_ _ | refine blk_drew ?_ | refine blk_alloc ?_ _)); exact BK410.out⟩, ⟨bn2 HB GE400 GE410⟩⟩
                        · replace c43 := Bool.eq_false_iff.mpr c43
                          subst c43
                          have H1 : (casementref13_Heights.j5 kj33 a1 ((rd_T42 l0_2 a1).f3) x7_3 x9_3 x10_3 t412 (wrap64 ((rd x7_3 x10_3) - t411)) y415 a0_0 l0_1 l0_2 ((rd_T46 ((rd_T42 l0_2 a1).f3) x10_3).f0) ((rd_T46 ((rd_T42 l0_2 a1).f3) x10_3).f1)) = some (r1, r2) := by rw [if_neg (show ¬ (false = true) by decide)] at H; exact H
                          clear H; have H := H1; clear H1; have H' := Aside0.mk H; clear H
                          go_wp2
                          go_meet
                          case rel => exact ⟨_, (y415), H', ⟨by have := HK1.out; have := HK2.out; have := HK3.out; have := HJ18.out; have := HJ33.out; first | omega | exact Nat.le_refl _⟩, ⟨by (with_reducible repeat (first | apply Kd.R_alloc | apply Kd.R_drewN | apply Kd.R_drew)); exact HO_7.out⟩, ⟨by (with_reducible repeat (first | apply Kd.R_alloc | apply Kd.R_drewN | apply Kd.R_drew)); exact HO_16.out⟩, ⟨by (with_reducible repeat (first | refine blk_drewN ?_ _ | refine blk_drew ?_ | refine blk_alloc ?_ _)); exact BK400.out⟩, ⟨by (with_reducible repeat (first | refine blk_drewN ?_ _ | refine blk_drew ?_ | refine blk_alloc ?_ _)); exact BK410.out⟩, ⟨bn2 HB GE400 GE410⟩⟩
                      case rest =>
                        clear HC42
                        try clear c1
                        try clear c2
                        try clear p2
                        try clear c3
                        try clear c3b0
                        try clear c4
                        try clear c4b0
                        try clear p4
                        try clear q4
                        try clear hx4
                        try clear p6
                        try clear c9
                        try clear c9b0
                        try clear c10
                        try clear c12
                        try clear c13
                        try clear c13b0
                        try clear c14
                        try clear c14b0
                        try clear c15
                        try clear c15b0
                        try clear c16
                        try clear c16b0
                        try clear c22
                        try clear c26
                        try clear c26b0
                        try clear c27
                        try clear c27b0
                        try clear c28
                        try clear c28b0
                        try clear c28b1
                        try clear c29
                        try clear c31
                        try clear c33
                        try clear c37
                        try clear c37b0
                        try clear c37b1
                        try clear c38
                        try clear c40
                        try clear p40
                        try clear q40
                        try clear hx40
                        try clear p41
                        try clear q41
                        try clear hx41
                        try clear c43
                        try clear c44
                        try clear c45
                        try clear hcz23_0
                        try clear hcz23_1
                        try clear hcz24_0
                        try clear hcz24_1
                        try clear hcz24_2
                        try clear hcz30_0
                        try clear hcz30_1
                        try clear hcz32_0
                        try clear hcz32_1
                        try clear hcz39_0
                        try clear hcz39_1
                        try clear hcz41_0
                        try clear hcz41_1
                        try clear hcz46_0
                        try clear hcz46_1
                        try clear hcz6_0
                        try clear hcz6_1
                        try clear hcz6_2
                        try clear hfz23_0
                        try clear hfz23_1
                        try clear hfz24_0
                        try clear hfz24_1
                        try clear hfz24_2
                        try clear hfz30_0
                        try clear hfz30_1
                        try clear hfz32_0
                        try clear hfz32_1
                        try clear hfz39_0
                        try clear hfz39_1
                        try clear hfz41_0
                        try clear hfz41_1
                        try clear hfz46_0
                        try clear hfz46_1
                        try clear hfz6_0
                        try clear hfz6_1
                        try clear hfz6_2
                        try clear hx401_0
                        try clear hx401_1
                        try clear hx401_2
                        try clear hx401_3
                        try clear hx408_0
                        try clear hx409_0
                        try clear hx409_1
                        try clear hx414_0
                        try clear p2
                        try clear p4
                        try clear p40
                        try clear p401
                        try clear p408
                        try clear p409
                        try clear p41
                        try clear p414
                        try clear p6
                        try clear q4
                        try clear q40
                        try clear q401
                        try clear q408
                        try clear q409
                        try clear q41
                        try clear q414
                        obtain ⟨kq, x16_41, HA, HJ41, HO_7, HO_16, BK400, BK410, HB⟩ := hcut
                        cases kq with
                        | zero => exact absurd HA.out (by simp [casementref13_Heights.j5])
                        | succ kj41 => ?_
                        have H := HA.out; clear HA; simp only [casementref13_Heights.j5] at H; have HC48 := Aside0.mk H; clear H
                        go_upto_region 22 with (fail)
                        go_cut [108] (fun v108 wc => ∃ (kq : Nat) (x108_47 : Bool), v108 = .bool x108_47 ∧ Aside0 (casementref13_Heights.j6 kq a1 ((rd_T42 l0_2 a1).f3) x7_3 x9_3 x10_3 t412 (wrap64 ((rd x7_3 x10_3) - t411)) x16_41 x108_47 a0_0 l0_1 l0_2 = some (r1, r2)) ∧ Aside0 (kq ≤ kj41) ∧ Aside0 (Kd.R (Kd.int .i64) 3 wc w.heap.size (fun k_ => some k_ ≠ (u16 : Value).ownBlock) (.slice (some ad408) x7_3.length co20) x7_3) ∧ Aside0 (Kd.R (Kd.int .i64) 3 wc w.heap.size (fun k_ => some k_ ≠ ((.slice (some ad408) x7_3.length co20) : Value).ownBlock) u16 x16_41) ∧ Aside0 (wc.heap[gb400]? = some (.cells #[.int .i64 a0_0, (.slice A0_1 l0_1.length c0_1), (.slice (some ad401) l0_2.length c0_2)] 25 (0, 0))) ∧ Aside0 (wc.heap[gb410]? = some (.cells #[.int .i64 ((rd_T46 ((rd_T42 l0_2 a1).f3) x10_3).f0), .int .i64 ((rd_T46 ((rd_T42 l0_2 a1).f3) x10_3).f1)] 46 (0, 0))) ∧ Aside0 (Below w.heap.size w wc))
                        case first =>
                          have H := HC48.out; clear HC48
                          by_cases c49 : ((rd_T46 ((rd_T42 l0_2 a1).f3) x10_3).f0) = 24
                          · rw [if_pos c49] at H
                            have c49b0 : (((rd_T46 ((rd_T42 l0_2 a1).f3) x10_3).f0) == 24) = true := beq_iff_eq.mpr c49; have c49b1 : (((rd_T46 ((rd_T42 l0_2 a1).f3) x10_3).f0) != 24) = false := bne_eq_false_iff_eq.mpr c49; clear c49
                            (first | rw [c49b0] | (simp only [i64_w, i32_w]; rw [c49b0]) | skip)
                            have H' := Aside0.mk H; clear H; have hnb50 := NB410_400.out; have hnc50 := NB400_410.out; obtain ⟨hcz51_0, hcz51_1⟩ := cells2 BK410.out; obtain ⟨hfz51_0, hfz51_1⟩ := froz2 BK410.out
                            go_wp2
                            go_meet
                            case rel => exact ⟨_, (false), (by first | rfl | (simp; done) | (simp [*]; done)), H', ⟨by have := HK1.out; have := HK2.out; have := HK3.out; have := HJ18.out; have := HJ33.out; have := HJ41.out; first | omega | exact Nat.le_refl _⟩, ⟨by (with_reducible repeat (first | apply Kd.R_alloc | apply Kd.R_drewN | apply Kd.R_drew)); exact HO_7.out⟩, ⟨by (with_reducible repeat (first | apply Kd.R_alloc | apply Kd.R_drewN | apply Kd.R_drew)); exact HO_16.out⟩, ⟨by (with_reducible repeat (first | refine blk_drewN ?_ _ | refine blk_drew ?_ | refine blk_alloc ?_ _)); exact BK400.out⟩, ⟨by (with_reducible repeat (first | refine blk_drewN ?_ _ | refine blk_drew ?_ | refine blk_alloc ?_ _)); exact BK410.out⟩, ⟨bn2 HB GE400 GE410⟩⟩
                          · rw [if_neg c49] at H
                            have c49b0 : (((rd_T46 ((rd_T42 l0_2 a1).f3) x10_3).f0) == 24) = false := beq_eq_false_iff_ne.mpr c49; have c49b1 : (((rd_T46 ((rd_T42 l0_2 a1).f3) x10_3).f0) != 24) = true := bne_iff_ne.mpr c49
                            (first | rw [c49b0] | (simp only [i64_w, i32_w]; rw [c49b0]) | skip)
                            by_cases c52 : ((rd_T46 ((rd_T42 l0_2 a1).f3) x10_3).f0) = 27
                            · rw [if_pos c52] at H
                              have c52b0 : (((rd_T46 ((rd_T42 l0_2 a1).f3) x10_3).f0) == 27) = true := beq_iff_eq.mpr c52; have c52b1 : (((rd_T46 ((rd_T42 l0_2 a1).f3) x10_3).f0) != 27) = false := bne_eq_false_iff_eq.mpr c52; clear c52; have H' := Aside0.mk H; clear H; have hnb53 := NB410_400.out; have hnc53 := NB400_410.out; obtain ⟨hcz54_0, hcz54_1⟩ := cells2 BK410.out; obtain ⟨hfz54_0, hfz54_1⟩ := froz2 BK410.out
                              go_wp2
                              go_meet
                              case rel => exact ⟨_, (false), (by first | rfl | (simp; done) | (simp [*]; done)), H', ⟨by have := HK1.out; have := HK2.out; have := HK3.out; have := HJ18.out; have := HJ33.out; have := HJ41.out; first | omega | exact Nat.le_refl _⟩, ⟨by (with_reducible repeat (first | apply Kd.R_alloc | apply Kd.R_drewN | apply Kd.R_drew)); exact HO_7.out⟩, ⟨by (with_reducible repeat (first | apply Kd.R_alloc | apply Kd.R_drewN | apply Kd.R_drew)); exact HO_16.out⟩, ⟨by (with_reducible repeat (first | refine blk_drewN ?_ _ | refine blk_drew ?_ | refine blk_alloc ?_ _)); exact BK400.out⟩, ⟨by (with_reducible repeat (first | refine blk_drewN ?_ _ | refine blk_drew ?_ | refine blk_alloc ?_ _)); exact BK410.out⟩, ⟨bn2 HB GE400 GE410⟩⟩
                            · rw [if_neg c52] at H
                              have c52b0 : (((rd_T46 ((rd_T42 l0_2 a1).f3) x10_3).f0) == 27) = false := beq_eq_false_iff_ne.mpr c52; have c52b1 : (((rd_T46 ((rd_T42 l0_2 a1).f3) x10_3).f0) != 27) = true := bne_iff_ne.mpr c52; have H' := Aside0.mk H; clear H; have hnb55 := NB410_400.out; have hnc55 := NB400_410.out; obtain ⟨hcz56_0, hcz56_1⟩ := cells2 BK410.out; obtain ⟨hfz56_0, hfz56_1⟩ := froz2 BK410.out
                              go_wp2
                              go_meet
                              case rel => exact ⟨_, ((((rd_T46 ((rd_T42 l0_2 a1).f3) x10_3).f0) != 29)), (by first | rfl | (simp; done) | (simp [*]; done)), H', ⟨by have := HK1.out; have := HK2.out; have := HK3.out; have := HJ18.out; have := HJ33.out; have := HJ41.out; first | omega | exact Nat.le_refl _⟩, ⟨by (with_reducible repeat (first | apply Kd.R_alloc | apply Kd.R_drewN | apply Kd.R_drew)); exact HO_7.out⟩, ⟨by (with_reducible repeat (first | apply Kd.R_alloc | apply Kd.R_drewN | apply Kd.R_drew)); exact HO_16.out⟩, ⟨by (with_reducible repeat (first | refine blk_drewN ?_ _ | refine blk_drew ?_ | refine blk_alloc ?_ _)); exact BK400.out⟩, ⟨by (with_reducible repeat (first | refine blk_drewN ?_ _ | refine blk_drew ?_ | refine blk_alloc ?_ _)); exact BK410.out⟩, ⟨bn2 HB GE400 GE410⟩⟩
                        case rest =>
                          clear HC48
                          try clear c1
                          try clear c2
                          try clear p2
                          try clear c3
                          try clear c3b0
                          try clear c4
                          try clear c4b0
                          try clear p4
                          try clear q4
                          try clear hx4
                          try clear c5
                          try clear p6
                          try clear c9
                          try clear c9b0
                          try clear c10
                          try clear c12
                          try clear c13
                          try clear c13b0
                          try clear c14
                          try clear c14b0
                          try clear c15
                          try clear c15b0
                          try clear c16
                          try clear c16b0
                          try clear c22
                          try clear c26
                          try clear c26b0
                          try clear c27
                          try clear c27b0
                          try clear c28
                          try clear c28b0
                          try clear c28b1
                          try clear c29
                          try clear c31
                          try clear c33
                          try clear c37
                          try clear c37b0
                          try clear c37b1
                          try clear c38
                          try clear c40
                          try clear p40
                          try clear q40
                          try clear hx40
                          try clear p41
                          try clear q41
                          try clear hx41
                          try clear c43
                          try clear c44
                          try clear c45
                          try clear c49
                          try clear c49b0
                          try clear c49b1
                          try clear c50
                          try clear c52
                          try clear c52b0
                          try clear c52b1
                          try clear c53
                          try clear c55
                          try clear hcz23_0
                          try clear hcz23_1
                          try clear hcz24_0
                          try clear hcz24_1
                          try clear hcz24_2
                          try clear hcz30_0
                          try clear hcz30_1
                          try clear hcz32_0
                          try clear hcz32_1
                          try clear hcz39_0
                          try clear hcz39_1
                          try clear hcz41_0
                          try clear hcz41_1
                          try clear hcz46_0
                          try clear hcz46_1
                          try clear hcz51_0
                          try clear hcz51_1
                          try clear hcz54_0
                          try clear hcz54_1
                          try clear hcz56_0
                          try clear hcz56_1
                          try clear hcz6_0
                          try clear hcz6_1
                          try clear hcz6_2
                          try clear hfz23_0
                          try clear hfz23_1
                          try clear hfz24_0
                          try clear hfz24_1
                          try clear hfz24_2
                          try clear hfz30_0
                          try clear hfz30_1
                          try clear hfz32_0
                          try clear hfz32_1
                          try clear hfz39_0
                          try clear hfz39_1
                          try clear hfz41_0
                          try clear hfz41_1
                          try clear hfz46_0
                          try clear hfz46_1
                          try clear hfz51_0
                          try clear hfz51_1
                          try clear hfz54_0
                          try clear hfz54_1
                          try clear hfz56_0
                          try clear hfz56_1
                          try clear hfz6_0
                          try clear hfz6_1
                          try clear hfz6_2
                          try clear hx401_0
                          try clear hx401_1
                          try clear hx401_2
                          try clear hx401_3
                          try clear hx408_0
                          try clear hx409_0
                          try clear hx409_1
                          try clear hx414_0
                          try clear p2
                          try clear p4
                          try clear p40
                          try clear p401
                          try clear p408
                          try clear p409
                          try clear p41
                          try clear p414
                          try clear p6
                          try clear q4
                          try clear q40
                          try clear q401
                          try clear q408
                          try clear q409
                          try clear q41
                          try clear q414
                          obtain ⟨kq, x108_47, rfl, HA, HJ47, HO_7, HO_16, BK400, BK410, HB⟩ := hcut
                          cases kq with
                          | zero => exact absurd HA.out (by simp [casementref13_Heights.j6])
                          | succ kj47 => ?_
                          have H := HA.out; clear HA; simp only [casementref13_Heights.j6] at H; have HC57 := Aside0.mk H; clear H
                          go_upto_if 108 with (fail)
                          go_cut [16] (fun v16 wc => ∃ (kq : Nat) (x16_56 : List Int), Aside0 (casementref13_Heights.j7 kq a1 ((rd_T42 l0_2 a1).f3) x7_3 x9_3 x10_3 t412 (wrap64 ((rd x7_3 x10_3) - t411)) x16_56 a0_0 l0_1 l0_2 = some (r1, r2)) ∧ Aside0 (kq ≤ kj47) ∧ Aside0 (Kd.R (Kd.int .i64) 3 wc w.heap.size (fun k_ => some k_ ≠ (v16 : Value).ownBlock) (.slice (some ad408) x7_3.length co20) x7_3) ∧ Aside0 (Kd.R (Kd.int .i64) 3 wc w.heap.size (fun k_ => some k_ ≠ ((.slice (some ad408) x7_3.length co20) : Value).ownBlock) v16 x16_56) ∧ Aside0 (wc.heap[gb400]? = some (.cells #[.int .i64 a0_0, (.slice A0_1 l0_1.length c0_1), (.slice (some ad401) l0_2.length c0_2)] 25 (0, 0))) ∧ Aside0 (wc.heap[gb410]? = some (.cells #[.int .i64 ((rd_T46 ((rd_T42 l0_2 a1).f3) x10_3).f0), .int .i64 ((rd_T46 ((rd_T42 l0_2 a1).f3) x10_3).f1)] 46 (0, 0))) ∧ Aside0 (Below w.heap.size w wc))
                          case first =>
                            have H := HC57.out; clear HC57
                            by_cases c58 : x108_47 = true
                            · subst c58
                              have H1 : (if x16_41.length < 17592186044416 then (casementref13_Heights.j7 kj47 a1 ((rd_T42 l0_2 a1).f3) x7_3 x9_3 x10_3 t412 (wrap64 ((rd x7_3 x10_3) - t411)) (x16_41 ++ [wrap64 (x10_3 + 1)]) a0_0 l0_1 l0_2) else (none)) = some (r1, r2) := by rw [if_pos rfl] at H; exact H
                              clear H; have H := H1; clear H1
                              by_cases c59 : x16_41.length < 17592186044416
                              case neg => rw [if_neg c59] at H; exact absurd H (by simp)
                              rw [if_pos c59] at H; have LMc59 := Aside0.mk c59; clear c59; obtain ⟨y421, hy421⟩ : ∃ y_ : List Int, y_ = (x16_41 ++ [wrap64 (x10_3 + 1)]) := ⟨_, rfl⟩
                              replace H : (casementref13_Heights.j7 kj47 a1 ((rd_T42 l0_2 a1).f3) x7_3 x9_3 x10_3 t412 (wrap64 ((rd x7_3 x10_3) - t411)) y421 a0_0 l0_1 l0_2) = some (r1, r2) := by first | (rw [hy421]; with_reducible exact H) | (have H2_ := (Option.bind_some _ _).symm.trans H; rw [hy421]; with_reducible exact H2_) | (have H2_ := (Option.bind_some _ _).symm.trans H; with_reducible exact H2_) | with_reducible exact H | (rw [hy421]; exact H) | exact H
                              have Ny421 := Aside0.mk hy421; clear hy421; have H' := Aside0.mk H; clear H
                              go_wp2_with (first | ((with_reducible refine gate_builtin (b := .append) (xs := #[.tmp 109, .tmp 112]) rfl ?_); at_builtin; refine Kd.R_append (Kd.int .i64) (w0 := w) w.heap.size rfl (.tmp 109) (.tmp 112) 34 3 (.int .i64 0) 8 rfl Try.underlying34 info3 rfl (by decide) (by omega) u16 x16_41 (wrap64 (x10_3 + 1)) [.int .i64 (wrap64 (x10_3 + 1))] (fun k_ => some k_ ≠ (.slice (some ad408) x7_3.length co20 : Value).ownBlock) (fun _ => False) rfl rfl ?aP (fun _ hk => hk.elim) ?aF ?aO ?aB ?aS ?aL ?_; (case aP => exact rfl); (case aB => exact (bn2 HB GE400 GE410)); (case aF => exact (fun k_ hk => Kd.fresh' (Kd.R_lt (rnR HO_7)) k_ hk)); (case aO => exact (rnR HO_16)); (case aS => exact (below_size (bn2 HB GE400 GE410))); (case aL => have := LMc59.out; omega); intro v422 w60 ho hb hg hat; rw [← Ny421.out] at ho; replace HO_7 := Aside0.mk (Kd.R_after (ok := (fun _ => True)) (by (with_reducible repeat (first | apply Kd.R_alloc | apply Kd.R_drewN | apply Kd.R_drew)); exact Kd.R_mono HO_7.out (fun _ hk => ⟨trivial, hk⟩)) hg hat); replace BK400 := Aside0.mk (blk_grown (g := gb400) (o := .cells #[.int .i64 a0_0, .slice A0_1 l0_1.length c0_1, .slice (some ad401) l0_2.length c0_2] 25 (0, 0)) (bkn BK400) hg (Kd.R_ne HO_16.out BK400.out (by decide))); replace BK410 := Aside0.mk (blk_grown (g := gb410) (o := .cells #[.int .i64 ((rd_T46 ((rd_T42 l0_2 a1).f3) x10_3).f0), .int .i64 ((rd_T46 ((rd_T42 l0_2 a1).f3) x10_3).f1)] 46 (0, 0)) (bkn BK410) hg (Kd.R_ne HO_16.out BK410.out (by decide))); replace HB := Aside0.mk (hb); have HO423 := Aside0.mk (ho); clear HO_16; clear ho hb hg hat))
                              go_meet
                              case rel => exact ⟨_, (y421), H', ⟨by have := HK1.out; have := HK2.out; have := HK3.out; have := HJ18.out; have := HJ33.out; have := HJ41.out; have := HJ47.out; first | omega | exact Nat.le_refl _⟩, ⟨by (with_reducible repeat (first | apply Kd.R_alloc | apply Kd.R_drewN | apply Kd.R_drew)); exact Kd.R_mono HO_7.out (fun _ hk => hk.2)⟩, ⟨by (with_reducible repeat (first | apply Kd.R_alloc | apply Kd.R_drewN | apply Kd.R_drew)); exact HO423.out⟩, ⟨by (with_reducible repeat (first | refine blk_drewN ?_ _ | refine blk_drew ?_ | refine blk_alloc ?_ _)); exact BK400.out⟩, ⟨by (with_reducible repeat (first | refine blk_drewN ?_ _ | refine blk_drew ?_ | refine blk_alloc ?_ _)); exact BK410.out⟩, ⟨bn2 HB GE400 GE410⟩⟩
                            · replace c58 := Bool.eq_false_iff.mpr c58
                              subst c58
                              have H1 : (casementref13_Heights.j7 kj47 a1 ((rd_T42 l0_2 a1).f3) x7_3 x9_3 x10_3 t412 (wrap64 ((rd x7_3 x10_3) - t411)) x16_41 a0_0 l0_1 l0_2) = some (r1, r2) := by rw [if_neg (show ¬ (false = true) by decide)] at H; exact H
                              clear H; have H := H1; clear H1; have H' := Aside0.mk H; clear H
                              go_wp2
                              go_meet
                              case rel => exact ⟨_, (x16_41), H', ⟨by have := HK1.out; have := HK2.out; have := HK3.out; have := HJ18.out; have := HJ33.out; have := HJ41.out; have := HJ47.out; first | omega | exact Nat.le_refl _⟩, ⟨by (with_reducible repeat (first | apply Kd.R_alloc | apply Kd.R_drewN | apply Kd.R_drew)); exact HO_7.out⟩, ⟨by (with_reducible repeat (first | apply Kd.R_alloc | apply Kd.R_drewN | apply Kd.R_drew)); exact HO_16.out⟩, ⟨by (with_reducible repeat (first | refine blk_drewN ?_ _ | refine blk_drew ?_ | refine blk_alloc ?_ _)); exact BK400.out⟩, ⟨by (with_reducible repeat (first | refine blk_drewN ?_ _ | refine blk_drew ?_ | refine blk_alloc ?_ _)); exact BK410.out⟩, ⟨bn2 HB GE400 GE410⟩⟩
                          case rest =>
                            clear HC57
                            try clear c1
                            try clear c2
                            try clear p2
                            try clear c3
                            try clear c3b0
                            try clear c4
                            try clear c4b0
                            try clear p4
                            try clear q4
                            try clear hx4
                            try clear c5
                            try clear p6
                            try clear c9
                            try clear c9b0
                            try clear c10
                            try clear c12
                            try clear c13
                            try clear c13b0
                            try clear c14
                            try clear c14b0
                            try clear c15
                            try clear c15b0
                            try clear c16
                            try clear c16b0
                            try clear c22
                            try clear c26
                            try clear c26b0
                            try clear c27
                            try clear c27b0
                            try clear c28
                            try clear c28b0
                            try clear c28b1
                            try clear c29
                            try clear c31
                            try clear c33
                            try clear c37
                            try clear c37b0
                            try clear c37b1
                            try clear c38
                            try clear c40
                            try clear p40
                            try clear q40
                            try clear hx40
                            try clear p41
                            try clear q41
                            try clear hx41
                            try clear c43
                            try clear c44
                            try clear c45
                            try clear c49
                            try clear c49b0
                            try clear c49b1
                            try clear c50
                            try clear c52
                            try clear c52b0
                            try clear c52b1
                            try clear c53
                            try clear c55
                            try clear c58
                            try clear c59
                            try clear hcz23_0
                            try clear hcz23_1
                            try clear hcz24_0
                            try clear hcz24_1
                            try clear hcz24_2
                            try clear hcz30_0
                            try clear hcz30_1
                            try clear hcz32_0
                            try clear hcz32_1
                            try clear hcz39_0
                            try clear hcz39_1
                            try clear hcz41_0
                            try clear hcz41_1
                            try clear hcz46_0
                            try clear hcz46_1
                            try clear hcz51_0
                            try clear hcz51_1
                            try clear hcz54_0
                            try clear hcz54_1
                            try clear hcz56_0
                            try clear hcz56_1
                            try clear hcz6_0
                            try clear hcz6_1
                            try clear hcz6_2
                            try clear hfz23_0
                            try clear hfz23_1
                            try clear hfz24_0
                            try clear hfz24_1
                            try clear hfz24_2
                            try clear hfz30_0
                            try clear hfz30_1
                            try clear hfz32_0
                            try clear hfz32_1
                            try clear hfz39_0
                            try clear hfz39_1
                            try clear hfz41_0
                            try clear hfz41_1
                            try clear hfz46_0
                            try clear hfz46_1
                            try clear hfz51_0
                            try clear hfz51_1
                            try clear hfz54_0
                            try clear hfz54_1
                            try clear hfz56_0
                            try clear hfz56_1
                            try clear hfz6_0
                            try clear hfz6_1
                            try clear hfz6_2
                            try clear hx401_0
                            try clear hx401_1
                            try clear hx401_2
                            try clear hx401_3
                            try clear hx408_0
                            try clear hx409_0
                            try clear hx409_1
                            try clear hx414_0
                            try clear p2
                            try clear p4
                            try clear p40
                            try clear p401
                            try clear p408
                            try clear p409
                            try clear p41
                            try clear p414
                            try clear p6
                            try clear q4
                            try clear q40
                            try clear q401
                            try clear q408
                            try clear q409
                            try clear q41
                            try clear q414
                            obtain ⟨kq, x16_56, HA, HJ56, HO_7, HO_16, BK400, BK410, HB⟩ := hcut
                            cases kq with
                            | zero => exact absurd HA.out (by simp [casementref13_Heights.j7])
                            | succ kj56 => ?_
                            have H := HA.out; clear HA; simp only [casementref13_Heights.j7] at H; have H' := Aside0.mk H; clear H
                            go_wp2
                            go_loopg [7, 9, 17] kj56 (fun kq v7 v9 v17 w' => ∃ (x7_9 : List Int) (x9_9 : Bool) (x17_9 : Int), v9 = .bool x9_9 ∧ v17 = .int .i64 x17_9 ∧ Aside0 (casementref13_Heights.l3 kq a1 ((rd_T42 l0_2 a1).f3) x7_9 x9_9 x10_3 t412 (wrap64 ((rd x7_3 x10_3) - t411)) x16_56 x17_9 a0_0 l0_1 l0_2 = some (r1, r2)) ∧ Aside0 (kq ≤ kj56) ∧ Aside0 (Kd.R (Kd.int .i64) 3 w' w.heap.size (fun k_ => some k_ ≠ (u16 : Value).ownBlock) v7 x7_9) ∧ Aside0 (Kd.R (Kd.int .i64) 3 w' w.heap.size (fun k_ => some k_ ≠ (v7 : Value).ownBlock) u16 x16_56) ∧ Aside0 (w'.heap[gb400]? = some (.cells #[.int .i64 a0_0, (.slice A0_1 l0_1.length c0_1), (.slice (some ad401) l0_2.length c0_2)] 25 (0, 0))) ∧ Aside0 (w'.heap[gb410]? = some (.cells #[.int .i64 ((rd_T46 ((rd_T42 l0_2 a1).f3) x10_3).f0), .int .i64 ((rd_T46 ((rd_T42 l0_2 a1).f3) x10_3).f1)] 46 (0, 0))) ∧ Aside0 (Below w.heap.size w w'))
                            case atStart => exact ⟨(x7_3), (x9_3), (0), (by first | rfl | (simp; done) | (simp [*]; done)), (by first | rfl | (simp; done) | (simp [*]; done)), H', ⟨Nat.le_refl _⟩, ⟨by (with_reducible repeat (first | apply Kd.R_alloc | apply Kd.R_drewN | apply Kd.R_drew)); exact HO_7.out⟩, ⟨by (with_reducible repeat (first | apply Kd.R_alloc | apply Kd.R_drewN | apply Kd.R_drew)); exact HO_16.out⟩, ⟨by (with_reducible repeat (first | refine blk_drewN ?_ _ | refine blk_drew ?_ | refine blk_alloc ?_ _)); exact BK400.out⟩, ⟨by (with_reducible repeat (first | refine blk_drewN ?_ _ | refine blk_drew ?_ | refine blk_alloc ?_ _)); exact BK410.out⟩, ⟨bn2 HB GE400 GE410⟩⟩
                            case round =>
                              clear H'
                              try clear c1
                              try clear c2
                              try clear p2
                              try clear c3
                              try clear c3b0
                              try clear c4
                              try clear c4b0
                              try clear p4
                              try clear q4
                              try clear hx4
                              try clear c5
                              try clear p6
                              try clear c9
                              try clear c9b0
                              try clear c10
                              try clear c12
                              try clear c13
                              try clear c13b0
                              try clear c14
                              try clear c14b0
                              try clear c15
                              try clear c15b0
                              try clear c16
                              try clear c16b0
                              try clear c22
                              try clear c26
                              try clear c26b0
                              try clear c27
                              try clear c27b0
                              try clear c28
                              try clear c28b0
                              try clear c28b1
                              try clear c29
                              try clear c31
                              try clear c33
                              try clear c37
                              try clear c37b0
                              try clear c37b1
                              try clear c38
                              try clear c40
                              try clear p40
                              try clear q40
                              try clear hx40
                              try clear p41
                              try clear q41
                              try clear hx41
                              try clear c43
                              try clear c44
                              try clear c45
                              try clear c49
                              try clear c49b0
                              try clear c49b1
                              try clear c50
                              try clear c52
                              try clear c52b0
                              try clear c52b1
                              try clear c53
                              try clear c55
                              try clear c58
                              try clear c59
                              try clear hcz23_0
                              try clear hcz23_1
                              try clear hcz24_0
                              try clear hcz24_1
                              try clear hcz24_2
                              try clear hcz30_0
                              try clear hcz30_1
                              try clear hcz32_0
                              try clear hcz32_1
                              try clear hcz39_0
                              try clear hcz39_1
                              try clear hcz41_0
                              try clear hcz41_1
                              try clear hcz46_0
                              try clear hcz46_1
                              try clear hcz51_0
                              try clear hcz51_1
                              try clear hcz54_0
                              try clear hcz54_1
                              try clear hcz56_0
                              try clear hcz56_1
                              try clear hcz6_0
                              try clear hcz6_1
                              try clear hcz6_2
                              try clear hfz23_0
                              try clear hfz23_1
                              try clear hfz24_0
                              try clear hfz24_1
                              try clear hfz24_2
                              try clear hfz30_0
                              try clear hfz30_1
                              try clear hfz32_0
                              try clear hfz32_1
                              try clear hfz39_0
                              try clear hfz39_1
                              try clear hfz41_0
                              try clear hfz41_1
                              try clear hfz46_0
                              try clear hfz46_1
                              try clear hfz51_0
                              try clear hfz51_1
                              try clear hfz54_0
                              try clear hfz54_1
                              try clear hfz56_0
                              try clear hfz56_1
                              try clear hfz6_0
                              try clear hfz6_1
                              try clear hfz6_2
                              try clear hx401_0
                              try clear hx401_1
                              try clear hx401_2
                              try clear hx401_3
                              try clear hx408_0
                              try clear hx409_0
                              try clear hx409_1
                              try clear hx414_0
                              try clear p2
                              try clear p4
                              try clear p40
                              try clear p401
                              try clear p408
                              try clear p409
                              try clear p41
                              try clear p414
                              try clear p6
                              try clear q4
                              try clear q40
                              try clear q401
                              try clear q408
                              try clear q409
                              try clear q41
                              try clear q414
                              obtain ⟨x7_9, x9_9, x17_9, rfl, rfl, HA, HK9, HO_7, HO_16, BK400, BK410, HB⟩ := hrel
                              cases gk with
                              | zero => exact absurd HA.out (by simp [casementref13_Heights.l3])
                              | succ k9 => ?_
                              have H := HA.out; clear HA; simp only [casementref13_Heights.l3] at H
                              by_cases c61 : x17_9 < (x16_56.length : Int)
                              · rw [if_pos c61] at H
                                have c61b0 : decide (x17_9 < (x16_56.length : Int)) = true := decide_eq_true c61; clear c61
                                by_cases c62 : 0 ≤ x17_9
                                case neg => rw [if_neg c62] at H; exact absurd H (by simp)
                                rw [if_pos c62] at H; have c62b0 : decide (0 ≤ x17_9) = true := decide_eq_true c62; clear c62; have HC63 := Aside0.mk H; clear H; obtain ⟨Ao64, co64, eo64⟩ := Kd.R_slice HO_16.out; subst eo64; have p424 : 0 ≤ (x17_9 : Int) := of_decide_eq_true (by first | (with_reducible assumption) | assumption); have q424 : x17_9 < (x16_56.length : Int) := of_decide_eq_true (by first | (with_reducible assumption) | assumption); obtain ⟨ad424, e424, hx424_0⟩ := Kd.at_int (Kd.R_reads' HO_16.out).2.2 x17_9 p424 q424
                                cases e424
                                replace p424 := eq_true p424; replace q424 := eq_true q424
                                go_upto_region 28 with (fail)
                                go_cut [144] (fun v144 wc => ∃ (kq : Nat) (x144_62 : Bool), v144 = .bool x144_62 ∧ Aside0 (casementref13_Heights.j9 kq a1 ((rd_T42 l0_2 a1).f3) x7_9 x9_9 x10_3 t412 (wrap64 ((rd x7_3 x10_3) - t411)) x16_56 x17_9 (rd x16_56 x17_9) x144_62 a0_0 l0_1 l0_2 = some (r1, r2)) ∧ Aside0 (kq ≤ k9) ∧ Aside0 (Kd.R (Kd.int .i64) 3 wc w.heap.size (fun k_ => some k_ ≠ ((.slice (some ad424) x16_56.length co64) : Value).ownBlock) u7 x7_9) ∧ Aside0 (Kd.R (Kd.int .i64) 3 wc w.heap.size (fun k_ => some k_ ≠ (u7 : Value).ownBlock) (.slice (some ad424) x16_56.length co64) x16_56) ∧ Aside0 (wc.heap[gb400]? = some (.cells #[.int .i64 a0_0, (.slice A0_1 l0_1.length c0_1), (.slice (some ad401) l0_2.length c0_2)] 25 (0, 0))) ∧ Aside0 (wc.heap[gb410]? = some (.cells #[.int .i64 ((rd_T46 ((rd_T42 l0_2 a1).f3) x10_3).f0), .int .i64 ((rd_T46 ((rd_T42 l0_2 a1).f3) x10_3).f1)] 46 (0, 0))) ∧ Aside0 (Below w.heap.size w wc))
                                case first =>
                                  have H := HC63.out; clear HC63
                                  by_cases c65 : (rd x16_56 x17_9) ≥ (((rd_T42 l0_2 a1).f3).length : Int)
                                  · rw [if_pos c65] at H
                                    have c65b0 : decide ((((rd_T42 l0_2 a1).f3).length : Int) ≤ (rd x16_56 x17_9)) = true := decide_eq_true c65; clear c65
                                    (first | rw [c65b0] | (simp only [i64_w, i32_w]; rw [c65b0]) | skip)
                                    have H' := Aside0.mk H; clear H
                                    go_wp2
                                    go_meet
                                    case rel => exact ⟨_, (true), (by first | rfl | (simp; done) | (simp [*]; done)), H', ⟨by have := HK1.out; have := HK2.out; have := HK3.out; have := HJ18.out; have := HJ33.out; have := HJ41.out; have := HJ47.out; have := HJ56.out; have := HK9.out; first | omega | exact Nat.le_refl _⟩, ⟨by (with_reducible repeat (first | apply Kd.R_alloc | apply Kd.R_drewN | apply Kd.R_drew)); exact HO_7.out⟩, ⟨by (with_reducible repeat (first | apply Kd.R_alloc | apply Kd.R_drewN | apply Kd.R_drew)); exact HO_16.out⟩, ⟨by (with_reducible repeat (first | refine blk_drewN ?_ _ | refine blk_drew ?_ | refine blk_alloc ?_ _)); exact BK400.out⟩, ⟨by (with_reducible repeat (first | refine blk_drewN ?_ _ | refine blk_drew ?_ | refine blk_alloc ?_ _)); exact BK410.out⟩, ⟨bn2 HB GE400 GE410⟩⟩
                                  · rw [if_neg c65] at H
                                    have c65b0 : decide ((((rd_T42 l0_2 a1).f3).length : Int) ≤ (rd x16_56 x17_9)) = false := decide_eq_false c65; clear c65
                                    (first | rw [c65b0] | (simp only [i64_w, i32_w]; rw [c65b0]) | skip)
                                    by_cases c66 : 0 ≤ (rd x16_56 x17_9)
                                    case neg => rw [if_neg c66] at H; exact absurd H (by simp)
                                    rw [if_pos c66] at H; have c66b0 : decide (0 ≤ (rd x16_56 x17_9)) = true := decide_eq_true c66; clear c66
                                    by_cases c67 : (rd x16_56 x17_9) < (x7_9.length : Int)
                                    case neg => rw [if_neg c67] at H; exact absurd H (by simp)
                                    rw [if_pos c67] at H; have c67b0 : decide ((rd x16_56 x17_9) < (x7_9.length : Int)) = true := decide_eq_true c67; clear c67
                                    by_cases c68 : (rd x7_9 (rd x16_56 x17_9)) ≥ 0
                                    · rw [if_pos c68] at H
                                      have c68b0 : decide (0 ≤ (rd x7_9 (rd x16_56 x17_9))) = true := decide_eq_true c68; clear c68; have H' := Aside0.mk H; clear H; obtain ⟨Ao69, co69, eo69⟩ := Kd.R_slice HO_7.out; subst eo69; have p425 : 0 ≤ ((rd x16_56 x17_9) : Int) := of_decide_eq_true (by first | (with_reducible assumption) | assumption); have q425 : (rd x16_56 x17_9) < (x7_9.length : Int) := of_decide_eq_true (by first | (with_reducible assumption) | assumption); obtain ⟨ad425, e425, hx425_0⟩ := Kd.at_int (Kd.R_reads' HO_7.out).2.2 (rd x16_56 x17_9) p425 q425
                                      cases e425
                                      replace p425 := eq_true p425; replace q425 := eq_true q425; have p426 : 0 ≤ ((rd x16_56 x17_9) : Int) := of_decide_eq_true (by first | (with_reducible assumption) | assumption); have q426 : (rd x16_56 x17_9) < (x7_9.length : Int) := of_decide_eq_true (by first | (with_reducible assumption) | assumption); obtain ⟨ad426, e426, hx426_0⟩ := Kd.at_int (Kd.R_reads' HO_7.out).2.2 (rd x16_56 x17_9) p426 q426; obtain rfl : ad425 = ad426 := (by injection e426); replace p426 := eq_true p426; replace q426 := eq_true q426
                                      go_wp2
                                      go_meet
                                      case rel => exact ⟨_, (((rd x7_9 (rd x16_56 x17_9)) != (wrap64 ((wrap64 ((rd x7_3 x10_3) - t411)) + t412)))), (by first | rfl | (simp; done) | (simp [*]; done)), H', ⟨by have := HK1.out; have := HK2.out; have := HK3.out; have := HJ18.out; have := HJ33.out; have := HJ41.out; have := HJ47.out; have := HJ56.out; have := HK9.out; first | omega | exact Nat.le_refl _⟩, ⟨by (with_reducible repeat (first | apply Kd.R_alloc | apply Kd.R_drewN | apply Kd.R_drew)); exact HO_7.out⟩, ⟨by (with_reducible repeat (first | apply Kd.R_alloc | apply Kd.R_drewN | apply Kd.R_drew)); exact HO_16.out⟩, ⟨by (with_reducible repeat (first | refine blk_drewN ?_ _ | refine blk_drew ?_ | refine blk_alloc ?_ _)); exact BK400.out⟩, ⟨by (with_reducible repeat (first | refine blk_drewN ?_ _ | refine blk_drew ?_ | refine blk_alloc ?_ _)); exact BK410.out⟩, ⟨bn2 HB GE400 GE410⟩⟩
                                    · rw [if_neg c68] at H
                                      have c68b0 : decide (0 ≤ (rd x7_9 (rd x16_56 x17_9))) = false := decide_eq_false c68; clear c68; have H' := Aside0.mk H; clear H; obtain ⟨Ao70, co70, eo70⟩ := Kd.R_slice HO_7.out; subst eo70; have p425 : 0 ≤ ((rd x16_56 x17_9) : Int) := of_decide_eq_true (by first | (with_reducible assumption) | assumption); have q425 : (rd x16_56 x17_9) < (x7_9.length : Int) := of_decide_eq_true (by first | (with_reducible assumption) | assumption); obtain ⟨ad425, e425, hx425_0⟩ := Kd.at_int (Kd.R_reads' HO_7.out).2.2 (rd x16_56 x17_9) p425 q425
                                      cases e425
                                      replace p425 := eq_true p425; replace q425 := eq_true q425
                                      go_wp2
                                      go_meet
                                      case rel => exact ⟨_, (false), (by first | rfl | (simp; done) | (simp [*]; done)), H', ⟨by have := HK1.out; have := HK2.out; have := HK3.out; have := HJ18.out; have := HJ33.out; have := HJ41.out; have := HJ47.out; have := HJ56.out; have := HK9.out; first | omega | exact Nat.le_refl _⟩, ⟨by (with_reducible repeat (first | apply Kd.R_alloc | apply Kd.R_drewN | apply Kd.R_drew)); exact HO_7.out⟩, ⟨by (with_reducible repeat (first | apply Kd.R_alloc | apply Kd.R_drewN | apply Kd.R_drew)); exact HO_16.out⟩, ⟨by (with_reducible repeat (first | refine blk_drewN ?_ _ | refine blk_drew ?_ | refine blk_alloc ?_ _)); exact BK400.out⟩, ⟨by (with_reducible repeat (first | refine blk_drewN ?_ _ | refine blk_drew ?_ | refine blk_alloc ?_ _)); exact BK410.out⟩, ⟨bn2 HB GE400 GE410⟩⟩
                                case rest =>
                                  clear HC63
                                  try clear c1
                                  try clear c2
                                  try clear p2
                                  try clear c3
                                  try clear c3b0
                                  try clear c4
                                  try clear c4b0
                                  try clear p4
                                  try clear q4
                                  try clear hx4
                                  try clear c5
                                  try clear c6
                                  try clear p6
                                  try clear c9
                                  try clear c9b0
                                  try clear c10
                                  try clear c12
                                  try clear c13
                                  try clear c13b0
                                  try clear c14
                                  try clear c14b0
                                  try clear c15
                                  try clear c15b0
                                  try clear c16
                                  try clear c16b0
                                  try clear c22
                                  try clear c26
                                  try clear c26b0
                                  try clear c27
                                  try clear c27b0
                                  try clear c28
                                  try clear c28b0
                                  try clear c28b1
                                  try clear c29
                                  try clear c31
                                  try clear c33
                                  try clear c37
                                  try clear c37b0
                                  try clear c37b1
                                  try clear c38
                                  try clear c40
                                  try clear p40
                                  try clear q40
                                  try clear hx40
                                  try clear p41
                                  try clear q41
                                  try clear hx41
                                  try clear p42
                                  try clear q42
                                  try clear hx42
                                  try clear c43
                                  try clear c44
                                  try clear c45
                                  try clear c49
                                  try clear c49b0
                                  try clear c49b1
                                  try clear c50
                                  try clear c52
                                  try clear c52b0
                                  try clear c52b1
                                  try clear c53
                                  try clear c55
                                  try clear c58
                                  try clear c59
                                  try clear c61
                                  try clear c61b0
                                  try clear c62
                                  try clear c62b0
                                  try clear p64
                                  try clear c65
                                  try clear c65b0
                                  try clear c66
                                  try clear c66b0
                                  try clear c67
                                  try clear c67b0
                                  try clear c68
                                  try clear c68b0
                                  try clear hcz23_0
                                  try clear hcz23_1
                                  try clear hcz24_0
                                  try clear hcz24_1
                                  try clear hcz24_2
                                  try clear hcz30_0
                                  try clear hcz30_1
                                  try clear hcz32_0
                                  try clear hcz32_1
                                  try clear hcz39_0
                                  try clear hcz39_1
                                  try clear hcz41_0
                                  try clear hcz41_1
                                  try clear hcz46_0
                                  try clear hcz46_1
                                  try clear hcz51_0
                                  try clear hcz51_1
                                  try clear hcz54_0
                                  try clear hcz54_1
                                  try clear hcz56_0
                                  try clear hcz56_1
                                  try clear hcz6_0
                                  try clear hcz6_1
                                  try clear hcz6_2
                                  try clear hfz23_0
                                  try clear hfz23_1
                                  try clear hfz24_0
                                  try clear hfz24_1
                                  try clear hfz24_2
                                  try clear hfz30_0
                                  try clear hfz30_1
                                  try clear hfz32_0
                                  try clear hfz32_1
                                  try clear hfz39_0
                                  try clear hfz39_1
                                  try clear hfz41_0
                                  try clear hfz41_1
                                  try clear hfz46_0
                                  try clear hfz46_1
                                  try clear hfz51_0
                                  try clear hfz51_1
                                  try clear hfz54_0
                                  try clear hfz54_1
                                  try clear hfz56_0
                                  try clear hfz56_1
                                  try clear hfz6_0
                                  try clear hfz6_1
                                  try clear hfz6_2
                                  try clear hx401_0
                                  try clear hx401_1
                                  try clear hx401_2
                                  try clear hx401_3
                                  try clear hx408_0
                                  try clear hx409_0
                                  try clear hx409_1
                                  try clear hx414_0
                                  try clear hx424_0
                                  try clear hx425_0
                                  try clear hx426_0
                                  try clear p2
                                  try clear p4
                                  try clear p40
                                  try clear p401
                                  try clear p408
                                  try clear p409
                                  try clear p41
                                  try clear p414
                                  try clear p424
                                  try clear p425
                                  try clear p426
                                  try clear p6
                                  try clear q4
                                  try clear q40
                                  try clear q401
                                  try clear q408
                                  try clear q409
                                  try clear q41
                                  try clear q414
                                  try clear q424
                                  try clear q425
                                  try clear q426
                                  obtain ⟨kq, x144_62, rfl, HA, HJ62, HO_7, HO_16, BK400, BK410, HB⟩ := hcut
                                  cases kq with
                                  | zero => exact absurd HA.out (by simp [casementref13_Heights.j9])
                                  | succ kj62 => ?_
                                  have H := HA.out; clear HA; simp only [casementref13_Heights.j9] at H
                                  by_cases c71 : x144_62 = true
                                  · subst c71
                                    have H1 : (some (([] : List Int), false)) = some (r1, r2) := by rw [if_pos rfl] at H; exact H
                                    clear H; have H := H1; clear H1; simp only [Option.some.injEq, Prod.mk.injEq] at H; obtain ⟨rfl, rfl⟩ := H
                                    go_wp2
                                    go_ret2
                                    exact ⟨_, by first | rfl | (simp [errW_none, errW_some] <;> rfl) | (simp [*, errW_none, errW_some] <;> rfl), by first | exact Kd.R_nil _ _ _ _ _ | exact Kd.N_nil _ _ _ _ _ | exact Kd.V_nil _ _ _ _ _ | exact Kd.Q_nil _ _ _ _ _ | exact Kd.S_nil _ _ _ _ _, bn2 HB GE400 GE410⟩
                                  · replace c71 := Bool.eq_false_iff.mpr c71
                                    subst c71
                                    have H1 : (if 0 ≤ (rd x16_56 x17_9) then (if (rd x16_56 x17_9) < (x7_9.length : Int) then (if (rd x7_9 (rd x16_56 x17_9)) < 0 then ((casementref13_put.f kj62 x7_9 (rd x16_56 x17_9) (wrap64 ((wrap64 ((rd x7_3 x10_3) - t411)) + t412))).bind fun t428 => (casementref13_Heights.l3 kj62 a1 ((rd_T42 l0_2 a1).f3) t428 true x10_3 t412 (wrap64 ((rd x7_3 x10_3) - t411)) x16_56 (wrap64 (x17_9 + 1)) a0_0 l0_1 l0_2)) else (casementref13_Heights.l3 kj62 a1 ((rd_T42 l0_2 a1).f3) x7_9 x9_9 x10_3 t412 (wrap64 ((rd x7_3 x10_3) - t411)) x16_56 (wrap64 (x17_9 + 1)) a0_0 l0_1 l0_2)) else (none)) else (none)) = some (r1, r2) := by rw [if_neg (show ¬ (false = true) by decide)] at H; exact H
                                    clear H; have H := H1; clear H1
                                    by_cases c72 : 0 ≤ (rd x16_56 x17_9)
                                    case neg => rw [if_neg c72] at H; exact absurd H (by simp)
                                    rw [if_pos c72] at H; have c72b0 : decide (0 ≤ (rd x16_56 x17_9)) = true := decide_eq_true c72; clear c72
                                    by_cases c73 : (rd x16_56 x17_9) < (x7_9.length : Int)
                                    case neg => rw [if_neg c73] at H; exact absurd H (by simp)
                                    rw [if_pos c73] at H; have c73b0 : decide ((rd x16_56 x17_9) < (x7_9.length : Int)) = true := decide_eq_true c73; clear c73
                                    by_cases c74 : (rd x7_9 (rd x16_56 x17_9)) < 0
                                    · rw [if_pos c74] at H
                                      have c74b0 : decide ((rd x7_9 (rd x16_56 x17_9)) < 0) = true := decide_eq_true c74; clear c74; replace H := Option.bind_eq_some_iff.mp H; obtain ⟨t428, A750, H⟩ := H; replace H : (casementref13_Heights.l3 kj62 a1 ((rd_T42 l0_2 a1).f3) t428 true x10_3 t412 (wrap64 ((rd x7_3 x10_3) - t411)) x16_56 (wrap64 (x17_9 + 1)) a0_0 l0_1 l0_2) = some (r1, r2) := H; have A75 := Aside0.mk A750; clear A750; have H' := Aside0.mk H; clear H; obtain ⟨Ao76, co76, eo76⟩ := Kd.R_slice HO_7.out; subst eo76; have p427 : 0 ≤ ((rd x16_56 x17_9) : Int) := of_decide_eq_true (by first | (with_reducible assumption) | assumption); have q427 : (rd x16_56 x17_9) < (x7_9.length : Int) := of_decide_eq_true (by first | (with_reducible assumption) | assumption); obtain ⟨ad427, e427, hx427_0⟩ := Kd.at_int (Kd.R_reads' HO_7.out).2.2 (rd x16_56 x17_9) p427 q427
                                      cases e427
                                      replace p427 := eq_true p427; replace q427 := eq_true q427
                                      go_wp2_with (first | ((with_reducible refine gate_callee (f := 25) rfl ?_); refine goesL_ (some 155) rfl rfl Try.func25 (by kernel_rfl) rfl #[.slice (some ad427) x7_9.length co76, .int .i64 (rd x16_56 x17_9), .int .i64 (wrap64 ((wrap64 ((rd x7_3 x10_3) - t411)) + t412))] rfl (by (try simp only [List.map_toArray, List.map_cons, List.map_nil]); first | done | rfl | (simp only [List.length_drop, List.length_take]; rfl)) ?_; (with_reducible refine (casementref13_put.calls kj62 _ _ x7_9 (rd x16_56 x17_9) (wrap64 ((wrap64 ((rd x7_3 x10_3) - t411)) + t412)) t428 _ ?side1 ?side2 A75.out).mono ?_); (case side1 => repeat (first | exact (Kd.R_reads' HO_7.out).2.2 | (with_reducible refine Kd.C_alloc ?_ _) | (with_reducible refine Kd.C_drewN ?_ _) | (with_reducible refine Kd.C_drew ?_))); (case side2 => exact (Kd.R_reads' HO_7.out).2.1); rintro e w77 ⟨v429, rfl, ho0, hb⟩; refine ⟨_, rfl, ?_⟩; have n0_ := Aside0.mk (Kd.R_elder' (rnR HO_7) (Kd.R_base ho0) hb); have n1_ := Aside0.mk (Kd.R_elder' (rnR HO_16) (Kd.R_base ho0) hb); have HO430 := Aside0.mk (Kd.R_lower (Kd.R_new' (Kd.R_new' ho0 (Kd.R_lt (rnR HO_7))) (Kd.R_lt (rnR HO_16))) (below_size (bn2 HB GE400 GE410))); replace BK400 := Aside0.mk (blk_below (g := gb400) (o := .cells #[.int .i64 a0_0, .slice A0_1 l0_1.length c0_1, .slice (some ad401) l0_2.length c0_2] 25 (0, 0)) (bkn BK400) hb); replace BK410 := Aside0.mk (blk_below (g := gb410) (o := .cells #[.int .i64 ((rd_T46 ((rd_T42 l0_2 a1).f3) x10_3).f0), .int .i64 ((rd_T46 ((rd_T42 l0_2 a1).f3) x10_3).f1)] 46 (0, 0)) (bkn BK410) hb); replace HB := Aside0.mk (below_step (bn2 HB GE400 GE410) hb); replace HO_7 := n0_; replace HO_16 := n1_; clear n0_ n1_; (try clear hb); (try clear ho0)))
                                      go_roundg kj62
                                      case measure => have := HK1.out; have := HK2.out; have := HK3.out; have := HJ18.out; have := HJ33.out; have := HJ41.out; have := HJ47.out; have := HJ56.out; have := HK9.out; have := HJ62.out; omega
                                      case rel => exact ⟨(t428), (true), (wrap64 (x17_9 + 1)), (by first | rfl | (simp; done) | (simp [*]; done)), (by first | rfl | (simp; done) | (simp [*]; done)), H', ⟨by have := HK1.out; have := HK2.out; have := HK3.out; have := HJ18.out; have := HJ33.out; have := HJ41.out; have := HJ47.out; have := HJ56.out; have := HK9.out; have := HJ62.out; omega⟩, ⟨by (with_reducible repeat (first | apply Kd.R_alloc | apply Kd.R_drewN | apply Kd.R_drew)); exact Kd.R_mono HO430.out (fun _ hk => hk.2)⟩, ⟨by (with_reducible repeat (first | apply Kd.R_alloc | apply Kd.R_drewN | apply Kd.R_drew)); exact Kd.R_mono HO_16.out (fun _ hk => hk.2)⟩, ⟨by (with_reducible repeat (first | refine blk_drewN ?_ _ | refine blk_drew ?_ | refine blk_alloc ?_ _)); exact BK400.out⟩, ⟨by (with_reducible repeat (first | refine blk_drewN ?_ _ | refine blk_drew ?_ | refine blk_alloc ?_ _)); exact BK410.out⟩, ⟨bn2 HB GE400 GE410⟩⟩
                                    · rw [if_neg c74] at H
                                      have c74b0 : decide ((rd x7_9 (rd x16_56 x17_9)) < 0) = false := decide_eq_false c74; clear c74; have H' := Aside0.mk H; clear H; obtain ⟨Ao78, co78, eo78⟩ := Kd.R_slice HO_7.out; subst eo78; have p427 : 0 ≤ ((rd x16_56 x17_9) : Int) := of_decide_eq_true (by first | (with_reducible assumption) | assumption); have q427 : (rd x16_56 x17_9) < (x7_9.length : Int) := of_decide_eq_true (by first | (with_reducible assumption) | assumption); obtain ⟨ad427, e427, hx427_0⟩ := Kd.at_int (Kd.R_reads' HO_7.out).2.2 (rd x16_56 x17_9) p427 q427
                                      cases e427
                                      replace p427 := eq_true p427; replace q427 := eq_true q427
                                      go_wp2
                                      go_roundg kj62
                                      case measure => have := HK1.out; have := HK2.out; have := HK3.out; have := HJ18.out; have := HJ33.out; have := HJ41.out; have := HJ47.out; have := HJ56.out; have := HK9.out; have := HJ62.out; omega
                                      case rel => exact ⟨(x7_9), (x9_9), (wrap64 (x17_9 + 1)), (by first | rfl | (simp; done) | (simp [*]; done)), (by first | rfl | (simp; done) | (simp [*]; done)), H', ⟨by have := HK1.out; have := HK2.out; have := HK3.out; have := HJ18.out; have := HJ33.out; have := HJ41.out; have := HJ47.out; have := HJ56.out; have := HK9.out; have := HJ62.out; omega⟩, ⟨by (with_reducible repeat (first | apply Kd.R_alloc | apply Kd.R_drewN | apply Kd.R_drew)); exact HO_7.out⟩, ⟨by (with_reducible repeat (first | apply Kd.R_alloc | apply Kd.R_drewN | apply Kd.R_drew)); exact HO_16.out⟩, ⟨by (with_reducible repeat (first | refine blk_drewN ?_ _ | refine blk_drew ?_ | refine blk_alloc ?_ _)); exact BK400.out⟩, ⟨by (with_reducible repeat (first | refine blk_drewN ?_ _ | refine blk_drew ?_ | refine blk_alloc ?_ _)); exact BK410.out⟩, ⟨bn2 HB GE400 GE410⟩⟩
                              · rw [if_neg c61] at H
                                have c61b0 : decide (x17_9 < (x16_56.length : Int)) = false := decide_eq_false c61; clear c61; have H' := Aside0.mk H; clear H; obtain ⟨Ao79, co79, eo79⟩ := Kd.R_slice HO_16.out; subst eo79
                                go_wp2
                                go_roundg k9
                                case measure => have := HK1.out; have := HK2.out; have := HK3.out; have := HJ18.out; have := HJ33.out; have := HJ41.out; have := HJ47.out; have := HJ56.out; have := HK9.out; omega
                                case rel => exact ⟨(x7_9), (x9_9), (wrap64 (x10_3 + 1)), (by first | rfl | (simp; done) | (simp [*]; done)), (by first | rfl | (simp; done) | (simp [*]; done)), H', ⟨by have := HK1.out; have := HK2.out; have := HK3.out; have := HJ18.out; have := HJ33.out; have := HJ41.out; have := HJ47.out; have := HJ56.out; have := HK9.out; omega⟩, ⟨by (with_reducible repeat (first | apply Kd.R_alloc | apply Kd.R_drewN | apply Kd.R_drew)); exact Kd.R_mono HO_7.out (fun _ hk => trivial)⟩, ⟨by (with_reducible repeat (first | refine blk_drewN ?_ _ | refine blk_drew ?_ | refine blk_alloc ?_ _)); exact BK400.out⟩, ⟨bn2 HB GE400 GE410⟩⟩
            · rw [if_neg c13] at H
              have c13b0 : decide (x10_3 < (((rd_T42 l0_2 a1).f3).length : Int)) = false := decide_eq_false c13; clear c13; have H' := Aside0.mk H; clear H
              go_wp2
              go_roundg k3
              case measure => have := HK1.out; have := HK2.out; have := HK3.out; omega
              case rel => exact ⟨(x7_3), (x9_3), (by first | rfl | (simp; done) | (simp [*]; done)), H', ⟨by have := HK1.out; have := HK2.out; have := HK3.out; omega⟩, ⟨by (with_reducible repeat (first | apply Kd.R_alloc | apply Kd.R_drewN | apply Kd.R_drew)); exact HO_7.out⟩, ⟨by (with_reducible repeat (first | refine blk_drewN ?_ _ | refine blk_drew ?_ | refine blk_alloc ?_ _)); exact BK400.out⟩, ⟨bn1 HB GE400⟩⟩
        · replace c12 := Bool.eq_false_iff.mpr c12
          subst c12
          have H1 : (some (x7_2, true)) = some (r1, r2) := by rw [if_neg (show ¬ (false = true) by decide)] at H; exact H
          clear H; have H := H1; clear H1; simp only [Option.some.injEq, Prod.mk.injEq] at H; obtain ⟨rfl, rfl⟩ := H
          go_wp2
          go_ret2
          exact ⟨_, by first | rfl | (simp [errW_none, errW_some] <;> rfl) | (simp [*, errW_none, errW_some] <;> rfl), by (with_reducible repeat (first | apply Kd.R_alloc | apply Kd.R_drewN | apply Kd.R_drew)); exact HO_7.out, bn1 HB GE400⟩
end Go.Proofs.Ytgngbbkaghmnpaa.Q
