-- written by a program of this session after the way of the kit's print; not the kit's own print. Lean checks it.
import Derived.Test.YtmokmkaipcojkaaQx0
import Derived.Test.YtmokmkaipcojkaaQx1
import Derived.Test.YtmokmkaipcojkaaQx3
import Derived.Test.YtmokmkaipcojkaaQx12
import Derived.Test.YtmokmkaipcojkaaQx14
import Derived.Test.YtmokmkaipcojkaaQx24
import Derived.Test.YtmokmkaipcojkaaQx26
import Derived.Test.YtmokmkaipcojkaaQx28
import Derived.Test.YtmokmkaipcojkaaQx37
namespace Go.Proofs.Ytmokmkaipcojkaa.Q
open Go.RowKit Go.Proofs.YtmokmkaipcojkaaW.PrintWords Go.Proofs.YtmokmkaipcojkaaW.PrintLast Go.Proofs.YtmokmkaipcojkaaW.PrintMore
attribute [local go_sem] max2_int min2_int max_two min_two max_three min_three max_four min_four   -- for this text's walks alone
set_option linter.unusedVariables false
set_option linter.unusedSimpArgs false

attribute [local go_sem high] eqA26
/-! ### casementlaw02_RectInto: function 9 -/
mutual
def casementlaw02_RectInto.j0 : Nat → Int → Int → Bool → Int → Int → Int → Int → Int → Int → Int → Int → Int → Int → Int → Int → Option (Bool)
  | 0, _, _, _, _, _, _, _, _, _, _, _, _, _, _, _ => none
  | k + 1, x2, x3, x43, x544000, x544001, x544002, x544003, x545000, x545001, x545002, x545003, x551000, x551001, x551002, x551003 => if x43 = true then (some false) else ((rect_Within.f x544000 x544001 x544002 x544003 x545000 x545001 x545002 x545003).bind fun t564 => (if t564 = true then ((rect_Clean.f x544000 x544001 x544002 x544003).bind fun bt565 => (casementlaw02_RectInto.j1 k x2 x3 (!(x551000 == bt565.1) || (!(x551001 == bt565.2.1) || (!(x551002 == bt565.2.2.1) || (!(x551003 == bt565.2.2.2))))) x544000 x544001 x544002 x544003)) else (casementlaw02_RectInto.j1 k x2 x3 false x544000 x544001 x544002 x544003)))
def casementlaw02_RectInto.j1 : Nat → Int → Int → Bool → Int → Int → Int → Int → Option (Bool)
  | 0, _, _, _, _, _, _, _ => none
  | k + 1, x2, x3, x52, x544000, x544001, x544002, x544003 => if x52 = true then (some false) else ((rect_Shift.f k x544000 x544001 x544002 x544003 x2 x3).bind fun bt569 => ((rect_Clean.f x544000 x544001 x544002 x544003).bind fun bt574 => ((casementlaw02_far.f x2).bind fun t579 => (if t579 = true then (casementlaw02_RectInto.j2 k x2 false x544000 x544001 x544002 x544003) else ((casementlaw02_far.f x3).bind fun t580 => (if t580 = true then (casementlaw02_RectInto.j2 k x2 false x544000 x544001 x544002 x544003) else ((casementlaw02_far.f bt574.1).bind fun t581 => (if t581 = true then (casementlaw02_RectInto.j2 k x2 false x544000 x544001 x544002 x544003) else ((casementlaw02_far.f bt574.2.1).bind fun t582 => (if t582 = true then (casementlaw02_RectInto.j2 k x2 false x544000 x544001 x544002 x544003) else (if bt569.2.2.1 = bt574.2.2.1 then (if bt569.2.2.2 = bt574.2.2.2 then (if bt574.2.2.1 > 0 then (if bt569.1 = (wrap64 (bt574.1 + x2)) then (casementlaw02_RectInto.j2 k x2 (bt569.2.1 != (wrap64 (bt574.2.1 + x3))) x544000 x544001 x544002 x544003) else (casementlaw02_RectInto.j2 k x2 true x544000 x544001 x544002 x544003)) else (casementlaw02_RectInto.j2 k x2 false x544000 x544001 x544002 x544003)) else (casementlaw02_RectInto.j2 k x2 true x544000 x544001 x544002 x544003)) else (casementlaw02_RectInto.j2 k x2 true x544000 x544001 x544002 x544003))))))))))))
def casementlaw02_RectInto.j2 : Nat → Int → Bool → Int → Int → Int → Int → Option (Bool)
  | 0, _, _, _, _, _, _ => none
  | k + 1, x2, x115, x544000, x544001, x544002, x544003 => if x115 = true then (some false) else ((rect_Inset.f x544000 x544001 x544002 x544003 x2).bind fun bt583 => ((rect_Within.f bt583.1 bt583.2.1 bt583.2.2.1 bt583.2.2.2 x544000 x544001 x544002 x544003).bind fun t587 => (some t587)))
end
def casementlaw02_RectInto.f (k : Nat) (a0_0 : Int) (a0_1 : Int) (a0_2 : Int) (a0_3 : Int) (a1_0 : Int) (a1_1 : Int) (a1_2 : Int) (a1_3 : Int) (a2 : Int) (a3 : Int) : Option (Bool) := (casementlaw02_alive.f k).bind fun t545 => (if t545 = true then ((rect_Into.f a0_0 a0_1 a0_2 a0_3 a1_0 a1_1 a1_2 a1_3).bind fun bt546 => ((rect_Within.f bt546.1 bt546.2.1 bt546.2.2.1 bt546.2.2.2 a1_0 a1_1 a1_2 a1_3).bind fun t551 => (if t551 = true then ((rect_Clean.f a0_0 a0_1 a0_2 a0_3).bind fun bt552 => (if bt546.2.2.1 > bt552.2.2.1 then (casementlaw02_RectInto.j0 k a2 a3 true a0_0 a0_1 a0_2 a0_3 a1_0 a1_1 a1_2 a1_3 bt546.1 bt546.2.1 bt546.2.2.1 bt546.2.2.2) else ((rect_Clean.f a0_0 a0_1 a0_2 a0_3).bind fun bt556 => (if bt546.2.2.2 > bt556.2.2.2 then (casementlaw02_RectInto.j0 k a2 a3 true a0_0 a0_1 a0_2 a0_3 a1_0 a1_1 a1_2 a1_3 bt546.1 bt546.2.1 bt546.2.2.1 bt546.2.2.2) else ((rect_Into.f bt546.1 bt546.2.1 bt546.2.2.1 bt546.2.2.2 a1_0 a1_1 a1_2 a1_3).bind fun bt560 => (casementlaw02_RectInto.j0 k a2 a3 (!(bt560.1 == bt546.1) || (!(bt560.2.1 == bt546.2.1) || (!(bt560.2.2.1 == bt546.2.2.1) || (!(bt560.2.2.2 == bt546.2.2.2))))) a0_0 a0_1 a0_2 a0_3 a1_0 a1_1 a1_2 a1_3 bt546.1 bt546.2.1 bt546.2.2.1 bt546.2.2.2)))))) else (casementlaw02_RectInto.j0 k a2 a3 true a0_0 a0_1 a0_2 a0_3 a1_0 a1_1 a1_2 a1_3 bt546.1 bt546.2.1 bt546.2.2.1 bt546.2.2.2)))) else (some false))
theorem casementlaw02_RectInto.mono_l : ∀ k, (∀ y0 y1 y2 y3 y4 y5 y6 y7 y8 y9 y10 y11 y12 y13 y14, LeO (casementlaw02_RectInto.j0 k y0 y1 y2 y3 y4 y5 y6 y7 y8 y9 y10 y11 y12 y13 y14) (casementlaw02_RectInto.j0 (k + 1) y0 y1 y2 y3 y4 y5 y6 y7 y8 y9 y10 y11 y12 y13 y14)) ∧ (∀ y0 y1 y2 y3 y4 y5 y6, LeO (casementlaw02_RectInto.j1 k y0 y1 y2 y3 y4 y5 y6) (casementlaw02_RectInto.j1 (k + 1) y0 y1 y2 y3 y4 y5 y6)) ∧ (∀ y0 y1 y2 y3 y4 y5, LeO (casementlaw02_RectInto.j2 k y0 y1 y2 y3 y4 y5) (casementlaw02_RectInto.j2 (k + 1) y0 y1 y2 y3 y4 y5))
  | 0 => ⟨fun _ _ _ _ _ _ _ _ _ _ _ _ _ _ _ r h => by simp [casementlaw02_RectInto.j0] at h, fun _ _ _ _ _ _ _ r h => by simp [casementlaw02_RectInto.j1] at h, fun _ _ _ _ _ _ r h => by simp [casementlaw02_RectInto.j2] at h⟩
  | k + 1 => by
    obtain ⟨ih0, ih1, ih2⟩ := casementlaw02_RectInto.mono_l k
    refine ⟨?_, ?_, ?_⟩
    · intro y0 y1 y2 y3 y4 y5 y6 y7 y8 y9 y10 y11 y12 y13 y14
      unfold casementlaw02_RectInto.j0
      repeat' first
      | (with_reducible exact ih0 _ _ _ _ _ _ _ _ _ _ _ _ _ _ _)
      | (with_reducible exact ih1 _ _ _ _ _ _ _)
      | (with_reducible exact ih2 _ _ _ _ _ _)
      | (with_reducible exact casementlaw02_alive.mono _)
      | (with_reducible exact rect_Shift.mono _ _ _ _ _ _ _)
      | (with_reducible exact LeO.refl _)
      | (with_reducible exact LeO.none _)
      | (with_reducible refine LeO.ite ?_ ?_)
      | (with_reducible refine LeO.bind ?_ (fun _ => ?_))
      | exact ih0 _ _ _ _ _ _ _ _ _ _ _ _ _ _ _
      | exact ih1 _ _ _ _ _ _ _
      | exact ih2 _ _ _ _ _ _
      | exact casementlaw02_alive.mono _
      | exact rect_Shift.mono _ _ _ _ _ _ _
      | exact LeO.none _
      | refine LeO.ite ?_ ?_
      | refine LeO.bind ?_ (fun _ => ?_)
    · intro y0 y1 y2 y3 y4 y5 y6
      unfold casementlaw02_RectInto.j1
      repeat' first
      | (with_reducible exact ih0 _ _ _ _ _ _ _ _ _ _ _ _ _ _ _)
      | (with_reducible exact ih1 _ _ _ _ _ _ _)
      | (with_reducible exact ih2 _ _ _ _ _ _)
      | (with_reducible exact casementlaw02_alive.mono _)
      | (with_reducible exact rect_Shift.mono _ _ _ _ _ _ _)
      | (with_reducible exact LeO.refl _)
      | (with_reducible exact LeO.none _)
      | (with_reducible refine LeO.ite ?_ ?_)
      | (with_reducible refine LeO.bind ?_ (fun _ => ?_))
      | exact ih0 _ _ _ _ _ _ _ _ _ _ _ _ _ _ _
      | exact ih1 _ _ _ _ _ _ _
      | exact ih2 _ _ _ _ _ _
      | exact casementlaw02_alive.mono _
      | exact rect_Shift.mono _ _ _ _ _ _ _
      | exact LeO.none _
      | refine LeO.ite ?_ ?_
      | refine LeO.bind ?_ (fun _ => ?_)
    · intro y0 y1 y2 y3 y4 y5
      unfold casementlaw02_RectInto.j2
      repeat' first
      | (with_reducible exact ih0 _ _ _ _ _ _ _ _ _ _ _ _ _ _ _)
      | (with_reducible exact ih1 _ _ _ _ _ _ _)
      | (with_reducible exact ih2 _ _ _ _ _ _)
      | (with_reducible exact casementlaw02_alive.mono _)
      | (with_reducible exact rect_Shift.mono _ _ _ _ _ _ _)
      | (with_reducible exact LeO.refl _)
      | (with_reducible exact LeO.none _)
      | (with_reducible refine LeO.ite ?_ ?_)
      | (with_reducible refine LeO.bind ?_ (fun _ => ?_))
      | exact ih0 _ _ _ _ _ _ _ _ _ _ _ _ _ _ _
      | exact ih1 _ _ _ _ _ _ _
      | exact ih2 _ _ _ _ _ _
      | exact casementlaw02_alive.mono _
      | exact rect_Shift.mono _ _ _ _ _ _ _
      | exact LeO.none _
      | refine LeO.ite ?_ ?_
      | refine LeO.bind ?_ (fun _ => ?_)
theorem casementlaw02_RectInto.mono : ∀ a0 a1 a2 a3 a4 a5 a6 a7 a8 a9 k, LeO (casementlaw02_RectInto.f k a0 a1 a2 a3 a4 a5 a6 a7 a8 a9) (casementlaw02_RectInto.f (k + 1) a0 a1 a2 a3 a4 a5 a6 a7 a8 a9) := by
  intro a0 a1 a2 a3 a4 a5 a6 a7 a8 a9 k
  obtain ⟨ih0, ih1, ih2⟩ := casementlaw02_RectInto.mono_l k
  unfold casementlaw02_RectInto.f
  repeat' first
      | (with_reducible exact ih0 _ _ _ _ _ _ _ _ _ _ _ _ _ _ _)
      | (with_reducible exact ih1 _ _ _ _ _ _ _)
      | (with_reducible exact ih2 _ _ _ _ _ _)
      | (with_reducible exact casementlaw02_alive.mono _)
      | (with_reducible exact rect_Shift.mono _ _ _ _ _ _ _)
      | (with_reducible exact LeO.refl _)
      | (with_reducible exact LeO.none _)
      | (with_reducible refine LeO.ite ?_ ?_)
      | (with_reducible refine LeO.bind ?_ (fun _ => ?_))
      | exact ih0 _ _ _ _ _ _ _ _ _ _ _ _ _ _ _
      | exact ih1 _ _ _ _ _ _ _
      | exact ih2 _ _ _ _ _ _
      | exact casementlaw02_alive.mono _
      | exact rect_Shift.mono _ _ _ _ _ _ _
      | exact LeO.none _
      | refine LeO.ite ?_ ?_
      | refine LeO.bind ?_ (fun _ => ?_)
def casementlaw02_RectInto.T4 : Bool × List (List Nat × List Nat) := (true, [([], []), ([], []), ([0, 1], [0, 1]), ([2], [2]), ([3, 2], [3]), ([4], [4]), ([5, 4], [4, 5]), ([4], [4]), ([7, 4, 4], [4, 7]), ([8, 4], [4, 8]), ([6, 9, 4], [4, 6, 9]), ([4, 10], [4, 10]), ([11, 8], [11]), ([12], [12]), ([13, 12], [12, 13]), ([12], [12]), ([15, 12, 12], [12, 15]), ([16, 12], [12, 16]), ([14, 17, 12], [12, 14, 17]), ([12, 18], [12, 18]), ([19, 16], [19]), ([20], [20]), ([20], [20]), ([21, 22, 20, 20], [20, 21, 22]), ([20], [20]), ([23, 24, 20], [20, 23, 24]), ([20, 25], [20, 25])])
def casementlaw02_RectInto.B4 : List Nat := [0, 0, 3, 7, 15, 31, 63, 31, 159, 415, 1023, 2047, 4095, 8191, 16383, 8191, 40959, 106495, 262143, 524287, 1048575, 2097151, 2097151, 8388607, 2097151, 33554431, 67108863]
theorem casementlaw02_RectInto.tab4 : rtab .any (opsOf Try.f9 4) = casementlaw02_RectInto.T4 := by kernel_rfl
theorem casementlaw02_RectInto.bits4 : waitsOk casementlaw02_RectInto.T4.2 casementlaw02_RectInto.B4 = true := by kernel_rfl
def casementlaw02_RectInto.T6 : Bool × List (List Nat × List Nat) := (true, [([], []), ([], []), ([0, 1], [0, 1]), ([2, 2], [2]), ([3], [3]), ([3], [3]), ([5, 3, 3], [3, 5]), ([4, 6, 3], [3, 4, 6]), ([3, 7], [3, 7])])
def casementlaw02_RectInto.B6 : List Nat := [0, 0, 3, 7, 15, 15, 47, 127, 255]
theorem casementlaw02_RectInto.tab6 : rtab .any (opsOf Try.f9 6) = casementlaw02_RectInto.T6 := by kernel_rfl
theorem casementlaw02_RectInto.bits6 : waitsOk casementlaw02_RectInto.T6.2 casementlaw02_RectInto.B6 = true := by kernel_rfl
set_option maxHeartbeats 8000000 in
set_option maxRecDepth 100000 in
theorem casementlaw02_RectInto.calls (k : Nat) (a0_0 : Int) (a0_1 : Int) (a0_2 : Int) (a0_3 : Int) (a1_0 : Int) (a1_1 : Int) (a1_2 : Int) (a1_3 : Int) (a2 : Int) (a3 : Int) (r : Bool) (w : World) (h : casementlaw02_RectInto.f k a0_0 a0_1 a0_2 a0_3 a1_0 a1_1 a1_2 a1_3 a2 a3 = some r) (hr : r = true) :
    Calls Try.prog 9 #[.agg #[.int .i64 a0_0, .int .i64 a0_1, .int .i64 a0_2, .int .i64 a0_3], .agg #[.int .i64 a1_0, .int .i64 a1_1, .int .i64 a1_2, .int .i64 a1_3], .int .i64 a2, .int .i64 a3] w fun e w' => e = .returned (.bool r) ∧ Below w.heap.size w w' := by
  have hu26 := Try.underlying26
  have hfd26_2 : ∀ (c0_ c1_ c2_ c3_ : Value) (W : World), (Instr.field 26 (.agg #[c0_, c1_, c2_, c3_]) 2).run Try.prog W = .ok c2_ W := fun _ _ _ _ _ => by kernel_rfl
  have hfd26_3 : ∀ (c0_ c1_ c2_ c3_ : Value) (W : World), (Instr.field 26 (.agg #[c0_, c1_, c2_, c3_]) 3).run Try.prog W = .ok c3_ W := fun _ _ _ _ _ => by kernel_rfl
  have HRT := Aside0.mk hr
  clear hr
  have HB := Aside0.mk (Below.refl w.heap.size w)
  have H : ((casementlaw02_alive.f k).bind fun t545 => (if t545 = true then ((rect_Into.f a0_0 a0_1 a0_2 a0_3 a1_0 a1_1 a1_2 a1_3).bind fun bt546 => ((rect_Within.f bt546.1 bt546.2.1 bt546.2.2.1 bt546.2.2.2 a1_0 a1_1 a1_2 a1_3).bind fun t551 => (if t551 = true then ((rect_Clean.f a0_0 a0_1 a0_2 a0_3).bind fun bt552 => (if bt546.2.2.1 > bt552.2.2.1 then (casementlaw02_RectInto.j0 k a2 a3 true a0_0 a0_1 a0_2 a0_3 a1_0 a1_1 a1_2 a1_3 bt546.1 bt546.2.1 bt546.2.2.1 bt546.2.2.2) else ((rect_Clean.f a0_0 a0_1 a0_2 a0_3).bind fun bt556 => (if bt546.2.2.2 > bt556.2.2.2 then (casementlaw02_RectInto.j0 k a2 a3 true a0_0 a0_1 a0_2 a0_3 a1_0 a1_1 a1_2 a1_3 bt546.1 bt546.2.1 bt546.2.2.1 bt546.2.2.2) else ((rect_Into.f bt546.1 bt546.2.1 bt546.2.2.1 bt546.2.2.2 a1_0 a1_1 a1_2 a1_3).bind fun bt560 => (casementlaw02_RectInto.j0 k a2 a3 (!(bt560.1 == bt546.1) || (!(bt560.2.1 == bt546.2.1) || (!(bt560.2.2.1 == bt546.2.2.1) || (!(bt560.2.2.2 == bt546.2.2.2))))) a0_0 a0_1 a0_2 a0_3 a1_0 a1_1 a1_2 a1_3 bt546.1 bt546.2.1 bt546.2.2.1 bt546.2.2.2)))))) else (casementlaw02_RectInto.j0 k a2 a3 true a0_0 a0_1 a0_2 a0_3 a1_0 a1_1 a1_2 a1_3 bt546.1 bt546.2.1 bt546.2.2.1 bt546.2.2.2)))) else (some false))) = some r := h
  clear h
  replace H := Option.bind_eq_some_iff.mp H
  obtain ⟨t545, A50, H⟩ := H
  replace H : (if t545 = true then ((rect_Into.f a0_0 a0_1 a0_2 a0_3 a1_0 a1_1 a1_2 a1_3).bind fun bt546 => ((rect_Within.f bt546.1 bt546.2.1 bt546.2.2.1 bt546.2.2.2 a1_0 a1_1 a1_2 a1_3).bind fun t551 => (if t551 = true then ((rect_Clean.f a0_0 a0_1 a0_2 a0_3).bind fun bt552 => (if bt546.2.2.1 > bt552.2.2.1 then (casementlaw02_RectInto.j0 k a2 a3 true a0_0 a0_1 a0_2 a0_3 a1_0 a1_1 a1_2 a1_3 bt546.1 bt546.2.1 bt546.2.2.1 bt546.2.2.2) else ((rect_Clean.f a0_0 a0_1 a0_2 a0_3).bind fun bt556 => (if bt546.2.2.2 > bt556.2.2.2 then (casementlaw02_RectInto.j0 k a2 a3 true a0_0 a0_1 a0_2 a0_3 a1_0 a1_1 a1_2 a1_3 bt546.1 bt546.2.1 bt546.2.2.1 bt546.2.2.2) else ((rect_Into.f bt546.1 bt546.2.1 bt546.2.2.1 bt546.2.2.2 a1_0 a1_1 a1_2 a1_3).bind fun bt560 => (casementlaw02_RectInto.j0 k a2 a3 (!(bt560.1 == bt546.1) || (!(bt560.2.1 == bt546.2.1) || (!(bt560.2.2.1 == bt546.2.2.1) || (!(bt560.2.2.2 == bt546.2.2.2))))) a0_0 a0_1 a0_2 a0_3 a1_0 a1_1 a1_2 a1_3 bt546.1 bt546.2.1 bt546.2.2.1 bt546.2.2.2)))))) else (casementlaw02_RectInto.j0 k a2 a3 true a0_0 a0_1 a0_2 a0_3 a1_0 a1_1 a1_2 a1_3 bt546.1 bt546.2.1 bt546.2.2.1 bt546.2.2.2)))) else (some false)) = some r := H
  have A5 := Aside0.mk A50
  clear A50
  by_cases c6 : t545 = true
  · subst c6
    have H1 : ((rect_Into.f a0_0 a0_1 a0_2 a0_3 a1_0 a1_1 a1_2 a1_3).bind fun bt546 => ((rect_Within.f bt546.1 bt546.2.1 bt546.2.2.1 bt546.2.2.2 a1_0 a1_1 a1_2 a1_3).bind fun t551 => (if t551 = true then ((rect_Clean.f a0_0 a0_1 a0_2 a0_3).bind fun bt552 => (if bt546.2.2.1 > bt552.2.2.1 then (casementlaw02_RectInto.j0 k a2 a3 true a0_0 a0_1 a0_2 a0_3 a1_0 a1_1 a1_2 a1_3 bt546.1 bt546.2.1 bt546.2.2.1 bt546.2.2.2) else ((rect_Clean.f a0_0 a0_1 a0_2 a0_3).bind fun bt556 => (if bt546.2.2.2 > bt556.2.2.2 then (casementlaw02_RectInto.j0 k a2 a3 true a0_0 a0_1 a0_2 a0_3 a1_0 a1_1 a1_2 a1_3 bt546.1 bt546.2.1 bt546.2.2.1 bt546.2.2.2) else ((rect_Into.f bt546.1 bt546.2.1 bt546.2.2.1 bt546.2.2.2 a1_0 a1_1 a1_2 a1_3).bind fun bt560 => (casementlaw02_RectInto.j0 k a2 a3 (!(bt560.1 == bt546.1) || (!(bt560.2.1 == bt546.2.1) || (!(bt560.2.2.1 == bt546.2.2.1) || (!(bt560.2.2.2 == bt546.2.2.2))))) a0_0 a0_1 a0_2 a0_3 a1_0 a1_1 a1_2 a1_3 bt546.1 bt546.2.1 bt546.2.2.1 bt546.2.2.2)))))) else (casementlaw02_RectInto.j0 k a2 a3 true a0_0 a0_1 a0_2 a0_3 a1_0 a1_1 a1_2 a1_3 bt546.1 bt546.2.1 bt546.2.2.1 bt546.2.2.2)))) = some r := by rw [if_pos rfl] at H; exact H
    clear H
    have H := H1
    clear H1
    replace H := Option.bind_eq_some_iff.mp H
    obtain ⟨⟨t546, t547, t548, t549⟩, A70, H⟩ := H
    replace H : ((rect_Within.f t546 t547 t548 t549 a1_0 a1_1 a1_2 a1_3).bind fun t551 => (if t551 = true then ((rect_Clean.f a0_0 a0_1 a0_2 a0_3).bind fun bt552 => (if t548 > bt552.2.2.1 then (casementlaw02_RectInto.j0 k a2 a3 true a0_0 a0_1 a0_2 a0_3 a1_0 a1_1 a1_2 a1_3 t546 t547 t548 t549) else ((rect_Clean.f a0_0 a0_1 a0_2 a0_3).bind fun bt556 => (if t549 > bt556.2.2.2 then (casementlaw02_RectInto.j0 k a2 a3 true a0_0 a0_1 a0_2 a0_3 a1_0 a1_1 a1_2 a1_3 t546 t547 t548 t549) else ((rect_Into.f t546 t547 t548 t549 a1_0 a1_1 a1_2 a1_3).bind fun bt560 => (casementlaw02_RectInto.j0 k a2 a3 (!(bt560.1 == t546) || (!(bt560.2.1 == t547) || (!(bt560.2.2.1 == t548) || (!(bt560.2.2.2 == t549))))) a0_0 a0_1 a0_2 a0_3 a1_0 a1_1 a1_2 a1_3 t546 t547 t548 t549)))))) else (casementlaw02_RectInto.j0 k a2 a3 true a0_0 a0_1 a0_2 a0_3 a1_0 a1_1 a1_2 a1_3 t546 t547 t548 t549))) = some r := H
    have A7 := Aside0.mk A70
    clear A70
    have HC8 := Aside0.mk H
    clear H
    go_enter Try.func9, Try.ntmps9
    go_upto_region 4 with (first | ((with_reducible refine gate_dst (N := 4) rfl ?_); refine box_event ?hg (N := 4) ?hd (cs := #[.int .i64 a0_0, .int .i64 a0_1, .int .i64 a0_2, .int .i64 a0_3]) (t := 26) ?hr ?_; (case hd => rfl); (case hg => rfl); (case hr => first | (go_simp; done) | (go_simp; rfl)); intro gb543 hg w9 hbox hb; have n0_ := Aside0.mk (below_step (by repeat (first | (with_reducible first | exact HB.out | apply below_alloc | apply pw_below_drewN | apply below_drew1) | exact HB.out)) hb); have n1_ := Aside0.mk (hbox); have n2_ := Aside0.mk ((by rw [hg]; exact (below_size (by repeat (first | (with_reducible first | exact HB.out | apply below_alloc | apply pw_below_drewN | apply below_drew1) | exact HB.out))) : w.heap.size ≤ gb543)); have n3_ := Aside0.mk ((by rw [hg]; exact (below_size (by repeat (first | (with_reducible first | exact HB.out | apply below_alloc | apply pw_below_drewN | apply below_drew1) | exact HB.out))) : w.heap.size ≤ gb543)); clear HB; have HB := n0_; have BK543 := n1_; have GW543 := n2_; have GE543 := n3_; clear n0_ n1_ n2_ n3_; clear hb hbox hg) | ((with_reducible refine gate_dst (N := 5) rfl ?_); refine box_event ?hg (N := 5) ?hd (cs := #[.int .i64 a1_0, .int .i64 a1_1, .int .i64 a1_2, .int .i64 a1_3]) (t := 26) ?hr ?_; (case hd => rfl); (case hg => rfl); (case hr => first | (go_simp; done) | (go_simp; rfl)); intro gb544 hg w10 hbox hb; have n0_ := Aside0.mk (blk_below (g := gb543) (o := .cells #[.int .i64 a0_0, .int .i64 a0_1, .int .i64 a0_2, .int .i64 a0_3] 26 (0, 0)) (by (with_reducible repeat (first | refine blk_drewN ?_ _ | refine blk_drew ?_ | refine blk_alloc ?_ _)); exact BK543.out) hb); have n1_ := Aside0.mk (below_step (by repeat (first | (with_reducible first | exact HB.out | apply below_alloc | apply pw_below_drewN | apply below_drew1 | refine below_set ?_ GE543.out) | exact HB.out)) hb); have n2_ := Aside0.mk (hbox); have n3_ := Aside0.mk ((by rw [hg]; exact (below_size (by repeat (first | (with_reducible first | exact HB.out | apply below_alloc | apply pw_below_drewN | apply below_drew1 | refine below_set ?_ GE543.out) | exact HB.out))) : w.heap.size ≤ gb544)); have n4_ := Aside0.mk ((by rw [hg]; exact (below_size (by repeat (first | (with_reducible first | exact HB.out | apply below_alloc | apply pw_below_drewN | apply below_drew1 | refine below_set ?_ GE543.out) | exact HB.out))) : w.heap.size ≤ gb544)); have n5_ := Aside0.mk ((by rw [hg]; exact Nat.ne_of_lt (blk_lt (g := gb543) (o := .cells #[.int .i64 a0_0, .int .i64 a0_1, .int .i64 a0_2, .int .i64 a0_3] 26 (0, 0)) (by (with_reducible repeat (first | refine blk_drewN ?_ _ | refine blk_drew ?_ | refine blk_alloc ?_ _)); exact BK543.out)) : gb543 ≠ gb544)); have n6_ := Aside0.mk ((by rw [hg]; exact Nat.ne_of_gt (blk_lt (g := gb543) (o := .cells #[.int .i64 a0_0, .int .i64 a0_1, .int .i64 a0_2, .int .i64 a0_3] 26 (0, 0)) (by (with_reducible repeat (first | refine blk_drewN ?_ _ | refine blk_drew ?_ | refine blk_alloc ?_ _)); exact BK543.out)) : gb544 ≠ gb543)); clear BK543; clear HB; have BK543 := n0_; have HB := n1_; have BK544 := n2_; have GW544 := n3_; have GE544 := n4_; have NB543_544 := n5_; have NB544_543 := n6_; clear n0_ n1_ n2_ n3_ n4_ n5_ n6_; clear hb hbox hg) | ((with_reducible refine gate_callee (f := 12) rfl ?_); refine goesL_ (some 12) rfl rfl Try.func12 (by kernel_rfl) rfl #[] rfl (by (try simp only [List.map_toArray, List.map_cons, List.map_nil]); first | done | rfl | (simp only [List.length_drop, List.length_take]; rfl)) ?_; (with_reducible refine (casementlaw02_alive.calls k  true _ A5.out (by first | rfl | assumption)).mono ?_); rintro e w11 ⟨rfl, hb⟩; refine ⟨_, rfl, ?_⟩; have n0_ := Aside0.mk (blk_below (g := gb543) (o := .cells #[.int .i64 a0_0, .int .i64 a0_1, .int .i64 a0_2, .int .i64 a0_3] 26 (0, 0)) (by (with_reducible repeat (first | refine blk_drewN ?_ _ | refine blk_drew ?_ | refine blk_alloc ?_ _)); exact BK543.out) hb); have n1_ := Aside0.mk (blk_below (g := gb544) (o := .cells #[.int .i64 a1_0, .int .i64 a1_1, .int .i64 a1_2, .int .i64 a1_3] 26 (0, 0)) (by (with_reducible repeat (first | refine blk_drewN ?_ _ | refine blk_drew ?_ | refine blk_alloc ?_ _)); exact BK544.out) hb); have n2_ := Aside0.mk (below_step (by repeat (first | (with_reducible first | exact HB.out | apply below_alloc | apply pw_below_drewN | apply below_drew1 | refine below_set ?_ GE543.out | refine below_set ?_ GE544.out) | exact HB.out)) hb); clear BK543; clear BK544; clear HB; have BK543 := n0_; have BK544 := n1_; have HB := n2_; clear n0_ n1_ n2_; (try clear hb); (try clear hb2); (try clear hk); (try clear hi); have hnb12 := NB543_544.out; have hnc12 := NB544_543.out; have hcz13_0 : w11.cell? ⟨gb543, 0, none⟩ = some (.int .i64 a0_0) := (blk_cell BK543.out 0).trans rfl; have hcz13_1 : w11.cell? ⟨gb543, 1, none⟩ = some (.int .i64 a0_1) := (blk_cell BK543.out 1).trans rfl; have hcz13_2 : w11.cell? ⟨gb543, 2, none⟩ = some (.int .i64 a0_2) := (blk_cell BK543.out 2).trans rfl; have hcz13_3 : w11.cell? ⟨gb543, 3, none⟩ = some (.int .i64 a0_3) := (blk_cell BK543.out 3).trans rfl; have hfz13_0 := blk_frozen BK543.out 0; have hfz13_1 := blk_frozen BK543.out 1; have hfz13_2 := blk_frozen BK543.out 2; have hfz13_3 := blk_frozen BK543.out 3; have hcz14_0 : w11.cell? ⟨gb544, 0, none⟩ = some (.int .i64 a1_0) := (blk_cell BK544.out 0).trans rfl; have hcz14_1 : w11.cell? ⟨gb544, 1, none⟩ = some (.int .i64 a1_1) := (blk_cell BK544.out 1).trans rfl; have hcz14_2 : w11.cell? ⟨gb544, 2, none⟩ = some (.int .i64 a1_2) := (blk_cell BK544.out 2).trans rfl; have hcz14_3 : w11.cell? ⟨gb544, 3, none⟩ = some (.int .i64 a1_3) := (blk_cell BK544.out 3).trans rfl; have hfz14_0 := blk_frozen BK544.out 0; have hfz14_1 := blk_frozen BK544.out 1; have hfz14_2 := blk_frozen BK544.out 2; have hfz14_3 := blk_frozen BK544.out 3) | ((with_reducible refine gate_callee (f := 33) rfl ?_); refine goesL_ (some 16) rfl rfl Try.func33 (by kernel_rfl) rfl #[.agg #[.int .i64 a0_0, .int .i64 a0_1, .int .i64 a0_2, .int .i64 a0_3], .agg #[.int .i64 a1_0, .int .i64 a1_1, .int .i64 a1_2, .int .i64 a1_3]] rfl (by (try simp only [List.map_toArray, List.map_cons, List.map_nil]); first | done | rfl | (simp only [List.length_drop, List.length_take]; rfl)) ?_; (with_reducible refine (rect_Into.calls a0_0 a0_1 a0_2 a0_3 a1_0 a1_1 a1_2 a1_3 t546 t547 t548 t549 _ A7.out).mono ?_); rintro e w15 ⟨rfl, hb⟩; refine ⟨_, rfl, ?_⟩; have n0_ := Aside0.mk (blk_below (g := gb543) (o := .cells #[.int .i64 a0_0, .int .i64 a0_1, .int .i64 a0_2, .int .i64 a0_3] 26 (0, 0)) (by (with_reducible repeat (first | refine blk_drewN ?_ _ | refine blk_drew ?_ | refine blk_alloc ?_ _)); exact BK543.out) hb); have n1_ := Aside0.mk (blk_below (g := gb544) (o := .cells #[.int .i64 a1_0, .int .i64 a1_1, .int .i64 a1_2, .int .i64 a1_3] 26 (0, 0)) (by (with_reducible repeat (first | refine blk_drewN ?_ _ | refine blk_drew ?_ | refine blk_alloc ?_ _)); exact BK544.out) hb); have n2_ := Aside0.mk (below_step (by repeat (first | (with_reducible first | exact HB.out | apply below_alloc | apply pw_below_drewN | apply below_drew1 | refine below_set ?_ GE543.out | refine below_set ?_ GE544.out) | exact HB.out)) hb); clear BK543; clear BK544; clear HB; have BK543 := n0_; have BK544 := n1_; have HB := n2_; clear n0_ n1_ n2_; (try clear hb); (try clear hb2); (try clear hk); (try clear hi)) | ((with_reducible refine gate_dst (N := 9) rfl ?_); refine box_event ?hg (N := 9) ?hd (cs := #[.int .i64 0, .int .i64 0, .int .i64 0, .int .i64 0]) (t := 26) ?hr ?_; (case hd => rfl); (case hg => rfl); (case hr => first | (go_simp; done) | (go_simp; rfl)); intro gb550 hg w16 hbox hb; have n0_ := Aside0.mk (blk_below (g := gb543) (o := .cells #[.int .i64 a0_0, .int .i64 a0_1, .int .i64 a0_2, .int .i64 a0_3] 26 (0, 0)) (by (with_reducible repeat (first | refine blk_drewN ?_ _ | refine blk_drew ?_ | refine blk_alloc ?_ _)); exact BK543.out) hb); have n1_ := Aside0.mk (blk_below (g := gb544) (o := .cells #[.int .i64 a1_0, .int .i64 a1_1, .int .i64 a1_2, .int .i64 a1_3] 26 (0, 0)) (by (with_reducible repeat (first | refine blk_drewN ?_ _ | refine blk_drew ?_ | refine blk_alloc ?_ _)); exact BK544.out) hb); have n2_ := Aside0.mk (below_step (by repeat (first | (with_reducible first | exact HB.out | apply below_alloc | apply pw_below_drewN | apply below_drew1 | refine below_set ?_ GE543.out | refine below_set ?_ GE544.out) | exact HB.out)) hb); have n3_ := Aside0.mk (hbox); have n4_ := Aside0.mk ((by rw [hg]; exact (below_size (by repeat (first | (with_reducible first | exact HB.out | apply below_alloc | apply pw_below_drewN | apply below_drew1 | refine below_set ?_ GE543.out | refine below_set ?_ GE544.out) | exact HB.out))) : w.heap.size ≤ gb550)); have n5_ := Aside0.mk ((by rw [hg]; exact (below_size (by repeat (first | (with_reducible first | exact HB.out | apply below_alloc | apply pw_below_drewN | apply below_drew1 | refine below_set ?_ GE543.out | refine below_set ?_ GE544.out) | exact HB.out))) : w.heap.size ≤ gb550)); have n6_ := Aside0.mk ((by rw [hg]; exact Nat.ne_of_lt (blk_lt (g := gb543) (o := .cells #[.int .i64 a0_0, .int .i64 a0_1, .int .i64 a0_2, .int .i64 a0_3] 26 (0, 0)) (by (with_reducible repeat (first | refine blk_drewN ?_ _ | refine blk_drew ?_ | refine blk_alloc ?_ _)); exact BK543.out)) : gb543 ≠ gb550)); have n7_ := Aside0.mk ((by rw [hg]; exact Nat.ne_of_gt (blk_lt (g := gb543) (o := .cells #[.int .i64 a0_0, .int .i64 a0_1, .int .i64 a0_2, .int .i64 a0_3] 26 (0, 0)) (by (with_reducible repeat (first | refine blk_drewN ?_ _ | refine blk_drew ?_ | refine blk_alloc ?_ _)); exact BK543.out)) : gb550 ≠ gb543)); have n8_ := Aside0.mk ((by rw [hg]; exact Nat.ne_of_lt (blk_lt (g := gb544) (o := .cells #[.int .i64 a1_0, .int .i64 a1_1, .int .i64 a1_2, .int .i64 a1_3] 26 (0, 0)) (by (with_reducible repeat (first | refine blk_drewN ?_ _ | refine blk_drew ?_ | refine blk_alloc ?_ _)); exact BK544.out)) : gb544 ≠ gb550)); have n9_ := Aside0.mk ((by rw [hg]; exact Nat.ne_of_gt (blk_lt (g := gb544) (o := .cells #[.int .i64 a1_0, .int .i64 a1_1, .int .i64 a1_2, .int .i64 a1_3] 26 (0, 0)) (by (with_reducible repeat (first | refine blk_drewN ?_ _ | refine blk_drew ?_ | refine blk_alloc ?_ _)); exact BK544.out)) : gb550 ≠ gb544)); clear BK543; clear BK544; clear HB; have BK543 := n0_; have BK544 := n1_; have HB := n2_; have BK550 := n3_; have GW550 := n4_; have GE550 := n5_; have NB543_550 := n6_; have NB550_543 := n7_; have NB544_550 := n8_; have NB550_544 := n9_; clear n0_ n1_ n2_ n3_ n4_ n5_ n6_ n7_ n8_ n9_; clear hb hbox hg; have hnb17 := NB550_543.out; have hnc17 := NB543_550.out; have hnb18 := NB550_544.out; have hnc18 := NB544_550.out; have hcz19_0 : w16.cell? ⟨gb550, 0, none⟩ = some (.int .i64 0) := (blk_cell BK550.out 0).trans rfl; have hcz19_1 : w16.cell? ⟨gb550, 1, none⟩ = some (.int .i64 0) := (blk_cell BK550.out 1).trans rfl; have hcz19_2 : w16.cell? ⟨gb550, 2, none⟩ = some (.int .i64 0) := (blk_cell BK550.out 2).trans rfl; have hcz19_3 : w16.cell? ⟨gb550, 3, none⟩ = some (.int .i64 0) := (blk_cell BK550.out 3).trans rfl; have hfz19_0 := blk_frozen BK550.out 0; have hfz19_1 := blk_frozen BK550.out 1; have hfz19_2 := blk_frozen BK550.out 2; have hfz19_3 := blk_frozen BK550.out 3))
    (try simp only [Act.put, List.setIfInBounds_toArray, List.set_cons_zero, List.set_cons_succ])
    go_cut [43] (fun v43 wc => ∃ (kq : Nat) (x43_7 : Bool), v43 = .bool x43_7 ∧ Aside0 (casementlaw02_RectInto.j0 kq a2 a3 x43_7 a0_0 a0_1 a0_2 a0_3 a1_0 a1_1 a1_2 a1_3 t546 t547 t548 t549 = some r) ∧ Aside0 (kq ≤ k) ∧ Aside0 (wc.heap[gb543]? = some (.cells #[.int .i64 a0_0, .int .i64 a0_1, .int .i64 a0_2, .int .i64 a0_3] 26 (0, 0))) ∧ Aside0 (wc.heap[gb544]? = some (.cells #[.int .i64 a1_0, .int .i64 a1_1, .int .i64 a1_2, .int .i64 a1_3] 26 (0, 0))) ∧ Aside0 (wc.heap[gb550]? = some (.cells #[.int .i64 t546, .int .i64 t547, .int .i64 t548, .int .i64 t549] 26 (0, 0))) ∧ Aside0 (Below w.heap.size w wc))
    case first =>
      have H := HC8.out
      clear HC8
      replace H := Option.bind_eq_some_iff.mp H
      obtain ⟨t551, A200, H⟩ := H
      replace H : (if t551 = true then ((rect_Clean.f a0_0 a0_1 a0_2 a0_3).bind fun bt552 => (if t548 > bt552.2.2.1 then (casementlaw02_RectInto.j0 k a2 a3 true a0_0 a0_1 a0_2 a0_3 a1_0 a1_1 a1_2 a1_3 t546 t547 t548 t549) else ((rect_Clean.f a0_0 a0_1 a0_2 a0_3).bind fun bt556 => (if t549 > bt556.2.2.2 then (casementlaw02_RectInto.j0 k a2 a3 true a0_0 a0_1 a0_2 a0_3 a1_0 a1_1 a1_2 a1_3 t546 t547 t548 t549) else ((rect_Into.f t546 t547 t548 t549 a1_0 a1_1 a1_2 a1_3).bind fun bt560 => (casementlaw02_RectInto.j0 k a2 a3 (!(bt560.1 == t546) || (!(bt560.2.1 == t547) || (!(bt560.2.2.1 == t548) || (!(bt560.2.2.2 == t549))))) a0_0 a0_1 a0_2 a0_3 a1_0 a1_1 a1_2 a1_3 t546 t547 t548 t549)))))) else (casementlaw02_RectInto.j0 k a2 a3 true a0_0 a0_1 a0_2 a0_3 a1_0 a1_1 a1_2 a1_3 t546 t547 t548 t549)) = some r := H
      have A20 := Aside0.mk A200
      clear A200
      by_cases c21 : t551 = true
      · subst c21
        have H1 : ((rect_Clean.f a0_0 a0_1 a0_2 a0_3).bind fun bt552 => (if t548 > bt552.2.2.1 then (casementlaw02_RectInto.j0 k a2 a3 true a0_0 a0_1 a0_2 a0_3 a1_0 a1_1 a1_2 a1_3 t546 t547 t548 t549) else ((rect_Clean.f a0_0 a0_1 a0_2 a0_3).bind fun bt556 => (if t549 > bt556.2.2.2 then (casementlaw02_RectInto.j0 k a2 a3 true a0_0 a0_1 a0_2 a0_3 a1_0 a1_1 a1_2 a1_3 t546 t547 t548 t549) else ((rect_Into.f t546 t547 t548 t549 a1_0 a1_1 a1_2 a1_3).bind fun bt560 => (casementlaw02_RectInto.j0 k a2 a3 (!(bt560.1 == t546) || (!(bt560.2.1 == t547) || (!(bt560.2.2.1 == t548) || (!(bt560.2.2.2 == t549))))) a0_0 a0_1 a0_2 a0_3 a1_0 a1_1 a1_2 a1_3 t546 t547 t548 t549)))))) = some r := by rw [if_pos rfl] at H; exact H
        clear H
        have H := H1
        clear H1
        replace H := Option.bind_eq_some_iff.mp H
        obtain ⟨⟨t552, t553, t554, t555⟩, A220, H⟩ := H
        replace H : (if t548 > t554 then (casementlaw02_RectInto.j0 k a2 a3 true a0_0 a0_1 a0_2 a0_3 a1_0 a1_1 a1_2 a1_3 t546 t547 t548 t549) else ((rect_Clean.f a0_0 a0_1 a0_2 a0_3).bind fun bt556 => (if t549 > bt556.2.2.2 then (casementlaw02_RectInto.j0 k a2 a3 true a0_0 a0_1 a0_2 a0_3 a1_0 a1_1 a1_2 a1_3 t546 t547 t548 t549) else ((rect_Into.f t546 t547 t548 t549 a1_0 a1_1 a1_2 a1_3).bind fun bt560 => (casementlaw02_RectInto.j0 k a2 a3 (!(bt560.1 == t546) || (!(bt560.2.1 == t547) || (!(bt560.2.2.1 == t548) || (!(bt560.2.2.2 == t549))))) a0_0 a0_1 a0_2 a0_3 a1_0 a1_1 a1_2 a1_3 t546 t547 t548 t549))))) = some r := H
        have A22 := Aside0.mk A220
        clear A220
        by_cases c23 : t548 > t554
        · rw [if_pos c23] at H
          have c23b0 : decide (t554 < t548) = true := decide_eq_true c23
          clear c23
          (first | rw [c23b0] | (simp only [i64_w, i32_w]; rw [c23b0]) | skip)
          have H' := Aside0.mk H
          clear H
          try go_wp2
          have n0_ : Aside0 (((((w16.setCell ⟨gb550, 0, none⟩ (.int .i64 t546)).setCell ⟨gb550, 1, none⟩ (.int .i64 t547)).setCell ⟨gb550, 2, none⟩ (.int .i64 t548)).setCell ⟨gb550, 3, none⟩ (.int .i64 t549)).heap[gb543]? = some (.cells #[.int .i64 a0_0, .int .i64 a0_1, .int .i64 a0_2, .int .i64 a0_3] 26 (0, 0))) := ⟨by (with_reducible repeat (first | refine blk_drewN ?_ _ | refine blk_drew ?_ | refine blk_alloc ?_ _)); refine blk_far ?_ NB543_550.out _; (with_reducible repeat (first | refine blk_drewN ?_ _ | refine blk_drew ?_ | refine blk_alloc ?_ _)); refine blk_far ?_ NB543_550.out _; (with_reducible repeat (first | refine blk_drewN ?_ _ | refine blk_drew ?_ | refine blk_alloc ?_ _)); refine blk_far ?_ NB543_550.out _; (with_reducible repeat (first | refine blk_drewN ?_ _ | refine blk_drew ?_ | refine blk_alloc ?_ _)); refine blk_far ?_ NB543_550.out _; (with_reducible repeat (first | refine blk_drewN ?_ _ | refine blk_drew ?_ | refine blk_alloc ?_ _)); exact BK543.out⟩
          have n1_ : Aside0 (((((w16.setCell ⟨gb550, 0, none⟩ (.int .i64 t546)).setCell ⟨gb550, 1, none⟩ (.int .i64 t547)).setCell ⟨gb550, 2, none⟩ (.int .i64 t548)).setCell ⟨gb550, 3, none⟩ (.int .i64 t549)).heap[gb544]? = some (.cells #[.int .i64 a1_0, .int .i64 a1_1, .int .i64 a1_2, .int .i64 a1_3] 26 (0, 0))) := ⟨by (with_reducible repeat (first | refine blk_drewN ?_ _ | refine blk_drew ?_ | refine blk_alloc ?_ _)); refine blk_far ?_ NB544_550.out _; (with_reducible repeat (first | refine blk_drewN ?_ _ | refine blk_drew ?_ | refine blk_alloc ?_ _)); refine blk_far ?_ NB544_550.out _; (with_reducible repeat (first | refine blk_drewN ?_ _ | refine blk_drew ?_ | refine blk_alloc ?_ _)); refine blk_far ?_ NB544_550.out _; (with_reducible repeat (first | refine blk_drewN ?_ _ | refine blk_drew ?_ | refine blk_alloc ?_ _)); refine blk_far ?_ NB544_550.out _; (with_reducible repeat (first | refine blk_drewN ?_ _ | refine blk_drew ?_ | refine blk_alloc ?_ _)); exact BK544.out⟩
          have n2_ : Aside0 (((((w16.setCell ⟨gb550, 0, none⟩ (.int .i64 t546)).setCell ⟨gb550, 1, none⟩ (.int .i64 t547)).setCell ⟨gb550, 2, none⟩ (.int .i64 t548)).setCell ⟨gb550, 3, none⟩ (.int .i64 t549)).heap[gb550]? = some (.cells #[.int .i64 t546, .int .i64 t547, .int .i64 t548, .int .i64 t549] 26 (0, 0))) := ⟨by (with_reducible repeat (first | refine blk_drewN ?_ _ | refine blk_drew ?_ | refine blk_alloc ?_ _)); refine blk_put (cs := #[.int .i64 t546, .int .i64 t547, .int .i64 t548, .int .i64 0]) ?_ 3 _ rfl; (with_reducible repeat (first | refine blk_drewN ?_ _ | refine blk_drew ?_ | refine blk_alloc ?_ _)); refine blk_put (cs := #[.int .i64 t546, .int .i64 t547, .int .i64 0, .int .i64 0]) ?_ 2 _ rfl; (with_reducible repeat (first | refine blk_drewN ?_ _ | refine blk_drew ?_ | refine blk_alloc ?_ _)); refine blk_put (cs := #[.int .i64 t546, .int .i64 0, .int .i64 0, .int .i64 0]) ?_ 1 _ rfl; (with_reducible repeat (first | refine blk_drewN ?_ _ | refine blk_drew ?_ | refine blk_alloc ?_ _)); refine blk_put (cs := #[.int .i64 0, .int .i64 0, .int .i64 0, .int .i64 0]) ?_ 0 _ rfl; (with_reducible repeat (first | refine blk_drewN ?_ _ | refine blk_drew ?_ | refine blk_alloc ?_ _)); exact BK550.out⟩
          have n3_ : Aside0 (Below w.heap.size w ((((w16.setCell ⟨gb550, 0, none⟩ (.int .i64 t546)).setCell ⟨gb550, 1, none⟩ (.int .i64 t547)).setCell ⟨gb550, 2, none⟩ (.int .i64 t548)).setCell ⟨gb550, 3, none⟩ (.int .i64 t549))) := ⟨by repeat (first | (with_reducible first | exact HB.out | apply below_alloc | apply pw_below_drewN | apply below_drew1 | refine below_set ?_ GE543.out | refine below_set ?_ GE544.out | refine below_set ?_ GE550.out) | exact HB.out)⟩
          (try clear BK543)
          (try clear BK544)
          (try clear BK550)
          (try clear HB)
          generalize ((((w16.setCell ⟨gb550, 0, none⟩ (.int .i64 t546)).setCell ⟨gb550, 1, none⟩ (.int .i64 t547)).setCell ⟨gb550, 2, none⟩ (.int .i64 t548)).setCell ⟨gb550, 3, none⟩ (.int .i64 t549)) = w24 at n0_ n1_ n2_ n3_ ⊢
          have BK543 := n0_
          have BK544 := n1_
          have BK550 := n2_
          have HB := n3_
          clear n0_ n1_ n2_ n3_
          have n0_ := Aside0.mk (blk_drew BK543.out)
          have n1_ := Aside0.mk (blk_drew BK544.out)
          have n2_ := Aside0.mk (blk_drew BK550.out)
          have n3_ := Aside0.mk (below_drew1 HB.out)
          clear BK543
          clear BK544
          clear BK550
          clear HB
          have BK543 := n0_
          have BK544 := n1_
          have BK550 := n2_
          have HB := n3_
          clear n0_ n1_ n2_ n3_
          refine start_ (n := 27) (S := fun w' => w'.cell? ⟨gb550, 0, none⟩ = some (.int .i64 t546) ∧ w'.cell? ⟨gb550, 1, none⟩ = some (.int .i64 t547) ∧ w'.cell? ⟨gb550, 2, none⟩ = some (.int .i64 t548) ∧ w'.cell? ⟨gb550, 3, none⟩ = some (.int .i64 t549) ∧ w'.cell? ⟨gb544, 0, none⟩ = some (.int .i64 a1_0) ∧ w'.cell? ⟨gb544, 1, none⟩ = some (.int .i64 a1_1) ∧ w'.cell? ⟨gb544, 2, none⟩ = some (.int .i64 a1_2) ∧ w'.cell? ⟨gb544, 3, none⟩ = some (.int .i64 a1_3) ∧ w'.cell? ⟨gb543, 0, none⟩ = some (.int .i64 a0_0) ∧ w'.cell? ⟨gb543, 1, none⟩ = some (.int .i64 a0_1) ∧ w'.cell? ⟨gb543, 2, none⟩ = some (.int .i64 a0_2) ∧ w'.cell? ⟨gb543, 3, none⟩ = some (.int .i64 a0_3)) (ds := []) #[false, false, false, false, false, false, false, false, false, false, false, false, false, false, false, false, false, false, false, false, false, false, false, false, false, false, false] (by kernel_rfl) rfl rfl ⟨(blk_cell BK550.out 0).trans rfl, (blk_cell BK550.out 1).trans rfl, (blk_cell BK550.out 2).trans rfl, (blk_cell BK550.out 3).trans rfl, (blk_cell BK544.out 0).trans rfl, (blk_cell BK544.out 1).trans rfl, (blk_cell BK544.out 2).trans rfl, (blk_cell BK544.out 3).trans rfl, (blk_cell BK543.out 0).trans rfl, (blk_cell BK543.out 1).trans rfl, (blk_cell BK543.out 2).trans rfl, (blk_cell BK543.out 3).trans rfl⟩ (fun hHeld => ?_); refine with_tabW casementlaw02_RectInto.tab4 casementlaw02_RectInto.bits4 (fun HT_ HW_ => ?_)
          generalize w24.drew = w25 at BK543 BK544 BK550 HB hHeld ⊢
          refine take_ (i := 0) (N := some 17) (v := ?_) (a' := ?_) #[true, false, false, false, false, false, false, false, false, false, false, false, false, false, false, false, false, false, false, false, false, false, false, false, false, false, false] rfl rfl (take_ofW HT_.out HW_.out (by kernel_rfl)) (fun _ _ _ h => h) (Or.inl ⟨by rfl, ?_⟩) hHeld ?_ ?_
          rotate_left
          · rintro w' ⟨s0, s1, s2, s3, s4, s5, s6, s7, s8, s9, s10, s11⟩
            go_simp
            with_reducible rfl
          rotate_left
          · simp only [Act.put, List.setIfInBounds_toArray, List.set_cons_zero, List.set_cons_succ, i64_w, i32_w]
            rfl
          refine take_ (i := 1) (N := some 18) (v := ?_) (a' := ?_) #[true, true, false, false, false, false, false, false, false, false, false, false, false, false, false, false, false, false, false, false, false, false, false, false, false, false, false] rfl rfl (take_ofW HT_.out HW_.out (by kernel_rfl)) (fun _ _ _ h => h) (Or.inl ⟨by rfl, ?_⟩) hHeld ?_ ?_
          rotate_left
          · rintro w' ⟨s0, s1, s2, s3, s4, s5, s6, s7, s8, s9, s10, s11⟩
            go_simp
            with_reducible rfl
          rotate_left
          · simp only [Act.put, List.setIfInBounds_toArray, List.set_cons_zero, List.set_cons_succ, i64_w, i32_w]
            rfl
          refine one_ (i := 2) (N := some 19) #[true, true, true, false, false, false, false, false, false, false, false, false, false, false, false, false, false, false, false, false, false, false, false, false, false, false, false] rfl rfl (one_of HT_.out (by kernel_rfl)) (by decide) (fun K hK => ?_)
          refine goes_ Try.func25 (by kernel_rfl) rfl #[.agg #[.int .i64 t546, .int .i64 t547, .int .i64 t548, .int .i64 t549], .agg #[.int .i64 a1_0, .int .i64 a1_1, .int .i64 a1_2, .int .i64 a1_3]] (by rfl) rfl rfl (by (try simp only [List.map_toArray, List.map_cons, List.map_nil]); first | done | rfl | (simp only [List.length_drop, List.length_take]; rfl)) ?_
          with_reducible refine (rect_Within.calls t546 t547 t548 t549 a1_0 a1_1 a1_2 a1_3 true _ A20.out).mono ?_
          rintro e w26 ⟨rfl, hb⟩
          refine ⟨_, rfl, ?_⟩
          have n0_ := Aside0.mk (blk_below (g := gb543) (o := .cells #[.int .i64 a0_0, .int .i64 a0_1, .int .i64 a0_2, .int .i64 a0_3] 26 (0, 0)) (by (with_reducible repeat (first | refine blk_drewN ?_ _ | refine blk_drew ?_ | refine blk_alloc ?_ _)); exact BK543.out) hb)
          have n1_ := Aside0.mk (blk_below (g := gb544) (o := .cells #[.int .i64 a1_0, .int .i64 a1_1, .int .i64 a1_2, .int .i64 a1_3] 26 (0, 0)) (by (with_reducible repeat (first | refine blk_drewN ?_ _ | refine blk_drew ?_ | refine blk_alloc ?_ _)); exact BK544.out) hb)
          have n2_ := Aside0.mk (blk_below (g := gb550) (o := .cells #[.int .i64 t546, .int .i64 t547, .int .i64 t548, .int .i64 t549] 26 (0, 0)) (by (with_reducible repeat (first | refine blk_drewN ?_ _ | refine blk_drew ?_ | refine blk_alloc ?_ _)); exact BK550.out) hb)
          have n3_ := Aside0.mk (below_step (by repeat (first | (with_reducible first | exact HB.out | apply below_alloc | apply pw_below_drewN | apply below_drew1 | refine below_set ?_ GE543.out | refine below_set ?_ GE544.out | refine below_set ?_ GE550.out) | exact HB.out)) hb)
          clear BK543
          clear BK544
          clear BK550
          clear HB
          have BK543 := n0_
          have BK544 := n1_
          have BK550 := n2_
          have HB := n3_
          clear n0_ n1_ n2_ n3_
          (try clear hb)
          (try clear hb2)
          (try clear hk)
          (try clear hi)
          refine hK.out _ _ ⟨(blk_cell BK550.out 0).trans rfl, (blk_cell BK550.out 1).trans rfl, (blk_cell BK550.out 2).trans rfl, (blk_cell BK550.out 3).trans rfl, (blk_cell BK544.out 0).trans rfl, (blk_cell BK544.out 1).trans rfl, (blk_cell BK544.out 2).trans rfl, (blk_cell BK544.out 3).trans rfl, (blk_cell BK543.out 0).trans rfl, (blk_cell BK543.out 1).trans rfl, (blk_cell BK543.out 2).trans rfl, (blk_cell BK543.out 3).trans rfl⟩ (fun hHeld => ?_)
          clear hK K
          refine norm_ (a' := ?_) ?_ ?_
          rotate_left
          · show Act.put _ (some 19) _ = _
            simp only [Act.put, List.setIfInBounds_toArray, List.set_cons_zero, List.set_cons_succ, i64_w, i32_w]
            rfl
          refine pure_ (i := 3) (N := some 20) (v := ?_) (a' := ?_) #[true, true, true, true, false, false, false, false, false, false, false, false, false, false, false, false, false, false, false, false, false, false, false, false, false, false, false] rfl rfl (any_of HT_.out (by kernel_rfl)) (fun _ _ _ h => h) (Or.inl ⟨by rfl, ?_⟩) ?_ ?_
          rotate_left
          · intro w'
            go_simp
            with_reducible rfl
          rotate_left
          · simp only [Act.put, List.setIfInBounds_toArray, List.set_cons_zero, List.set_cons_succ, i64_w, i32_w]
            rfl
          refine pure_ (i := 4) (N := some 21) (v := ?_) (a' := ?_) #[true, true, true, true, true, false, false, false, false, false, false, false, false, false, false, false, false, false, false, false, false, false, false, false, false, false, false] rfl rfl (any_of HT_.out (by kernel_rfl)) (fun _ _ _ h => h) (Or.inl ⟨by rfl, ?_⟩) ?_ ?_
          rotate_left
          · intro w'
            go_simp
            with_reducible rfl
          rotate_left
          · simp only [Act.put, List.setIfInBounds_toArray, List.set_cons_zero, List.set_cons_succ, i64_w, i32_w]
            rfl
          refine pure_ (i := 5) (N := some 22) (v := ?_) (a' := ?_) #[true, true, true, true, true, true, false, false, false, false, false, false, false, false, false, false, false, false, false, false, false, false, false, false, false, false, false] rfl rfl (any_of HT_.out (by kernel_rfl)) (fun _ _ _ h => h) (Or.inl ⟨by rfl, ?_⟩) ?_ ?_
          rotate_left
          · intro w'
            go_simp
            with_reducible rfl
          rotate_left
          · simp only [Act.put, List.setIfInBounds_toArray, List.set_cons_zero, List.set_cons_succ, i64_w, i32_w]
            rfl
          refine take_ (i := 6) (N := some 23) (v := ?_) (a' := ?_) #[true, true, true, true, true, true, true, false, false, false, false, false, false, false, false, false, false, false, false, false, false, false, false, false, false, false, false] rfl rfl (take_ofW HT_.out HW_.out (by kernel_rfl)) (fun _ _ _ h => h) (Or.inl ⟨by rfl, ?_⟩) hHeld ?_ ?_
          rotate_left
          · rintro w' ⟨s0, s1, s2, s3, s4, s5, s6, s7, s8, s9, s10, s11⟩
            go_simp
            with_reducible rfl
          rotate_left
          · simp only [Act.put, List.setIfInBounds_toArray, List.set_cons_zero, List.set_cons_succ, i64_w, i32_w]
            rfl
          refine take_ (i := 7) (N := some 24) (v := ?_) (a' := ?_) #[true, true, true, true, true, true, true, true, false, false, false, false, false, false, false, false, false, false, false, false, false, false, false, false, false, false, false] rfl rfl (take_ofW HT_.out HW_.out (by kernel_rfl)) (fun _ _ _ h => h) (Or.inl ⟨by rfl, ?_⟩) hHeld ?_ ?_
          rotate_left
          · rintro w' ⟨s0, s1, s2, s3, s4, s5, s6, s7, s8, s9, s10, s11⟩
            go_simp
            with_reducible rfl
          rotate_left
          · simp only [Act.put, List.setIfInBounds_toArray, List.set_cons_zero, List.set_cons_succ, i64_w, i32_w]
            rfl
          refine one_ (i := 8) (N := some 25) #[true, true, true, true, true, true, true, true, true, false, false, false, false, false, false, false, false, false, false, false, false, false, false, false, false, false, false] rfl rfl (one_of HT_.out (by kernel_rfl)) (by decide) (fun K hK => ?_)
          refine goes_ Try.func20 (by kernel_rfl) rfl #[.agg #[.int .i64 a0_0, .int .i64 a0_1, .int .i64 a0_2, .int .i64 a0_3]] (by rfl) rfl rfl (by (try simp only [List.map_toArray, List.map_cons, List.map_nil]); first | done | rfl | (simp only [List.length_drop, List.length_take]; rfl)) ?_
          with_reducible refine (rect_Clean.calls a0_0 a0_1 a0_2 a0_3 t552 t553 t554 t555 _ A22.out).mono ?_
          rintro e w27 ⟨rfl, hb⟩
          refine ⟨_, rfl, ?_⟩
          have n0_ := Aside0.mk (blk_below (g := gb543) (o := .cells #[.int .i64 a0_0, .int .i64 a0_1, .int .i64 a0_2, .int .i64 a0_3] 26 (0, 0)) (by (with_reducible repeat (first | refine blk_drewN ?_ _ | refine blk_drew ?_ | refine blk_alloc ?_ _)); exact BK543.out) hb)
          have n1_ := Aside0.mk (blk_below (g := gb544) (o := .cells #[.int .i64 a1_0, .int .i64 a1_1, .int .i64 a1_2, .int .i64 a1_3] 26 (0, 0)) (by (with_reducible repeat (first | refine blk_drewN ?_ _ | refine blk_drew ?_ | refine blk_alloc ?_ _)); exact BK544.out) hb)
          have n2_ := Aside0.mk (blk_below (g := gb550) (o := .cells #[.int .i64 t546, .int .i64 t547, .int .i64 t548, .int .i64 t549] 26 (0, 0)) (by (with_reducible repeat (first | refine blk_drewN ?_ _ | refine blk_drew ?_ | refine blk_alloc ?_ _)); exact BK550.out) hb)
          have n3_ := Aside0.mk (below_step (by repeat (first | (with_reducible first | exact HB.out | apply below_alloc | apply pw_below_drewN | apply below_drew1 | refine below_set ?_ GE543.out | refine below_set ?_ GE544.out | refine below_set ?_ GE550.out) | exact HB.out)) hb)
          clear BK543
          clear BK544
          clear BK550
          clear HB
          have BK543 := n0_
          have BK544 := n1_
          have BK550 := n2_
          have HB := n3_
          clear n0_ n1_ n2_ n3_
          (try clear hb)
          (try clear hb2)
          (try clear hk)
          (try clear hi)
          refine hK.out _ _ ⟨(blk_cell BK550.out 0).trans rfl, (blk_cell BK550.out 1).trans rfl, (blk_cell BK550.out 2).trans rfl, (blk_cell BK550.out 3).trans rfl, (blk_cell BK544.out 0).trans rfl, (blk_cell BK544.out 1).trans rfl, (blk_cell BK544.out 2).trans rfl, (blk_cell BK544.out 3).trans rfl, (blk_cell BK543.out 0).trans rfl, (blk_cell BK543.out 1).trans rfl, (blk_cell BK543.out 2).trans rfl, (blk_cell BK543.out 3).trans rfl⟩ (fun hHeld => ?_)
          clear hK K
          refine norm_ (a' := ?_) ?_ ?_
          rotate_left
          · show Act.put _ (some 25) _ = _
            simp only [Act.put, List.setIfInBounds_toArray, List.set_cons_zero, List.set_cons_succ, i64_w, i32_w]
            rfl
          refine pure_ (i := 9) (N := some 26) (v := ?_) (a' := ?_) #[true, true, true, true, true, true, true, true, true, true, false, false, false, false, false, false, false, false, false, false, false, false, false, false, false, false, false] rfl rfl (any_of HT_.out (by kernel_rfl)) (fun _ _ _ h => h) (Or.inl ⟨by rfl, ?_⟩) ?_ ?_
          rotate_left
          · intro w'
            go_simp
            with_reducible rfl
          rotate_left
          · simp only [Act.put, List.setIfInBounds_toArray, List.set_cons_zero, List.set_cons_succ, i64_w, i32_w]
            rfl
          refine pure_ (i := 10) (N := some 27) (v := ?_) (a' := ?_) #[true, true, true, true, true, true, true, true, true, true, true, false, false, false, false, false, false, false, false, false, false, false, false, false, false, false, false] rfl rfl (any_of HT_.out (by kernel_rfl)) (fun _ _ _ h => h) (Or.inl ⟨by rfl, ?_⟩) ?_ ?_
          rotate_left
          · intro w'
            go_simp
            with_reducible rfl
          rotate_left
          · simp only [Act.put, List.setIfInBounds_toArray, List.set_cons_zero, List.set_cons_succ, i64_w, i32_w]
            rfl
          refine pure_ (i := 11) (N := some 28) (v := ?_) (a' := ?_) #[true, true, true, true, true, true, true, true, true, true, true, true, false, false, false, false, false, false, false, false, false, false, false, false, false, false, false] rfl rfl (any_of HT_.out (by kernel_rfl)) (fun _ _ _ h => h) (Or.inl ⟨by rfl, ?_⟩) ?_ ?_
          rotate_left
          · intro w'
            go_simp
            with_reducible rfl
          rotate_left
          · simp only [Act.put, List.setIfInBounds_toArray, List.set_cons_zero, List.set_cons_succ, i64_w, i32_w]
            rfl
          refine pure_ (i := 12) (N := some 29) (v := ?_) (a' := ?_) #[true, true, true, true, true, true, true, true, true, true, true, true, true, false, false, false, false, false, false, false, false, false, false, false, false, false, false] rfl rfl (any_of HT_.out (by kernel_rfl)) (fun _ _ _ h => h) (Or.inl ⟨by rfl, ?_⟩) ?_ ?_
          rotate_left
          · intro w'
            go_simp
            with_reducible rfl
          rotate_left
          · simp only [Act.put, List.setIfInBounds_toArray, List.set_cons_zero, List.set_cons_succ, i64_w, i32_w]
            rfl
          refine pure_ (i := 13) (N := some 30) (v := undef) (a' := ?_) #[true, true, true, true, true, true, true, true, true, true, true, true, true, true, false, false, false, false, false, false, false, false, false, false, false, false, false] rfl rfl (any_of HT_.out (by kernel_rfl)) (fun _ _ _ h => h) (Or.inr ⟨by rfl, rfl⟩) ?_ ?_
          rotate_left
          · simp only [Act.put, List.setIfInBounds_toArray, List.set_cons_zero, List.set_cons_succ, i64_w, i32_w]
            rfl
          refine pure_ (i := 14) (N := some 31) (v := undef) (a' := ?_) #[true, true, true, true, true, true, true, true, true, true, true, true, true, true, true, false, false, false, false, false, false, false, false, false, false, false, false] rfl rfl (any_of HT_.out (by kernel_rfl)) (fun _ _ _ h => h) (Or.inr ⟨by rfl, rfl⟩) ?_ ?_
          rotate_left
          · simp only [Act.put, List.setIfInBounds_toArray, List.set_cons_zero, List.set_cons_succ, i64_w, i32_w]
            rfl
          refine pure_ (i := 15) (N := some 32) (v := undef) (a' := ?_) #[true, true, true, true, true, true, true, true, true, true, true, true, true, true, true, true, false, false, false, false, false, false, false, false, false, false, false] rfl rfl (any_of HT_.out (by kernel_rfl)) (fun _ _ _ h => h) (Or.inr ⟨by rfl, rfl⟩) ?_ ?_
          rotate_left
          · simp only [Act.put, List.setIfInBounds_toArray, List.set_cons_zero, List.set_cons_succ, i64_w, i32_w]
            rfl
          refine pure_ (i := 16) (N := some 33) (v := undef) (a' := ?_) #[true, true, true, true, true, true, true, true, true, true, true, true, true, true, true, true, true, false, false, false, false, false, false, false, false, false, false] rfl rfl (any_of HT_.out (by kernel_rfl)) (fun _ _ _ h => h) (Or.inr ⟨by rfl, rfl⟩) ?_ ?_
          rotate_left
          · simp only [Act.put, List.setIfInBounds_toArray, List.set_cons_zero, List.set_cons_succ, i64_w, i32_w]
            rfl
          refine pure_ (i := 17) (N := some 34) (v := undef) (a' := ?_) #[true, true, true, true, true, true, true, true, true, true, true, true, true, true, true, true, true, true, false, false, false, false, false, false, false, false, false] rfl rfl (any_of HT_.out (by kernel_rfl)) (fun _ _ _ h => h) (Or.inr ⟨by rfl, rfl⟩) ?_ ?_
          rotate_left
          · simp only [Act.put, List.setIfInBounds_toArray, List.set_cons_zero, List.set_cons_succ, i64_w, i32_w]
            rfl
          refine pure_ (i := 18) (N := some 35) (v := undef) (a' := ?_) #[true, true, true, true, true, true, true, true, true, true, true, true, true, true, true, true, true, true, true, false, false, false, false, false, false, false, false] rfl rfl (any_of HT_.out (by kernel_rfl)) (fun _ _ _ h => h) (Or.inr ⟨by rfl, rfl⟩) ?_ ?_
          rotate_left
          · simp only [Act.put, List.setIfInBounds_toArray, List.set_cons_zero, List.set_cons_succ, i64_w, i32_w]
            rfl
          refine pure_ (i := 19) (N := some 36) (v := ?_) (a' := ?_) #[true, true, true, true, true, true, true, true, true, true, true, true, true, true, true, true, true, true, true, true, false, false, false, false, false, false, false] rfl rfl (any_of HT_.out (by kernel_rfl)) (fun _ _ _ h => h) (Or.inl ⟨by rfl, ?_⟩) ?_ ?_
          rotate_left
          · intro w'
            go_simp
            with_reducible rfl
          rotate_left
          · simp only [Act.put, List.setIfInBounds_toArray, List.set_cons_zero, List.set_cons_succ, i64_w, i32_w]
            rfl
          refine pure_ (i := 20) (N := some 37) (v := ?_) (a' := ?_) #[true, true, true, true, true, true, true, true, true, true, true, true, true, true, true, true, true, true, true, true, true, false, false, false, false, false, false] rfl rfl (any_of HT_.out (by kernel_rfl)) (fun _ _ _ h => h) (Or.inl ⟨by rfl, ?_⟩) ?_ ?_
          rotate_left
          · intro w'
            go_simp
            with_reducible rfl
          rotate_left
          · simp only [Act.put, List.setIfInBounds_toArray, List.set_cons_zero, List.set_cons_succ, i64_w, i32_w]
            rfl
          refine pure_ (i := 21) (N := some 38) (v := undef) (a' := ?_) #[true, true, true, true, true, true, true, true, true, true, true, true, true, true, true, true, true, true, true, true, true, true, false, false, false, false, false] rfl rfl (any_of HT_.out (by kernel_rfl)) (fun _ _ _ h => h) (Or.inr ⟨by rfl, rfl⟩) ?_ ?_
          rotate_left
          · simp only [Act.put, List.setIfInBounds_toArray, List.set_cons_zero, List.set_cons_succ, i64_w, i32_w]
            rfl
          refine pure_ (i := 22) (N := some 39) (v := undef) (a' := ?_) #[true, true, true, true, true, true, true, true, true, true, true, true, true, true, true, true, true, true, true, true, true, true, true, false, false, false, false] rfl rfl (any_of HT_.out (by kernel_rfl)) (fun _ _ _ h => h) (Or.inr ⟨by rfl, rfl⟩) ?_ ?_
          rotate_left
          · simp only [Act.put, List.setIfInBounds_toArray, List.set_cons_zero, List.set_cons_succ, i64_w, i32_w]
            rfl
          refine pure_ (i := 23) (N := some 40) (v := undef) (a' := ?_) #[true, true, true, true, true, true, true, true, true, true, true, true, true, true, true, true, true, true, true, true, true, true, true, true, false, false, false] rfl rfl (any_of HT_.out (by kernel_rfl)) (fun _ _ _ h => h) (Or.inr ⟨by rfl, rfl⟩) ?_ ?_
          rotate_left
          · simp only [Act.put, List.setIfInBounds_toArray, List.set_cons_zero, List.set_cons_succ, i64_w, i32_w]
            rfl
          refine pure_ (i := 24) (N := some 41) (v := undef) (a' := ?_) #[true, true, true, true, true, true, true, true, true, true, true, true, true, true, true, true, true, true, true, true, true, true, true, true, true, false, false] rfl rfl (any_of HT_.out (by kernel_rfl)) (fun _ _ _ h => h) (Or.inr ⟨by rfl, rfl⟩) ?_ ?_
          rotate_left
          · simp only [Act.put, List.setIfInBounds_toArray, List.set_cons_zero, List.set_cons_succ, i64_w, i32_w]
            rfl
          refine pure_ (i := 25) (N := some 42) (v := undef) (a' := ?_) #[true, true, true, true, true, true, true, true, true, true, true, true, true, true, true, true, true, true, true, true, true, true, true, true, true, true, false] rfl rfl (any_of HT_.out (by kernel_rfl)) (fun _ _ _ h => h) (Or.inr ⟨by rfl, rfl⟩) ?_ ?_
          rotate_left
          · simp only [Act.put, List.setIfInBounds_toArray, List.set_cons_zero, List.set_cons_succ, i64_w, i32_w]
            rfl
          refine pure_ (i := 26) (N := some 43) (v := ?_) (a' := ?_) #[true, true, true, true, true, true, true, true, true, true, true, true, true, true, true, true, true, true, true, true, true, true, true, true, true, true, true] rfl rfl (any_of HT_.out (by kernel_rfl)) (fun _ _ _ h => h) (Or.inl ⟨by rfl, ?_⟩) ?_ ?_
          rotate_left
          · intro w'
            go_simp
            with_reducible rfl
          rotate_left
          · simp only [Act.put, List.setIfInBounds_toArray, List.set_cons_zero, List.set_cons_succ, i64_w, i32_w]
            rfl
          refine done_ (done_of HT_.out (by kernel_rfl)) ?_
          try go_wp2
          go_meet
          case rel => exact ⟨_, (true), (by first | rfl | (simp; done) | (simp [*]; done)), H', ⟨by first | omega | exact Nat.le_refl _⟩, ⟨by (with_reducible repeat (first | refine blk_drewN ?_ _ | refine blk_drew ?_ | refine blk_alloc ?_ _)); exact BK543.out⟩, ⟨by (with_reducible repeat (first | refine blk_drewN ?_ _ | refine blk_drew ?_ | refine blk_alloc ?_ _)); exact BK544.out⟩, ⟨by (with_reducible repeat (first | refine blk_drewN ?_ _ | refine blk_drew ?_ | refine blk_alloc ?_ _)); exact BK550.out⟩, ⟨by repeat (first | (with_reducible first | exact HB.out | apply below_alloc | apply pw_below_drewN | apply below_drew1 | refine below_set ?_ GE543.out | refine below_set ?_ GE544.out | refine below_set ?_ GE550.out) | exact HB.out)⟩⟩
        · rw [if_neg c23] at H
          have c23b0 : decide (t554 < t548) = false := decide_eq_false c23
          clear c23
          (first | rw [c23b0] | (simp only [i64_w, i32_w]; rw [c23b0]) | skip)
          replace H := Option.bind_eq_some_iff.mp H
          obtain ⟨⟨t556, t557, t558, t559⟩, A280, H⟩ := H
          replace H : (if t549 > t559 then (casementlaw02_RectInto.j0 k a2 a3 true a0_0 a0_1 a0_2 a0_3 a1_0 a1_1 a1_2 a1_3 t546 t547 t548 t549) else ((rect_Into.f t546 t547 t548 t549 a1_0 a1_1 a1_2 a1_3).bind fun bt560 => (casementlaw02_RectInto.j0 k a2 a3 (!(bt560.1 == t546) || (!(bt560.2.1 == t547) || (!(bt560.2.2.1 == t548) || (!(bt560.2.2.2 == t549))))) a0_0 a0_1 a0_2 a0_3 a1_0 a1_1 a1_2 a1_3 t546 t547 t548 t549))) = some r := H
          have A28 := Aside0.mk A280
          clear A280
          by_cases c29 : t549 > t559
          · rw [if_pos c29] at H
            have c29b0 : decide (t559 < t549) = true := decide_eq_true c29
            clear c29
            have H' := Aside0.mk H
            clear H
            try go_wp2
            have n0_ : Aside0 (((((w16.setCell ⟨gb550, 0, none⟩ (.int .i64 t546)).setCell ⟨gb550, 1, none⟩ (.int .i64 t547)).setCell ⟨gb550, 2, none⟩ (.int .i64 t548)).setCell ⟨gb550, 3, none⟩ (.int .i64 t549)).heap[gb543]? = some (.cells #[.int .i64 a0_0, .int .i64 a0_1, .int .i64 a0_2, .int .i64 a0_3] 26 (0, 0))) := ⟨by (with_reducible repeat (first | refine blk_drewN ?_ _ | refine blk_drew ?_ | refine blk_alloc ?_ _)); refine blk_far ?_ NB543_550.out _; (with_reducible repeat (first | refine blk_drewN ?_ _ | refine blk_drew ?_ | refine blk_alloc ?_ _)); refine blk_far ?_ NB543_550.out _; (with_reducible repeat (first | refine blk_drewN ?_ _ | refine blk_drew ?_ | refine blk_alloc ?_ _)); refine blk_far ?_ NB543_550.out _; (with_reducible repeat (first | refine blk_drewN ?_ _ | refine blk_drew ?_ | refine blk_alloc ?_ _)); refine blk_far ?_ NB543_550.out _; (with_reducible repeat (first | refine blk_drewN ?_ _ | refine blk_drew ?_ | refine blk_alloc ?_ _)); exact BK543.out⟩
            have n1_ : Aside0 (((((w16.setCell ⟨gb550, 0, none⟩ (.int .i64 t546)).setCell ⟨gb550, 1, none⟩ (.int .i64 t547)).setCell ⟨gb550, 2, none⟩ (.int .i64 t548)).setCell ⟨gb550, 3, none⟩ (.int .i64 t549)).heap[gb544]? = some (.cells #[.int .i64 a1_0, .int .i64 a1_1, .int .i64 a1_2, .int .i64 a1_3] 26 (0, 0))) := ⟨by (with_reducible repeat (first | refine blk_drewN ?_ _ | refine blk_drew ?_ | refine blk_alloc ?_ _)); refine blk_far ?_ NB544_550.out _; (with_reducible repeat (first | refine blk_drewN ?_ _ | refine blk_drew ?_ | refine blk_alloc ?_ _)); refine blk_far ?_ NB544_550.out _; (with_reducible repeat (first | refine blk_drewN ?_ _ | refine blk_drew ?_ | refine blk_alloc ?_ _)); refine blk_far ?_ NB544_550.out _; (with_reducible repeat (first | refine blk_drewN ?_ _ | refine blk_drew ?_ | refine blk_alloc ?_ _)); refine blk_far ?_ NB544_550.out _; (with_reducible repeat (first | refine blk_drewN ?_ _ | refine blk_drew ?_ | refine blk_alloc ?_ _)); exact BK544.out⟩
            have n2_ : Aside0 (((((w16.setCell ⟨gb550, 0, none⟩ (.int .i64 t546)).setCell ⟨gb550, 1, none⟩ (.int .i64 t547)).setCell ⟨gb550, 2, none⟩ (.int .i64 t548)).setCell ⟨gb550, 3, none⟩ (.int .i64 t549)).heap[gb550]? = some (.cells #[.int .i64 t546, .int .i64 t547, .int .i64 t548, .int .i64 t549] 26 (0, 0))) := ⟨by (with_reducible repeat (first | refine blk_drewN ?_ _ | refine blk_drew ?_ | refine blk_alloc ?_ _)); refine blk_put (cs := #[.int .i64 t546, .int .i64 t547, .int .i64 t548, .int .i64 0]) ?_ 3 _ rfl; (with_reducible repeat (first | refine blk_drewN ?_ _ | refine blk_drew ?_ | refine blk_alloc ?_ _)); refine blk_put (cs := #[.int .i64 t546, .int .i64 t547, .int .i64 0, .int .i64 0]) ?_ 2 _ rfl; (with_reducible repeat (first | refine blk_drewN ?_ _ | refine blk_drew ?_ | refine blk_alloc ?_ _)); refine blk_put (cs := #[.int .i64 t546, .int .i64 0, .int .i64 0, .int .i64 0]) ?_ 1 _ rfl; (with_reducible repeat (first | refine blk_drewN ?_ _ | refine blk_drew ?_ | refine blk_alloc ?_ _)); refine blk_put (cs := #[.int .i64 0, .int .i64 0, .int .i64 0, .int .i64 0]) ?_ 0 _ rfl; (with_reducible repeat (first | refine blk_drewN ?_ _ | refine blk_drew ?_ | refine blk_alloc ?_ _)); exact BK550.out⟩
            have n3_ : Aside0 (Below w.heap.size w ((((w16.setCell ⟨gb550, 0, none⟩ (.int .i64 t546)).setCell ⟨gb550, 1, none⟩ (.int .i64 t547)).setCell ⟨gb550, 2, none⟩ (.int .i64 t548)).setCell ⟨gb550, 3, none⟩ (.int .i64 t549))) := ⟨by repeat (first | (with_reducible first | exact HB.out | apply below_alloc | apply pw_below_drewN | apply below_drew1 | refine below_set ?_ GE543.out | refine below_set ?_ GE544.out | refine below_set ?_ GE550.out) | exact HB.out)⟩
            (try clear BK543)
            (try clear BK544)
            (try clear BK550)
            (try clear HB)
            generalize ((((w16.setCell ⟨gb550, 0, none⟩ (.int .i64 t546)).setCell ⟨gb550, 1, none⟩ (.int .i64 t547)).setCell ⟨gb550, 2, none⟩ (.int .i64 t548)).setCell ⟨gb550, 3, none⟩ (.int .i64 t549)) = w30 at n0_ n1_ n2_ n3_ ⊢
            have BK543 := n0_
            have BK544 := n1_
            have BK550 := n2_
            have HB := n3_
            clear n0_ n1_ n2_ n3_
            have n0_ := Aside0.mk (blk_drew BK543.out)
            have n1_ := Aside0.mk (blk_drew BK544.out)
            have n2_ := Aside0.mk (blk_drew BK550.out)
            have n3_ := Aside0.mk (below_drew1 HB.out)
            clear BK543
            clear BK544
            clear BK550
            clear HB
            have BK543 := n0_
            have BK544 := n1_
            have BK550 := n2_
            have HB := n3_
            clear n0_ n1_ n2_ n3_
            refine start_ (n := 27) (S := fun w' => w'.cell? ⟨gb550, 0, none⟩ = some (.int .i64 t546) ∧ w'.cell? ⟨gb550, 1, none⟩ = some (.int .i64 t547) ∧ w'.cell? ⟨gb550, 2, none⟩ = some (.int .i64 t548) ∧ w'.cell? ⟨gb550, 3, none⟩ = some (.int .i64 t549) ∧ w'.cell? ⟨gb544, 0, none⟩ = some (.int .i64 a1_0) ∧ w'.cell? ⟨gb544, 1, none⟩ = some (.int .i64 a1_1) ∧ w'.cell? ⟨gb544, 2, none⟩ = some (.int .i64 a1_2) ∧ w'.cell? ⟨gb544, 3, none⟩ = some (.int .i64 a1_3) ∧ w'.cell? ⟨gb543, 0, none⟩ = some (.int .i64 a0_0) ∧ w'.cell? ⟨gb543, 1, none⟩ = some (.int .i64 a0_1) ∧ w'.cell? ⟨gb543, 2, none⟩ = some (.int .i64 a0_2) ∧ w'.cell? ⟨gb543, 3, none⟩ = some (.int .i64 a0_3)) (ds := []) #[false, false, false, false, false, false, false, false, false, false, false, false, false, false, false, false, false, false, false, false, false, false, false, false, false, false, false] (by kernel_rfl) rfl rfl ⟨(blk_cell BK550.out 0).trans rfl, (blk_cell BK550.out 1).trans rfl, (blk_cell BK550.out 2).trans rfl, (blk_cell BK550.out 3).trans rfl, (blk_cell BK544.out 0).trans rfl, (blk_cell BK544.out 1).trans rfl, (blk_cell BK544.out 2).trans rfl, (blk_cell BK544.out 3).trans rfl, (blk_cell BK543.out 0).trans rfl, (blk_cell BK543.out 1).trans rfl, (blk_cell BK543.out 2).trans rfl, (blk_cell BK543.out 3).trans rfl⟩ (fun hHeld => ?_); refine with_tabW casementlaw02_RectInto.tab4 casementlaw02_RectInto.bits4 (fun HT_ HW_ => ?_)
            generalize w30.drew = w31 at BK543 BK544 BK550 HB hHeld ⊢
            refine take_ (i := 0) (N := some 17) (v := ?_) (a' := ?_) #[true, false, false, false, false, false, false, false, false, false, false, false, false, false, false, false, false, false, false, false, false, false, false, false, false, false, false] rfl rfl (take_ofW HT_.out HW_.out (by kernel_rfl)) (fun _ _ _ h => h) (Or.inl ⟨by rfl, ?_⟩) hHeld ?_ ?_
            rotate_left
            · rintro w' ⟨s0, s1, s2, s3, s4, s5, s6, s7, s8, s9, s10, s11⟩
              go_simp
              with_reducible rfl
            rotate_left
            · simp only [Act.put, List.setIfInBounds_toArray, List.set_cons_zero, List.set_cons_succ, i64_w, i32_w]
              rfl
            refine take_ (i := 1) (N := some 18) (v := ?_) (a' := ?_) #[true, true, false, false, false, false, false, false, false, false, false, false, false, false, false, false, false, false, false, false, false, false, false, false, false, false, false] rfl rfl (take_ofW HT_.out HW_.out (by kernel_rfl)) (fun _ _ _ h => h) (Or.inl ⟨by rfl, ?_⟩) hHeld ?_ ?_
            rotate_left
            · rintro w' ⟨s0, s1, s2, s3, s4, s5, s6, s7, s8, s9, s10, s11⟩
              go_simp
              with_reducible rfl
            rotate_left
            · simp only [Act.put, List.setIfInBounds_toArray, List.set_cons_zero, List.set_cons_succ, i64_w, i32_w]
              rfl
            refine one_ (i := 2) (N := some 19) #[true, true, true, false, false, false, false, false, false, false, false, false, false, false, false, false, false, false, false, false, false, false, false, false, false, false, false] rfl rfl (one_of HT_.out (by kernel_rfl)) (by decide) (fun K hK => ?_)
            refine goes_ Try.func25 (by kernel_rfl) rfl #[.agg #[.int .i64 t546, .int .i64 t547, .int .i64 t548, .int .i64 t549], .agg #[.int .i64 a1_0, .int .i64 a1_1, .int .i64 a1_2, .int .i64 a1_3]] (by rfl) rfl rfl (by (try simp only [List.map_toArray, List.map_cons, List.map_nil]); first | done | rfl | (simp only [List.length_drop, List.length_take]; rfl)) ?_
            with_reducible refine (rect_Within.calls t546 t547 t548 t549 a1_0 a1_1 a1_2 a1_3 true _ A20.out).mono ?_
            rintro e w32 ⟨rfl, hb⟩
            refine ⟨_, rfl, ?_⟩
            have n0_ := Aside0.mk (blk_below (g := gb543) (o := .cells #[.int .i64 a0_0, .int .i64 a0_1, .int .i64 a0_2, .int .i64 a0_3] 26 (0, 0)) (by (with_reducible repeat (first | refine blk_drewN ?_ _ | refine blk_drew ?_ | refine blk_alloc ?_ _)); exact BK543.out) hb)
            have n1_ := Aside0.mk (blk_below (g := gb544) (o := .cells #[.int .i64 a1_0, .int .i64 a1_1, .int .i64 a1_2, .int .i64 a1_3] 26 (0, 0)) (by (with_reducible repeat (first | refine blk_drewN ?_ _ | refine blk_drew ?_ | refine blk_alloc ?_ _)); exact BK544.out) hb)
            have n2_ := Aside0.mk (blk_below (g := gb550) (o := .cells #[.int .i64 t546, .int .i64 t547, .int .i64 t548, .int .i64 t549] 26 (0, 0)) (by (with_reducible repeat (first | refine blk_drewN ?_ _ | refine blk_drew ?_ | refine blk_alloc ?_ _)); exact BK550.out) hb)
            have n3_ := Aside0.mk (below_step (by repeat (first | (with_reducible first | exact HB.out | apply below_alloc | apply pw_below_drewN | apply below_drew1 | refine below_set ?_ GE543.out | refine below_set ?_ GE544.out | refine below_set ?_ GE550.out) | exact HB.out)) hb)
            clear BK543
            clear BK544
            clear BK550
            clear HB
            have BK543 := n0_
            have BK544 := n1_
            have BK550 := n2_
            have HB := n3_
            clear n0_ n1_ n2_ n3_
            (try clear hb)
            (try clear hb2)
            (try clear hk)
            (try clear hi)
            refine hK.out _ _ ⟨(blk_cell BK550.out 0).trans rfl, (blk_cell BK550.out 1).trans rfl, (blk_cell BK550.out 2).trans rfl, (blk_cell BK550.out 3).trans rfl, (blk_cell BK544.out 0).trans rfl, (blk_cell BK544.out 1).trans rfl, (blk_cell BK544.out 2).trans rfl, (blk_cell BK544.out 3).trans rfl, (blk_cell BK543.out 0).trans rfl, (blk_cell BK543.out 1).trans rfl, (blk_cell BK543.out 2).trans rfl, (blk_cell BK543.out 3).trans rfl⟩ (fun hHeld => ?_)
            clear hK K
            refine norm_ (a' := ?_) ?_ ?_
            rotate_left
            · show Act.put _ (some 19) _ = _
              simp only [Act.put, List.setIfInBounds_toArray, List.set_cons_zero, List.set_cons_succ, i64_w, i32_w]
              rfl
            refine pure_ (i := 3) (N := some 20) (v := ?_) (a' := ?_) #[true, true, true, true, false, false, false, false, false, false, false, false, false, false, false, false, false, false, false, false, false, false, false, false, false, false, false] rfl rfl (any_of HT_.out (by kernel_rfl)) (fun _ _ _ h => h) (Or.inl ⟨by rfl, ?_⟩) ?_ ?_
            rotate_left
            · intro w'
              go_simp
              with_reducible rfl
            rotate_left
            · simp only [Act.put, List.setIfInBounds_toArray, List.set_cons_zero, List.set_cons_succ, i64_w, i32_w]
              rfl
            refine pure_ (i := 4) (N := some 21) (v := ?_) (a' := ?_) #[true, true, true, true, true, false, false, false, false, false, false, false, false, false, false, false, false, false, false, false, false, false, false, false, false, false, false] rfl rfl (any_of HT_.out (by kernel_rfl)) (fun _ _ _ h => h) (Or.inl ⟨by rfl, ?_⟩) ?_ ?_
            rotate_left
            · intro w'
              go_simp
              with_reducible rfl
            rotate_left
            · simp only [Act.put, List.setIfInBounds_toArray, List.set_cons_zero, List.set_cons_succ, i64_w, i32_w]
              rfl
            refine pure_ (i := 5) (N := some 22) (v := ?_) (a' := ?_) #[true, true, true, true, true, true, false, false, false, false, false, false, false, false, false, false, false, false, false, false, false, false, false, false, false, false, false] rfl rfl (any_of HT_.out (by kernel_rfl)) (fun _ _ _ h => h) (Or.inl ⟨by rfl, ?_⟩) ?_ ?_
            rotate_left
            · intro w'
              go_simp
              with_reducible rfl
            rotate_left
            · simp only [Act.put, List.setIfInBounds_toArray, List.set_cons_zero, List.set_cons_succ, i64_w, i32_w]
              rfl
            refine take_ (i := 6) (N := some 23) (v := ?_) (a' := ?_) #[true, true, true, true, true, true, true, false, false, false, false, false, false, false, false, false, false, false, false, false, false, false, false, false, false, false, false] rfl rfl (take_ofW HT_.out HW_.out (by kernel_rfl)) (fun _ _ _ h => h) (Or.inl ⟨by rfl, ?_⟩) hHeld ?_ ?_
            rotate_left
            · rintro w' ⟨s0, s1, s2, s3, s4, s5, s6, s7, s8, s9, s10, s11⟩
              go_simp
              with_reducible rfl
            rotate_left
            · simp only [Act.put, List.setIfInBounds_toArray, List.set_cons_zero, List.set_cons_succ, i64_w, i32_w]
              rfl
            refine take_ (i := 7) (N := some 24) (v := ?_) (a' := ?_) #[true, true, true, true, true, true, true, true, false, false, false, false, false, false, false, false, false, false, false, false, false, false, false, false, false, false, false] rfl rfl (take_ofW HT_.out HW_.out (by kernel_rfl)) (fun _ _ _ h => h) (Or.inl ⟨by rfl, ?_⟩) hHeld ?_ ?_
            rotate_left
            · rintro w' ⟨s0, s1, s2, s3, s4, s5, s6, s7, s8, s9, s10, s11⟩
              go_simp
              with_reducible rfl
            rotate_left
            · simp only [Act.put, List.setIfInBounds_toArray, List.set_cons_zero, List.set_cons_succ, i64_w, i32_w]
              rfl
            refine one_ (i := 8) (N := some 25) #[true, true, true, true, true, true, true, true, true, false, false, false, false, false, false, false, false, false, false, false, false, false, false, false, false, false, false] rfl rfl (one_of HT_.out (by kernel_rfl)) (by decide) (fun K hK => ?_)
            refine goes_ Try.func20 (by kernel_rfl) rfl #[.agg #[.int .i64 a0_0, .int .i64 a0_1, .int .i64 a0_2, .int .i64 a0_3]] (by rfl) rfl rfl (by (try simp only [List.map_toArray, List.map_cons, List.map_nil]); first | done | rfl | (simp only [List.length_drop, List.length_take]; rfl)) ?_
            with_reducible refine (rect_Clean.calls a0_0 a0_1 a0_2 a0_3 t552 t553 t554 t555 _ A22.out).mono ?_
            rintro e w33 ⟨rfl, hb⟩
            refine ⟨_, rfl, ?_⟩
            have n0_ := Aside0.mk (blk_below (g := gb543) (o := .cells #[.int .i64 a0_0, .int .i64 a0_1, .int .i64 a0_2, .int .i64 a0_3] 26 (0, 0)) (by (with_reducible repeat (first | refine blk_drewN ?_ _ | refine blk_drew ?_ | refine blk_alloc ?_ _)); exact BK543.out) hb)
            have n1_ := Aside0.mk (blk_below (g := gb544) (o := .cells #[.int .i64 a1_0, .int .i64 a1_1, .int .i64 a1_2, .int .i64 a1_3] 26 (0, 0)) (by (with_reducible repeat (first | refine blk_drewN ?_ _ | refine blk_drew ?_ | refine blk_alloc ?_ _)); exact BK544.out) hb)
            have n2_ := Aside0.mk (blk_below (g := gb550) (o := .cells #[.int .i64 t546, .int .i64 t547, .int .i64 t548, .int .i64 t549] 26 (0, 0)) (by (with_reducible repeat (first | refine blk_drewN ?_ _ | refine blk_drew ?_ | refine blk_alloc ?_ _)); exact BK550.out) hb)
            have n3_ := Aside0.mk (below_step (by repeat (first | (with_reducible first | exact HB.out | apply below_alloc | apply pw_below_drewN | apply below_drew1 | refine below_set ?_ GE543.out | refine below_set ?_ GE544.out | refine below_set ?_ GE550.out) | exact HB.out)) hb)
            clear BK543
            clear BK544
            clear BK550
            clear HB
            have BK543 := n0_
            have BK544 := n1_
            have BK550 := n2_
            have HB := n3_
            clear n0_ n1_ n2_ n3_
            (try clear hb)
            (try clear hb2)
            (try clear hk)
            (try clear hi)
            refine hK.out _ _ ⟨(blk_cell BK550.out 0).trans rfl, (blk_cell BK550.out 1).trans rfl, (blk_cell BK550.out 2).trans rfl, (blk_cell BK550.out 3).trans rfl, (blk_cell BK544.out 0).trans rfl, (blk_cell BK544.out 1).trans rfl, (blk_cell BK544.out 2).trans rfl, (blk_cell BK544.out 3).trans rfl, (blk_cell BK543.out 0).trans rfl, (blk_cell BK543.out 1).trans rfl, (blk_cell BK543.out 2).trans rfl, (blk_cell BK543.out 3).trans rfl⟩ (fun hHeld => ?_)
            clear hK K
            refine norm_ (a' := ?_) ?_ ?_
            rotate_left
            · show Act.put _ (some 25) _ = _
              simp only [Act.put, List.setIfInBounds_toArray, List.set_cons_zero, List.set_cons_succ, i64_w, i32_w]
              rfl
            refine pure_ (i := 9) (N := some 26) (v := ?_) (a' := ?_) #[true, true, true, true, true, true, true, true, true, true, false, false, false, false, false, false, false, false, false, false, false, false, false, false, false, false, false] rfl rfl (any_of HT_.out (by kernel_rfl)) (fun _ _ _ h => h) (Or.inl ⟨by rfl, ?_⟩) ?_ ?_
            rotate_left
            · intro w'
              go_simp
              with_reducible rfl
            rotate_left
            · simp only [Act.put, List.setIfInBounds_toArray, List.set_cons_zero, List.set_cons_succ, i64_w, i32_w]
              rfl
            refine pure_ (i := 10) (N := some 27) (v := ?_) (a' := ?_) #[true, true, true, true, true, true, true, true, true, true, true, false, false, false, false, false, false, false, false, false, false, false, false, false, false, false, false] rfl rfl (any_of HT_.out (by kernel_rfl)) (fun _ _ _ h => h) (Or.inl ⟨by rfl, ?_⟩) ?_ ?_
            rotate_left
            · intro w'
              go_simp
              with_reducible rfl
            rotate_left
            · simp only [Act.put, List.setIfInBounds_toArray, List.set_cons_zero, List.set_cons_succ, i64_w, i32_w]
              rfl
            refine pure_ (i := 11) (N := some 28) (v := ?_) (a' := ?_) #[true, true, true, true, true, true, true, true, true, true, true, true, false, false, false, false, false, false, false, false, false, false, false, false, false, false, false] rfl rfl (any_of HT_.out (by kernel_rfl)) (fun _ _ _ h => h) (Or.inl ⟨by rfl, ?_⟩) ?_ ?_
            rotate_left
            · intro w'
              go_simp
              with_reducible rfl
            rotate_left
            · simp only [Act.put, List.setIfInBounds_toArray, List.set_cons_zero, List.set_cons_succ, i64_w, i32_w]
              rfl
            refine pure_ (i := 12) (N := some 29) (v := ?_) (a' := ?_) #[true, true, true, true, true, true, true, true, true, true, true, true, true, false, false, false, false, false, false, false, false, false, false, false, false, false, false] rfl rfl (any_of HT_.out (by kernel_rfl)) (fun _ _ _ h => h) (Or.inl ⟨by rfl, ?_⟩) ?_ ?_
            rotate_left
            · intro w'
              go_simp
              with_reducible rfl
            rotate_left
            · simp only [Act.put, List.setIfInBounds_toArray, List.set_cons_zero, List.set_cons_succ, i64_w, i32_w]
              rfl
            refine pure_ (i := 13) (N := some 30) (v := ?_) (a' := ?_) #[true, true, true, true, true, true, true, true, true, true, true, true, true, true, false, false, false, false, false, false, false, false, false, false, false, false, false] rfl rfl (any_of HT_.out (by kernel_rfl)) (fun _ _ _ h => h) (Or.inl ⟨by rfl, ?_⟩) ?_ ?_
            rotate_left
            · intro w'
              go_simp
              with_reducible rfl
            rotate_left
            · simp only [Act.put, List.setIfInBounds_toArray, List.set_cons_zero, List.set_cons_succ, i64_w, i32_w]
              rfl
            refine take_ (i := 14) (N := some 31) (v := ?_) (a' := ?_) #[true, true, true, true, true, true, true, true, true, true, true, true, true, true, true, false, false, false, false, false, false, false, false, false, false, false, false] rfl rfl (take_ofW HT_.out HW_.out (by kernel_rfl)) (fun _ _ _ h => h) (Or.inl ⟨by rfl, ?_⟩) hHeld ?_ ?_
            rotate_left
            · rintro w' ⟨s0, s1, s2, s3, s4, s5, s6, s7, s8, s9, s10, s11⟩
              go_simp
              with_reducible rfl
            rotate_left
            · simp only [Act.put, List.setIfInBounds_toArray, List.set_cons_zero, List.set_cons_succ, i64_w, i32_w]
              rfl
            refine take_ (i := 15) (N := some 32) (v := ?_) (a' := ?_) #[true, true, true, true, true, true, true, true, true, true, true, true, true, true, true, true, false, false, false, false, false, false, false, false, false, false, false] rfl rfl (take_ofW HT_.out HW_.out (by kernel_rfl)) (fun _ _ _ h => h) (Or.inl ⟨by rfl, ?_⟩) hHeld ?_ ?_
            rotate_left
            · rintro w' ⟨s0, s1, s2, s3, s4, s5, s6, s7, s8, s9, s10, s11⟩
              go_simp
              with_reducible rfl
            rotate_left
            · simp only [Act.put, List.setIfInBounds_toArray, List.set_cons_zero, List.set_cons_succ, i64_w, i32_w]
              rfl
            refine one_ (i := 16) (N := some 33) #[true, true, true, true, true, true, true, true, true, true, true, true, true, true, true, true, true, false, false, false, false, false, false, false, false, false, false] rfl rfl (one_of HT_.out (by kernel_rfl)) (by decide) (fun K hK => ?_)
            refine goes_ Try.func20 (by kernel_rfl) rfl #[.agg #[.int .i64 a0_0, .int .i64 a0_1, .int .i64 a0_2, .int .i64 a0_3]] (by rfl) rfl rfl (by (try simp only [List.map_toArray, List.map_cons, List.map_nil]); first | done | rfl | (simp only [List.length_drop, List.length_take]; rfl)) ?_
            with_reducible refine (rect_Clean.calls a0_0 a0_1 a0_2 a0_3 t556 t557 t558 t559 _ A28.out).mono ?_
            rintro e w34 ⟨rfl, hb⟩
            refine ⟨_, rfl, ?_⟩
            have n0_ := Aside0.mk (blk_below (g := gb543) (o := .cells #[.int .i64 a0_0, .int .i64 a0_1, .int .i64 a0_2, .int .i64 a0_3] 26 (0, 0)) (by (with_reducible repeat (first | refine blk_drewN ?_ _ | refine blk_drew ?_ | refine blk_alloc ?_ _)); exact BK543.out) hb)
            have n1_ := Aside0.mk (blk_below (g := gb544) (o := .cells #[.int .i64 a1_0, .int .i64 a1_1, .int .i64 a1_2, .int .i64 a1_3] 26 (0, 0)) (by (with_reducible repeat (first | refine blk_drewN ?_ _ | refine blk_drew ?_ | refine blk_alloc ?_ _)); exact BK544.out) hb)
            have n2_ := Aside0.mk (blk_below (g := gb550) (o := .cells #[.int .i64 t546, .int .i64 t547, .int .i64 t548, .int .i64 t549] 26 (0, 0)) (by (with_reducible repeat (first | refine blk_drewN ?_ _ | refine blk_drew ?_ | refine blk_alloc ?_ _)); exact BK550.out) hb)
            have n3_ := Aside0.mk (below_step (by repeat (first | (with_reducible first | exact HB.out | apply below_alloc | apply pw_below_drewN | apply below_drew1 | refine below_set ?_ GE543.out | refine below_set ?_ GE544.out | refine below_set ?_ GE550.out) | exact HB.out)) hb)
            clear BK543
            clear BK544
            clear BK550
            clear HB
            have BK543 := n0_
            have BK544 := n1_
            have BK550 := n2_
            have HB := n3_
            clear n0_ n1_ n2_ n3_
            (try clear hb)
            (try clear hb2)
            (try clear hk)
            (try clear hi)
            refine hK.out _ _ ⟨(blk_cell BK550.out 0).trans rfl, (blk_cell BK550.out 1).trans rfl, (blk_cell BK550.out 2).trans rfl, (blk_cell BK550.out 3).trans rfl, (blk_cell BK544.out 0).trans rfl, (blk_cell BK544.out 1).trans rfl, (blk_cell BK544.out 2).trans rfl, (blk_cell BK544.out 3).trans rfl, (blk_cell BK543.out 0).trans rfl, (blk_cell BK543.out 1).trans rfl, (blk_cell BK543.out 2).trans rfl, (blk_cell BK543.out 3).trans rfl⟩ (fun hHeld => ?_)
            clear hK K
            refine norm_ (a' := ?_) ?_ ?_
            rotate_left
            · show Act.put _ (some 33) _ = _
              simp only [Act.put, List.setIfInBounds_toArray, List.set_cons_zero, List.set_cons_succ, i64_w, i32_w]
              rfl
            refine pure_ (i := 17) (N := some 34) (v := ?_) (a' := ?_) #[true, true, true, true, true, true, true, true, true, true, true, true, true, true, true, true, true, true, false, false, false, false, false, false, false, false, false] rfl rfl (any_of HT_.out (by kernel_rfl)) (fun _ _ _ h => h) (Or.inl ⟨by rfl, ?_⟩) ?_ ?_
            rotate_left
            · intro w'
              go_simp
              with_reducible rfl
            rotate_left
            · simp only [Act.put, List.setIfInBounds_toArray, List.set_cons_zero, List.set_cons_succ, i64_w, i32_w]
              rfl
            refine pure_ (i := 18) (N := some 35) (v := ?_) (a' := ?_) #[true, true, true, true, true, true, true, true, true, true, true, true, true, true, true, true, true, true, true, false, false, false, false, false, false, false, false] rfl rfl (any_of HT_.out (by kernel_rfl)) (fun _ _ _ h => h) (Or.inl ⟨by rfl, ?_⟩) ?_ ?_
            rotate_left
            · intro w'
              go_simp
              with_reducible rfl
            rotate_left
            · simp only [Act.put, List.setIfInBounds_toArray, List.set_cons_zero, List.set_cons_succ, i64_w, i32_w]
              rfl
            refine pure_ (i := 19) (N := some 36) (v := ?_) (a' := ?_) #[true, true, true, true, true, true, true, true, true, true, true, true, true, true, true, true, true, true, true, true, false, false, false, false, false, false, false] rfl rfl (any_of HT_.out (by kernel_rfl)) (fun _ _ _ h => h) (Or.inl ⟨by rfl, ?_⟩) ?_ ?_
            rotate_left
            · intro w'
              go_simp
              with_reducible rfl
            rotate_left
            · simp only [Act.put, List.setIfInBounds_toArray, List.set_cons_zero, List.set_cons_succ, i64_w, i32_w]
              rfl
            refine pure_ (i := 20) (N := some 37) (v := ?_) (a' := ?_) #[true, true, true, true, true, true, true, true, true, true, true, true, true, true, true, true, true, true, true, true, true, false, false, false, false, false, false] rfl rfl (any_of HT_.out (by kernel_rfl)) (fun _ _ _ h => h) (Or.inl ⟨by rfl, ?_⟩) ?_ ?_
            rotate_left
            · intro w'
              go_simp
              with_reducible rfl
            rotate_left
            · simp only [Act.put, List.setIfInBounds_toArray, List.set_cons_zero, List.set_cons_succ, i64_w, i32_w]
              rfl
            refine pure_ (i := 21) (N := some 38) (v := undef) (a' := ?_) #[true, true, true, true, true, true, true, true, true, true, true, true, true, true, true, true, true, true, true, true, true, true, false, false, false, false, false] rfl rfl (any_of HT_.out (by kernel_rfl)) (fun _ _ _ h => h) (Or.inr ⟨by rfl, rfl⟩) ?_ ?_
            rotate_left
            · simp only [Act.put, List.setIfInBounds_toArray, List.set_cons_zero, List.set_cons_succ, i64_w, i32_w]
              rfl
            refine pure_ (i := 22) (N := some 39) (v := undef) (a' := ?_) #[true, true, true, true, true, true, true, true, true, true, true, true, true, true, true, true, true, true, true, true, true, true, true, false, false, false, false] rfl rfl (any_of HT_.out (by kernel_rfl)) (fun _ _ _ h => h) (Or.inr ⟨by rfl, rfl⟩) ?_ ?_
            rotate_left
            · simp only [Act.put, List.setIfInBounds_toArray, List.set_cons_zero, List.set_cons_succ, i64_w, i32_w]
              rfl
            refine pure_ (i := 23) (N := some 40) (v := undef) (a' := ?_) #[true, true, true, true, true, true, true, true, true, true, true, true, true, true, true, true, true, true, true, true, true, true, true, true, false, false, false] rfl rfl (any_of HT_.out (by kernel_rfl)) (fun _ _ _ h => h) (Or.inr ⟨by rfl, rfl⟩) ?_ ?_
            rotate_left
            · simp only [Act.put, List.setIfInBounds_toArray, List.set_cons_zero, List.set_cons_succ, i64_w, i32_w]
              rfl
            refine pure_ (i := 24) (N := some 41) (v := undef) (a' := ?_) #[true, true, true, true, true, true, true, true, true, true, true, true, true, true, true, true, true, true, true, true, true, true, true, true, true, false, false] rfl rfl (any_of HT_.out (by kernel_rfl)) (fun _ _ _ h => h) (Or.inr ⟨by rfl, rfl⟩) ?_ ?_
            rotate_left
            · simp only [Act.put, List.setIfInBounds_toArray, List.set_cons_zero, List.set_cons_succ, i64_w, i32_w]
              rfl
            refine pure_ (i := 25) (N := some 42) (v := undef) (a' := ?_) #[true, true, true, true, true, true, true, true, true, true, true, true, true, true, true, true, true, true, true, true, true, true, true, true, true, true, false] rfl rfl (any_of HT_.out (by kernel_rfl)) (fun _ _ _ h => h) (Or.inr ⟨by rfl, rfl⟩) ?_ ?_
            rotate_left
            · simp only [Act.put, List.setIfInBounds_toArray, List.set_cons_zero, List.set_cons_succ, i64_w, i32_w]
              rfl
            refine pure_ (i := 26) (N := some 43) (v := ?_) (a' := ?_) #[true, true, true, true, true, true, true, true, true, true, true, true, true, true, true, true, true, true, true, true, true, true, true, true, true, true, true] rfl rfl (any_of HT_.out (by kernel_rfl)) (fun _ _ _ h => h) (Or.inl ⟨by rfl, ?_⟩) ?_ ?_
            rotate_left
            · intro w'
              go_simp
              with_reducible rfl
            rotate_left
            · simp only [Act.put, List.setIfInBounds_toArray, List.set_cons_zero, List.set_cons_succ, i64_w, i32_w]
              rfl
            refine done_ (done_of HT_.out (by kernel_rfl)) ?_
            try go_wp2
            go_meet
            case rel => exact ⟨_, (true), (by first | rfl | (simp; done) | (simp [*]; done)), H', ⟨by first | omega | exact Nat.le_refl _⟩, ⟨by (with_reducible repeat (first | refine blk_drewN ?_ _ | refine blk_drew ?_ | refine blk_alloc ?_ _)); exact BK543.out⟩, ⟨by (with_reducible repeat (first | refine blk_drewN ?_ _ | refine blk_drew ?_ | refine blk_alloc ?_ _)); exact BK544.out⟩, ⟨by (with_reducible repeat (first | refine blk_drewN ?_ _ | refine blk_drew ?_ | refine blk_alloc ?_ _)); exact BK550.out⟩, ⟨by repeat (first | (with_reducible first | exact HB.out | apply below_alloc | apply pw_below_drewN | apply below_drew1 | refine below_set ?_ GE543.out | refine below_set ?_ GE544.out | refine below_set ?_ GE550.out) | exact HB.out)⟩⟩
          · rw [if_neg c29] at H
            have c29b0 : decide (t559 < t549) = false := decide_eq_false c29
            clear c29
            replace H := Option.bind_eq_some_iff.mp H
            obtain ⟨⟨t560, t561, t562, t563⟩, A350, H⟩ := H
            replace H : (casementlaw02_RectInto.j0 k a2 a3 (!(t560 == t546) || (!(t561 == t547) || (!(t562 == t548) || (!(t563 == t549))))) a0_0 a0_1 a0_2 a0_3 a1_0 a1_1 a1_2 a1_3 t546 t547 t548 t549) = some r := H
            have A35 := Aside0.mk A350
            clear A350
            have H' := Aside0.mk H
            clear H
            try go_wp2
            have n0_ : Aside0 (((((w16.setCell ⟨gb550, 0, none⟩ (.int .i64 t546)).setCell ⟨gb550, 1, none⟩ (.int .i64 t547)).setCell ⟨gb550, 2, none⟩ (.int .i64 t548)).setCell ⟨gb550, 3, none⟩ (.int .i64 t549)).heap[gb543]? = some (.cells #[.int .i64 a0_0, .int .i64 a0_1, .int .i64 a0_2, .int .i64 a0_3] 26 (0, 0))) := ⟨by (with_reducible repeat (first | refine blk_drewN ?_ _ | refine blk_drew ?_ | refine blk_alloc ?_ _)); refine blk_far ?_ NB543_550.out _; (with_reducible repeat (first | refine blk_drewN ?_ _ | refine blk_drew ?_ | refine blk_alloc ?_ _)); refine blk_far ?_ NB543_550.out _; (with_reducible repeat (first | refine blk_drewN ?_ _ | refine blk_drew ?_ | refine blk_alloc ?_ _)); refine blk_far ?_ NB543_550.out _; (with_reducible repeat (first | refine blk_drewN ?_ _ | refine blk_drew ?_ | refine blk_alloc ?_ _)); refine blk_far ?_ NB543_550.out _; (with_reducible repeat (first | refine blk_drewN ?_ _ | refine blk_drew ?_ | refine blk_alloc ?_ _)); exact BK543.out⟩
            have n1_ : Aside0 (((((w16.setCell ⟨gb550, 0, none⟩ (.int .i64 t546)).setCell ⟨gb550, 1, none⟩ (.int .i64 t547)).setCell ⟨gb550, 2, none⟩ (.int .i64 t548)).setCell ⟨gb550, 3, none⟩ (.int .i64 t549)).heap[gb544]? = some (.cells #[.int .i64 a1_0, .int .i64 a1_1, .int .i64 a1_2, .int .i64 a1_3] 26 (0, 0))) := ⟨by (with_reducible repeat (first | refine blk_drewN ?_ _ | refine blk_drew ?_ | refine blk_alloc ?_ _)); refine blk_far ?_ NB544_550.out _; (with_reducible repeat (first | refine blk_drewN ?_ _ | refine blk_drew ?_ | refine blk_alloc ?_ _)); refine blk_far ?_ NB544_550.out _; (with_reducible repeat (first | refine blk_drewN ?_ _ | refine blk_drew ?_ | refine blk_alloc ?_ _)); refine blk_far ?_ NB544_550.out _; (with_reducible repeat (first | refine blk_drewN ?_ _ | refine blk_drew ?_ | refine blk_alloc ?_ _)); refine blk_far ?_ NB544_550.out _; (with_reducible repeat (first | refine blk_drewN ?_ _ | refine blk_drew ?_ | refine blk_alloc ?_ _)); exact BK544.out⟩
            have n2_ : Aside0 (((((w16.setCell ⟨gb550, 0, none⟩ (.int .i64 t546)).setCell ⟨gb550, 1, none⟩ (.int .i64 t547)).setCell ⟨gb550, 2, none⟩ (.int .i64 t548)).setCell ⟨gb550, 3, none⟩ (.int .i64 t549)).heap[gb550]? = some (.cells #[.int .i64 t546, .int .i64 t547, .int .i64 t548, .int .i64 t549] 26 (0, 0))) := ⟨by (with_reducible repeat (first | refine blk_drewN ?_ _ | refine blk_drew ?_ | refine blk_alloc ?_ _)); refine blk_put (cs := #[.int .i64 t546, .int .i64 t547, .int .i64 t548, .int .i64 0]) ?_ 3 _ rfl; (with_reducible repeat (first | refine blk_drewN ?_ _ | refine blk_drew ?_ | refine blk_alloc ?_ _)); refine blk_put (cs := #[.int .i64 t546, .int .i64 t547, .int .i64 0, .int .i64 0]) ?_ 2 _ rfl; (with_reducible repeat (first | refine blk_drewN ?_ _ | refine blk_drew ?_ | refine blk_alloc ?_ _)); refine blk_put (cs := #[.int .i64 t546, .int .i64 0, .int .i64 0, .int .i64 0]) ?_ 1 _ rfl; (with_reducible repeat (first | refine blk_drewN ?_ _ | refine blk_drew ?_ | refine blk_alloc ?_ _)); refine blk_put (cs := #[.int .i64 0, .int .i64 0, .int .i64 0, .int .i64 0]) ?_ 0 _ rfl; (with_reducible repeat (first | refine blk_drewN ?_ _ | refine blk_drew ?_ | refine blk_alloc ?_ _)); exact BK550.out⟩
            have n3_ : Aside0 (Below w.heap.size w ((((w16.setCell ⟨gb550, 0, none⟩ (.int .i64 t546)).setCell ⟨gb550, 1, none⟩ (.int .i64 t547)).setCell ⟨gb550, 2, none⟩ (.int .i64 t548)).setCell ⟨gb550, 3, none⟩ (.int .i64 t549))) := ⟨by repeat (first | (with_reducible first | exact HB.out | apply below_alloc | apply pw_below_drewN | apply below_drew1 | refine below_set ?_ GE543.out | refine below_set ?_ GE544.out | refine below_set ?_ GE550.out) | exact HB.out)⟩
            (try clear BK543)
            (try clear BK544)
            (try clear BK550)
            (try clear HB)
            generalize ((((w16.setCell ⟨gb550, 0, none⟩ (.int .i64 t546)).setCell ⟨gb550, 1, none⟩ (.int .i64 t547)).setCell ⟨gb550, 2, none⟩ (.int .i64 t548)).setCell ⟨gb550, 3, none⟩ (.int .i64 t549)) = w36 at n0_ n1_ n2_ n3_ ⊢
            have BK543 := n0_
            have BK544 := n1_
            have BK550 := n2_
            have HB := n3_
            clear n0_ n1_ n2_ n3_
            have n0_ := Aside0.mk (blk_drew BK543.out)
            have n1_ := Aside0.mk (blk_drew BK544.out)
            have n2_ := Aside0.mk (blk_drew BK550.out)
            have n3_ := Aside0.mk (below_drew1 HB.out)
            clear BK543
            clear BK544
            clear BK550
            clear HB
            have BK543 := n0_
            have BK544 := n1_
            have BK550 := n2_
            have HB := n3_
            clear n0_ n1_ n2_ n3_
            refine start_ (n := 27) (S := fun w' => w'.cell? ⟨gb550, 0, none⟩ = some (.int .i64 t546) ∧ w'.cell? ⟨gb550, 1, none⟩ = some (.int .i64 t547) ∧ w'.cell? ⟨gb550, 2, none⟩ = some (.int .i64 t548) ∧ w'.cell? ⟨gb550, 3, none⟩ = some (.int .i64 t549) ∧ w'.cell? ⟨gb544, 0, none⟩ = some (.int .i64 a1_0) ∧ w'.cell? ⟨gb544, 1, none⟩ = some (.int .i64 a1_1) ∧ w'.cell? ⟨gb544, 2, none⟩ = some (.int .i64 a1_2) ∧ w'.cell? ⟨gb544, 3, none⟩ = some (.int .i64 a1_3) ∧ w'.cell? ⟨gb543, 0, none⟩ = some (.int .i64 a0_0) ∧ w'.cell? ⟨gb543, 1, none⟩ = some (.int .i64 a0_1) ∧ w'.cell? ⟨gb543, 2, none⟩ = some (.int .i64 a0_2) ∧ w'.cell? ⟨gb543, 3, none⟩ = some (.int .i64 a0_3)) (ds := []) #[false, false, false, false, false, false, false, false, false, false, false, false, false, false, false, false, false, false, false, false, false, false, false, false, false, false, false] (by kernel_rfl) rfl rfl ⟨(blk_cell BK550.out 0).trans rfl, (blk_cell BK550.out 1).trans rfl, (blk_cell BK550.out 2).trans rfl, (blk_cell BK550.out 3).trans rfl, (blk_cell BK544.out 0).trans rfl, (blk_cell BK544.out 1).trans rfl, (blk_cell BK544.out 2).trans rfl, (blk_cell BK544.out 3).trans rfl, (blk_cell BK543.out 0).trans rfl, (blk_cell BK543.out 1).trans rfl, (blk_cell BK543.out 2).trans rfl, (blk_cell BK543.out 3).trans rfl⟩ (fun hHeld => ?_); refine with_tabW casementlaw02_RectInto.tab4 casementlaw02_RectInto.bits4 (fun HT_ HW_ => ?_)
            generalize w36.drew = w37 at BK543 BK544 BK550 HB hHeld ⊢
            refine take_ (i := 0) (N := some 17) (v := ?_) (a' := ?_) #[true, false, false, false, false, false, false, false, false, false, false, false, false, false, false, false, false, false, false, false, false, false, false, false, false, false, false] rfl rfl (take_ofW HT_.out HW_.out (by kernel_rfl)) (fun _ _ _ h => h) (Or.inl ⟨by rfl, ?_⟩) hHeld ?_ ?_
            rotate_left
            · rintro w' ⟨s0, s1, s2, s3, s4, s5, s6, s7, s8, s9, s10, s11⟩
              go_simp
              with_reducible rfl
            rotate_left
            · simp only [Act.put, List.setIfInBounds_toArray, List.set_cons_zero, List.set_cons_succ, i64_w, i32_w]
              rfl
            refine take_ (i := 1) (N := some 18) (v := ?_) (a' := ?_) #[true, true, false, false, false, false, false, false, false, false, false, false, false, false, false, false, false, false, false, false, false, false, false, false, false, false, false] rfl rfl (take_ofW HT_.out HW_.out (by kernel_rfl)) (fun _ _ _ h => h) (Or.inl ⟨by rfl, ?_⟩) hHeld ?_ ?_
            rotate_left
            · rintro w' ⟨s0, s1, s2, s3, s4, s5, s6, s7, s8, s9, s10, s11⟩
              go_simp
              with_reducible rfl
            rotate_left
            · simp only [Act.put, List.setIfInBounds_toArray, List.set_cons_zero, List.set_cons_succ, i64_w, i32_w]
              rfl
            refine one_ (i := 2) (N := some 19) #[true, true, true, false, false, false, false, false, false, false, false, false, false, false, false, false, false, false, false, false, false, false, false, false, false, false, false] rfl rfl (one_of HT_.out (by kernel_rfl)) (by decide) (fun K hK => ?_)
            refine goes_ Try.func25 (by kernel_rfl) rfl #[.agg #[.int .i64 t546, .int .i64 t547, .int .i64 t548, .int .i64 t549], .agg #[.int .i64 a1_0, .int .i64 a1_1, .int .i64 a1_2, .int .i64 a1_3]] (by rfl) rfl rfl (by (try simp only [List.map_toArray, List.map_cons, List.map_nil]); first | done | rfl | (simp only [List.length_drop, List.length_take]; rfl)) ?_
            with_reducible refine (rect_Within.calls t546 t547 t548 t549 a1_0 a1_1 a1_2 a1_3 true _ A20.out).mono ?_
            rintro e w38 ⟨rfl, hb⟩
            refine ⟨_, rfl, ?_⟩
            have n0_ := Aside0.mk (blk_below (g := gb543) (o := .cells #[.int .i64 a0_0, .int .i64 a0_1, .int .i64 a0_2, .int .i64 a0_3] 26 (0, 0)) (by (with_reducible repeat (first | refine blk_drewN ?_ _ | refine blk_drew ?_ | refine blk_alloc ?_ _)); exact BK543.out) hb)
            have n1_ := Aside0.mk (blk_below (g := gb544) (o := .cells #[.int .i64 a1_0, .int .i64 a1_1, .int .i64 a1_2, .int .i64 a1_3] 26 (0, 0)) (by (with_reducible repeat (first | refine blk_drewN ?_ _ | refine blk_drew ?_ | refine blk_alloc ?_ _)); exact BK544.out) hb)
            have n2_ := Aside0.mk (blk_below (g := gb550) (o := .cells #[.int .i64 t546, .int .i64 t547, .int .i64 t548, .int .i64 t549] 26 (0, 0)) (by (with_reducible repeat (first | refine blk_drewN ?_ _ | refine blk_drew ?_ | refine blk_alloc ?_ _)); exact BK550.out) hb)
            have n3_ := Aside0.mk (below_step (by repeat (first | (with_reducible first | exact HB.out | apply below_alloc | apply pw_below_drewN | apply below_drew1 | refine below_set ?_ GE543.out | refine below_set ?_ GE544.out | refine below_set ?_ GE550.out) | exact HB.out)) hb)
            clear BK543
            clear BK544
            clear BK550
            clear HB
            have BK543 := n0_
            have BK544 := n1_
            have BK550 := n2_
            have HB := n3_
            clear n0_ n1_ n2_ n3_
            (try clear hb)
            (try clear hb2)
            (try clear hk)
            (try clear hi)
            refine hK.out _ _ ⟨(blk_cell BK550.out 0).trans rfl, (blk_cell BK550.out 1).trans rfl, (blk_cell BK550.out 2).trans rfl, (blk_cell BK550.out 3).trans rfl, (blk_cell BK544.out 0).trans rfl, (blk_cell BK544.out 1).trans rfl, (blk_cell BK544.out 2).trans rfl, (blk_cell BK544.out 3).trans rfl, (blk_cell BK543.out 0).trans rfl, (blk_cell BK543.out 1).trans rfl, (blk_cell BK543.out 2).trans rfl, (blk_cell BK543.out 3).trans rfl⟩ (fun hHeld => ?_)
            clear hK K
            refine norm_ (a' := ?_) ?_ ?_
            rotate_left
            · show Act.put _ (some 19) _ = _
              simp only [Act.put, List.setIfInBounds_toArray, List.set_cons_zero, List.set_cons_succ, i64_w, i32_w]
              rfl
            refine pure_ (i := 3) (N := some 20) (v := ?_) (a' := ?_) #[true, true, true, true, false, false, false, false, false, false, false, false, false, false, false, false, false, false, false, false, false, false, false, false, false, false, false] rfl rfl (any_of HT_.out (by kernel_rfl)) (fun _ _ _ h => h) (Or.inl ⟨by rfl, ?_⟩) ?_ ?_
            rotate_left
            · intro w'
              go_simp
              with_reducible rfl
            rotate_left
            · simp only [Act.put, List.setIfInBounds_toArray, List.set_cons_zero, List.set_cons_succ, i64_w, i32_w]
              rfl
            refine pure_ (i := 4) (N := some 21) (v := ?_) (a' := ?_) #[true, true, true, true, true, false, false, false, false, false, false, false, false, false, false, false, false, false, false, false, false, false, false, false, false, false, false] rfl rfl (any_of HT_.out (by kernel_rfl)) (fun _ _ _ h => h) (Or.inl ⟨by rfl, ?_⟩) ?_ ?_
            rotate_left
            · intro w'
              go_simp
              with_reducible rfl
            rotate_left
            · simp only [Act.put, List.setIfInBounds_toArray, List.set_cons_zero, List.set_cons_succ, i64_w, i32_w]
              rfl
            refine pure_ (i := 5) (N := some 22) (v := ?_) (a' := ?_) #[true, true, true, true, true, true, false, false, false, false, false, false, false, false, false, false, false, false, false, false, false, false, false, false, false, false, false] rfl rfl (any_of HT_.out (by kernel_rfl)) (fun _ _ _ h => h) (Or.inl ⟨by rfl, ?_⟩) ?_ ?_
            rotate_left
            · intro w'
              go_simp
              with_reducible rfl
            rotate_left
            · simp only [Act.put, List.setIfInBounds_toArray, List.set_cons_zero, List.set_cons_succ, i64_w, i32_w]
              rfl
            refine take_ (i := 6) (N := some 23) (v := ?_) (a' := ?_) #[true, true, true, true, true, true, true, false, false, false, false, false, false, false, false, false, false, false, false, false, false, false, false, false, false, false, false] rfl rfl (take_ofW HT_.out HW_.out (by kernel_rfl)) (fun _ _ _ h => h) (Or.inl ⟨by rfl, ?_⟩) hHeld ?_ ?_
            rotate_left
            · rintro w' ⟨s0, s1, s2, s3, s4, s5, s6, s7, s8, s9, s10, s11⟩
              go_simp
              with_reducible rfl
            rotate_left
            · simp only [Act.put, List.setIfInBounds_toArray, List.set_cons_zero, List.set_cons_succ, i64_w, i32_w]
              rfl
            refine take_ (i := 7) (N := some 24) (v := ?_) (a' := ?_) #[true, true, true, true, true, true, true, true, false, false, false, false, false, false, false, false, false, false, false, false, false, false, false, false, false, false, false] rfl rfl (take_ofW HT_.out HW_.out (by kernel_rfl)) (fun _ _ _ h => h) (Or.inl ⟨by rfl, ?_⟩) hHeld ?_ ?_
            rotate_left
            · rintro w' ⟨s0, s1, s2, s3, s4, s5, s6, s7, s8, s9, s10, s11⟩
              go_simp
              with_reducible rfl
            rotate_left
            · simp only [Act.put, List.setIfInBounds_toArray, List.set_cons_zero, List.set_cons_succ, i64_w, i32_w]
              rfl
            refine one_ (i := 8) (N := some 25) #[true, true, true, true, true, true, true, true, true, false, false, false, false, false, false, false, false, false, false, false, false, false, false, false, false, false, false] rfl rfl (one_of HT_.out (by kernel_rfl)) (by decide) (fun K hK => ?_)
            refine goes_ Try.func20 (by kernel_rfl) rfl #[.agg #[.int .i64 a0_0, .int .i64 a0_1, .int .i64 a0_2, .int .i64 a0_3]] (by rfl) rfl rfl (by (try simp only [List.map_toArray, List.map_cons, List.map_nil]); first | done | rfl | (simp only [List.length_drop, List.length_take]; rfl)) ?_
            with_reducible refine (rect_Clean.calls a0_0 a0_1 a0_2 a0_3 t552 t553 t554 t555 _ A22.out).mono ?_
            rintro e w39 ⟨rfl, hb⟩
            refine ⟨_, rfl, ?_⟩
            have n0_ := Aside0.mk (blk_below (g := gb543) (o := .cells #[.int .i64 a0_0, .int .i64 a0_1, .int .i64 a0_2, .int .i64 a0_3] 26 (0, 0)) (by (with_reducible repeat (first | refine blk_drewN ?_ _ | refine blk_drew ?_ | refine blk_alloc ?_ _)); exact BK543.out) hb)
            have n1_ := Aside0.mk (blk_below (g := gb544) (o := .cells #[.int .i64 a1_0, .int .i64 a1_1, .int .i64 a1_2, .int .i64 a1_3] 26 (0, 0)) (by (with_reducible repeat (first | refine blk_drewN ?_ _ | refine blk_drew ?_ | refine blk_alloc ?_ _)); exact BK544.out) hb)
            have n2_ := Aside0.mk (blk_below (g := gb550) (o := .cells #[.int .i64 t546, .int .i64 t547, .int .i64 t548, .int .i64 t549] 26 (0, 0)) (by (with_reducible repeat (first | refine blk_drewN ?_ _ | refine blk_drew ?_ | refine blk_alloc ?_ _)); exact BK550.out) hb)
            have n3_ := Aside0.mk (below_step (by repeat (first | (with_reducible first | exact HB.out | apply below_alloc | apply pw_below_drewN | apply below_drew1 | refine below_set ?_ GE543.out | refine below_set ?_ GE544.out | refine below_set ?_ GE550.out) | exact HB.out)) hb)
            clear BK543
            clear BK544
            clear BK550
            clear HB
            have BK543 := n0_
            have BK544 := n1_
            have BK550 := n2_
            have HB := n3_
            clear n0_ n1_ n2_ n3_
            (try clear hb)
            (try clear hb2)
            (try clear hk)
            (try clear hi)
            refine hK.out _ _ ⟨(blk_cell BK550.out 0).trans rfl, (blk_cell BK550.out 1).trans rfl, (blk_cell BK550.out 2).trans rfl, (blk_cell BK550.out 3).trans rfl, (blk_cell BK544.out 0).trans rfl, (blk_cell BK544.out 1).trans rfl, (blk_cell BK544.out 2).trans rfl, (blk_cell BK544.out 3).trans rfl, (blk_cell BK543.out 0).trans rfl, (blk_cell BK543.out 1).trans rfl, (blk_cell BK543.out 2).trans rfl, (blk_cell BK543.out 3).trans rfl⟩ (fun hHeld => ?_)
            clear hK K
            refine norm_ (a' := ?_) ?_ ?_
            rotate_left
            · show Act.put _ (some 25) _ = _
              simp only [Act.put, List.setIfInBounds_toArray, List.set_cons_zero, List.set_cons_succ, i64_w, i32_w]
              rfl
            refine pure_ (i := 9) (N := some 26) (v := ?_) (a' := ?_) #[true, true, true, true, true, true, true, true, true, true, false, false, false, false, false, false, false, false, false, false, false, false, false, false, false, false, false] rfl rfl (any_of HT_.out (by kernel_rfl)) (fun _ _ _ h => h) (Or.inl ⟨by rfl, ?_⟩) ?_ ?_
            rotate_left
            · intro w'
              go_simp
              with_reducible rfl
            rotate_left
            · simp only [Act.put, List.setIfInBounds_toArray, List.set_cons_zero, List.set_cons_succ, i64_w, i32_w]
              rfl
            refine pure_ (i := 10) (N := some 27) (v := ?_) (a' := ?_) #[true, true, true, true, true, true, true, true, true, true, true, false, false, false, false, false, false, false, false, false, false, false, false, false, false, false, false] rfl rfl (any_of HT_.out (by kernel_rfl)) (fun _ _ _ h => h) (Or.inl ⟨by rfl, ?_⟩) ?_ ?_
            rotate_left
            · intro w'
              go_simp
              with_reducible rfl
            rotate_left
            · simp only [Act.put, List.setIfInBounds_toArray, List.set_cons_zero, List.set_cons_succ, i64_w, i32_w]
              rfl
            refine pure_ (i := 11) (N := some 28) (v := ?_) (a' := ?_) #[true, true, true, true, true, true, true, true, true, true, true, true, false, false, false, false, false, false, false, false, false, false, false, false, false, false, false] rfl rfl (any_of HT_.out (by kernel_rfl)) (fun _ _ _ h => h) (Or.inl ⟨by rfl, ?_⟩) ?_ ?_
            rotate_left
            · intro w'
              go_simp
              with_reducible rfl
            rotate_left
            · simp only [Act.put, List.setIfInBounds_toArray, List.set_cons_zero, List.set_cons_succ, i64_w, i32_w]
              rfl
            refine pure_ (i := 12) (N := some 29) (v := ?_) (a' := ?_) #[true, true, true, true, true, true, true, true, true, true, true, true, true, false, false, false, false, false, false, false, false, false, false, false, false, false, false] rfl rfl (any_of HT_.out (by kernel_rfl)) (fun _ _ _ h => h) (Or.inl ⟨by rfl, ?_⟩) ?_ ?_
            rotate_left
            · intro w'
              go_simp
              with_reducible rfl
            rotate_left
            · simp only [Act.put, List.setIfInBounds_toArray, List.set_cons_zero, List.set_cons_succ, i64_w, i32_w]
              rfl
            refine pure_ (i := 13) (N := some 30) (v := ?_) (a' := ?_) #[true, true, true, true, true, true, true, true, true, true, true, true, true, true, false, false, false, false, false, false, false, false, false, false, false, false, false] rfl rfl (any_of HT_.out (by kernel_rfl)) (fun _ _ _ h => h) (Or.inl ⟨by rfl, ?_⟩) ?_ ?_
            rotate_left
            · intro w'
              go_simp
              with_reducible rfl
            rotate_left
            · simp only [Act.put, List.setIfInBounds_toArray, List.set_cons_zero, List.set_cons_succ, i64_w, i32_w]
              rfl
            refine take_ (i := 14) (N := some 31) (v := ?_) (a' := ?_) #[true, true, true, true, true, true, true, true, true, true, true, true, true, true, true, false, false, false, false, false, false, false, false, false, false, false, false] rfl rfl (take_ofW HT_.out HW_.out (by kernel_rfl)) (fun _ _ _ h => h) (Or.inl ⟨by rfl, ?_⟩) hHeld ?_ ?_
            rotate_left
            · rintro w' ⟨s0, s1, s2, s3, s4, s5, s6, s7, s8, s9, s10, s11⟩
              go_simp
              with_reducible rfl
            rotate_left
            · simp only [Act.put, List.setIfInBounds_toArray, List.set_cons_zero, List.set_cons_succ, i64_w, i32_w]
              rfl
            refine take_ (i := 15) (N := some 32) (v := ?_) (a' := ?_) #[true, true, true, true, true, true, true, true, true, true, true, true, true, true, true, true, false, false, false, false, false, false, false, false, false, false, false] rfl rfl (take_ofW HT_.out HW_.out (by kernel_rfl)) (fun _ _ _ h => h) (Or.inl ⟨by rfl, ?_⟩) hHeld ?_ ?_
            rotate_left
            · rintro w' ⟨s0, s1, s2, s3, s4, s5, s6, s7, s8, s9, s10, s11⟩
              go_simp
              with_reducible rfl
            rotate_left
            · simp only [Act.put, List.setIfInBounds_toArray, List.set_cons_zero, List.set_cons_succ, i64_w, i32_w]
              rfl
            refine one_ (i := 16) (N := some 33) #[true, true, true, true, true, true, true, true, true, true, true, true, true, true, true, true, true, false, false, false, false, false, false, false, false, false, false] rfl rfl (one_of HT_.out (by kernel_rfl)) (by decide) (fun K hK => ?_)
            refine goes_ Try.func20 (by kernel_rfl) rfl #[.agg #[.int .i64 a0_0, .int .i64 a0_1, .int .i64 a0_2, .int .i64 a0_3]] (by rfl) rfl rfl (by (try simp only [List.map_toArray, List.map_cons, List.map_nil]); first | done | rfl | (simp only [List.length_drop, List.length_take]; rfl)) ?_
            with_reducible refine (rect_Clean.calls a0_0 a0_1 a0_2 a0_3 t556 t557 t558 t559 _ A28.out).mono ?_
            rintro e w40 ⟨rfl, hb⟩
            refine ⟨_, rfl, ?_⟩
            have n0_ := Aside0.mk (blk_below (g := gb543) (o := .cells #[.int .i64 a0_0, .int .i64 a0_1, .int .i64 a0_2, .int .i64 a0_3] 26 (0, 0)) (by (with_reducible repeat (first | refine blk_drewN ?_ _ | refine blk_drew ?_ | refine blk_alloc ?_ _)); exact BK543.out) hb)
            have n1_ := Aside0.mk (blk_below (g := gb544) (o := .cells #[.int .i64 a1_0, .int .i64 a1_1, .int .i64 a1_2, .int .i64 a1_3] 26 (0, 0)) (by (with_reducible repeat (first | refine blk_drewN ?_ _ | refine blk_drew ?_ | refine blk_alloc ?_ _)); exact BK544.out) hb)
            have n2_ := Aside0.mk (blk_below (g := gb550) (o := .cells #[.int .i64 t546, .int .i64 t547, .int .i64 t548, .int .i64 t549] 26 (0, 0)) (by (with_reducible repeat (first | refine blk_drewN ?_ _ | refine blk_drew ?_ | refine blk_alloc ?_ _)); exact BK550.out) hb)
            have n3_ := Aside0.mk (below_step (by repeat (first | (with_reducible first | exact HB.out | apply below_alloc | apply pw_below_drewN | apply below_drew1 | refine below_set ?_ GE543.out | refine below_set ?_ GE544.out | refine below_set ?_ GE550.out) | exact HB.out)) hb)
            clear BK543
            clear BK544
            clear BK550
            clear HB
            have BK543 := n0_
            have BK544 := n1_
            have BK550 := n2_
            have HB := n3_
            clear n0_ n1_ n2_ n3_
            (try clear hb)
            (try clear hb2)
            (try clear hk)
            (try clear hi)
            refine hK.out _ _ ⟨(blk_cell BK550.out 0).trans rfl, (blk_cell BK550.out 1).trans rfl, (blk_cell BK550.out 2).trans rfl, (blk_cell BK550.out 3).trans rfl, (blk_cell BK544.out 0).trans rfl, (blk_cell BK544.out 1).trans rfl, (blk_cell BK544.out 2).trans rfl, (blk_cell BK544.out 3).trans rfl, (blk_cell BK543.out 0).trans rfl, (blk_cell BK543.out 1).trans rfl, (blk_cell BK543.out 2).trans rfl, (blk_cell BK543.out 3).trans rfl⟩ (fun hHeld => ?_)
            clear hK K
            refine norm_ (a' := ?_) ?_ ?_
            rotate_left
            · show Act.put _ (some 33) _ = _
              simp only [Act.put, List.setIfInBounds_toArray, List.set_cons_zero, List.set_cons_succ, i64_w, i32_w]
              rfl
            refine pure_ (i := 17) (N := some 34) (v := ?_) (a' := ?_) #[true, true, true, true, true, true, true, true, true, true, true, true, true, true, true, true, true, true, false, false, false, false, false, false, false, false, false] rfl rfl (any_of HT_.out (by kernel_rfl)) (fun _ _ _ h => h) (Or.inl ⟨by rfl, ?_⟩) ?_ ?_
            rotate_left
            · intro w'
              go_simp
              with_reducible rfl
            rotate_left
            · simp only [Act.put, List.setIfInBounds_toArray, List.set_cons_zero, List.set_cons_succ, i64_w, i32_w]
              rfl
            refine pure_ (i := 18) (N := some 35) (v := ?_) (a' := ?_) #[true, true, true, true, true, true, true, true, true, true, true, true, true, true, true, true, true, true, true, false, false, false, false, false, false, false, false] rfl rfl (any_of HT_.out (by kernel_rfl)) (fun _ _ _ h => h) (Or.inl ⟨by rfl, ?_⟩) ?_ ?_
            rotate_left
            · intro w'
              go_simp
              with_reducible rfl
            rotate_left
            · simp only [Act.put, List.setIfInBounds_toArray, List.set_cons_zero, List.set_cons_succ, i64_w, i32_w]
              rfl
            refine pure_ (i := 19) (N := some 36) (v := ?_) (a' := ?_) #[true, true, true, true, true, true, true, true, true, true, true, true, true, true, true, true, true, true, true, true, false, false, false, false, false, false, false] rfl rfl (any_of HT_.out (by kernel_rfl)) (fun _ _ _ h => h) (Or.inl ⟨by rfl, ?_⟩) ?_ ?_
            rotate_left
            · intro w'
              go_simp
              with_reducible rfl
            rotate_left
            · simp only [Act.put, List.setIfInBounds_toArray, List.set_cons_zero, List.set_cons_succ, i64_w, i32_w]
              rfl
            refine pure_ (i := 20) (N := some 37) (v := ?_) (a' := ?_) #[true, true, true, true, true, true, true, true, true, true, true, true, true, true, true, true, true, true, true, true, true, false, false, false, false, false, false] rfl rfl (any_of HT_.out (by kernel_rfl)) (fun _ _ _ h => h) (Or.inl ⟨by rfl, ?_⟩) ?_ ?_
            rotate_left
            · intro w'
              go_simp
              with_reducible rfl
            rotate_left
            · simp only [Act.put, List.setIfInBounds_toArray, List.set_cons_zero, List.set_cons_succ, i64_w, i32_w]
              rfl
            refine take_ (i := 21) (N := some 38) (v := ?_) (a' := ?_) #[true, true, true, true, true, true, true, true, true, true, true, true, true, true, true, true, true, true, true, true, true, true, false, false, false, false, false] rfl rfl (take_ofW HT_.out HW_.out (by kernel_rfl)) (fun _ _ _ h => h) (Or.inl ⟨by rfl, ?_⟩) hHeld ?_ ?_
            rotate_left
            · rintro w' ⟨s0, s1, s2, s3, s4, s5, s6, s7, s8, s9, s10, s11⟩
              go_simp
              with_reducible rfl
            rotate_left
            · simp only [Act.put, List.setIfInBounds_toArray, List.set_cons_zero, List.set_cons_succ, i64_w, i32_w]
              rfl
            refine take_ (i := 22) (N := some 39) (v := ?_) (a' := ?_) #[true, true, true, true, true, true, true, true, true, true, true, true, true, true, true, true, true, true, true, true, true, true, true, false, false, false, false] rfl rfl (take_ofW HT_.out HW_.out (by kernel_rfl)) (fun _ _ _ h => h) (Or.inl ⟨by rfl, ?_⟩) hHeld ?_ ?_
            rotate_left
            · rintro w' ⟨s0, s1, s2, s3, s4, s5, s6, s7, s8, s9, s10, s11⟩
              go_simp
              with_reducible rfl
            rotate_left
            · simp only [Act.put, List.setIfInBounds_toArray, List.set_cons_zero, List.set_cons_succ, i64_w, i32_w]
              rfl
            refine take_ (i := 24) (N := some 41) (v := ?_) (a' := ?_) #[true, true, true, true, true, true, true, true, true, true, true, true, true, true, true, true, true, true, true, true, true, true, true, false, true, false, false] rfl rfl (take_ofW HT_.out HW_.out (by kernel_rfl)) (fun _ _ _ h => h) (Or.inl ⟨by rfl, ?_⟩) hHeld ?_ ?_
            rotate_left
            · rintro w' ⟨s0, s1, s2, s3, s4, s5, s6, s7, s8, s9, s10, s11⟩
              go_simp
              with_reducible rfl
            rotate_left
            · simp only [Act.put, List.setIfInBounds_toArray, List.set_cons_zero, List.set_cons_succ, i64_w, i32_w]
              rfl
            refine one_ (i := 23) (N := some 40) #[true, true, true, true, true, true, true, true, true, true, true, true, true, true, true, true, true, true, true, true, true, true, true, true, true, false, false] rfl rfl (one_of HT_.out (by kernel_rfl)) (by decide) (fun K hK => ?_)
            refine goes_ Try.func33 (by kernel_rfl) rfl #[.agg #[.int .i64 t546, .int .i64 t547, .int .i64 t548, .int .i64 t549], .agg #[.int .i64 a1_0, .int .i64 a1_1, .int .i64 a1_2, .int .i64 a1_3]] (by rfl) rfl rfl (by (try simp only [List.map_toArray, List.map_cons, List.map_nil]); first | done | rfl | (simp only [List.length_drop, List.length_take]; rfl)) ?_
            with_reducible refine (rect_Into.calls t546 t547 t548 t549 a1_0 a1_1 a1_2 a1_3 t560 t561 t562 t563 _ A35.out).mono ?_
            rintro e w41 ⟨rfl, hb⟩
            refine ⟨_, rfl, ?_⟩
            have n0_ := Aside0.mk (blk_below (g := gb543) (o := .cells #[.int .i64 a0_0, .int .i64 a0_1, .int .i64 a0_2, .int .i64 a0_3] 26 (0, 0)) (by (with_reducible repeat (first | refine blk_drewN ?_ _ | refine blk_drew ?_ | refine blk_alloc ?_ _)); exact BK543.out) hb)
            have n1_ := Aside0.mk (blk_below (g := gb544) (o := .cells #[.int .i64 a1_0, .int .i64 a1_1, .int .i64 a1_2, .int .i64 a1_3] 26 (0, 0)) (by (with_reducible repeat (first | refine blk_drewN ?_ _ | refine blk_drew ?_ | refine blk_alloc ?_ _)); exact BK544.out) hb)
            have n2_ := Aside0.mk (blk_below (g := gb550) (o := .cells #[.int .i64 t546, .int .i64 t547, .int .i64 t548, .int .i64 t549] 26 (0, 0)) (by (with_reducible repeat (first | refine blk_drewN ?_ _ | refine blk_drew ?_ | refine blk_alloc ?_ _)); exact BK550.out) hb)
            have n3_ := Aside0.mk (below_step (by repeat (first | (with_reducible first | exact HB.out | apply below_alloc | apply pw_below_drewN | apply below_drew1 | refine below_set ?_ GE543.out | refine below_set ?_ GE544.out | refine below_set ?_ GE550.out) | exact HB.out)) hb)
            clear BK543
            clear BK544
            clear BK550
            clear HB
            have BK543 := n0_
            have BK544 := n1_
            have BK550 := n2_
            have HB := n3_
            clear n0_ n1_ n2_ n3_
            (try clear hb)
            (try clear hb2)
            (try clear hk)
            (try clear hi)
            refine hK.out _ _ ⟨(blk_cell BK550.out 0).trans rfl, (blk_cell BK550.out 1).trans rfl, (blk_cell BK550.out 2).trans rfl, (blk_cell BK550.out 3).trans rfl, (blk_cell BK544.out 0).trans rfl, (blk_cell BK544.out 1).trans rfl, (blk_cell BK544.out 2).trans rfl, (blk_cell BK544.out 3).trans rfl, (blk_cell BK543.out 0).trans rfl, (blk_cell BK543.out 1).trans rfl, (blk_cell BK543.out 2).trans rfl, (blk_cell BK543.out 3).trans rfl⟩ (fun hHeld => ?_)
            clear hK K
            refine norm_ (a' := ?_) ?_ ?_
            rotate_left
            · show Act.put _ (some 40) _ = _
              simp only [Act.put, List.setIfInBounds_toArray, List.set_cons_zero, List.set_cons_succ, i64_w, i32_w]
              rfl
            refine pure_ (i := 25) (N := some 42) (v := ?_) (a' := ?_) #[true, true, true, true, true, true, true, true, true, true, true, true, true, true, true, true, true, true, true, true, true, true, true, true, true, true, false] rfl rfl (any_of HT_.out (by kernel_rfl)) (fun _ _ _ h => h) (Or.inl ⟨by rfl, ?_⟩) ?_ ?_
            rotate_left
            · intro w'
              go_simp
              with_reducible rfl
            rotate_left
            · simp only [Act.put, List.setIfInBounds_toArray, List.set_cons_zero, List.set_cons_succ, i64_w, i32_w]
              rfl
            refine pure_ (i := 26) (N := some 43) (v := ?_) (a' := ?_) #[true, true, true, true, true, true, true, true, true, true, true, true, true, true, true, true, true, true, true, true, true, true, true, true, true, true, true] rfl rfl (any_of HT_.out (by kernel_rfl)) (fun _ _ _ h => h) (Or.inl ⟨by rfl, ?_⟩) ?_ ?_
            rotate_left
            · intro w'
              go_simp
              with_reducible rfl
            rotate_left
            · simp only [Act.put, List.setIfInBounds_toArray, List.set_cons_zero, List.set_cons_succ, i64_w, i32_w]
              rfl
            refine done_ (done_of HT_.out (by kernel_rfl)) ?_
            try go_wp2
            go_meet
            case rel => exact ⟨_, ((!(t560 == t546) || (!(t561 == t547) || (!(t562 == t548) || (!(t563 == t549)))))), (by first | rfl | (simp; done) | (simp [*]; done)), H', ⟨by first | omega | exact Nat.le_refl _⟩, ⟨by (with_reducible repeat (first | refine blk_drewN ?_ _ | refine blk_drew ?_ | refine blk_alloc ?_ _)); exact BK543.out⟩, ⟨by (with_reducible repeat (first | refine blk_drewN ?_ _ | refine blk_drew ?_ | refine blk_alloc ?_ _)); exact BK544.out⟩, ⟨by (with_reducible repeat (first | refine blk_drewN ?_ _ | refine blk_drew ?_ | refine blk_alloc ?_ _)); exact BK550.out⟩, ⟨by repeat (first | (with_reducible first | exact HB.out | apply below_alloc | apply pw_below_drewN | apply below_drew1 | refine below_set ?_ GE543.out | refine below_set ?_ GE544.out | refine below_set ?_ GE550.out) | exact HB.out)⟩⟩
      · replace c21 := Bool.eq_false_iff.mpr c21
        subst c21
        have H1 : (casementlaw02_RectInto.j0 k a2 a3 true a0_0 a0_1 a0_2 a0_3 a1_0 a1_1 a1_2 a1_3 t546 t547 t548 t549) = some r := by rw [if_neg (show ¬ (false = true) by decide)] at H; exact H
        clear H
        have H := H1
        clear H1
        have H' := Aside0.mk H
        clear H
        try go_wp2
        have n0_ : Aside0 (((((w16.setCell ⟨gb550, 0, none⟩ (.int .i64 t546)).setCell ⟨gb550, 1, none⟩ (.int .i64 t547)).setCell ⟨gb550, 2, none⟩ (.int .i64 t548)).setCell ⟨gb550, 3, none⟩ (.int .i64 t549)).heap[gb543]? = some (.cells #[.int .i64 a0_0, .int .i64 a0_1, .int .i64 a0_2, .int .i64 a0_3] 26 (0, 0))) := ⟨by (with_reducible repeat (first | refine blk_drewN ?_ _ | refine blk_drew ?_ | refine blk_alloc ?_ _)); refine blk_far ?_ NB543_550.out _; (with_reducible repeat (first | refine blk_drewN ?_ _ | refine blk_drew ?_ | refine blk_alloc ?_ _)); refine blk_far ?_ NB543_550.out _; (with_reducible repeat (first | refine blk_drewN ?_ _ | refine blk_drew ?_ | refine blk_alloc ?_ _)); refine blk_far ?_ NB543_550.out _; (with_reducible repeat (first | refine blk_drewN ?_ _ | refine blk_drew ?_ | refine blk_alloc ?_ _)); refine blk_far ?_ NB543_550.out _; (with_reducible repeat (first | refine blk_drewN ?_ _ | refine blk_drew ?_ | refine blk_alloc ?_ _)); exact BK543.out⟩
        have n1_ : Aside0 (((((w16.setCell ⟨gb550, 0, none⟩ (.int .i64 t546)).setCell ⟨gb550, 1, none⟩ (.int .i64 t547)).setCell ⟨gb550, 2, none⟩ (.int .i64 t548)).setCell ⟨gb550, 3, none⟩ (.int .i64 t549)).heap[gb544]? = some (.cells #[.int .i64 a1_0, .int .i64 a1_1, .int .i64 a1_2, .int .i64 a1_3] 26 (0, 0))) := ⟨by (with_reducible repeat (first | refine blk_drewN ?_ _ | refine blk_drew ?_ | refine blk_alloc ?_ _)); refine blk_far ?_ NB544_550.out _; (with_reducible repeat (first | refine blk_drewN ?_ _ | refine blk_drew ?_ | refine blk_alloc ?_ _)); refine blk_far ?_ NB544_550.out _; (with_reducible repeat (first | refine blk_drewN ?_ _ | refine blk_drew ?_ | refine blk_alloc ?_ _)); refine blk_far ?_ NB544_550.out _; (with_reducible repeat (first | refine blk_drewN ?_ _ | refine blk_drew ?_ | refine blk_alloc ?_ _)); refine blk_far ?_ NB544_550.out _; (with_reducible repeat (first | refine blk_drewN ?_ _ | refine blk_drew ?_ | refine blk_alloc ?_ _)); exact BK544.out⟩
        have n2_ : Aside0 (((((w16.setCell ⟨gb550, 0, none⟩ (.int .i64 t546)).setCell ⟨gb550, 1, none⟩ (.int .i64 t547)).setCell ⟨gb550, 2, none⟩ (.int .i64 t548)).setCell ⟨gb550, 3, none⟩ (.int .i64 t549)).heap[gb550]? = some (.cells #[.int .i64 t546, .int .i64 t547, .int .i64 t548, .int .i64 t549] 26 (0, 0))) := ⟨by (with_reducible repeat (first | refine blk_drewN ?_ _ | refine blk_drew ?_ | refine blk_alloc ?_ _)); refine blk_put (cs := #[.int .i64 t546, .int .i64 t547, .int .i64 t548, .int .i64 0]) ?_ 3 _ rfl; (with_reducible repeat (first | refine blk_drewN ?_ _ | refine blk_drew ?_ | refine blk_alloc ?_ _)); refine blk_put (cs := #[.int .i64 t546, .int .i64 t547, .int .i64 0, .int .i64 0]) ?_ 2 _ rfl; (with_reducible repeat (first | refine blk_drewN ?_ _ | refine blk_drew ?_ | refine blk_alloc ?_ _)); refine blk_put (cs := #[.int .i64 t546, .int .i64 0, .int .i64 0, .int .i64 0]) ?_ 1 _ rfl; (with_reducible repeat (first | refine blk_drewN ?_ _ | refine blk_drew ?_ | refine blk_alloc ?_ _)); refine blk_put (cs := #[.int .i64 0, .int .i64 0, .int .i64 0, .int .i64 0]) ?_ 0 _ rfl; (with_reducible repeat (first | refine blk_drewN ?_ _ | refine blk_drew ?_ | refine blk_alloc ?_ _)); exact BK550.out⟩
        have n3_ : Aside0 (Below w.heap.size w ((((w16.setCell ⟨gb550, 0, none⟩ (.int .i64 t546)).setCell ⟨gb550, 1, none⟩ (.int .i64 t547)).setCell ⟨gb550, 2, none⟩ (.int .i64 t548)).setCell ⟨gb550, 3, none⟩ (.int .i64 t549))) := ⟨by repeat (first | (with_reducible first | exact HB.out | apply below_alloc | apply pw_below_drewN | apply below_drew1 | refine below_set ?_ GE543.out | refine below_set ?_ GE544.out | refine below_set ?_ GE550.out) | exact HB.out)⟩
        (try clear BK543)
        (try clear BK544)
        (try clear BK550)
        (try clear HB)
        generalize ((((w16.setCell ⟨gb550, 0, none⟩ (.int .i64 t546)).setCell ⟨gb550, 1, none⟩ (.int .i64 t547)).setCell ⟨gb550, 2, none⟩ (.int .i64 t548)).setCell ⟨gb550, 3, none⟩ (.int .i64 t549)) = w42 at n0_ n1_ n2_ n3_ ⊢
        have BK543 := n0_
        have BK544 := n1_
        have BK550 := n2_
        have HB := n3_
        clear n0_ n1_ n2_ n3_
        have n0_ := Aside0.mk (blk_drew BK543.out)
        have n1_ := Aside0.mk (blk_drew BK544.out)
        have n2_ := Aside0.mk (blk_drew BK550.out)
        have n3_ := Aside0.mk (below_drew1 HB.out)
        clear BK543
        clear BK544
        clear BK550
        clear HB
        have BK543 := n0_
        have BK544 := n1_
        have BK550 := n2_
        have HB := n3_
        clear n0_ n1_ n2_ n3_
        refine start_ (n := 27) (S := fun w' => w'.cell? ⟨gb550, 0, none⟩ = some (.int .i64 t546) ∧ w'.cell? ⟨gb550, 1, none⟩ = some (.int .i64 t547) ∧ w'.cell? ⟨gb550, 2, none⟩ = some (.int .i64 t548) ∧ w'.cell? ⟨gb550, 3, none⟩ = some (.int .i64 t549) ∧ w'.cell? ⟨gb544, 0, none⟩ = some (.int .i64 a1_0) ∧ w'.cell? ⟨gb544, 1, none⟩ = some (.int .i64 a1_1) ∧ w'.cell? ⟨gb544, 2, none⟩ = some (.int .i64 a1_2) ∧ w'.cell? ⟨gb544, 3, none⟩ = some (.int .i64 a1_3)) (ds := []) #[false, false, false, false, false, false, false, false, false, false, false, false, false, false, false, false, false, false, false, false, false, false, false, false, false, false, false] (by kernel_rfl) rfl rfl ⟨(blk_cell BK550.out 0).trans rfl, (blk_cell BK550.out 1).trans rfl, (blk_cell BK550.out 2).trans rfl, (blk_cell BK550.out 3).trans rfl, (blk_cell BK544.out 0).trans rfl, (blk_cell BK544.out 1).trans rfl, (blk_cell BK544.out 2).trans rfl, (blk_cell BK544.out 3).trans rfl⟩ (fun hHeld => ?_); refine with_tabW casementlaw02_RectInto.tab4 casementlaw02_RectInto.bits4 (fun HT_ HW_ => ?_)
        generalize w42.drew = w43 at BK543 BK544 BK550 HB hHeld ⊢
        refine take_ (i := 0) (N := some 17) (v := ?_) (a' := ?_) #[true, false, false, false, false, false, false, false, false, false, false, false, false, false, false, false, false, false, false, false, false, false, false, false, false, false, false] rfl rfl (take_ofW HT_.out HW_.out (by kernel_rfl)) (fun _ _ _ h => h) (Or.inl ⟨by rfl, ?_⟩) hHeld ?_ ?_
        rotate_left
        · rintro w' ⟨s0, s1, s2, s3, s4, s5, s6, s7⟩
          go_simp
          with_reducible rfl
        rotate_left
        · simp only [Act.put, List.setIfInBounds_toArray, List.set_cons_zero, List.set_cons_succ, i64_w, i32_w]
          rfl
        refine take_ (i := 1) (N := some 18) (v := ?_) (a' := ?_) #[true, true, false, false, false, false, false, false, false, false, false, false, false, false, false, false, false, false, false, false, false, false, false, false, false, false, false] rfl rfl (take_ofW HT_.out HW_.out (by kernel_rfl)) (fun _ _ _ h => h) (Or.inl ⟨by rfl, ?_⟩) hHeld ?_ ?_
        rotate_left
        · rintro w' ⟨s0, s1, s2, s3, s4, s5, s6, s7⟩
          go_simp
          with_reducible rfl
        rotate_left
        · simp only [Act.put, List.setIfInBounds_toArray, List.set_cons_zero, List.set_cons_succ, i64_w, i32_w]
          rfl
        refine one_ (i := 2) (N := some 19) #[true, true, true, false, false, false, false, false, false, false, false, false, false, false, false, false, false, false, false, false, false, false, false, false, false, false, false] rfl rfl (one_of HT_.out (by kernel_rfl)) (by decide) (fun K hK => ?_)
        refine goes_ Try.func25 (by kernel_rfl) rfl #[.agg #[.int .i64 t546, .int .i64 t547, .int .i64 t548, .int .i64 t549], .agg #[.int .i64 a1_0, .int .i64 a1_1, .int .i64 a1_2, .int .i64 a1_3]] (by rfl) rfl rfl (by (try simp only [List.map_toArray, List.map_cons, List.map_nil]); first | done | rfl | (simp only [List.length_drop, List.length_take]; rfl)) ?_
        with_reducible refine (rect_Within.calls t546 t547 t548 t549 a1_0 a1_1 a1_2 a1_3 false _ A20.out).mono ?_
        rintro e w44 ⟨rfl, hb⟩
        refine ⟨_, rfl, ?_⟩
        have n0_ := Aside0.mk (blk_below (g := gb543) (o := .cells #[.int .i64 a0_0, .int .i64 a0_1, .int .i64 a0_2, .int .i64 a0_3] 26 (0, 0)) (by (with_reducible repeat (first | refine blk_drewN ?_ _ | refine blk_drew ?_ | refine blk_alloc ?_ _)); exact BK543.out) hb)
        have n1_ := Aside0.mk (blk_below (g := gb544) (o := .cells #[.int .i64 a1_0, .int .i64 a1_1, .int .i64 a1_2, .int .i64 a1_3] 26 (0, 0)) (by (with_reducible repeat (first | refine blk_drewN ?_ _ | refine blk_drew ?_ | refine blk_alloc ?_ _)); exact BK544.out) hb)
        have n2_ := Aside0.mk (blk_below (g := gb550) (o := .cells #[.int .i64 t546, .int .i64 t547, .int .i64 t548, .int .i64 t549] 26 (0, 0)) (by (with_reducible repeat (first | refine blk_drewN ?_ _ | refine blk_drew ?_ | refine blk_alloc ?_ _)); exact BK550.out) hb)
        have n3_ := Aside0.mk (below_step (by repeat (first | (with_reducible first | exact HB.out | apply below_alloc | apply pw_below_drewN | apply below_drew1 | refine below_set ?_ GE543.out | refine below_set ?_ GE544.out | refine below_set ?_ GE550.out) | exact HB.out)) hb)
        clear BK543
        clear BK544
        clear BK550
        clear HB
        have BK543 := n0_
        have BK544 := n1_
        have BK550 := n2_
        have HB := n3_
        clear n0_ n1_ n2_ n3_
        (try clear hb)
        (try clear hb2)
        (try clear hk)
        (try clear hi)
        refine hK.out _ _ ⟨(blk_cell BK550.out 0).trans rfl, (blk_cell BK550.out 1).trans rfl, (blk_cell BK550.out 2).trans rfl, (blk_cell BK550.out 3).trans rfl, (blk_cell BK544.out 0).trans rfl, (blk_cell BK544.out 1).trans rfl, (blk_cell BK544.out 2).trans rfl, (blk_cell BK544.out 3).trans rfl⟩ (fun hHeld => ?_)
        clear hK K
        refine norm_ (a' := ?_) ?_ ?_
        rotate_left
        · show Act.put _ (some 19) _ = _
          simp only [Act.put, List.setIfInBounds_toArray, List.set_cons_zero, List.set_cons_succ, i64_w, i32_w]
          rfl
        refine pure_ (i := 3) (N := some 20) (v := ?_) (a' := ?_) #[true, true, true, true, false, false, false, false, false, false, false, false, false, false, false, false, false, false, false, false, false, false, false, false, false, false, false] rfl rfl (any_of HT_.out (by kernel_rfl)) (fun _ _ _ h => h) (Or.inl ⟨by rfl, ?_⟩) ?_ ?_
        rotate_left
        · intro w'
          go_simp
          with_reducible rfl
        rotate_left
        · simp only [Act.put, List.setIfInBounds_toArray, List.set_cons_zero, List.set_cons_succ, i64_w, i32_w]
          rfl
        refine pure_ (i := 4) (N := some 21) (v := ?_) (a' := ?_) #[true, true, true, true, true, false, false, false, false, false, false, false, false, false, false, false, false, false, false, false, false, false, false, false, false, false, false] rfl rfl (any_of HT_.out (by kernel_rfl)) (fun _ _ _ h => h) (Or.inl ⟨by rfl, ?_⟩) ?_ ?_
        rotate_left
        · intro w'
          go_simp
          with_reducible rfl
        rotate_left
        · simp only [Act.put, List.setIfInBounds_toArray, List.set_cons_zero, List.set_cons_succ, i64_w, i32_w]
          rfl
        refine pure_ (i := 5) (N := some 22) (v := undef) (a' := ?_) #[true, true, true, true, true, true, false, false, false, false, false, false, false, false, false, false, false, false, false, false, false, false, false, false, false, false, false] rfl rfl (any_of HT_.out (by kernel_rfl)) (fun _ _ _ h => h) (Or.inr ⟨by rfl, rfl⟩) ?_ ?_
        rotate_left
        · simp only [Act.put, List.setIfInBounds_toArray, List.set_cons_zero, List.set_cons_succ, i64_w, i32_w]
          rfl
        refine pure_ (i := 6) (N := some 23) (v := undef) (a' := ?_) #[true, true, true, true, true, true, true, false, false, false, false, false, false, false, false, false, false, false, false, false, false, false, false, false, false, false, false] rfl rfl (any_of HT_.out (by kernel_rfl)) (fun _ _ _ h => h) (Or.inr ⟨by rfl, rfl⟩) ?_ ?_
        rotate_left
        · simp only [Act.put, List.setIfInBounds_toArray, List.set_cons_zero, List.set_cons_succ, i64_w, i32_w]
          rfl
        refine pure_ (i := 7) (N := some 24) (v := undef) (a' := ?_) #[true, true, true, true, true, true, true, true, false, false, false, false, false, false, false, false, false, false, false, false, false, false, false, false, false, false, false] rfl rfl (any_of HT_.out (by kernel_rfl)) (fun _ _ _ h => h) (Or.inr ⟨by rfl, rfl⟩) ?_ ?_
        rotate_left
        · simp only [Act.put, List.setIfInBounds_toArray, List.set_cons_zero, List.set_cons_succ, i64_w, i32_w]
          rfl
        refine pure_ (i := 8) (N := some 25) (v := undef) (a' := ?_) #[true, true, true, true, true, true, true, true, true, false, false, false, false, false, false, false, false, false, false, false, false, false, false, false, false, false, false] rfl rfl (any_of HT_.out (by kernel_rfl)) (fun _ _ _ h => h) (Or.inr ⟨by rfl, rfl⟩) ?_ ?_
        rotate_left
        · simp only [Act.put, List.setIfInBounds_toArray, List.set_cons_zero, List.set_cons_succ, i64_w, i32_w]
          rfl
        refine pure_ (i := 9) (N := some 26) (v := undef) (a' := ?_) #[true, true, true, true, true, true, true, true, true, true, false, false, false, false, false, false, false, false, false, false, false, false, false, false, false, false, false] rfl rfl (any_of HT_.out (by kernel_rfl)) (fun _ _ _ h => h) (Or.inr ⟨by rfl, rfl⟩) ?_ ?_
        rotate_left
        · simp only [Act.put, List.setIfInBounds_toArray, List.set_cons_zero, List.set_cons_succ, i64_w, i32_w]
          rfl
        refine pure_ (i := 10) (N := some 27) (v := undef) (a' := ?_) #[true, true, true, true, true, true, true, true, true, true, true, false, false, false, false, false, false, false, false, false, false, false, false, false, false, false, false] rfl rfl (any_of HT_.out (by kernel_rfl)) (fun _ _ _ h => h) (Or.inr ⟨by rfl, rfl⟩) ?_ ?_
        rotate_left
        · simp only [Act.put, List.setIfInBounds_toArray, List.set_cons_zero, List.set_cons_succ, i64_w, i32_w]
          rfl
        refine pure_ (i := 11) (N := some 28) (v := ?_) (a' := ?_) #[true, true, true, true, true, true, true, true, true, true, true, true, false, false, false, false, false, false, false, false, false, false, false, false, false, false, false] rfl rfl (any_of HT_.out (by kernel_rfl)) (fun _ _ _ h => h) (Or.inl ⟨by rfl, ?_⟩) ?_ ?_
        rotate_left
        · intro w'
          go_simp
          with_reducible rfl
        rotate_left
        · simp only [Act.put, List.setIfInBounds_toArray, List.set_cons_zero, List.set_cons_succ, i64_w, i32_w]
          rfl
        refine pure_ (i := 12) (N := some 29) (v := ?_) (a' := ?_) #[true, true, true, true, true, true, true, true, true, true, true, true, true, false, false, false, false, false, false, false, false, false, false, false, false, false, false] rfl rfl (any_of HT_.out (by kernel_rfl)) (fun _ _ _ h => h) (Or.inl ⟨by rfl, ?_⟩) ?_ ?_
        rotate_left
        · intro w'
          go_simp
          with_reducible rfl
        rotate_left
        · simp only [Act.put, List.setIfInBounds_toArray, List.set_cons_zero, List.set_cons_succ, i64_w, i32_w]
          rfl
        refine pure_ (i := 13) (N := some 30) (v := undef) (a' := ?_) #[true, true, true, true, true, true, true, true, true, true, true, true, true, true, false, false, false, false, false, false, false, false, false, false, false, false, false] rfl rfl (any_of HT_.out (by kernel_rfl)) (fun _ _ _ h => h) (Or.inr ⟨by rfl, rfl⟩) ?_ ?_
        rotate_left
        · simp only [Act.put, List.setIfInBounds_toArray, List.set_cons_zero, List.set_cons_succ, i64_w, i32_w]
          rfl
        refine pure_ (i := 14) (N := some 31) (v := undef) (a' := ?_) #[true, true, true, true, true, true, true, true, true, true, true, true, true, true, true, false, false, false, false, false, false, false, false, false, false, false, false] rfl rfl (any_of HT_.out (by kernel_rfl)) (fun _ _ _ h => h) (Or.inr ⟨by rfl, rfl⟩) ?_ ?_
        rotate_left
        · simp only [Act.put, List.setIfInBounds_toArray, List.set_cons_zero, List.set_cons_succ, i64_w, i32_w]
          rfl
        refine pure_ (i := 15) (N := some 32) (v := undef) (a' := ?_) #[true, true, true, true, true, true, true, true, true, true, true, true, true, true, true, true, false, false, false, false, false, false, false, false, false, false, false] rfl rfl (any_of HT_.out (by kernel_rfl)) (fun _ _ _ h => h) (Or.inr ⟨by rfl, rfl⟩) ?_ ?_
        rotate_left
        · simp only [Act.put, List.setIfInBounds_toArray, List.set_cons_zero, List.set_cons_succ, i64_w, i32_w]
          rfl
        refine pure_ (i := 16) (N := some 33) (v := undef) (a' := ?_) #[true, true, true, true, true, true, true, true, true, true, true, true, true, true, true, true, true, false, false, false, false, false, false, false, false, false, false] rfl rfl (any_of HT_.out (by kernel_rfl)) (fun _ _ _ h => h) (Or.inr ⟨by rfl, rfl⟩) ?_ ?_
        rotate_left
        · simp only [Act.put, List.setIfInBounds_toArray, List.set_cons_zero, List.set_cons_succ, i64_w, i32_w]
          rfl
        refine pure_ (i := 17) (N := some 34) (v := undef) (a' := ?_) #[true, true, true, true, true, true, true, true, true, true, true, true, true, true, true, true, true, true, false, false, false, false, false, false, false, false, false] rfl rfl (any_of HT_.out (by kernel_rfl)) (fun _ _ _ h => h) (Or.inr ⟨by rfl, rfl⟩) ?_ ?_
        rotate_left
        · simp only [Act.put, List.setIfInBounds_toArray, List.set_cons_zero, List.set_cons_succ, i64_w, i32_w]
          rfl
        refine pure_ (i := 18) (N := some 35) (v := undef) (a' := ?_) #[true, true, true, true, true, true, true, true, true, true, true, true, true, true, true, true, true, true, true, false, false, false, false, false, false, false, false] rfl rfl (any_of HT_.out (by kernel_rfl)) (fun _ _ _ h => h) (Or.inr ⟨by rfl, rfl⟩) ?_ ?_
        rotate_left
        · simp only [Act.put, List.setIfInBounds_toArray, List.set_cons_zero, List.set_cons_succ, i64_w, i32_w]
          rfl
        refine pure_ (i := 19) (N := some 36) (v := ?_) (a' := ?_) #[true, true, true, true, true, true, true, true, true, true, true, true, true, true, true, true, true, true, true, true, false, false, false, false, false, false, false] rfl rfl (any_of HT_.out (by kernel_rfl)) (fun _ _ _ h => h) (Or.inl ⟨by rfl, ?_⟩) ?_ ?_
        rotate_left
        · intro w'
          go_simp
          with_reducible rfl
        rotate_left
        · simp only [Act.put, List.setIfInBounds_toArray, List.set_cons_zero, List.set_cons_succ, i64_w, i32_w]
          rfl
        refine pure_ (i := 20) (N := some 37) (v := ?_) (a' := ?_) #[true, true, true, true, true, true, true, true, true, true, true, true, true, true, true, true, true, true, true, true, true, false, false, false, false, false, false] rfl rfl (any_of HT_.out (by kernel_rfl)) (fun _ _ _ h => h) (Or.inl ⟨by rfl, ?_⟩) ?_ ?_
        rotate_left
        · intro w'
          go_simp
          with_reducible rfl
        rotate_left
        · simp only [Act.put, List.setIfInBounds_toArray, List.set_cons_zero, List.set_cons_succ, i64_w, i32_w]
          rfl
        refine pure_ (i := 21) (N := some 38) (v := undef) (a' := ?_) #[true, true, true, true, true, true, true, true, true, true, true, true, true, true, true, true, true, true, true, true, true, true, false, false, false, false, false] rfl rfl (any_of HT_.out (by kernel_rfl)) (fun _ _ _ h => h) (Or.inr ⟨by rfl, rfl⟩) ?_ ?_
        rotate_left
        · simp only [Act.put, List.setIfInBounds_toArray, List.set_cons_zero, List.set_cons_succ, i64_w, i32_w]
          rfl
        refine pure_ (i := 22) (N := some 39) (v := undef) (a' := ?_) #[true, true, true, true, true, true, true, true, true, true, true, true, true, true, true, true, true, true, true, true, true, true, true, false, false, false, false] rfl rfl (any_of HT_.out (by kernel_rfl)) (fun _ _ _ h => h) (Or.inr ⟨by rfl, rfl⟩) ?_ ?_
        rotate_left
        · simp only [Act.put, List.setIfInBounds_toArray, List.set_cons_zero, List.set_cons_succ, i64_w, i32_w]
          rfl
        refine pure_ (i := 23) (N := some 40) (v := undef) (a' := ?_) #[true, true, true, true, true, true, true, true, true, true, true, true, true, true, true, true, true, true, true, true, true, true, true, true, false, false, false] rfl rfl (any_of HT_.out (by kernel_rfl)) (fun _ _ _ h => h) (Or.inr ⟨by rfl, rfl⟩) ?_ ?_
        rotate_left
        · simp only [Act.put, List.setIfInBounds_toArray, List.set_cons_zero, List.set_cons_succ, i64_w, i32_w]
          rfl
        refine pure_ (i := 24) (N := some 41) (v := undef) (a' := ?_) #[true, true, true, true, true, true, true, true, true, true, true, true, true, true, true, true, true, true, true, true, true, true, true, true, true, false, false] rfl rfl (any_of HT_.out (by kernel_rfl)) (fun _ _ _ h => h) (Or.inr ⟨by rfl, rfl⟩) ?_ ?_
        rotate_left
        · simp only [Act.put, List.setIfInBounds_toArray, List.set_cons_zero, List.set_cons_succ, i64_w, i32_w]
          rfl
        refine pure_ (i := 25) (N := some 42) (v := undef) (a' := ?_) #[true, true, true, true, true, true, true, true, true, true, true, true, true, true, true, true, true, true, true, true, true, true, true, true, true, true, false] rfl rfl (any_of HT_.out (by kernel_rfl)) (fun _ _ _ h => h) (Or.inr ⟨by rfl, rfl⟩) ?_ ?_
        rotate_left
        · simp only [Act.put, List.setIfInBounds_toArray, List.set_cons_zero, List.set_cons_succ, i64_w, i32_w]
          rfl
        refine pure_ (i := 26) (N := some 43) (v := ?_) (a' := ?_) #[true, true, true, true, true, true, true, true, true, true, true, true, true, true, true, true, true, true, true, true, true, true, true, true, true, true, true] rfl rfl (any_of HT_.out (by kernel_rfl)) (fun _ _ _ h => h) (Or.inl ⟨by rfl, ?_⟩) ?_ ?_
        rotate_left
        · intro w'
          go_simp
          with_reducible rfl
        rotate_left
        · simp only [Act.put, List.setIfInBounds_toArray, List.set_cons_zero, List.set_cons_succ, i64_w, i32_w]
          rfl
        refine done_ (done_of HT_.out (by kernel_rfl)) ?_
        try go_wp2
        go_meet
        case rel => exact ⟨_, (true), (by first | rfl | (simp; done) | (simp [*]; done)), H', ⟨by first | omega | exact Nat.le_refl _⟩, ⟨by (with_reducible repeat (first | refine blk_drewN ?_ _ | refine blk_drew ?_ | refine blk_alloc ?_ _)); exact BK543.out⟩, ⟨by (with_reducible repeat (first | refine blk_drewN ?_ _ | refine blk_drew ?_ | refine blk_alloc ?_ _)); exact BK544.out⟩, ⟨by (with_reducible repeat (first | refine blk_drewN ?_ _ | refine blk_drew ?_ | refine blk_alloc ?_ _)); exact BK550.out⟩, ⟨by repeat (first | (with_reducible first | exact HB.out | apply below_alloc | apply pw_below_drewN | apply below_drew1 | refine below_set ?_ GE543.out | refine below_set ?_ GE544.out | refine below_set ?_ GE550.out) | exact HB.out)⟩⟩
    case rest =>
      clear HC8
      try clear c2
      try clear p2
      try clear c3
      try clear c20
      try clear c21
      try clear c25
      try clear c29
      try clear c29b0
      try clear c33
      obtain ⟨kq, x43_7, rfl, HA, HJ7, BK543, BK544, BK550, HB⟩ := hcut
      cases kq with
      | zero => exact absurd HA.out (by simp [casementlaw02_RectInto.j0])
      | succ kj7 =>
        have H := HA.out
        clear HA
        simp only [casementlaw02_RectInto.j0] at H
        by_cases c45 : x43_7 = true
        · subst c45
          have H1 : (some false) = some r := by rw [if_pos rfl] at H; exact H
          clear H
          have H := H1
          clear H1
          exact absurd ((Option.some.inj H).trans HRT.out) (by decide)
        · replace c45 := Bool.eq_false_iff.mpr c45
          subst c45
          have H1 : ((rect_Within.f a0_0 a0_1 a0_2 a0_3 a1_0 a1_1 a1_2 a1_3).bind fun t564 => (if t564 = true then ((rect_Clean.f a0_0 a0_1 a0_2 a0_3).bind fun bt565 => (casementlaw02_RectInto.j1 kj7 a2 a3 (!(t546 == bt565.1) || (!(t547 == bt565.2.1) || (!(t548 == bt565.2.2.1) || (!(t549 == bt565.2.2.2))))) a0_0 a0_1 a0_2 a0_3)) else (casementlaw02_RectInto.j1 kj7 a2 a3 false a0_0 a0_1 a0_2 a0_3))) = some r := by rw [if_neg (show ¬ (false = true) by decide)] at H; exact H
          clear H
          have H := H1
          clear H1
          have HC46 := Aside0.mk H
          clear H
          go_upto_region 6 with (fail)
          go_cut [52] (fun v52 wc => ∃ (kq : Nat) (x52_45 : Bool), v52 = .bool x52_45 ∧ Aside0 (casementlaw02_RectInto.j1 kq a2 a3 x52_45 a0_0 a0_1 a0_2 a0_3 = some r) ∧ Aside0 (kq ≤ kj7) ∧ Aside0 (wc.heap[gb543]? = some (.cells #[.int .i64 a0_0, .int .i64 a0_1, .int .i64 a0_2, .int .i64 a0_3] 26 (0, 0))) ∧ Aside0 (wc.heap[gb544]? = some (.cells #[.int .i64 a1_0, .int .i64 a1_1, .int .i64 a1_2, .int .i64 a1_3] 26 (0, 0))) ∧ Aside0 (wc.heap[gb550]? = some (.cells #[.int .i64 t546, .int .i64 t547, .int .i64 t548, .int .i64 t549] 26 (0, 0))) ∧ Aside0 (Below w.heap.size w wc))
          case first =>
            have H := HC46.out
            clear HC46
            replace H := Option.bind_eq_some_iff.mp H
            obtain ⟨t564, A470, H⟩ := H
            replace H : (if t564 = true then ((rect_Clean.f a0_0 a0_1 a0_2 a0_3).bind fun bt565 => (casementlaw02_RectInto.j1 kj7 a2 a3 (!(t546 == bt565.1) || (!(t547 == bt565.2.1) || (!(t548 == bt565.2.2.1) || (!(t549 == bt565.2.2.2))))) a0_0 a0_1 a0_2 a0_3)) else (casementlaw02_RectInto.j1 kj7 a2 a3 false a0_0 a0_1 a0_2 a0_3)) = some r := H
            have A47 := Aside0.mk A470
            clear A470
            by_cases c48 : t564 = true
            · subst c48
              have H1 : ((rect_Clean.f a0_0 a0_1 a0_2 a0_3).bind fun bt565 => (casementlaw02_RectInto.j1 kj7 a2 a3 (!(t546 == bt565.1) || (!(t547 == bt565.2.1) || (!(t548 == bt565.2.2.1) || (!(t549 == bt565.2.2.2))))) a0_0 a0_1 a0_2 a0_3)) = some r := by rw [if_pos rfl] at H; exact H
              clear H
              have H := H1
              clear H1
              replace H := Option.bind_eq_some_iff.mp H
              obtain ⟨⟨t565, t566, t567, t568⟩, A490, H⟩ := H
              replace H : (casementlaw02_RectInto.j1 kj7 a2 a3 (!(t546 == t565) || (!(t547 == t566) || (!(t548 == t567) || (!(t549 == t568))))) a0_0 a0_1 a0_2 a0_3) = some r := H
              have A49 := Aside0.mk A490
              clear A490
              have H' := Aside0.mk H
              clear H
              try go_wp2
              have n0_ := Aside0.mk (blk_drew BK543.out)
              have n1_ := Aside0.mk (blk_drew BK544.out)
              have n2_ := Aside0.mk (blk_drew BK550.out)
              have n3_ := Aside0.mk (below_drew1 HB.out)
              clear BK543
              clear BK544
              clear BK550
              clear HB
              have BK543 := n0_
              have BK544 := n1_
              have BK550 := n2_
              have HB := n3_
              clear n0_ n1_ n2_ n3_
              refine start_ (n := 9) (S := fun w' => w'.cell? ⟨gb543, 0, none⟩ = some (.int .i64 a0_0) ∧ w'.cell? ⟨gb543, 1, none⟩ = some (.int .i64 a0_1) ∧ w'.cell? ⟨gb543, 2, none⟩ = some (.int .i64 a0_2) ∧ w'.cell? ⟨gb543, 3, none⟩ = some (.int .i64 a0_3) ∧ w'.cell? ⟨gb544, 0, none⟩ = some (.int .i64 a1_0) ∧ w'.cell? ⟨gb544, 1, none⟩ = some (.int .i64 a1_1) ∧ w'.cell? ⟨gb544, 2, none⟩ = some (.int .i64 a1_2) ∧ w'.cell? ⟨gb544, 3, none⟩ = some (.int .i64 a1_3) ∧ w'.cell? ⟨gb550, 0, none⟩ = some (.int .i64 t546) ∧ w'.cell? ⟨gb550, 1, none⟩ = some (.int .i64 t547) ∧ w'.cell? ⟨gb550, 2, none⟩ = some (.int .i64 t548) ∧ w'.cell? ⟨gb550, 3, none⟩ = some (.int .i64 t549)) (ds := []) #[false, false, false, false, false, false, false, false, false] (by kernel_rfl) rfl rfl ⟨(blk_cell BK543.out 0).trans rfl, (blk_cell BK543.out 1).trans rfl, (blk_cell BK543.out 2).trans rfl, (blk_cell BK543.out 3).trans rfl, (blk_cell BK544.out 0).trans rfl, (blk_cell BK544.out 1).trans rfl, (blk_cell BK544.out 2).trans rfl, (blk_cell BK544.out 3).trans rfl, (blk_cell BK550.out 0).trans rfl, (blk_cell BK550.out 1).trans rfl, (blk_cell BK550.out 2).trans rfl, (blk_cell BK550.out 3).trans rfl⟩ (fun hHeld => ?_); refine with_tabW casementlaw02_RectInto.tab6 casementlaw02_RectInto.bits6 (fun HT_ HW_ => ?_)
              generalize wc.drew = w50 at BK543 BK544 BK550 HB hHeld ⊢
              refine take_ (i := 0) (N := some 44) (v := ?_) (a' := ?_) #[true, false, false, false, false, false, false, false, false] rfl rfl (take_ofW HT_.out HW_.out (by kernel_rfl)) (fun _ _ _ h => h) (Or.inl ⟨by rfl, ?_⟩) hHeld ?_ ?_
              rotate_left
              · rintro w' ⟨s0, s1, s2, s3, s4, s5, s6, s7, s8, s9, s10, s11⟩
                go_simp
                with_reducible rfl
              rotate_left
              · simp only [Act.put, List.setIfInBounds_toArray, List.set_cons_zero, List.set_cons_succ, i64_w, i32_w]
                rfl
              refine take_ (i := 1) (N := some 45) (v := ?_) (a' := ?_) #[true, true, false, false, false, false, false, false, false] rfl rfl (take_ofW HT_.out HW_.out (by kernel_rfl)) (fun _ _ _ h => h) (Or.inl ⟨by rfl, ?_⟩) hHeld ?_ ?_
              rotate_left
              · rintro w' ⟨s0, s1, s2, s3, s4, s5, s6, s7, s8, s9, s10, s11⟩
                go_simp
                with_reducible rfl
              rotate_left
              · simp only [Act.put, List.setIfInBounds_toArray, List.set_cons_zero, List.set_cons_succ, i64_w, i32_w]
                rfl
              refine one_ (i := 2) (N := some 46) #[true, true, true, false, false, false, false, false, false] rfl rfl (one_of HT_.out (by kernel_rfl)) (by decide) (fun K hK => ?_)
              refine goes_ Try.func25 (by kernel_rfl) rfl #[.agg #[.int .i64 a0_0, .int .i64 a0_1, .int .i64 a0_2, .int .i64 a0_3], .agg #[.int .i64 a1_0, .int .i64 a1_1, .int .i64 a1_2, .int .i64 a1_3]] (by rfl) rfl rfl (by (try simp only [List.map_toArray, List.map_cons, List.map_nil]); first | done | rfl | (simp only [List.length_drop, List.length_take]; rfl)) ?_
              with_reducible refine (rect_Within.calls a0_0 a0_1 a0_2 a0_3 a1_0 a1_1 a1_2 a1_3 true _ A47.out).mono ?_
              rintro e w51 ⟨rfl, hb⟩
              refine ⟨_, rfl, ?_⟩
              have n0_ := Aside0.mk (blk_below (g := gb543) (o := .cells #[.int .i64 a0_0, .int .i64 a0_1, .int .i64 a0_2, .int .i64 a0_3] 26 (0, 0)) (by (with_reducible repeat (first | refine blk_drewN ?_ _ | refine blk_drew ?_ | refine blk_alloc ?_ _)); exact BK543.out) hb)
              have n1_ := Aside0.mk (blk_below (g := gb544) (o := .cells #[.int .i64 a1_0, .int .i64 a1_1, .int .i64 a1_2, .int .i64 a1_3] 26 (0, 0)) (by (with_reducible repeat (first | refine blk_drewN ?_ _ | refine blk_drew ?_ | refine blk_alloc ?_ _)); exact BK544.out) hb)
              have n2_ := Aside0.mk (blk_below (g := gb550) (o := .cells #[.int .i64 t546, .int .i64 t547, .int .i64 t548, .int .i64 t549] 26 (0, 0)) (by (with_reducible repeat (first | refine blk_drewN ?_ _ | refine blk_drew ?_ | refine blk_alloc ?_ _)); exact BK550.out) hb)
              have n3_ := Aside0.mk (below_step (by repeat (first | (with_reducible first | exact HB.out | apply below_alloc | apply pw_below_drewN | apply below_drew1 | refine below_set ?_ GE543.out | refine below_set ?_ GE544.out | refine below_set ?_ GE550.out) | exact HB.out)) hb)
              clear BK543
              clear BK544
              clear BK550
              clear HB
              have BK543 := n0_
              have BK544 := n1_
              have BK550 := n2_
              have HB := n3_
              clear n0_ n1_ n2_ n3_
              (try clear hb)
              (try clear hb2)
              (try clear hk)
              (try clear hi)
              refine hK.out _ _ ⟨(blk_cell BK543.out 0).trans rfl, (blk_cell BK543.out 1).trans rfl, (blk_cell BK543.out 2).trans rfl, (blk_cell BK543.out 3).trans rfl, (blk_cell BK544.out 0).trans rfl, (blk_cell BK544.out 1).trans rfl, (blk_cell BK544.out 2).trans rfl, (blk_cell BK544.out 3).trans rfl, (blk_cell BK550.out 0).trans rfl, (blk_cell BK550.out 1).trans rfl, (blk_cell BK550.out 2).trans rfl, (blk_cell BK550.out 3).trans rfl⟩ (fun hHeld => ?_)
              clear hK K
              refine norm_ (a' := ?_) ?_ ?_
              rotate_left
              · show Act.put _ (some 46) _ = _
                simp only [Act.put, List.setIfInBounds_toArray, List.set_cons_zero, List.set_cons_succ, i64_w, i32_w]
                rfl
              refine pure_ (i := 3) (N := some 47) (v := ?_) (a' := ?_) #[true, true, true, true, false, false, false, false, false] rfl rfl (any_of HT_.out (by kernel_rfl)) (fun _ _ _ h => h) (Or.inl ⟨by rfl, ?_⟩) ?_ ?_
              rotate_left
              · intro w'
                go_simp
                with_reducible rfl
              rotate_left
              · simp only [Act.put, List.setIfInBounds_toArray, List.set_cons_zero, List.set_cons_succ, i64_w, i32_w]
                rfl
              refine take_ (i := 4) (N := some 48) (v := ?_) (a' := ?_) #[true, true, true, true, true, false, false, false, false] rfl rfl (take_ofW HT_.out HW_.out (by kernel_rfl)) (fun _ _ _ h => h) (Or.inl ⟨by rfl, ?_⟩) hHeld ?_ ?_
              rotate_left
              · rintro w' ⟨s0, s1, s2, s3, s4, s5, s6, s7, s8, s9, s10, s11⟩
                go_simp
                with_reducible rfl
              rotate_left
              · simp only [Act.put, List.setIfInBounds_toArray, List.set_cons_zero, List.set_cons_succ, i64_w, i32_w]
                rfl
              refine take_ (i := 5) (N := some 49) (v := ?_) (a' := ?_) #[true, true, true, true, true, true, false, false, false] rfl rfl (take_ofW HT_.out HW_.out (by kernel_rfl)) (fun _ _ _ h => h) (Or.inl ⟨by rfl, ?_⟩) hHeld ?_ ?_
              rotate_left
              · rintro w' ⟨s0, s1, s2, s3, s4, s5, s6, s7, s8, s9, s10, s11⟩
                go_simp
                with_reducible rfl
              rotate_left
              · simp only [Act.put, List.setIfInBounds_toArray, List.set_cons_zero, List.set_cons_succ, i64_w, i32_w]
                rfl
              refine one_ (i := 6) (N := some 50) #[true, true, true, true, true, true, true, false, false] rfl rfl (one_of HT_.out (by kernel_rfl)) (by decide) (fun K hK => ?_)
              refine goes_ Try.func20 (by kernel_rfl) rfl #[.agg #[.int .i64 a0_0, .int .i64 a0_1, .int .i64 a0_2, .int .i64 a0_3]] (by rfl) rfl rfl (by (try simp only [List.map_toArray, List.map_cons, List.map_nil]); first | done | rfl | (simp only [List.length_drop, List.length_take]; rfl)) ?_
              with_reducible refine (rect_Clean.calls a0_0 a0_1 a0_2 a0_3 t565 t566 t567 t568 _ A49.out).mono ?_
              rintro e w52 ⟨rfl, hb⟩
              refine ⟨_, rfl, ?_⟩
              have n0_ := Aside0.mk (blk_below (g := gb543) (o := .cells #[.int .i64 a0_0, .int .i64 a0_1, .int .i64 a0_2, .int .i64 a0_3] 26 (0, 0)) (by (with_reducible repeat (first | refine blk_drewN ?_ _ | refine blk_drew ?_ | refine blk_alloc ?_ _)); exact BK543.out) hb)
              have n1_ := Aside0.mk (blk_below (g := gb544) (o := .cells #[.int .i64 a1_0, .int .i64 a1_1, .int .i64 a1_2, .int .i64 a1_3] 26 (0, 0)) (by (with_reducible repeat (first | refine blk_drewN ?_ _ | refine blk_drew ?_ | refine blk_alloc ?_ _)); exact BK544.out) hb)
              have n2_ := Aside0.mk (blk_below (g := gb550) (o := .cells #[.int .i64 t546, .int .i64 t547, .int .i64 t548, .int .i64 t549] 26 (0, 0)) (by (with_reducible repeat (first | refine blk_drewN ?_ _ | refine blk_drew ?_ | refine blk_alloc ?_ _)); exact BK550.out) hb)
              have n3_ := Aside0.mk (below_step (by repeat (first | (with_reducible first | exact HB.out | apply below_alloc | apply pw_below_drewN | apply below_drew1 | refine below_set ?_ GE543.out | refine below_set ?_ GE544.out | refine below_set ?_ GE550.out) | exact HB.out)) hb)
              clear BK543
              clear BK544
              clear BK550
              clear HB
              have BK543 := n0_
              have BK544 := n1_
              have BK550 := n2_
              have HB := n3_
              clear n0_ n1_ n2_ n3_
              (try clear hb)
              (try clear hb2)
              (try clear hk)
              (try clear hi)
              refine hK.out _ _ ⟨(blk_cell BK543.out 0).trans rfl, (blk_cell BK543.out 1).trans rfl, (blk_cell BK543.out 2).trans rfl, (blk_cell BK543.out 3).trans rfl, (blk_cell BK544.out 0).trans rfl, (blk_cell BK544.out 1).trans rfl, (blk_cell BK544.out 2).trans rfl, (blk_cell BK544.out 3).trans rfl, (blk_cell BK550.out 0).trans rfl, (blk_cell BK550.out 1).trans rfl, (blk_cell BK550.out 2).trans rfl, (blk_cell BK550.out 3).trans rfl⟩ (fun hHeld => ?_)
              clear hK K
              refine norm_ (a' := ?_) ?_ ?_
              rotate_left
              · show Act.put _ (some 50) _ = _
                simp only [Act.put, List.setIfInBounds_toArray, List.set_cons_zero, List.set_cons_succ, i64_w, i32_w]
                rfl
              refine pure_ (i := 7) (N := some 51) (v := ?_) (a' := ?_) #[true, true, true, true, true, true, true, true, false] rfl rfl (any_of HT_.out (by kernel_rfl)) (fun _ _ _ h => h) (Or.inl ⟨by rfl, ?_⟩) ?_ ?_
              rotate_left
              · intro w'
                go_simp
                with_reducible rfl
              rotate_left
              · simp only [Act.put, List.setIfInBounds_toArray, List.set_cons_zero, List.set_cons_succ, i64_w, i32_w]
                rfl
              refine pure_ (i := 8) (N := some 52) (v := ?_) (a' := ?_) #[true, true, true, true, true, true, true, true, true] rfl rfl (any_of HT_.out (by kernel_rfl)) (fun _ _ _ h => h) (Or.inl ⟨by rfl, ?_⟩) ?_ ?_
              rotate_left
              · intro w'
                go_simp
                with_reducible rfl
              rotate_left
              · simp only [Act.put, List.setIfInBounds_toArray, List.set_cons_zero, List.set_cons_succ, i64_w, i32_w]
                rfl
              refine done_ (done_of HT_.out (by kernel_rfl)) ?_
              try go_wp2
              go_meet
              case rel => exact ⟨_, ((!(t546 == t565) || (!(t547 == t566) || (!(t548 == t567) || (!(t549 == t568)))))), (by first | rfl | (simp; done) | (simp [*]; done)), H', ⟨by have := HJ7.out; first | omega | exact Nat.le_refl _⟩, ⟨by (with_reducible repeat (first | refine blk_drewN ?_ _ | refine blk_drew ?_ | refine blk_alloc ?_ _)); exact BK543.out⟩, ⟨by (with_reducible repeat (first | refine blk_drewN ?_ _ | refine blk_drew ?_ | refine blk_alloc ?_ _)); exact BK544.out⟩, ⟨by (with_reducible repeat (first | refine blk_drewN ?_ _ | refine blk_drew ?_ | refine blk_alloc ?_ _)); exact BK550.out⟩, ⟨by repeat (first | (with_reducible first | exact HB.out | apply below_alloc | apply pw_below_drewN | apply below_drew1 | refine below_set ?_ GE543.out | refine below_set ?_ GE544.out | refine below_set ?_ GE550.out) | exact HB.out)⟩⟩
            · replace c48 := Bool.eq_false_iff.mpr c48
              subst c48
              have H1 : (casementlaw02_RectInto.j1 kj7 a2 a3 false a0_0 a0_1 a0_2 a0_3) = some r := by rw [if_neg (show ¬ (false = true) by decide)] at H; exact H
              clear H
              have H := H1
              clear H1
              have H' := Aside0.mk H
              clear H
              try go_wp2
              have n0_ := Aside0.mk (blk_drew BK543.out)
              have n1_ := Aside0.mk (blk_drew BK544.out)
              have n2_ := Aside0.mk (blk_drew BK550.out)
              have n3_ := Aside0.mk (below_drew1 HB.out)
              clear BK543
              clear BK544
              clear BK550
              clear HB
              have BK543 := n0_
              have BK544 := n1_
              have BK550 := n2_
              have HB := n3_
              clear n0_ n1_ n2_ n3_
              refine start_ (n := 9) (S := fun w' => w'.cell? ⟨gb543, 0, none⟩ = some (.int .i64 a0_0) ∧ w'.cell? ⟨gb543, 1, none⟩ = some (.int .i64 a0_1) ∧ w'.cell? ⟨gb543, 2, none⟩ = some (.int .i64 a0_2) ∧ w'.cell? ⟨gb543, 3, none⟩ = some (.int .i64 a0_3) ∧ w'.cell? ⟨gb544, 0, none⟩ = some (.int .i64 a1_0) ∧ w'.cell? ⟨gb544, 1, none⟩ = some (.int .i64 a1_1) ∧ w'.cell? ⟨gb544, 2, none⟩ = some (.int .i64 a1_2) ∧ w'.cell? ⟨gb544, 3, none⟩ = some (.int .i64 a1_3)) (ds := []) #[false, false, false, false, false, false, false, false, false] (by kernel_rfl) rfl rfl ⟨(blk_cell BK543.out 0).trans rfl, (blk_cell BK543.out 1).trans rfl, (blk_cell BK543.out 2).trans rfl, (blk_cell BK543.out 3).trans rfl, (blk_cell BK544.out 0).trans rfl, (blk_cell BK544.out 1).trans rfl, (blk_cell BK544.out 2).trans rfl, (blk_cell BK544.out 3).trans rfl⟩ (fun hHeld => ?_); refine with_tabW casementlaw02_RectInto.tab6 casementlaw02_RectInto.bits6 (fun HT_ HW_ => ?_)
              generalize wc.drew = w53 at BK543 BK544 BK550 HB hHeld ⊢
              refine take_ (i := 0) (N := some 44) (v := ?_) (a' := ?_) #[true, false, false, false, false, false, false, false, false] rfl rfl (take_ofW HT_.out HW_.out (by kernel_rfl)) (fun _ _ _ h => h) (Or.inl ⟨by rfl, ?_⟩) hHeld ?_ ?_
              rotate_left
              · rintro w' ⟨s0, s1, s2, s3, s4, s5, s6, s7⟩
                go_simp
                with_reducible rfl
              rotate_left
              · simp only [Act.put, List.setIfInBounds_toArray, List.set_cons_zero, List.set_cons_succ, i64_w, i32_w]
                rfl
              refine take_ (i := 1) (N := some 45) (v := ?_) (a' := ?_) #[true, true, false, false, false, false, false, false, false] rfl rfl (take_ofW HT_.out HW_.out (by kernel_rfl)) (fun _ _ _ h => h) (Or.inl ⟨by rfl, ?_⟩) hHeld ?_ ?_
              rotate_left
              · rintro w' ⟨s0, s1, s2, s3, s4, s5, s6, s7⟩
                go_simp
                with_reducible rfl
              rotate_left
              · simp only [Act.put, List.setIfInBounds_toArray, List.set_cons_zero, List.set_cons_succ, i64_w, i32_w]
                rfl
              refine one_ (i := 2) (N := some 46) #[true, true, true, false, false, false, false, false, false] rfl rfl (one_of HT_.out (by kernel_rfl)) (by decide) (fun K hK => ?_)
              refine goes_ Try.func25 (by kernel_rfl) rfl #[.agg #[.int .i64 a0_0, .int .i64 a0_1, .int .i64 a0_2, .int .i64 a0_3], .agg #[.int .i64 a1_0, .int .i64 a1_1, .int .i64 a1_2, .int .i64 a1_3]] (by rfl) rfl rfl (by (try simp only [List.map_toArray, List.map_cons, List.map_nil]); first | done | rfl | (simp only [List.length_drop, List.length_take]; rfl)) ?_
              with_reducible refine (rect_Within.calls a0_0 a0_1 a0_2 a0_3 a1_0 a1_1 a1_2 a1_3 false _ A47.out).mono ?_
              rintro e w54 ⟨rfl, hb⟩
              refine ⟨_, rfl, ?_⟩
              have n0_ := Aside0.mk (blk_below (g := gb543) (o := .cells #[.int .i64 a0_0, .int .i64 a0_1, .int .i64 a0_2, .int .i64 a0_3] 26 (0, 0)) (by (with_reducible repeat (first | refine blk_drewN ?_ _ | refine blk_drew ?_ | refine blk_alloc ?_ _)); exact BK543.out) hb)
              have n1_ := Aside0.mk (blk_below (g := gb544) (o := .cells #[.int .i64 a1_0, .int .i64 a1_1, .int .i64 a1_2, .int .i64 a1_3] 26 (0, 0)) (by (with_reducible repeat (first | refine blk_drewN ?_ _ | refine blk_drew ?_ | refine blk_alloc ?_ _)); exact BK544.out) hb)
              have n2_ := Aside0.mk (blk_below (g := gb550) (o := .cells #[.int .i64 t546, .int .i64 t547, .int .i64 t548, .int .i64 t549] 26 (0, 0)) (by (with_reducible repeat (first | refine blk_drewN ?_ _ | refine blk_drew ?_ | refine blk_alloc ?_ _)); exact BK550.out) hb)
              have n3_ := Aside0.mk (below_step (by repeat (first | (with_reducible first | exact HB.out | apply below_alloc | apply pw_below_drewN | apply below_drew1 | refine below_set ?_ GE543.out | refine below_set ?_ GE544.out | refine below_set ?_ GE550.out) | exact HB.out)) hb)
              clear BK543
              clear BK544
              clear BK550
              clear HB
              have BK543 := n0_
              have BK544 := n1_
              have BK550 := n2_
              have HB := n3_
              clear n0_ n1_ n2_ n3_
              (try clear hb)
              (try clear hb2)
              (try clear hk)
              (try clear hi)
              refine hK.out _ _ ⟨(blk_cell BK543.out 0).trans rfl, (blk_cell BK543.out 1).trans rfl, (blk_cell BK543.out 2).trans rfl, (blk_cell BK543.out 3).trans rfl, (blk_cell BK544.out 0).trans rfl, (blk_cell BK544.out 1).trans rfl, (blk_cell BK544.out 2).trans rfl, (blk_cell BK544.out 3).trans rfl⟩ (fun hHeld => ?_)
              clear hK K
              refine norm_ (a' := ?_) ?_ ?_
              rotate_left
              · show Act.put _ (some 46) _ = _
                simp only [Act.put, List.setIfInBounds_toArray, List.set_cons_zero, List.set_cons_succ, i64_w, i32_w]
                rfl
              refine pure_ (i := 3) (N := some 47) (v := ?_) (a' := ?_) #[true, true, true, true, false, false, false, false, false] rfl rfl (any_of HT_.out (by kernel_rfl)) (fun _ _ _ h => h) (Or.inl ⟨by rfl, ?_⟩) ?_ ?_
              rotate_left
              · intro w'
                go_simp
                with_reducible rfl
              rotate_left
              · simp only [Act.put, List.setIfInBounds_toArray, List.set_cons_zero, List.set_cons_succ, i64_w, i32_w]
                rfl
              refine pure_ (i := 4) (N := some 48) (v := undef) (a' := ?_) #[true, true, true, true, true, false, false, false, false] rfl rfl (any_of HT_.out (by kernel_rfl)) (fun _ _ _ h => h) (Or.inr ⟨by rfl, rfl⟩) ?_ ?_
              rotate_left
              · simp only [Act.put, List.setIfInBounds_toArray, List.set_cons_zero, List.set_cons_succ, i64_w, i32_w]
                rfl
              refine pure_ (i := 5) (N := some 49) (v := undef) (a' := ?_) #[true, true, true, true, true, true, false, false, false] rfl rfl (any_of HT_.out (by kernel_rfl)) (fun _ _ _ h => h) (Or.inr ⟨by rfl, rfl⟩) ?_ ?_
              rotate_left
              · simp only [Act.put, List.setIfInBounds_toArray, List.set_cons_zero, List.set_cons_succ, i64_w, i32_w]
                rfl
              refine pure_ (i := 6) (N := some 50) (v := undef) (a' := ?_) #[true, true, true, true, true, true, true, false, false] rfl rfl (any_of HT_.out (by kernel_rfl)) (fun _ _ _ h => h) (Or.inr ⟨by rfl, rfl⟩) ?_ ?_
              rotate_left
              · simp only [Act.put, List.setIfInBounds_toArray, List.set_cons_zero, List.set_cons_succ, i64_w, i32_w]
                rfl
              refine pure_ (i := 7) (N := some 51) (v := undef) (a' := ?_) #[true, true, true, true, true, true, true, true, false] rfl rfl (any_of HT_.out (by kernel_rfl)) (fun _ _ _ h => h) (Or.inr ⟨by rfl, rfl⟩) ?_ ?_
              rotate_left
              · simp only [Act.put, List.setIfInBounds_toArray, List.set_cons_zero, List.set_cons_succ, i64_w, i32_w]
                rfl
              refine pure_ (i := 8) (N := some 52) (v := ?_) (a' := ?_) #[true, true, true, true, true, true, true, true, true] rfl rfl (any_of HT_.out (by kernel_rfl)) (fun _ _ _ h => h) (Or.inl ⟨by rfl, ?_⟩) ?_ ?_
              rotate_left
              · intro w'
                go_simp
                with_reducible rfl
              rotate_left
              · simp only [Act.put, List.setIfInBounds_toArray, List.set_cons_zero, List.set_cons_succ, i64_w, i32_w]
                rfl
              refine done_ (done_of HT_.out (by kernel_rfl)) ?_
              try go_wp2
              go_meet
              case rel => exact ⟨_, (false), (by first | rfl | (simp; done) | (simp [*]; done)), H', ⟨by have := HJ7.out; first | omega | exact Nat.le_refl _⟩, ⟨by (with_reducible repeat (first | refine blk_drewN ?_ _ | refine blk_drew ?_ | refine blk_alloc ?_ _)); exact BK543.out⟩, ⟨by (with_reducible repeat (first | refine blk_drewN ?_ _ | refine blk_drew ?_ | refine blk_alloc ?_ _)); exact BK544.out⟩, ⟨by (with_reducible repeat (first | refine blk_drewN ?_ _ | refine blk_drew ?_ | refine blk_alloc ?_ _)); exact BK550.out⟩, ⟨by repeat (first | (with_reducible first | exact HB.out | apply below_alloc | apply pw_below_drewN | apply below_drew1 | refine below_set ?_ GE543.out | refine below_set ?_ GE544.out | refine below_set ?_ GE550.out) | exact HB.out)⟩⟩
          case rest =>
            clear HC46
            try clear c2
            try clear p2
            try clear c3
            try clear c4
            try clear c20
            try clear c21
            try clear c25
            try clear c29
            try clear c29b0
            try clear c33
            try clear c45
            try clear c48
            try clear p2
            obtain ⟨kq, x52_45, rfl, HA, HJ45, BK543, BK544, BK550, HB⟩ := hcut
            cases kq with
            | zero => exact absurd HA.out (by simp [casementlaw02_RectInto.j1])
            | succ kj45 =>
              have H := HA.out
              clear HA
              simp only [casementlaw02_RectInto.j1] at H
              by_cases c55 : x52_45 = true
              · subst c55
                have H1 : (some false) = some r := by rw [if_pos rfl] at H; exact H
                clear H
                have H := H1
                clear H1
                exact absurd ((Option.some.inj H).trans HRT.out) (by decide)
              · replace c55 := Bool.eq_false_iff.mpr c55
                subst c55
                have H1 : ((rect_Shift.f kj45 a0_0 a0_1 a0_2 a0_3 a2 a3).bind fun bt569 => ((rect_Clean.f a0_0 a0_1 a0_2 a0_3).bind fun bt574 => ((casementlaw02_far.f a2).bind fun t579 => (if t579 = true then (casementlaw02_RectInto.j2 kj45 a2 false a0_0 a0_1 a0_2 a0_3) else ((casementlaw02_far.f a3).bind fun t580 => (if t580 = true then (casementlaw02_RectInto.j2 kj45 a2 false a0_0 a0_1 a0_2 a0_3) else ((casementlaw02_far.f bt574.1).bind fun t581 => (if t581 = true then (casementlaw02_RectInto.j2 kj45 a2 false a0_0 a0_1 a0_2 a0_3) else ((casementlaw02_far.f bt574.2.1).bind fun t582 => (if t582 = true then (casementlaw02_RectInto.j2 kj45 a2 false a0_0 a0_1 a0_2 a0_3) else (if bt569.2.2.1 = bt574.2.2.1 then (if bt569.2.2.2 = bt574.2.2.2 then (if bt574.2.2.1 > 0 then (if bt569.1 = (wrap64 (bt574.1 + a2)) then (casementlaw02_RectInto.j2 kj45 a2 (bt569.2.1 != (wrap64 (bt574.2.1 + a3))) a0_0 a0_1 a0_2 a0_3) else (casementlaw02_RectInto.j2 kj45 a2 true a0_0 a0_1 a0_2 a0_3)) else (casementlaw02_RectInto.j2 kj45 a2 false a0_0 a0_1 a0_2 a0_3)) else (casementlaw02_RectInto.j2 kj45 a2 true a0_0 a0_1 a0_2 a0_3)) else (casementlaw02_RectInto.j2 kj45 a2 true a0_0 a0_1 a0_2 a0_3)))))))))))) = some r := by rw [if_neg (show ¬ (false = true) by decide)] at H; exact H
                clear H
                have H := H1
                clear H1
                replace H := Option.bind_eq_some_iff.mp H
                obtain ⟨⟨t569, t570, t571, t572⟩, A560, H⟩ := H
                replace H : ((rect_Clean.f a0_0 a0_1 a0_2 a0_3).bind fun bt574 => ((casementlaw02_far.f a2).bind fun t579 => (if t579 = true then (casementlaw02_RectInto.j2 kj45 a2 false a0_0 a0_1 a0_2 a0_3) else ((casementlaw02_far.f a3).bind fun t580 => (if t580 = true then (casementlaw02_RectInto.j2 kj45 a2 false a0_0 a0_1 a0_2 a0_3) else ((casementlaw02_far.f bt574.1).bind fun t581 => (if t581 = true then (casementlaw02_RectInto.j2 kj45 a2 false a0_0 a0_1 a0_2 a0_3) else ((casementlaw02_far.f bt574.2.1).bind fun t582 => (if t582 = true then (casementlaw02_RectInto.j2 kj45 a2 false a0_0 a0_1 a0_2 a0_3) else (if t571 = bt574.2.2.1 then (if t572 = bt574.2.2.2 then (if bt574.2.2.1 > 0 then (if t569 = (wrap64 (bt574.1 + a2)) then (casementlaw02_RectInto.j2 kj45 a2 (t570 != (wrap64 (bt574.2.1 + a3))) a0_0 a0_1 a0_2 a0_3) else (casementlaw02_RectInto.j2 kj45 a2 true a0_0 a0_1 a0_2 a0_3)) else (casementlaw02_RectInto.j2 kj45 a2 false a0_0 a0_1 a0_2 a0_3)) else (casementlaw02_RectInto.j2 kj45 a2 true a0_0 a0_1 a0_2 a0_3)) else (casementlaw02_RectInto.j2 kj45 a2 true a0_0 a0_1 a0_2 a0_3))))))))))) = some r := H
                have A56 := Aside0.mk A560
                clear A560
                replace H := Option.bind_eq_some_iff.mp H
                obtain ⟨⟨t574, t575, t576, t577⟩, A570, H⟩ := H
                replace H : ((casementlaw02_far.f a2).bind fun t579 => (if t579 = true then (casementlaw02_RectInto.j2 kj45 a2 false a0_0 a0_1 a0_2 a0_3) else ((casementlaw02_far.f a3).bind fun t580 => (if t580 = true then (casementlaw02_RectInto.j2 kj45 a2 false a0_0 a0_1 a0_2 a0_3) else ((casementlaw02_far.f t574).bind fun t581 => (if t581 = true then (casementlaw02_RectInto.j2 kj45 a2 false a0_0 a0_1 a0_2 a0_3) else ((casementlaw02_far.f t575).bind fun t582 => (if t582 = true then (casementlaw02_RectInto.j2 kj45 a2 false a0_0 a0_1 a0_2 a0_3) else (if t571 = t576 then (if t572 = t577 then (if t576 > 0 then (if t569 = (wrap64 (t574 + a2)) then (casementlaw02_RectInto.j2 kj45 a2 (t570 != (wrap64 (t575 + a3))) a0_0 a0_1 a0_2 a0_3) else (casementlaw02_RectInto.j2 kj45 a2 true a0_0 a0_1 a0_2 a0_3)) else (casementlaw02_RectInto.j2 kj45 a2 false a0_0 a0_1 a0_2 a0_3)) else (casementlaw02_RectInto.j2 kj45 a2 true a0_0 a0_1 a0_2 a0_3)) else (casementlaw02_RectInto.j2 kj45 a2 true a0_0 a0_1 a0_2 a0_3)))))))))) = some r := H
                have A57 := Aside0.mk A570
                clear A570
                have HC58 := Aside0.mk H
                clear H
                have hnb59 := NB543_544.out
                have hnc59 := NB544_543.out
                have hnb60 := NB543_550.out
                have hnc60 := NB550_543.out
                have hcz61_0 : wc.cell? ⟨gb543, 0, none⟩ = some (.int .i64 a0_0) := (blk_cell BK543.out 0).trans rfl
                have hcz61_1 : wc.cell? ⟨gb543, 1, none⟩ = some (.int .i64 a0_1) := (blk_cell BK543.out 1).trans rfl
                have hcz61_2 : wc.cell? ⟨gb543, 2, none⟩ = some (.int .i64 a0_2) := (blk_cell BK543.out 2).trans rfl
                have hcz61_3 : wc.cell? ⟨gb543, 3, none⟩ = some (.int .i64 a0_3) := (blk_cell BK543.out 3).trans rfl
                have hfz61_0 := blk_frozen BK543.out 0
                have hfz61_1 := blk_frozen BK543.out 1
                have hfz61_2 := blk_frozen BK543.out 2
                have hfz61_3 := blk_frozen BK543.out 3
                go_upto_region 10 with (first | ((with_reducible refine gate_callee (f := 28) rfl ?_); refine goesL_ (some 56) rfl rfl Try.func28 (by kernel_rfl) rfl #[.agg #[.int .i64 a0_0, .int .i64 a0_1, .int .i64 a0_2, .int .i64 a0_3], .int .i64 a2, .int .i64 a3] rfl (by (try simp only [List.map_toArray, List.map_cons, List.map_nil]); first | done | rfl | (simp only [List.length_drop, List.length_take]; rfl)) ?_; (with_reducible refine (rect_Shift.calls kj45 a0_0 a0_1 a0_2 a0_3 a2 a3 t569 t570 t571 t572 _ A56.out).mono ?_); rintro e w62 ⟨rfl, hb⟩; refine ⟨_, rfl, ?_⟩; have n0_ := Aside0.mk (blk_below (g := gb543) (o := .cells #[.int .i64 a0_0, .int .i64 a0_1, .int .i64 a0_2, .int .i64 a0_3] 26 (0, 0)) (by (with_reducible repeat (first | refine blk_drewN ?_ _ | refine blk_drew ?_ | refine blk_alloc ?_ _)); exact BK543.out) hb); have n1_ := Aside0.mk (blk_below (g := gb544) (o := .cells #[.int .i64 a1_0, .int .i64 a1_1, .int .i64 a1_2, .int .i64 a1_3] 26 (0, 0)) (by (with_reducible repeat (first | refine blk_drewN ?_ _ | refine blk_drew ?_ | refine blk_alloc ?_ _)); exact BK544.out) hb); have n2_ := Aside0.mk (blk_below (g := gb550) (o := .cells #[.int .i64 t546, .int .i64 t547, .int .i64 t548, .int .i64 t549] 26 (0, 0)) (by (with_reducible repeat (first | refine blk_drewN ?_ _ | refine blk_drew ?_ | refine blk_alloc ?_ _)); exact BK550.out) hb); have n3_ := Aside0.mk (below_step (by repeat (first | (with_reducible first | exact HB.out | apply below_alloc | apply pw_below_drewN | apply below_drew1 | refine below_set ?_ GE543.out | refine below_set ?_ GE544.out | refine below_set ?_ GE550.out) | exact HB.out)) hb); clear BK543; clear BK544; clear BK550; clear HB; have BK543 := n0_; have BK544 := n1_; have BK550 := n2_; have HB := n3_; clear n0_ n1_ n2_ n3_; (try clear hb); (try clear hb2); (try clear hk); (try clear hi)) | ((with_reducible refine gate_dst (N := 10) rfl ?_); refine box_event ?hg (N := 10) ?hd (cs := #[.int .i64 0, .int .i64 0, .int .i64 0, .int .i64 0]) (t := 26) ?hr ?_; (case hd => rfl); (case hg => rfl); (case hr => first | (go_simp; done) | (go_simp; rfl)); intro gb573 hg w63 hbox hb; have n0_ := Aside0.mk (blk_below (g := gb543) (o := .cells #[.int .i64 a0_0, .int .i64 a0_1, .int .i64 a0_2, .int .i64 a0_3] 26 (0, 0)) (by (with_reducible repeat (first | refine blk_drewN ?_ _ | refine blk_drew ?_ | refine blk_alloc ?_ _)); exact BK543.out) hb); have n1_ := Aside0.mk (blk_below (g := gb544) (o := .cells #[.int .i64 a1_0, .int .i64 a1_1, .int .i64 a1_2, .int .i64 a1_3] 26 (0, 0)) (by (with_reducible repeat (first | refine blk_drewN ?_ _ | refine blk_drew ?_ | refine blk_alloc ?_ _)); exact BK544.out) hb); have n2_ := Aside0.mk (blk_below (g := gb550) (o := .cells #[.int .i64 t546, .int .i64 t547, .int .i64 t548, .int .i64 t549] 26 (0, 0)) (by (with_reducible repeat (first | refine blk_drewN ?_ _ | refine blk_drew ?_ | refine blk_alloc ?_ _)); exact BK550.out) hb); have n3_ := Aside0.mk (below_step (by repeat (first | (with_reducible first | exact HB.out | apply below_alloc | apply pw_below_drewN | apply below_drew1 | refine below_set ?_ GE543.out | refine below_set ?_ GE544.out | refine below_set ?_ GE550.out) | exact HB.out)) hb); have n4_ := Aside0.mk (hbox); have n5_ := Aside0.mk ((by rw [hg]; exact (below_size (by repeat (first | (with_reducible first | exact HB.out | apply below_alloc | apply pw_below_drewN | apply below_drew1 | refine below_set ?_ GE543.out | refine below_set ?_ GE544.out | refine below_set ?_ GE550.out) | exact HB.out))) : w.heap.size ≤ gb573)); have n6_ := Aside0.mk ((by rw [hg]; exact (below_size (by repeat (first | (with_reducible first | exact HB.out | apply below_alloc | apply pw_below_drewN | apply below_drew1 | refine below_set ?_ GE543.out | refine below_set ?_ GE544.out | refine below_set ?_ GE550.out) | exact HB.out))) : w.heap.size ≤ gb573)); have n7_ := Aside0.mk ((by rw [hg]; exact Nat.ne_of_lt (blk_lt (g := gb543) (o := .cells #[.int .i64 a0_0, .int .i64 a0_1, .int .i64 a0_2, .int .i64 a0_3] 26 (0, 0)) (by (with_reducible repeat (first | refine blk_drewN ?_ _ | refine blk_drew ?_ | refine blk_alloc ?_ _)); exact BK543.out)) : gb543 ≠ gb573)); have n8_ := Aside0.mk ((by rw [hg]; exact Nat.ne_of_gt (blk_lt (g := gb543) (o := .cells #[.int .i64 a0_0, .int .i64 a0_1, .int .i64 a0_2, .int .i64 a0_3] 26 (0, 0)) (by (with_reducible repeat (first | refine blk_drewN ?_ _ | refine blk_drew ?_ | refine blk_alloc ?_ _)); exact BK543.out)) : gb573 ≠ gb543)); have n9_ := Aside0.mk ((by rw [hg]; exact Nat.ne_of_lt (blk_lt (g := gb544) (o := .cells #[.int .i64 a1_0, .int .i64 a1_1, .int .i64 a1_2, .int .i64 a1_3] 26 (0, 0)) (by (with_reducible repeat (first | refine blk_drewN ?_ _ | refine blk_drew ?_ | refine blk_alloc ?_ _)); exact BK544.out)) : gb544 ≠ gb573)); have n10_ := Aside0.mk ((by rw [hg]; exact Nat.ne_of_gt (blk_lt (g := gb544) (o := .cells #[.int .i64 a1_0, .int .i64 a1_1, .int .i64 a1_2, .int .i64 a1_3] 26 (0, 0)) (by (with_reducible repeat (first | refine blk_drewN ?_ _ | refine blk_drew ?_ | refine blk_alloc ?_ _)); exact BK544.out)) : gb573 ≠ gb544)); have n11_ := Aside0.mk ((by rw [hg]; exact Nat.ne_of_lt (blk_lt (g := gb550) (o := .cells #[.int .i64 t546, .int .i64 t547, .int .i64 t548, .int .i64 t549] 26 (0, 0)) (by (with_reducible repeat (first | refine blk_drewN ?_ _ | refine blk_drew ?_ | refine blk_alloc ?_ _)); exact BK550.out)) : gb550 ≠ gb573)); have n12_ := Aside0.mk ((by rw [hg]; exact Nat.ne_of_gt (blk_lt (g := gb550) (o := .cells #[.int .i64 t546, .int .i64 t547, .int .i64 t548, .int .i64 t549] 26 (0, 0)) (by (with_reducible repeat (first | refine blk_drewN ?_ _ | refine blk_drew ?_ | refine blk_alloc ?_ _)); exact BK550.out)) : gb573 ≠ gb550)); clear BK543; clear BK544; clear BK550; clear HB; have BK543 := n0_; have BK544 := n1_; have BK550 := n2_; have HB := n3_; have BK573 := n4_; have GW573 := n5_; have GE573 := n6_; have NB543_573 := n7_; have NB573_543 := n8_; have NB544_573 := n9_; have NB573_544 := n10_; have NB550_573 := n11_; have NB573_550 := n12_; clear n0_ n1_ n2_ n3_ n4_ n5_ n6_ n7_ n8_ n9_ n10_ n11_ n12_; clear hb hbox hg; have hnb64 := NB573_543.out; have hnc64 := NB543_573.out; have hnb65 := NB573_544.out; have hnc65 := NB544_573.out; have hnb66 := NB573_550.out; have hnc66 := NB550_573.out; have hcz67_0 : w63.cell? ⟨gb573, 0, none⟩ = some (.int .i64 0) := (blk_cell BK573.out 0).trans rfl; have hcz67_1 : w63.cell? ⟨gb573, 1, none⟩ = some (.int .i64 0) := (blk_cell BK573.out 1).trans rfl; have hcz67_2 : w63.cell? ⟨gb573, 2, none⟩ = some (.int .i64 0) := (blk_cell BK573.out 2).trans rfl; have hcz67_3 : w63.cell? ⟨gb573, 3, none⟩ = some (.int .i64 0) := (blk_cell BK573.out 3).trans rfl; have hfz67_0 := blk_frozen BK573.out 0; have hfz67_1 := blk_frozen BK573.out 1; have hfz67_2 := blk_frozen BK573.out 2; have hfz67_3 := blk_frozen BK573.out 3; have hcz68_0 : w63.cell? ⟨gb543, 0, none⟩ = some (.int .i64 a0_0) := (blk_cell BK543.out 0).trans rfl; have hcz68_1 : w63.cell? ⟨gb543, 1, none⟩ = some (.int .i64 a0_1) := (blk_cell BK543.out 1).trans rfl; have hcz68_2 : w63.cell? ⟨gb543, 2, none⟩ = some (.int .i64 a0_2) := (blk_cell BK543.out 2).trans rfl; have hcz68_3 : w63.cell? ⟨gb543, 3, none⟩ = some (.int .i64 a0_3) := (blk_cell BK543.out 3).trans rfl; have hfz68_0 := blk_frozen BK543.out 0; have hfz68_1 := blk_frozen BK543.out 1; have hfz68_2 := blk_frozen BK543.out 2; have hfz68_3 := blk_frozen BK543.out 3) | ((with_reducible refine gate_callee (f := 20) rfl ?_); refine goesL_ (some 58) rfl rfl Try.func20 (by kernel_rfl) rfl #[.agg #[.int .i64 a0_0, .int .i64 a0_1, .int .i64 a0_2, .int .i64 a0_3]] rfl (by (try simp only [List.map_toArray, List.map_cons, List.map_nil]); first | done | rfl | (simp only [List.length_drop, List.length_take]; rfl)) ?_; (with_reducible refine (rect_Clean.calls a0_0 a0_1 a0_2 a0_3 t574 t575 t576 t577 _ A57.out).mono ?_); rintro e w69 ⟨rfl, hb⟩; refine ⟨_, rfl, ?_⟩; have n0_ := Aside0.mk (blk_below (g := gb543) (o := .cells #[.int .i64 a0_0, .int .i64 a0_1, .int .i64 a0_2, .int .i64 a0_3] 26 (0, 0)) (by (with_reducible repeat (first | refine blk_drewN ?_ _ | refine blk_drew ?_ | refine blk_alloc ?_ _)); refine blk_far ?_ NB543_573.out _; (with_reducible repeat (first | refine blk_drewN ?_ _ | refine blk_drew ?_ | refine blk_alloc ?_ _)); refine blk_far ?_ NB543_573.out _; (with_reducible repeat (first | refine blk_drewN ?_ _ | refine blk_drew ?_ | refine blk_alloc ?_ _)); refine blk_far ?_ NB543_573.out _; (with_reducible repeat (first | refine blk_drewN ?_ _ | refine blk_drew ?_ | refine blk_alloc ?_ _)); refine blk_far ?_ NB543_573.out _; (with_reducible repeat (first | refine blk_drewN ?_ _ | refine blk_drew ?_ | refine blk_alloc ?_ _)); exact BK543.out) hb); have n1_ := Aside0.mk (blk_below (g := gb544) (o := .cells #[.int .i64 a1_0, .int .i64 a1_1, .int .i64 a1_2, .int .i64 a1_3] 26 (0, 0)) (by (with_reducible repeat (first | refine blk_drewN ?_ _ | refine blk_drew ?_ | refine blk_alloc ?_ _)); refine blk_far ?_ NB544_573.out _; (with_reducible repeat (first | refine blk_drewN ?_ _ | refine blk_drew ?_ | refine blk_alloc ?_ _)); refine blk_far ?_ NB544_573.out _; (with_reducible repeat (first | refine blk_drewN ?_ _ | refine blk_drew ?_ | refine blk_alloc ?_ _)); refine blk_far ?_ NB544_573.out _; (with_reducible repeat (first | refine blk_drewN ?_ _ | refine blk_drew ?_ | refine blk_alloc ?_ _)); refine blk_far ?_ NB544_573.out _; (with_reducible repeat (first | refine blk_drewN ?_ _ | refine blk_drew ?_ | refine blk_alloc ?_ _)); exact BK544.out) hb); have n2_ := Aside0.mk (blk_below (g := gb550) (o := .cells #[.int .i64 t546, .int .i64 t547, .int .i64 t548, .int .i64 t549] 26 (0, 0)) (by (with_reducible repeat (first | refine blk_drewN ?_ _ | refine blk_drew ?_ | refine blk_alloc ?_ _)); refine blk_far ?_ NB550_573.out _; (with_reducible repeat (first | refine blk_drewN ?_ _ | refine blk_drew ?_ | refine blk_alloc ?_ _)); refine blk_far ?_ NB550_573.out _; (with_reducible repeat (first | refine blk_drewN ?_ _ | refine blk_drew ?_ | refine blk_alloc ?_ _)); refine blk_far ?_ NB550_573.out _; (with_reducible repeat (first | refine blk_drewN ?_ _ | refine blk_drew ?_ | refine blk_alloc ?_ _)); refine blk_far ?_ NB550_573.out _; (with_reducible repeat (first | refine blk_drewN ?_ _ | refine blk_drew ?_ | refine blk_alloc ?_ _)); exact BK550.out) hb); have n3_ := Aside0.mk (blk_below (g := gb573) (o := .cells #[.int .i64 t569, .int .i64 t570, .int .i64 t571, .int .i64 t572] 26 (0, 0)) (by (with_reducible repeat (first | refine blk_drewN ?_ _ | refine blk_drew ?_ | refine blk_alloc ?_ _)); refine blk_put (cs := #[.int .i64 t569, .int .i64 t570, .int .i64 t571, .int .i64 0]) ?_ 3 _ rfl; (with_reducible repeat (first | refine blk_drewN ?_ _ | refine blk_drew ?_ | refine blk_alloc ?_ _)); refine blk_put (cs := #[.int .i64 t569, .int .i64 t570, .int .i64 0, .int .i64 0]) ?_ 2 _ rfl; (with_reducible repeat (first | refine blk_drewN ?_ _ | refine blk_drew ?_ | refine blk_alloc ?_ _)); refine blk_put (cs := #[.int .i64 t569, .int .i64 0, .int .i64 0, .int .i64 0]) ?_ 1 _ rfl; (with_reducible repeat (first | refine blk_drewN ?_ _ | refine blk_drew ?_ | refine blk_alloc ?_ _)); refine blk_put (cs := #[.int .i64 0, .int .i64 0, .int .i64 0, .int .i64 0]) ?_ 0 _ rfl; (with_reducible repeat (first | refine blk_drewN ?_ _ | refine blk_drew ?_ | refine blk_alloc ?_ _)); exact BK573.out) hb); have n4_ := Aside0.mk (below_step (by repeat (first | (with_reducible first | exact HB.out | apply below_alloc | apply pw_below_drewN | apply below_drew1 | refine below_set ?_ GE543.out | refine below_set ?_ GE544.out | refine below_set ?_ GE550.out | refine below_set ?_ GE573.out) | exact HB.out)) hb); clear BK543; clear BK544; clear BK550; clear BK573; clear HB; have BK543 := n0_; have BK544 := n1_; have BK550 := n2_; have BK573 := n3_; have HB := n4_; clear n0_ n1_ n2_ n3_ n4_; (try clear hb); (try clear hb2); (try clear hk); (try clear hi)) | ((with_reducible refine gate_dst (N := 11) rfl ?_); refine box_event ?hg (N := 11) ?hd (cs := #[.int .i64 0, .int .i64 0, .int .i64 0, .int .i64 0]) (t := 26) ?hr ?_; (case hd => rfl); (case hg => rfl); (case hr => first | (go_simp; done) | (go_simp; rfl)); intro gb578 hg w70 hbox hb; have n0_ := Aside0.mk (blk_below (g := gb543) (o := .cells #[.int .i64 a0_0, .int .i64 a0_1, .int .i64 a0_2, .int .i64 a0_3] 26 (0, 0)) (by (with_reducible repeat (first | refine blk_drewN ?_ _ | refine blk_drew ?_ | refine blk_alloc ?_ _)); exact BK543.out) hb); have n1_ := Aside0.mk (blk_below (g := gb544) (o := .cells #[.int .i64 a1_0, .int .i64 a1_1, .int .i64 a1_2, .int .i64 a1_3] 26 (0, 0)) (by (with_reducible repeat (first | refine blk_drewN ?_ _ | refine blk_drew ?_ | refine blk_alloc ?_ _)); exact BK544.out) hb); have n2_ := Aside0.mk (blk_below (g := gb550) (o := .cells #[.int .i64 t546, .int .i64 t547, .int .i64 t548, .int .i64 t549] 26 (0, 0)) (by (with_reducible repeat (first | refine blk_drewN ?_ _ | refine blk_drew ?_ | refine blk_alloc ?_ _)); exact BK550.out) hb); have n3_ := Aside0.mk (blk_below (g := gb573) (o := .cells #[.int .i64 t569, .int .i64 t570, .int .i64 t571, .int .i64 t572] 26 (0, 0)) (by (with_reducible repeat (first | refine blk_drewN ?_ _ | refine blk_drew ?_ | refine blk_alloc ?_ _)); exact BK573.out) hb); have n4_ := Aside0.mk (below_step (by repeat (first | (with_reducible first | exact HB.out | apply below_alloc | apply pw_below_drewN | apply below_drew1 | refine below_set ?_ GE543.out | refine below_set ?_ GE544.out | refine below_set ?_ GE550.out | refine below_set ?_ GE573.out) | exact HB.out)) hb); have n5_ := Aside0.mk (hbox); have n6_ := Aside0.mk ((by rw [hg]; exact (below_size (by repeat (first | (with_reducible first | exact HB.out | apply below_alloc | apply pw_below_drewN | apply below_drew1 | refine below_set ?_ GE543.out | refine below_set ?_ GE544.out | refine below_set ?_ GE550.out | refine below_set ?_ GE573.out) | exact HB.out))) : w.heap.size ≤ gb578)); have n7_ := Aside0.mk ((by rw [hg]; exact (below_size (by repeat (first | (with_reducible first | exact HB.out | apply below_alloc | apply pw_below_drewN | apply below_drew1 | refine below_set ?_ GE543.out | refine below_set ?_ GE544.out | refine below_set ?_ GE550.out | refine below_set ?_ GE573.out) | exact HB.out))) : w.heap.size ≤ gb578)); have n8_ := Aside0.mk ((by rw [hg]; exact Nat.ne_of_lt (blk_lt (g := gb543) (o := .cells #[.int .i64 a0_0, .int .i64 a0_1, .int .i64 a0_2, .int .i64 a0_3] 26 (0, 0)) (by (with_reducible repeat (first | refine blk_drewN ?_ _ | refine blk_drew ?_ | refine blk_alloc ?_ _)); exact BK543.out)) : gb543 ≠ gb578)); have n9_ := Aside0.mk ((by rw [hg]; exact Nat.ne_of_gt (blk_lt (g := gb543) (o := .cells #[.int .i64 a0_0, .int .i64 a0_1, .int .i64 a0_2, .int .i64 a0_3] 26 (0, 0)) (by (with_reducible repeat (first | refine blk_drewN ?_ _ | refine blk_drew ?_ | refine blk_alloc ?_ _)); exact BK543.out)) : gb578 ≠ gb543)); have n10_ := Aside0.mk ((by rw [hg]; exact Nat.ne_of_lt (blk_lt (g := gb544) (o := .cells #[.int .i64 a1_0, .int .i64 a1_1, .int .i64 a1_2, .int .i64 a1_3] 26 (0, 0)) (by (with_reducible repeat (first | refine blk_drewN ?_ _ | refine blk_drew ?_ | refine blk_alloc ?_ _)); exact BK544.out)) : gb544 ≠ gb578)); have n11_ := Aside0.mk ((by rw [hg]; exact Nat.ne_of_gt (blk_lt (g := gb544) (o := .cells #[.int .i64 a1_0, .int .i64 a1_1, .int .i64 a1_2, .int .i64 a1_3] 26 (0, 0)) (by (with_reducible repeat (first | refine blk_drewN ?_ _ | refine blk_drew ?_ | refine blk_alloc ?_ _)); exact BK544.out)) : gb578 ≠ gb544)); have n12_ := Aside0.mk ((by rw [hg]; exact Nat.ne_of_lt (blk_lt (g := gb550) (o := .cells #[.int .i64 t546, .int .i64 t547, .int .i64 t548, .int .i64 t549] 26 (0, 0)) (by (with_reducible repeat (first | refine blk_drewN ?_ _ | refine blk_drew ?_ | refine blk_alloc ?_ _)); exact BK550.out)) : gb550 ≠ gb578)); have n13_ := Aside0.mk ((by rw [hg]; exact Nat.ne_of_gt (blk_lt (g := gb550) (o := .cells #[.int .i64 t546, .int .i64 t547, .int .i64 t548, .int .i64 t549] 26 (0, 0)) (by (with_reducible repeat (first | refine blk_drewN ?_ _ | refine blk_drew ?_ | refine blk_alloc ?_ _)); exact BK550.out)) : gb578 ≠ gb550)); have n14_ := Aside0.mk ((by rw [hg]; exact Nat.ne_of_lt (blk_lt (g := gb573) (o := .cells #[.int .i64 t569, .int .i64 t570, .int .i64 t571, .int .i64 t572] 26 (0, 0)) (by (with_reducible repeat (first | refine blk_drewN ?_ _ | refine blk_drew ?_ | refine blk_alloc ?_ _)); exact BK573.out)) : gb573 ≠ gb578)); have n15_ := Aside0.mk ((by rw [hg]; exact Nat.ne_of_gt (blk_lt (g := gb573) (o := .cells #[.int .i64 t569, .int .i64 t570, .int .i64 t571, .int .i64 t572] 26 (0, 0)) (by (with_reducible repeat (first | refine blk_drewN ?_ _ | refine blk_drew ?_ | refine blk_alloc ?_ _)); exact BK573.out)) : gb578 ≠ gb573)); clear BK543; clear BK544; clear BK550; clear BK573; clear HB; have BK543 := n0_; have BK544 := n1_; have BK550 := n2_; have BK573 := n3_; have HB := n4_; have BK578 := n5_; have GW578 := n6_; have GE578 := n7_; have NB543_578 := n8_; have NB578_543 := n9_; have NB544_578 := n10_; have NB578_544 := n11_; have NB550_578 := n12_; have NB578_550 := n13_; have NB573_578 := n14_; have NB578_573 := n15_; clear n0_ n1_ n2_ n3_ n4_ n5_ n6_ n7_ n8_ n9_ n10_ n11_ n12_ n13_ n14_ n15_; clear hb hbox hg; have hnb71 := NB578_543.out; have hnc71 := NB543_578.out; have hnb72 := NB578_544.out; have hnc72 := NB544_578.out; have hnb73 := NB578_550.out; have hnc73 := NB550_578.out; have hnb74 := NB578_573.out; have hnc74 := NB573_578.out; have hcz75_0 : w70.cell? ⟨gb578, 0, none⟩ = some (.int .i64 0) := (blk_cell BK578.out 0).trans rfl; have hcz75_1 : w70.cell? ⟨gb578, 1, none⟩ = some (.int .i64 0) := (blk_cell BK578.out 1).trans rfl; have hcz75_2 : w70.cell? ⟨gb578, 2, none⟩ = some (.int .i64 0) := (blk_cell BK578.out 2).trans rfl; have hcz75_3 : w70.cell? ⟨gb578, 3, none⟩ = some (.int .i64 0) := (blk_cell BK578.out 3).trans rfl; have hfz75_0 := blk_frozen BK578.out 0; have hfz75_1 := blk_frozen BK578.out 1; have hfz75_2 := blk_frozen BK578.out 2; have hfz75_3 := blk_frozen BK578.out 3))
                (try simp only [Act.put, List.setIfInBounds_toArray, List.set_cons_zero, List.set_cons_succ])
                go_cut [115] (fun v115 wc => ∃ (kq : Nat) (x115_57 : Bool), v115 = .bool x115_57 ∧ Aside0 (casementlaw02_RectInto.j2 kq a2 x115_57 a0_0 a0_1 a0_2 a0_3 = some r) ∧ Aside0 (kq ≤ kj45) ∧ Aside0 (wc.heap[gb543]? = some (.cells #[.int .i64 a0_0, .int .i64 a0_1, .int .i64 a0_2, .int .i64 a0_3] 26 (0, 0))) ∧ Aside0 (wc.heap[gb544]? = some (.cells #[.int .i64 a1_0, .int .i64 a1_1, .int .i64 a1_2, .int .i64 a1_3] 26 (0, 0))) ∧ Aside0 (wc.heap[gb550]? = some (.cells #[.int .i64 t546, .int .i64 t547, .int .i64 t548, .int .i64 t549] 26 (0, 0))) ∧ Aside0 (wc.heap[gb573]? = some (.cells #[.int .i64 t569, .int .i64 t570, .int .i64 t571, .int .i64 t572] 26 (0, 0))) ∧ Aside0 (wc.heap[gb578]? = some (.cells #[.int .i64 t574, .int .i64 t575, .int .i64 t576, .int .i64 t577] 26 (0, 0))) ∧ Aside0 (Below w.heap.size w wc))
                case first =>
                  have H := HC58.out
                  clear HC58
                  replace H := Option.bind_eq_some_iff.mp H
                  obtain ⟨t579, A760, H⟩ := H
                  replace H : (if t579 = true then (casementlaw02_RectInto.j2 kj45 a2 false a0_0 a0_1 a0_2 a0_3) else ((casementlaw02_far.f a3).bind fun t580 => (if t580 = true then (casementlaw02_RectInto.j2 kj45 a2 false a0_0 a0_1 a0_2 a0_3) else ((casementlaw02_far.f t574).bind fun t581 => (if t581 = true then (casementlaw02_RectInto.j2 kj45 a2 false a0_0 a0_1 a0_2 a0_3) else ((casementlaw02_far.f t575).bind fun t582 => (if t582 = true then (casementlaw02_RectInto.j2 kj45 a2 false a0_0 a0_1 a0_2 a0_3) else (if t571 = t576 then (if t572 = t577 then (if t576 > 0 then (if t569 = (wrap64 (t574 + a2)) then (casementlaw02_RectInto.j2 kj45 a2 (t570 != (wrap64 (t575 + a3))) a0_0 a0_1 a0_2 a0_3) else (casementlaw02_RectInto.j2 kj45 a2 true a0_0 a0_1 a0_2 a0_3)) else (casementlaw02_RectInto.j2 kj45 a2 false a0_0 a0_1 a0_2 a0_3)) else (casementlaw02_RectInto.j2 kj45 a2 true a0_0 a0_1 a0_2 a0_3)) else (casementlaw02_RectInto.j2 kj45 a2 true a0_0 a0_1 a0_2 a0_3))))))))) = some r := H
                  have A76 := Aside0.mk A760
                  clear A760
                  by_cases c77 : t579 = true
                  · subst c77
                    have H1 : (casementlaw02_RectInto.j2 kj45 a2 false a0_0 a0_1 a0_2 a0_3) = some r := by rw [if_pos rfl] at H; exact H
                    clear H
                    have H := H1
                    clear H1
                    have H' := Aside0.mk H
                    clear H
                    go_wp2_with (first | ((with_reducible refine gate_callee (f := 34) rfl ?_); refine goesL_ (some 60) rfl rfl Try.func34 (by kernel_rfl) rfl #[.int .i64 a2] rfl (by (try simp only [List.map_toArray, List.map_cons, List.map_nil]); first | done | rfl | (simp only [List.length_drop, List.length_take]; rfl)) ?_; (with_reducible refine (casementlaw02_far.calls a2 true _ A76.out).mono ?_); rintro e w' ⟨rfl, ⟨nd, rfl⟩⟩; refine ⟨_, rfl, ?_⟩))
                    go_meet
                    case rel => exact ⟨_, (false), (by first | rfl | (simp; done) | (simp [*]; done)), H', ⟨by have := HJ7.out; have := HJ45.out; first | omega | exact Nat.le_refl _⟩, ⟨by (with_reducible repeat (first | refine blk_drewN ?_ _ | refine blk_drew ?_ | refine blk_alloc ?_ _)); refine blk_far ?_ NB543_578.out _; (with_reducible repeat (first | refine blk_drewN ?_ _ | refine blk_drew ?_ | refine blk_alloc ?_ _)); refine blk_far ?_ NB543_578.out _; (with_reducible repeat (first | refine blk_drewN ?_ _ | refine blk_drew ?_ | refine blk_alloc ?_ _)); refine blk_far ?_ NB543_578.out _; (with_reducible repeat (first | refine blk_drewN ?_ _ | refine blk_drew ?_ | refine blk_alloc ?_ _)); refine blk_far ?_ NB543_578.out _; (with_reducible repeat (first | refine blk_drewN ?_ _ | refine blk_drew ?_ | refine blk_alloc ?_ _)); exact BK543.out⟩, ⟨by (with_reducible repeat (first | refine blk_drewN ?_ _ | refine blk_drew ?_ | refine blk_alloc ?_ _)); refine blk_far ?_ NB544_578.out _; (with_reducible repeat (first | refine blk_drewN ?_ _ | refine blk_drew ?_ | refine blk_alloc ?_ _)); refine blk_far ?_ NB544_578.out _; (with_reducible repeat (first | refine blk_drewN ?_ _ | refine blk_drew ?_ | refine blk_alloc ?_ _)); refine blk_far ?_ NB544_578.out _; (with_reducible repeat (first | refine blk_drewN ?_ _ | refine blk_drew ?_ | refine blk_alloc ?_ _)); refine blk_far ?_ NB544_578.out _; (with_reducible repeat (first | refine blk_drewN ?_ _ | refine blk_drew ?_ | refine blk_alloc ?_ _)); exact BK544.out⟩, ⟨by (with_reducible repeat (first | refine blk_drewN ?_ _ | refine blk_drew ?_ | refine blk_alloc ?_ _)); refine blk_far ?_ NB550_578.out _; (with_reducible repeat (first | refine blk_drewN ?_ _ | refine blk_drew ?_ | refine blk_alloc ?_ _)); refine blk_far ?_ NB550_578.out _; (with_reducible repeat (first | refine blk_drewN ?_ _ | refine blk_drew ?_ | refine blk_alloc ?_ _)); refine blk_far ?_ NB550_578.out _; (with_reducible repeat (first | refine blk_drewN ?_ _ | refine blk_drew ?_ | refine blk_alloc ?_ _)); refine blk_far ?_ NB550_578.out _; (with_reducible repeat (first | refine blk_drewN ?_ _ | refine blk_drew ?_ | refine blk_alloc ?_ _)); exact BK550.out⟩, ⟨by (with_reducible repeat (first | refine blk_drewN ?_ _ | refine blk_drew ?_ | refine blk_alloc ?_ _)); refine blk_far ?_ NB573_578.out _; (with_reducible repeat (first | refine blk_drewN ?_ _ | refine blk_drew ?_ | refine blk_alloc ?_ _)); refine blk_far ?_ NB573_578.out _; (with_reducible repeat (first | refine blk_drewN ?_ _ | refine blk_drew ?_ | refine blk_alloc ?_ _)); refine blk_far ?_ NB573_578.out _; (with_reducible repeat (first | refine blk_drewN ?_ _ | refine blk_drew ?_ | refine blk_alloc ?_ _)); refine blk_far ?_ NB573_578.out _; (with_reducible repeat (first | refine blk_drewN ?_ _ | refine blk_drew ?_ | refine blk_alloc ?_ _)); exact BK573.out⟩, ⟨by (with_reducible repeat (first | refine blk_drewN ?_ _ | refine blk_drew ?_ | refine blk_alloc ?_ _)); refine blk_put (cs := #[.int .i64 t574, .int .i64 t575, .int .i64 t576, .int .i64 0]) ?_ 3 _ rfl; (with_reducible repeat (first | refine blk_drewN ?_ _ | refine blk_drew ?_ | refine blk_alloc ?_ _)); refine blk_put (cs := #[.int .i64 t574, .int .i64 t575, .int .i64 0, .int .i64 0]) ?_ 2 _ rfl; (with_reducible repeat (first | refine blk_drewN ?_ _ | refine blk_drew ?_ | refine blk_alloc ?_ _)); refine blk_put (cs := #[.int .i64 t574, .int .i64 0, .int .i64 0, .int .i64 0]) ?_ 1 _ rfl; (with_reducible repeat (first | refine blk_drewN ?_ _ | refine blk_drew ?_ | refine blk_alloc ?_ _)); refine blk_put (cs := #[.int .i64 0, .int .i64 0, .int .i64 0, .int .i64 0]) ?_ 0 _ rfl; (with_reducible repeat (first | refine blk_drewN ?_ _ | refine blk_drew ?_ | refine blk_alloc ?_ _)); exact BK578.out⟩, ⟨by repeat (first | (with_reducible first | exact HB.out | apply below_alloc | apply pw_below_drewN | apply below_drew1 | refine below_set ?_ GE543.out | refine below_set ?_ GE544.out | refine below_set ?_ GE550.out | refine below_set ?_ GE573.out | refine below_set ?_ GE578.out) | exact HB.out)⟩⟩
                  · replace c77 := Bool.eq_false_iff.mpr c77
                    subst c77
                    have H1 : ((casementlaw02_far.f a3).bind fun t580 => (if t580 = true then (casementlaw02_RectInto.j2 kj45 a2 false a0_0 a0_1 a0_2 a0_3) else ((casementlaw02_far.f t574).bind fun t581 => (if t581 = true then (casementlaw02_RectInto.j2 kj45 a2 false a0_0 a0_1 a0_2 a0_3) else ((casementlaw02_far.f t575).bind fun t582 => (if t582 = true then (casementlaw02_RectInto.j2 kj45 a2 false a0_0 a0_1 a0_2 a0_3) else (if t571 = t576 then (if t572 = t577 then (if t576 > 0 then (if t569 = (wrap64 (t574 + a2)) then (casementlaw02_RectInto.j2 kj45 a2 (t570 != (wrap64 (t575 + a3))) a0_0 a0_1 a0_2 a0_3) else (casementlaw02_RectInto.j2 kj45 a2 true a0_0 a0_1 a0_2 a0_3)) else (casementlaw02_RectInto.j2 kj45 a2 false a0_0 a0_1 a0_2 a0_3)) else (casementlaw02_RectInto.j2 kj45 a2 true a0_0 a0_1 a0_2 a0_3)) else (casementlaw02_RectInto.j2 kj45 a2 true a0_0 a0_1 a0_2 a0_3)))))))) = some r := by rw [if_neg (show ¬ (false = true) by decide)] at H; exact H
                    clear H
                    have H := H1
                    clear H1
                    replace H := Option.bind_eq_some_iff.mp H
                    obtain ⟨t580, A780, H⟩ := H
                    replace H : (if t580 = true then (casementlaw02_RectInto.j2 kj45 a2 false a0_0 a0_1 a0_2 a0_3) else ((casementlaw02_far.f t574).bind fun t581 => (if t581 = true then (casementlaw02_RectInto.j2 kj45 a2 false a0_0 a0_1 a0_2 a0_3) else ((casementlaw02_far.f t575).bind fun t582 => (if t582 = true then (casementlaw02_RectInto.j2 kj45 a2 false a0_0 a0_1 a0_2 a0_3) else (if t571 = t576 then (if t572 = t577 then (if t576 > 0 then (if t569 = (wrap64 (t574 + a2)) then (casementlaw02_RectInto.j2 kj45 a2 (t570 != (wrap64 (t575 + a3))) a0_0 a0_1 a0_2 a0_3) else (casementlaw02_RectInto.j2 kj45 a2 true a0_0 a0_1 a0_2 a0_3)) else (casementlaw02_RectInto.j2 kj45 a2 false a0_0 a0_1 a0_2 a0_3)) else (casementlaw02_RectInto.j2 kj45 a2 true a0_0 a0_1 a0_2 a0_3)) else (casementlaw02_RectInto.j2 kj45 a2 true a0_0 a0_1 a0_2 a0_3))))))) = some r := H
                    have A78 := Aside0.mk A780
                    clear A780
                    by_cases c79 : t580 = true
                    · subst c79
                      have H1 : (casementlaw02_RectInto.j2 kj45 a2 false a0_0 a0_1 a0_2 a0_3) = some r := by rw [if_pos rfl] at H; exact H
                      clear H
                      have H := H1
                      clear H1
                      have H' := Aside0.mk H
                      clear H
                      go_wp2_with (first | ((with_reducible refine gate_callee (f := 34) rfl ?_); refine goesL_ (some 60) rfl rfl Try.func34 (by kernel_rfl) rfl #[.int .i64 a2] rfl (by (try simp only [List.map_toArray, List.map_cons, List.map_nil]); first | done | rfl | (simp only [List.length_drop, List.length_take]; rfl)) ?_; (with_reducible refine (casementlaw02_far.calls a2 false _ A76.out).mono ?_); rintro e w' ⟨rfl, ⟨nd, rfl⟩⟩; refine ⟨_, rfl, ?_⟩) | (go_at_call 34; (with_reducible refine (casementlaw02_far.calls a3 true _ A78.out).mono ?_); rintro e w' ⟨rfl, ⟨nd, rfl⟩⟩))
                      go_meet
                      case rel => exact ⟨_, (false), (by first | rfl | (simp; done) | (simp [*]; done)), H', ⟨by have := HJ7.out; have := HJ45.out; first | omega | exact Nat.le_refl _⟩, ⟨by (with_reducible repeat (first | refine blk_drewN ?_ _ | refine blk_drew ?_ | refine blk_alloc ?_ _)); refine blk_far ?_ NB543_578.out _; (with_reducible repeat (first | refine blk_drewN ?_ _ | refine blk_drew ?_ | refine blk_alloc ?_ _)); refine blk_far ?_ NB543_578.out _; (with_reducible repeat (first | refine blk_drewN ?_ _ | refine blk_drew ?_ | refine blk_alloc ?_ _)); refine blk_far ?_ NB543_578.out _; (with_reducible repeat (first | refine blk_drewN ?_ _ | refine blk_drew ?_ | refine blk_alloc ?_ _)); refine blk_far ?_ NB543_578.out _; (with_reducible repeat (first | refine blk_drewN ?_ _ | refine blk_drew ?_ | refine blk_alloc ?_ _)); exact BK543.out⟩, ⟨by (with_reducible repeat (first | refine blk_drewN ?_ _ | refine blk_drew ?_ | refine blk_alloc ?_ _)); refine blk_far ?_ NB544_578.out _; (with_reducible repeat (first | refine blk_drewN ?_ _ | refine blk_drew ?_ | refine blk_alloc ?_ _)); refine blk_far ?_ NB544_578.out _; (with_reducible repeat (first | refine blk_drewN ?_ _ | refine blk_drew ?_ | refine blk_alloc ?_ _)); refine blk_far ?_ NB544_578.out _; (with_reducible repeat (first | refine blk_drewN ?_ _ | refine blk_drew ?_ | refine blk_alloc ?_ _)); refine blk_far ?_ NB544_578.out _; (with_reducible repeat (first | refine blk_drewN ?_ _ | refine blk_drew ?_ | refine blk_alloc ?_ _)); exact BK544.out⟩, ⟨by (with_reducible repeat (first | refine blk_drewN ?_ _ | refine blk_drew ?_ | refine blk_alloc ?_ _)); refine blk_far ?_ NB550_578.out _; (with_reducible repeat (first | refine blk_drewN ?_ _ | refine blk_drew ?_ | refine blk_alloc ?_ _)); refine blk_far ?_ NB550_578.out _; (with_reducible repeat (first | refine blk_drewN ?_ _ | refine blk_drew ?_ | refine blk_alloc ?_ _)); refine blk_far ?_ NB550_578.out _; (with_reducible repeat (first | refine blk_drewN ?_ _ | refine blk_drew ?_ | refine blk_alloc ?_ _)); refine blk_far ?_ NB550_578.out _; (with_reducible repeat (first | refine blk_drewN ?_ _ | refine blk_drew ?_ | refine blk_alloc ?_ _)); exact BK550.out⟩, ⟨by (with_reducible repeat (first | refine blk_drewN ?_ _ | refine blk_drew ?_ | refine blk_alloc ?_ _)); refine blk_far ?_ NB573_578.out _; (with_reducible repeat (first | refine blk_drewN ?_ _ | refine blk_drew ?_ | refine blk_alloc ?_ _)); refine blk_far ?_ NB573_578.out _; (with_reducible repeat (first | refine blk_drewN ?_ _ | refine blk_drew ?_ | refine blk_alloc ?_ _)); refine blk_far ?_ NB573_578.out _; (with_reducible repeat (first | refine blk_drewN ?_ _ | refine blk_drew ?_ | refine blk_alloc ?_ _)); refine blk_far ?_ NB573_578.out _; (with_reducible repeat (first | refine blk_drewN ?_ _ | refine blk_drew ?_ | refine blk_alloc ?_ _)); exact BK573.out⟩, ⟨by (with_reducible repeat (first | refine blk_drewN ?_ _ | refine blk_drew ?_ | refine blk_alloc ?_ _)); refine blk_put (cs := #[.int .i64 t574, .int .i64 t575, .int .i64 t576, .int .i64 0]) ?_ 3 _ rfl; (with_reducible repeat (first | refine blk_drewN ?_ _ | refine blk_drew ?_ | refine blk_alloc ?_ _)); refine blk_put (cs := #[.int .i64 t574, .int .i64 t575, .int .i64 0, .int .i64 0]) ?_ 2 _ rfl; (with_reducible repeat (first | refine blk_drewN ?_ _ | refine blk_drew ?_ | refine blk_alloc ?_ _)); refine blk_put (cs := #[.int .i64 t574, .int .i64 0, .int .i64 0, .int .i64 0]) ?_ 1 _ rfl; (with_reducible repeat (first | refine blk_drewN ?_ _ | refine blk_drew ?_ | refine blk_alloc ?_ _)); refine blk_put (cs := #[.int .i64 0, .int .i64 0, .int .i64 0, .int .i64 0]) ?_ 0 _ rfl; (with_reducible repeat (first | refine blk_drewN ?_ _ | refine blk_drew ?_ | refine blk_alloc ?_ _)); exact BK578.out⟩, ⟨by repeat (first | (with_reducible first | exact HB.out | apply below_alloc | apply pw_below_drewN | apply below_drew1 | refine below_set ?_ GE543.out | refine below_set ?_ GE544.out | refine below_set ?_ GE550.out | refine below_set ?_ GE573.out | refine below_set ?_ GE578.out) | exact HB.out)⟩⟩
                    · replace c79 := Bool.eq_false_iff.mpr c79
                      subst c79
                      have H1 : ((casementlaw02_far.f t574).bind fun t581 => (if t581 = true then (casementlaw02_RectInto.j2 kj45 a2 false a0_0 a0_1 a0_2 a0_3) else ((casementlaw02_far.f t575).bind fun t582 => (if t582 = true then (casementlaw02_RectInto.j2 kj45 a2 false a0_0 a0_1 a0_2 a0_3) else (if t571 = t576 then (if t572 = t577 then (if t576 > 0 then (if t569 = (wrap64 (t574 + a2)) then (casementlaw02_RectInto.j2 kj45 a2 (t570 != (wrap64 (t575 + a3))) a0_0 a0_1 a0_2 a0_3) else (casementlaw02_RectInto.j2 kj45 a2 true a0_0 a0_1 a0_2 a0_3)) else (casementlaw02_RectInto.j2 kj45 a2 false a0_0 a0_1 a0_2 a0_3)) else (casementlaw02_RectInto.j2 kj45 a2 true a0_0 a0_1 a0_2 a0_3)) else (casementlaw02_RectInto.j2 kj45 a2 true a0_0 a0_1 a0_2 a0_3)))))) = some r := by rw [if_neg (show ¬ (false = true) by decide)] at H; exact H
                      clear H
                      have H := H1
                      clear H1
                      replace H := Option.bind_eq_some_iff.mp H
                      obtain ⟨t581, A800, H⟩ := H
                      replace H : (if t581 = true then (casementlaw02_RectInto.j2 kj45 a2 false a0_0 a0_1 a0_2 a0_3) else ((casementlaw02_far.f t575).bind fun t582 => (if t582 = true then (casementlaw02_RectInto.j2 kj45 a2 false a0_0 a0_1 a0_2 a0_3) else (if t571 = t576 then (if t572 = t577 then (if t576 > 0 then (if t569 = (wrap64 (t574 + a2)) then (casementlaw02_RectInto.j2 kj45 a2 (t570 != (wrap64 (t575 + a3))) a0_0 a0_1 a0_2 a0_3) else (casementlaw02_RectInto.j2 kj45 a2 true a0_0 a0_1 a0_2 a0_3)) else (casementlaw02_RectInto.j2 kj45 a2 false a0_0 a0_1 a0_2 a0_3)) else (casementlaw02_RectInto.j2 kj45 a2 true a0_0 a0_1 a0_2 a0_3)) else (casementlaw02_RectInto.j2 kj45 a2 true a0_0 a0_1 a0_2 a0_3))))) = some r := H
                      have A80 := Aside0.mk A800
                      clear A800
                      by_cases c81 : t581 = true
                      · subst c81
                        have H1 : (casementlaw02_RectInto.j2 kj45 a2 false a0_0 a0_1 a0_2 a0_3) = some r := by rw [if_pos rfl] at H; exact H
                        clear H
                        have H := H1
                        clear H1
                        have H' := Aside0.mk H
                        clear H
                        go_wp2_with (first | ((with_reducible refine gate_callee (f := 34) rfl ?_); refine goesL_ (some 60) rfl rfl Try.func34 (by kernel_rfl) rfl #[.int .i64 a2] rfl (by (try simp only [List.map_toArray, List.map_cons, List.map_nil]); first | done | rfl | (simp only [List.length_drop, List.length_take]; rfl)) ?_; (with_reducible refine (casementlaw02_far.calls a2 false _ A76.out).mono ?_); rintro e w' ⟨rfl, ⟨nd, rfl⟩⟩; refine ⟨_, rfl, ?_⟩) | (go_at_call 34; (with_reducible refine (casementlaw02_far.calls a3 false _ A78.out).mono ?_); rintro e w' ⟨rfl, ⟨nd, rfl⟩⟩; have hnb82 := NB578_543.out; have hnc82 := NB543_578.out; have hnb83 := NB578_544.out; have hnc83 := NB544_578.out; have hnb84 := NB578_550.out; have hnc84 := NB550_578.out; have hnb85 := NB578_573.out; have hnc85 := NB573_578.out; have hcz86_0 : w70.cell? ⟨gb578, 0, none⟩ = some (.int .i64 0) := (blk_cell BK578.out 0).trans rfl; have hcz86_1 : w70.cell? ⟨gb578, 1, none⟩ = some (.int .i64 0) := (blk_cell BK578.out 1).trans rfl; have hcz86_2 : w70.cell? ⟨gb578, 2, none⟩ = some (.int .i64 0) := (blk_cell BK578.out 2).trans rfl; have hcz86_3 : w70.cell? ⟨gb578, 3, none⟩ = some (.int .i64 0) := (blk_cell BK578.out 3).trans rfl; have hfz86_0 := blk_frozen BK578.out 0; have hfz86_1 := blk_frozen BK578.out 1; have hfz86_2 := blk_frozen BK578.out 2; have hfz86_3 := blk_frozen BK578.out 3) | (go_at_call 34; (with_reducible refine (casementlaw02_far.calls t574 true _ A80.out).mono ?_); rintro e w' ⟨rfl, ⟨nd, rfl⟩⟩))
                        go_meet
                        case rel => exact ⟨_, (false), (by first | rfl | (simp; done) | (simp [*]; done)), H', ⟨by have := HJ7.out; have := HJ45.out; first | omega | exact Nat.le_refl _⟩, ⟨by (with_reducible repeat (first | refine blk_drewN ?_ _ | refine blk_drew ?_ | refine blk_alloc ?_ _)); refine blk_far ?_ NB543_578.out _; (with_reducible repeat (first | refine blk_drewN ?_ _ | refine blk_drew ?_ | refine blk_alloc ?_ _)); refine blk_far ?_ NB543_578.out _; (with_reducible repeat (first | refine blk_drewN ?_ _ | refine blk_drew ?_ | refine blk_alloc ?_ _)); refine blk_far ?_ NB543_578.out _; (with_reducible repeat (first | refine blk_drewN ?_ _ | refine blk_drew ?_ | refine blk_alloc ?_ _)); refine blk_far ?_ NB543_578.out _; (with_reducible repeat (first | refine blk_drewN ?_ _ | refine blk_drew ?_ | refine blk_alloc ?_ _)); exact BK543.out⟩, ⟨by (with_reducible repeat (first | refine blk_drewN ?_ _ | refine blk_drew ?_ | refine blk_alloc ?_ _)); refine blk_far ?_ NB544_578.out _; (with_reducible repeat (first | refine blk_drewN ?_ _ | refine blk_drew ?_ | refine blk_alloc ?_ _)); refine blk_far ?_ NB544_578.out _; (with_reducible repeat (first | refine blk_drewN ?_ _ | refine blk_drew ?_ | refine blk_alloc ?_ _)); refine blk_far ?_ NB544_578.out _; (with_reducible repeat (first | refine blk_drewN ?_ _ | refine blk_drew ?_ | refine blk_alloc ?_ _)); refine blk_far ?_ NB544_578.out _; (with_reducible repeat (first | refine blk_drewN ?_ _ | refine blk_drew ?_ | refine blk_alloc ?_ _)); exact BK544.out⟩, ⟨by (with_reducible repeat (first | refine blk_drewN ?_ _ | refine blk_drew ?_ | refine blk_alloc ?_ _)); refine blk_far ?_ NB550_578.out _; (with_reducible repeat (first | refine blk_drewN ?_ _ | refine blk_drew ?_ | refine blk_alloc ?_ _)); refine blk_far ?_ NB550_578.out _; (with_reducible repeat (first | refine blk_drewN ?_ _ | refine blk_drew ?_ | refine blk_alloc ?_ _)); refine blk_far ?_ NB550_578.out _; (with_reducible repeat (first | refine blk_drewN ?_ _ | refine blk_drew ?_ | refine blk_alloc ?_ _)); refine blk_far ?_ NB550_578.out _; (with_reducible repeat (first | refine blk_drewN ?_ _ | refine blk_drew ?_ | refine blk_alloc ?_ _)); exact BK550.out⟩, ⟨by (with_reducible repeat (first | refine blk_drewN ?_ _ | refine blk_drew ?_ | refine blk_alloc ?_ _)); refine blk_far ?_ NB573_578.out _; (with_reducible repeat (first | refine blk_drewN ?_ _ | refine blk_drew ?_ | refine blk_alloc ?_ _)); refine blk_far ?_ NB573_578.out _; (with_reducible repeat (first | refine blk_drewN ?_ _ | refine blk_drew ?_ | refine blk_alloc ?_ _)); refine blk_far ?_ NB573_578.out _; (with_reducible repeat (first | refine blk_drewN ?_ _ | refine blk_drew ?_ | refine blk_alloc ?_ _)); refine blk_far ?_ NB573_578.out _; (with_reducible repeat (first | refine blk_drewN ?_ _ | refine blk_drew ?_ | refine blk_alloc ?_ _)); exact BK573.out⟩, ⟨by (with_reducible repeat (first | refine blk_drewN ?_ _ | refine blk_drew ?_ | refine blk_alloc ?_ _)); refine blk_put (cs := #[.int .i64 t574, .int .i64 t575, .int .i64 t576, .int .i64 0]) ?_ 3 _ rfl; (with_reducible repeat (first | refine blk_drewN ?_ _ | refine blk_drew ?_ | refine blk_alloc ?_ _)); refine blk_put (cs := #[.int .i64 t574, .int .i64 t575, .int .i64 0, .int .i64 0]) ?_ 2 _ rfl; (with_reducible repeat (first | refine blk_drewN ?_ _ | refine blk_drew ?_ | refine blk_alloc ?_ _)); refine blk_put (cs := #[.int .i64 t574, .int .i64 0, .int .i64 0, .int .i64 0]) ?_ 1 _ rfl; (with_reducible repeat (first | refine blk_drewN ?_ _ | refine blk_drew ?_ | refine blk_alloc ?_ _)); refine blk_put (cs := #[.int .i64 0, .int .i64 0, .int .i64 0, .int .i64 0]) ?_ 0 _ rfl; (with_reducible repeat (first | refine blk_drewN ?_ _ | refine blk_drew ?_ | refine blk_alloc ?_ _)); exact BK578.out⟩, ⟨by repeat (first | (with_reducible first | exact HB.out | apply below_alloc | apply pw_below_drewN | apply below_drew1 | refine below_set ?_ GE543.out | refine below_set ?_ GE544.out | refine below_set ?_ GE550.out | refine below_set ?_ GE573.out | refine below_set ?_ GE578.out) | exact HB.out)⟩⟩
                      · replace c81 := Bool.eq_false_iff.mpr c81
                        subst c81
                        have H1 : ((casementlaw02_far.f t575).bind fun t582 => (if t582 = true then (casementlaw02_RectInto.j2 kj45 a2 false a0_0 a0_1 a0_2 a0_3) else (if t571 = t576 then (if t572 = t577 then (if t576 > 0 then (if t569 = (wrap64 (t574 + a2)) then (casementlaw02_RectInto.j2 kj45 a2 (t570 != (wrap64 (t575 + a3))) a0_0 a0_1 a0_2 a0_3) else (casementlaw02_RectInto.j2 kj45 a2 true a0_0 a0_1 a0_2 a0_3)) else (casementlaw02_RectInto.j2 kj45 a2 false a0_0 a0_1 a0_2 a0_3)) else (casementlaw02_RectInto.j2 kj45 a2 true a0_0 a0_1 a0_2 a0_3)) else (casementlaw02_RectInto.j2 kj45 a2 true a0_0 a0_1 a0_2 a0_3)))) = some r := by rw [if_neg (show ¬ (false = true) by decide)] at H; exact H
                        clear H
                        have H := H1
                        clear H1
                        replace H := Option.bind_eq_some_iff.mp H
                        obtain ⟨t582, A870, H⟩ := H
                        replace H : (if t582 = true then (casementlaw02_RectInto.j2 kj45 a2 false a0_0 a0_1 a0_2 a0_3) else (if t571 = t576 then (if t572 = t577 then (if t576 > 0 then (if t569 = (wrap64 (t574 + a2)) then (casementlaw02_RectInto.j2 kj45 a2 (t570 != (wrap64 (t575 + a3))) a0_0 a0_1 a0_2 a0_3) else (casementlaw02_RectInto.j2 kj45 a2 true a0_0 a0_1 a0_2 a0_3)) else (casementlaw02_RectInto.j2 kj45 a2 false a0_0 a0_1 a0_2 a0_3)) else (casementlaw02_RectInto.j2 kj45 a2 true a0_0 a0_1 a0_2 a0_3)) else (casementlaw02_RectInto.j2 kj45 a2 true a0_0 a0_1 a0_2 a0_3))) = some r := H
                        have A87 := Aside0.mk A870
                        clear A870
                        by_cases c88 : t582 = true
                        · subst c88
                          have H1 : (casementlaw02_RectInto.j2 kj45 a2 false a0_0 a0_1 a0_2 a0_3) = some r := by rw [if_pos rfl] at H; exact H
                          clear H
                          have H := H1
                          clear H1
                          have H' := Aside0.mk H
                          clear H
                          go_wp2_with (first | ((with_reducible refine gate_callee (f := 34) rfl ?_); refine goesL_ (some 60) rfl rfl Try.func34 (by kernel_rfl) rfl #[.int .i64 a2] rfl (by (try simp only [List.map_toArray, List.map_cons, List.map_nil]); first | done | rfl | (simp only [List.length_drop, List.length_take]; rfl)) ?_; (with_reducible refine (casementlaw02_far.calls a2 false _ A76.out).mono ?_); rintro e w' ⟨rfl, ⟨nd, rfl⟩⟩; refine ⟨_, rfl, ?_⟩) | (go_at_call 34; (with_reducible refine (casementlaw02_far.calls a3 false _ A78.out).mono ?_); rintro e w' ⟨rfl, ⟨nd, rfl⟩⟩; have hnb89 := NB578_543.out; have hnc89 := NB543_578.out; have hnb90 := NB578_544.out; have hnc90 := NB544_578.out; have hnb91 := NB578_550.out; have hnc91 := NB550_578.out; have hnb92 := NB578_573.out; have hnc92 := NB573_578.out; have hcz93_0 : w70.cell? ⟨gb578, 0, none⟩ = some (.int .i64 0) := (blk_cell BK578.out 0).trans rfl; have hcz93_1 : w70.cell? ⟨gb578, 1, none⟩ = some (.int .i64 0) := (blk_cell BK578.out 1).trans rfl; have hcz93_2 : w70.cell? ⟨gb578, 2, none⟩ = some (.int .i64 0) := (blk_cell BK578.out 2).trans rfl; have hcz93_3 : w70.cell? ⟨gb578, 3, none⟩ = some (.int .i64 0) := (blk_cell BK578.out 3).trans rfl; have hfz93_0 := blk_frozen BK578.out 0; have hfz93_1 := blk_frozen BK578.out 1; have hfz93_2 := blk_frozen BK578.out 2; have hfz93_3 := blk_frozen BK578.out 3) | (go_at_call 34; (with_reducible refine (casementlaw02_far.calls t574 false _ A80.out).mono ?_); rintro e w' ⟨rfl, ⟨nd, rfl⟩⟩) | (go_at_call 34; (with_reducible refine (casementlaw02_far.calls t575 true _ A87.out).mono ?_); rintro e w' ⟨rfl, ⟨nd, rfl⟩⟩))
                          go_meet
                          case rel => exact ⟨_, (false), (by first | rfl | (simp; done) | (simp [*]; done)), H', ⟨by have := HJ7.out; have := HJ45.out; first | omega | exact Nat.le_refl _⟩, ⟨by (with_reducible repeat (first | refine blk_drewN ?_ _ | refine blk_drew ?_ | refine blk_alloc ?_ _)); refine blk_far ?_ NB543_578.out _; (with_reducible repeat (first | refine blk_drewN ?_ _ | refine blk_drew ?_ | refine blk_alloc ?_ _)); refine blk_far ?_ NB543_578.out _; (with_reducible repeat (first | refine blk_drewN ?_ _ | refine blk_drew ?_ | refine blk_alloc ?_ _)); refine blk_far ?_ NB543_578.out _; (with_reducible repeat (first | refine blk_drewN ?_ _ | refine blk_drew ?_ | refine blk_alloc ?_ _)); refine blk_far ?_ NB543_578.out _; (with_reducible repeat (first | refine blk_drewN ?_ _ | refine blk_drew ?_ | refine blk_alloc ?_ _)); exact BK543.out⟩, ⟨by (with_reducible repeat (first | refine blk_drewN ?_ _ | refine blk_drew ?_ | refine blk_alloc ?_ _)); refine blk_far ?_ NB544_578.out _; (with_reducible repeat (first | refine blk_drewN ?_ _ | refine blk_drew ?_ | refine blk_alloc ?_ _)); refine blk_far ?_ NB544_578.out _; (with_reducible repeat (first | refine blk_drewN ?_ _ | refine blk_drew ?_ | refine blk_alloc ?_ _)); refine blk_far ?_ NB544_578.out _; (with_reducible repeat (first | refine blk_drewN ?_ _ | refine blk_drew ?_ | refine blk_alloc ?_ _)); refine blk_far ?_ NB544_578.out _; (with_reducible repeat (first | refine blk_drewN ?_ _ | refine blk_drew ?_ | refine blk_alloc ?_ _)); exact BK544.out⟩, ⟨by (with_reducible repeat (first | refine blk_drewN ?_ _ | refine blk_drew ?_ | refine blk_alloc ?_ _)); refine blk_far ?_ NB550_578.out _; (with_reducible repeat (first | refine blk_drewN ?_ _ | refine blk_drew ?_ | refine blk_alloc ?_ _)); refine blk_far ?_ NB550_578.out _; (with_reducible repeat (first | refine blk_drewN ?_ _ | refine blk_drew ?_ | refine blk_alloc ?_ _)); refine blk_far ?_ NB550_578.out _; (with_reducible repeat (first | refine blk_drewN ?_ _ | refine blk_drew ?_ | refine blk_alloc ?_ _)); refine blk_far ?_ NB550_578.out _; (with_reducible repeat (first | refine blk_drewN ?_ _ | refine blk_drew ?_ | refine blk_alloc ?_ _)); exact BK550.out⟩, ⟨by (with_reducible repeat (first | refine blk_drewN ?_ _ | refine blk_drew ?_ | refine blk_alloc ?_ _)); refine blk_far ?_ NB573_578.out _; (with_reducible repeat (first | refine blk_drewN ?_ _ | refine blk_drew ?_ | refine blk_alloc ?_ _)); refine blk_far ?_ NB573_578.out _; (with_reducible repeat (first | refine blk_drewN ?_ _ | refine blk_drew ?_ | refine blk_alloc ?_ _)); refine blk_far ?_ NB573_578.out _; (with_reducible repeat (first | refine blk_drewN ?_ _ | refine blk_drew ?_ | refine blk_alloc ?_ _)); refine blk_far ?_ NB573_578.out _; (with_reducible repeat (first | refine blk_drewN ?_ _ | refine blk_drew ?_ | refine blk_alloc ?_ _)); exact BK573.out⟩, ⟨by (with_reducible repeat (first | refine blk_drewN ?_ _ | refine blk_drew ?_ | refine blk_alloc ?_ _)); refine blk_put (cs := #[.int .i64 t574, .int .i64 t575, .int .i64 t576, .int .i64 0]) ?_ 3 _ rfl; (with_reducible repeat (first | refine blk_drewN ?_ _ | refine blk_drew ?_ | refine blk_alloc ?_ _)); refine blk_put (cs := #[.int .i64 t574, .int .i64 t575, .int .i64 0, .int .i64 0]) ?_ 2 _ rfl; (with_reducible repeat (first | refine blk_drewN ?_ _ | refine blk_drew ?_ | refine blk_alloc ?_ _)); refine blk_put (cs := #[.int .i64 t574, .int .i64 0, .int .i64 0, .int .i64 0]) ?_ 1 _ rfl; (with_reducible repeat (first | refine blk_drewN ?_ _ | refine blk_drew ?_ | refine blk_alloc ?_ _)); refine blk_put (cs := #[.int .i64 0, .int .i64 0, .int .i64 0, .int .i64 0]) ?_ 0 _ rfl; (with_reducible repeat (first | refine blk_drewN ?_ _ | refine blk_drew ?_ | refine blk_alloc ?_ _)); exact BK578.out⟩, ⟨by repeat (first | (with_reducible first | exact HB.out | apply below_alloc | apply pw_below_drewN | apply below_drew1 | refine below_set ?_ GE543.out | refine below_set ?_ GE544.out | refine below_set ?_ GE550.out | refine below_set ?_ GE573.out | refine below_set ?_ GE578.out) | exact HB.out)⟩⟩
                        · replace c88 := Bool.eq_false_iff.mpr c88
                          subst c88
                          have H1 : (if t571 = t576 then (if t572 = t577 then (if t576 > 0 then (if t569 = (wrap64 (t574 + a2)) then (casementlaw02_RectInto.j2 kj45 a2 (t570 != (wrap64 (t575 + a3))) a0_0 a0_1 a0_2 a0_3) else (casementlaw02_RectInto.j2 kj45 a2 true a0_0 a0_1 a0_2 a0_3)) else (casementlaw02_RectInto.j2 kj45 a2 false a0_0 a0_1 a0_2 a0_3)) else (casementlaw02_RectInto.j2 kj45 a2 true a0_0 a0_1 a0_2 a0_3)) else (casementlaw02_RectInto.j2 kj45 a2 true a0_0 a0_1 a0_2 a0_3)) = some r := by rw [if_neg (show ¬ (false = true) by decide)] at H; exact H
                          clear H
                          have H := H1
                          clear H1
                          by_cases c94 : t571 = t576
                          · rw [if_pos c94] at H
                            have c94b0 : (t571 == t576) = true := beq_iff_eq.mpr c94
                            have c94b1 : (t571 != t576) = false := bne_eq_false_iff_eq.mpr c94
                            clear c94
                            (first | rw [c94b0] | (simp only [i64_w, i32_w]; rw [c94b0]) | skip)
                            by_cases c95 : t572 = t577
                            · rw [if_pos c95] at H
                              have c95b0 : (t572 == t577) = true := beq_iff_eq.mpr c95
                              have c95b1 : (t572 != t577) = false := bne_eq_false_iff_eq.mpr c95
                              clear c95
                              by_cases c96 : t576 > 0
                              · rw [if_pos c96] at H
                                have c96b0 : decide (0 < t576) = true := decide_eq_true c96
                                clear c96
                                by_cases c97 : t569 = (wrap64 (t574 + a2))
                                · rw [if_pos c97] at H
                                  have c97b0 : (t569 == (wrap64 (t574 + a2))) = true := beq_iff_eq.mpr c97
                                  have c97b1 : (t569 != (wrap64 (t574 + a2))) = false := bne_eq_false_iff_eq.mpr c97
                                  clear c97
                                  have H' := Aside0.mk H
                                  clear H
                                  go_wp2_with (first | ((with_reducible refine gate_callee (f := 34) rfl ?_); refine goesL_ (some 60) rfl rfl Try.func34 (by kernel_rfl) rfl #[.int .i64 a2] rfl (by (try simp only [List.map_toArray, List.map_cons, List.map_nil]); first | done | rfl | (simp only [List.length_drop, List.length_take]; rfl)) ?_; (with_reducible refine (casementlaw02_far.calls a2 false _ A76.out).mono ?_); rintro e w' ⟨rfl, ⟨nd, rfl⟩⟩; refine ⟨_, rfl, ?_⟩) | (go_at_call 34; (with_reducible refine (casementlaw02_far.calls a3 false _ A78.out).mono ?_); rintro e w' ⟨rfl, ⟨nd, rfl⟩⟩; have hnb98 := NB578_543.out; have hnc98 := NB543_578.out; have hnb99 := NB578_544.out; have hnc99 := NB544_578.out; have hnb100 := NB578_550.out; have hnc100 := NB550_578.out; have hnb101 := NB578_573.out; have hnc101 := NB573_578.out; have hcz102_0 : w70.cell? ⟨gb578, 0, none⟩ = some (.int .i64 0) := (blk_cell BK578.out 0).trans rfl; have hcz102_1 : w70.cell? ⟨gb578, 1, none⟩ = some (.int .i64 0) := (blk_cell BK578.out 1).trans rfl; have hcz102_2 : w70.cell? ⟨gb578, 2, none⟩ = some (.int .i64 0) := (blk_cell BK578.out 2).trans rfl; have hcz102_3 : w70.cell? ⟨gb578, 3, none⟩ = some (.int .i64 0) := (blk_cell BK578.out 3).trans rfl; have hfz102_0 := blk_frozen BK578.out 0; have hfz102_1 := blk_frozen BK578.out 1; have hfz102_2 := blk_frozen BK578.out 2; have hfz102_3 := blk_frozen BK578.out 3) | (go_at_call 34; (with_reducible refine (casementlaw02_far.calls t574 false _ A80.out).mono ?_); rintro e w' ⟨rfl, ⟨nd, rfl⟩⟩) | (go_at_call 34; (with_reducible refine (casementlaw02_far.calls t575 false _ A87.out).mono ?_); rintro e w' ⟨rfl, ⟨nd, rfl⟩⟩; have hnb103 := NB573_543.out; have hnc103 := NB543_573.out; have hnb104 := NB573_544.out; have hnc104 := NB544_573.out; have hnb105 := NB573_550.out; have hnc105 := NB550_573.out; have hcz106_0 : w70.cell? ⟨gb573, 0, none⟩ = some (.int .i64 t569) := (blk_cell BK573.out 0).trans rfl; have hcz106_1 : w70.cell? ⟨gb573, 1, none⟩ = some (.int .i64 t570) := (blk_cell BK573.out 1).trans rfl; have hcz106_2 : w70.cell? ⟨gb573, 2, none⟩ = some (.int .i64 t571) := (blk_cell BK573.out 2).trans rfl; have hcz106_3 : w70.cell? ⟨gb573, 3, none⟩ = some (.int .i64 t572) := (blk_cell BK573.out 3).trans rfl; have hfz106_0 := blk_frozen BK573.out 0; have hfz106_1 := blk_frozen BK573.out 1; have hfz106_2 := blk_frozen BK573.out 2; have hfz106_3 := blk_frozen BK573.out 3))
                                  go_meet
                                  case rel => exact ⟨_, ((t570 != (wrap64 (t575 + a3)))), (by first | rfl | (simp; done) | (simp [*]; done)), H', ⟨by have := HJ7.out; have := HJ45.out; first | omega | exact Nat.le_refl _⟩, ⟨by (with_reducible repeat (first | refine blk_drewN ?_ _ | refine blk_drew ?_ | refine blk_alloc ?_ _)); refine blk_far ?_ NB543_578.out _; (with_reducible repeat (first | refine blk_drewN ?_ _ | refine blk_drew ?_ | refine blk_alloc ?_ _)); refine blk_far ?_ NB543_578.out _; (with_reducible repeat (first | refine blk_drewN ?_ _ | refine blk_drew ?_ | refine blk_alloc ?_ _)); refine blk_far ?_ NB543_578.out _; (with_reducible repeat (first | refine blk_drewN ?_ _ | refine blk_drew ?_ | refine blk_alloc ?_ _)); refine blk_far ?_ NB543_578.out _; (with_reducible repeat (first | refine blk_drewN ?_ _ | refine blk_drew ?_ | refine blk_alloc ?_ _)); exact BK543.out⟩, ⟨by (with_reducible repeat (first | refine blk_drewN ?_ _ | refine blk_drew ?_ | refine blk_alloc ?_ _)); refine blk_far ?_ NB544_578.out _; (with_reducible repeat (first | refine blk_drewN ?_ _ | refine blk_drew ?_ | refine blk_alloc ?_ _)); refine blk_far ?_ NB544_578.out _; (with_reducible repeat (first | refine blk_drewN ?_ _ | refine blk_drew ?_ | refine blk_alloc ?_ _)); refine blk_far ?_ NB544_578.out _; (with_reducible repeat (first | refine blk_drewN ?_ _ | refine blk_drew ?_ | refine blk_alloc ?_ _)); refine blk_far ?_ NB544_578.out _; (with_reducible repeat (first | refine blk_drewN ?_ _ | refine blk_drew ?_ | refine blk_alloc ?_ _)); exact BK544.out⟩, ⟨by (with_reducible repeat (first | refine blk_drewN ?_ _ | refine blk_drew ?_ | refine blk_alloc ?_ _)); refine blk_far ?_ NB550_578.out _; (with_reducible repeat (first | refine blk_drewN ?_ _ | refine blk_drew ?_ | refine blk_alloc ?_ _)); refine blk_far ?_ NB550_578.out _; (with_reducible repeat (first | refine blk_drewN ?_ _ | refine blk_drew ?_ | refine blk_alloc ?_ _)); refine blk_far ?_ NB550_578.out _; (with_reducible repeat (first | refine blk_drewN ?_ _ | refine blk_drew ?_ | refine blk_alloc ?_ _)); refine blk_far ?_ NB550_578.out _; (with_reducible repeat (first | refine blk_drewN ?_ _ | refine blk_drew ?_ | refine blk_alloc ?_ _)); exact BK550.out⟩, ⟨by (with_reducible repeat (first | refine blk_drewN ?_ _ | refine blk_drew ?_ | refine blk_alloc ?_ _)); refine blk_far ?_ NB573_578.out _; (with_reducible repeat (first | refine blk_drewN ?_ _ | refine blk_drew ?_ | refine blk_alloc ?_ _)); refine blk_far ?_ NB573_578.out _; (with_reducible repeat (first | refine blk_drewN ?_ _ | refine blk_drew ?_ | refine blk_alloc ?_ _)); refine blk_far ?_ NB573_578.out _; (with_reducible repeat (first | refine blk_drewN ?_ _ | refine blk_drew ?_ | refine blk_alloc ?_ _)); refine blk_far ?_ NB573_578.out _; (with_reducible repeat (first | refine blk_drewN ?_ _ | refine blk_drew ?_ | refine blk_alloc ?_ _)); exact BK573.out⟩, ⟨by (with_reducible repeat (first | refine blk_drewN ?_ _ | refine blk_drew ?_ | refine blk_alloc ?_ _)); refine blk_put (cs := #[.int .i64 t574, .int .i64 t575, .int .i64 t576, .int .i64 0]) ?_ 3 _ rfl; (with_reducible repeat (first | refine blk_drewN ?_ _ | refine blk_drew ?_ | refine blk_alloc ?_ _)); refine blk_put (cs := #[.int .i64 t574, .int .i64 t575, .int .i64 0, .int .i64 0]) ?_ 2 _ rfl; (with_reducible repeat (first | refine blk_drewN ?_ _ | refine blk_drew ?_ | refine blk_alloc ?_ _)); refine blk_put (cs := #[.int .i64 t574, .int .i64 0, .int .i64 0, .int .i64 0]) ?_ 1 _ rfl; (with_reducible repeat (first | refine blk_drewN ?_ _ | refine blk_drew ?_ | refine blk_alloc ?_ _)); refine blk_put (cs := #[.int .i64 0, .int .i64 0, .int .i64 0, .int .i64 0]) ?_ 0 _ rfl; (with_reducible repeat (first | refine blk_drewN ?_ _ | refine blk_drew ?_ | refine blk_alloc ?_ _)); exact BK578.out⟩, ⟨by repeat (first | (with_reducible first | exact HB.out | apply below_alloc | apply pw_below_drewN | apply below_drew1 | refine below_set ?_ GE543.out | refine below_set ?_ GE544.out | refine below_set ?_ GE550.out | refine below_set ?_ GE573.out | refine below_set ?_ GE578.out) | exact HB.out)⟩⟩
                                · rw [if_neg c97] at H
                                  have c97b0 : (t569 == (wrap64 (t574 + a2))) = false := beq_eq_false_iff_ne.mpr c97
                                  have c97b1 : (t569 != (wrap64 (t574 + a2))) = true := bne_iff_ne.mpr c97
                                  have H' := Aside0.mk H
                                  clear H
                                  go_wp2_with (first | ((with_reducible refine gate_callee (f := 34) rfl ?_); refine goesL_ (some 60) rfl rfl Try.func34 (by kernel_rfl) rfl #[.int .i64 a2] rfl (by (try simp only [List.map_toArray, List.map_cons, List.map_nil]); first | done | rfl | (simp only [List.length_drop, List.length_take]; rfl)) ?_; (with_reducible refine (casementlaw02_far.calls a2 false _ A76.out).mono ?_); rintro e w' ⟨rfl, ⟨nd, rfl⟩⟩; refine ⟨_, rfl, ?_⟩) | (go_at_call 34; (with_reducible refine (casementlaw02_far.calls a3 false _ A78.out).mono ?_); rintro e w' ⟨rfl, ⟨nd, rfl⟩⟩; have hnb107 := NB578_543.out; have hnc107 := NB543_578.out; have hnb108 := NB578_544.out; have hnc108 := NB544_578.out; have hnb109 := NB578_550.out; have hnc109 := NB550_578.out; have hnb110 := NB578_573.out; have hnc110 := NB573_578.out; have hcz111_0 : w70.cell? ⟨gb578, 0, none⟩ = some (.int .i64 0) := (blk_cell BK578.out 0).trans rfl; have hcz111_1 : w70.cell? ⟨gb578, 1, none⟩ = some (.int .i64 0) := (blk_cell BK578.out 1).trans rfl; have hcz111_2 : w70.cell? ⟨gb578, 2, none⟩ = some (.int .i64 0) := (blk_cell BK578.out 2).trans rfl; have hcz111_3 : w70.cell? ⟨gb578, 3, none⟩ = some (.int .i64 0) := (blk_cell BK578.out 3).trans rfl; have hfz111_0 := blk_frozen BK578.out 0; have hfz111_1 := blk_frozen BK578.out 1; have hfz111_2 := blk_frozen BK578.out 2; have hfz111_3 := blk_frozen BK578.out 3) | (go_at_call 34; (with_reducible refine (casementlaw02_far.calls t574 false _ A80.out).mono ?_); rintro e w' ⟨rfl, ⟨nd, rfl⟩⟩) | (go_at_call 34; (with_reducible refine (casementlaw02_far.calls t575 false _ A87.out).mono ?_); rintro e w' ⟨rfl, ⟨nd, rfl⟩⟩; have hnb112 := NB573_543.out; have hnc112 := NB543_573.out; have hnb113 := NB573_544.out; have hnc113 := NB544_573.out; have hnb114 := NB573_550.out; have hnc114 := NB550_573.out; have hcz115_0 : w70.cell? ⟨gb573, 0, none⟩ = some (.int .i64 t569) := (blk_cell BK573.out 0).trans rfl; have hcz115_1 : w70.cell? ⟨gb573, 1, none⟩ = some (.int .i64 t570) := (blk_cell BK573.out 1).trans rfl; have hcz115_2 : w70.cell? ⟨gb573, 2, none⟩ = some (.int .i64 t571) := (blk_cell BK573.out 2).trans rfl; have hcz115_3 : w70.cell? ⟨gb573, 3, none⟩ = some (.int .i64 t572) := (blk_cell BK573.out 3).trans rfl; have hfz115_0 := blk_frozen BK573.out 0; have hfz115_1 := blk_frozen BK573.out 1; have hfz115_2 := blk_frozen BK573.out 2; have hfz115_3 := blk_frozen BK573.out 3))
                                  go_meet
                                  case rel => exact ⟨_, (true), (by first | rfl | (simp; done) | (simp [*]; done)), H', ⟨by have := HJ7.out; have := HJ45.out; first | omega | exact Nat.le_refl _⟩, ⟨by (with_reducible repeat (first | refine blk_drewN ?_ _ | refine blk_drew ?_ | refine blk_alloc ?_ _)); refine blk_far ?_ NB543_578.out _; (with_reducible repeat (first | refine blk_drewN ?_ _ | refine blk_drew ?_ | refine blk_alloc ?_ _)); refine blk_far ?_ NB543_578.out _; (with_reducible repeat (first | refine blk_drewN ?_ _ | refine blk_drew ?_ | refine blk_alloc ?_ _)); refine blk_far ?_ NB543_578.out _; (with_reducible repeat (first | refine blk_drewN ?_ _ | refine blk_drew ?_ | refine blk_alloc ?_ _)); refine blk_far ?_ NB543_578.out _; (with_reducible repeat (first | refine blk_drewN ?_ _ | refine blk_drew ?_ | refine blk_alloc ?_ _)); exact BK543.out⟩, ⟨by (with_reducible repeat (first | refine blk_drewN ?_ _ | refine blk_drew ?_ | refine blk_alloc ?_ _)); refine blk_far ?_ NB544_578.out _; (with_reducible repeat (first | refine blk_drewN ?_ _ | refine blk_drew ?_ | refine blk_alloc ?_ _)); refine blk_far ?_ NB544_578.out _; (with_reducible repeat (first | refine blk_drewN ?_ _ | refine blk_drew ?_ | refine blk_alloc ?_ _)); refine blk_far ?_ NB544_578.out _; (with_reducible repeat (first | refine blk_drewN ?_ _ | refine blk_drew ?_ | refine blk_alloc ?_ _)); refine blk_far ?_ NB544_578.out _; (with_reducible repeat (first | refine blk_drewN ?_ _ | refine blk_drew ?_ | refine blk_alloc ?_ _)); exact BK544.out⟩, ⟨by (with_reducible repeat (first | refine blk_drewN ?_ _ | refine blk_drew ?_ | refine blk_alloc ?_ _)); refine blk_far ?_ NB550_578.out _; (with_reducible repeat (first | refine blk_drewN ?_ _ | refine blk_drew ?_ | refine blk_alloc ?_ _)); refine blk_far ?_ NB550_578.out _; (with_reducible repeat (first | refine blk_drewN ?_ _ | refine blk_drew ?_ | refine blk_alloc ?_ _)); refine blk_far ?_ NB550_578.out _; (with_reducible repeat (first | refine blk_drewN ?_ _ | refine blk_drew ?_ | refine blk_alloc ?_ _)); refine blk_far ?_ NB550_578.out _; (with_reducible repeat (first | refine blk_drewN ?_ _ | refine blk_drew ?_ | refine blk_alloc ?_ _)); exact BK550.out⟩, ⟨by (with_reducible repeat (first | refine blk_drewN ?_ _ | refine blk_drew ?_ | refine blk_alloc ?_ _)); refine blk_far ?_ NB573_578.out _; (with_reducible repeat (first | refine blk_drewN ?_ _ | refine blk_drew ?_ | refine blk_alloc ?_ _)); refine blk_far ?_ NB573_578.out _; (with_reducible repeat (first | refine blk_drewN ?_ _ | refine blk_drew ?_ | refine blk_alloc ?_ _)); refine blk_far ?_ NB573_578.out _; (with_reducible repeat (first | refine blk_drewN ?_ _ | refine blk_drew ?_ | refine blk_alloc ?_ _)); refine blk_far ?_ NB573_578.out _; (with_reducible repeat (first | refine blk_drewN ?_ _ | refine blk_drew ?_ | refine blk_alloc ?_ _)); exact BK573.out⟩, ⟨by (with_reducible repeat (first | refine blk_drewN ?_ _ | refine blk_drew ?_ | refine blk_alloc ?_ _)); refine blk_put (cs := #[.int .i64 t574, .int .i64 t575, .int .i64 t576, .int .i64 0]) ?_ 3 _ rfl; (with_reducible repeat (first | refine blk_drewN ?_ _ | refine blk_drew ?_ | refine blk_alloc ?_ _)); refine blk_put (cs := #[.int .i64 t574, .int .i64 t575, .int .i64 0, .int .i64 0]) ?_ 2 _ rfl; (with_reducible repeat (first | refine blk_drewN ?_ _ | refine blk_drew ?_ | refine blk_alloc ?_ _)); refine blk_put (cs := #[.int .i64 t574, .int .i64 0, .int .i64 0, .int .i64 0]) ?_ 1 _ rfl; (with_reducible repeat (first | refine blk_drewN ?_ _ | refine blk_drew ?_ | refine blk_alloc ?_ _)); refine blk_put (cs := #[.int .i64 0, .int .i64 0, .int .i64 0, .int .i64 0]) ?_ 0 _ rfl; (with_reducible repeat (first | refine blk_drewN ?_ _ | refine blk_drew ?_ | refine blk_alloc ?_ _)); exact BK578.out⟩, ⟨by repeat (first | (with_reducible first | exact HB.out | apply below_alloc | apply pw_below_drewN | apply below_drew1 | refine below_set ?_ GE543.out | refine below_set ?_ GE544.out | refine below_set ?_ GE550.out | refine below_set ?_ GE573.out | refine below_set ?_ GE578.out) | exact HB.out)⟩⟩
                              · rw [if_neg c96] at H
                                have c96b0 : decide (0 < t576) = false := decide_eq_false c96
                                clear c96
                                have H' := Aside0.mk H
                                clear H
                                go_wp2_with (first | ((with_reducible refine gate_callee (f := 34) rfl ?_); refine goesL_ (some 60) rfl rfl Try.func34 (by kernel_rfl) rfl #[.int .i64 a2] rfl (by (try simp only [List.map_toArray, List.map_cons, List.map_nil]); first | done | rfl | (simp only [List.length_drop, List.length_take]; rfl)) ?_; (with_reducible refine (casementlaw02_far.calls a2 false _ A76.out).mono ?_); rintro e w' ⟨rfl, ⟨nd, rfl⟩⟩; refine ⟨_, rfl, ?_⟩) | (go_at_call 34; (with_reducible refine (casementlaw02_far.calls a3 false _ A78.out).mono ?_); rintro e w' ⟨rfl, ⟨nd, rfl⟩⟩; have hnb116 := NB578_543.out; have hnc116 := NB543_578.out; have hnb117 := NB578_544.out; have hnc117 := NB544_578.out; have hnb118 := NB578_550.out; have hnc118 := NB550_578.out; have hnb119 := NB578_573.out; have hnc119 := NB573_578.out; have hcz120_0 : w70.cell? ⟨gb578, 0, none⟩ = some (.int .i64 0) := (blk_cell BK578.out 0).trans rfl; have hcz120_1 : w70.cell? ⟨gb578, 1, none⟩ = some (.int .i64 0) := (blk_cell BK578.out 1).trans rfl; have hcz120_2 : w70.cell? ⟨gb578, 2, none⟩ = some (.int .i64 0) := (blk_cell BK578.out 2).trans rfl; have hcz120_3 : w70.cell? ⟨gb578, 3, none⟩ = some (.int .i64 0) := (blk_cell BK578.out 3).trans rfl; have hfz120_0 := blk_frozen BK578.out 0; have hfz120_1 := blk_frozen BK578.out 1; have hfz120_2 := blk_frozen BK578.out 2; have hfz120_3 := blk_frozen BK578.out 3) | (go_at_call 34; (with_reducible refine (casementlaw02_far.calls t574 false _ A80.out).mono ?_); rintro e w' ⟨rfl, ⟨nd, rfl⟩⟩) | (go_at_call 34; (with_reducible refine (casementlaw02_far.calls t575 false _ A87.out).mono ?_); rintro e w' ⟨rfl, ⟨nd, rfl⟩⟩; have hnb121 := NB573_543.out; have hnc121 := NB543_573.out; have hnb122 := NB573_544.out; have hnc122 := NB544_573.out; have hnb123 := NB573_550.out; have hnc123 := NB550_573.out; have hcz124_0 : w70.cell? ⟨gb573, 0, none⟩ = some (.int .i64 t569) := (blk_cell BK573.out 0).trans rfl; have hcz124_1 : w70.cell? ⟨gb573, 1, none⟩ = some (.int .i64 t570) := (blk_cell BK573.out 1).trans rfl; have hcz124_2 : w70.cell? ⟨gb573, 2, none⟩ = some (.int .i64 t571) := (blk_cell BK573.out 2).trans rfl; have hcz124_3 : w70.cell? ⟨gb573, 3, none⟩ = some (.int .i64 t572) := (blk_cell BK573.out 3).trans rfl; have hfz124_0 := blk_frozen BK573.out 0; have hfz124_1 := blk_frozen BK573.out 1; have hfz124_2 := blk_frozen BK573.out 2; have hfz124_3 := blk_frozen BK573.out 3))
                                go_meet
                                case rel => exact ⟨_, (false), (by first | rfl | (simp; done) | (simp [*]; done)), H', ⟨by have := HJ7.out; have := HJ45.out; first | omega | exact Nat.le_refl _⟩, ⟨by (with_reducible repeat (first | refine blk_drewN ?_ _ | refine blk_drew ?_ | refine blk_alloc ?_ _)); refine blk_far ?_ NB543_578.out _; (with_reducible repeat (first | refine blk_drewN ?_ _ | refine blk_drew ?_ | refine blk_alloc ?_ _)); refine blk_far ?_ NB543_578.out _; (with_reducible repeat (first | refine blk_drewN ?_ _ | refine blk_drew ?_ | refine blk_alloc ?_ _)); refine blk_far ?_ NB543_578.out _; (with_reducible repeat (first | refine blk_drewN ?_ _ | refine blk_drew ?_ | refine blk_alloc ?_ _)); refine blk_far ?_ NB543_578.out _; (with_reducible repeat (first | refine blk_drewN ?_ _ | refine blk_drew ?_ | refine blk_alloc ?_ _)); exact BK543.out⟩, ⟨by (with_reducible repeat (first | refine blk_drewN ?_ _ | refine blk_drew ?_ | refine blk_alloc ?_ _)); refine blk_far ?_ NB544_578.out _; (with_reducible repeat (first | refine blk_drewN ?_ _ | refine blk_drew ?_ | refine blk_alloc ?_ _)); refine blk_far ?_ NB544_578.out _; (with_reducible repeat (first | refine blk_drewN ?_ _ | refine blk_drew ?_ | refine blk_alloc ?_ _)); refine blk_far ?_ NB544_578.out _; (with_reducible repeat (first | refine blk_drewN ?_ _ | refine blk_drew ?_ | refine blk_alloc ?_ _)); refine blk_far ?_ NB544_578.out _; (with_reducible repeat (first | refine blk_drewN ?_ _ | refine blk_drew ?_ | refine blk_alloc ?_ _)); exact BK544.out⟩, ⟨by (with_reducible repeat (first | refine blk_drewN ?_ _ | refine blk_drew ?_ | refine blk_alloc ?_ _)); refine blk_far ?_ NB550_578.out _; (with_reducible repeat (first | refine blk_drewN ?_ _ | refine blk_drew ?_ | refine blk_alloc ?_ _)); refine blk_far ?_ NB550_578.out _; (with_reducible repeat (first | refine blk_drewN ?_ _ | refine blk_drew ?_ | refine blk_alloc ?_ _)); refine blk_far ?_ NB550_578.out _; (with_reducible repeat (first | refine blk_drewN ?_ _ | refine blk_drew ?_ | refine blk_alloc ?_ _)); refine blk_far ?_ NB550_578.out _; (with_reducible repeat (first | refine blk_drewN ?_ _ | refine blk_drew ?_ | refine blk_alloc ?_ _)); exact BK550.out⟩, ⟨by (with_reducible repeat (first | refine blk_drewN ?_ _ | refine blk_drew ?_ | refine blk_alloc ?_ _)); refine blk_far ?_ NB573_578.out _; (with_reducible repeat (first | refine blk_drewN ?_ _ | refine blk_drew ?_ | refine blk_alloc ?_ _)); refine blk_far ?_ NB573_578.out _; (with_reducible repeat (first | refine blk_drewN ?_ _ | refine blk_drew ?_ | refine blk_alloc ?_ _)); refine blk_far ?_ NB573_578.out _; (with_reducible repeat (first | refine blk_drewN ?_ _ | refine blk_drew ?_ | refine blk_alloc ?_ _)); refine blk_far ?_ NB573_578.out _; (with_reducible repeat (first | refine blk_drewN ?_ _ | refine blk_drew ?_ | refine blk_alloc ?_ _)); exact BK573.out⟩, ⟨by (with_reducible repeat (first | refine blk_drewN ?_ _ | refine blk_drew ?_ | refine blk_alloc ?_ _)); refine blk_put (cs := #[.int .i64 t574, .int .i64 t575, .int .i64 t576, .int .i64 0]) ?_ 3 _ rfl; (with_reducible repeat (first | refine blk_drewN ?_ _ | refine blk_drew ?_ | refine blk_alloc ?_ _)); refine blk_put (cs := #[.int .i64 t574, .int .i64 t575, .int .i64 0, .int .i64 0]) ?_ 2 _ rfl; (with_reducible repeat (first | refine blk_drewN ?_ _ | refine blk_drew ?_ | refine blk_alloc ?_ _)); refine blk_put (cs := #[.int .i64 t574, .int .i64 0, .int .i64 0, .int .i64 0]) ?_ 1 _ rfl; (with_reducible repeat (first | refine blk_drewN ?_ _ | refine blk_drew ?_ | refine blk_alloc ?_ _)); refine blk_put (cs := #[.int .i64 0, .int .i64 0, .int .i64 0, .int .i64 0]) ?_ 0 _ rfl; (with_reducible repeat (first | refine blk_drewN ?_ _ | refine blk_drew ?_ | refine blk_alloc ?_ _)); exact BK578.out⟩, ⟨by repeat (first | (with_reducible first | exact HB.out | apply below_alloc | apply pw_below_drewN | apply below_drew1 | refine below_set ?_ GE543.out | refine below_set ?_ GE544.out | refine below_set ?_ GE550.out | refine below_set ?_ GE573.out | refine below_set ?_ GE578.out) | exact HB.out)⟩⟩
                            · rw [if_neg c95] at H
                              have c95b0 : (t572 == t577) = false := beq_eq_false_iff_ne.mpr c95
                              have c95b1 : (t572 != t577) = true := bne_iff_ne.mpr c95
                              have H' := Aside0.mk H
                              clear H
                              go_wp2_with (first | ((with_reducible refine gate_callee (f := 34) rfl ?_); refine goesL_ (some 60) rfl rfl Try.func34 (by kernel_rfl) rfl #[.int .i64 a2] rfl (by (try simp only [List.map_toArray, List.map_cons, List.map_nil]); first | done | rfl | (simp only [List.length_drop, List.length_take]; rfl)) ?_; (with_reducible refine (casementlaw02_far.calls a2 false _ A76.out).mono ?_); rintro e w' ⟨rfl, ⟨nd, rfl⟩⟩; refine ⟨_, rfl, ?_⟩) | (go_at_call 34; (with_reducible refine (casementlaw02_far.calls a3 false _ A78.out).mono ?_); rintro e w' ⟨rfl, ⟨nd, rfl⟩⟩; have hnb125 := NB578_543.out; have hnc125 := NB543_578.out; have hnb126 := NB578_544.out; have hnc126 := NB544_578.out; have hnb127 := NB578_550.out; have hnc127 := NB550_578.out; have hnb128 := NB578_573.out; have hnc128 := NB573_578.out; have hcz129_0 : w70.cell? ⟨gb578, 0, none⟩ = some (.int .i64 0) := (blk_cell BK578.out 0).trans rfl; have hcz129_1 : w70.cell? ⟨gb578, 1, none⟩ = some (.int .i64 0) := (blk_cell BK578.out 1).trans rfl; have hcz129_2 : w70.cell? ⟨gb578, 2, none⟩ = some (.int .i64 0) := (blk_cell BK578.out 2).trans rfl; have hcz129_3 : w70.cell? ⟨gb578, 3, none⟩ = some (.int .i64 0) := (blk_cell BK578.out 3).trans rfl; have hfz129_0 := blk_frozen BK578.out 0; have hfz129_1 := blk_frozen BK578.out 1; have hfz129_2 := blk_frozen BK578.out 2; have hfz129_3 := blk_frozen BK578.out 3) | (go_at_call 34; (with_reducible refine (casementlaw02_far.calls t574 false _ A80.out).mono ?_); rintro e w' ⟨rfl, ⟨nd, rfl⟩⟩) | (go_at_call 34; (with_reducible refine (casementlaw02_far.calls t575 false _ A87.out).mono ?_); rintro e w' ⟨rfl, ⟨nd, rfl⟩⟩; have hnb130 := NB573_543.out; have hnc130 := NB543_573.out; have hnb131 := NB573_544.out; have hnc131 := NB544_573.out; have hnb132 := NB573_550.out; have hnc132 := NB550_573.out; have hcz133_0 : w70.cell? ⟨gb573, 0, none⟩ = some (.int .i64 t569) := (blk_cell BK573.out 0).trans rfl; have hcz133_1 : w70.cell? ⟨gb573, 1, none⟩ = some (.int .i64 t570) := (blk_cell BK573.out 1).trans rfl; have hcz133_2 : w70.cell? ⟨gb573, 2, none⟩ = some (.int .i64 t571) := (blk_cell BK573.out 2).trans rfl; have hcz133_3 : w70.cell? ⟨gb573, 3, none⟩ = some (.int .i64 t572) := (blk_cell BK573.out 3).trans rfl; have hfz133_0 := blk_frozen BK573.out 0; have hfz133_1 := blk_frozen BK573.out 1; have hfz133_2 := blk_frozen BK573.out 2; have hfz133_3 := blk_frozen BK573.out 3))
                              go_meet
                              case rel => exact ⟨_, (true), (by first | rfl | (simp; done) | (simp [*]; done)), H', ⟨by have := HJ7.out; have := HJ45.out; first | omega | exact Nat.le_refl _⟩, ⟨by (with_reducible repeat (first | refine blk_drewN ?_ _ | refine blk_drew ?_ | refine blk_alloc ?_ _)); refine blk_far ?_ NB543_578.out _; (with_reducible repeat (first | refine blk_drewN ?_ _ | refine blk_drew ?_ | refine blk_alloc ?_ _)); refine blk_far ?_ NB543_578.out _; (with_reducible repeat (first | refine blk_drewN ?_ _ | refine blk_drew ?_ | refine blk_alloc ?_ _)); refine blk_far ?_ NB543_578.out _; (with_reducible repeat (first | refine blk_drewN ?_ _ | refine blk_drew ?_ | refine blk_alloc ?_ _)); refine blk_far ?_ NB543_578.out _; (with_reducible repeat (first | refine blk_drewN ?_ _ | refine blk_drew ?_ | refine blk_alloc ?_ _)); exact BK543.out⟩, ⟨by (with_reducible repeat (first | refine blk_drewN ?_ _ | refine blk_drew ?_ | refine blk_alloc ?_ _)); refine blk_far ?_ NB544_578.out _; (with_reducible repeat (first | refine blk_drewN ?_ _ | refine blk_drew ?_ | refine blk_alloc ?_ _)); refine blk_far ?_ NB544_578.out _; (with_reducible repeat (first | refine blk_drewN ?_ _ | refine blk_drew ?_ | refine blk_alloc ?_ _)); refine blk_far ?_ NB544_578.out _; (with_reducible repeat (first | refine blk_drewN ?_ _ | refine blk_drew ?_ | refine blk_alloc ?_ _)); refine blk_far ?_ NB544_578.out _; (with_reducible repeat (first | refine blk_drewN ?_ _ | refine blk_drew ?_ | refine blk_alloc ?_ _)); exact BK544.out⟩, ⟨by (with_reducible repeat (first | refine blk_drewN ?_ _ | refine blk_drew ?_ | refine blk_alloc ?_ _)); refine blk_far ?_ NB550_578.out _; (with_reducible repeat (first | refine blk_drewN ?_ _ | refine blk_drew ?_ | refine blk_alloc ?_ _)); refine blk_far ?_ NB550_578.out _; (with_reducible repeat (first | refine blk_drewN ?_ _ | refine blk_drew ?_ | refine blk_alloc ?_ _)); refine blk_far ?_ NB550_578.out _; (with_reducible repeat (first | refine blk_drewN ?_ _ | refine blk_drew ?_ | refine blk_alloc ?_ _)); refine blk_far ?_ NB550_578.out _; (with_reducible repeat (first | refine blk_drewN ?_ _ | refine blk_drew ?_ | refine blk_alloc ?_ _)); exact BK550.out⟩, ⟨by (with_reducible repeat (first | refine blk_drewN ?_ _ | refine blk_drew ?_ | refine blk_alloc ?_ _)); refine blk_far ?_ NB573_578.out _; (with_reducible repeat (first | refine blk_drewN ?_ _ | refine blk_drew ?_ | refine blk_alloc ?_ _)); refine blk_far ?_ NB573_578.out _; (with_reducible repeat (first | refine blk_drewN ?_ _ | refine blk_drew ?_ | refine blk_alloc ?_ _)); refine blk_far ?_ NB573_578.out _; (with_reducible repeat (first | refine blk_drewN ?_ _ | refine blk_drew ?_ | refine blk_alloc ?_ _)); refine blk_far ?_ NB573_578.out _; (with_reducible repeat (first | refine blk_drewN ?_ _ | refine blk_drew ?_ | refine blk_alloc ?_ _)); exact BK573.out⟩, ⟨by (with_reducible repeat (first | refine blk_drewN ?_ _ | refine blk_drew ?_ | refine blk_alloc ?_ _)); refine blk_put (cs := #[.int .i64 t574, .int .i64 t575, .int .i64 t576, .int .i64 0]) ?_ 3 _ rfl; (with_reducible repeat (first | refine blk_drewN ?_ _ | refine blk_drew ?_ | refine blk_alloc ?_ _)); refine blk_put (cs := #[.int .i64 t574, .int .i64 t575, .int .i64 0, .int .i64 0]) ?_ 2 _ rfl; (with_reducible repeat (first | refine blk_drewN ?_ _ | refine blk_drew ?_ | refine blk_alloc ?_ _)); refine blk_put (cs := #[.int .i64 t574, .int .i64 0, .int .i64 0, .int .i64 0]) ?_ 1 _ rfl; (with_reducible repeat (first | refine blk_drewN ?_ _ | refine blk_drew ?_ | refine blk_alloc ?_ _)); refine blk_put (cs := #[.int .i64 0, .int .i64 0, .int .i64 0, .int .i64 0]) ?_ 0 _ rfl; (with_reducible repeat (first | refine blk_drewN ?_ _ | refine blk_drew ?_ | refine blk_alloc ?_ _)); exact BK578.out⟩, ⟨by repeat (first | (with_reducible first | exact HB.out | apply below_alloc | apply pw_below_drewN | apply below_drew1 | refine below_set ?_ GE543.out | refine below_set ?_ GE544.out | refine below_set ?_ GE550.out | refine below_set ?_ GE573.out | refine below_set ?_ GE578.out) | exact HB.out)⟩⟩
                          · rw [if_neg c94] at H
                            have c94b0 : (t571 == t576) = false := beq_eq_false_iff_ne.mpr c94
                            have c94b1 : (t571 != t576) = true := bne_iff_ne.mpr c94
                            (first | rw [c94b0] | (simp only [i64_w, i32_w]; rw [c94b0]) | skip)
                            have H' := Aside0.mk H
                            clear H
                            go_wp2_with (first | ((with_reducible refine gate_callee (f := 34) rfl ?_); refine goesL_ (some 60) rfl rfl Try.func34 (by kernel_rfl) rfl #[.int .i64 a2] rfl (by (try simp only [List.map_toArray, List.map_cons, List.map_nil]); first | done | rfl | (simp only [List.length_drop, List.length_take]; rfl)) ?_; (with_reducible refine (casementlaw02_far.calls a2 false _ A76.out).mono ?_); rintro e w' ⟨rfl, ⟨nd, rfl⟩⟩; refine ⟨_, rfl, ?_⟩) | (go_at_call 34; (with_reducible refine (casementlaw02_far.calls a3 false _ A78.out).mono ?_); rintro e w' ⟨rfl, ⟨nd, rfl⟩⟩; have hnb134 := NB578_543.out; have hnc134 := NB543_578.out; have hnb135 := NB578_544.out; have hnc135 := NB544_578.out; have hnb136 := NB578_550.out; have hnc136 := NB550_578.out; have hnb137 := NB578_573.out; have hnc137 := NB573_578.out; have hcz138_0 : w70.cell? ⟨gb578, 0, none⟩ = some (.int .i64 0) := (blk_cell BK578.out 0).trans rfl; have hcz138_1 : w70.cell? ⟨gb578, 1, none⟩ = some (.int .i64 0) := (blk_cell BK578.out 1).trans rfl; have hcz138_2 : w70.cell? ⟨gb578, 2, none⟩ = some (.int .i64 0) := (blk_cell BK578.out 2).trans rfl; have hcz138_3 : w70.cell? ⟨gb578, 3, none⟩ = some (.int .i64 0) := (blk_cell BK578.out 3).trans rfl; have hfz138_0 := blk_frozen BK578.out 0; have hfz138_1 := blk_frozen BK578.out 1; have hfz138_2 := blk_frozen BK578.out 2; have hfz138_3 := blk_frozen BK578.out 3) | (go_at_call 34; (with_reducible refine (casementlaw02_far.calls t574 false _ A80.out).mono ?_); rintro e w' ⟨rfl, ⟨nd, rfl⟩⟩) | (go_at_call 34; (with_reducible refine (casementlaw02_far.calls t575 false _ A87.out).mono ?_); rintro e w' ⟨rfl, ⟨nd, rfl⟩⟩; have hnb139 := NB573_543.out; have hnc139 := NB543_573.out; have hnb140 := NB573_544.out; have hnc140 := NB544_573.out; have hnb141 := NB573_550.out; have hnc141 := NB550_573.out; have hcz142_0 : w70.cell? ⟨gb573, 0, none⟩ = some (.int .i64 t569) := (blk_cell BK573.out 0).trans rfl; have hcz142_1 : w70.cell? ⟨gb573, 1, none⟩ = some (.int .i64 t570) := (blk_cell BK573.out 1).trans rfl; have hcz142_2 : w70.cell? ⟨gb573, 2, none⟩ = some (.int .i64 t571) := (blk_cell BK573.out 2).trans rfl; have hcz142_3 : w70.cell? ⟨gb573, 3, none⟩ = some (.int .i64 t572) := (blk_cell BK573.out 3).trans rfl; have hfz142_0 := blk_frozen BK573.out 0; have hfz142_1 := blk_frozen BK573.out 1; have hfz142_2 := blk_frozen BK573.out 2; have hfz142_3 := blk_frozen BK573.out 3))
                            go_meet
                            case rel => exact ⟨_, (true), (by first | rfl | (simp; done) | (simp [*]; done)), H', ⟨by have := HJ7.out; have := HJ45.out; first | omega | exact Nat.le_refl _⟩, ⟨by (with_reducible repeat (first | refine blk_drewN ?_ _ | refine blk_drew ?_ | refine blk_alloc ?_ _)); refine blk_far ?_ NB543_578.out _; (with_reducible repeat (first | refine blk_drewN ?_ _ | refine blk_drew ?_ | refine blk_alloc ?_ _)); refine blk_far ?_ NB543_578.out _; (with_reducible repeat (first | refine blk_drewN ?_ _ | refine blk_drew ?_ | refine blk_alloc ?_ _)); refine blk_far ?_ NB543_578.out _; (with_reducible repeat (first | refine blk_drewN ?_ _ | refine blk_drew ?_ | refine blk_alloc ?_ _)); refine blk_far ?_ NB543_578.out _; (with_reducible repeat (first | refine blk_drewN ?_ _ | refine blk_drew ?_ | refine blk_alloc ?_ _)); exact BK543.out⟩, ⟨by (with_reducible repeat (first | refine blk_drewN ?_ _ | refine blk_drew ?_ | refine blk_alloc ?_ _)); refine blk_far ?_ NB544_578.out _; (with_reducible repeat (first | refine blk_drewN ?_ _ | refine blk_drew ?_ | refine blk_alloc ?_ _)); refine blk_far ?_ NB544_578.out _; (with_reducible repeat (first | refine blk_drewN ?_ _ | refine blk_drew ?_ | refine blk_alloc ?_ _)); refine blk_far ?_ NB544_578.out _; (with_reducible repeat (first | refine blk_drewN ?_ _ | refine blk_drew ?_ | refine blk_alloc ?_ _)); refine blk_far ?_ NB544_578.out _; (with_reducible repeat (first | refine blk_drewN ?_ _ | refine blk_drew ?_ | refine blk_alloc ?_ _)); exact BK544.out⟩, ⟨by (with_reducible repeat (first | refine blk_drewN ?_ _ | refine blk_drew ?_ | refine blk_alloc ?_ _)); refine blk_far ?_ NB550_578.out _; (with_reducible repeat (first | refine blk_drewN ?_ _ | refine blk_drew ?_ | refine blk_alloc ?_ _)); refine blk_far ?_ NB550_578.out _; (with_reducible repeat (first | refine blk_drewN ?_ _ | refine blk_drew ?_ | refine blk_alloc ?_ _)); refine blk_far ?_ NB550_578.out _; (with_reducible repeat (first | refine blk_drewN ?_ _ | refine blk_drew ?_ | refine blk_alloc ?_ _)); refine blk_far ?_ NB550_578.out _; (with_reducible repeat (first | refine blk_drewN ?_ _ | refine blk_drew ?_ | refine blk_alloc ?_ _)); exact BK550.out⟩, ⟨by (with_reducible repeat (first | refine blk_drewN ?_ _ | refine blk_drew ?_ | refine blk_alloc ?_ _)); refine blk_far ?_ NB573_578.out _; (with_reducible repeat (first | refine blk_drewN ?_ _ | refine blk_drew ?_ | refine blk_alloc ?_ _)); refine blk_far ?_ NB573_578.out _; (with_reducible repeat (first | refine blk_drewN ?_ _ | refine blk_drew ?_ | refine blk_alloc ?_ _)); refine blk_far ?_ NB573_578.out _; (with_reducible repeat (first | refine blk_drewN ?_ _ | refine blk_drew ?_ | refine blk_alloc ?_ _)); refine blk_far ?_ NB573_578.out _; (with_reducible repeat (first | refine blk_drewN ?_ _ | refine blk_drew ?_ | refine blk_alloc ?_ _)); exact BK573.out⟩, ⟨by (with_reducible repeat (first | refine blk_drewN ?_ _ | refine blk_drew ?_ | refine blk_alloc ?_ _)); refine blk_put (cs := #[.int .i64 t574, .int .i64 t575, .int .i64 t576, .int .i64 0]) ?_ 3 _ rfl; (with_reducible repeat (first | refine blk_drewN ?_ _ | refine blk_drew ?_ | refine blk_alloc ?_ _)); refine blk_put (cs := #[.int .i64 t574, .int .i64 t575, .int .i64 0, .int .i64 0]) ?_ 2 _ rfl; (with_reducible repeat (first | refine blk_drewN ?_ _ | refine blk_drew ?_ | refine blk_alloc ?_ _)); refine blk_put (cs := #[.int .i64 t574, .int .i64 0, .int .i64 0, .int .i64 0]) ?_ 1 _ rfl; (with_reducible repeat (first | refine blk_drewN ?_ _ | refine blk_drew ?_ | refine blk_alloc ?_ _)); refine blk_put (cs := #[.int .i64 0, .int .i64 0, .int .i64 0, .int .i64 0]) ?_ 0 _ rfl; (with_reducible repeat (first | refine blk_drewN ?_ _ | refine blk_drew ?_ | refine blk_alloc ?_ _)); exact BK578.out⟩, ⟨by repeat (first | (with_reducible first | exact HB.out | apply below_alloc | apply pw_below_drewN | apply below_drew1 | refine below_set ?_ GE543.out | refine below_set ?_ GE544.out | refine below_set ?_ GE550.out | refine below_set ?_ GE573.out | refine below_set ?_ GE578.out) | exact HB.out)⟩⟩
                case rest =>
                  clear HC58
                  try clear c1
                  try clear c2
                  try clear p2
                  try clear c3
                  try clear c4
                  try clear c5
                  try clear c6
                  try clear p6
                  try clear c7
                  try clear c8
                  try clear c9
                  try clear c10
                  try clear c11
                  try clear c12
                  try clear c13
                  try clear c14
                  try clear c20
                  try clear c21
                  try clear c25
                  try clear c28
                  try clear c29
                  try clear c29b0
                  try clear c33
                  try clear c34
                  try clear c45
                  try clear c48
                  try clear c55
                  try clear c59
                  try clear c60
                  try clear c64
                  try clear p64
                  try clear c65
                  try clear c66
                  try clear c71
                  try clear c72
                  try clear c73
                  try clear c74
                  try clear c77
                  try clear c79
                  try clear c81
                  try clear c82
                  try clear c83
                  try clear c84
                  try clear c85
                  try clear c88
                  try clear c89
                  try clear c90
                  try clear c91
                  try clear c92
                  try clear c94
                  try clear c94b0
                  try clear c94b1
                  try clear c95
                  try clear c95b0
                  try clear c95b1
                  try clear c96
                  try clear c96b0
                  try clear c97
                  try clear c97b0
                  try clear c97b1
                  try clear c98
                  try clear c99
                  try clear c100
                  try clear c101
                  try clear c103
                  try clear c104
                  try clear c105
                  try clear c107
                  try clear c108
                  try clear c109
                  try clear c110
                  try clear c112
                  try clear c113
                  try clear c114
                  try clear c116
                  try clear c117
                  try clear c118
                  try clear c119
                  try clear c121
                  try clear c122
                  try clear c123
                  try clear c125
                  try clear c126
                  try clear c127
                  try clear c128
                  try clear c130
                  try clear c131
                  try clear c132
                  try clear c134
                  try clear c135
                  try clear c136
                  try clear c137
                  try clear c139
                  try clear c140
                  try clear c141
                  try clear hcz102_0
                  try clear hcz102_1
                  try clear hcz102_2
                  try clear hcz102_3
                  try clear hcz106_0
                  try clear hcz106_1
                  try clear hcz106_2
                  try clear hcz106_3
                  try clear hcz111_0
                  try clear hcz111_1
                  try clear hcz111_2
                  try clear hcz111_3
                  try clear hcz115_0
                  try clear hcz115_1
                  try clear hcz115_2
                  try clear hcz115_3
                  try clear hcz120_0
                  try clear hcz120_1
                  try clear hcz120_2
                  try clear hcz120_3
                  try clear hcz124_0
                  try clear hcz124_1
                  try clear hcz124_2
                  try clear hcz124_3
                  try clear hcz129_0
                  try clear hcz129_1
                  try clear hcz129_2
                  try clear hcz129_3
                  try clear hcz133_0
                  try clear hcz133_1
                  try clear hcz133_2
                  try clear hcz133_3
                  try clear hcz138_0
                  try clear hcz138_1
                  try clear hcz138_2
                  try clear hcz138_3
                  try clear hcz142_0
                  try clear hcz142_1
                  try clear hcz142_2
                  try clear hcz142_3
                  try clear hcz61_0
                  try clear hcz61_1
                  try clear hcz61_2
                  try clear hcz61_3
                  try clear hcz67_0
                  try clear hcz67_1
                  try clear hcz67_2
                  try clear hcz67_3
                  try clear hcz68_0
                  try clear hcz68_1
                  try clear hcz68_2
                  try clear hcz68_3
                  try clear hcz75_0
                  try clear hcz75_1
                  try clear hcz75_2
                  try clear hcz75_3
                  try clear hcz86_0
                  try clear hcz86_1
                  try clear hcz86_2
                  try clear hcz86_3
                  try clear hcz93_0
                  try clear hcz93_1
                  try clear hcz93_2
                  try clear hcz93_3
                  try clear hfz102_0
                  try clear hfz102_1
                  try clear hfz102_2
                  try clear hfz102_3
                  try clear hfz106_0
                  try clear hfz106_1
                  try clear hfz106_2
                  try clear hfz106_3
                  try clear hfz111_0
                  try clear hfz111_1
                  try clear hfz111_2
                  try clear hfz111_3
                  try clear hfz115_0
                  try clear hfz115_1
                  try clear hfz115_2
                  try clear hfz115_3
                  try clear hfz120_0
                  try clear hfz120_1
                  try clear hfz120_2
                  try clear hfz120_3
                  try clear hfz124_0
                  try clear hfz124_1
                  try clear hfz124_2
                  try clear hfz124_3
                  try clear hfz129_0
                  try clear hfz129_1
                  try clear hfz129_2
                  try clear hfz129_3
                  try clear hfz133_0
                  try clear hfz133_1
                  try clear hfz133_2
                  try clear hfz133_3
                  try clear hfz138_0
                  try clear hfz138_1
                  try clear hfz138_2
                  try clear hfz138_3
                  try clear hfz142_0
                  try clear hfz142_1
                  try clear hfz142_2
                  try clear hfz142_3
                  try clear hfz61_0
                  try clear hfz61_1
                  try clear hfz61_2
                  try clear hfz61_3
                  try clear hfz67_0
                  try clear hfz67_1
                  try clear hfz67_2
                  try clear hfz67_3
                  try clear hfz68_0
                  try clear hfz68_1
                  try clear hfz68_2
                  try clear hfz68_3
                  try clear hfz75_0
                  try clear hfz75_1
                  try clear hfz75_2
                  try clear hfz75_3
                  try clear hfz86_0
                  try clear hfz86_1
                  try clear hfz86_2
                  try clear hfz86_3
                  try clear hfz93_0
                  try clear hfz93_1
                  try clear hfz93_2
                  try clear hfz93_3
                  try clear p2
                  obtain ⟨kq, x115_57, rfl, HA, HJ57, BK543, BK544, BK550, BK573, BK578, HB⟩ := hcut
                  cases kq with
                  | zero => exact absurd HA.out (by simp [casementlaw02_RectInto.j2])
                  | succ kj57 =>
                    have H := HA.out
                    clear HA
                    simp only [casementlaw02_RectInto.j2] at H
                    by_cases c143 : x115_57 = true
                    · subst c143
                      have H1 : (some false) = some r := by rw [if_pos rfl] at H; exact H
                      clear H
                      have H := H1
                      clear H1
                      exact absurd ((Option.some.inj H).trans HRT.out) (by decide)
                    · replace c143 := Bool.eq_false_iff.mpr c143
                      subst c143
                      have H1 : ((rect_Inset.f a0_0 a0_1 a0_2 a0_3 a2).bind fun bt583 => ((rect_Within.f bt583.1 bt583.2.1 bt583.2.2.1 bt583.2.2.2 a0_0 a0_1 a0_2 a0_3).bind fun t587 => (some t587))) = some r := by rw [if_neg (show ¬ (false = true) by decide)] at H; exact H
                      clear H
                      have H := H1
                      clear H1
                      replace H := Option.bind_eq_some_iff.mp H
                      obtain ⟨⟨t583, t584, t585, t586⟩, A1440, H⟩ := H
                      replace H : ((rect_Within.f t583 t584 t585 t586 a0_0 a0_1 a0_2 a0_3).bind fun t587 => (some t587)) = some r := H
                      have A144 := Aside0.mk A1440
                      clear A1440
                      replace H := Option.bind_eq_some_iff.mp H
                      obtain ⟨t587, A1450, H⟩ := H
                      replace H : (some t587) = some r := H
                      have A145 := Aside0.mk A1450
                      clear A1450
                      obtain rfl := Option.some.inj H
                      try go_wp2
                      have n0_ := Aside0.mk (blk_drew BK543.out)
                      have n1_ := Aside0.mk (blk_drew BK544.out)
                      have n2_ := Aside0.mk (blk_drew BK550.out)
                      have n3_ := Aside0.mk (blk_drew BK573.out)
                      have n4_ := Aside0.mk (blk_drew BK578.out)
                      have n5_ := Aside0.mk (below_drew1 HB.out)
                      clear BK543
                      clear BK544
                      clear BK550
                      clear BK573
                      clear BK578
                      clear HB
                      have BK543 := n0_
                      have BK544 := n1_
                      have BK550 := n2_
                      have BK573 := n3_
                      have BK578 := n4_
                      have HB := n5_
                      clear n0_ n1_ n2_ n3_ n4_ n5_
                      refine start_ (n := 6) (S := fun w' => w'.cell? ⟨gb543, 0, none⟩ = some (.int .i64 a0_0) ∧ w'.cell? ⟨gb543, 1, none⟩ = some (.int .i64 a0_1) ∧ w'.cell? ⟨gb543, 2, none⟩ = some (.int .i64 a0_2) ∧ w'.cell? ⟨gb543, 3, none⟩ = some (.int .i64 a0_3)) (ds := []) #[false, false, false, false, false, false] (by kernel_rfl) rfl rfl ⟨(blk_cell BK543.out 0).trans rfl, (blk_cell BK543.out 1).trans rfl, (blk_cell BK543.out 2).trans rfl, (blk_cell BK543.out 3).trans rfl⟩ (fun hHeld => ?_)
                      generalize wc.drew = w146 at BK543 BK544 BK550 BK573 BK578 HB hHeld ⊢
                      refine pure_ (i := 1) (N := some 117) (v := ?_) (a' := ?_) #[false, true, false, false, false, false] rfl rfl (by kernel_rfl) (fun _ _ _ h => h) (Or.inl ⟨by rfl, ?_⟩) ?_ ?_
                      rotate_left
                      · intro w'
                        go_simp
                        with_reducible rfl
                      rotate_left
                      · simp only [Act.put, List.setIfInBounds_toArray, List.set_cons_zero, List.set_cons_succ, i64_w, i32_w]
                        rfl
                      refine take_ (i := 0) (N := some 116) (v := ?_) (a' := ?_) #[true, true, false, false, false, false] rfl rfl (by kernel_rfl) (fun _ _ _ h => h) (Or.inl ⟨by rfl, ?_⟩) hHeld ?_ ?_
                      rotate_left
                      · rintro w' ⟨s0, s1, s2, s3⟩
                        go_simp
                        with_reducible rfl
                      rotate_left
                      · simp only [Act.put, List.setIfInBounds_toArray, List.set_cons_zero, List.set_cons_succ, i64_w, i32_w]
                        rfl
                      refine take_ (i := 3) (N := some 119) (v := ?_) (a' := ?_) #[true, true, false, true, false, false] rfl rfl (by kernel_rfl) (fun _ _ _ h => h) (Or.inl ⟨by rfl, ?_⟩) hHeld ?_ ?_
                      rotate_left
                      · rintro w' ⟨s0, s1, s2, s3⟩
                        go_simp
                        with_reducible rfl
                      rotate_left
                      · simp only [Act.put, List.setIfInBounds_toArray, List.set_cons_zero, List.set_cons_succ, i64_w, i32_w]
                        rfl
                      refine one_ (i := 2) (N := some 118) #[true, true, true, true, false, false] rfl rfl (by kernel_rfl) (by decide) (fun K hK => ?_)
                      refine goes_ Try.func27 (by kernel_rfl) rfl #[.agg #[.int .i64 a0_0, .int .i64 a0_1, .int .i64 a0_2, .int .i64 a0_3], .int .i64 a2] (by rfl) rfl rfl (by (try simp only [List.map_toArray, List.map_cons, List.map_nil]); first | done | rfl | (simp only [List.length_drop, List.length_take]; rfl)) ?_
                      with_reducible refine (rect_Inset.calls a0_0 a0_1 a0_2 a0_3 a2 t583 t584 t585 t586 _ A144.out).mono ?_
                      rintro e w147 ⟨rfl, hb⟩
                      refine ⟨_, rfl, ?_⟩
                      have n0_ := Aside0.mk (blk_below (g := gb543) (o := .cells #[.int .i64 a0_0, .int .i64 a0_1, .int .i64 a0_2, .int .i64 a0_3] 26 (0, 0)) (by (with_reducible repeat (first | refine blk_drewN ?_ _ | refine blk_drew ?_ | refine blk_alloc ?_ _)); exact BK543.out) hb)
                      have n1_ := Aside0.mk (blk_below (g := gb544) (o := .cells #[.int .i64 a1_0, .int .i64 a1_1, .int .i64 a1_2, .int .i64 a1_3] 26 (0, 0)) (by (with_reducible repeat (first | refine blk_drewN ?_ _ | refine blk_drew ?_ | refine blk_alloc ?_ _)); exact BK544.out) hb)
                      have n2_ := Aside0.mk (blk_below (g := gb550) (o := .cells #[.int .i64 t546, .int .i64 t547, .int .i64 t548, .int .i64 t549] 26 (0, 0)) (by (with_reducible repeat (first | refine blk_drewN ?_ _ | refine blk_drew ?_ | refine blk_alloc ?_ _)); exact BK550.out) hb)
                      have n3_ := Aside0.mk (blk_below (g := gb573) (o := .cells #[.int .i64 t569, .int .i64 t570, .int .i64 t571, .int .i64 t572] 26 (0, 0)) (by (with_reducible repeat (first | refine blk_drewN ?_ _ | refine blk_drew ?_ | refine blk_alloc ?_ _)); exact BK573.out) hb)
                      have n4_ := Aside0.mk (blk_below (g := gb578) (o := .cells #[.int .i64 t574, .int .i64 t575, .int .i64 t576, .int .i64 t577] 26 (0, 0)) (by (with_reducible repeat (first | refine blk_drewN ?_ _ | refine blk_drew ?_ | refine blk_alloc ?_ _)); exact BK578.out) hb)
                      have n5_ := Aside0.mk (below_step (by repeat (first | (with_reducible first | exact HB.out | apply below_alloc | apply pw_below_drewN | apply below_drew1 | refine below_set ?_ GE543.out | refine below_set ?_ GE544.out | refine below_set ?_ GE550.out | refine below_set ?_ GE573.out | refine below_set ?_ GE578.out) | exact HB.out)) hb)
                      clear BK543
                      clear BK544
                      clear BK550
                      clear BK573
                      clear BK578
                      clear HB
                      have BK543 := n0_
                      have BK544 := n1_
                      have BK550 := n2_
                      have BK573 := n3_
                      have BK578 := n4_
                      have HB := n5_
                      clear n0_ n1_ n2_ n3_ n4_ n5_
                      (try clear hb)
                      (try clear hb2)
                      (try clear hk)
                      (try clear hi)
                      refine hK.out _ _ ⟨(blk_cell BK543.out 0).trans rfl, (blk_cell BK543.out 1).trans rfl, (blk_cell BK543.out 2).trans rfl, (blk_cell BK543.out 3).trans rfl⟩ (fun hHeld => ?_)
                      clear hK K
                      refine norm_ (a' := ?_) ?_ ?_
                      rotate_left
                      · show Act.put _ (some 118) _ = _
                        simp only [Act.put, List.setIfInBounds_toArray, List.set_cons_zero, List.set_cons_succ, i64_w, i32_w]
                        rfl
                      refine one_ (i := 4) (N := some 120) #[true, true, true, true, true, false] rfl rfl (by kernel_rfl) (by decide) (fun K hK => ?_)
                      refine goes_ Try.func25 (by kernel_rfl) rfl #[.agg #[.int .i64 t583, .int .i64 t584, .int .i64 t585, .int .i64 t586], .agg #[.int .i64 a0_0, .int .i64 a0_1, .int .i64 a0_2, .int .i64 a0_3]] (by rfl) rfl rfl (by (try simp only [List.map_toArray, List.map_cons, List.map_nil]); first | done | rfl | (simp only [List.length_drop, List.length_take]; rfl)) ?_
                      with_reducible refine (rect_Within.calls t583 t584 t585 t586 a0_0 a0_1 a0_2 a0_3 t587 _ A145.out).mono ?_
                      rintro e w148 ⟨rfl, hb⟩
                      refine ⟨_, rfl, ?_⟩
                      have n0_ := Aside0.mk (blk_below (g := gb543) (o := .cells #[.int .i64 a0_0, .int .i64 a0_1, .int .i64 a0_2, .int .i64 a0_3] 26 (0, 0)) (by (with_reducible repeat (first | refine blk_drewN ?_ _ | refine blk_drew ?_ | refine blk_alloc ?_ _)); exact BK543.out) hb)
                      have n1_ := Aside0.mk (blk_below (g := gb544) (o := .cells #[.int .i64 a1_0, .int .i64 a1_1, .int .i64 a1_2, .int .i64 a1_3] 26 (0, 0)) (by (with_reducible repeat (first | refine blk_drewN ?_ _ | refine blk_drew ?_ | refine blk_alloc ?_ _)); exact BK544.out) hb)
                      have n2_ := Aside0.mk (blk_below (g := gb550) (o := .cells #[.int .i64 t546, .int .i64 t547, .int .i64 t548, .int .i64 t549] 26 (0, 0)) (by (with_reducible repeat (first | refine blk_drewN ?_ _ | refine blk_drew ?_ | refine blk_alloc ?_ _)); exact BK550.out) hb)
                      have n3_ := Aside0.mk (blk_below (g := gb573) (o := .cells #[.int .i64 t569, .int .i64 t570, .int .i64 t571, .int .i64 t572] 26 (0, 0)) (by (with_reducible repeat (first | refine blk_drewN ?_ _ | refine blk_drew ?_ | refine blk_alloc ?_ _)); exact BK573.out) hb)
                      have n4_ := Aside0.mk (blk_below (g := gb578) (o := .cells #[.int .i64 t574, .int .i64 t575, .int .i64 t576, .int .i64 t577] 26 (0, 0)) (by (with_reducible repeat (first | refine blk_drewN ?_ _ | refine blk_drew ?_ | refine blk_alloc ?_ _)); exact BK578.out) hb)
                      have n5_ := Aside0.mk (below_step (by repeat (first | (with_reducible first | exact HB.out | apply below_alloc | apply pw_below_drewN | apply below_drew1 | refine below_set ?_ GE543.out | refine below_set ?_ GE544.out | refine below_set ?_ GE550.out | refine below_set ?_ GE573.out | refine below_set ?_ GE578.out) | exact HB.out)) hb)
                      clear BK543
                      clear BK544
                      clear BK550
                      clear BK573
                      clear BK578
                      clear HB
                      have BK543 := n0_
                      have BK544 := n1_
                      have BK550 := n2_
                      have BK573 := n3_
                      have BK578 := n4_
                      have HB := n5_
                      clear n0_ n1_ n2_ n3_ n4_ n5_
                      (try clear hb)
                      (try clear hb2)
                      (try clear hk)
                      (try clear hi)
                      refine hK.out _ _ ⟨(blk_cell BK543.out 0).trans rfl, (blk_cell BK543.out 1).trans rfl, (blk_cell BK543.out 2).trans rfl, (blk_cell BK543.out 3).trans rfl⟩ (fun hHeld => ?_)
                      clear hK K
                      refine norm_ (a' := ?_) ?_ ?_
                      rotate_left
                      · show Act.put _ (some 120) _ = _
                        simp only [Act.put, List.setIfInBounds_toArray, List.set_cons_zero, List.set_cons_succ, i64_w, i32_w]
                        rfl
                      refine pure_ (i := 5) (N := some 8) (v := ?_) (a' := ?_) #[true, true, true, true, true, true] rfl rfl (by kernel_rfl) (fun _ _ _ h => h) (Or.inl ⟨by rfl, ?_⟩) ?_ ?_
                      rotate_left
                      · intro w'
                        go_simp
                        with_reducible rfl
                      rotate_left
                      · simp only [Act.put, List.setIfInBounds_toArray, List.set_cons_zero, List.set_cons_succ, i64_w, i32_w]
                        rfl
                      refine done_ (by kernel_rfl) ?_
                      try go_wp2
                      go_ret
                      exact ⟨by first | rfl | (simp [errW_none, errW_some] <;> rfl) | (simp [*, errW_none, errW_some] <;> rfl), by repeat (first | (with_reducible first | exact HB.out | apply below_alloc | apply pw_below_drewN | apply below_drew1 | refine below_set ?_ GE543.out | refine below_set ?_ GE544.out | refine below_set ?_ GE550.out | refine below_set ?_ GE573.out | refine below_set ?_ GE578.out) | exact HB.out)⟩
  · replace c6 := Bool.eq_false_iff.mpr c6
    subst c6
    have H1 : (some false) = some r := by rw [if_neg (show ¬ (false = true) by decide)] at H; exact H
    clear H
    have H := H1
    clear H1
    exact absurd ((Option.some.inj H).trans HRT.out) (by decide)

def casementlaw02_RectInto.Pure : Prop := ∀ (a0_0 : Int) (a0_1 : Int) (a0_2 : Int) (a0_3 : Int) (a1_0 : Int) (a1_1 : Int) (a1_2 : Int) (a1_3 : Int) (a2 : Int) (a3 : Int), ((Lit.int .i64 a0_0).wf = true) → ((Lit.int .i64 a0_1).wf = true) → ((Lit.int .i64 a0_2).wf = true) → ((Lit.int .i64 a0_3).wf = true) → ((Lit.int .i64 a1_0).wf = true) → ((Lit.int .i64 a1_1).wf = true) → ((Lit.int .i64 a1_2).wf = true) → ((Lit.int .i64 a1_3).wf = true) → ((Lit.int .i64 a2).wf = true) → ((Lit.int .i64 a3).wf = true) → ∃ k, casementlaw02_RectInto.f k a0_0 a0_1 a0_2 a0_3 a1_0 a1_1 a1_2 a1_3 a2 a3 = some true
theorem casementlaw02_RectInto.walk (P : casementlaw02_RectInto.Pure) (a0_0 : Int) (a0_1 : Int) (a0_2 : Int) (a0_3 : Int) (a1_0 : Int) (a1_1 : Int) (a1_2 : Int) (a1_3 : Int) (a2 : Int) (a3 : Int) (w : World) (wl0 : ((Lit.int .i64 a0_0).wf = true)) (wl1 : ((Lit.int .i64 a0_1).wf = true)) (wl2 : ((Lit.int .i64 a0_2).wf = true)) (wl3 : ((Lit.int .i64 a0_3).wf = true)) (wl4 : ((Lit.int .i64 a1_0).wf = true)) (wl5 : ((Lit.int .i64 a1_1).wf = true)) (wl6 : ((Lit.int .i64 a1_2).wf = true)) (wl7 : ((Lit.int .i64 a1_3).wf = true)) (wl8 : ((Lit.int .i64 a2).wf = true)) (wl9 : ((Lit.int .i64 a3).wf = true))  :
    Calls Try.prog 9 #[.agg #[.int .i64 a0_0, .int .i64 a0_1, .int .i64 a0_2, .int .i64 a0_3], .agg #[.int .i64 a1_0, .int .i64 a1_1, .int .i64 a1_2, .int .i64 a1_3], .int .i64 a2, .int .i64 a3] w fun e w' => e = .returned (.bool true) ∧ Below w.heap.size w w' := by
  obtain ⟨k, h⟩ := P a0_0 a0_1 a0_2 a0_3 a1_0 a1_1 a1_2 a1_3 a2 a3 wl0 wl1 wl2 wl3 wl4 wl5 wl6 wl7 wl8 wl9
  refine (casementlaw02_RectInto.calls k a0_0 a0_1 a0_2 a0_3 a1_0 a1_1 a1_2 a1_3 a2 a3 true w  h rfl).mono ?_
  rintro e w' ⟨rfl, hd⟩
  exact ⟨rfl, hd⟩

end Go.Proofs.Ytmokmkaipcojkaa.Q
