-- written by a program of this session after the way of the kit's print; not the kit's own print. Lean checks it.
import Derived.Test.YtmokmkaipcojkaaQx0
import Derived.Test.YtmokmkaipcojkaaQx1
import Derived.Test.YtmokmkaipcojkaaQx11
import Derived.Test.YtmokmkaipcojkaaQx14
import Derived.Test.YtmokmkaipcojkaaQx16
import Derived.Test.YtmokmkaipcojkaaQx26
import Derived.Test.YtmokmkaipcojkaaQx28
import Derived.Test.YtmokmkaipcojkaaQx29
import Derived.Test.YtmokmkaipcojkaaQx31
import Derived.Test.YtmokmkaipcojkaaQx32
import Derived.Test.YtmokmkaipcojkaaQx35
namespace Go.Proofs.Ytmokmkaipcojkaa.Q
open Go.RowKit Go.Proofs.YtmokmkaipcojkaaW.PrintWords Go.Proofs.YtmokmkaipcojkaaW.PrintLast Go.Proofs.YtmokmkaipcojkaaW.PrintMore
attribute [local go_sem] max2_int min2_int max_two min_two max_three min_three max_four min_four   -- for this text's walks alone
set_option linter.unusedVariables false
set_option linter.unusedSimpArgs false

attribute [local go_sem high] eqA26
/-! ### casementlaw02_RectMoves: function 8 -/
def casementlaw02_RectMoves.f (k : Nat) (a0_0 : Int) (a0_1 : Int) (a0_2 : Int) (a0_3 : Int) (a1 : Int) (a2 : Int) (a3 : Int) (l4 : List Int) (a5 : Bool) : Option (Bool) := (casementlaw02_alive.f k).bind fun t514 => (if t514 = true then ((casementref02_Clean.f k a0_0 a0_1 a0_2 a0_3).bind fun bt515 => ((rect_Shift.f k a0_0 a0_1 a0_2 a0_3 a1 a2).bind fun bt520 => ((casementref02_Shift.f k bt515.1 bt515.2.1 bt515.2.2.1 bt515.2.2.2 a1 a2).bind fun bt524 => (if (bt520.1 == bt524.1 && (bt520.2.1 == bt524.2.1 && (bt520.2.2.1 == bt524.2.2.1 && (bt520.2.2.2 == bt524.2.2.2)))) = true then ((rect_Inset.f a0_0 a0_1 a0_2 a0_3 a3).bind fun bt528 => ((casementref02_Inset.f k bt515.1 bt515.2.1 bt515.2.2.1 bt515.2.2.2 a3).bind fun bt532 => (if (bt528.1 == bt532.1 && (bt528.2.1 == bt532.2.1 && (bt528.2.2.1 == bt532.2.2.1 && (bt528.2.2.2 == bt532.2.2.2)))) = true then ((rect_Cut.f k a0_0 a0_1 a0_2 a0_3 l4 a5).bind fun t536 => ((casementref02_Cut.f k bt515.1 bt515.2.1 bt515.2.2.1 bt515.2.2.2 l4 a5).bind fun t539 => ((casementref02_Same.f k t536 t539).bind fun t542 => (some t542)))) else (some false)))) else (some false))))) else (some false))
theorem casementlaw02_RectMoves.mono : ∀ a0 a1 a2 a3 a4 a5 a6 a7 a8 k, LeO (casementlaw02_RectMoves.f k a0 a1 a2 a3 a4 a5 a6 a7 a8) (casementlaw02_RectMoves.f (k + 1) a0 a1 a2 a3 a4 a5 a6 a7 a8) := by
  intro a0 a1 a2 a3 a4 a5 a6 a7 a8 k
  unfold casementlaw02_RectMoves.f
  repeat' first
      | (with_reducible exact casementlaw02_alive.mono _)
      | (with_reducible exact casementref02_Clean.mono _ _ _ _ _)
      | (with_reducible exact casementref02_Cut.mono _ _ _ _ _ _ _)
      | (with_reducible exact casementref02_Inset.mono _ _ _ _ _ _)
      | (with_reducible exact casementref02_Same.mono _ _ _)
      | (with_reducible exact casementref02_Shift.mono _ _ _ _ _ _ _)
      | (with_reducible exact rect_Cut.mono _ _ _ _ _ _ _)
      | (with_reducible exact rect_Shift.mono _ _ _ _ _ _ _)
      | (with_reducible exact LeO.refl _)
      | (with_reducible exact LeO.none _)
      | (with_reducible refine LeO.ite ?_ ?_)
      | (with_reducible refine LeO.bind ?_ (fun _ => ?_))
      | exact casementlaw02_alive.mono _
      | exact casementref02_Clean.mono _ _ _ _ _
      | exact casementref02_Cut.mono _ _ _ _ _ _ _
      | exact casementref02_Inset.mono _ _ _ _ _ _
      | exact casementref02_Same.mono _ _ _
      | exact casementref02_Shift.mono _ _ _ _ _ _ _
      | exact rect_Cut.mono _ _ _ _ _ _ _
      | exact rect_Shift.mono _ _ _ _ _ _ _
      | exact LeO.none _
      | refine LeO.ite ?_ ?_
      | refine LeO.bind ?_ (fun _ => ?_)
def casementlaw02_RectMoves.T4 : Bool × List (List Nat × List Nat) := (true, [([], []), ([], []), ([], []), ([0, 1, 2], [0, 1, 2]), ([], []), ([], []), ([], []), ([4, 5, 6, 3], [4, 5, 6]), ([3, 7], [3, 7]), ([8, 7], [8]), ([9], [9]), ([9], [9]), ([10, 11, 9, 9], [9, 10, 11]), ([9], [9]), ([9], [9]), ([13, 14, 12, 9], [9, 13, 14]), ([12, 15, 9], [9, 12, 15]), ([9, 16], [9, 16]), ([17, 15], [17]), ([18], [18]), ([18], [18]), ([18], [18]), ([19, 20, 21, 18, 18], [18, 19, 20, 21]), ([18], [18]), ([18], [18]), ([18], [18]), ([23, 24, 25, 22, 18], [18, 23, 24, 25]), ([22, 26, 26, 18], [18, 22, 26]), ([18, 27], [18, 27]), ([28, 27, 0, 1, 2, 3, 4, 5, 6, 7, 8, 9, 10, 11, 12, 13, 14, 15, 16, 17, 18, 19, 20, 21, 22, 23, 24, 25, 26, 27, 28], [28])])
def casementlaw02_RectMoves.B4 : List Nat := [0, 0, 0, 7, 0, 0, 0, 127, 255, 511, 1023, 1023, 4095, 1023, 1023, 32767, 65535, 131071, 262143, 524287, 524287, 524287, 4194303, 524287, 524287, 524287, 67108863, 134217727, 268435455, 536870911]
theorem casementlaw02_RectMoves.tab4 : rtab .any (opsOf Try.f8 4) = casementlaw02_RectMoves.T4 := by kernel_rfl
theorem casementlaw02_RectMoves.bits4 : waitsOk casementlaw02_RectMoves.T4.2 casementlaw02_RectMoves.B4 = true := by kernel_rfl
set_option maxHeartbeats 8000000 in
set_option maxRecDepth 100000 in
theorem casementlaw02_RectMoves.calls (k : Nat) (a0_0 : Int) (a0_1 : Int) (a0_2 : Int) (a0_3 : Int) (a1 : Int) (a2 : Int) (a3 : Int) (A4 : Option Addr) (c4 : Nat) (l4 : List Int) (a5 : Bool) (r : Bool) (w : World) (hr4 : Kd.C (Kd.int .i64) w A4 l4.length l4) (hc4 : l4.length ≤ c4) (h : casementlaw02_RectMoves.f k a0_0 a0_1 a0_2 a0_3 a1 a2 a3 l4 a5 = some r) (hr : r = true) :
    Calls Try.prog 8 #[.agg #[.int .i64 a0_0, .int .i64 a0_1, .int .i64 a0_2, .int .i64 a0_3], .int .i64 a1, .int .i64 a2, .int .i64 a3, .slice A4 l4.length c4, .bool a5] w fun e w' => e = .returned (.bool r) ∧ Below w.heap.size w w' := by
  have hu26 := Try.underlying26
  have HRT := Aside0.mk hr
  clear hr
  have HR4 := Aside0.mk hr4
  have HC4 := Aside0.mk hc4
  clear hr4 hc4
  have HB := Aside0.mk (Below.refl w.heap.size w)
  have H : ((casementlaw02_alive.f k).bind fun t514 => (if t514 = true then ((casementref02_Clean.f k a0_0 a0_1 a0_2 a0_3).bind fun bt515 => ((rect_Shift.f k a0_0 a0_1 a0_2 a0_3 a1 a2).bind fun bt520 => ((casementref02_Shift.f k bt515.1 bt515.2.1 bt515.2.2.1 bt515.2.2.2 a1 a2).bind fun bt524 => (if (bt520.1 == bt524.1 && (bt520.2.1 == bt524.2.1 && (bt520.2.2.1 == bt524.2.2.1 && (bt520.2.2.2 == bt524.2.2.2)))) = true then ((rect_Inset.f a0_0 a0_1 a0_2 a0_3 a3).bind fun bt528 => ((casementref02_Inset.f k bt515.1 bt515.2.1 bt515.2.2.1 bt515.2.2.2 a3).bind fun bt532 => (if (bt528.1 == bt532.1 && (bt528.2.1 == bt532.2.1 && (bt528.2.2.1 == bt532.2.2.1 && (bt528.2.2.2 == bt532.2.2.2)))) = true then ((rect_Cut.f k a0_0 a0_1 a0_2 a0_3 l4 a5).bind fun t536 => ((casementref02_Cut.f k bt515.1 bt515.2.1 bt515.2.2.1 bt515.2.2.2 l4 a5).bind fun t539 => ((casementref02_Same.f k t536 t539).bind fun t542 => (some t542)))) else (some false)))) else (some false))))) else (some false))) = some r := h
  clear h
  replace H := Option.bind_eq_some_iff.mp H
  obtain ⟨t514, A70, H⟩ := H
  replace H : (if t514 = true then ((casementref02_Clean.f k a0_0 a0_1 a0_2 a0_3).bind fun bt515 => ((rect_Shift.f k a0_0 a0_1 a0_2 a0_3 a1 a2).bind fun bt520 => ((casementref02_Shift.f k bt515.1 bt515.2.1 bt515.2.2.1 bt515.2.2.2 a1 a2).bind fun bt524 => (if (bt520.1 == bt524.1 && (bt520.2.1 == bt524.2.1 && (bt520.2.2.1 == bt524.2.2.1 && (bt520.2.2.2 == bt524.2.2.2)))) = true then ((rect_Inset.f a0_0 a0_1 a0_2 a0_3 a3).bind fun bt528 => ((casementref02_Inset.f k bt515.1 bt515.2.1 bt515.2.2.1 bt515.2.2.2 a3).bind fun bt532 => (if (bt528.1 == bt532.1 && (bt528.2.1 == bt532.2.1 && (bt528.2.2.1 == bt532.2.2.1 && (bt528.2.2.2 == bt532.2.2.2)))) = true then ((rect_Cut.f k a0_0 a0_1 a0_2 a0_3 l4 a5).bind fun t536 => ((casementref02_Cut.f k bt515.1 bt515.2.1 bt515.2.2.1 bt515.2.2.2 l4 a5).bind fun t539 => ((casementref02_Same.f k t536 t539).bind fun t542 => (some t542)))) else (some false)))) else (some false))))) else (some false)) = some r := H
  have A7 := Aside0.mk A70
  clear A70
  by_cases c8 : t514 = true
  · subst c8
    have H1 : ((casementref02_Clean.f k a0_0 a0_1 a0_2 a0_3).bind fun bt515 => ((rect_Shift.f k a0_0 a0_1 a0_2 a0_3 a1 a2).bind fun bt520 => ((casementref02_Shift.f k bt515.1 bt515.2.1 bt515.2.2.1 bt515.2.2.2 a1 a2).bind fun bt524 => (if (bt520.1 == bt524.1 && (bt520.2.1 == bt524.2.1 && (bt520.2.2.1 == bt524.2.2.1 && (bt520.2.2.2 == bt524.2.2.2)))) = true then ((rect_Inset.f a0_0 a0_1 a0_2 a0_3 a3).bind fun bt528 => ((casementref02_Inset.f k bt515.1 bt515.2.1 bt515.2.2.1 bt515.2.2.2 a3).bind fun bt532 => (if (bt528.1 == bt532.1 && (bt528.2.1 == bt532.2.1 && (bt528.2.2.1 == bt532.2.2.1 && (bt528.2.2.2 == bt532.2.2.2)))) = true then ((rect_Cut.f k a0_0 a0_1 a0_2 a0_3 l4 a5).bind fun t536 => ((casementref02_Cut.f k bt515.1 bt515.2.1 bt515.2.2.1 bt515.2.2.2 l4 a5).bind fun t539 => ((casementref02_Same.f k t536 t539).bind fun t542 => (some t542)))) else (some false)))) else (some false))))) = some r := by rw [if_pos rfl] at H; exact H
    clear H
    have H := H1
    clear H1
    replace H := Option.bind_eq_some_iff.mp H
    obtain ⟨⟨t515, t516, t517, t518⟩, A90, H⟩ := H
    replace H : ((rect_Shift.f k a0_0 a0_1 a0_2 a0_3 a1 a2).bind fun bt520 => ((casementref02_Shift.f k t515 t516 t517 t518 a1 a2).bind fun bt524 => (if (bt520.1 == bt524.1 && (bt520.2.1 == bt524.2.1 && (bt520.2.2.1 == bt524.2.2.1 && (bt520.2.2.2 == bt524.2.2.2)))) = true then ((rect_Inset.f a0_0 a0_1 a0_2 a0_3 a3).bind fun bt528 => ((casementref02_Inset.f k t515 t516 t517 t518 a3).bind fun bt532 => (if (bt528.1 == bt532.1 && (bt528.2.1 == bt532.2.1 && (bt528.2.2.1 == bt532.2.2.1 && (bt528.2.2.2 == bt532.2.2.2)))) = true then ((rect_Cut.f k a0_0 a0_1 a0_2 a0_3 l4 a5).bind fun t536 => ((casementref02_Cut.f k t515 t516 t517 t518 l4 a5).bind fun t539 => ((casementref02_Same.f k t536 t539).bind fun t542 => (some t542)))) else (some false)))) else (some false)))) = some r := H
    have A9 := Aside0.mk A90
    clear A90
    replace H := Option.bind_eq_some_iff.mp H
    obtain ⟨⟨t520, t521, t522, t523⟩, A100, H⟩ := H
    replace H : ((casementref02_Shift.f k t515 t516 t517 t518 a1 a2).bind fun bt524 => (if (t520 == bt524.1 && (t521 == bt524.2.1 && (t522 == bt524.2.2.1 && (t523 == bt524.2.2.2)))) = true then ((rect_Inset.f a0_0 a0_1 a0_2 a0_3 a3).bind fun bt528 => ((casementref02_Inset.f k t515 t516 t517 t518 a3).bind fun bt532 => (if (bt528.1 == bt532.1 && (bt528.2.1 == bt532.2.1 && (bt528.2.2.1 == bt532.2.2.1 && (bt528.2.2.2 == bt532.2.2.2)))) = true then ((rect_Cut.f k a0_0 a0_1 a0_2 a0_3 l4 a5).bind fun t536 => ((casementref02_Cut.f k t515 t516 t517 t518 l4 a5).bind fun t539 => ((casementref02_Same.f k t536 t539).bind fun t542 => (some t542)))) else (some false)))) else (some false))) = some r := H
    have A10 := Aside0.mk A100
    clear A100
    replace H := Option.bind_eq_some_iff.mp H
    obtain ⟨⟨t524, t525, t526, t527⟩, A110, H⟩ := H
    replace H : (if (t520 == t524 && (t521 == t525 && (t522 == t526 && (t523 == t527)))) = true then ((rect_Inset.f a0_0 a0_1 a0_2 a0_3 a3).bind fun bt528 => ((casementref02_Inset.f k t515 t516 t517 t518 a3).bind fun bt532 => (if (bt528.1 == bt532.1 && (bt528.2.1 == bt532.2.1 && (bt528.2.2.1 == bt532.2.2.1 && (bt528.2.2.2 == bt532.2.2.2)))) = true then ((rect_Cut.f k a0_0 a0_1 a0_2 a0_3 l4 a5).bind fun t536 => ((casementref02_Cut.f k t515 t516 t517 t518 l4 a5).bind fun t539 => ((casementref02_Same.f k t536 t539).bind fun t542 => (some t542)))) else (some false)))) else (some false)) = some r := H
    have A11 := Aside0.mk A110
    clear A110
    by_cases c12 : (t520 == t524 && (t521 == t525 && (t522 == t526 && (t523 == t527)))) = true
    · rw [if_pos c12] at H
      have c12b0 : (t520 == t524 && (t521 == t525 && (t522 == t526 && (t523 == t527)))) = true := c12
      (try (have c12b1 : decide (t520 = t524 && (t521 == t525 && (t522 == t526 && (t523 == t527)))) = true := by simpa using c12))
      (try (have c12b2 : (t520 == t524 && (t521 == t525 && (t522 == t526 && (t523 == t527)))) = true := by simpa using c12))
      (try (have c12b3 : ((t520) = (t524 && (t521 == t525 && (t522 == t526 && (t523 == t527))))) = True := eq_true ((fun (a_ b_ : Bool) (h_ : ((a_ == b_) = true)) => (show (a_ = b_) from by revert h_; cases a_ <;> cases b_ <;> decide)) (t520) (t524 && (t521 == t525 && (t522 == t526 && (t523 == t527)))) c12)))
      clear c12
      replace H := Option.bind_eq_some_iff.mp H
      obtain ⟨⟨t528, t529, t530, t531⟩, A130, H⟩ := H
      replace H : ((casementref02_Inset.f k t515 t516 t517 t518 a3).bind fun bt532 => (if (t528 == bt532.1 && (t529 == bt532.2.1 && (t530 == bt532.2.2.1 && (t531 == bt532.2.2.2)))) = true then ((rect_Cut.f k a0_0 a0_1 a0_2 a0_3 l4 a5).bind fun t536 => ((casementref02_Cut.f k t515 t516 t517 t518 l4 a5).bind fun t539 => ((casementref02_Same.f k t536 t539).bind fun t542 => (some t542)))) else (some false))) = some r := H
      have A13 := Aside0.mk A130
      clear A130
      replace H := Option.bind_eq_some_iff.mp H
      obtain ⟨⟨t532, t533, t534, t535⟩, A140, H⟩ := H
      replace H : (if (t528 == t532 && (t529 == t533 && (t530 == t534 && (t531 == t535)))) = true then ((rect_Cut.f k a0_0 a0_1 a0_2 a0_3 l4 a5).bind fun t536 => ((casementref02_Cut.f k t515 t516 t517 t518 l4 a5).bind fun t539 => ((casementref02_Same.f k t536 t539).bind fun t542 => (some t542)))) else (some false)) = some r := H
      have A14 := Aside0.mk A140
      clear A140
      by_cases c15 : (t528 == t532 && (t529 == t533 && (t530 == t534 && (t531 == t535)))) = true
      · rw [if_pos c15] at H
        have c15b0 : (t528 == t532 && (t529 == t533 && (t530 == t534 && (t531 == t535)))) = true := c15
        (try (have c15b1 : decide (t528 = t532 && (t529 == t533 && (t530 == t534 && (t531 == t535)))) = true := by simpa using c15))
        (try (have c15b2 : (t528 == t532 && (t529 == t533 && (t530 == t534 && (t531 == t535)))) = true := by simpa using c15))
        (try (have c15b3 : ((t528) = (t532 && (t529 == t533 && (t530 == t534 && (t531 == t535))))) = True := eq_true ((fun (a_ b_ : Bool) (h_ : ((a_ == b_) = true)) => (show (a_ = b_) from by revert h_; cases a_ <;> cases b_ <;> decide)) (t528) (t532 && (t529 == t533 && (t530 == t534 && (t531 == t535)))) c15)))
        clear c15
        replace H := Option.bind_eq_some_iff.mp H
        obtain ⟨t536, A160, H⟩ := H
        replace H : ((casementref02_Cut.f k t515 t516 t517 t518 l4 a5).bind fun t539 => ((casementref02_Same.f k t536 t539).bind fun t542 => (some t542))) = some r := H
        have A16 := Aside0.mk A160
        clear A160
        replace H := Option.bind_eq_some_iff.mp H
        obtain ⟨t539, A170, H⟩ := H
        replace H : ((casementref02_Same.f k t536 t539).bind fun t542 => (some t542)) = some r := H
        have A17 := Aside0.mk A170
        clear A170
        replace H := Option.bind_eq_some_iff.mp H
        obtain ⟨t542, A180, H⟩ := H
        replace H : (some t542) = some r := H
        have A18 := Aside0.mk A180
        clear A180
        obtain rfl := Option.some.inj H
        go_enter Try.func8, Try.ntmps8
        try go_wp2_with (first | ((with_reducible refine gate_dst (N := 6) rfl ?_); refine box_event ?hg (N := 6) ?hd (cs := #[.int .i64 a0_0, .int .i64 a0_1, .int .i64 a0_2, .int .i64 a0_3]) (t := 26) ?hr ?_; (case hd => rfl); (case hg => rfl); (case hr => first | (go_simp; done) | (go_simp; rfl)); intro gb513 hg w19 hbox hb; have n0_ := Aside0.mk (below_step (by repeat (first | (with_reducible first | exact HB.out | apply below_alloc | apply pw_below_drewN | apply below_drew1) | exact HB.out)) hb); have n1_ := Aside0.mk (hbox); have n2_ := Aside0.mk ((by rw [hg]; exact (below_size (by repeat (first | (with_reducible first | exact HB.out | apply below_alloc | apply pw_below_drewN | apply below_drew1) | exact HB.out))) : w.heap.size ≤ gb513)); have n3_ := Aside0.mk ((by rw [hg]; exact (below_size (by repeat (first | (with_reducible first | exact HB.out | apply below_alloc | apply pw_below_drewN | apply below_drew1) | exact HB.out))) : w.heap.size ≤ gb513)); clear HB; have HB := n0_; have BK513 := n1_; have GW513 := n2_; have GE513 := n3_; clear n0_ n1_ n2_ n3_; clear hb hbox hg) | ((with_reducible refine gate_callee (f := 12) rfl ?_); refine goesL_ (some 14) rfl rfl Try.func12 (by kernel_rfl) rfl #[] rfl (by (try simp only [List.map_toArray, List.map_cons, List.map_nil]); first | done | rfl | (simp only [List.length_drop, List.length_take]; rfl)) ?_; (with_reducible refine (casementlaw02_alive.calls k  true _ A7.out (by first | rfl | assumption)).mono ?_); rintro e w20 ⟨rfl, hb⟩; refine ⟨_, rfl, ?_⟩; have n0_ := Aside0.mk (blk_below (g := gb513) (o := .cells #[.int .i64 a0_0, .int .i64 a0_1, .int .i64 a0_2, .int .i64 a0_3] 26 (0, 0)) (by (with_reducible repeat (first | refine blk_drewN ?_ _ | refine blk_drew ?_ | refine blk_alloc ?_ _)); exact BK513.out) hb); have n1_ := Aside0.mk (below_step (by repeat (first | (with_reducible first | exact HB.out | apply below_alloc | apply pw_below_drewN | apply below_drew1 | refine below_set ?_ GE513.out) | exact HB.out)) hb); clear BK513; clear HB; have BK513 := n0_; have HB := n1_; clear n0_ n1_; (try clear hb); (try clear hb2); (try clear hk); (try clear hi); have hcz21_0 : w20.cell? ⟨gb513, 0, none⟩ = some (.int .i64 a0_0) := (blk_cell BK513.out 0).trans rfl; have hcz21_1 : w20.cell? ⟨gb513, 1, none⟩ = some (.int .i64 a0_1) := (blk_cell BK513.out 1).trans rfl; have hcz21_2 : w20.cell? ⟨gb513, 2, none⟩ = some (.int .i64 a0_2) := (blk_cell BK513.out 2).trans rfl; have hcz21_3 : w20.cell? ⟨gb513, 3, none⟩ = some (.int .i64 a0_3) := (blk_cell BK513.out 3).trans rfl; have hfz21_0 := blk_frozen BK513.out 0; have hfz21_1 := blk_frozen BK513.out 1; have hfz21_2 := blk_frozen BK513.out 2; have hfz21_3 := blk_frozen BK513.out 3) | ((with_reducible refine gate_callee (f := 18) rfl ?_); refine goesL_ (some 17) rfl rfl Try.func18 (by kernel_rfl) rfl #[.agg #[.int .i64 a0_0, .int .i64 a0_1, .int .i64 a0_2, .int .i64 a0_3]] rfl (by (try simp only [List.map_toArray, List.map_cons, List.map_nil]); first | done | rfl | (simp only [List.length_drop, List.length_take]; rfl)) ?_; (with_reducible refine (casementref02_Clean.calls k a0_0 a0_1 a0_2 a0_3 t515 t516 t517 t518 _ A9.out).mono ?_); rintro e w22 ⟨rfl, hb⟩; refine ⟨_, rfl, ?_⟩; have n0_ := Aside0.mk (blk_below (g := gb513) (o := .cells #[.int .i64 a0_0, .int .i64 a0_1, .int .i64 a0_2, .int .i64 a0_3] 26 (0, 0)) (by (with_reducible repeat (first | refine blk_drewN ?_ _ | refine blk_drew ?_ | refine blk_alloc ?_ _)); exact BK513.out) hb); have n1_ := Aside0.mk (below_step (by repeat (first | (with_reducible first | exact HB.out | apply below_alloc | apply pw_below_drewN | apply below_drew1 | refine below_set ?_ GE513.out) | exact HB.out)) hb); clear BK513; clear HB; have BK513 := n0_; have HB := n1_; clear n0_ n1_; (try clear hb); (try clear hb2); (try clear hk); (try clear hi)) | ((with_reducible refine gate_dst (N := 13) rfl ?_); refine box_event ?hg (N := 13) ?hd (cs := #[.int .i64 0, .int .i64 0, .int .i64 0, .int .i64 0]) (t := 26) ?hr ?_; (case hd => rfl); (case hg => rfl); (case hr => first | (go_simp; done) | (go_simp; rfl)); intro gb519 hg w23 hbox hb; have n0_ := Aside0.mk (blk_below (g := gb513) (o := .cells #[.int .i64 a0_0, .int .i64 a0_1, .int .i64 a0_2, .int .i64 a0_3] 26 (0, 0)) (by (with_reducible repeat (first | refine blk_drewN ?_ _ | refine blk_drew ?_ | refine blk_alloc ?_ _)); exact BK513.out) hb); have n1_ := Aside0.mk (below_step (by repeat (first | (with_reducible first | exact HB.out | apply below_alloc | apply pw_below_drewN | apply below_drew1 | refine below_set ?_ GE513.out) | exact HB.out)) hb); have n2_ := Aside0.mk (hbox); have n3_ := Aside0.mk ((by rw [hg]; exact (below_size (by repeat (first | (with_reducible first | exact HB.out | apply below_alloc | apply pw_below_drewN | apply below_drew1 | refine below_set ?_ GE513.out) | exact HB.out))) : w.heap.size ≤ gb519)); have n4_ := Aside0.mk ((by rw [hg]; exact (below_size (by repeat (first | (with_reducible first | exact HB.out | apply below_alloc | apply pw_below_drewN | apply below_drew1 | refine below_set ?_ GE513.out) | exact HB.out))) : w.heap.size ≤ gb519)); have n5_ := Aside0.mk ((by rw [hg]; exact Nat.ne_of_lt (blk_lt (g := gb513) (o := .cells #[.int .i64 a0_0, .int .i64 a0_1, .int .i64 a0_2, .int .i64 a0_3] 26 (0, 0)) (by (with_reducible repeat (first | refine blk_drewN ?_ _ | refine blk_drew ?_ | refine blk_alloc ?_ _)); exact BK513.out)) : gb513 ≠ gb519)); have n6_ := Aside0.mk ((by rw [hg]; exact Nat.ne_of_gt (blk_lt (g := gb513) (o := .cells #[.int .i64 a0_0, .int .i64 a0_1, .int .i64 a0_2, .int .i64 a0_3] 26 (0, 0)) (by (with_reducible repeat (first | refine blk_drewN ?_ _ | refine blk_drew ?_ | refine blk_alloc ?_ _)); exact BK513.out)) : gb519 ≠ gb513)); clear BK513; clear HB; have BK513 := n0_; have HB := n1_; have BK519 := n2_; have GW519 := n3_; have GE519 := n4_; have NB513_519 := n5_; have NB519_513 := n6_; clear n0_ n1_ n2_ n3_ n4_ n5_ n6_; clear hb hbox hg; have hnb24 := NB519_513.out; have hnc24 := NB513_519.out; have hcz25_0 : w23.cell? ⟨gb519, 0, none⟩ = some (.int .i64 0) := (blk_cell BK519.out 0).trans rfl; have hcz25_1 : w23.cell? ⟨gb519, 1, none⟩ = some (.int .i64 0) := (blk_cell BK519.out 1).trans rfl; have hcz25_2 : w23.cell? ⟨gb519, 2, none⟩ = some (.int .i64 0) := (blk_cell BK519.out 2).trans rfl; have hcz25_3 : w23.cell? ⟨gb519, 3, none⟩ = some (.int .i64 0) := (blk_cell BK519.out 3).trans rfl; have hfz25_0 := blk_frozen BK519.out 0; have hfz25_1 := blk_frozen BK519.out 1; have hfz25_2 := blk_frozen BK519.out 2; have hfz25_3 := blk_frozen BK519.out 3))
        have n0_ : Aside0 (((((w23.setCell ⟨gb519, 0, none⟩ (.int .i64 t515)).setCell ⟨gb519, 1, none⟩ (.int .i64 t516)).setCell ⟨gb519, 2, none⟩ (.int .i64 t517)).setCell ⟨gb519, 3, none⟩ (.int .i64 t518)).heap[gb513]? = some (.cells #[.int .i64 a0_0, .int .i64 a0_1, .int .i64 a0_2, .int .i64 a0_3] 26 (0, 0))) := ⟨by (with_reducible repeat (first | refine blk_drewN ?_ _ | refine blk_drew ?_ | refine blk_alloc ?_ _)); refine blk_far ?_ NB513_519.out _; (with_reducible repeat (first | refine blk_drewN ?_ _ | refine blk_drew ?_ | refine blk_alloc ?_ _)); refine blk_far ?_ NB513_519.out _; (with_reducible repeat (first | refine blk_drewN ?_ _ | refine blk_drew ?_ | refine blk_alloc ?_ _)); refine blk_far ?_ NB513_519.out _; (with_reducible repeat (first | refine blk_drewN ?_ _ | refine blk_drew ?_ | refine blk_alloc ?_ _)); refine blk_far ?_ NB513_519.out _; (with_reducible repeat (first | refine blk_drewN ?_ _ | refine blk_drew ?_ | refine blk_alloc ?_ _)); exact BK513.out⟩
        have n1_ : Aside0 (((((w23.setCell ⟨gb519, 0, none⟩ (.int .i64 t515)).setCell ⟨gb519, 1, none⟩ (.int .i64 t516)).setCell ⟨gb519, 2, none⟩ (.int .i64 t517)).setCell ⟨gb519, 3, none⟩ (.int .i64 t518)).heap[gb519]? = some (.cells #[.int .i64 t515, .int .i64 t516, .int .i64 t517, .int .i64 t518] 26 (0, 0))) := ⟨by (with_reducible repeat (first | refine blk_drewN ?_ _ | refine blk_drew ?_ | refine blk_alloc ?_ _)); refine blk_put (cs := #[.int .i64 t515, .int .i64 t516, .int .i64 t517, .int .i64 0]) ?_ 3 _ rfl; (with_reducible repeat (first | refine blk_drewN ?_ _ | refine blk_drew ?_ | refine blk_alloc ?_ _)); refine blk_put (cs := #[.int .i64 t515, .int .i64 t516, .int .i64 0, .int .i64 0]) ?_ 2 _ rfl; (with_reducible repeat (first | refine blk_drewN ?_ _ | refine blk_drew ?_ | refine blk_alloc ?_ _)); refine blk_put (cs := #[.int .i64 t515, .int .i64 0, .int .i64 0, .int .i64 0]) ?_ 1 _ rfl; (with_reducible repeat (first | refine blk_drewN ?_ _ | refine blk_drew ?_ | refine blk_alloc ?_ _)); refine blk_put (cs := #[.int .i64 0, .int .i64 0, .int .i64 0, .int .i64 0]) ?_ 0 _ rfl; (with_reducible repeat (first | refine blk_drewN ?_ _ | refine blk_drew ?_ | refine blk_alloc ?_ _)); exact BK519.out⟩
        have n2_ : Aside0 (Below w.heap.size w ((((w23.setCell ⟨gb519, 0, none⟩ (.int .i64 t515)).setCell ⟨gb519, 1, none⟩ (.int .i64 t516)).setCell ⟨gb519, 2, none⟩ (.int .i64 t517)).setCell ⟨gb519, 3, none⟩ (.int .i64 t518))) := ⟨by repeat (first | (with_reducible first | exact HB.out | apply below_alloc | apply pw_below_drewN | apply below_drew1 | refine below_set ?_ GE513.out | refine below_set ?_ GE519.out) | exact HB.out)⟩
        (try clear BK513)
        (try clear BK519)
        (try clear HB)
        generalize ((((w23.setCell ⟨gb519, 0, none⟩ (.int .i64 t515)).setCell ⟨gb519, 1, none⟩ (.int .i64 t516)).setCell ⟨gb519, 2, none⟩ (.int .i64 t517)).setCell ⟨gb519, 3, none⟩ (.int .i64 t518)) = w26 at n0_ n1_ n2_ ⊢
        have BK513 := n0_
        have BK519 := n1_
        have HB := n2_
        clear n0_ n1_ n2_
        have n0_ := Aside0.mk (blk_drew BK513.out)
        have n1_ := Aside0.mk (blk_drew BK519.out)
        have n2_ := Aside0.mk (below_drew1 HB.out)
        clear BK513
        clear BK519
        clear HB
        have BK513 := n0_
        have BK519 := n1_
        have HB := n2_
        clear n0_ n1_ n2_
        refine start_ (n := 30) (S := fun w' => w'.cell? ⟨gb513, 0, none⟩ = some (.int .i64 a0_0) ∧ w'.cell? ⟨gb513, 1, none⟩ = some (.int .i64 a0_1) ∧ w'.cell? ⟨gb513, 2, none⟩ = some (.int .i64 a0_2) ∧ w'.cell? ⟨gb513, 3, none⟩ = some (.int .i64 a0_3) ∧ w'.cell? ⟨gb519, 0, none⟩ = some (.int .i64 t515) ∧ w'.cell? ⟨gb519, 1, none⟩ = some (.int .i64 t516) ∧ w'.cell? ⟨gb519, 2, none⟩ = some (.int .i64 t517) ∧ w'.cell? ⟨gb519, 3, none⟩ = some (.int .i64 t518)) (ds := []) #[false, false, false, false, false, false, false, false, false, false, false, false, false, false, false, false, false, false, false, false, false, false, false, false, false, false, false, false, false, false] (by kernel_rfl) rfl rfl ⟨(blk_cell BK513.out 0).trans rfl, (blk_cell BK513.out 1).trans rfl, (blk_cell BK513.out 2).trans rfl, (blk_cell BK513.out 3).trans rfl, (blk_cell BK519.out 0).trans rfl, (blk_cell BK519.out 1).trans rfl, (blk_cell BK519.out 2).trans rfl, (blk_cell BK519.out 3).trans rfl⟩ (fun hHeld => ?_); refine with_tabW casementlaw02_RectMoves.tab4 casementlaw02_RectMoves.bits4 (fun HT_ HW_ => ?_)
        generalize w26.drew = w27 at BK513 BK519 HB hHeld ⊢
        refine pure_ (i := 1) (N := some 19) (v := ?_) (a' := ?_) #[false, true, false, false, false, false, false, false, false, false, false, false, false, false, false, false, false, false, false, false, false, false, false, false, false, false, false, false, false, false] rfl rfl (any_of HT_.out (by kernel_rfl)) (fun _ _ _ h => h) (Or.inl ⟨by rfl, ?_⟩) ?_ ?_
        rotate_left
        · intro w'
          go_simp
          with_reducible rfl
        rotate_left
        · simp only [Act.put, List.setIfInBounds_toArray, List.set_cons_zero, List.set_cons_succ, i64_w, i32_w]
          rfl
        refine pure_ (i := 2) (N := some 20) (v := ?_) (a' := ?_) #[false, true, true, false, false, false, false, false, false, false, false, false, false, false, false, false, false, false, false, false, false, false, false, false, false, false, false, false, false, false] rfl rfl (any_of HT_.out (by kernel_rfl)) (fun _ _ _ h => h) (Or.inl ⟨by rfl, ?_⟩) ?_ ?_
        rotate_left
        · intro w'
          go_simp
          with_reducible rfl
        rotate_left
        · simp only [Act.put, List.setIfInBounds_toArray, List.set_cons_zero, List.set_cons_succ, i64_w, i32_w]
          rfl
        refine pure_ (i := 5) (N := some 23) (v := ?_) (a' := ?_) #[false, true, true, false, false, true, false, false, false, false, false, false, false, false, false, false, false, false, false, false, false, false, false, false, false, false, false, false, false, false] rfl rfl (any_of HT_.out (by kernel_rfl)) (fun _ _ _ h => h) (Or.inl ⟨by rfl, ?_⟩) ?_ ?_
        rotate_left
        · intro w'
          go_simp
          with_reducible rfl
        rotate_left
        · simp only [Act.put, List.setIfInBounds_toArray, List.set_cons_zero, List.set_cons_succ, i64_w, i32_w]
          rfl
        refine pure_ (i := 6) (N := some 24) (v := ?_) (a' := ?_) #[false, true, true, false, false, true, true, false, false, false, false, false, false, false, false, false, false, false, false, false, false, false, false, false, false, false, false, false, false, false] rfl rfl (any_of HT_.out (by kernel_rfl)) (fun _ _ _ h => h) (Or.inl ⟨by rfl, ?_⟩) ?_ ?_
        rotate_left
        · intro w'
          go_simp
          with_reducible rfl
        rotate_left
        · simp only [Act.put, List.setIfInBounds_toArray, List.set_cons_zero, List.set_cons_succ, i64_w, i32_w]
          rfl
        refine take_ (i := 0) (N := some 18) (v := ?_) (a' := ?_) #[true, true, true, false, false, true, true, false, false, false, false, false, false, false, false, false, false, false, false, false, false, false, false, false, false, false, false, false, false, false] rfl rfl (take_ofW HT_.out HW_.out (by kernel_rfl)) (fun _ _ _ h => h) (Or.inl ⟨by rfl, ?_⟩) hHeld ?_ ?_
        rotate_left
        · rintro w' ⟨s0, s1, s2, s3, s4, s5, s6, s7⟩
          go_simp
          with_reducible rfl
        rotate_left
        · simp only [Act.put, List.setIfInBounds_toArray, List.set_cons_zero, List.set_cons_succ, i64_w, i32_w]
          rfl
        refine take_ (i := 4) (N := some 22) (v := ?_) (a' := ?_) #[true, true, true, false, true, true, true, false, false, false, false, false, false, false, false, false, false, false, false, false, false, false, false, false, false, false, false, false, false, false] rfl rfl (take_ofW HT_.out HW_.out (by kernel_rfl)) (fun _ _ _ h => h) (Or.inl ⟨by rfl, ?_⟩) hHeld ?_ ?_
        rotate_left
        · rintro w' ⟨s0, s1, s2, s3, s4, s5, s6, s7⟩
          go_simp
          with_reducible rfl
        rotate_left
        · simp only [Act.put, List.setIfInBounds_toArray, List.set_cons_zero, List.set_cons_succ, i64_w, i32_w]
          rfl
        refine one_ (i := 3) (N := some 21) #[true, true, true, true, true, true, true, false, false, false, false, false, false, false, false, false, false, false, false, false, false, false, false, false, false, false, false, false, false, false] rfl rfl (one_of HT_.out (by kernel_rfl)) (by decide) (fun K hK => ?_)
        refine goes_ Try.func28 (by kernel_rfl) rfl #[.agg #[.int .i64 a0_0, .int .i64 a0_1, .int .i64 a0_2, .int .i64 a0_3], .int .i64 a1, .int .i64 a2] (by rfl) rfl rfl (by (try simp only [List.map_toArray, List.map_cons, List.map_nil]); first | done | rfl | (simp only [List.length_drop, List.length_take]; rfl)) ?_
        with_reducible refine (rect_Shift.calls k a0_0 a0_1 a0_2 a0_3 a1 a2 t520 t521 t522 t523 _ A10.out).mono ?_
        rintro e w28 ⟨rfl, hb⟩
        refine ⟨_, rfl, ?_⟩
        have n0_ := Aside0.mk (blk_below (g := gb513) (o := .cells #[.int .i64 a0_0, .int .i64 a0_1, .int .i64 a0_2, .int .i64 a0_3] 26 (0, 0)) (by (with_reducible repeat (first | refine blk_drewN ?_ _ | refine blk_drew ?_ | refine blk_alloc ?_ _)); exact BK513.out) hb)
        have n1_ := Aside0.mk (blk_below (g := gb519) (o := .cells #[.int .i64 t515, .int .i64 t516, .int .i64 t517, .int .i64 t518] 26 (0, 0)) (by (with_reducible repeat (first | refine blk_drewN ?_ _ | refine blk_drew ?_ | refine blk_alloc ?_ _)); exact BK519.out) hb)
        have n2_ := Aside0.mk (below_step (by repeat (first | (with_reducible first | exact HB.out | apply below_alloc | apply pw_below_drewN | apply below_drew1 | refine below_set ?_ GE513.out | refine below_set ?_ GE519.out) | exact HB.out)) hb)
        clear BK513
        clear BK519
        clear HB
        have BK513 := n0_
        have BK519 := n1_
        have HB := n2_
        clear n0_ n1_ n2_
        (try clear hb)
        (try clear hb2)
        (try clear hk)
        (try clear hi)
        refine hK.out _ _ ⟨(blk_cell BK513.out 0).trans rfl, (blk_cell BK513.out 1).trans rfl, (blk_cell BK513.out 2).trans rfl, (blk_cell BK513.out 3).trans rfl, (blk_cell BK519.out 0).trans rfl, (blk_cell BK519.out 1).trans rfl, (blk_cell BK519.out 2).trans rfl, (blk_cell BK519.out 3).trans rfl⟩ (fun hHeld => ?_)
        clear hK K
        refine norm_ (a' := ?_) ?_ ?_
        rotate_left
        · show Act.put _ (some 21) _ = _
          simp only [Act.put, List.setIfInBounds_toArray, List.set_cons_zero, List.set_cons_succ, i64_w, i32_w]
          rfl
        refine one_ (i := 7) (N := some 25) #[true, true, true, true, true, true, true, true, false, false, false, false, false, false, false, false, false, false, false, false, false, false, false, false, false, false, false, false, false, false] rfl rfl (one_of HT_.out (by kernel_rfl)) (by decide) (fun K hK => ?_)
        refine goes_ Try.func29 (by kernel_rfl) rfl #[.agg #[.int .i64 t515, .int .i64 t516, .int .i64 t517, .int .i64 t518], .int .i64 a1, .int .i64 a2] (by rfl) rfl rfl (by (try simp only [List.map_toArray, List.map_cons, List.map_nil]); first | done | rfl | (simp only [List.length_drop, List.length_take]; rfl)) ?_
        with_reducible refine (casementref02_Shift.calls k t515 t516 t517 t518 a1 a2 t524 t525 t526 t527 _ A11.out).mono ?_
        rintro e w29 ⟨rfl, hb⟩
        refine ⟨_, rfl, ?_⟩
        have n0_ := Aside0.mk (blk_below (g := gb513) (o := .cells #[.int .i64 a0_0, .int .i64 a0_1, .int .i64 a0_2, .int .i64 a0_3] 26 (0, 0)) (by (with_reducible repeat (first | refine blk_drewN ?_ _ | refine blk_drew ?_ | refine blk_alloc ?_ _)); exact BK513.out) hb)
        have n1_ := Aside0.mk (blk_below (g := gb519) (o := .cells #[.int .i64 t515, .int .i64 t516, .int .i64 t517, .int .i64 t518] 26 (0, 0)) (by (with_reducible repeat (first | refine blk_drewN ?_ _ | refine blk_drew ?_ | refine blk_alloc ?_ _)); exact BK519.out) hb)
        have n2_ := Aside0.mk (below_step (by repeat (first | (with_reducible first | exact HB.out | apply below_alloc | apply pw_below_drewN | apply below_drew1 | refine below_set ?_ GE513.out | refine below_set ?_ GE519.out) | exact HB.out)) hb)
        clear BK513
        clear BK519
        clear HB
        have BK513 := n0_
        have BK519 := n1_
        have HB := n2_
        clear n0_ n1_ n2_
        (try clear hb)
        (try clear hb2)
        (try clear hk)
        (try clear hi)
        refine hK.out _ _ ⟨(blk_cell BK513.out 0).trans rfl, (blk_cell BK513.out 1).trans rfl, (blk_cell BK513.out 2).trans rfl, (blk_cell BK513.out 3).trans rfl, (blk_cell BK519.out 0).trans rfl, (blk_cell BK519.out 1).trans rfl, (blk_cell BK519.out 2).trans rfl, (blk_cell BK519.out 3).trans rfl⟩ (fun hHeld => ?_)
        clear hK K
        refine norm_ (a' := ?_) ?_ ?_
        rotate_left
        · show Act.put _ (some 25) _ = _
          simp only [Act.put, List.setIfInBounds_toArray, List.set_cons_zero, List.set_cons_succ, i64_w, i32_w]
          rfl
        refine pure_ (i := 8) (N := some 26) (v := ?_) (a' := ?_) #[true, true, true, true, true, true, true, true, true, false, false, false, false, false, false, false, false, false, false, false, false, false, false, false, false, false, false, false, false, false] rfl rfl (any_of HT_.out (by kernel_rfl)) (fun _ _ _ h => h) (Or.inl ⟨by rfl, ?_⟩) ?_ ?_
        rotate_left
        · intro w'
          go_simp
          with_reducible rfl
        rotate_left
        · simp only [Act.put, List.setIfInBounds_toArray, List.set_cons_zero, List.set_cons_succ, i64_w, i32_w]
          rfl
        refine pure_ (i := 9) (N := some 27) (v := ?_) (a' := ?_) #[true, true, true, true, true, true, true, true, true, true, false, false, false, false, false, false, false, false, false, false, false, false, false, false, false, false, false, false, false, false] rfl rfl (any_of HT_.out (by kernel_rfl)) (fun _ _ _ h => h) (Or.inl ⟨by rfl, ?_⟩) ?_ ?_
        rotate_left
        · intro w'
          go_simp
          with_reducible rfl
        rotate_left
        · simp only [Act.put, List.setIfInBounds_toArray, List.set_cons_zero, List.set_cons_succ, i64_w, i32_w]
          rfl
        refine pure_ (i := 11) (N := some 29) (v := ?_) (a' := ?_) #[true, true, true, true, true, true, true, true, true, true, false, true, false, false, false, false, false, false, false, false, false, false, false, false, false, false, false, false, false, false] rfl rfl (any_of HT_.out (by kernel_rfl)) (fun _ _ _ h => h) (Or.inl ⟨by rfl, ?_⟩) ?_ ?_
        rotate_left
        · intro w'
          go_simp
          with_reducible rfl
        rotate_left
        · simp only [Act.put, List.setIfInBounds_toArray, List.set_cons_zero, List.set_cons_succ, i64_w, i32_w]
          rfl
        refine pure_ (i := 14) (N := some 32) (v := ?_) (a' := ?_) #[true, true, true, true, true, true, true, true, true, true, false, true, false, false, true, false, false, false, false, false, false, false, false, false, false, false, false, false, false, false] rfl rfl (any_of HT_.out (by kernel_rfl)) (fun _ _ _ h => h) (Or.inl ⟨by rfl, ?_⟩) ?_ ?_
        rotate_left
        · intro w'
          go_simp
          with_reducible rfl
        rotate_left
        · simp only [Act.put, List.setIfInBounds_toArray, List.set_cons_zero, List.set_cons_succ, i64_w, i32_w]
          rfl
        refine take_ (i := 10) (N := some 28) (v := ?_) (a' := ?_) #[true, true, true, true, true, true, true, true, true, true, true, true, false, false, true, false, false, false, false, false, false, false, false, false, false, false, false, false, false, false] rfl rfl (take_ofW HT_.out HW_.out (by kernel_rfl)) (fun _ _ _ h => h) (Or.inl ⟨by rfl, ?_⟩) hHeld ?_ ?_
        rotate_left
        · rintro w' ⟨s0, s1, s2, s3, s4, s5, s6, s7⟩
          go_simp
          with_reducible rfl
        rotate_left
        · simp only [Act.put, List.setIfInBounds_toArray, List.set_cons_zero, List.set_cons_succ, i64_w, i32_w]
          rfl
        refine take_ (i := 13) (N := some 31) (v := ?_) (a' := ?_) #[true, true, true, true, true, true, true, true, true, true, true, true, false, true, true, false, false, false, false, false, false, false, false, false, false, false, false, false, false, false] rfl rfl (take_ofW HT_.out HW_.out (by kernel_rfl)) (fun _ _ _ h => h) (Or.inl ⟨by rfl, ?_⟩) hHeld ?_ ?_
        rotate_left
        · rintro w' ⟨s0, s1, s2, s3, s4, s5, s6, s7⟩
          go_simp
          with_reducible rfl
        rotate_left
        · simp only [Act.put, List.setIfInBounds_toArray, List.set_cons_zero, List.set_cons_succ, i64_w, i32_w]
          rfl
        refine one_ (i := 12) (N := some 30) #[true, true, true, true, true, true, true, true, true, true, true, true, true, true, true, false, false, false, false, false, false, false, false, false, false, false, false, false, false, false] rfl rfl (one_of HT_.out (by kernel_rfl)) (by decide) (fun K hK => ?_)
        refine goes_ Try.func27 (by kernel_rfl) rfl #[.agg #[.int .i64 a0_0, .int .i64 a0_1, .int .i64 a0_2, .int .i64 a0_3], .int .i64 a3] (by rfl) rfl rfl (by (try simp only [List.map_toArray, List.map_cons, List.map_nil]); first | done | rfl | (simp only [List.length_drop, List.length_take]; rfl)) ?_
        with_reducible refine (rect_Inset.calls a0_0 a0_1 a0_2 a0_3 a3 t528 t529 t530 t531 _ A13.out).mono ?_
        rintro e w30 ⟨rfl, hb⟩
        refine ⟨_, rfl, ?_⟩
        have n0_ := Aside0.mk (blk_below (g := gb513) (o := .cells #[.int .i64 a0_0, .int .i64 a0_1, .int .i64 a0_2, .int .i64 a0_3] 26 (0, 0)) (by (with_reducible repeat (first | refine blk_drewN ?_ _ | refine blk_drew ?_ | refine blk_alloc ?_ _)); exact BK513.out) hb)
        have n1_ := Aside0.mk (blk_below (g := gb519) (o := .cells #[.int .i64 t515, .int .i64 t516, .int .i64 t517, .int .i64 t518] 26 (0, 0)) (by (with_reducible repeat (first | refine blk_drewN ?_ _ | refine blk_drew ?_ | refine blk_alloc ?_ _)); exact BK519.out) hb)
        have n2_ := Aside0.mk (below_step (by repeat (first | (with_reducible first | exact HB.out | apply below_alloc | apply pw_below_drewN | apply below_drew1 | refine below_set ?_ GE513.out | refine below_set ?_ GE519.out) | exact HB.out)) hb)
        clear BK513
        clear BK519
        clear HB
        have BK513 := n0_
        have BK519 := n1_
        have HB := n2_
        clear n0_ n1_ n2_
        (try clear hb)
        (try clear hb2)
        (try clear hk)
        (try clear hi)
        refine hK.out _ _ ⟨(blk_cell BK513.out 0).trans rfl, (blk_cell BK513.out 1).trans rfl, (blk_cell BK513.out 2).trans rfl, (blk_cell BK513.out 3).trans rfl, (blk_cell BK519.out 0).trans rfl, (blk_cell BK519.out 1).trans rfl, (blk_cell BK519.out 2).trans rfl, (blk_cell BK519.out 3).trans rfl⟩ (fun hHeld => ?_)
        clear hK K
        refine norm_ (a' := ?_) ?_ ?_
        rotate_left
        · show Act.put _ (some 30) _ = _
          simp only [Act.put, List.setIfInBounds_toArray, List.set_cons_zero, List.set_cons_succ, i64_w, i32_w]
          rfl
        refine one_ (i := 15) (N := some 33) #[true, true, true, true, true, true, true, true, true, true, true, true, true, true, true, true, false, false, false, false, false, false, false, false, false, false, false, false, false, false] rfl rfl (one_of HT_.out (by kernel_rfl)) (by decide) (fun K hK => ?_)
        refine goes_ Try.func30 (by kernel_rfl) rfl #[.agg #[.int .i64 t515, .int .i64 t516, .int .i64 t517, .int .i64 t518], .int .i64 a3] (by rfl) rfl rfl (by (try simp only [List.map_toArray, List.map_cons, List.map_nil]); first | done | rfl | (simp only [List.length_drop, List.length_take]; rfl)) ?_
        with_reducible refine (casementref02_Inset.calls k t515 t516 t517 t518 a3 t532 t533 t534 t535 _ A14.out).mono ?_
        rintro e w31 ⟨rfl, hb⟩
        refine ⟨_, rfl, ?_⟩
        have n0_ := Aside0.mk (blk_below (g := gb513) (o := .cells #[.int .i64 a0_0, .int .i64 a0_1, .int .i64 a0_2, .int .i64 a0_3] 26 (0, 0)) (by (with_reducible repeat (first | refine blk_drewN ?_ _ | refine blk_drew ?_ | refine blk_alloc ?_ _)); exact BK513.out) hb)
        have n1_ := Aside0.mk (blk_below (g := gb519) (o := .cells #[.int .i64 t515, .int .i64 t516, .int .i64 t517, .int .i64 t518] 26 (0, 0)) (by (with_reducible repeat (first | refine blk_drewN ?_ _ | refine blk_drew ?_ | refine blk_alloc ?_ _)); exact BK519.out) hb)
        have n2_ := Aside0.mk (below_step (by repeat (first | (with_reducible first | exact HB.out | apply below_alloc | apply pw_below_drewN | apply below_drew1 | refine below_set ?_ GE513.out | refine below_set ?_ GE519.out) | exact HB.out)) hb)
        clear BK513
        clear BK519
        clear HB
        have BK513 := n0_
        have BK519 := n1_
        have HB := n2_
        clear n0_ n1_ n2_
        (try clear hb)
        (try clear hb2)
        (try clear hk)
        (try clear hi)
        refine hK.out _ _ ⟨(blk_cell BK513.out 0).trans rfl, (blk_cell BK513.out 1).trans rfl, (blk_cell BK513.out 2).trans rfl, (blk_cell BK513.out 3).trans rfl, (blk_cell BK519.out 0).trans rfl, (blk_cell BK519.out 1).trans rfl, (blk_cell BK519.out 2).trans rfl, (blk_cell BK519.out 3).trans rfl⟩ (fun hHeld => ?_)
        clear hK K
        refine norm_ (a' := ?_) ?_ ?_
        rotate_left
        · show Act.put _ (some 33) _ = _
          simp only [Act.put, List.setIfInBounds_toArray, List.set_cons_zero, List.set_cons_succ, i64_w, i32_w]
          rfl
        refine pure_ (i := 16) (N := some 34) (v := ?_) (a' := ?_) #[true, true, true, true, true, true, true, true, true, true, true, true, true, true, true, true, true, false, false, false, false, false, false, false, false, false, false, false, false, false] rfl rfl (any_of HT_.out (by kernel_rfl)) (fun _ _ _ h => h) (Or.inl ⟨by rfl, ?_⟩) ?_ ?_
        rotate_left
        · intro w'
          go_simp
          with_reducible rfl
        rotate_left
        · simp only [Act.put, List.setIfInBounds_toArray, List.set_cons_zero, List.set_cons_succ, i64_w, i32_w]
          rfl
        refine pure_ (i := 17) (N := some 35) (v := ?_) (a' := ?_) #[true, true, true, true, true, true, true, true, true, true, true, true, true, true, true, true, true, true, false, false, false, false, false, false, false, false, false, false, false, false] rfl rfl (any_of HT_.out (by kernel_rfl)) (fun _ _ _ h => h) (Or.inl ⟨by rfl, ?_⟩) ?_ ?_
        rotate_left
        · intro w'
          go_simp
          with_reducible rfl
        rotate_left
        · simp only [Act.put, List.setIfInBounds_toArray, List.set_cons_zero, List.set_cons_succ, i64_w, i32_w]
          rfl
        refine pure_ (i := 18) (N := some 36) (v := ?_) (a' := ?_) #[true, true, true, true, true, true, true, true, true, true, true, true, true, true, true, true, true, true, true, false, false, false, false, false, false, false, false, false, false, false] rfl rfl (any_of HT_.out (by kernel_rfl)) (fun _ _ _ h => h) (Or.inl ⟨by rfl, ?_⟩) ?_ ?_
        rotate_left
        · intro w'
          go_simp
          with_reducible rfl
        rotate_left
        · simp only [Act.put, List.setIfInBounds_toArray, List.set_cons_zero, List.set_cons_succ, i64_w, i32_w]
          rfl
        refine pure_ (i := 20) (N := some 38) (v := ?_) (a' := ?_) #[true, true, true, true, true, true, true, true, true, true, true, true, true, true, true, true, true, true, true, false, true, false, false, false, false, false, false, false, false, false] rfl rfl (any_of HT_.out (by kernel_rfl)) (fun _ _ _ h => h) (Or.inl ⟨by rfl, ?_⟩) ?_ ?_
        rotate_left
        · intro w'
          go_simp
          with_reducible rfl
        rotate_left
        · simp only [Act.put, List.setIfInBounds_toArray, List.set_cons_zero, List.set_cons_succ, i64_w, i32_w]
          rfl
        refine pure_ (i := 21) (N := some 39) (v := ?_) (a' := ?_) #[true, true, true, true, true, true, true, true, true, true, true, true, true, true, true, true, true, true, true, false, true, true, false, false, false, false, false, false, false, false] rfl rfl (any_of HT_.out (by kernel_rfl)) (fun _ _ _ h => h) (Or.inl ⟨by rfl, ?_⟩) ?_ ?_
        rotate_left
        · intro w'
          go_simp
          with_reducible rfl
        rotate_left
        · simp only [Act.put, List.setIfInBounds_toArray, List.set_cons_zero, List.set_cons_succ, i64_w, i32_w]
          rfl
        refine pure_ (i := 24) (N := some 42) (v := ?_) (a' := ?_) #[true, true, true, true, true, true, true, true, true, true, true, true, true, true, true, true, true, true, true, false, true, true, false, false, true, false, false, false, false, false] rfl rfl (any_of HT_.out (by kernel_rfl)) (fun _ _ _ h => h) (Or.inl ⟨by rfl, ?_⟩) ?_ ?_
        rotate_left
        · intro w'
          go_simp
          with_reducible rfl
        rotate_left
        · simp only [Act.put, List.setIfInBounds_toArray, List.set_cons_zero, List.set_cons_succ, i64_w, i32_w]
          rfl
        refine pure_ (i := 25) (N := some 43) (v := ?_) (a' := ?_) #[true, true, true, true, true, true, true, true, true, true, true, true, true, true, true, true, true, true, true, false, true, true, false, false, true, true, false, false, false, false] rfl rfl (any_of HT_.out (by kernel_rfl)) (fun _ _ _ h => h) (Or.inl ⟨by rfl, ?_⟩) ?_ ?_
        rotate_left
        · intro w'
          go_simp
          with_reducible rfl
        rotate_left
        · simp only [Act.put, List.setIfInBounds_toArray, List.set_cons_zero, List.set_cons_succ, i64_w, i32_w]
          rfl
        refine take_ (i := 19) (N := some 37) (v := ?_) (a' := ?_) #[true, true, true, true, true, true, true, true, true, true, true, true, true, true, true, true, true, true, true, true, true, true, false, false, true, true, false, false, false, false] rfl rfl (take_ofW HT_.out HW_.out (by kernel_rfl)) (fun _ _ _ h => h) (Or.inl ⟨by rfl, ?_⟩) hHeld ?_ ?_
        rotate_left
        · rintro w' ⟨s0, s1, s2, s3, s4, s5, s6, s7⟩
          go_simp
          with_reducible rfl
        rotate_left
        · simp only [Act.put, List.setIfInBounds_toArray, List.set_cons_zero, List.set_cons_succ, i64_w, i32_w]
          rfl
        refine take_ (i := 23) (N := some 41) (v := ?_) (a' := ?_) #[true, true, true, true, true, true, true, true, true, true, true, true, true, true, true, true, true, true, true, true, true, true, false, true, true, true, false, false, false, false] rfl rfl (take_ofW HT_.out HW_.out (by kernel_rfl)) (fun _ _ _ h => h) (Or.inl ⟨by rfl, ?_⟩) hHeld ?_ ?_
        rotate_left
        · rintro w' ⟨s0, s1, s2, s3, s4, s5, s6, s7⟩
          go_simp
          with_reducible rfl
        rotate_left
        · simp only [Act.put, List.setIfInBounds_toArray, List.set_cons_zero, List.set_cons_succ, i64_w, i32_w]
          rfl
        refine one_ (i := 22) (N := some 40) #[true, true, true, true, true, true, true, true, true, true, true, true, true, true, true, true, true, true, true, true, true, true, true, true, true, true, false, false, false, false] rfl rfl (one_of HT_.out (by kernel_rfl)) (by decide) (fun K hK => ?_)
        refine goes_ Try.func24 (by kernel_rfl) rfl #[.agg #[.int .i64 a0_0, .int .i64 a0_1, .int .i64 a0_2, .int .i64 a0_3], .slice A4 l4.length c4, .bool a5] (by rfl) rfl rfl (by (try simp only [List.map_toArray, List.map_cons, List.map_nil]); first | done | rfl | (simp only [List.length_drop, List.length_take]; rfl)) ?_
        with_reducible refine (rect_Cut.calls k a0_0 a0_1 a0_2 a0_3 _ _ l4 a5 t536 _ ?side1 ?side2 A16.out).mono ?_
        (case side1 => repeat (first | exact (Kd.C_below HR4.out HB.out) | (with_reducible refine Kd.C_alloc ?_ _) | (with_reducible refine Kd.C_drewN ?_ _) | (with_reducible refine Kd.C_drew ?_)))
        (case side2 => exact HC4.out)
        rintro e w32 ⟨v537, rfl, ho0, hb⟩
        refine ⟨_, rfl, ?_⟩
        have n0_ := Aside0.mk (Kd.R_lower (Kd.R_newB (Kd.R_newB ho0 (g := gb513) (o := .cells #[.int .i64 a0_0, .int .i64 a0_1, .int .i64 a0_2, .int .i64 a0_3] 26 (0, 0)) (by (with_reducible repeat (first | refine blk_drewN ?_ _ | refine blk_drew ?_ | refine blk_alloc ?_ _)); exact BK513.out)) (g := gb519) (o := .cells #[.int .i64 t515, .int .i64 t516, .int .i64 t517, .int .i64 t518] 26 (0, 0)) (by (with_reducible repeat (first | refine blk_drewN ?_ _ | refine blk_drew ?_ | refine blk_alloc ?_ _)); exact BK519.out)) (below_size (by repeat (first | (with_reducible first | exact HB.out | apply below_alloc | apply pw_below_drewN | apply below_drew1 | refine below_set ?_ GE513.out | refine below_set ?_ GE519.out) | exact HB.out))))
        have n1_ := Aside0.mk (blk_below (g := gb513) (o := .cells #[.int .i64 a0_0, .int .i64 a0_1, .int .i64 a0_2, .int .i64 a0_3] 26 (0, 0)) (by (with_reducible repeat (first | refine blk_drewN ?_ _ | refine blk_drew ?_ | refine blk_alloc ?_ _)); exact BK513.out) hb)
        have n2_ := Aside0.mk (blk_below (g := gb519) (o := .cells #[.int .i64 t515, .int .i64 t516, .int .i64 t517, .int .i64 t518] 26 (0, 0)) (by (with_reducible repeat (first | refine blk_drewN ?_ _ | refine blk_drew ?_ | refine blk_alloc ?_ _)); exact BK519.out) hb)
        have n3_ := Aside0.mk (below_step (by repeat (first | (with_reducible first | exact HB.out | apply below_alloc | apply pw_below_drewN | apply below_drew1 | refine below_set ?_ GE513.out | refine below_set ?_ GE519.out) | exact HB.out)) hb)
        clear BK513
        clear BK519
        clear HB
        have HO538 := n0_
        have BK513 := n1_
        have BK519 := n2_
        have HB := n3_
        clear n0_ n1_ n2_ n3_
        (try clear hb)
        (try clear hb2)
        (try clear hk)
        (try clear hi)
        (try clear ho0)
        refine hK.out _ _ ⟨(blk_cell BK513.out 0).trans rfl, (blk_cell BK513.out 1).trans rfl, (blk_cell BK513.out 2).trans rfl, (blk_cell BK513.out 3).trans rfl, (blk_cell BK519.out 0).trans rfl, (blk_cell BK519.out 1).trans rfl, (blk_cell BK519.out 2).trans rfl, (blk_cell BK519.out 3).trans rfl⟩ (fun hHeld => ?_)
        clear hK K
        refine norm_ (a' := ?_) ?_ ?_
        rotate_left
        · show Act.put _ (some 40) _ = _
          simp only [Act.put, List.setIfInBounds_toArray, List.set_cons_zero, List.set_cons_succ, i64_w, i32_w]
          rfl
        refine one_ (i := 26) (N := some 44) #[true, true, true, true, true, true, true, true, true, true, true, true, true, true, true, true, true, true, true, true, true, true, true, true, true, true, true, false, false, false] rfl rfl (one_of HT_.out (by kernel_rfl)) (by decide) (fun K hK => ?_)
        refine goes_ Try.func32 (by kernel_rfl) rfl #[.agg #[.int .i64 t515, .int .i64 t516, .int .i64 t517, .int .i64 t518], .slice A4 l4.length c4, .bool a5] (by rfl) rfl rfl (by (try simp only [List.map_toArray, List.map_cons, List.map_nil]); first | done | rfl | (simp only [List.length_drop, List.length_take]; rfl)) ?_
        with_reducible refine (casementref02_Cut.calls k t515 t516 t517 t518 _ _ l4 a5 t539 _ ?side1 ?side2 A17.out).mono ?_
        (case side1 => repeat (first | exact (Kd.C_below HR4.out HB.out) | (with_reducible refine Kd.C_alloc ?_ _) | (with_reducible refine Kd.C_drewN ?_ _) | (with_reducible refine Kd.C_drew ?_)))
        (case side2 => exact HC4.out)
        rintro e w33 ⟨v540, rfl, ho0, hb⟩
        refine ⟨_, rfl, ?_⟩
        have n0_ := Aside0.mk (Kd.R_elder' (by (with_reducible repeat (first | apply Kd.R_alloc | apply Kd.R_drewN | apply Kd.R_drew)); exact HO538.out) (Kd.R_base ho0) hb)
        have n1_ := Aside0.mk (Kd.R_lower (Kd.R_newB (Kd.R_newB (Kd.R_new' ho0 (Kd.R_lt (by (with_reducible repeat (first | apply Kd.R_alloc | apply Kd.R_drewN | apply Kd.R_drew)); exact HO538.out))) (g := gb513) (o := .cells #[.int .i64 a0_0, .int .i64 a0_1, .int .i64 a0_2, .int .i64 a0_3] 26 (0, 0)) (by (with_reducible repeat (first | refine blk_drewN ?_ _ | refine blk_drew ?_ | refine blk_alloc ?_ _)); exact BK513.out)) (g := gb519) (o := .cells #[.int .i64 t515, .int .i64 t516, .int .i64 t517, .int .i64 t518] 26 (0, 0)) (by (with_reducible repeat (first | refine blk_drewN ?_ _ | refine blk_drew ?_ | refine blk_alloc ?_ _)); exact BK519.out)) (below_size (by repeat (first | (with_reducible first | exact HB.out | apply below_alloc | apply pw_below_drewN | apply below_drew1 | refine below_set ?_ GE513.out | refine below_set ?_ GE519.out) | exact HB.out))))
        have n2_ := Aside0.mk (blk_below (g := gb513) (o := .cells #[.int .i64 a0_0, .int .i64 a0_1, .int .i64 a0_2, .int .i64 a0_3] 26 (0, 0)) (by (with_reducible repeat (first | refine blk_drewN ?_ _ | refine blk_drew ?_ | refine blk_alloc ?_ _)); exact BK513.out) hb)
        have n3_ := Aside0.mk (blk_below (g := gb519) (o := .cells #[.int .i64 t515, .int .i64 t516, .int .i64 t517, .int .i64 t518] 26 (0, 0)) (by (with_reducible repeat (first | refine blk_drewN ?_ _ | refine blk_drew ?_ | refine blk_alloc ?_ _)); exact BK519.out) hb)
        have n4_ := Aside0.mk (below_step (by repeat (first | (with_reducible first | exact HB.out | apply below_alloc | apply pw_below_drewN | apply below_drew1 | refine below_set ?_ GE513.out | refine below_set ?_ GE519.out) | exact HB.out)) hb)
        clear HO538
        clear BK513
        clear BK519
        clear HB
        have HO538 := n0_
        have HO541 := n1_
        have BK513 := n2_
        have BK519 := n3_
        have HB := n4_
        clear n0_ n1_ n2_ n3_ n4_
        (try clear hb)
        (try clear hb2)
        (try clear hk)
        (try clear hi)
        (try clear ho0)
        obtain ⟨Ao34, co34, eo34⟩ := Kd.R_slice HO538.out
        (first | subst eo34 | (injection eo34 with f1_ f2_ f3_; have f4_ := f1_.symm; have f5_ := f3_.symm; clear f1_ f2_ f3_; subst f4_; subst f5_))
        obtain ⟨Ao35, co35, eo35⟩ := Kd.R_slice HO541.out
        (first | subst eo35 | (injection eo35 with f1_ f2_ f3_; have f4_ := f1_.symm; have f5_ := f3_.symm; clear f1_ f2_ f3_; subst f4_; subst f5_))
        refine hK.out _ _ ⟨(blk_cell BK513.out 0).trans rfl, (blk_cell BK513.out 1).trans rfl, (blk_cell BK513.out 2).trans rfl, (blk_cell BK513.out 3).trans rfl, (blk_cell BK519.out 0).trans rfl, (blk_cell BK519.out 1).trans rfl, (blk_cell BK519.out 2).trans rfl, (blk_cell BK519.out 3).trans rfl⟩ (fun hHeld => ?_)
        clear hK K
        refine norm_ (a' := ?_) ?_ ?_
        rotate_left
        · show Act.put _ (some 44) _ = _
          simp only [Act.put, List.setIfInBounds_toArray, List.set_cons_zero, List.set_cons_succ, i64_w, i32_w]
          rfl
        refine one_ (i := 27) (N := some 45) #[true, true, true, true, true, true, true, true, true, true, true, true, true, true, true, true, true, true, true, true, true, true, true, true, true, true, true, true, false, false] rfl rfl (one_of HT_.out (by kernel_rfl)) (by decide) (fun K hK => ?_)
        refine goes_ Try.func31 (by kernel_rfl) rfl #[.slice Ao34 t536.length co34, .slice Ao35 t539.length co35] (by rfl) rfl rfl (by (try simp only [List.map_toArray, List.map_cons, List.map_nil]); first | done | rfl | (simp only [List.length_drop, List.length_take]; rfl)) ?_
        with_reducible refine (casementref02_Same.calls k _ _ t536 _ _ t539 t542 _ ?side1 ?side2 ?side3 ?side4 A18.out).mono ?_
        (case side1 => repeat (first | exact (Kd.R_reads' HO538.out).2.2 | (with_reducible refine Kd.C_alloc ?_ _) | (with_reducible refine Kd.C_drewN ?_ _) | (with_reducible refine Kd.C_drew ?_)))
        (case side2 => exact (Kd.R_reads' HO538.out).2.1)
        (case side3 => repeat (first | exact (Kd.R_reads' HO541.out).2.2 | (with_reducible refine Kd.C_alloc ?_ _) | (with_reducible refine Kd.C_drewN ?_ _) | (with_reducible refine Kd.C_drew ?_)))
        (case side4 => exact (Kd.R_reads' HO541.out).2.1)
        rintro e w' ⟨rfl, ⟨nd, rfl⟩⟩
        refine ⟨_, rfl, ?_⟩
        refine hK.out _ _ ⟨(blk_cell BK513.out 0).trans rfl, (blk_cell BK513.out 1).trans rfl, (blk_cell BK513.out 2).trans rfl, (blk_cell BK513.out 3).trans rfl, (blk_cell BK519.out 0).trans rfl, (blk_cell BK519.out 1).trans rfl, (blk_cell BK519.out 2).trans rfl, (blk_cell BK519.out 3).trans rfl⟩ (fun hHeld => ?_)
        clear hK K
        refine norm_ (a' := ?_) ?_ ?_
        rotate_left
        · show Act.put _ (some 45) _ = _
          simp only [Act.put, List.setIfInBounds_toArray, List.set_cons_zero, List.set_cons_succ, i64_w, i32_w]
          rfl
        refine pure_ (i := 28) (N := some 46) (v := ?_) (a' := ?_) #[true, true, true, true, true, true, true, true, true, true, true, true, true, true, true, true, true, true, true, true, true, true, true, true, true, true, true, true, true, false] rfl rfl (any_of HT_.out (by kernel_rfl)) (fun _ _ _ h => h) (Or.inl ⟨by rfl, ?_⟩) ?_ ?_
        rotate_left
        · intro w'
          go_simp
          with_reducible rfl
        rotate_left
        · simp only [Act.put, List.setIfInBounds_toArray, List.set_cons_zero, List.set_cons_succ, i64_w, i32_w]
          rfl
        refine pure_ (i := 29) (N := some 12) (v := ?_) (a' := ?_) #[true, true, true, true, true, true, true, true, true, true, true, true, true, true, true, true, true, true, true, true, true, true, true, true, true, true, true, true, true, true] rfl rfl (any_of HT_.out (by kernel_rfl)) (fun _ _ _ h => h) (Or.inl ⟨by rfl, ?_⟩) ?_ ?_
        rotate_left
        · intro w'
          go_simp
          with_reducible rfl
        rotate_left
        · simp only [Act.put, List.setIfInBounds_toArray, List.set_cons_zero, List.set_cons_succ, i64_w, i32_w]
          rfl
        refine done_ (done_of HT_.out (by kernel_rfl)) ?_
        try go_wp2
        go_ret
        exact ⟨by first | rfl | (simp [errW_none, errW_some] <;> rfl) | (simp [*, errW_none, errW_some] <;> rfl), by repeat (first | (with_reducible first | exact HB.out | apply below_alloc | apply pw_below_drewN | apply below_drew1 | refine below_set ?_ GE513.out | refine below_set ?_ GE519.out) | exact HB.out)⟩
      · rw [if_neg c15] at H
        have c15b0 : (t528 == t532 && (t529 == t533 && (t530 == t534 && (t531 == t535)))) = false := by simpa using c15
        (try (have c15b1 : decide (t528 = t532 && (t529 == t533 && (t530 == t534 && (t531 == t535)))) = false := by simpa using c15))
        (try (have c15b2 : (t528 == t532 && (t529 == t533 && (t530 == t534 && (t531 == t535)))) = false := by simpa using c15))
        (try (have c15b3 : ¬ (t528 = t532 && (t529 == t533 && (t530 == t534 && (t531 == t535)))) := by simpa using c15))
        (try (have c15b4 : ((t528) = (t532 && (t529 == t533 && (t530 == t534 && (t531 == t535))))) = False := eq_false ((fun (a_ b_ : Bool) (h_ : ¬ ((a_ == b_) = true)) => (show ¬ (a_ = b_) from by revert h_; cases a_ <;> cases b_ <;> decide)) (t528) (t532 && (t529 == t533 && (t530 == t534 && (t531 == t535)))) c15)))
        clear c15
        exact absurd ((Option.some.inj H).trans HRT.out) (by decide)
    · rw [if_neg c12] at H
      have c12b0 : (t520 == t524 && (t521 == t525 && (t522 == t526 && (t523 == t527)))) = false := by simpa using c12
      (try (have c12b1 : decide (t520 = t524 && (t521 == t525 && (t522 == t526 && (t523 == t527)))) = false := by simpa using c12))
      (try (have c12b2 : (t520 == t524 && (t521 == t525 && (t522 == t526 && (t523 == t527)))) = false := by simpa using c12))
      (try (have c12b3 : ¬ (t520 = t524 && (t521 == t525 && (t522 == t526 && (t523 == t527)))) := by simpa using c12))
      (try (have c12b4 : ((t520) = (t524 && (t521 == t525 && (t522 == t526 && (t523 == t527))))) = False := eq_false ((fun (a_ b_ : Bool) (h_ : ¬ ((a_ == b_) = true)) => (show ¬ (a_ = b_) from by revert h_; cases a_ <;> cases b_ <;> decide)) (t520) (t524 && (t521 == t525 && (t522 == t526 && (t523 == t527)))) c12)))
      clear c12
      exact absurd ((Option.some.inj H).trans HRT.out) (by decide)
  · replace c8 := Bool.eq_false_iff.mpr c8
    subst c8
    have H1 : (some false) = some r := by rw [if_neg (show ¬ (false = true) by decide)] at H; exact H
    clear H
    have H := H1
    clear H1
    exact absurd ((Option.some.inj H).trans HRT.out) (by decide)

def casementlaw02_RectMoves.Pure : Prop := ∀ (a0_0 : Int) (a0_1 : Int) (a0_2 : Int) (a0_3 : Int) (a1 : Int) (a2 : Int) (a3 : Int) (l4 : List Int) (a5 : Bool), ((Lit.int .i64 a0_0).wf = true) → ((Lit.int .i64 a0_1).wf = true) → ((Lit.int .i64 a0_2).wf = true) → ((Lit.int .i64 a0_3).wf = true) → ((Lit.int .i64 a1).wf = true) → ((Lit.int .i64 a2).wf = true) → ((Lit.int .i64 a3).wf = true) → l4.length ≤ maxLen → l4.length * 8 ≤ 140737488351232 → (∀ y_ ∈ l4, (Lit.int .i64 y_).wf = true) → ∃ k, casementlaw02_RectMoves.f k a0_0 a0_1 a0_2 a0_3 a1 a2 a3 l4 a5 = some true
theorem casementlaw02_RectMoves.walk (P : casementlaw02_RectMoves.Pure) (a0_0 : Int) (a0_1 : Int) (a0_2 : Int) (a0_3 : Int) (a1 : Int) (a2 : Int) (a3 : Int) (A4 : Option Addr) (c4 : Nat) (l4 : List Int) (a5 : Bool) (w : World) (wl0 : ((Lit.int .i64 a0_0).wf = true)) (wl1 : ((Lit.int .i64 a0_1).wf = true)) (wl2 : ((Lit.int .i64 a0_2).wf = true)) (wl3 : ((Lit.int .i64 a0_3).wf = true)) (wl4 : ((Lit.int .i64 a1).wf = true)) (wl5 : ((Lit.int .i64 a2).wf = true)) (wl6 : ((Lit.int .i64 a3).wf = true)) (wl7 : l4.length ≤ maxLen) (wl8 : l4.length * 8 ≤ 140737488351232) (wl9 : (∀ y_ ∈ l4, (Lit.int .i64 y_).wf = true)) (hr4 : Kd.C (Kd.int .i64) w A4 l4.length l4) (hc4 : l4.length ≤ c4) :
    Calls Try.prog 8 #[.agg #[.int .i64 a0_0, .int .i64 a0_1, .int .i64 a0_2, .int .i64 a0_3], .int .i64 a1, .int .i64 a2, .int .i64 a3, .slice A4 l4.length c4, .bool a5] w fun e w' => e = .returned (.bool true) ∧ Below w.heap.size w w' := by
  obtain ⟨k, h⟩ := P a0_0 a0_1 a0_2 a0_3 a1 a2 a3 l4 a5 wl0 wl1 wl2 wl3 wl4 wl5 wl6 wl7 wl8 wl9
  refine (casementlaw02_RectMoves.calls k a0_0 a0_1 a0_2 a0_3 a1 a2 a3 _ _ l4 a5 true w hr4 hc4 h rfl).mono ?_
  rintro e w' ⟨rfl, hd⟩
  exact ⟨rfl, hd⟩

end Go.Proofs.Ytmokmkaipcojkaa.Q
