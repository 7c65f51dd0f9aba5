-- written by a program of this session after the way of the kit's print; not the kit's own print. Lean checks it.
import Derived.Test.YtmokmkaipcojkaaQx0
import Derived.Test.YtmokmkaipcojkaaQx2
import Derived.Test.YtmokmkaipcojkaaQx10
import Derived.Test.YtmokmkaipcojkaaQx14
namespace Go.Proofs.Ytmokmkaipcojkaa.Q
open Go.RowKit Go.Proofs.YtmokmkaipcojkaaW.PrintWords Go.Proofs.YtmokmkaipcojkaaW.PrintLast Go.Proofs.YtmokmkaipcojkaaW.PrintMore
attribute [local go_sem] max2_int min2_int max_two min_two max_three min_three max_four min_four   -- for this text's walks alone
set_option linter.unusedVariables false
set_option linter.unusedSimpArgs false

/-! ### casementlaw02_RectSums: function 4 -/
mutual
def casementlaw02_RectSums.j0 : Nat → Int → Int → Int → Bool → Option (Bool)
  | 0, _, _, _, _ => none
  | k + 1, x0, x1, x2, x36 => if x36 = true then (some false) else (if x0 = (-9223372036854775808) then (casementlaw02_RectSums.j1 k x0 x1 x2 false) else ((rect_Sum.f k x0 (wrap64 (-x0))).bind fun t356 => (casementlaw02_RectSums.j1 k x0 x1 x2 (t356 != 0))))
def casementlaw02_RectSums.j1 : Nat → Int → Int → Int → Bool → Option (Bool)
  | 0, _, _, _, _ => none
  | k + 1, x0, x1, x2, x45 => if x45 = true then (some false) else ((rect_Clamp.f x0 x1 x2).bind fun t357 => ((rect_Clamp.f t357 x1 x2).bind fun t358 => (if t358 = t357 then (if t357 ≥ x1 then (if x1 > x2 then (some true) else (some (decide (t357 ≤ x2)))) else (some false)) else (some false))))
end
def casementlaw02_RectSums.f (k : Nat) (a0 : Int) (a1 : Int) (a2 : Int) : Option (Bool) := (casementlaw02_alive.f k).bind fun t350 => (if t350 = true then ((rect_Sum.f k a0 a1).bind fun t351 => ((rect_Sum.f k a1 a0).bind fun t352 => (if t351 = t352 then ((rect_Sum.f k a0 0).bind fun t353 => (if t353 = a0 then (if a1 ≤ a2 then ((rect_Sum.f k a0 a1).bind fun t354 => ((rect_Sum.f k a0 a2).bind fun t355 => (casementlaw02_RectSums.j0 k a0 a1 a2 (decide (t354 > t355))))) else (casementlaw02_RectSums.j0 k a0 a1 a2 false)) else (casementlaw02_RectSums.j0 k a0 a1 a2 true))) else (casementlaw02_RectSums.j0 k a0 a1 a2 true)))) else (some false))
theorem casementlaw02_RectSums.mono_l : ∀ k, (∀ y0 y1 y2 y3, LeO (casementlaw02_RectSums.j0 k y0 y1 y2 y3) (casementlaw02_RectSums.j0 (k + 1) y0 y1 y2 y3)) ∧ (∀ y0 y1 y2 y3, LeO (casementlaw02_RectSums.j1 k y0 y1 y2 y3) (casementlaw02_RectSums.j1 (k + 1) y0 y1 y2 y3))
  | 0 => ⟨fun _ _ _ _ r h => by simp [casementlaw02_RectSums.j0] at h, fun _ _ _ _ r h => by simp [casementlaw02_RectSums.j1] at h⟩
  | k + 1 => by
    obtain ⟨ih0, ih1⟩ := casementlaw02_RectSums.mono_l k
    refine ⟨?_, ?_⟩
    · intro y0 y1 y2 y3
      unfold casementlaw02_RectSums.j0
      repeat' first
      | (with_reducible exact ih0 _ _ _ _)
      | (with_reducible exact ih1 _ _ _ _)
      | (with_reducible exact casementlaw02_alive.mono _)
      | (with_reducible exact rect_Sum.mono _ _ _)
      | (with_reducible exact LeO.refl _)
      | (with_reducible exact LeO.none _)
      | (with_reducible refine LeO.ite ?_ ?_)
      | (with_reducible refine LeO.bind ?_ (fun _ => ?_))
      | exact ih0 _ _ _ _
      | exact ih1 _ _ _ _
      | exact casementlaw02_alive.mono _
      | exact rect_Sum.mono _ _ _
      | exact LeO.none _
      | refine LeO.ite ?_ ?_
      | refine LeO.bind ?_ (fun _ => ?_)
    · intro y0 y1 y2 y3
      unfold casementlaw02_RectSums.j1
      repeat' first
      | (with_reducible exact ih0 _ _ _ _)
      | (with_reducible exact ih1 _ _ _ _)
      | (with_reducible exact casementlaw02_alive.mono _)
      | (with_reducible exact rect_Sum.mono _ _ _)
      | (with_reducible exact LeO.refl _)
      | (with_reducible exact LeO.none _)
      | (with_reducible refine LeO.ite ?_ ?_)
      | (with_reducible refine LeO.bind ?_ (fun _ => ?_))
      | exact ih0 _ _ _ _
      | exact ih1 _ _ _ _
      | exact casementlaw02_alive.mono _
      | exact rect_Sum.mono _ _ _
      | exact LeO.none _
      | refine LeO.ite ?_ ?_
      | refine LeO.bind ?_ (fun _ => ?_)
theorem casementlaw02_RectSums.mono : ∀ a0 a1 a2 k, LeO (casementlaw02_RectSums.f k a0 a1 a2) (casementlaw02_RectSums.f (k + 1) a0 a1 a2) := by
  intro a0 a1 a2 k
  obtain ⟨ih0, ih1⟩ := casementlaw02_RectSums.mono_l k
  unfold casementlaw02_RectSums.f
  repeat' first
      | (with_reducible exact ih0 _ _ _ _)
      | (with_reducible exact ih1 _ _ _ _)
      | (with_reducible exact casementlaw02_alive.mono _)
      | (with_reducible exact rect_Sum.mono _ _ _)
      | (with_reducible exact LeO.refl _)
      | (with_reducible exact LeO.none _)
      | (with_reducible refine LeO.ite ?_ ?_)
      | (with_reducible refine LeO.bind ?_ (fun _ => ?_))
      | exact ih0 _ _ _ _
      | exact ih1 _ _ _ _
      | exact casementlaw02_alive.mono _
      | exact rect_Sum.mono _ _ _
      | exact LeO.none _
      | refine LeO.ite ?_ ?_
      | refine LeO.bind ?_ (fun _ => ?_)
set_option maxHeartbeats 8000000 in
set_option maxRecDepth 100000 in
theorem casementlaw02_RectSums.calls (k : Nat) (a0 : Int) (a1 : Int) (a2 : Int) (r : Bool) (w : World) (h : casementlaw02_RectSums.f k a0 a1 a2 = some r) (hr : r = true) :
    Calls Try.prog 4 #[.int .i64 a0, .int .i64 a1, .int .i64 a2] w fun e w' => e = .returned (.bool r) ∧ Below w.heap.size w w' := by
  have HRT := Aside0.mk hr
  clear hr
  have HB := Aside0.mk (Below.refl w.heap.size w)
  have H : ((casementlaw02_alive.f k).bind fun t350 => (if t350 = true then ((rect_Sum.f k a0 a1).bind fun t351 => ((rect_Sum.f k a1 a0).bind fun t352 => (if t351 = t352 then ((rect_Sum.f k a0 0).bind fun t353 => (if t353 = a0 then (if a1 ≤ a2 then ((rect_Sum.f k a0 a1).bind fun t354 => ((rect_Sum.f k a0 a2).bind fun t355 => (casementlaw02_RectSums.j0 k a0 a1 a2 (decide (t354 > t355))))) else (casementlaw02_RectSums.j0 k a0 a1 a2 false)) else (casementlaw02_RectSums.j0 k a0 a1 a2 true))) else (casementlaw02_RectSums.j0 k a0 a1 a2 true)))) else (some false))) = some r := h
  clear h
  replace H := Option.bind_eq_some_iff.mp H
  obtain ⟨t350, A40, H⟩ := H
  replace H : (if t350 = true then ((rect_Sum.f k a0 a1).bind fun t351 => ((rect_Sum.f k a1 a0).bind fun t352 => (if t351 = t352 then ((rect_Sum.f k a0 0).bind fun t353 => (if t353 = a0 then (if a1 ≤ a2 then ((rect_Sum.f k a0 a1).bind fun t354 => ((rect_Sum.f k a0 a2).bind fun t355 => (casementlaw02_RectSums.j0 k a0 a1 a2 (decide (t354 > t355))))) else (casementlaw02_RectSums.j0 k a0 a1 a2 false)) else (casementlaw02_RectSums.j0 k a0 a1 a2 true))) else (casementlaw02_RectSums.j0 k a0 a1 a2 true)))) else (some false)) = some r := H
  have A4 := Aside0.mk A40
  clear A40
  by_cases c5 : t350 = true
  · subst c5
    have H1 : ((rect_Sum.f k a0 a1).bind fun t351 => ((rect_Sum.f k a1 a0).bind fun t352 => (if t351 = t352 then ((rect_Sum.f k a0 0).bind fun t353 => (if t353 = a0 then (if a1 ≤ a2 then ((rect_Sum.f k a0 a1).bind fun t354 => ((rect_Sum.f k a0 a2).bind fun t355 => (casementlaw02_RectSums.j0 k a0 a1 a2 (decide (t354 > t355))))) else (casementlaw02_RectSums.j0 k a0 a1 a2 false)) else (casementlaw02_RectSums.j0 k a0 a1 a2 true))) else (casementlaw02_RectSums.j0 k a0 a1 a2 true)))) = some r := by rw [if_pos rfl] at H; exact H
    clear H
    have H := H1
    clear H1
    have HC6 := Aside0.mk H
    clear H
    go_enter Try.func4, Try.ntmps4
    go_upto_region 3 with (first | ((with_reducible refine gate_callee (f := 12) rfl ?_); refine goesL_ (some 8) rfl rfl Try.func12 (by kernel_rfl) rfl #[] rfl (by (try simp only [List.map_toArray, List.map_cons, List.map_nil]); first | done | rfl | (simp only [List.length_drop, List.length_take]; rfl)) ?_; (with_reducible refine (casementlaw02_alive.calls k  true _ A4.out (by first | rfl | assumption)).mono ?_); rintro e w7 ⟨rfl, hb⟩; refine ⟨_, rfl, ?_⟩; have n0_ := Aside0.mk (below_step (by repeat (first | (with_reducible first | exact HB.out | apply below_alloc | apply pw_below_drewN | apply below_drew1) | exact HB.out)) hb); clear HB; have HB := n0_; clear n0_; (try clear hb); (try clear hb2); (try clear hk); (try clear hi)))
    (try simp only [Act.put, List.setIfInBounds_toArray, List.set_cons_zero, List.set_cons_succ])
    go_cut [36] (fun v36 wc => ∃ (kq : Nat) (x36_5 : Bool), v36 = .bool x36_5 ∧ Aside0 (casementlaw02_RectSums.j0 kq a0 a1 a2 x36_5 = some r) ∧ Aside0 (kq ≤ k) ∧ Aside0 (Below w.heap.size w wc))
    case first =>
      have H := HC6.out
      clear HC6
      replace H := Option.bind_eq_some_iff.mp H
      obtain ⟨t351, A80, H⟩ := H
      replace H : ((rect_Sum.f k a1 a0).bind fun t352 => (if t351 = t352 then ((rect_Sum.f k a0 0).bind fun t353 => (if t353 = a0 then (if a1 ≤ a2 then ((rect_Sum.f k a0 a1).bind fun t354 => ((rect_Sum.f k a0 a2).bind fun t355 => (casementlaw02_RectSums.j0 k a0 a1 a2 (decide (t354 > t355))))) else (casementlaw02_RectSums.j0 k a0 a1 a2 false)) else (casementlaw02_RectSums.j0 k a0 a1 a2 true))) else (casementlaw02_RectSums.j0 k a0 a1 a2 true))) = some r := H
      have A8 := Aside0.mk A80
      clear A80
      replace H := Option.bind_eq_some_iff.mp H
      obtain ⟨t352, A90, H⟩ := H
      replace H : (if t351 = t352 then ((rect_Sum.f k a0 0).bind fun t353 => (if t353 = a0 then (if a1 ≤ a2 then ((rect_Sum.f k a0 a1).bind fun t354 => ((rect_Sum.f k a0 a2).bind fun t355 => (casementlaw02_RectSums.j0 k a0 a1 a2 (decide (t354 > t355))))) else (casementlaw02_RectSums.j0 k a0 a1 a2 false)) else (casementlaw02_RectSums.j0 k a0 a1 a2 true))) else (casementlaw02_RectSums.j0 k a0 a1 a2 true)) = some r := H
      have A9 := Aside0.mk A90
      clear A90
      by_cases c10 : t351 = t352
      · rw [if_pos c10] at H
        have c10b0 : (t351 == t352) = true := beq_iff_eq.mpr c10
        have c10b1 : (t351 != t352) = false := bne_eq_false_iff_eq.mpr c10
        clear c10
        (first | rw [c10b0] | (simp only [i64_w, i32_w]; rw [c10b0]) | skip)
        replace H := Option.bind_eq_some_iff.mp H
        obtain ⟨t353, A110, H⟩ := H
        replace H : (if t353 = a0 then (if a1 ≤ a2 then ((rect_Sum.f k a0 a1).bind fun t354 => ((rect_Sum.f k a0 a2).bind fun t355 => (casementlaw02_RectSums.j0 k a0 a1 a2 (decide (t354 > t355))))) else (casementlaw02_RectSums.j0 k a0 a1 a2 false)) else (casementlaw02_RectSums.j0 k a0 a1 a2 true)) = some r := H
        have A11 := Aside0.mk A110
        clear A110
        by_cases c12 : t353 = a0
        · rw [if_pos c12] at H
          have c12b0 : (t353 == a0) = true := beq_iff_eq.mpr c12
          have c12b1 : (t353 != a0) = false := bne_eq_false_iff_eq.mpr c12
          clear c12
          by_cases c13 : a1 ≤ a2
          · rw [if_pos c13] at H
            have c13b0 : decide (a1 ≤ a2) = true := decide_eq_true c13
            clear c13
            replace H := Option.bind_eq_some_iff.mp H
            obtain ⟨t354, A140, H⟩ := H
            replace H : ((rect_Sum.f k a0 a2).bind fun t355 => (casementlaw02_RectSums.j0 k a0 a1 a2 (decide (t354 > t355)))) = some r := H
            have A14 := Aside0.mk A140
            clear A140
            replace H := Option.bind_eq_some_iff.mp H
            obtain ⟨t355, A150, H⟩ := H
            replace H : (casementlaw02_RectSums.j0 k a0 a1 a2 (decide (t354 > t355))) = some r := H
            have A15 := Aside0.mk A150
            clear A150
            have H' := Aside0.mk H
            clear H
            go_wp2_with (first | ((with_reducible refine gate_callee (f := 16) rfl ?_); refine goesL_ (some 12) rfl rfl Try.func16 (by kernel_rfl) rfl #[.int .i64 a0, .int .i64 a1] rfl (by (try simp only [List.map_toArray, List.map_cons, List.map_nil]); first | done | rfl | (simp only [List.length_drop, List.length_take]; rfl)) ?_; (with_reducible refine (rect_Sum.calls k a0 a1 t351 _ A8.out).mono ?_); rintro e w' ⟨rfl, ⟨nd, rfl⟩⟩; refine ⟨_, rfl, ?_⟩) | ((with_reducible refine gate_callee (f := 16) rfl ?_); refine goesL_ (some 15) rfl rfl Try.func16 (by kernel_rfl) rfl #[.int .i64 a1, .int .i64 a0] rfl (by (try simp only [List.map_toArray, List.map_cons, List.map_nil]); first | done | rfl | (simp only [List.length_drop, List.length_take]; rfl)) ?_; (with_reducible refine (rect_Sum.calls k a1 a0 t352 _ A9.out).mono ?_); rintro e w' ⟨rfl, ⟨nd, rfl⟩⟩; refine ⟨_, rfl, ?_⟩) | (go_at_call 16; (with_reducible refine (rect_Sum.calls k a0 0 t353 _ A11.out).mono ?_); rintro e w' ⟨rfl, ⟨nd, rfl⟩⟩) | (go_at_call 16; (with_reducible refine (rect_Sum.calls k a0 a1 t354 _ A14.out).mono ?_); rintro e w' ⟨rfl, ⟨nd, rfl⟩⟩) | (go_at_call 16; (with_reducible refine (rect_Sum.calls k a0 a2 t355 _ A15.out).mono ?_); rintro e w' ⟨rfl, ⟨nd, rfl⟩⟩))
            go_meet
            case rel => exact ⟨_, (decide (t354 > t355)), (by first | rfl | (simp; done) | (simp [*]; done)), H', ⟨by first | omega | exact Nat.le_refl _⟩, ⟨by repeat (first | (with_reducible first | exact HB.out | apply below_alloc | apply pw_below_drewN | apply below_drew1) | exact HB.out)⟩⟩
          · rw [if_neg c13] at H
            have c13b0 : decide (a1 ≤ a2) = false := decide_eq_false c13
            clear c13
            have H' := Aside0.mk H
            clear H
            go_wp2_with (first | ((with_reducible refine gate_callee (f := 16) rfl ?_); refine goesL_ (some 12) rfl rfl Try.func16 (by kernel_rfl) rfl #[.int .i64 a0, .int .i64 a1] rfl (by (try simp only [List.map_toArray, List.map_cons, List.map_nil]); first | done | rfl | (simp only [List.length_drop, List.length_take]; rfl)) ?_; (with_reducible refine (rect_Sum.calls k a0 a1 t351 _ A8.out).mono ?_); rintro e w' ⟨rfl, ⟨nd, rfl⟩⟩; refine ⟨_, rfl, ?_⟩) | ((with_reducible refine gate_callee (f := 16) rfl ?_); refine goesL_ (some 15) rfl rfl Try.func16 (by kernel_rfl) rfl #[.int .i64 a1, .int .i64 a0] rfl (by (try simp only [List.map_toArray, List.map_cons, List.map_nil]); first | done | rfl | (simp only [List.length_drop, List.length_take]; rfl)) ?_; (with_reducible refine (rect_Sum.calls k a1 a0 t352 _ A9.out).mono ?_); rintro e w' ⟨rfl, ⟨nd, rfl⟩⟩; refine ⟨_, rfl, ?_⟩) | (go_at_call 16; (with_reducible refine (rect_Sum.calls k a0 0 t353 _ A11.out).mono ?_); rintro e w' ⟨rfl, ⟨nd, rfl⟩⟩))
            go_meet
            case rel => exact ⟨_, (false), (by first | rfl | (simp; done) | (simp [*]; done)), H', ⟨by first | omega | exact Nat.le_refl _⟩, ⟨by repeat (first | (with_reducible first | exact HB.out | apply below_alloc | apply pw_below_drewN | apply below_drew1) | exact HB.out)⟩⟩
        · rw [if_neg c12] at H
          have c12b0 : (t353 == a0) = false := beq_eq_false_iff_ne.mpr c12
          have c12b1 : (t353 != a0) = true := bne_iff_ne.mpr c12
          have H' := Aside0.mk H
          clear H
          go_wp2_with (first | ((with_reducible refine gate_callee (f := 16) rfl ?_); refine goesL_ (some 12) rfl rfl Try.func16 (by kernel_rfl) rfl #[.int .i64 a0, .int .i64 a1] rfl (by (try simp only [List.map_toArray, List.map_cons, List.map_nil]); first | done | rfl | (simp only [List.length_drop, List.length_take]; rfl)) ?_; (with_reducible refine (rect_Sum.calls k a0 a1 t351 _ A8.out).mono ?_); rintro e w' ⟨rfl, ⟨nd, rfl⟩⟩; refine ⟨_, rfl, ?_⟩) | ((with_reducible refine gate_callee (f := 16) rfl ?_); refine goesL_ (some 15) rfl rfl Try.func16 (by kernel_rfl) rfl #[.int .i64 a1, .int .i64 a0] rfl (by (try simp only [List.map_toArray, List.map_cons, List.map_nil]); first | done | rfl | (simp only [List.length_drop, List.length_take]; rfl)) ?_; (with_reducible refine (rect_Sum.calls k a1 a0 t352 _ A9.out).mono ?_); rintro e w' ⟨rfl, ⟨nd, rfl⟩⟩; refine ⟨_, rfl, ?_⟩) | (go_at_call 16; (with_reducible refine (rect_Sum.calls k a0 0 t353 _ A11.out).mono ?_); rintro e w' ⟨rfl, ⟨nd, rfl⟩⟩))
          go_meet
          case rel => exact ⟨_, (true), (by first | rfl | (simp; done) | (simp [*]; done)), H', ⟨by first | omega | exact Nat.le_refl _⟩, ⟨by repeat (first | (with_reducible first | exact HB.out | apply below_alloc | apply pw_below_drewN | apply below_drew1) | exact HB.out)⟩⟩
      · rw [if_neg c10] at H
        have c10b0 : (t351 == t352) = false := beq_eq_false_iff_ne.mpr c10
        have c10b1 : (t351 != t352) = true := bne_iff_ne.mpr c10
        (first | rw [c10b0] | (simp only [i64_w, i32_w]; rw [c10b0]) | skip)
        have H' := Aside0.mk H
        clear H
        go_wp2_with (first | ((with_reducible refine gate_callee (f := 16) rfl ?_); refine goesL_ (some 12) rfl rfl Try.func16 (by kernel_rfl) rfl #[.int .i64 a0, .int .i64 a1] rfl (by (try simp only [List.map_toArray, List.map_cons, List.map_nil]); first | done | rfl | (simp only [List.length_drop, List.length_take]; rfl)) ?_; (with_reducible refine (rect_Sum.calls k a0 a1 t351 _ A8.out).mono ?_); rintro e w' ⟨rfl, ⟨nd, rfl⟩⟩; refine ⟨_, rfl, ?_⟩) | ((with_reducible refine gate_callee (f := 16) rfl ?_); refine goesL_ (some 15) rfl rfl Try.func16 (by kernel_rfl) rfl #[.int .i64 a1, .int .i64 a0] rfl (by (try simp only [List.map_toArray, List.map_cons, List.map_nil]); first | done | rfl | (simp only [List.length_drop, List.length_take]; rfl)) ?_; (with_reducible refine (rect_Sum.calls k a1 a0 t352 _ A9.out).mono ?_); rintro e w' ⟨rfl, ⟨nd, rfl⟩⟩; refine ⟨_, rfl, ?_⟩))
        go_meet
        case rel => exact ⟨_, (true), (by first | rfl | (simp; done) | (simp [*]; done)), H', ⟨by first | omega | exact Nat.le_refl _⟩, ⟨by repeat (first | (with_reducible first | exact HB.out | apply below_alloc | apply pw_below_drewN | apply below_drew1) | exact HB.out)⟩⟩
    case rest =>
      clear HC6
      try clear c1
      try clear p2
      try clear c4
      try clear c5
      try clear c10
      try clear c10b0
      try clear c10b1
      try clear c12
      try clear c12b0
      try clear c12b1
      try clear c13
      try clear c13b0
      obtain ⟨kq, x36_5, rfl, HA, HJ5, HB⟩ := hcut
      cases kq with
      | zero => exact absurd HA.out (by simp [casementlaw02_RectSums.j0])
      | succ kj5 =>
        have H := HA.out
        clear HA
        simp only [casementlaw02_RectSums.j0] at H
        by_cases c16 : x36_5 = true
        · subst c16
          have H1 : (some false) = some r := by rw [if_pos rfl] at H; exact H
          clear H
          have H := H1
          clear H1
          exact absurd ((Option.some.inj H).trans HRT.out) (by decide)
        · replace c16 := Bool.eq_false_iff.mpr c16
          subst c16
          have H1 : (if a0 = (-9223372036854775808) then (casementlaw02_RectSums.j1 kj5 a0 a1 a2 false) else ((rect_Sum.f kj5 a0 (wrap64 (-a0))).bind fun t356 => (casementlaw02_RectSums.j1 kj5 a0 a1 a2 (t356 != 0)))) = some r := by rw [if_neg (show ¬ (false = true) by decide)] at H; exact H
          clear H
          have H := H1
          clear H1
          have HC17 := Aside0.mk H
          clear H
          go_upto_region 5 with (fail)
          go_cut [45] (fun v45 wc => ∃ (kq : Nat) (x45_16 : Bool), v45 = .bool x45_16 ∧ Aside0 (casementlaw02_RectSums.j1 kq a0 a1 a2 x45_16 = some r) ∧ Aside0 (kq ≤ kj5) ∧ Aside0 (Below w.heap.size w wc))
          case first =>
            have H := HC17.out
            clear HC17
            by_cases c18 : a0 = (-9223372036854775808)
            · rw [if_pos c18] at H
              have c18b0 : (a0 == (-9223372036854775808)) = true := beq_iff_eq.mpr c18
              have c18b1 : (a0 != (-9223372036854775808)) = false := bne_eq_false_iff_eq.mpr c18
              clear c18
              (first | rw [c18b0] | (simp only [i64_w, i32_w]; rw [c18b0]) | skip)
              have H' := Aside0.mk H
              clear H
              go_wp2
              go_meet
              case rel => exact ⟨_, (false), (by first | rfl | (simp; done) | (simp [*]; done)), H', ⟨by have := HJ5.out; first | omega | exact Nat.le_refl _⟩, ⟨by repeat (first | (with_reducible first | exact HB.out | apply below_alloc | apply pw_below_drewN | apply below_drew1) | exact HB.out)⟩⟩
            · rw [if_neg c18] at H
              have c18b0 : (a0 == (-9223372036854775808)) = false := beq_eq_false_iff_ne.mpr c18
              have c18b1 : (a0 != (-9223372036854775808)) = true := bne_iff_ne.mpr c18
              (first | rw [c18b0] | (simp only [i64_w, i32_w]; rw [c18b0]) | skip)
              replace H := Option.bind_eq_some_iff.mp H
              obtain ⟨t356, A190, H⟩ := H
              replace H : (casementlaw02_RectSums.j1 kj5 a0 a1 a2 (t356 != 0)) = some r := H
              have A19 := Aside0.mk A190
              clear A190
              have H' := Aside0.mk H
              clear H
              go_wp2_with (first | (go_at_call 16; (with_reducible refine (rect_Sum.calls kj5 a0 (wrap64 (-a0)) t356 _ A19.out).mono ?_); rintro e w' ⟨rfl, ⟨nd, rfl⟩⟩))
              go_meet
              case rel => exact ⟨_, ((t356 != 0)), (by first | rfl | (simp; done) | (simp [*]; done)), H', ⟨by have := HJ5.out; first | omega | exact Nat.le_refl _⟩, ⟨by repeat (first | (with_reducible first | exact HB.out | apply below_alloc | apply pw_below_drewN | apply below_drew1) | exact HB.out)⟩⟩
          case rest =>
            clear HC17
            try clear c1
            try clear p2
            try clear c4
            try clear c5
            try clear p6
            try clear c10
            try clear c10b0
            try clear c10b1
            try clear c12
            try clear c12b0
            try clear c12b1
            try clear c13
            try clear c13b0
            try clear c16
            try clear c18
            try clear c18b0
            try clear c18b1
            try clear p2
            obtain ⟨kq, x45_16, rfl, HA, HJ16, HB⟩ := hcut
            cases kq with
            | zero => exact absurd HA.out (by simp [casementlaw02_RectSums.j1])
            | succ kj16 =>
              have H := HA.out
              clear HA
              simp only [casementlaw02_RectSums.j1] at H
              by_cases c20 : x45_16 = true
              · subst c20
                have H1 : (some false) = some r := by rw [if_pos rfl] at H; exact H
                clear H
                have H := H1
                clear H1
                exact absurd ((Option.some.inj H).trans HRT.out) (by decide)
              · replace c20 := Bool.eq_false_iff.mpr c20
                subst c20
                have H1 : ((rect_Clamp.f a0 a1 a2).bind fun t357 => ((rect_Clamp.f t357 a1 a2).bind fun t358 => (if t358 = t357 then (if t357 ≥ a1 then (if a1 > a2 then (some true) else (some (decide (t357 ≤ a2)))) else (some false)) else (some false)))) = some r := by rw [if_neg (show ¬ (false = true) by decide)] at H; exact H
                clear H
                have H := H1
                clear H1
                replace H := Option.bind_eq_some_iff.mp H
                obtain ⟨t357, A210, H⟩ := H
                replace H : ((rect_Clamp.f t357 a1 a2).bind fun t358 => (if t358 = t357 then (if t357 ≥ a1 then (if a1 > a2 then (some true) else (some (decide (t357 ≤ a2)))) else (some false)) else (some false))) = some r := H
                have A21 := Aside0.mk A210
                clear A210
                replace H := Option.bind_eq_some_iff.mp H
                obtain ⟨t358, A220, H⟩ := H
                replace H : (if t358 = t357 then (if t357 ≥ a1 then (if a1 > a2 then (some true) else (some (decide (t357 ≤ a2)))) else (some false)) else (some false)) = some r := H
                have A22 := Aside0.mk A220
                clear A220
                by_cases c23 : t358 = t357
                · rw [if_pos c23] at H
                  have c23b0 : (t358 == t357) = true := beq_iff_eq.mpr c23
                  have c23b1 : (t358 != t357) = false := bne_eq_false_iff_eq.mpr c23
                  clear c23
                  by_cases c24 : t357 ≥ a1
                  · rw [if_pos c24] at H
                    have c24b0 : decide (a1 ≤ t357) = true := decide_eq_true c24
                    clear c24
                    by_cases c25 : a1 > a2
                    · rw [if_pos c25] at H
                      have c25b0 : decide (a2 < a1) = true := decide_eq_true c25
                      clear c25
                      obtain rfl := Option.some.inj H
                      go_wp2_with (first | ((with_reducible refine gate_callee (f := 17) rfl ?_); refine goesL_ (some 49) rfl rfl Try.func17 (by kernel_rfl) rfl #[.int .i64 a0, .int .i64 a1, .int .i64 a2] rfl (by (try simp only [List.map_toArray, List.map_cons, List.map_nil]); first | done | rfl | (simp only [List.length_drop, List.length_take]; rfl)) ?_; (with_reducible refine (rect_Clamp.calls a0 a1 a2 t357 _ A21.out).mono ?_); rintro e w26 ⟨rfl, hb⟩; refine ⟨_, rfl, ?_⟩; have n0_ := Aside0.mk (below_step (by repeat (first | (with_reducible first | exact HB.out | apply below_alloc | apply pw_below_drewN | apply below_drew1) | exact HB.out)) hb); clear HB; have HB := n0_; clear n0_; (try clear hb); (try clear hb2); (try clear hk); (try clear hi)) | ((with_reducible refine gate_callee (f := 17) rfl ?_); refine goesL_ (some 53) rfl rfl Try.func17 (by kernel_rfl) rfl #[.int .i64 t357, .int .i64 a1, .int .i64 a2] rfl (by (try simp only [List.map_toArray, List.map_cons, List.map_nil]); first | done | rfl | (simp only [List.length_drop, List.length_take]; rfl)) ?_; (with_reducible refine (rect_Clamp.calls t357 a1 a2 t358 _ A22.out).mono ?_); rintro e w27 ⟨rfl, hb⟩; refine ⟨_, rfl, ?_⟩; have n0_ := Aside0.mk (below_step (by repeat (first | (with_reducible first | exact HB.out | apply below_alloc | apply pw_below_drewN | apply below_drew1) | exact HB.out)) hb); clear HB; have HB := n0_; clear n0_; (try clear hb); (try clear hb2); (try clear hk); (try clear hi)))
                      go_ret
                      exact ⟨by first | rfl | (simp [errW_none, errW_some] <;> rfl) | (simp [*, errW_none, errW_some] <;> rfl), by repeat (first | (with_reducible first | exact HB.out | apply below_alloc | apply pw_below_drewN | apply below_drew1) | exact HB.out)⟩
                    · rw [if_neg c25] at H
                      have c25b0 : decide (a2 < a1) = false := decide_eq_false c25
                      clear c25
                      obtain rfl := Option.some.inj H
                      go_wp2_with (first | ((with_reducible refine gate_callee (f := 17) rfl ?_); refine goesL_ (some 49) rfl rfl Try.func17 (by kernel_rfl) rfl #[.int .i64 a0, .int .i64 a1, .int .i64 a2] rfl (by (try simp only [List.map_toArray, List.map_cons, List.map_nil]); first | done | rfl | (simp only [List.length_drop, List.length_take]; rfl)) ?_; (with_reducible refine (rect_Clamp.calls a0 a1 a2 t357 _ A21.out).mono ?_); rintro e w28 ⟨rfl, hb⟩; refine ⟨_, rfl, ?_⟩; have n0_ := Aside0.mk (below_step (by repeat (first | (with_reducible first | exact HB.out | apply below_alloc | apply pw_below_drewN | apply below_drew1) | exact HB.out)) hb); clear HB; have HB := n0_; clear n0_; (try clear hb); (try clear hb2); (try clear hk); (try clear hi)) | ((with_reducible refine gate_callee (f := 17) rfl ?_); refine goesL_ (some 53) rfl rfl Try.func17 (by kernel_rfl) rfl #[.int .i64 t357, .int .i64 a1, .int .i64 a2] rfl (by (try simp only [List.map_toArray, List.map_cons, List.map_nil]); first | done | rfl | (simp only [List.length_drop, List.length_take]; rfl)) ?_; (with_reducible refine (rect_Clamp.calls t357 a1 a2 t358 _ A22.out).mono ?_); rintro e w29 ⟨rfl, hb⟩; refine ⟨_, rfl, ?_⟩; have n0_ := Aside0.mk (below_step (by repeat (first | (with_reducible first | exact HB.out | apply below_alloc | apply pw_below_drewN | apply below_drew1) | exact HB.out)) hb); clear HB; have HB := n0_; clear n0_; (try clear hb); (try clear hb2); (try clear hk); (try clear hi)))
                      go_ret
                      exact ⟨by first | rfl | (simp [errW_none, errW_some] <;> rfl) | (simp [*, errW_none, errW_some] <;> rfl), by repeat (first | (with_reducible first | exact HB.out | apply below_alloc | apply pw_below_drewN | apply below_drew1) | exact HB.out)⟩
                  · rw [if_neg c24] at H
                    have c24b0 : decide (a1 ≤ t357) = false := decide_eq_false c24
                    clear c24
                    exact absurd ((Option.some.inj H).trans HRT.out) (by decide)
                · rw [if_neg c23] at H
                  have c23b0 : (t358 == t357) = false := beq_eq_false_iff_ne.mpr c23
                  have c23b1 : (t358 != t357) = true := bne_iff_ne.mpr c23
                  exact absurd ((Option.some.inj H).trans HRT.out) (by decide)
  · replace c5 := Bool.eq_false_iff.mpr c5
    subst c5
    have H1 : (some false) = some r := by rw [if_neg (show ¬ (false = true) by decide)] at H; exact H
    clear H
    have H := H1
    clear H1
    exact absurd ((Option.some.inj H).trans HRT.out) (by decide)

def casementlaw02_RectSums.Pure : Prop := ∀ (a0 : Int) (a1 : Int) (a2 : Int), ((Lit.int .i64 a0).wf = true) → ((Lit.int .i64 a1).wf = true) → ((Lit.int .i64 a2).wf = true) → ∃ k, casementlaw02_RectSums.f k a0 a1 a2 = some true
theorem casementlaw02_RectSums.walk (P : casementlaw02_RectSums.Pure) (a0 : Int) (a1 : Int) (a2 : Int) (w : World) (wl0 : ((Lit.int .i64 a0).wf = true)) (wl1 : ((Lit.int .i64 a1).wf = true)) (wl2 : ((Lit.int .i64 a2).wf = true))  :
    Calls Try.prog 4 #[.int .i64 a0, .int .i64 a1, .int .i64 a2] w fun e w' => e = .returned (.bool true) ∧ Below w.heap.size w w' := by
  obtain ⟨k, h⟩ := P a0 a1 a2 wl0 wl1 wl2
  refine (casementlaw02_RectSums.calls k a0 a1 a2 true w  h rfl).mono ?_
  rintro e w' ⟨rfl, hd⟩
  exact ⟨rfl, hd⟩

end Go.Proofs.Ytmokmkaipcojkaa.Q
