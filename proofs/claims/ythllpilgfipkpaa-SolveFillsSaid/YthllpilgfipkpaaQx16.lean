-- written by a program of this session after the way of the kit's print; not the kit's own print. Lean checks it.
import Derived.Test.YthllpilgfipkpaaQx0
import Derived.Test.YthllpilgfipkpaaQx7
import Derived.Test.YthllpilgfipkpaaQx9
namespace Go.Proofs.Ythllpilgfipkpaa.Q
open Go.RowKit Go.Proofs.YthllpilgfipkpaaW.PrintWords Go.Proofs.YthllpilgfipkpaaW.PrintLast Go.Proofs.YthllpilgfipkpaaW.PrintMore
attribute [local go_sem] max2_int min2_int max_two min_two max_three min_three max_four min_four   -- for this text's walks alone
set_option linter.unusedVariables false
set_option linter.unusedSimpArgs false

/-! ### casementlaw09_SolveFills: function 9 -/
mutual
def casementlaw09_SolveFills.l0 : Nat → Int → List (S70) → List Int → Int → Int → Int → List Int → Int → Int → Option (Bool)
  | 0, _, _, _, _, _, _, _, _, _ => none
  | k + 1, x0, x1, x5, x7, x8, x9, x25, x26, x27 => if x27 < x26 then (if 0 ≤ x27 then (if x27 < (x25.length : Int) then (if (rd x25 x27) < 1 then (casementlaw09_SolveFills.j1 k x0 x1 x5 (wrap64 (x7 + (rd x25 x27))) x8 x9 x27 (rd x25 x27) x25 x26 x27 true) else (if x27 < (x1.length : Int) then (if ((rd_T70 x1 x27).f0) = 0 then (if x9 > 0 then (if (rd x25 x27) > x8 then (casementlaw09_SolveFills.j1 k x0 x1 x5 (wrap64 (x7 + (rd x25 x27))) x8 x9 x27 (rd x25 x27) x25 x26 x27 true) else (casementlaw09_SolveFills.j1 k x0 x1 x5 (wrap64 (x7 + (rd x25 x27))) x8 x9 x27 (rd x25 x27) x25 x26 x27 (decide ((rd x25 x27) < (wrap64 (x9 - 1)))))) else (casementlaw09_SolveFills.j1 k x0 x1 x5 (wrap64 (x7 + (rd x25 x27))) x8 x9 x27 (rd x25 x27) x25 x26 x27 false)) else (casementlaw09_SolveFills.j1 k x0 x1 x5 (wrap64 (x7 + (rd x25 x27))) x8 x9 x27 (rd x25 x27) x25 x26 x27 false)) else (none))) else (none)) else (none)) else (if x7 = x0 then (some ((x5.length : Int) == (x1.length : Int))) else (some false))
def casementlaw09_SolveFills.j1 : Nat → Int → List (S70) → List Int → Int → Int → Int → Int → Int → List Int → Int → Int → Bool → Option (Bool)
  | 0, _, _, _, _, _, _, _, _, _, _, _, _ => none
  | k + 1, x0, x1, x5, x7, x8, x9, x10, x11, x25, x26, x27, x59 => if x59 = true then (some false) else (if 0 ≤ x10 then (if x10 < (x1.length : Int) then (if ((rd_T70 x1 x10).f0) = 0 then (if x9 = 0 then (casementlaw09_SolveFills.l0 k x0 x1 x5 x7 x11 x11 x25 x26 (wrap64 (x27 + 1))) else (casementlaw09_SolveFills.l0 k x0 x1 x5 x7 x11 x9 x25 x26 (wrap64 (x27 + 1)))) else (casementlaw09_SolveFills.l0 k x0 x1 x5 x7 x8 x9 x25 x26 (wrap64 (x27 + 1)))) else (none)) else (none))
end
def casementlaw09_SolveFills.f (k : Nat) (a0 : Int) (l1 : List (S70)) : Option (Bool) := (casementlaw09_alive.f k).bind fun t270 => (if t270 = true then ((solve_Share.f k a0 l1).bind fun bt271 => (if bt271.2 = 0 then (casementlaw09_SolveFills.l0 k a0 l1 bt271.1 0 0 0 bt271.1 (bt271.1.length : Int) 0) else (some ((bt271.1.length : Int) == 0)))) else (some false))
theorem casementlaw09_SolveFills.mono_l : ∀ k, (∀ y0 y1 y2 y3 y4 y5 y6 y7 y8, LeO (casementlaw09_SolveFills.l0 k y0 y1 y2 y3 y4 y5 y6 y7 y8) (casementlaw09_SolveFills.l0 (k + 1) y0 y1 y2 y3 y4 y5 y6 y7 y8)) ∧ (∀ y0 y1 y2 y3 y4 y5 y6 y7 y8 y9 y10 y11, LeO (casementlaw09_SolveFills.j1 k y0 y1 y2 y3 y4 y5 y6 y7 y8 y9 y10 y11) (casementlaw09_SolveFills.j1 (k + 1) y0 y1 y2 y3 y4 y5 y6 y7 y8 y9 y10 y11))
  | 0 => ⟨fun _ _ _ _ _ _ _ _ _ r h => by simp [casementlaw09_SolveFills.l0] at h, fun _ _ _ _ _ _ _ _ _ _ _ _ r h => by simp [casementlaw09_SolveFills.j1] at h⟩
  | k + 1 => by
    obtain ⟨ih0, ih1⟩ := casementlaw09_SolveFills.mono_l k
    refine ⟨?_, ?_⟩
    · intro y0 y1 y2 y3 y4 y5 y6 y7 y8
      unfold casementlaw09_SolveFills.l0
      repeat' first
      | (with_reducible exact ih0 _ _ _ _ _ _ _ _ _)
      | (with_reducible exact ih1 _ _ _ _ _ _ _ _ _ _ _ _)
      | (with_reducible exact casementlaw09_alive.mono _)
      | (with_reducible exact solve_Share.mono _ _ _)
      | (with_reducible exact LeO.refl _)
      | (with_reducible exact LeO.none _)
      | (with_reducible refine LeO.ite ?_ ?_)
      | (with_reducible refine LeO.bind ?_ (fun _ => ?_))
      | exact ih0 _ _ _ _ _ _ _ _ _
      | exact ih1 _ _ _ _ _ _ _ _ _ _ _ _
      | exact casementlaw09_alive.mono _
      | exact solve_Share.mono _ _ _
      | exact LeO.none _
      | refine LeO.ite ?_ ?_
      | refine LeO.bind ?_ (fun _ => ?_)
    · intro y0 y1 y2 y3 y4 y5 y6 y7 y8 y9 y10 y11
      unfold casementlaw09_SolveFills.j1
      repeat' first
      | (with_reducible exact ih0 _ _ _ _ _ _ _ _ _)
      | (with_reducible exact ih1 _ _ _ _ _ _ _ _ _ _ _ _)
      | (with_reducible exact casementlaw09_alive.mono _)
      | (with_reducible exact solve_Share.mono _ _ _)
      | (with_reducible exact LeO.refl _)
      | (with_reducible exact LeO.none _)
      | (with_reducible refine LeO.ite ?_ ?_)
      | (with_reducible refine LeO.bind ?_ (fun _ => ?_))
      | exact ih0 _ _ _ _ _ _ _ _ _
      | exact ih1 _ _ _ _ _ _ _ _ _ _ _ _
      | exact casementlaw09_alive.mono _
      | exact solve_Share.mono _ _ _
      | exact LeO.none _
      | refine LeO.ite ?_ ?_
      | refine LeO.bind ?_ (fun _ => ?_)
theorem casementlaw09_SolveFills.mono : ∀ a0 a1 k, LeO (casementlaw09_SolveFills.f k a0 a1) (casementlaw09_SolveFills.f (k + 1) a0 a1) := by
  intro a0 a1 k
  obtain ⟨ih0, ih1⟩ := casementlaw09_SolveFills.mono_l k
  unfold casementlaw09_SolveFills.f
  repeat' first
      | (with_reducible exact ih0 _ _ _ _ _ _ _ _ _)
      | (with_reducible exact ih1 _ _ _ _ _ _ _ _ _ _ _ _)
      | (with_reducible exact casementlaw09_alive.mono _)
      | (with_reducible exact solve_Share.mono _ _ _)
      | (with_reducible exact LeO.refl _)
      | (with_reducible exact LeO.none _)
      | (with_reducible refine LeO.ite ?_ ?_)
      | (with_reducible refine LeO.bind ?_ (fun _ => ?_))
      | exact ih0 _ _ _ _ _ _ _ _ _
      | exact ih1 _ _ _ _ _ _ _ _ _ _ _ _
      | exact casementlaw09_alive.mono _
      | exact solve_Share.mono _ _ _
      | exact LeO.none _
      | refine LeO.ite ?_ ?_
      | refine LeO.bind ?_ (fun _ => ?_)
set_option maxHeartbeats 8000000 in
set_option maxRecDepth 100000 in
theorem casementlaw09_SolveFills.calls (k : Nat) (a0 : Int) (A1 : Option Addr) (c1 : Nat) (l1 : List (S70)) (r : Bool) (w : World) (hr1 : Kd.C k70 w A1 l1.length l1) (hc1 : l1.length ≤ c1) (h : casementlaw09_SolveFills.f k a0 l1 = some r) (hr : r = true) :
    Calls Try.prog 9 #[.int .i64 a0, .slice A1 l1.length c1] w fun e w' => e = .returned (.bool r) ∧ Below w.heap.size w w' := by
  have HRT := Aside0.mk hr
  clear hr
  have HR1 := Aside0.mk hr1
  have HC1 := Aside0.mk hc1
  clear hr1 hc1
  have HB := Aside0.mk (Below.refl w.heap.size w)
  have H : ((casementlaw09_alive.f k).bind fun t270 => (if t270 = true then ((solve_Share.f k a0 l1).bind fun bt271 => (if bt271.2 = 0 then (casementlaw09_SolveFills.l0 k a0 l1 bt271.1 0 0 0 bt271.1 (bt271.1.length : Int) 0) else (some ((bt271.1.length : Int) == 0)))) else (some false))) = some r := h
  clear h
  replace H := Option.bind_eq_some_iff.mp H
  obtain ⟨t270, A30, H⟩ := H
  replace H : (if t270 = true then ((solve_Share.f k a0 l1).bind fun bt271 => (if bt271.2 = 0 then (casementlaw09_SolveFills.l0 k a0 l1 bt271.1 0 0 0 bt271.1 (bt271.1.length : Int) 0) else (some ((bt271.1.length : Int) == 0)))) else (some false)) = some r := H
  have A3 := Aside0.mk A30
  clear A30
  by_cases c4 : t270 = true
  · subst c4
    have H1 : ((solve_Share.f k a0 l1).bind fun bt271 => (if bt271.2 = 0 then (casementlaw09_SolveFills.l0 k a0 l1 bt271.1 0 0 0 bt271.1 (bt271.1.length : Int) 0) else (some ((bt271.1.length : Int) == 0)))) = some r := by rw [if_pos rfl] at H; exact H
    clear H
    have H := H1
    clear H1
    replace H := Option.bind_eq_some_iff.mp H
    obtain ⟨⟨t271, t272⟩, A50, H⟩ := H
    replace H : (if t272 = 0 then (casementlaw09_SolveFills.l0 k a0 l1 t271 0 0 0 t271 (t271.length : Int) 0) else (some ((t271.length : Int) == 0))) = some r := H
    have A5 := Aside0.mk A50
    clear A50
    by_cases c6 : t272 = 0
    · rw [if_pos c6] at H
      have c6b0 : (t272 == 0) = true := beq_iff_eq.mpr c6
      have c6b1 : (t272 != 0) = false := bne_eq_false_iff_eq.mpr c6
      clear c6
      have H' := Aside0.mk H
      clear H
      go_enter Try.func9, Try.ntmps9
      go_wp2_with (first | ((with_reducible refine gate_callee (f := 38) rfl ?_); refine goesL_ (some 12) rfl rfl Try.func38 (by kernel_rfl) rfl #[] rfl (by (try simp only [List.map_toArray, List.map_cons, List.map_nil]); first | done | rfl | (simp only [List.length_drop, List.length_take]; rfl)) ?_; (with_reducible refine (casementlaw09_alive.calls k  true _ A3.out (by first | rfl | assumption)).mono ?_); rintro e w7 ⟨rfl, hb⟩; refine ⟨_, rfl, ?_⟩; have n0_ := Aside0.mk (below_step (by repeat (first | (with_reducible first | exact HB.out | apply below_alloc | apply pw_below_drewN | apply below_drew1) | exact HB.out)) hb); clear HB; have HB := n0_; clear n0_; (try clear hb); (try clear hb2); (try clear hk); (try clear hi)) | ((with_reducible refine gate_callee (f := 39) rfl ?_); refine goesL_ (some 17) rfl rfl Try.func39 (by kernel_rfl) rfl #[.int .i64 a0, .slice A1 l1.length c1] rfl (by (try simp only [List.map_toArray, List.map_cons, List.map_nil]); first | done | rfl | (simp only [List.length_drop, List.length_take]; rfl)) ?_; (with_reducible refine (solve_Share.calls k a0 _ _ l1 t271 t272 _ ?side1 ?side2 A5.out).mono ?_); (case side1 => repeat (first | exact (Kd.C_below HR1.out HB.out) | (with_reducible refine Kd.C_alloc ?_ _) | (with_reducible refine Kd.C_drewN ?_ _) | (with_reducible refine Kd.C_drew ?_))); (case side2 => exact HC1.out); rintro e w8 ⟨v273, rfl, ho0, hb⟩; refine ⟨_, rfl, ?_⟩; have n0_ := Aside0.mk (Kd.R_lower ho0 (below_size (by repeat (first | (with_reducible first | exact HB.out | apply below_alloc | apply pw_below_drewN | apply below_drew1) | exact HB.out)))); have n1_ := Aside0.mk (below_step (by repeat (first | (with_reducible first | exact HB.out | apply below_alloc | apply pw_below_drewN | apply below_drew1) | exact HB.out)) hb); clear HB; have HO274 := n0_; have HB := n1_; clear n0_ n1_; (try clear hb); (try clear hb2); (try clear hk); (try clear hi); (try clear ho0); obtain ⟨Ao9, co9, eo9⟩ := Kd.R_slice HO274.out; subst eo9))
      go_loopg [7, 8, 9, 27] k (fun kq v7 v8 v9 v27 w' => ∃ (x7_1 : Int) (x8_1 : Int) (x9_1 : Int) (x27_1 : Int), v7 = .int .i64 x7_1 ∧ v8 = .int .i64 x8_1 ∧ v9 = .int .i64 x9_1 ∧ v27 = .int .i64 x27_1 ∧ Aside0 (casementlaw09_SolveFills.l0 kq a0 l1 t271 x7_1 x8_1 x9_1 t271 (t271.length : Int) x27_1 = some r) ∧ Aside0 (kq ≤ k) ∧ Aside0 (Kd.R (Kd.int .i64) 3 w' w.heap.size (fun _ => True) (.slice Ao9 t271.length co9) t271) ∧ Aside0 (Kd.R (Kd.int .i64) 3 w' w.heap.size (fun _ => True) (.slice Ao9 t271.length co9) t271) ∧ Aside0 (Below w.heap.size w w'))
      case atStart => exact ⟨(0), (0), (0), (0), (by first | rfl | (simp; done) | (simp [*]; done)), (by first | rfl | (simp; done) | (simp [*]; done)), (by first | rfl | (simp; done) | (simp [*]; done)), (by first | rfl | (simp; done) | (simp [*]; done)), H', ⟨Nat.le_refl _⟩, ⟨by (with_reducible repeat (first | apply Kd.R_alloc | apply Kd.R_drewN | apply Kd.R_drew)); exact HO274.out⟩, ⟨by (with_reducible repeat (first | apply Kd.R_alloc | apply Kd.R_drewN | apply Kd.R_drew)); exact HO274.out⟩, ⟨by repeat (first | (with_reducible first | exact HB.out | apply below_alloc | apply pw_below_drewN | apply below_drew1) | exact HB.out)⟩⟩
      case round =>
        clear H'
        try clear c1
        try clear p2
        try clear c3
        try clear c4
        try clear c6
        try clear c6b0
        try clear c6b1
        try clear c9
        obtain ⟨x7_1, x8_1, x9_1, x27_1, rfl, rfl, rfl, rfl, HA, HK1, HO_5, HO_25, HB⟩ := hrel
        cases gk with
        | zero => exact absurd HA.out (by simp [casementlaw09_SolveFills.l0])
        | succ k1 =>
          have H := HA.out
          clear HA
          simp only [casementlaw09_SolveFills.l0] at H
          by_cases c10 : x27_1 < (t271.length : Int)
          · rw [if_pos c10] at H
            have c10b0 : decide (x27_1 < (t271.length : Int)) = true := decide_eq_true c10
            clear c10
            by_cases c11 : 0 ≤ x27_1
            · rw [if_pos c11] at H
              have c11b0 : decide (0 ≤ x27_1) = true := decide_eq_true c11
              clear c11
              by_cases c12 : x27_1 < (t271.length : Int)
              · rw [if_pos c12] at H
                have c12b0 : decide (x27_1 < (t271.length : Int)) = true := decide_eq_true c12
                clear c12
                have HC13 := Aside0.mk H
                clear H
                have p275 : 0 ≤ (x27_1 : Int) := of_decide_eq_true (by first | (with_reducible assumption) | assumption)
                have q275 : x27_1 < (t271.length : Int) := of_decide_eq_true (by first | (with_reducible assumption) | assumption)
                obtain ⟨ad275, e275, hx275_0⟩ := Kd.at_int (Kd.R_reads' HO_25.out).2.2 x27_1 p275 q275
                cases e275
                replace p275 := eq_true p275
                replace q275 := eq_true q275
                go_upto_region 11 with (fail)
                go_cut [59] (fun v59 wc => ∃ (kq : Nat) (x59_12 : Bool), v59 = .bool x59_12 ∧ Aside0 (casementlaw09_SolveFills.j1 kq a0 l1 t271 (wrap64 (x7_1 + (rd t271 x27_1))) x8_1 x9_1 x27_1 (rd t271 x27_1) t271 (t271.length : Int) x27_1 x59_12 = some r) ∧ Aside0 (kq ≤ k1) ∧ Aside0 (Kd.R (Kd.int .i64) 3 wc w.heap.size (fun _ => True) (.slice (some ad275) t271.length co9) t271) ∧ Aside0 (Kd.R (Kd.int .i64) 3 wc w.heap.size (fun _ => True) (.slice (some ad275) t271.length co9) t271) ∧ Aside0 (Below w.heap.size w wc))
                case first =>
                  have H := HC13.out
                  clear HC13
                  by_cases c14 : (rd t271 x27_1) < 1
                  · rw [if_pos c14] at H
                    have c14b0 : decide ((rd t271 x27_1) < 1) = true := decide_eq_true c14
                    clear c14
                    (first | rw [c14b0] | (simp only [i64_w, i32_w]; rw [c14b0]) | skip)
                    have H' := Aside0.mk H
                    clear H
                    go_wp2
                    go_meet
                    case rel => exact ⟨_, (true), (by first | rfl | (simp; done) | (simp [*]; done)), H', ⟨by have := HK1.out; first | omega | exact Nat.le_refl _⟩, ⟨by (with_reducible repeat (first | apply Kd.R_alloc | apply Kd.R_drewN | apply Kd.R_drew)); exact HO_5.out⟩, ⟨by (with_reducible repeat (first | apply Kd.R_alloc | apply Kd.R_drewN | apply Kd.R_drew)); exact HO_25.out⟩, ⟨by repeat (first | (with_reducible first | exact HB.out | apply below_alloc | apply pw_below_drewN | apply below_drew1) | exact HB.out)⟩⟩
                  · rw [if_neg c14] at H
                    have c14b0 : decide ((rd t271 x27_1) < 1) = false := decide_eq_false c14
                    clear c14
                    (first | rw [c14b0] | (simp only [i64_w, i32_w]; rw [c14b0]) | skip)
                    by_cases c15 : x27_1 < (l1.length : Int)
                    · rw [if_pos c15] at H
                      have c15b0 : decide (x27_1 < (l1.length : Int)) = true := decide_eq_true c15
                      clear c15
                      by_cases c16 : ((rd_T70 l1 x27_1).f0) = 0
                      · rw [if_pos c16] at H
                        have c16b0 : (((rd_T70 l1 x27_1).f0) == 0) = true := beq_iff_eq.mpr c16
                        have c16b1 : (((rd_T70 l1 x27_1).f0) != 0) = false := bne_eq_false_iff_eq.mpr c16
                        clear c16
                        by_cases c17 : x9_1 > 0
                        · rw [if_pos c17] at H
                          have c17b0 : decide (0 < x9_1) = true := decide_eq_true c17
                          clear c17
                          by_cases c18 : (rd t271 x27_1) > x8_1
                          · rw [if_pos c18] at H
                            have c18b0 : decide (x8_1 < (rd t271 x27_1)) = true := decide_eq_true c18
                            clear c18
                            have H' := Aside0.mk H
                            clear H
                            have p276 : 0 ≤ (x27_1 : Int) := of_decide_eq_true (by first | (with_reducible assumption) | assumption)
                            have q276 : x27_1 < (l1.length : Int) := of_decide_eq_true (by first | (with_reducible assumption) | assumption)
                            obtain ⟨ad276, e276, hx276_0, hx276_1⟩ := at_T70 HR1.out x27_1 p276 q276
                            cases e276
                            replace hx276_0 := (HB.out.cell (World.block_lt_of_cell? w _ hx276_0)).trans hx276_0
                            replace hx276_1 := (HB.out.cell (World.block_lt_of_cell? w _ hx276_1)).trans hx276_1
                            replace p276 := eq_true p276
                            replace q276 := eq_true q276
                            go_wp2
                            go_meet
                            case rel => exact ⟨_, (true), (by first | rfl | (simp; done) | (simp [*]; done)), H', ⟨by have := HK1.out; first | omega | exact Nat.le_refl _⟩, ⟨by (with_reducible repeat (first | apply Kd.R_alloc | apply Kd.R_drewN | apply Kd.R_drew)); exact HO_5.out⟩, ⟨by (with_reducible repeat (first | apply Kd.R_alloc | apply Kd.R_drewN | apply Kd.R_drew)); exact HO_25.out⟩, ⟨by repeat (first | (with_reducible first | exact HB.out | apply below_alloc | apply pw_below_drewN | apply below_drew1) | exact HB.out)⟩⟩
                          · rw [if_neg c18] at H
                            have c18b0 : decide (x8_1 < (rd t271 x27_1)) = false := decide_eq_false c18
                            clear c18
                            have H' := Aside0.mk H
                            clear H
                            have p276 : 0 ≤ (x27_1 : Int) := of_decide_eq_true (by first | (with_reducible assumption) | assumption)
                            have q276 : x27_1 < (l1.length : Int) := of_decide_eq_true (by first | (with_reducible assumption) | assumption)
                            obtain ⟨ad276, e276, hx276_0, hx276_1⟩ := at_T70 HR1.out x27_1 p276 q276
                            cases e276
                            replace hx276_0 := (HB.out.cell (World.block_lt_of_cell? w _ hx276_0)).trans hx276_0
                            replace hx276_1 := (HB.out.cell (World.block_lt_of_cell? w _ hx276_1)).trans hx276_1
                            replace p276 := eq_true p276
                            replace q276 := eq_true q276
                            go_wp2
                            go_meet
                            case rel => exact ⟨_, (decide ((rd t271 x27_1) < (wrap64 (x9_1 - 1)))), (by first | rfl | (simp; done) | (simp [*]; done)), H', ⟨by have := HK1.out; first | omega | exact Nat.le_refl _⟩, ⟨by (with_reducible repeat (first | apply Kd.R_alloc | apply Kd.R_drewN | apply Kd.R_drew)); exact HO_5.out⟩, ⟨by (with_reducible repeat (first | apply Kd.R_alloc | apply Kd.R_drewN | apply Kd.R_drew)); exact HO_25.out⟩, ⟨by repeat (first | (with_reducible first | exact HB.out | apply below_alloc | apply pw_below_drewN | apply below_drew1) | exact HB.out)⟩⟩
                        · rw [if_neg c17] at H
                          have c17b0 : decide (0 < x9_1) = false := decide_eq_false c17
                          clear c17
                          have H' := Aside0.mk H
                          clear H
                          have p276 : 0 ≤ (x27_1 : Int) := of_decide_eq_true (by first | (with_reducible assumption) | assumption)
                          have q276 : x27_1 < (l1.length : Int) := of_decide_eq_true (by first | (with_reducible assumption) | assumption)
                          obtain ⟨ad276, e276, hx276_0, hx276_1⟩ := at_T70 HR1.out x27_1 p276 q276
                          cases e276
                          replace hx276_0 := (HB.out.cell (World.block_lt_of_cell? w _ hx276_0)).trans hx276_0
                          replace hx276_1 := (HB.out.cell (World.block_lt_of_cell? w _ hx276_1)).trans hx276_1
                          replace p276 := eq_true p276
                          replace q276 := eq_true q276
                          go_wp2
                          go_meet
                          case rel => exact ⟨_, (false), (by first | rfl | (simp; done) | (simp [*]; done)), H', ⟨by have := HK1.out; first | omega | exact Nat.le_refl _⟩, ⟨by (with_reducible repeat (first | apply Kd.R_alloc | apply Kd.R_drewN | apply Kd.R_drew)); exact HO_5.out⟩, ⟨by (with_reducible repeat (first | apply Kd.R_alloc | apply Kd.R_drewN | apply Kd.R_drew)); exact HO_25.out⟩, ⟨by repeat (first | (with_reducible first | exact HB.out | apply below_alloc | apply pw_below_drewN | apply below_drew1) | exact HB.out)⟩⟩
                      · rw [if_neg c16] at H
                        have c16b0 : (((rd_T70 l1 x27_1).f0) == 0) = false := beq_eq_false_iff_ne.mpr c16
                        have c16b1 : (((rd_T70 l1 x27_1).f0) != 0) = true := bne_iff_ne.mpr c16
                        have H' := Aside0.mk H
                        clear H
                        have p276 : 0 ≤ (x27_1 : Int) := of_decide_eq_true (by first | (with_reducible assumption) | assumption)
                        have q276 : x27_1 < (l1.length : Int) := of_decide_eq_true (by first | (with_reducible assumption) | assumption)
                        obtain ⟨ad276, e276, hx276_0, hx276_1⟩ := at_T70 HR1.out x27_1 p276 q276
                        cases e276
                        replace hx276_0 := (HB.out.cell (World.block_lt_of_cell? w _ hx276_0)).trans hx276_0
                        replace hx276_1 := (HB.out.cell (World.block_lt_of_cell? w _ hx276_1)).trans hx276_1
                        replace p276 := eq_true p276
                        replace q276 := eq_true q276
                        go_wp2
                        go_meet
                        case rel => exact ⟨_, (false), (by first | rfl | (simp; done) | (simp [*]; done)), H', ⟨by have := HK1.out; first | omega | exact Nat.le_refl _⟩, ⟨by (with_reducible repeat (first | apply Kd.R_alloc | apply Kd.R_drewN | apply Kd.R_drew)); exact HO_5.out⟩, ⟨by (with_reducible repeat (first | apply Kd.R_alloc | apply Kd.R_drewN | apply Kd.R_drew)); exact HO_25.out⟩, ⟨by repeat (first | (with_reducible first | exact HB.out | apply below_alloc | apply pw_below_drewN | apply below_drew1) | exact HB.out)⟩⟩
                    · rw [if_neg c15] at H
                      exact absurd H (by simp)
                case rest =>
                  clear HC13
                  try clear c1
                  try clear p2
                  try clear q2
                  try clear hx2
                  try clear c3
                  try clear c4
                  try clear c6
                  try clear c6b0
                  try clear c6b1
                  try clear p6
                  try clear c9
                  try clear c10
                  try clear c10b0
                  try clear c11
                  try clear c11b0
                  try clear c12
                  try clear c12b0
                  try clear c14
                  try clear c14b0
                  try clear c15
                  try clear c15b0
                  try clear c16
                  try clear c16b0
                  try clear c16b1
                  try clear c17
                  try clear c17b0
                  try clear c18
                  try clear c18b0
                  try clear hx275_0
                  try clear hx276_0
                  try clear hx276_1
                  try clear p2
                  try clear p275
                  try clear p276
                  try clear q275
                  try clear q276
                  obtain ⟨kq, x59_12, rfl, HA, HJ12, HO_5, HO_25, HB⟩ := hcut
                  cases kq with
                  | zero => exact absurd HA.out (by simp [casementlaw09_SolveFills.j1])
                  | succ kj12 =>
                    have H := HA.out
                    clear HA
                    simp only [casementlaw09_SolveFills.j1] at H
                    by_cases c19 : x59_12 = true
                    · subst c19
                      have H1 : (some false) = some r := by rw [if_pos rfl] at H; exact H
                      clear H
                      have H := H1
                      clear H1
                      exact absurd ((Option.some.inj H).trans HRT.out) (by decide)
                    · replace c19 := Bool.eq_false_iff.mpr c19
                      subst c19
                      have H1 : (if 0 ≤ x27_1 then (if x27_1 < (l1.length : Int) then (if ((rd_T70 l1 x27_1).f0) = 0 then (if x9_1 = 0 then (casementlaw09_SolveFills.l0 kj12 a0 l1 t271 (wrap64 (x7_1 + (rd t271 x27_1))) (rd t271 x27_1) (rd t271 x27_1) t271 (t271.length : Int) (wrap64 (x27_1 + 1))) else (casementlaw09_SolveFills.l0 kj12 a0 l1 t271 (wrap64 (x7_1 + (rd t271 x27_1))) (rd t271 x27_1) x9_1 t271 (t271.length : Int) (wrap64 (x27_1 + 1)))) else (casementlaw09_SolveFills.l0 kj12 a0 l1 t271 (wrap64 (x7_1 + (rd t271 x27_1))) x8_1 x9_1 t271 (t271.length : Int) (wrap64 (x27_1 + 1)))) else (none)) else (none)) = some r := by rw [if_neg (show ¬ (false = true) by decide)] at H; exact H
                      clear H
                      have H := H1
                      clear H1
                      by_cases c20 : 0 ≤ x27_1
                      · rw [if_pos c20] at H
                        have c20b0 : decide (0 ≤ x27_1) = true := decide_eq_true c20
                        clear c20
                        by_cases c21 : x27_1 < (l1.length : Int)
                        · rw [if_pos c21] at H
                          have c21b0 : decide (x27_1 < (l1.length : Int)) = true := decide_eq_true c21
                          clear c21
                          by_cases c22 : ((rd_T70 l1 x27_1).f0) = 0
                          · rw [if_pos c22] at H
                            have c22b0 : (((rd_T70 l1 x27_1).f0) == 0) = true := beq_iff_eq.mpr c22
                            have c22b1 : (((rd_T70 l1 x27_1).f0) != 0) = false := bne_eq_false_iff_eq.mpr c22
                            clear c22
                            by_cases c23 : x9_1 = 0
                            · rw [if_pos c23] at H
                              have c23b0 : (x9_1 == 0) = true := beq_iff_eq.mpr c23
                              have c23b1 : (x9_1 != 0) = false := bne_eq_false_iff_eq.mpr c23
                              clear c23
                              have H' := Aside0.mk H
                              clear H
                              have p277 : 0 ≤ (x27_1 : Int) := of_decide_eq_true (by first | (with_reducible assumption) | assumption)
                              have q277 : x27_1 < (l1.length : Int) := of_decide_eq_true (by first | (with_reducible assumption) | assumption)
                              obtain ⟨ad277, e277, hx277_0, hx277_1⟩ := at_T70 HR1.out x27_1 p277 q277
                              cases e277
                              replace hx277_0 := (HB.out.cell (World.block_lt_of_cell? w _ hx277_0)).trans hx277_0
                              replace hx277_1 := (HB.out.cell (World.block_lt_of_cell? w _ hx277_1)).trans hx277_1
                              replace p277 := eq_true p277
                              replace q277 := eq_true q277
                              go_wp2
                              go_roundg kj12
                              case measure => have := HK1.out; have := HJ12.out; omega
                              case rel => exact ⟨((wrap64 (x7_1 + (rd t271 x27_1)))), ((rd t271 x27_1)), ((rd t271 x27_1)), (wrap64 (x27_1 + 1)), (by first | rfl | (simp; done) | (simp [*]; done)), (by first | rfl | (simp; done) | (simp [*]; done)), (by first | rfl | (simp; done) | (simp [*]; done)), (by first | rfl | (simp; done) | (simp [*]; done)), H', ⟨by have := HK1.out; have := HJ12.out; omega⟩, ⟨by (with_reducible repeat (first | apply Kd.R_alloc | apply Kd.R_drewN | apply Kd.R_drew)); exact HO_5.out⟩, ⟨by (with_reducible repeat (first | apply Kd.R_alloc | apply Kd.R_drewN | apply Kd.R_drew)); exact HO_25.out⟩, ⟨by repeat (first | (with_reducible first | exact HB.out | apply below_alloc | apply pw_below_drewN | apply below_drew1) | exact HB.out)⟩⟩
                            · rw [if_neg c23] at H
                              have c23b0 : (x9_1 == 0) = false := beq_eq_false_iff_ne.mpr c23
                              have c23b1 : (x9_1 != 0) = true := bne_iff_ne.mpr c23
                              have H' := Aside0.mk H
                              clear H
                              have p277 : 0 ≤ (x27_1 : Int) := of_decide_eq_true (by first | (with_reducible assumption) | assumption)
                              have q277 : x27_1 < (l1.length : Int) := of_decide_eq_true (by first | (with_reducible assumption) | assumption)
                              obtain ⟨ad277, e277, hx277_0, hx277_1⟩ := at_T70 HR1.out x27_1 p277 q277
                              cases e277
                              replace hx277_0 := (HB.out.cell (World.block_lt_of_cell? w _ hx277_0)).trans hx277_0
                              replace hx277_1 := (HB.out.cell (World.block_lt_of_cell? w _ hx277_1)).trans hx277_1
                              replace p277 := eq_true p277
                              replace q277 := eq_true q277
                              go_wp2
                              go_roundg kj12
                              case measure => have := HK1.out; have := HJ12.out; omega
                              case rel => exact ⟨((wrap64 (x7_1 + (rd t271 x27_1)))), ((rd t271 x27_1)), (x9_1), (wrap64 (x27_1 + 1)), (by first | rfl | (simp; done) | (simp [*]; done)), (by first | rfl | (simp; done) | (simp [*]; done)), (by first | rfl | (simp; done) | (simp [*]; done)), (by first | rfl | (simp; done) | (simp [*]; done)), H', ⟨by have := HK1.out; have := HJ12.out; omega⟩, ⟨by (with_reducible repeat (first | apply Kd.R_alloc | apply Kd.R_drewN | apply Kd.R_drew)); exact HO_5.out⟩, ⟨by (with_reducible repeat (first | apply Kd.R_alloc | apply Kd.R_drewN | apply Kd.R_drew)); exact HO_25.out⟩, ⟨by repeat (first | (with_reducible first | exact HB.out | apply below_alloc | apply pw_below_drewN | apply below_drew1) | exact HB.out)⟩⟩
                          · rw [if_neg c22] at H
                            have c22b0 : (((rd_T70 l1 x27_1).f0) == 0) = false := beq_eq_false_iff_ne.mpr c22
                            have c22b1 : (((rd_T70 l1 x27_1).f0) != 0) = true := bne_iff_ne.mpr c22
                            have H' := Aside0.mk H
                            clear H
                            have p277 : 0 ≤ (x27_1 : Int) := of_decide_eq_true (by first | (with_reducible assumption) | assumption)
                            have q277 : x27_1 < (l1.length : Int) := of_decide_eq_true (by first | (with_reducible assumption) | assumption)
                            obtain ⟨ad277, e277, hx277_0, hx277_1⟩ := at_T70 HR1.out x27_1 p277 q277
                            cases e277
                            replace hx277_0 := (HB.out.cell (World.block_lt_of_cell? w _ hx277_0)).trans hx277_0
                            replace hx277_1 := (HB.out.cell (World.block_lt_of_cell? w _ hx277_1)).trans hx277_1
                            replace p277 := eq_true p277
                            replace q277 := eq_true q277
                            go_wp2
                            go_roundg kj12
                            case measure => have := HK1.out; have := HJ12.out; omega
                            case rel => exact ⟨((wrap64 (x7_1 + (rd t271 x27_1)))), (x8_1), (x9_1), (wrap64 (x27_1 + 1)), (by first | rfl | (simp; done) | (simp [*]; done)), (by first | rfl | (simp; done) | (simp [*]; done)), (by first | rfl | (simp; done) | (simp [*]; done)), (by first | rfl | (simp; done) | (simp [*]; done)), H', ⟨by have := HK1.out; have := HJ12.out; omega⟩, ⟨by (with_reducible repeat (first | apply Kd.R_alloc | apply Kd.R_drewN | apply Kd.R_drew)); exact HO_5.out⟩, ⟨by (with_reducible repeat (first | apply Kd.R_alloc | apply Kd.R_drewN | apply Kd.R_drew)); exact HO_25.out⟩, ⟨by repeat (first | (with_reducible first | exact HB.out | apply below_alloc | apply pw_below_drewN | apply below_drew1) | exact HB.out)⟩⟩
                        · rw [if_neg c21] at H
                          exact absurd H (by simp)
                      · rw [if_neg c20] at H
                        exact absurd H (by simp)
              · rw [if_neg c12] at H
                exact absurd H (by simp)
            · rw [if_neg c11] at H
              exact absurd H (by simp)
          · rw [if_neg c10] at H
            have c10b0 : decide (x27_1 < (t271.length : Int)) = false := decide_eq_false c10
            clear c10
            by_cases c24 : x7_1 = a0
            · rw [if_pos c24] at H
              have c24b0 : (x7_1 == a0) = true := beq_iff_eq.mpr c24
              have c24b1 : (x7_1 != a0) = false := bne_eq_false_iff_eq.mpr c24
              clear c24
              obtain rfl := Option.some.inj H
              go_wp2
              go_ret
              exact ⟨by first | rfl | (simp [errW_none, errW_some] <;> rfl) | (simp [*, errW_none, errW_some] <;> rfl), by repeat (first | (with_reducible first | exact HB.out | apply below_alloc | apply pw_below_drewN | apply below_drew1) | exact HB.out)⟩
            · rw [if_neg c24] at H
              have c24b0 : (x7_1 == a0) = false := beq_eq_false_iff_ne.mpr c24
              have c24b1 : (x7_1 != a0) = true := bne_iff_ne.mpr c24
              exact absurd ((Option.some.inj H).trans HRT.out) (by decide)
    · rw [if_neg c6] at H
      have c6b0 : (t272 == 0) = false := beq_eq_false_iff_ne.mpr c6
      have c6b1 : (t272 != 0) = true := bne_iff_ne.mpr c6
      obtain rfl := Option.some.inj H
      go_enter Try.func9, Try.ntmps9
      go_wp2_with (first | ((with_reducible refine gate_callee (f := 38) rfl ?_); refine goesL_ (some 12) rfl rfl Try.func38 (by kernel_rfl) rfl #[] rfl (by (try simp only [List.map_toArray, List.map_cons, List.map_nil]); first | done | rfl | (simp only [List.length_drop, List.length_take]; rfl)) ?_; (with_reducible refine (casementlaw09_alive.calls k  true _ A3.out (by first | rfl | assumption)).mono ?_); rintro e w25 ⟨rfl, hb⟩; refine ⟨_, rfl, ?_⟩; have n0_ := Aside0.mk (below_step (by repeat (first | (with_reducible first | exact HB.out | apply below_alloc | apply pw_below_drewN | apply below_drew1) | exact HB.out)) hb); clear HB; have HB := n0_; clear n0_; (try clear hb); (try clear hb2); (try clear hk); (try clear hi)) | ((with_reducible refine gate_callee (f := 39) rfl ?_); refine goesL_ (some 17) rfl rfl Try.func39 (by kernel_rfl) rfl #[.int .i64 a0, .slice A1 l1.length c1] rfl (by (try simp only [List.map_toArray, List.map_cons, List.map_nil]); first | done | rfl | (simp only [List.length_drop, List.length_take]; rfl)) ?_; (with_reducible refine (solve_Share.calls k a0 _ _ l1 t271 t272 _ ?side1 ?side2 A5.out).mono ?_); (case side1 => repeat (first | exact (Kd.C_below HR1.out HB.out) | (with_reducible refine Kd.C_alloc ?_ _) | (with_reducible refine Kd.C_drewN ?_ _) | (with_reducible refine Kd.C_drew ?_))); (case side2 => exact HC1.out); rintro e w26 ⟨v273, rfl, ho0, hb⟩; refine ⟨_, rfl, ?_⟩; have n0_ := Aside0.mk (Kd.R_lower ho0 (below_size (by repeat (first | (with_reducible first | exact HB.out | apply below_alloc | apply pw_below_drewN | apply below_drew1) | exact HB.out)))); have n1_ := Aside0.mk (below_step (by repeat (first | (with_reducible first | exact HB.out | apply below_alloc | apply pw_below_drewN | apply below_drew1) | exact HB.out)) hb); clear HB; have HO274 := n0_; have HB := n1_; clear n0_ n1_; (try clear hb); (try clear hb2); (try clear hk); (try clear hi); (try clear ho0); obtain ⟨Ao27, co27, eo27⟩ := Kd.R_slice HO274.out; subst eo27))
      go_ret
      exact ⟨by first | rfl | (simp [errW_none, errW_some] <;> rfl) | (simp [*, errW_none, errW_some] <;> rfl), by repeat (first | (with_reducible first | exact HB.out | apply below_alloc | apply pw_below_drewN | apply below_drew1) | exact HB.out)⟩
  · replace c4 := Bool.eq_false_iff.mpr c4
    subst c4
    have H1 : (some false) = some r := by rw [if_neg (show ¬ (false = true) by decide)] at H; exact H
    clear H
    have H := H1
    clear H1
    exact absurd ((Option.some.inj H).trans HRT.out) (by decide)

def casementlaw09_SolveFills.Pure : Prop := ∀ (a0 : Int) (l1 : List (S70)), ((Lit.int .i64 a0).wf = true) → l1.length ≤ maxLen → l1.length * 16 ≤ 140737488351232 → (∀ y_ ∈ l1, okS70 y_) → ∃ k, casementlaw09_SolveFills.f k a0 l1 = some true
theorem casementlaw09_SolveFills.walk (P : casementlaw09_SolveFills.Pure) (a0 : Int) (A1 : Option Addr) (c1 : Nat) (l1 : List (S70)) (w : World) (wl0 : ((Lit.int .i64 a0).wf = true)) (wl1 : l1.length ≤ maxLen) (wl2 : l1.length * 16 ≤ 140737488351232) (wl3 : (∀ y_ ∈ l1, okS70 y_)) (hr1 : Kd.C k70 w A1 l1.length l1) (hc1 : l1.length ≤ c1) :
    Calls Try.prog 9 #[.int .i64 a0, .slice A1 l1.length c1] w fun e w' => e = .returned (.bool true) ∧ Below w.heap.size w w' := by
  obtain ⟨k, h⟩ := P a0 l1 wl0 wl1 wl2 wl3
  refine (casementlaw09_SolveFills.calls k a0 _ _ l1 true w hr1 hc1 h rfl).mono ?_
  rintro e w' ⟨rfl, hd⟩
  exact ⟨rfl, hd⟩

end Go.Proofs.Ythllpilgfipkpaa.Q
