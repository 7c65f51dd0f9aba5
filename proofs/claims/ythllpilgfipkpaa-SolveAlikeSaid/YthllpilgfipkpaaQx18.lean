-- written by a program of this session after the way of the kit's print; not the kit's own print. Lean checks it.
import Derived.Test.YthllpilgfipkpaaQx0
import Derived.Test.YthllpilgfipkpaaQx7
import Derived.Test.YthllpilgfipkpaaQx9
namespace Go.Proofs.Ythllpilgfipkpaa.Q
open Go.RowKit Go.Proofs.YthllpilgfipkpaaW.PrintWords Go.Proofs.YthllpilgfipkpaaW.PrintLast Go.Proofs.YthllpilgfipkpaaW.PrintMore
attribute [local go_sem] max2_int min2_int max_two min_two max_three min_three max_four min_four   -- for this text's walks alone
set_option linter.unusedVariables false
set_option linter.unusedSimpArgs false

/-! ### casementlaw09_SolveAlike: function 11 -/
mutual
def casementlaw09_SolveAlike.j0 : Nat → Int → Int → Int → Bool → Option (Bool)
  | 0, _, _, _, _ => none
  | k + 1, x0, x1, x2, x28 => if x28 = true then (if 0 ≤ x1 then (if (x1 : Int).toNat ≤ 17592186044416 then ((solve_Share.f k x0 (List.replicate (x1 : Int).toNat z70)).bind fun bt302 => (if bt302.2 = 90 then (if x0 < x1 then (some true) else (if bt302.2 = 1 then (some (decide (x0 > 200))) else (some false))) else (if bt302.2 = 1 then (some (decide (x0 > 200))) else (some false)))) else (none)) else (none)) else (if 0 ≤ x1 then (if (x1 : Int).toNat ≤ 17592186044416 then ((solve_Share.f k x0 (List.replicate (x1 : Int).toNat z70)).bind fun bt309 => (if bt309.2 = 0 then (casementlaw09_SolveAlike.j1 k x0 x1 x2 bt309.1 ((bt309.1.length : Int) != x1)) else (casementlaw09_SolveAlike.j1 k x0 x1 x2 bt309.1 true))) else (none)) else (none))
def casementlaw09_SolveAlike.j1 : Nat → Int → Int → Int → List Int → Bool → Option (Bool)
  | 0, _, _, _, _, _ => none
  | k + 1, x0, x1, x2, x9, x65 => if x65 = true then (some false) else (casementlaw09_SolveAlike.l0 k x0 x1 x2 x9 (x9.length : Int) 0)
def casementlaw09_SolveAlike.l0 : Nat → Int → Int → Int → List Int → Int → Int → Option (Bool)
  | 0, _, _, _, _, _, _ => none
  | k + 1, x0, x1, x2, x9, x67, x68 => if x68 < x67 then (if x1 = 0 then (none) else (if x68 < (Int.tmod x0 x1) then (if 0 ≤ x68 then (if x68 < (x9.length : Int) then (if (rd x9 x68) = (wrap64 ((wrap64 (Int.tdiv x0 x1)) + 1)) then (casementlaw09_SolveAlike.l0 k x0 x1 x2 x9 x67 (wrap64 (x68 + 1))) else (some false)) else (none)) else (none)) else (if 0 ≤ x68 then (if x68 < (x9.length : Int) then (if (rd x9 x68) = (wrap64 (Int.tdiv x0 x1)) then (casementlaw09_SolveAlike.l0 k x0 x1 x2 x9 x67 (wrap64 (x68 + 1))) else (some false)) else (none)) else (none)))) else (if x0 < 2 then (some true) else ((solve_Share.f k x0 (([(⟨1, wrap64 (1 + (Go.bits .and .i64 x2 127))⟩ : S70), (⟨0, 0⟩ : S70)] : List (S70)))).bind fun bt318 => ((solve_Share.f k x0 (([(⟨0, 0⟩ : S70), (⟨2, 100⟩ : S70)] : List (S70)))).bind fun bt325 => (if bt318.2 = 0 then (if bt325.2 = 0 then (if (bt318.1.length : Int) = 2 then (if (bt325.1.length : Int) = 2 then (if 0 < (bt318.1.length : Int) then (if (rd bt318.1 0) = (mn (wrap64 (1 + (Go.bits .and .i64 x2 127))) (wrap64 (x0 - 1))) then (if 1 < (bt318.1.length : Int) then (if (rd bt318.1 1) = (wrap64 (x0 - (rd bt318.1 0))) then (if 0 < (bt325.1.length : Int) then (if (rd bt325.1 0) = 1 then (if 1 < (bt325.1.length : Int) then (some ((rd bt325.1 1) == (wrap64 (x0 - 1)))) else (none)) else (some false)) else (none)) else (some false)) else (none)) else (some false)) else (none)) else (some false)) else (some false)) else (some false)) else (some false)))))
end
def casementlaw09_SolveAlike.f (k : Nat) (a0 : Int) (a1 : Int) (a2 : Int) : Option (Bool) := (casementlaw09_alive.f k).bind fun t298 => (if t298 = true then (if a0 < (wrap64 (1 + (Go.bits .and .i64 a1 15))) then (casementlaw09_SolveAlike.j0 k a0 (wrap64 (1 + (Go.bits .and .i64 a1 15))) a2 true) else (casementlaw09_SolveAlike.j0 k a0 (wrap64 (1 + (Go.bits .and .i64 a1 15))) a2 (decide (a0 > 200)))) else (some false))
theorem casementlaw09_SolveAlike.mono_l : ∀ k, (∀ y0 y1 y2 y3, LeO (casementlaw09_SolveAlike.j0 k y0 y1 y2 y3) (casementlaw09_SolveAlike.j0 (k + 1) y0 y1 y2 y3)) ∧ (∀ y0 y1 y2 y3 y4, LeO (casementlaw09_SolveAlike.j1 k y0 y1 y2 y3 y4) (casementlaw09_SolveAlike.j1 (k + 1) y0 y1 y2 y3 y4)) ∧ (∀ y0 y1 y2 y3 y4 y5, LeO (casementlaw09_SolveAlike.l0 k y0 y1 y2 y3 y4 y5) (casementlaw09_SolveAlike.l0 (k + 1) y0 y1 y2 y3 y4 y5))
  | 0 => ⟨fun _ _ _ _ r h => by simp [casementlaw09_SolveAlike.j0] at h, fun _ _ _ _ _ r h => by simp [casementlaw09_SolveAlike.j1] at h, fun _ _ _ _ _ _ r h => by simp [casementlaw09_SolveAlike.l0] at h⟩
  | k + 1 => by
    obtain ⟨ih0, ih1, ih2⟩ := casementlaw09_SolveAlike.mono_l k
    refine ⟨?_, ?_, ?_⟩
    · intro y0 y1 y2 y3
      unfold casementlaw09_SolveAlike.j0
      repeat' first
      | (with_reducible exact ih0 _ _ _ _)
      | (with_reducible exact ih1 _ _ _ _ _)
      | (with_reducible exact ih2 _ _ _ _ _ _)
      | (with_reducible exact casementlaw09_alive.mono _)
      | (with_reducible exact solve_Share.mono _ _ _)
      | (with_reducible exact LeO.refl _)
      | (with_reducible exact LeO.none _)
      | (with_reducible refine LeO.ite ?_ ?_)
      | (with_reducible refine LeO.bind ?_ (fun _ => ?_))
      | exact ih0 _ _ _ _
      | exact ih1 _ _ _ _ _
      | exact ih2 _ _ _ _ _ _
      | exact casementlaw09_alive.mono _
      | exact solve_Share.mono _ _ _
      | exact LeO.none _
      | refine LeO.ite ?_ ?_
      | refine LeO.bind ?_ (fun _ => ?_)
    · intro y0 y1 y2 y3 y4
      unfold casementlaw09_SolveAlike.j1
      repeat' first
      | (with_reducible exact ih0 _ _ _ _)
      | (with_reducible exact ih1 _ _ _ _ _)
      | (with_reducible exact ih2 _ _ _ _ _ _)
      | (with_reducible exact casementlaw09_alive.mono _)
      | (with_reducible exact solve_Share.mono _ _ _)
      | (with_reducible exact LeO.refl _)
      | (with_reducible exact LeO.none _)
      | (with_reducible refine LeO.ite ?_ ?_)
      | (with_reducible refine LeO.bind ?_ (fun _ => ?_))
      | exact ih0 _ _ _ _
      | exact ih1 _ _ _ _ _
      | exact ih2 _ _ _ _ _ _
      | exact casementlaw09_alive.mono _
      | exact solve_Share.mono _ _ _
      | exact LeO.none _
      | refine LeO.ite ?_ ?_
      | refine LeO.bind ?_ (fun _ => ?_)
    · intro y0 y1 y2 y3 y4 y5
      unfold casementlaw09_SolveAlike.l0
      repeat' first
      | (with_reducible exact ih0 _ _ _ _)
      | (with_reducible exact ih1 _ _ _ _ _)
      | (with_reducible exact ih2 _ _ _ _ _ _)
      | (with_reducible exact casementlaw09_alive.mono _)
      | (with_reducible exact solve_Share.mono _ _ _)
      | (with_reducible exact LeO.refl _)
      | (with_reducible exact LeO.none _)
      | (with_reducible refine LeO.ite ?_ ?_)
      | (with_reducible refine LeO.bind ?_ (fun _ => ?_))
      | exact ih0 _ _ _ _
      | exact ih1 _ _ _ _ _
      | exact ih2 _ _ _ _ _ _
      | exact casementlaw09_alive.mono _
      | exact solve_Share.mono _ _ _
      | exact LeO.none _
      | refine LeO.ite ?_ ?_
      | refine LeO.bind ?_ (fun _ => ?_)
theorem casementlaw09_SolveAlike.mono : ∀ a0 a1 a2 k, LeO (casementlaw09_SolveAlike.f k a0 a1 a2) (casementlaw09_SolveAlike.f (k + 1) a0 a1 a2) := by
  intro a0 a1 a2 k
  obtain ⟨ih0, ih1, ih2⟩ := casementlaw09_SolveAlike.mono_l k
  unfold casementlaw09_SolveAlike.f
  repeat' first
      | (with_reducible exact ih0 _ _ _ _)
      | (with_reducible exact ih1 _ _ _ _ _)
      | (with_reducible exact ih2 _ _ _ _ _ _)
      | (with_reducible exact casementlaw09_alive.mono _)
      | (with_reducible exact solve_Share.mono _ _ _)
      | (with_reducible exact LeO.refl _)
      | (with_reducible exact LeO.none _)
      | (with_reducible refine LeO.ite ?_ ?_)
      | (with_reducible refine LeO.bind ?_ (fun _ => ?_))
      | exact ih0 _ _ _ _
      | exact ih1 _ _ _ _ _
      | exact ih2 _ _ _ _ _ _
      | exact casementlaw09_alive.mono _
      | exact solve_Share.mono _ _ _
      | exact LeO.none _
      | refine LeO.ite ?_ ?_
      | refine LeO.bind ?_ (fun _ => ?_)
set_option maxHeartbeats 8000000 in
set_option maxRecDepth 100000 in
theorem casementlaw09_SolveAlike.calls (k : Nat) (a0 : Int) (a1 : Int) (a2 : Int) (r : Bool) (w : World) (h : casementlaw09_SolveAlike.f k a0 a1 a2 = some r) (hr : r = true) :
    Calls Try.prog 11 #[.int .i64 a0, .int .i64 a1, .int .i64 a2] w fun e w' => e = .returned (.bool r) ∧ Below w.heap.size w w' := by
  have hu70 := Try.underlying70
  have HRT := Aside0.mk hr
  clear hr
  have HB := Aside0.mk (Below.refl w.heap.size w)
  have H : ((casementlaw09_alive.f k).bind fun t298 => (if t298 = true then (if a0 < (wrap64 (1 + (Go.bits .and .i64 a1 15))) then (casementlaw09_SolveAlike.j0 k a0 (wrap64 (1 + (Go.bits .and .i64 a1 15))) a2 true) else (casementlaw09_SolveAlike.j0 k a0 (wrap64 (1 + (Go.bits .and .i64 a1 15))) a2 (decide (a0 > 200)))) else (some false))) = some r := h
  clear h
  replace H := Option.bind_eq_some_iff.mp H
  obtain ⟨t298, A40, H⟩ := H
  replace H : (if t298 = true then (if a0 < (wrap64 (1 + (Go.bits .and .i64 a1 15))) then (casementlaw09_SolveAlike.j0 k a0 (wrap64 (1 + (Go.bits .and .i64 a1 15))) a2 true) else (casementlaw09_SolveAlike.j0 k a0 (wrap64 (1 + (Go.bits .and .i64 a1 15))) a2 (decide (a0 > 200)))) else (some false)) = some r := H
  have A4 := Aside0.mk A40
  clear A40
  by_cases c5 : t298 = true
  · subst c5
    have H1 : (if a0 < (wrap64 (1 + (Go.bits .and .i64 a1 15))) then (casementlaw09_SolveAlike.j0 k a0 (wrap64 (1 + (Go.bits .and .i64 a1 15))) a2 true) else (casementlaw09_SolveAlike.j0 k a0 (wrap64 (1 + (Go.bits .and .i64 a1 15))) a2 (decide (a0 > 200)))) = some r := by rw [if_pos rfl] at H; exact H
    clear H
    have H := H1
    clear H1
    have HC6 := Aside0.mk H
    clear H
    go_enter Try.func11, Try.ntmps11
    go_upto_region 4 with (first | (go_at_call 38; (with_reducible refine (casementlaw09_alive.calls k  true _ A4.out (by first | rfl | assumption)).mono ?_); rintro e w7 ⟨rfl, hb⟩; have n0_ := Aside0.mk (below_step (by repeat (first | (with_reducible first | exact HB.out | apply below_alloc | apply pw_below_drewN | apply below_drew1) | exact HB.out)) hb); clear HB; have HB := n0_; clear n0_; (try clear hb); (try clear hb2); (try clear hk); (try clear hi)))
    repeat (go_quiet (first | (go_at_call 38; (with_reducible refine (casementlaw09_alive.calls k  true _ A4.out (by first | rfl | assumption)).mono ?_); rintro e w7 ⟨rfl, hb⟩; have n0_ := Aside0.mk (below_step (by repeat (first | (with_reducible first | exact HB.out | apply below_alloc | apply pw_below_drewN | apply below_drew1) | exact HB.out)) hb); clear HB; have HB := n0_; clear n0_; (try clear hb); (try clear hb2); (try clear hk); (try clear hi))); go_upto_region 4 with (first | (go_at_call 38; (with_reducible refine (casementlaw09_alive.calls k  true _ A4.out (by first | rfl | assumption)).mono ?_); rintro e w7 ⟨rfl, hb⟩; have n0_ := Aside0.mk (below_step (by repeat (first | (with_reducible first | exact HB.out | apply below_alloc | apply pw_below_drewN | apply below_drew1) | exact HB.out)) hb); clear HB; have HB := n0_; clear n0_; (try clear hb); (try clear hb2); (try clear hk); (try clear hi))))
    (try simp only [Act.put, List.setIfInBounds_toArray, List.set_cons_zero, List.set_cons_succ])
    go_cut [28] (fun v28 wc => ∃ (kq : Nat) (x28_5 : Bool), v28 = .bool x28_5 ∧ Aside0 (casementlaw09_SolveAlike.j0 kq a0 (wrap64 (1 + (Go.bits .and .i64 a1 15))) a2 x28_5 = some r) ∧ Aside0 (kq ≤ k) ∧ Aside0 (Below w.heap.size w wc))
    case first =>
      have H := HC6.out
      clear HC6
      by_cases c8 : a0 < (wrap64 (1 + (Go.bits .and .i64 a1 15)))
      · rw [if_pos c8] at H
        have c8b0 : decide (a0 < (wrap64 (1 + (Go.bits .and .i64 a1 15)))) = true := decide_eq_true c8
        clear c8
        (first | rw [c8b0] | (simp only [i64_w, i32_w]; rw [c8b0]) | skip)
        have H' := Aside0.mk H
        clear H
        go_wp2
        repeat (go_quiet (fail); try go_wp2)
        go_meet
        case rel => exact ⟨_, (true), (by first | rfl | (simp; done) | (simp [*]; done)), H', ⟨by first | omega | exact Nat.le_refl _⟩, ⟨by repeat (first | (with_reducible first | exact HB.out | apply below_alloc | apply pw_below_drewN | apply below_drew1) | exact HB.out)⟩⟩
      · rw [if_neg c8] at H
        have c8b0 : decide (a0 < (wrap64 (1 + (Go.bits .and .i64 a1 15)))) = false := decide_eq_false c8
        clear c8
        (first | rw [c8b0] | (simp only [i64_w, i32_w]; rw [c8b0]) | skip)
        have H' := Aside0.mk H
        clear H
        go_wp2
        repeat (go_quiet (fail); try go_wp2)
        go_meet
        case rel => exact ⟨_, (decide (a0 > 200)), (by first | rfl | (simp; done) | (simp [*]; done)), H', ⟨by first | omega | exact Nat.le_refl _⟩, ⟨by repeat (first | (with_reducible first | exact HB.out | apply below_alloc | apply pw_below_drewN | apply below_drew1) | exact HB.out)⟩⟩
    case rest =>
      clear HC6
      try clear c1
      try clear p2
      try clear c5
      try clear p6
      try clear c8
      try clear c8b0
      obtain ⟨kq, x28_5, rfl, HA, HJ5, HB⟩ := hcut
      cases kq with
      | zero => exact absurd HA.out (by simp [casementlaw09_SolveAlike.j0])
      | succ kj5 =>
        have H := HA.out
        clear HA
        simp only [casementlaw09_SolveAlike.j0] at H
        by_cases c9 : x28_5 = true
        · subst c9
          have H1 : (if 0 ≤ (wrap64 (1 + (Go.bits .and .i64 a1 15))) then (if ((wrap64 (1 + (Go.bits .and .i64 a1 15))) : Int).toNat ≤ 17592186044416 then ((solve_Share.f kj5 a0 (List.replicate ((wrap64 (1 + (Go.bits .and .i64 a1 15))) : Int).toNat z70)).bind fun bt302 => (if bt302.2 = 90 then (if a0 < (wrap64 (1 + (Go.bits .and .i64 a1 15))) then (some true) else (if bt302.2 = 1 then (some (decide (a0 > 200))) else (some false))) else (if bt302.2 = 1 then (some (decide (a0 > 200))) else (some false)))) else (none)) else (none)) = some r := by rw [if_pos rfl] at H; exact H
          clear H
          have H := H1
          clear H1
          obtain ⟨ji10, hji10⟩ : ∃ j_ : Int, (wrap64 (1 + (Go.bits .and .i64 a1 15))) = j_ := ⟨_, rfl⟩
          replace H : (if 0 ≤ (ji10) then (if ((ji10) : Int).toNat ≤ 17592186044416 then ((solve_Share.f kj5 a0 (List.replicate ((ji10) : Int).toNat z70)).bind fun bt302 => (if bt302.2 = 90 then (if a0 < (ji10) then (some true) else (if bt302.2 = 1 then (some (decide (a0 > 200))) else (some false))) else (if bt302.2 = 1 then (some (decide (a0 > 200))) else (some false)))) else (none)) else (none)) = some r := by first | (rw [hji10] at H; exact H) | (simp only [hji10] at H ⊢; exact H)
          have hji10w : (IntKind.i64.wrap (1 + (Go.bits .and .i64 a1 15))) = ji10 := (i64_w _).trans hji10
          by_cases c11 : 0 ≤ (ji10)
          · rw [if_pos c11] at H
            have c11b0 := eq_true c11
            have c11b1 : decide (0 ≤ (ji10)) = true := decide_eq_true c11
            clear c11
            by_cases c12 : ((ji10) : Int).toNat ≤ 17592186044416
            · rw [if_pos c12] at H
              have c12b0 := eq_true c12
              have c12b1 : decide (((ji10) : Int).toNat ≤ 17592186044416) = true := decide_eq_true c12
              clear c12
              obtain ⟨y299, hy299⟩ : ∃ y_ : List (S70), y_ = (List.replicate ((ji10) : Int).toNat z70) := ⟨_, rfl⟩
              replace H : ((solve_Share.f kj5 a0 y299).bind fun bt302 => (if bt302.2 = 90 then (if a0 < (ji10) then (some true) else (if bt302.2 = 1 then (some (decide (a0 > 200))) else (some false))) else (if bt302.2 = 1 then (some (decide (a0 > 200))) else (some false)))) = some r := by first | (rw [hy299]; with_reducible exact H) | (have H2_ := (Option.bind_some _ _).symm.trans H; rw [hy299]; with_reducible exact H2_) | (have H2_ := (Option.bind_some _ _).symm.trans H; with_reducible exact H2_) | with_reducible exact H | (rw [hy299]; exact H) | exact H
              have Ny299 := Aside0.mk hy299
              clear hy299
              replace H := Option.bind_eq_some_iff.mp H
              obtain ⟨⟨t302, t303⟩, A130, H⟩ := H
              replace H : (if t303 = 90 then (if a0 < (ji10) then (some true) else (if t303 = 1 then (some (decide (a0 > 200))) else (some false))) else (if t303 = 1 then (some (decide (a0 > 200))) else (some false))) = some r := H
              have A13 := Aside0.mk A130
              clear A130
              by_cases c14 : t303 = 90
              · rw [if_pos c14] at H
                have c14b0 : (t303 == 90) = true := beq_iff_eq.mpr c14
                have c14b1 : (t303 != 90) = false := bne_eq_false_iff_eq.mpr c14
                clear c14
                by_cases c15 : a0 < (ji10)
                · rw [if_pos c15] at H
                  have c15b0 : decide (a0 < (ji10)) = true := decide_eq_true c15
                  clear c15
                  obtain rfl := Option.some.inj H
                  go_wp2_with (first | ((with_reducible refine gate_dst (N := 32) rfl ?_); (try (refine gate_guard (by rfl) ?_; dsimp only)); refine Kd.R_make k70 _ 70 rfl (N := 32) rfl 62 _ _ rfl (ji10) (by first | rfl | exact congrArg (Value.int .i64) hji10) (by first | rfl | exact congrArg (Value.int .i64) hji10) Try.underlying62 (.agg #[(.int .i64 0), (.int .i64 0)]) 16 info70 rfl (by decide) (by omega) z70 (ok := fun _ => True) (okp := fun _ => True) (k70_mkM _ _ _ z70 ) (fun _ hk => hk) trivial (of_decide_eq_true (by first | (with_reducible assumption) | assumption)) (Nat.le_trans (Nat.mul_le_mul_right _ (of_decide_eq_true (by first | (with_reducible assumption) | assumption) : (ji10).toNat ≤ 17592186044416)) (by omega)) (Below.refl _ _) (Nat.le_refl _) ?_; intro v300 w16 ho17 hb hg_ hnew_; clear hg_ hnew_; (first | rw [← Ny299.out] at ho17 | (simp only [Int.reduceToNat] at ho17; rw [← Ny299.out] at ho17)); have n0_ := Aside0.mk (Kd.R_lower ho17 (below_size (by repeat (first | (with_reducible first | exact HB.out | apply below_alloc | apply pw_below_drewN | apply below_drew1) | exact HB.out)))); have n1_ := Aside0.mk (below_step (by repeat (first | (with_reducible first | exact HB.out | apply below_alloc | apply pw_below_drewN | apply below_drew1) | exact HB.out)) hb); clear HB; have HO301 := n0_; have HB := n1_; clear n0_ n1_; clear hb ho17; obtain ⟨Ao18, co18, eo18⟩ := Kd.R_slice HO301.out; subst eo18) | (go_at_call 39; (with_reducible refine (solve_Share.calls kj5 a0 _ _ y299 t302 t303 _ ?side1 ?side2 A13.out).mono ?_); (case side1 => repeat (first | exact (Kd.R_reads' HO301.out).2.2 | (with_reducible refine Kd.C_alloc ?_ _) | (with_reducible refine Kd.C_drewN ?_ _) | (with_reducible refine Kd.C_drew ?_))); (case side2 => exact (Kd.R_reads' HO301.out).2.1); rintro e w19 ⟨v304, rfl, ho0, hb⟩; have n0_ := Aside0.mk (Kd.R_below (by (with_reducible repeat (first | apply Kd.R_alloc | apply Kd.R_drewN | apply Kd.R_drew)); exact HO301.out) hb); have n1_ := Aside0.mk (Kd.R_lower ho0 (below_size (by repeat (first | (with_reducible first | exact HB.out | apply below_alloc | apply pw_below_drewN | apply below_drew1) | exact HB.out)))); have n2_ := Aside0.mk (below_step (by repeat (first | (with_reducible first | exact HB.out | apply below_alloc | apply pw_below_drewN | apply below_drew1) | exact HB.out)) hb); clear HO301; clear HB; have HO301 := n0_; have HO305 := n1_; have HB := n2_; clear n0_ n1_ n2_; (try clear hb); (try clear hb2); (try clear hk); (try clear hi); (try clear ho0)))
                  repeat (go_quiet (first | ((with_reducible refine gate_dst (N := 32) rfl ?_); (try (refine gate_guard (by rfl) ?_; dsimp only)); refine Kd.R_make k70 _ 70 rfl (N := 32) rfl 62 _ _ rfl (ji10) (by first | rfl | exact congrArg (Value.int .i64) hji10) (by first | rfl | exact congrArg (Value.int .i64) hji10) Try.underlying62 (.agg #[(.int .i64 0), (.int .i64 0)]) 16 info70 rfl (by decide) (by omega) z70 (ok := fun _ => True) (okp := fun _ => True) (k70_mkM _ _ _ z70 ) (fun _ hk => hk) trivial (of_decide_eq_true (by first | (with_reducible assumption) | assumption)) (Nat.le_trans (Nat.mul_le_mul_right _ (of_decide_eq_true (by first | (with_reducible assumption) | assumption) : (ji10).toNat ≤ 17592186044416)) (by omega)) (Below.refl _ _) (Nat.le_refl _) ?_; intro v300 w16 ho17 hb hg_ hnew_; clear hg_ hnew_; (first | rw [← Ny299.out] at ho17 | (simp only [Int.reduceToNat] at ho17; rw [← Ny299.out] at ho17)); have n0_ := Aside0.mk (Kd.R_lower ho17 (below_size (by repeat (first | (with_reducible first | exact HB.out | apply below_alloc | apply pw_below_drewN | apply below_drew1) | exact HB.out)))); have n1_ := Aside0.mk (below_step (by repeat (first | (with_reducible first | exact HB.out | apply below_alloc | apply pw_below_drewN | apply below_drew1) | exact HB.out)) hb); clear HB; have HO301 := n0_; have HB := n1_; clear n0_ n1_; clear hb ho17; obtain ⟨Ao18, co18, eo18⟩ := Kd.R_slice HO301.out; subst eo18) | (go_at_call 39; (with_reducible refine (solve_Share.calls kj5 a0 _ _ y299 t302 t303 _ ?side1 ?side2 A13.out).mono ?_); (case side1 => repeat (first | exact (Kd.R_reads' HO301.out).2.2 | (with_reducible refine Kd.C_alloc ?_ _) | (with_reducible refine Kd.C_drewN ?_ _) | (with_reducible refine Kd.C_drew ?_))); (case side2 => exact (Kd.R_reads' HO301.out).2.1); rintro e w19 ⟨v304, rfl, ho0, hb⟩; have n0_ := Aside0.mk (Kd.R_below (by (with_reducible repeat (first | apply Kd.R_alloc | apply Kd.R_drewN | apply Kd.R_drew)); exact HO301.out) hb); have n1_ := Aside0.mk (Kd.R_lower ho0 (below_size (by repeat (first | (with_reducible first | exact HB.out | apply below_alloc | apply pw_below_drewN | apply below_drew1) | exact HB.out)))); have n2_ := Aside0.mk (below_step (by repeat (first | (with_reducible first | exact HB.out | apply below_alloc | apply pw_below_drewN | apply below_drew1) | exact HB.out)) hb); clear HO301; clear HB; have HO301 := n0_; have HO305 := n1_; have HB := n2_; clear n0_ n1_ n2_; (try clear hb); (try clear hb2); (try clear hk); (try clear hi); (try clear ho0))); try go_wp2_with (first | ((with_reducible refine gate_dst (N := 32) rfl ?_); (try (refine gate_guard (by rfl) ?_; dsimp only)); refine Kd.R_make k70 _ 70 rfl (N := 32) rfl 62 _ _ rfl (ji10) (by first | rfl | exact congrArg (Value.int .i64) hji10) (by first | rfl | exact congrArg (Value.int .i64) hji10) Try.underlying62 (.agg #[(.int .i64 0), (.int .i64 0)]) 16 info70 rfl (by decide) (by omega) z70 (ok := fun _ => True) (okp := fun _ => True) (k70_mkM _ _ _ z70 ) (fun _ hk => hk) trivial (of_decide_eq_true (by first | (with_reducible assumption) | assumption)) (Nat.le_trans (Nat.mul_le_mul_right _ (of_decide_eq_true (by first | (with_reducible assumption) | assumption) : (ji10).toNat ≤ 17592186044416)) (by omega)) (Below.refl _ _) (Nat.le_refl _) ?_; intro v300 w16 ho17 hb hg_ hnew_; clear hg_ hnew_; (first | rw [← Ny299.out] at ho17 | (simp only [Int.reduceToNat] at ho17; rw [← Ny299.out] at ho17)); have n0_ := Aside0.mk (Kd.R_lower ho17 (below_size (by repeat (first | (with_reducible first | exact HB.out | apply below_alloc | apply pw_below_drewN | apply below_drew1) | exact HB.out)))); have n1_ := Aside0.mk (below_step (by repeat (first | (with_reducible first | exact HB.out | apply below_alloc | apply pw_below_drewN | apply below_drew1) | exact HB.out)) hb); clear HB; have HO301 := n0_; have HB := n1_; clear n0_ n1_; clear hb ho17; obtain ⟨Ao18, co18, eo18⟩ := Kd.R_slice HO301.out; subst eo18) | (go_at_call 39; (with_reducible refine (solve_Share.calls kj5 a0 _ _ y299 t302 t303 _ ?side1 ?side2 A13.out).mono ?_); (case side1 => repeat (first | exact (Kd.R_reads' HO301.out).2.2 | (with_reducible refine Kd.C_alloc ?_ _) | (with_reducible refine Kd.C_drewN ?_ _) | (with_reducible refine Kd.C_drew ?_))); (case side2 => exact (Kd.R_reads' HO301.out).2.1); rintro e w19 ⟨v304, rfl, ho0, hb⟩; have n0_ := Aside0.mk (Kd.R_below (by (with_reducible repeat (first | apply Kd.R_alloc | apply Kd.R_drewN | apply Kd.R_drew)); exact HO301.out) hb); have n1_ := Aside0.mk (Kd.R_lower ho0 (below_size (by repeat (first | (with_reducible first | exact HB.out | apply below_alloc | apply pw_below_drewN | apply below_drew1) | exact HB.out)))); have n2_ := Aside0.mk (below_step (by repeat (first | (with_reducible first | exact HB.out | apply below_alloc | apply pw_below_drewN | apply below_drew1) | exact HB.out)) hb); clear HO301; clear HB; have HO301 := n0_; have HO305 := n1_; have HB := n2_; clear n0_ n1_ n2_; (try clear hb); (try clear hb2); (try clear hk); (try clear hi); (try clear ho0))))
                  go_ret
                  exact ⟨by first | rfl | (simp [errW_none, errW_some] <;> rfl) | (simp only [← hji10]; first | rfl | (simp [errW_none, errW_some] <;> rfl)) | (simp [*, errW_none, errW_some] <;> rfl), by repeat (first | (with_reducible first | exact HB.out | apply below_alloc | apply pw_below_drewN | apply below_drew1) | exact HB.out)⟩
                · rw [if_neg c15] at H
                  have c15b0 : decide (a0 < (ji10)) = false := decide_eq_false c15
                  clear c15
                  by_cases c20 : t303 = 1
                  · rw [if_pos c20] at H
                    have c20b0 : (t303 == 1) = true := beq_iff_eq.mpr c20
                    have c20b1 : (t303 != 1) = false := bne_eq_false_iff_eq.mpr c20
                    clear c20
                    obtain rfl := Option.some.inj H
                    go_wp2_with (first | ((with_reducible refine gate_dst (N := 32) rfl ?_); (try (refine gate_guard (by rfl) ?_; dsimp only)); refine Kd.R_make k70 _ 70 rfl (N := 32) rfl 62 _ _ rfl (ji10) (by first | rfl | exact congrArg (Value.int .i64) hji10) (by first | rfl | exact congrArg (Value.int .i64) hji10) Try.underlying62 (.agg #[(.int .i64 0), (.int .i64 0)]) 16 info70 rfl (by decide) (by omega) z70 (ok := fun _ => True) (okp := fun _ => True) (k70_mkM _ _ _ z70 ) (fun _ hk => hk) trivial (of_decide_eq_true (by first | (with_reducible assumption) | assumption)) (Nat.le_trans (Nat.mul_le_mul_right _ (of_decide_eq_true (by first | (with_reducible assumption) | assumption) : (ji10).toNat ≤ 17592186044416)) (by omega)) (Below.refl _ _) (Nat.le_refl _) ?_; intro v300 w21 ho22 hb hg_ hnew_; clear hg_ hnew_; (first | rw [← Ny299.out] at ho22 | (simp only [Int.reduceToNat] at ho22; rw [← Ny299.out] at ho22)); have n0_ := Aside0.mk (Kd.R_lower ho22 (below_size (by repeat (first | (with_reducible first | exact HB.out | apply below_alloc | apply pw_below_drewN | apply below_drew1) | exact HB.out)))); have n1_ := Aside0.mk (below_step (by repeat (first | (with_reducible first | exact HB.out | apply below_alloc | apply pw_below_drewN | apply below_drew1) | exact HB.out)) hb); clear HB; have HO301 := n0_; have HB := n1_; clear n0_ n1_; clear hb ho22; obtain ⟨Ao23, co23, eo23⟩ := Kd.R_slice HO301.out; subst eo23) | (go_at_call 39; (with_reducible refine (solve_Share.calls kj5 a0 _ _ y299 t302 t303 _ ?side1 ?side2 A13.out).mono ?_); (case side1 => repeat (first | exact (Kd.R_reads' HO301.out).2.2 | (with_reducible refine Kd.C_alloc ?_ _) | (with_reducible refine Kd.C_drewN ?_ _) | (with_reducible refine Kd.C_drew ?_))); (case side2 => exact (Kd.R_reads' HO301.out).2.1); rintro e w24 ⟨v304, rfl, ho0, hb⟩; have n0_ := Aside0.mk (Kd.R_below (by (with_reducible repeat (first | apply Kd.R_alloc | apply Kd.R_drewN | apply Kd.R_drew)); exact HO301.out) hb); have n1_ := Aside0.mk (Kd.R_lower ho0 (below_size (by repeat (first | (with_reducible first | exact HB.out | apply below_alloc | apply pw_below_drewN | apply below_drew1) | exact HB.out)))); have n2_ := Aside0.mk (below_step (by repeat (first | (with_reducible first | exact HB.out | apply below_alloc | apply pw_below_drewN | apply below_drew1) | exact HB.out)) hb); clear HO301; clear HB; have HO301 := n0_; have HO305 := n1_; have HB := n2_; clear n0_ n1_ n2_; (try clear hb); (try clear hb2); (try clear hk); (try clear hi); (try clear ho0)))
                    repeat (go_quiet (first | ((with_reducible refine gate_dst (N := 32) rfl ?_); (try (refine gate_guard (by rfl) ?_; dsimp only)); refine Kd.R_make k70 _ 70 rfl (N := 32) rfl 62 _ _ rfl (ji10) (by first | rfl | exact congrArg (Value.int .i64) hji10) (by first | rfl | exact congrArg (Value.int .i64) hji10) Try.underlying62 (.agg #[(.int .i64 0), (.int .i64 0)]) 16 info70 rfl (by decide) (by omega) z70 (ok := fun _ => True) (okp := fun _ => True) (k70_mkM _ _ _ z70 ) (fun _ hk => hk) trivial (of_decide_eq_true (by first | (with_reducible assumption) | assumption)) (Nat.le_trans (Nat.mul_le_mul_right _ (of_decide_eq_true (by first | (with_reducible assumption) | assumption) : (ji10).toNat ≤ 17592186044416)) (by omega)) (Below.refl _ _) (Nat.le_refl _) ?_; intro v300 w21 ho22 hb hg_ hnew_; clear hg_ hnew_; (first | rw [← Ny299.out] at ho22 | (simp only [Int.reduceToNat] at ho22; rw [← Ny299.out] at ho22)); have n0_ := Aside0.mk (Kd.R_lower ho22 (below_size (by repeat (first | (with_reducible first | exact HB.out | apply below_alloc | apply pw_below_drewN | apply below_drew1) | exact HB.out)))); have n1_ := Aside0.mk (below_step (by repeat (first | (with_reducible first | exact HB.out | apply below_alloc | apply pw_below_drewN | apply below_drew1) | exact HB.out)) hb); clear HB; have HO301 := n0_; have HB := n1_; clear n0_ n1_; clear hb ho22; obtain ⟨Ao23, co23, eo23⟩ := Kd.R_slice HO301.out; subst eo23) | (go_at_call 39; (with_reducible refine (solve_Share.calls kj5 a0 _ _ y299 t302 t303 _ ?side1 ?side2 A13.out).mono ?_); (case side1 => repeat (first | exact (Kd.R_reads' HO301.out).2.2 | (with_reducible refine Kd.C_alloc ?_ _) | (with_reducible refine Kd.C_drewN ?_ _) | (with_reducible refine Kd.C_drew ?_))); (case side2 => exact (Kd.R_reads' HO301.out).2.1); rintro e w24 ⟨v304, rfl, ho0, hb⟩; have n0_ := Aside0.mk (Kd.R_below (by (with_reducible repeat (first | apply Kd.R_alloc | apply Kd.R_drewN | apply Kd.R_drew)); exact HO301.out) hb); have n1_ := Aside0.mk (Kd.R_lower ho0 (below_size (by repeat (first | (with_reducible first | exact HB.out | apply below_alloc | apply pw_below_drewN | apply below_drew1) | exact HB.out)))); have n2_ := Aside0.mk (below_step (by repeat (first | (with_reducible first | exact HB.out | apply below_alloc | apply pw_below_drewN | apply below_drew1) | exact HB.out)) hb); clear HO301; clear HB; have HO301 := n0_; have HO305 := n1_; have HB := n2_; clear n0_ n1_ n2_; (try clear hb); (try clear hb2); (try clear hk); (try clear hi); (try clear ho0))); try go_wp2_with (first | ((with_reducible refine gate_dst (N := 32) rfl ?_); (try (refine gate_guard (by rfl) ?_; dsimp only)); refine Kd.R_make k70 _ 70 rfl (N := 32) rfl 62 _ _ rfl (ji10) (by first | rfl | exact congrArg (Value.int .i64) hji10) (by first | rfl | exact congrArg (Value.int .i64) hji10) Try.underlying62 (.agg #[(.int .i64 0), (.int .i64 0)]) 16 info70 rfl (by decide) (by omega) z70 (ok := fun _ => True) (okp := fun _ => True) (k70_mkM _ _ _ z70 ) (fun _ hk => hk) trivial (of_decide_eq_true (by first | (with_reducible assumption) | assumption)) (Nat.le_trans (Nat.mul_le_mul_right _ (of_decide_eq_true (by first | (with_reducible assumption) | assumption) : (ji10).toNat ≤ 17592186044416)) (by omega)) (Below.refl _ _) (Nat.le_refl _) ?_; intro v300 w21 ho22 hb hg_ hnew_; clear hg_ hnew_; (first | rw [← Ny299.out] at ho22 | (simp only [Int.reduceToNat] at ho22; rw [← Ny299.out] at ho22)); have n0_ := Aside0.mk (Kd.R_lower ho22 (below_size (by repeat (first | (with_reducible first | exact HB.out | apply below_alloc | apply pw_below_drewN | apply below_drew1) | exact HB.out)))); have n1_ := Aside0.mk (below_step (by repeat (first | (with_reducible first | exact HB.out | apply below_alloc | apply pw_below_drewN | apply below_drew1) | exact HB.out)) hb); clear HB; have HO301 := n0_; have HB := n1_; clear n0_ n1_; clear hb ho22; obtain ⟨Ao23, co23, eo23⟩ := Kd.R_slice HO301.out; subst eo23) | (go_at_call 39; (with_reducible refine (solve_Share.calls kj5 a0 _ _ y299 t302 t303 _ ?side1 ?side2 A13.out).mono ?_); (case side1 => repeat (first | exact (Kd.R_reads' HO301.out).2.2 | (with_reducible refine Kd.C_alloc ?_ _) | (with_reducible refine Kd.C_drewN ?_ _) | (with_reducible refine Kd.C_drew ?_))); (case side2 => exact (Kd.R_reads' HO301.out).2.1); rintro e w24 ⟨v304, rfl, ho0, hb⟩; have n0_ := Aside0.mk (Kd.R_below (by (with_reducible repeat (first | apply Kd.R_alloc | apply Kd.R_drewN | apply Kd.R_drew)); exact HO301.out) hb); have n1_ := Aside0.mk (Kd.R_lower ho0 (below_size (by repeat (first | (with_reducible first | exact HB.out | apply below_alloc | apply pw_below_drewN | apply below_drew1) | exact HB.out)))); have n2_ := Aside0.mk (below_step (by repeat (first | (with_reducible first | exact HB.out | apply below_alloc | apply pw_below_drewN | apply below_drew1) | exact HB.out)) hb); clear HO301; clear HB; have HO301 := n0_; have HO305 := n1_; have HB := n2_; clear n0_ n1_ n2_; (try clear hb); (try clear hb2); (try clear hk); (try clear hi); (try clear ho0))))
                    go_ret
                    exact ⟨by first | rfl | (simp [errW_none, errW_some] <;> rfl) | (simp only [← hji10]; first | rfl | (simp [errW_none, errW_some] <;> rfl)) | (simp [*, errW_none, errW_some] <;> rfl), by repeat (first | (with_reducible first | exact HB.out | apply below_alloc | apply pw_below_drewN | apply below_drew1) | exact HB.out)⟩
                  · rw [if_neg c20] at H
                    have c20b0 : (t303 == 1) = false := beq_eq_false_iff_ne.mpr c20
                    have c20b1 : (t303 != 1) = true := bne_iff_ne.mpr c20
                    exact absurd ((Option.some.inj H).trans HRT.out) (by decide)
              · rw [if_neg c14] at H
                have c14b0 : (t303 == 90) = false := beq_eq_false_iff_ne.mpr c14
                have c14b1 : (t303 != 90) = true := bne_iff_ne.mpr c14
                by_cases c25 : t303 = 1
                · rw [if_pos c25] at H
                  have c25b0 : (t303 == 1) = true := beq_iff_eq.mpr c25
                  have c25b1 : (t303 != 1) = false := bne_eq_false_iff_eq.mpr c25
                  clear c25
                  obtain rfl := Option.some.inj H
                  go_wp2_with (first | ((with_reducible refine gate_dst (N := 32) rfl ?_); (try (refine gate_guard (by rfl) ?_; dsimp only)); refine Kd.R_make k70 _ 70 rfl (N := 32) rfl 62 _ _ rfl (ji10) (by first | rfl | exact congrArg (Value.int .i64) hji10) (by first | rfl | exact congrArg (Value.int .i64) hji10) Try.underlying62 (.agg #[(.int .i64 0), (.int .i64 0)]) 16 info70 rfl (by decide) (by omega) z70 (ok := fun _ => True) (okp := fun _ => True) (k70_mkM _ _ _ z70 ) (fun _ hk => hk) trivial (of_decide_eq_true (by first | (with_reducible assumption) | assumption)) (Nat.le_trans (Nat.mul_le_mul_right _ (of_decide_eq_true (by first | (with_reducible assumption) | assumption) : (ji10).toNat ≤ 17592186044416)) (by omega)) (Below.refl _ _) (Nat.le_refl _) ?_; intro v300 w26 ho27 hb hg_ hnew_; clear hg_ hnew_; (first | rw [← Ny299.out] at ho27 | (simp only [Int.reduceToNat] at ho27; rw [← Ny299.out] at ho27)); have n0_ := Aside0.mk (Kd.R_lower ho27 (below_size (by repeat (first | (with_reducible first | exact HB.out | apply below_alloc | apply pw_below_drewN | apply below_drew1) | exact HB.out)))); have n1_ := Aside0.mk (below_step (by repeat (first | (with_reducible first | exact HB.out | apply below_alloc | apply pw_below_drewN | apply below_drew1) | exact HB.out)) hb); clear HB; have HO301 := n0_; have HB := n1_; clear n0_ n1_; clear hb ho27; obtain ⟨Ao28, co28, eo28⟩ := Kd.R_slice HO301.out; subst eo28) | (go_at_call 39; (with_reducible refine (solve_Share.calls kj5 a0 _ _ y299 t302 t303 _ ?side1 ?side2 A13.out).mono ?_); (case side1 => repeat (first | exact (Kd.R_reads' HO301.out).2.2 | (with_reducible refine Kd.C_alloc ?_ _) | (with_reducible refine Kd.C_drewN ?_ _) | (with_reducible refine Kd.C_drew ?_))); (case side2 => exact (Kd.R_reads' HO301.out).2.1); rintro e w29 ⟨v304, rfl, ho0, hb⟩; have n0_ := Aside0.mk (Kd.R_below (by (with_reducible repeat (first | apply Kd.R_alloc | apply Kd.R_drewN | apply Kd.R_drew)); exact HO301.out) hb); have n1_ := Aside0.mk (Kd.R_lower ho0 (below_size (by repeat (first | (with_reducible first | exact HB.out | apply below_alloc | apply pw_below_drewN | apply below_drew1) | exact HB.out)))); have n2_ := Aside0.mk (below_step (by repeat (first | (with_reducible first | exact HB.out | apply below_alloc | apply pw_below_drewN | apply below_drew1) | exact HB.out)) hb); clear HO301; clear HB; have HO301 := n0_; have HO305 := n1_; have HB := n2_; clear n0_ n1_ n2_; (try clear hb); (try clear hb2); (try clear hk); (try clear hi); (try clear ho0)))
                  repeat (go_quiet (first | ((with_reducible refine gate_dst (N := 32) rfl ?_); (try (refine gate_guard (by rfl) ?_; dsimp only)); refine Kd.R_make k70 _ 70 rfl (N := 32) rfl 62 _ _ rfl (ji10) (by first | rfl | exact congrArg (Value.int .i64) hji10) (by first | rfl | exact congrArg (Value.int .i64) hji10) Try.underlying62 (.agg #[(.int .i64 0), (.int .i64 0)]) 16 info70 rfl (by decide) (by omega) z70 (ok := fun _ => True) (okp := fun _ => True) (k70_mkM _ _ _ z70 ) (fun _ hk => hk) trivial (of_decide_eq_true (by first | (with_reducible assumption) | assumption)) (Nat.le_trans (Nat.mul_le_mul_right _ (of_decide_eq_true (by first | (with_reducible assumption) | assumption) : (ji10).toNat ≤ 17592186044416)) (by omega)) (Below.refl _ _) (Nat.le_refl _) ?_; intro v300 w26 ho27 hb hg_ hnew_; clear hg_ hnew_; (first | rw [← Ny299.out] at ho27 | (simp only [Int.reduceToNat] at ho27; rw [← Ny299.out] at ho27)); have n0_ := Aside0.mk (Kd.R_lower ho27 (below_size (by repeat (first | (with_reducible first | exact HB.out | apply below_alloc | apply pw_below_drewN | apply below_drew1) | exact HB.out)))); have n1_ := Aside0.mk (below_step (by repeat (first | (with_reducible first | exact HB.out | apply below_alloc | apply pw_below_drewN | apply below_drew1) | exact HB.out)) hb); clear HB; have HO301 := n0_; have HB := n1_; clear n0_ n1_; clear hb ho27; obtain ⟨Ao28, co28, eo28⟩ := Kd.R_slice HO301.out; subst eo28) | (go_at_call 39; (with_reducible refine (solve_Share.calls kj5 a0 _ _ y299 t302 t303 _ ?side1 ?side2 A13.out).mono ?_); (case side1 => repeat (first | exact (Kd.R_reads' HO301.out).2.2 | (with_reducible refine Kd.C_alloc ?_ _) | (with_reducible refine Kd.C_drewN ?_ _) | (with_reducible refine Kd.C_drew ?_))); (case side2 => exact (Kd.R_reads' HO301.out).2.1); rintro e w29 ⟨v304, rfl, ho0, hb⟩; have n0_ := Aside0.mk (Kd.R_below (by (with_reducible repeat (first | apply Kd.R_alloc | apply Kd.R_drewN | apply Kd.R_drew)); exact HO301.out) hb); have n1_ := Aside0.mk (Kd.R_lower ho0 (below_size (by repeat (first | (with_reducible first | exact HB.out | apply below_alloc | apply pw_below_drewN | apply below_drew1) | exact HB.out)))); have n2_ := Aside0.mk (below_step (by repeat (first | (with_reducible first | exact HB.out | apply below_alloc | apply pw_below_drewN | apply below_drew1) | exact HB.out)) hb); clear HO301; clear HB; have HO301 := n0_; have HO305 := n1_; have HB := n2_; clear n0_ n1_ n2_; (try clear hb); (try clear hb2); (try clear hk); (try clear hi); (try clear ho0))); try go_wp2_with (first | ((with_reducible refine gate_dst (N := 32) rfl ?_); (try (refine gate_guard (by rfl) ?_; dsimp only)); refine Kd.R_make k70 _ 70 rfl (N := 32) rfl 62 _ _ rfl (ji10) (by first | rfl | exact congrArg (Value.int .i64) hji10) (by first | rfl | exact congrArg (Value.int .i64) hji10) Try.underlying62 (.agg #[(.int .i64 0), (.int .i64 0)]) 16 info70 rfl (by decide) (by omega) z70 (ok := fun _ => True) (okp := fun _ => True) (k70_mkM _ _ _ z70 ) (fun _ hk => hk) trivial (of_decide_eq_true (by first | (with_reducible assumption) | assumption)) (Nat.le_trans (Nat.mul_le_mul_right _ (of_decide_eq_true (by first | (with_reducible assumption) | assumption) : (ji10).toNat ≤ 17592186044416)) (by omega)) (Below.refl _ _) (Nat.le_refl _) ?_; intro v300 w26 ho27 hb hg_ hnew_; clear hg_ hnew_; (first | rw [← Ny299.out] at ho27 | (simp only [Int.reduceToNat] at ho27; rw [← Ny299.out] at ho27)); have n0_ := Aside0.mk (Kd.R_lower ho27 (below_size (by repeat (first | (with_reducible first | exact HB.out | apply below_alloc | apply pw_below_drewN | apply below_drew1) | exact HB.out)))); have n1_ := Aside0.mk (below_step (by repeat (first | (with_reducible first | exact HB.out | apply below_alloc | apply pw_below_drewN | apply below_drew1) | exact HB.out)) hb); clear HB; have HO301 := n0_; have HB := n1_; clear n0_ n1_; clear hb ho27; obtain ⟨Ao28, co28, eo28⟩ := Kd.R_slice HO301.out; subst eo28) | (go_at_call 39; (with_reducible refine (solve_Share.calls kj5 a0 _ _ y299 t302 t303 _ ?side1 ?side2 A13.out).mono ?_); (case side1 => repeat (first | exact (Kd.R_reads' HO301.out).2.2 | (with_reducible refine Kd.C_alloc ?_ _) | (with_reducible refine Kd.C_drewN ?_ _) | (with_reducible refine Kd.C_drew ?_))); (case side2 => exact (Kd.R_reads' HO301.out).2.1); rintro e w29 ⟨v304, rfl, ho0, hb⟩; have n0_ := Aside0.mk (Kd.R_below (by (with_reducible repeat (first | apply Kd.R_alloc | apply Kd.R_drewN | apply Kd.R_drew)); exact HO301.out) hb); have n1_ := Aside0.mk (Kd.R_lower ho0 (below_size (by repeat (first | (with_reducible first | exact HB.out | apply below_alloc | apply pw_below_drewN | apply below_drew1) | exact HB.out)))); have n2_ := Aside0.mk (below_step (by repeat (first | (with_reducible first | exact HB.out | apply below_alloc | apply pw_below_drewN | apply below_drew1) | exact HB.out)) hb); clear HO301; clear HB; have HO301 := n0_; have HO305 := n1_; have HB := n2_; clear n0_ n1_ n2_; (try clear hb); (try clear hb2); (try clear hk); (try clear hi); (try clear ho0))))
                  go_ret
                  exact ⟨by first | rfl | (simp [errW_none, errW_some] <;> rfl) | (simp only [← hji10]; first | rfl | (simp [errW_none, errW_some] <;> rfl)) | (simp [*, errW_none, errW_some] <;> rfl), by repeat (first | (with_reducible first | exact HB.out | apply below_alloc | apply pw_below_drewN | apply below_drew1) | exact HB.out)⟩
                · rw [if_neg c25] at H
                  have c25b0 : (t303 == 1) = false := beq_eq_false_iff_ne.mpr c25
                  have c25b1 : (t303 != 1) = true := bne_iff_ne.mpr c25
                  exact absurd ((Option.some.inj H).trans HRT.out) (by decide)
            · rw [if_neg c12] at H
              exact absurd H (by simp)
          · rw [if_neg c11] at H
            exact absurd H (by simp)
        · replace c9 := Bool.eq_false_iff.mpr c9
          subst c9
          have H1 : (if 0 ≤ (wrap64 (1 + (Go.bits .and .i64 a1 15))) then (if ((wrap64 (1 + (Go.bits .and .i64 a1 15))) : Int).toNat ≤ 17592186044416 then ((solve_Share.f kj5 a0 (List.replicate ((wrap64 (1 + (Go.bits .and .i64 a1 15))) : Int).toNat z70)).bind fun bt309 => (if bt309.2 = 0 then (casementlaw09_SolveAlike.j1 kj5 a0 (wrap64 (1 + (Go.bits .and .i64 a1 15))) a2 bt309.1 ((bt309.1.length : Int) != (wrap64 (1 + (Go.bits .and .i64 a1 15))))) else (casementlaw09_SolveAlike.j1 kj5 a0 (wrap64 (1 + (Go.bits .and .i64 a1 15))) a2 bt309.1 true))) else (none)) else (none)) = some r := by rw [if_neg (show ¬ (false = true) by decide)] at H; exact H
          clear H
          have H := H1
          clear H1
          obtain ⟨ji30, hji30⟩ : ∃ j_ : Int, (wrap64 (1 + (Go.bits .and .i64 a1 15))) = j_ := ⟨_, rfl⟩
          replace H : (if 0 ≤ (ji30) then (if ((ji30) : Int).toNat ≤ 17592186044416 then ((solve_Share.f kj5 a0 (List.replicate ((ji30) : Int).toNat z70)).bind fun bt309 => (if bt309.2 = 0 then (casementlaw09_SolveAlike.j1 kj5 a0 (ji30) a2 bt309.1 ((bt309.1.length : Int) != (ji30))) else (casementlaw09_SolveAlike.j1 kj5 a0 (ji30) a2 bt309.1 true))) else (none)) else (none)) = some r := by first | (rw [hji30] at H; exact H) | (simp only [hji30] at H ⊢; exact H)
          have hji30w : (IntKind.i64.wrap (1 + (Go.bits .and .i64 a1 15))) = ji30 := (i64_w _).trans hji30
          by_cases c31 : 0 ≤ (ji30)
          · rw [if_pos c31] at H
            have c31b0 := eq_true c31
            have c31b1 : decide (0 ≤ (ji30)) = true := decide_eq_true c31
            clear c31
            by_cases c32 : ((ji30) : Int).toNat ≤ 17592186044416
            · rw [if_pos c32] at H
              have c32b0 := eq_true c32
              have c32b1 : decide (((ji30) : Int).toNat ≤ 17592186044416) = true := decide_eq_true c32
              clear c32
              obtain ⟨y306, hy306⟩ : ∃ y_ : List (S70), y_ = (List.replicate ((ji30) : Int).toNat z70) := ⟨_, rfl⟩
              replace H : ((solve_Share.f kj5 a0 y306).bind fun bt309 => (if bt309.2 = 0 then (casementlaw09_SolveAlike.j1 kj5 a0 (ji30) a2 bt309.1 ((bt309.1.length : Int) != (ji30))) else (casementlaw09_SolveAlike.j1 kj5 a0 (ji30) a2 bt309.1 true))) = some r := by first | (rw [hy306]; with_reducible exact H) | (have H2_ := (Option.bind_some _ _).symm.trans H; rw [hy306]; with_reducible exact H2_) | (have H2_ := (Option.bind_some _ _).symm.trans H; with_reducible exact H2_) | with_reducible exact H | (rw [hy306]; exact H) | exact H
              have Ny306 := Aside0.mk hy306
              clear hy306
              replace H := Option.bind_eq_some_iff.mp H
              obtain ⟨⟨t309, t310⟩, A330, H⟩ := H
              replace H : (if t310 = 0 then (casementlaw09_SolveAlike.j1 kj5 a0 (ji30) a2 t309 ((t309.length : Int) != (ji30))) else (casementlaw09_SolveAlike.j1 kj5 a0 (ji30) a2 t309 true)) = some r := H
              have A33 := Aside0.mk A330
              clear A330
              have HC34 := Aside0.mk H
              clear H
              go_upto_region 8 with (first | ((with_reducible refine gate_dst (N := 54) rfl ?_); (try (refine gate_guard (by rfl) ?_; dsimp only)); refine Kd.R_make k70 _ 70 rfl (N := 54) rfl 62 _ _ rfl (ji30) (by first | rfl | exact congrArg (Value.int .i64) hji30) (by first | rfl | exact congrArg (Value.int .i64) hji30) Try.underlying62 (.agg #[(.int .i64 0), (.int .i64 0)]) 16 info70 rfl (by decide) (by omega) z70 (ok := fun _ => True) (okp := fun _ => True) (k70_mkM _ _ _ z70 ) (fun _ hk => hk) trivial (of_decide_eq_true (by first | (with_reducible assumption) | assumption)) (Nat.le_trans (Nat.mul_le_mul_right _ (of_decide_eq_true (by first | (with_reducible assumption) | assumption) : (ji30).toNat ≤ 17592186044416)) (by omega)) (Below.refl _ _) (Nat.le_refl _) ?_; intro v307 w35 ho36 hb hg_ hnew_; clear hg_ hnew_; (first | rw [← Ny306.out] at ho36 | (simp only [Int.reduceToNat] at ho36; rw [← Ny306.out] at ho36)); have n0_ := Aside0.mk (Kd.R_lower ho36 (below_size (by repeat (first | (with_reducible first | exact HB.out | apply below_alloc | apply pw_below_drewN | apply below_drew1) | exact HB.out)))); have n1_ := Aside0.mk (below_step (by repeat (first | (with_reducible first | exact HB.out | apply below_alloc | apply pw_below_drewN | apply below_drew1) | exact HB.out)) hb); clear HB; have HO308 := n0_; have HB := n1_; clear n0_ n1_; clear hb ho36; obtain ⟨Ao37, co37, eo37⟩ := Kd.R_slice HO308.out; subst eo37) | (go_at_call 39; (with_reducible refine (solve_Share.calls kj5 a0 _ _ y306 t309 t310 _ ?side1 ?side2 A33.out).mono ?_); (case side1 => repeat (first | exact (Kd.R_reads' HO308.out).2.2 | (with_reducible refine Kd.C_alloc ?_ _) | (with_reducible refine Kd.C_drewN ?_ _) | (with_reducible refine Kd.C_drew ?_))); (case side2 => exact (Kd.R_reads' HO308.out).2.1); rintro e w38 ⟨v311, rfl, ho0, hb⟩; have n0_ := Aside0.mk (Kd.R_below (by (with_reducible repeat (first | apply Kd.R_alloc | apply Kd.R_drewN | apply Kd.R_drew)); exact HO308.out) hb); have n1_ := Aside0.mk (Kd.R_lower ho0 (below_size (by repeat (first | (with_reducible first | exact HB.out | apply below_alloc | apply pw_below_drewN | apply below_drew1) | exact HB.out)))); have n2_ := Aside0.mk (below_step (by repeat (first | (with_reducible first | exact HB.out | apply below_alloc | apply pw_below_drewN | apply below_drew1) | exact HB.out)) hb); clear HO308; clear HB; have HO308 := n0_; have HO312 := n1_; have HB := n2_; clear n0_ n1_ n2_; (try clear hb); (try clear hb2); (try clear hk); (try clear hi); (try clear ho0)))
              repeat (go_quiet (first | ((with_reducible refine gate_dst (N := 54) rfl ?_); (try (refine gate_guard (by rfl) ?_; dsimp only)); refine Kd.R_make k70 _ 70 rfl (N := 54) rfl 62 _ _ rfl (ji30) (by first | rfl | exact congrArg (Value.int .i64) hji30) (by first | rfl | exact congrArg (Value.int .i64) hji30) Try.underlying62 (.agg #[(.int .i64 0), (.int .i64 0)]) 16 info70 rfl (by decide) (by omega) z70 (ok := fun _ => True) (okp := fun _ => True) (k70_mkM _ _ _ z70 ) (fun _ hk => hk) trivial (of_decide_eq_true (by first | (with_reducible assumption) | assumption)) (Nat.le_trans (Nat.mul_le_mul_right _ (of_decide_eq_true (by first | (with_reducible assumption) | assumption) : (ji30).toNat ≤ 17592186044416)) (by omega)) (Below.refl _ _) (Nat.le_refl _) ?_; intro v307 w35 ho36 hb hg_ hnew_; clear hg_ hnew_; (first | rw [← Ny306.out] at ho36 | (simp only [Int.reduceToNat] at ho36; rw [← Ny306.out] at ho36)); have n0_ := Aside0.mk (Kd.R_lower ho36 (below_size (by repeat (first | (with_reducible first | exact HB.out | apply below_alloc | apply pw_below_drewN | apply below_drew1) | exact HB.out)))); have n1_ := Aside0.mk (below_step (by repeat (first | (with_reducible first | exact HB.out | apply below_alloc | apply pw_below_drewN | apply below_drew1) | exact HB.out)) hb); clear HB; have HO308 := n0_; have HB := n1_; clear n0_ n1_; clear hb ho36; obtain ⟨Ao37, co37, eo37⟩ := Kd.R_slice HO308.out; subst eo37) | (go_at_call 39; (with_reducible refine (solve_Share.calls kj5 a0 _ _ y306 t309 t310 _ ?side1 ?side2 A33.out).mono ?_); (case side1 => repeat (first | exact (Kd.R_reads' HO308.out).2.2 | (with_reducible refine Kd.C_alloc ?_ _) | (with_reducible refine Kd.C_drewN ?_ _) | (with_reducible refine Kd.C_drew ?_))); (case side2 => exact (Kd.R_reads' HO308.out).2.1); rintro e w38 ⟨v311, rfl, ho0, hb⟩; have n0_ := Aside0.mk (Kd.R_below (by (with_reducible repeat (first | apply Kd.R_alloc | apply Kd.R_drewN | apply Kd.R_drew)); exact HO308.out) hb); have n1_ := Aside0.mk (Kd.R_lower ho0 (below_size (by repeat (first | (with_reducible first | exact HB.out | apply below_alloc | apply pw_below_drewN | apply below_drew1) | exact HB.out)))); have n2_ := Aside0.mk (below_step (by repeat (first | (with_reducible first | exact HB.out | apply below_alloc | apply pw_below_drewN | apply below_drew1) | exact HB.out)) hb); clear HO308; clear HB; have HO308 := n0_; have HO312 := n1_; have HB := n2_; clear n0_ n1_ n2_; (try clear hb); (try clear hb2); (try clear hk); (try clear hi); (try clear ho0))); go_upto_region 8 with (first | ((with_reducible refine gate_dst (N := 54) rfl ?_); (try (refine gate_guard (by rfl) ?_; dsimp only)); refine Kd.R_make k70 _ 70 rfl (N := 54) rfl 62 _ _ rfl (ji30) (by first | rfl | exact congrArg (Value.int .i64) hji30) (by first | rfl | exact congrArg (Value.int .i64) hji30) Try.underlying62 (.agg #[(.int .i64 0), (.int .i64 0)]) 16 info70 rfl (by decide) (by omega) z70 (ok := fun _ => True) (okp := fun _ => True) (k70_mkM _ _ _ z70 ) (fun _ hk => hk) trivial (of_decide_eq_true (by first | (with_reducible assumption) | assumption)) (Nat.le_trans (Nat.mul_le_mul_right _ (of_decide_eq_true (by first | (with_reducible assumption) | assumption) : (ji30).toNat ≤ 17592186044416)) (by omega)) (Below.refl _ _) (Nat.le_refl _) ?_; intro v307 w35 ho36 hb hg_ hnew_; clear hg_ hnew_; (first | rw [← Ny306.out] at ho36 | (simp only [Int.reduceToNat] at ho36; rw [← Ny306.out] at ho36)); have n0_ := Aside0.mk (Kd.R_lower ho36 (below_size (by repeat (first | (with_reducible first | exact HB.out | apply below_alloc | apply pw_below_drewN | apply below_drew1) | exact HB.out)))); have n1_ := Aside0.mk (below_step (by repeat (first | (with_reducible first | exact HB.out | apply below_alloc | apply pw_below_drewN | apply below_drew1) | exact HB.out)) hb); clear HB; have HO308 := n0_; have HB := n1_; clear n0_ n1_; clear hb ho36; obtain ⟨Ao37, co37, eo37⟩ := Kd.R_slice HO308.out; subst eo37) | (go_at_call 39; (with_reducible refine (solve_Share.calls kj5 a0 _ _ y306 t309 t310 _ ?side1 ?side2 A33.out).mono ?_); (case side1 => repeat (first | exact (Kd.R_reads' HO308.out).2.2 | (with_reducible refine Kd.C_alloc ?_ _) | (with_reducible refine Kd.C_drewN ?_ _) | (with_reducible refine Kd.C_drew ?_))); (case side2 => exact (Kd.R_reads' HO308.out).2.1); rintro e w38 ⟨v311, rfl, ho0, hb⟩; have n0_ := Aside0.mk (Kd.R_below (by (with_reducible repeat (first | apply Kd.R_alloc | apply Kd.R_drewN | apply Kd.R_drew)); exact HO308.out) hb); have n1_ := Aside0.mk (Kd.R_lower ho0 (below_size (by repeat (first | (with_reducible first | exact HB.out | apply below_alloc | apply pw_below_drewN | apply below_drew1) | exact HB.out)))); have n2_ := Aside0.mk (below_step (by repeat (first | (with_reducible first | exact HB.out | apply below_alloc | apply pw_below_drewN | apply below_drew1) | exact HB.out)) hb); clear HO308; clear HB; have HO308 := n0_; have HO312 := n1_; have HB := n2_; clear n0_ n1_ n2_; (try clear hb); (try clear hb2); (try clear hk); (try clear hi); (try clear ho0))))
              (try simp only [Act.put, List.setIfInBounds_toArray, List.set_cons_zero, List.set_cons_succ])
              go_cut [65] (fun v65 wc => ∃ (kq : Nat) (x65_33 : Bool), v65 = .bool x65_33 ∧ Aside0 (casementlaw09_SolveAlike.j1 kq a0 (ji30) a2 t309 x65_33 = some r) ∧ Aside0 (kq ≤ kj5) ∧ Aside0 (Kd.R (Kd.int .i64) 3 wc w.heap.size (fun _ => True) v311 t309) ∧ Aside0 (Below w.heap.size w wc))
              case first =>
                have H := HC34.out
                clear HC34
                by_cases c39 : t310 = 0
                · rw [if_pos c39] at H
                  have c39b0 : (t310 == 0) = true := beq_iff_eq.mpr c39
                  have c39b1 : (t310 != 0) = false := bne_eq_false_iff_eq.mpr c39
                  clear c39
                  (first | rw [c39b0] | (simp only [i64_w, i32_w]; rw [c39b0]) | skip)
                  have H' := Aside0.mk H
                  clear H
                  obtain ⟨Ao40, co40, eo40⟩ := Kd.R_slice HO312.out
                  subst eo40
                  go_wp2
                  repeat (go_quiet (fail); try go_wp2)
                  go_meet
                  case rel => exact ⟨_, (((t309.length : Int) != (ji30))), (by first | rfl | (simp; done) | (simp only [← hji30] <;> (first | rfl | simp)) | (simp [*]; done)), H', ⟨by have := HJ5.out; first | omega | exact Nat.le_refl _⟩, ⟨by (with_reducible repeat (first | apply Kd.R_alloc | apply Kd.R_drewN | apply Kd.R_drew)); exact HO312.out⟩, ⟨by repeat (first | (with_reducible first | exact HB.out | apply below_alloc | apply pw_below_drewN | apply below_drew1) | exact HB.out)⟩⟩
                · rw [if_neg c39] at H
                  have c39b0 : (t310 == 0) = false := beq_eq_false_iff_ne.mpr c39
                  have c39b1 : (t310 != 0) = true := bne_iff_ne.mpr c39
                  (first | rw [c39b0] | (simp only [i64_w, i32_w]; rw [c39b0]) | skip)
                  have H' := Aside0.mk H
                  clear H
                  go_wp2
                  repeat (go_quiet (fail); try go_wp2)
                  go_meet
                  case rel => exact ⟨_, (true), (by first | rfl | (simp; done) | (simp [*]; done)), H', ⟨by have := HJ5.out; first | omega | exact Nat.le_refl _⟩, ⟨by (with_reducible repeat (first | apply Kd.R_alloc | apply Kd.R_drewN | apply Kd.R_drew)); exact HO312.out⟩, ⟨by repeat (first | (with_reducible first | exact HB.out | apply below_alloc | apply pw_below_drewN | apply below_drew1) | exact HB.out)⟩⟩
              case rest =>
                clear HC34
                try clear c1
                try clear c2
                try clear p2
                try clear c3
                try clear c5
                try clear p6
                try clear c8
                try clear c8b0
                try clear c9
                try clear c11
                try clear c11b0
                try clear c11b1
                try clear c12
                try clear c12b0
                try clear c12b1
                try clear c14
                try clear c14b0
                try clear c14b1
                try clear c15
                try clear c15b0
                try clear c20
                try clear c20b0
                try clear c20b1
                try clear c25
                try clear c25b0
                try clear c25b1
                try clear c31
                try clear c31b0
                try clear c31b1
                try clear c32
                try clear c32b0
                try clear c32b1
                try clear c39
                try clear c39b0
                try clear c39b1
                try clear p2
                try clear p6
                obtain ⟨kq, x65_33, rfl, HA, HJ33, HO_9, HB⟩ := hcut
                cases kq with
                | zero => exact absurd HA.out (by simp [casementlaw09_SolveAlike.j1])
                | succ kj33 =>
                  have H := HA.out
                  clear HA
                  simp only [casementlaw09_SolveAlike.j1] at H
                  by_cases c41 : x65_33 = true
                  · subst c41
                    have H1 : (some false) = some r := by rw [if_pos rfl] at H; exact H
                    clear H
                    have H := H1
                    clear H1
                    exact absurd ((Option.some.inj H).trans HRT.out) (by decide)
                  · replace c41 := Bool.eq_false_iff.mpr c41
                    subst c41
                    have H1 : (casementlaw09_SolveAlike.l0 kj33 a0 (ji30) a2 t309 (t309.length : Int) 0) = some r := by rw [if_neg (show ¬ (false = true) by decide)] at H; exact H
                    clear H
                    have H := H1
                    clear H1
                    have H' := Aside0.mk H
                    clear H
                    obtain ⟨Ao42, co42, eo42⟩ := Kd.R_slice HO_9.out
                    subst eo42
                    go_wp2
                    repeat (go_quiet (fail); try go_wp2)
                    go_loopg [68] kj33 (fun kq v68 w' => ∃ (x68_3 : Int), v68 = .int .i64 x68_3 ∧ Aside0 (casementlaw09_SolveAlike.l0 kq a0 (ji30) a2 t309 (t309.length : Int) x68_3 = some r) ∧ Aside0 (kq ≤ kj33) ∧ Aside0 (Kd.R (Kd.int .i64) 3 w' w.heap.size (fun _ => True) (.slice Ao42 t309.length co42) t309) ∧ Aside0 (Below w.heap.size w w'))
                    case atStart => exact ⟨(0), (by first | rfl | (simp; done) | (simp [*]; done)), H', ⟨Nat.le_refl _⟩, ⟨by (with_reducible repeat (first | apply Kd.R_alloc | apply Kd.R_drewN | apply Kd.R_drew)); exact HO_9.out⟩, ⟨by repeat (first | (with_reducible first | exact HB.out | apply below_alloc | apply pw_below_drewN | apply below_drew1) | exact HB.out)⟩⟩
                    case round =>
                      clear H'
                      try clear c1
                      try clear c2
                      try clear p2
                      try clear c3
                      try clear c4
                      try clear c5
                      try clear p6
                      try clear c8
                      try clear c8b0
                      try clear c9
                      try clear c11
                      try clear c11b0
                      try clear c11b1
                      try clear c12
                      try clear c12b0
                      try clear c12b1
                      try clear c14
                      try clear c14b0
                      try clear c14b1
                      try clear c15
                      try clear c15b0
                      try clear c20
                      try clear c20b0
                      try clear c20b1
                      try clear c25
                      try clear c25b0
                      try clear c25b1
                      try clear c31
                      try clear c31b0
                      try clear c31b1
                      try clear c32
                      try clear c32b0
                      try clear c32b1
                      try clear c39
                      try clear c39b0
                      try clear c39b1
                      try clear c41
                      try clear p2
                      try clear p6
                      obtain ⟨x68_3, rfl, HA, HK3, HO_9, HB⟩ := hrel
                      cases gk with
                      | zero => exact absurd HA.out (by simp [casementlaw09_SolveAlike.l0])
                      | succ k3 =>
                        have H := HA.out
                        clear HA
                        simp only [casementlaw09_SolveAlike.l0] at H
                        by_cases c43 : x68_3 < (t309.length : Int)
                        · rw [if_pos c43] at H
                          have c43b0 : decide (x68_3 < (t309.length : Int)) = true := decide_eq_true c43
                          clear c43
                          by_cases c44 : (ji30) = 0
                          · rw [if_pos c44] at H
                            exact absurd H (by simp)
                          · rw [if_neg c44] at H
                            have c44b0 : ((ji30) == 0) = false := beq_eq_false_iff_ne.mpr c44
                            have c44b1 : ((ji30) != 0) = true := bne_iff_ne.mpr c44
                            by_cases c45 : x68_3 < (Int.tmod a0 (ji30))
                            · rw [if_pos c45] at H
                              have c45b0 : decide (x68_3 < (Int.tmod a0 (ji30))) = true := decide_eq_true c45
                              clear c45
                              by_cases c46 : 0 ≤ x68_3
                              · rw [if_pos c46] at H
                                have c46b0 : decide (0 ≤ x68_3) = true := decide_eq_true c46
                                clear c46
                                by_cases c47 : x68_3 < (t309.length : Int)
                                · rw [if_pos c47] at H
                                  have c47b0 : decide (x68_3 < (t309.length : Int)) = true := decide_eq_true c47
                                  clear c47
                                  by_cases c48 : (rd t309 x68_3) = (wrap64 ((wrap64 (Int.tdiv a0 (ji30))) + 1))
                                  · rw [if_pos c48] at H
                                    have c48b0 : ((rd t309 x68_3) == (wrap64 ((wrap64 (Int.tdiv a0 (ji30))) + 1))) = true := beq_iff_eq.mpr c48
                                    have c48b1 : ((rd t309 x68_3) != (wrap64 ((wrap64 (Int.tdiv a0 (ji30))) + 1))) = false := bne_eq_false_iff_eq.mpr c48
                                    clear c48
                                    have H' := Aside0.mk H
                                    clear H
                                    have p313 : 0 ≤ (x68_3 : Int) := of_decide_eq_true (by first | (with_reducible assumption) | assumption)
                                    have q313 : x68_3 < (t309.length : Int) := of_decide_eq_true (by first | (with_reducible assumption) | assumption)
                                    obtain ⟨ad313, e313, hx313_0⟩ := Kd.at_int (Kd.R_reads' HO_9.out).2.2 x68_3 p313 q313
                                    cases e313
                                    replace p313 := eq_true p313
                                    replace q313 := eq_true q313
                                    go_wp2
                                    repeat (go_quiet (fail); try go_wp2)
                                    go_roundg k3
                                    case measure => have := HJ5.out; have := HJ33.out; have := HK3.out; omega
                                    case rel => exact ⟨(wrap64 (x68_3 + 1)), (by first | rfl | (simp; done) | (simp [*]; done)), H', ⟨by have := HJ5.out; have := HJ33.out; have := HK3.out; omega⟩, ⟨by (with_reducible repeat (first | apply Kd.R_alloc | apply Kd.R_drewN | apply Kd.R_drew)); exact HO_9.out⟩, ⟨by repeat (first | (with_reducible first | exact HB.out | apply below_alloc | apply pw_below_drewN | apply below_drew1) | exact HB.out)⟩⟩
                                  · rw [if_neg c48] at H
                                    have c48b0 : ((rd t309 x68_3) == (wrap64 ((wrap64 (Int.tdiv a0 (ji30))) + 1))) = false := beq_eq_false_iff_ne.mpr c48
                                    have c48b1 : ((rd t309 x68_3) != (wrap64 ((wrap64 (Int.tdiv a0 (ji30))) + 1))) = true := bne_iff_ne.mpr c48
                                    exact absurd ((Option.some.inj H).trans HRT.out) (by decide)
                                · rw [if_neg c47] at H
                                  exact absurd H (by simp)
                              · rw [if_neg c46] at H
                                exact absurd H (by simp)
                            · rw [if_neg c45] at H
                              have c45b0 : decide (x68_3 < (Int.tmod a0 (ji30))) = false := decide_eq_false c45
                              clear c45
                              by_cases c49 : 0 ≤ x68_3
                              · rw [if_pos c49] at H
                                have c49b0 : decide (0 ≤ x68_3) = true := decide_eq_true c49
                                clear c49
                                by_cases c50 : x68_3 < (t309.length : Int)
                                · rw [if_pos c50] at H
                                  have c50b0 : decide (x68_3 < (t309.length : Int)) = true := decide_eq_true c50
                                  clear c50
                                  by_cases c51 : (rd t309 x68_3) = (wrap64 (Int.tdiv a0 (ji30)))
                                  · rw [if_pos c51] at H
                                    have c51b0 : ((rd t309 x68_3) == (wrap64 (Int.tdiv a0 (ji30)))) = true := beq_iff_eq.mpr c51
                                    have c51b1 : ((rd t309 x68_3) != (wrap64 (Int.tdiv a0 (ji30)))) = false := bne_eq_false_iff_eq.mpr c51
                                    clear c51
                                    have H' := Aside0.mk H
                                    clear H
                                    have p314 : 0 ≤ (x68_3 : Int) := of_decide_eq_true (by first | (with_reducible assumption) | assumption)
                                    have q314 : x68_3 < (t309.length : Int) := of_decide_eq_true (by first | (with_reducible assumption) | assumption)
                                    obtain ⟨ad314, e314, hx314_0⟩ := Kd.at_int (Kd.R_reads' HO_9.out).2.2 x68_3 p314 q314
                                    cases e314
                                    replace p314 := eq_true p314
                                    replace q314 := eq_true q314
                                    go_wp2
                                    repeat (go_quiet (fail); try go_wp2)
                                    go_roundg k3
                                    case measure => have := HJ5.out; have := HJ33.out; have := HK3.out; omega
                                    case rel => exact ⟨(wrap64 (x68_3 + 1)), (by first | rfl | (simp; done) | (simp [*]; done)), H', ⟨by have := HJ5.out; have := HJ33.out; have := HK3.out; omega⟩, ⟨by (with_reducible repeat (first | apply Kd.R_alloc | apply Kd.R_drewN | apply Kd.R_drew)); exact HO_9.out⟩, ⟨by repeat (first | (with_reducible first | exact HB.out | apply below_alloc | apply pw_below_drewN | apply below_drew1) | exact HB.out)⟩⟩
                                  · rw [if_neg c51] at H
                                    have c51b0 : ((rd t309 x68_3) == (wrap64 (Int.tdiv a0 (ji30)))) = false := beq_eq_false_iff_ne.mpr c51
                                    have c51b1 : ((rd t309 x68_3) != (wrap64 (Int.tdiv a0 (ji30)))) = true := bne_iff_ne.mpr c51
                                    exact absurd ((Option.some.inj H).trans HRT.out) (by decide)
                                · rw [if_neg c50] at H
                                  exact absurd H (by simp)
                              · rw [if_neg c49] at H
                                exact absurd H (by simp)
                        · rw [if_neg c43] at H
                          have c43b0 : decide (x68_3 < (t309.length : Int)) = false := decide_eq_false c43
                          clear c43
                          by_cases c52 : a0 < 2
                          · rw [if_pos c52] at H
                            have c52b0 : decide (a0 < 2) = true := decide_eq_true c52
                            clear c52
                            obtain rfl := Option.some.inj H
                            go_wp2
                            repeat (go_quiet (fail); try go_wp2)
                            go_ret
                            exact ⟨by first | rfl | (simp [errW_none, errW_some] <;> rfl) | (simp only [← hji30]; first | rfl | (simp [errW_none, errW_some] <;> rfl)) | (simp [*, errW_none, errW_some] <;> rfl), by repeat (first | (with_reducible first | exact HB.out | apply below_alloc | apply pw_below_drewN | apply below_drew1) | exact HB.out)⟩
                          · rw [if_neg c52] at H
                            have c52b0 : decide (a0 < 2) = false := decide_eq_false c52
                            clear c52
                            obtain ⟨y315, hy315⟩ : ∃ y_ : List (S70), y_ = (([(⟨1, wrap64 (1 + (Go.bits .and .i64 a2 127))⟩ : S70), (⟨0, 0⟩ : S70)] : List (S70))) := ⟨_, rfl⟩
                            replace H : ((solve_Share.f k3 a0 y315).bind fun bt318 => ((solve_Share.f k3 a0 (([(⟨0, 0⟩ : S70), (⟨2, 100⟩ : S70)] : List (S70)))).bind fun bt325 => (if bt318.2 = 0 then (if bt325.2 = 0 then (if (bt318.1.length : Int) = 2 then (if (bt325.1.length : Int) = 2 then (if 0 < (bt318.1.length : Int) then (if (rd bt318.1 0) = (mn (wrap64 (1 + (Go.bits .and .i64 a2 127))) (wrap64 (a0 - 1))) then (if 1 < (bt318.1.length : Int) then (if (rd bt318.1 1) = (wrap64 (a0 - (rd bt318.1 0))) then (if 0 < (bt325.1.length : Int) then (if (rd bt325.1 0) = 1 then (if 1 < (bt325.1.length : Int) then (some ((rd bt325.1 1) == (wrap64 (a0 - 1)))) else (none)) else (some false)) else (none)) else (some false)) else (none)) else (some false)) else (none)) else (some false)) else (some false)) else (some false)) else (some false)))) = some r := by first | (rw [hy315]; with_reducible exact H) | (have H2_ := (Option.bind_some _ _).symm.trans H; rw [hy315]; with_reducible exact H2_) | (have H2_ := (Option.bind_some _ _).symm.trans H; with_reducible exact H2_) | with_reducible exact H | (rw [hy315]; exact H) | exact H
                            have Ny315 := Aside0.mk hy315
                            clear hy315
                            replace H := Option.bind_eq_some_iff.mp H
                            obtain ⟨⟨t318, t319⟩, A530, H⟩ := H
                            replace H : ((solve_Share.f k3 a0 (([(⟨0, 0⟩ : S70), (⟨2, 100⟩ : S70)] : List (S70)))).bind fun bt325 => (if t319 = 0 then (if bt325.2 = 0 then (if (t318.length : Int) = 2 then (if (bt325.1.length : Int) = 2 then (if 0 < (t318.length : Int) then (if (rd t318 0) = (mn (wrap64 (1 + (Go.bits .and .i64 a2 127))) (wrap64 (a0 - 1))) then (if 1 < (t318.length : Int) then (if (rd t318 1) = (wrap64 (a0 - (rd t318 0))) then (if 0 < (bt325.1.length : Int) then (if (rd bt325.1 0) = 1 then (if 1 < (bt325.1.length : Int) then (some ((rd bt325.1 1) == (wrap64 (a0 - 1)))) else (none)) else (some false)) else (none)) else (some false)) else (none)) else (some false)) else (none)) else (some false)) else (some false)) else (some false)) else (some false))) = some r := H
                            have A53 := Aside0.mk A530
                            clear A530
                            obtain ⟨y322, hy322⟩ : ∃ y_ : List (S70), y_ = (([(⟨0, 0⟩ : S70), (⟨2, 100⟩ : S70)] : List (S70))) := ⟨_, rfl⟩
                            replace H : ((solve_Share.f k3 a0 y322).bind fun bt325 => (if t319 = 0 then (if bt325.2 = 0 then (if (t318.length : Int) = 2 then (if (bt325.1.length : Int) = 2 then (if 0 < (t318.length : Int) then (if (rd t318 0) = (mn (wrap64 (1 + (Go.bits .and .i64 a2 127))) (wrap64 (a0 - 1))) then (if 1 < (t318.length : Int) then (if (rd t318 1) = (wrap64 (a0 - (rd t318 0))) then (if 0 < (bt325.1.length : Int) then (if (rd bt325.1 0) = 1 then (if 1 < (bt325.1.length : Int) then (some ((rd bt325.1 1) == (wrap64 (a0 - 1)))) else (none)) else (some false)) else (none)) else (some false)) else (none)) else (some false)) else (none)) else (some false)) else (some false)) else (some false)) else (some false))) = some r := by first | (rw [hy322]; with_reducible exact H) | (have H2_ := (Option.bind_some _ _).symm.trans H; rw [hy322]; with_reducible exact H2_) | (have H2_ := (Option.bind_some _ _).symm.trans H; with_reducible exact H2_) | with_reducible exact H | (rw [hy322]; exact H) | exact H
                            have Ny322 := Aside0.mk hy322
                            clear hy322
                            replace H := Option.bind_eq_some_iff.mp H
                            obtain ⟨⟨t325, t326⟩, A540, H⟩ := H
                            replace H : (if t319 = 0 then (if t326 = 0 then (if (t318.length : Int) = 2 then (if (t325.length : Int) = 2 then (if 0 < (t318.length : Int) then (if (rd t318 0) = (mn (wrap64 (1 + (Go.bits .and .i64 a2 127))) (wrap64 (a0 - 1))) then (if 1 < (t318.length : Int) then (if (rd t318 1) = (wrap64 (a0 - (rd t318 0))) then (if 0 < (t325.length : Int) then (if (rd t325 0) = 1 then (if 1 < (t325.length : Int) then (some ((rd t325 1) == (wrap64 (a0 - 1)))) else (none)) else (some false)) else (none)) else (some false)) else (none)) else (some false)) else (none)) else (some false)) else (some false)) else (some false)) else (some false)) = some r := H
                            have A54 := Aside0.mk A540
                            clear A540
                            by_cases c55 : t319 = 0
                            · rw [if_pos c55] at H
                              have c55b0 : (t319 == 0) = true := beq_iff_eq.mpr c55
                              have c55b1 : (t319 != 0) = false := bne_eq_false_iff_eq.mpr c55
                              clear c55
                              by_cases c56 : t326 = 0
                              · rw [if_pos c56] at H
                                have c56b0 : (t326 == 0) = true := beq_iff_eq.mpr c56
                                have c56b1 : (t326 != 0) = false := bne_eq_false_iff_eq.mpr c56
                                clear c56
                                by_cases c57 : (t318.length : Int) = 2
                                · rw [if_pos c57] at H
                                  have c57b0 : ((t318.length : Int) == 2) = true := beq_iff_eq.mpr c57
                                  have c57b1 : ((t318.length : Int) != 2) = false := bne_eq_false_iff_eq.mpr c57
                                  clear c57
                                  by_cases c58 : (t325.length : Int) = 2
                                  · rw [if_pos c58] at H
                                    have c58b0 : ((t325.length : Int) == 2) = true := beq_iff_eq.mpr c58
                                    have c58b1 : ((t325.length : Int) != 2) = false := bne_eq_false_iff_eq.mpr c58
                                    clear c58
                                    by_cases c59 : 0 < (t318.length : Int)
                                    · rw [if_pos c59] at H
                                      have c59b0 : decide (0 < (t318.length : Int)) = true := decide_eq_true c59
                                      have c59b1 : decide (0 < t318.length) = true := decide_eq_true (by omega)
                                      clear c59
                                      obtain ⟨ji60, hji60⟩ : ∃ j_ : Int, (mn (wrap64 (1 + (Go.bits .and .i64 a2 127))) (wrap64 (a0 - 1))) = j_ := ⟨_, rfl⟩
                                      replace H : (if (rd t318 0) = (ji60) then (if 1 < (t318.length : Int) then (if (rd t318 1) = (wrap64 (a0 - (rd t318 0))) then (if 0 < (t325.length : Int) then (if (rd t325 0) = 1 then (if 1 < (t325.length : Int) then (some ((rd t325 1) == (wrap64 (a0 - 1)))) else (none)) else (some false)) else (none)) else (some false)) else (none)) else (some false)) = some r := by first | (rw [hji60] at H; exact H) | (simp only [hji60] at H ⊢; exact H)
                                      (try rw [hji60] at A53)
                                      (try rw [hji60] at A54)
                                      have hji60_ : (if (wrap64 (a0 - 1)) < (wrap64 (1 + (Go.bits .and .i64 a2 127))) then (wrap64 (a0 - 1)) else (wrap64 (1 + (Go.bits .and .i64 a2 127)))) = ji60 := hji60
                                      by_cases c61 : (rd t318 0) = (ji60)
                                      · rw [if_pos c61] at H
                                        have c61b0 : ((rd t318 0) == (ji60)) = true := beq_iff_eq.mpr c61
                                        have c61b1 : ((rd t318 0) != (ji60)) = false := bne_eq_false_iff_eq.mpr c61
                                        clear c61
                                        by_cases c62 : 1 < (t318.length : Int)
                                        · rw [if_pos c62] at H
                                          have c62b0 : decide (1 < (t318.length : Int)) = true := decide_eq_true c62
                                          have c62b1 : decide (1 < t318.length) = true := decide_eq_true (by omega)
                                          clear c62
                                          by_cases c63 : (rd t318 1) = (wrap64 (a0 - (rd t318 0)))
                                          · rw [if_pos c63] at H
                                            have c63b0 : ((rd t318 1) == (wrap64 (a0 - (rd t318 0)))) = true := beq_iff_eq.mpr c63
                                            have c63b1 : ((rd t318 1) != (wrap64 (a0 - (rd t318 0)))) = false := bne_eq_false_iff_eq.mpr c63
                                            clear c63
                                            by_cases c64 : 0 < (t325.length : Int)
                                            · rw [if_pos c64] at H
                                              have c64b0 : decide (0 < (t325.length : Int)) = true := decide_eq_true c64
                                              have c64b1 : decide (0 < t325.length) = true := decide_eq_true (by omega)
                                              clear c64
                                              by_cases c65 : (rd t325 0) = 1
                                              · rw [if_pos c65] at H
                                                have c65b0 : ((rd t325 0) == 1) = true := beq_iff_eq.mpr c65
                                                have c65b1 : ((rd t325 0) != 1) = false := bne_eq_false_iff_eq.mpr c65
                                                clear c65
                                                by_cases c66 : 1 < (t325.length : Int)
                                                · rw [if_pos c66] at H
                                                  have c66b0 : decide (1 < (t325.length : Int)) = true := decide_eq_true c66
                                                  have c66b1 : decide (1 < t325.length) = true := decide_eq_true (by omega)
                                                  clear c66
                                                  obtain rfl := Option.some.inj H
                                                  go_wp2_with (first | ((with_reducible refine gate_dst (N := 98) rfl ?_); (try (refine gate_guard (by rfl) ?_; dsimp only)); refine Kd.R_lit k70 _ 70 ?hg (N := 98) ?hd (xs := ([(⟨1, wrap64 (1 + (Go.bits .and .i64 a2 127))⟩ : S70), (⟨0, 0⟩ : S70)] : List (S70))) (inner := [.int .i64 1, .int .i64 (wrap64 (1 + (Go.bits .and .i64 a2 127))), .int .i64 0, .int .i64 0]) (ok := fun _ => True) (okp := fun _ => True) ?hr ?hp (fun _ hk => hk) trivial (Below.refl _ _) (Nat.le_refl _) (by simp) ?_; (case hd => rfl); (case hg => rfl); (case hr => first | (go_simp; done) | (go_simp; rfl)); (case hp => exact (Reps.c2 (show Kd.M k70 _ _ _ (⟨1, wrap64 (1 + (Go.bits .and .i64 a2 127))⟩ : S70) [.int .i64 1, .int .i64 (wrap64 (1 + (Go.bits .and .i64 a2 127)))] from (k70_mkM _ _ _ (⟨1, wrap64 (1 + (Go.bits .and .i64 a2 127))⟩ : S70) )) (Reps.c2 (show Kd.M k70 _ _ _ (⟨0, 0⟩ : S70) [.int .i64 0, .int .i64 0] from (k70_mkM _ _ _ (⟨0, 0⟩ : S70) )) (Reps.none _ _)))); intro v316 w67 ho68 hb hg_ hnew_; clear hg_ hnew_; (first | rw [← Ny315.out] at ho68 | (simp only [Int.reduceToNat] at ho68; rw [← Ny315.out] at ho68)); have n0_ := Aside0.mk (Kd.R_below (by (with_reducible repeat (first | apply Kd.R_alloc | apply Kd.R_drewN | apply Kd.R_drew)); exact HO_9.out) hb); have n1_ := Aside0.mk (Kd.R_lower ho68 (below_size (by repeat (first | (with_reducible first | exact HB.out | apply below_alloc | apply pw_below_drewN | apply below_drew1) | exact HB.out)))); have n2_ := Aside0.mk (below_step (by repeat (first | (with_reducible first | exact HB.out | apply below_alloc | apply pw_below_drewN | apply below_drew1) | exact HB.out)) hb); clear HO_9; clear HB; have HO_9 := n0_; have HO317 := n1_; have HB := n2_; clear n0_ n1_ n2_; clear hb ho68; obtain ⟨Ao69, co69, eo69⟩ := Kd.R_slice HO317.out; subst eo69) | (go_at_call 39; (with_reducible refine (solve_Share.calls k3 a0 _ _ y315 t318 t319 _ ?side1 ?side2 A53.out).mono ?_); (case side1 => repeat (first | exact (Kd.R_reads' HO317.out).2.2 | (with_reducible refine Kd.C_alloc ?_ _) | (with_reducible refine Kd.C_drewN ?_ _) | (with_reducible refine Kd.C_drew ?_))); (case side2 => exact (Kd.R_reads' HO317.out).2.1); rintro e w70 ⟨v320, rfl, ho0, hb⟩; have n0_ := Aside0.mk (Kd.R_elder' (by (with_reducible repeat (first | apply Kd.R_alloc | apply Kd.R_drewN | apply Kd.R_drew)); exact HO_9.out) (Kd.R_base ho0) hb); have n1_ := Aside0.mk (Kd.R_below (by (with_reducible repeat (first | apply Kd.R_alloc | apply Kd.R_drewN | apply Kd.R_drew)); exact HO317.out) hb); have n2_ := Aside0.mk (Kd.R_lower (Kd.R_new' ho0 (Kd.R_lt (by (with_reducible repeat (first | apply Kd.R_alloc | apply Kd.R_drewN | apply Kd.R_drew)); exact HO_9.out))) (below_size (by repeat (first | (with_reducible first | exact HB.out | apply below_alloc | apply pw_below_drewN | apply below_drew1) | exact HB.out)))); have n3_ := Aside0.mk (below_step (by repeat (first | (with_reducible first | exact HB.out | apply below_alloc | apply pw_below_drewN | apply below_drew1) | exact HB.out)) hb); clear HO_9; clear HO317; clear HB; have HO_9 := n0_; have HO317 := n1_; have HO321 := n2_; have HB := n3_; clear n0_ n1_ n2_ n3_; (try clear hb); (try clear hb2); (try clear hk); (try clear hi); (try clear ho0)) | ((with_reducible refine gate_dst (N := 106) rfl ?_); (try (refine gate_guard (by rfl) ?_; dsimp only)); refine Kd.R_lit k70 _ 70 ?hg (N := 106) ?hd (xs := ([(⟨0, 0⟩ : S70), (⟨2, 100⟩ : S70)] : List (S70))) (inner := [.int .i64 0, .int .i64 0, .int .i64 2, .int .i64 100]) (ok := fun _ => True) (okp := fun _ => True) ?hr ?hp (fun _ hk => hk) trivial (Below.refl _ _) (Nat.le_refl _) (by simp) ?_; (case hd => rfl); (case hg => rfl); (case hr => first | (go_simp; done) | (go_simp; rfl)); (case hp => exact (Reps.c2 (show Kd.M k70 _ _ _ (⟨0, 0⟩ : S70) [.int .i64 0, .int .i64 0] from (k70_mkM _ _ _ (⟨0, 0⟩ : S70) )) (Reps.c2 (show Kd.M k70 _ _ _ (⟨2, 100⟩ : S70) [.int .i64 2, .int .i64 100] from (k70_mkM _ _ _ (⟨2, 100⟩ : S70) )) (Reps.none _ _)))); intro v323 w71 ho72 hb hg_ hnew_; clear hg_ hnew_; (first | rw [← Ny322.out] at ho72 | (simp only [Int.reduceToNat] at ho72; rw [← Ny322.out] at ho72)); have n0_ := Aside0.mk (Kd.R_below (by (with_reducible repeat (first | apply Kd.R_alloc | apply Kd.R_drewN | apply Kd.R_drew)); exact HO_9.out) hb); have n1_ := Aside0.mk (Kd.R_elder' (by (with_reducible repeat (first | apply Kd.R_alloc | apply Kd.R_drewN | apply Kd.R_drew)); exact HO317.out) (Kd.R_base ho72) hb); have n2_ := Aside0.mk (Kd.R_below (by (with_reducible repeat (first | apply Kd.R_alloc | apply Kd.R_drewN | apply Kd.R_drew)); exact HO321.out) hb); have n3_ := Aside0.mk (Kd.R_lower (Kd.R_new' ho72 (Kd.R_lt (by (with_reducible repeat (first | apply Kd.R_alloc | apply Kd.R_drewN | apply Kd.R_drew)); exact HO317.out))) (below_size (by repeat (first | (with_reducible first | exact HB.out | apply below_alloc | apply pw_below_drewN | apply below_drew1) | exact HB.out)))); have n4_ := Aside0.mk (below_step (by repeat (first | (with_reducible first | exact HB.out | apply below_alloc | apply pw_below_drewN | apply below_drew1) | exact HB.out)) hb); clear HO_9; clear HO317; clear HO321; clear HB; have HO_9 := n0_; have HO317 := n1_; have HO321 := n2_; have HO324 := n3_; have HB := n4_; clear n0_ n1_ n2_ n3_ n4_; clear hb ho72; obtain ⟨Ao73, co73, eo73⟩ := Kd.R_slice HO324.out; subst eo73) | (go_at_call 39; (with_reducible refine (solve_Share.calls k3 a0 _ _ y322 t325 t326 _ ?side1 ?side2 A54.out).mono ?_); (case side1 => repeat (first | exact (Kd.R_reads' HO324.out).2.2 | (with_reducible refine Kd.C_alloc ?_ _) | (with_reducible refine Kd.C_drewN ?_ _) | (with_reducible refine Kd.C_drew ?_))); (case side2 => exact (Kd.R_reads' HO324.out).2.1); rintro e w74 ⟨v327, rfl, ho0, hb⟩; have n0_ := Aside0.mk (Kd.R_elder' (by (with_reducible repeat (first | apply Kd.R_alloc | apply Kd.R_drewN | apply Kd.R_drew)); exact HO_9.out) (Kd.R_base ho0) hb); have n1_ := Aside0.mk (Kd.R_below (by (with_reducible repeat (first | apply Kd.R_alloc | apply Kd.R_drewN | apply Kd.R_drew)); exact HO317.out) hb); have n2_ := Aside0.mk (Kd.R_elder' (by (with_reducible repeat (first | apply Kd.R_alloc | apply Kd.R_drewN | apply Kd.R_drew)); exact HO321.out) (Kd.R_base ho0) hb); have n3_ := Aside0.mk (Kd.R_below (by (with_reducible repeat (first | apply Kd.R_alloc | apply Kd.R_drewN | apply Kd.R_drew)); exact HO324.out) hb); have n4_ := Aside0.mk (Kd.R_lower (Kd.R_new' (Kd.R_new' ho0 (Kd.R_lt (by (with_reducible repeat (first | apply Kd.R_alloc | apply Kd.R_drewN | apply Kd.R_drew)); exact HO_9.out))) (Kd.R_lt (by (with_reducible repeat (first | apply Kd.R_alloc | apply Kd.R_drewN | apply Kd.R_drew)); exact HO321.out))) (below_size (by repeat (first | (with_reducible first | exact HB.out | apply below_alloc | apply pw_below_drewN | apply below_drew1) | exact HB.out)))); have n5_ := Aside0.mk (below_step (by repeat (first | (with_reducible first | exact HB.out | apply below_alloc | apply pw_below_drewN | apply below_drew1) | exact HB.out)) hb); clear HO_9; clear HO317; clear HO321; clear HO324; clear HB; have HO_9 := n0_; have HO317 := n1_; have HO321 := n2_; have HO324 := n3_; have HO328 := n4_; have HB := n5_; clear n0_ n1_ n2_ n3_ n4_ n5_; (try clear hb); (try clear hb2); (try clear hk); (try clear hi); (try clear ho0); obtain ⟨Ao75, co75, eo75⟩ := Kd.R_slice HO321.out; subst eo75; obtain ⟨Ao76, co76, eo76⟩ := Kd.R_slice HO328.out; subst eo76; have p329 : 0 ≤ (0 : Int) := (by omega); have q329 : 0 < (t318.length : Int) := of_decide_eq_true (by first | (with_reducible assumption) | assumption); obtain ⟨ad329, e329, hx329_0⟩ := Kd.at_int (Kd.R_reads' HO321.out).2.2 0 p329 q329; cases e329; have qi329 : (0 < t318.length) = True := eq_true (by omega); (try rw [show ((0 : Int)).toNat = 0 from rfl] at hx329_0); (try rw [Addr.add_zero'] at hx329_0); replace p329 := eq_true p329; replace q329 := eq_true q329; have p330 : 0 ≤ (1 : Int) := (by omega); have q330 : 1 < (t318.length : Int) := of_decide_eq_true (by first | (with_reducible assumption) | assumption); obtain ⟨ad330, e330, hx330_0⟩ := Kd.at_int (Kd.R_reads' HO321.out).2.2 1 p330 q330; obtain rfl : ad329 = ad330 := (by injection e330); (try simp only [show (1 : Int).toNat = 1 from rfl, Nat.reduceMul, Nat.reduceEqDiff, Go.Addr.add, ↓reduceIte] at hx330_0); have qi330 : (1 < t318.length) = True := eq_true (by omega); (try rw [show ((1 : Int)).toNat = 1 from rfl] at hx330_0); replace p330 := eq_true p330; replace q330 := eq_true q330; have p331 : 0 ≤ (0 : Int) := (by omega); have q331 : 0 < (t318.length : Int) := of_decide_eq_true (by first | (with_reducible assumption) | assumption); obtain ⟨ad331, e331, hx331_0⟩ := Kd.at_int (Kd.R_reads' HO321.out).2.2 0 p331 q331; obtain rfl : ad329 = ad331 := (by injection e331); have qi331 : (0 < t318.length) = True := eq_true (by omega); (try rw [show ((0 : Int)).toNat = 0 from rfl] at hx331_0); (try rw [Addr.add_zero'] at hx331_0); replace p331 := eq_true p331; replace q331 := eq_true q331; have p332 : 0 ≤ (0 : Int) := (by omega); have q332 : 0 < (t325.length : Int) := of_decide_eq_true (by first | (with_reducible assumption) | assumption); obtain ⟨ad332, e332, hx332_0⟩ := Kd.at_int (Kd.R_reads' HO328.out).2.2 0 p332 q332; cases e332; have qi332 : (0 < t325.length) = True := eq_true (by omega); (try rw [show ((0 : Int)).toNat = 0 from rfl] at hx332_0); (try rw [Addr.add_zero'] at hx332_0); replace p332 := eq_true p332; replace q332 := eq_true q332; have p333 : 0 ≤ (1 : Int) := (by omega); have q333 : 1 < (t325.length : Int) := of_decide_eq_true (by first | (with_reducible assumption) | assumption); obtain ⟨ad333, e333, hx333_0⟩ := Kd.at_int (Kd.R_reads' HO328.out).2.2 1 p333 q333; obtain rfl : ad332 = ad333 := (by injection e333); (try simp only [show (1 : Int).toNat = 1 from rfl, Nat.reduceMul, Nat.reduceEqDiff, Go.Addr.add, ↓reduceIte] at hx333_0); have qi333 : (1 < t325.length) = True := eq_true (by omega); (try rw [show ((1 : Int)).toNat = 1 from rfl] at hx333_0); replace p333 := eq_true p333; replace q333 := eq_true q333))
                                                  repeat (go_quiet (first | ((with_reducible refine gate_dst (N := 98) rfl ?_); (try (refine gate_guard (by rfl) ?_; dsimp only)); refine Kd.R_lit k70 _ 70 ?hg (N := 98) ?hd (xs := ([(⟨1, wrap64 (1 + (Go.bits .and .i64 a2 127))⟩ : S70), (⟨0, 0⟩ : S70)] : List (S70))) (inner := [.int .i64 1, .int .i64 (wrap64 (1 + (Go.bits .and .i64 a2 127))), .int .i64 0, .int .i64 0]) (ok := fun _ => True) (okp := fun _ => True) ?hr ?hp (fun _ hk => hk) trivial (Below.refl _ _) (Nat.le_refl _) (by simp) ?_; (case hd => rfl); (case hg => rfl); (case hr => first | (go_simp; done) | (go_simp; rfl)); (case hp => exact (Reps.c2 (show Kd.M k70 _ _ _ (⟨1, wrap64 (1 + (Go.bits .and .i64 a2 127))⟩ : S70) [.int .i64 1, .int .i64 (wrap64 (1 + (Go.bits .and .i64 a2 127)))] from (k70_mkM _ _ _ (⟨1, wrap64 (1 + (Go.bits .and .i64 a2 127))⟩ : S70) )) (Reps.c2 (show Kd.M k70 _ _ _ (⟨0, 0⟩ : S70) [.int .i64 0, .int .i64 0] from (k70_mkM _ _ _ (⟨0, 0⟩ : S70) )) (Reps.none _ _)))); intro v316 w67 ho68 hb hg_ hnew_; clear hg_ hnew_; (first | rw [← Ny315.out] at ho68 | (simp only [Int.reduceToNat] at ho68; rw [← Ny315.out] at ho68)); have n0_ := Aside0.mk (Kd.R_below (by (with_reducible repeat (first | apply Kd.R_alloc | apply Kd.R_drewN | apply Kd.R_drew)); exact HO_9.out) hb); have n1_ := Aside0.mk (Kd.R_lower ho68 (below_size (by repeat (first | (with_reducible first | exact HB.out | apply below_alloc | apply pw_below_drewN | apply below_drew1) | exact HB.out)))); have n2_ := Aside0.mk (below_step (by repeat (first | (with_reducible first | exact HB.out | apply below_alloc | apply pw_below_drewN | apply below_drew1) | exact HB.out)) hb); clear HO_9; clear HB; have HO_9 := n0_; have HO317 := n1_; have HB := n2_; clear n0_ n1_ n2_; clear hb ho68; obtain ⟨Ao69, co69, eo69⟩ := Kd.R_slice HO317.out; subst eo69) | (go_at_call 39; (with_reducible refine (solve_Share.calls k3 a0 _ _ y315 t318 t319 _ ?side1 ?side2 A53.out).mono ?_); (case side1 => repeat (first | exact (Kd.R_reads' HO317.out).2.2 | (with_reducible refine Kd.C_alloc ?_ _) | (with_reducible refine Kd.C_drewN ?_ _) | (with_reducible refine Kd.C_drew ?_))); (case side2 => exact (Kd.R_reads' HO317.out).2.1); rintro e w70 ⟨v320, rfl, ho0, hb⟩; have n0_ := Aside0.mk (Kd.R_elder' (by (with_reducible repeat (first | apply Kd.R_alloc | apply Kd.R_drewN | apply Kd.R_drew)); exact HO_9.out) (Kd.R_base ho0) hb); have n1_ := Aside0.mk (Kd.R_below (by (with_reducible repeat (first | apply Kd.R_alloc | apply Kd.R_drewN | apply Kd.R_drew)); exact HO317.out) hb); have n2_ := Aside0.mk (Kd.R_lower (Kd.R_new' ho0 (Kd.R_lt (by (with_reducible repeat (first | apply Kd.R_alloc | apply Kd.R_drewN | apply Kd.R_drew)); exact HO_9.out))) (below_size (by repeat (first | (with_reducible first | exact HB.out | apply below_alloc | apply pw_below_drewN | apply below_drew1) | exact HB.out)))); have n3_ := Aside0.mk (below_step (by repeat (first | (with_reducible first | exact HB.out | apply below_alloc | apply pw_below_drewN | apply below_drew1) | exact HB.out)) hb); clear HO_9; clear HO317; clear HB; have HO_9 := n0_; have HO317 := n1_; have HO321 := n2_; have HB := n3_; clear n0_ n1_ n2_ n3_; (try clear hb); (try clear hb2); (try clear hk); (try clear hi); (try clear ho0)) | ((with_reducible refine gate_dst (N := 106) rfl ?_); (try (refine gate_guard (by rfl) ?_; dsimp only)); refine Kd.R_lit k70 _ 70 ?hg (N := 106) ?hd (xs := ([(⟨0, 0⟩ : S70), (⟨2, 100⟩ : S70)] : List (S70))) (inner := [.int .i64 0, .int .i64 0, .int .i64 2, .int .i64 100]) (ok := fun _ => True) (okp := fun _ => True) ?hr ?hp (fun _ hk => hk) trivial (Below.refl _ _) (Nat.le_refl _) (by simp) ?_; (case hd => rfl); (case hg => rfl); (case hr => first | (go_simp; done) | (go_simp; rfl)); (case hp => exact (Reps.c2 (show Kd.M k70 _ _ _ (⟨0, 0⟩ : S70) [.int .i64 0, .int .i64 0] from (k70_mkM _ _ _ (⟨0, 0⟩ : S70) )) (Reps.c2 (show Kd.M k70 _ _ _ (⟨2, 100⟩ : S70) [.int .i64 2, .int .i64 100] from (k70_mkM _ _ _ (⟨2, 100⟩ : S70) )) (Reps.none _ _)))); intro v323 w71 ho72 hb hg_ hnew_; clear hg_ hnew_; (first | rw [← Ny322.out] at ho72 | (simp only [Int.reduceToNat] at ho72; rw [← Ny322.out] at ho72)); have n0_ := Aside0.mk (Kd.R_below (by (with_reducible repeat (first | apply Kd.R_alloc | apply Kd.R_drewN | apply Kd.R_drew)); exact HO_9.out) hb); have n1_ := Aside0.mk (Kd.R_elder' (by (with_reducible repeat (first | apply Kd.R_alloc | apply Kd.R_drewN | apply Kd.R_drew)); exact HO317.out) (Kd.R_base ho72) hb); have n2_ := Aside0.mk (Kd.R_below (by (with_reducible repeat (first | apply Kd.R_alloc | apply Kd.R_drewN | apply Kd.R_drew)); exact HO321.out) hb); have n3_ := Aside0.mk (Kd.R_lower (Kd.R_new' ho72 (Kd.R_lt (by (with_reducible repeat (first | apply Kd.R_alloc | apply Kd.R_drewN | apply Kd.R_drew)); exact HO317.out))) (below_size (by repeat (first | (with_reducible first | exact HB.out | apply below_alloc | apply pw_below_drewN | apply below_drew1) | exact HB.out)))); have n4_ := Aside0.mk (below_step (by repeat (first | (with_reducible first | exact HB.out | apply below_alloc | apply pw_below_drewN | apply below_drew1) | exact HB.out)) hb); clear HO_9; clear HO317; clear HO321; clear HB; have HO_9 := n0_; have HO317 := n1_; have HO321 := n2_; have HO324 := n3_; have HB := n4_; clear n0_ n1_ n2_ n3_ n4_; clear hb ho72; obtain ⟨Ao73, co73, eo73⟩ := Kd.R_slice HO324.out; subst eo73) | (go_at_call 39; (with_reducible refine (solve_Share.calls k3 a0 _ _ y322 t325 t326 _ ?side1 ?side2 A54.out).mono ?_); (case side1 => repeat (first | exact (Kd.R_reads' HO324.out).2.2 | (with_reducible refine Kd.C_alloc ?_ _) | (with_reducible refine Kd.C_drewN ?_ _) | (with_reducible refine Kd.C_drew ?_))); (case side2 => exact (Kd.R_reads' HO324.out).2.1); rintro e w74 ⟨v327, rfl, ho0, hb⟩; have n0_ := Aside0.mk (Kd.R_elder' (by (with_reducible repeat (first | apply Kd.R_alloc | apply Kd.R_drewN | apply Kd.R_drew)); exact HO_9.out) (Kd.R_base ho0) hb); have n1_ := Aside0.mk (Kd.R_below (by (with_reducible repeat (first | apply Kd.R_alloc | apply Kd.R_drewN | apply Kd.R_drew)); exact HO317.out) hb); have n2_ := Aside0.mk (Kd.R_elder' (by (with_reducible repeat (first | apply Kd.R_alloc | apply Kd.R_drewN | apply Kd.R_drew)); exact HO321.out) (Kd.R_base ho0) hb); have n3_ := Aside0.mk (Kd.R_below (by (with_reducible repeat (first | apply Kd.R_alloc | apply Kd.R_drewN | apply Kd.R_drew)); exact HO324.out) hb); have n4_ := Aside0.mk (Kd.R_lower (Kd.R_new' (Kd.R_new' ho0 (Kd.R_lt (by (with_reducible repeat (first | apply Kd.R_alloc | apply Kd.R_drewN | apply Kd.R_drew)); exact HO_9.out))) (Kd.R_lt (by (with_reducible repeat (first | apply Kd.R_alloc | apply Kd.R_drewN | apply Kd.R_drew)); exact HO321.out))) (below_size (by repeat (first | (with_reducible first | exact HB.out | apply below_alloc | apply pw_below_drewN | apply below_drew1) | exact HB.out)))); have n5_ := Aside0.mk (below_step (by repeat (first | (with_reducible first | exact HB.out | apply below_alloc | apply pw_below_drewN | apply below_drew1) | exact HB.out)) hb); clear HO_9; clear HO317; clear HO321; clear HO324; clear HB; have HO_9 := n0_; have HO317 := n1_; have HO321 := n2_; have HO324 := n3_; have HO328 := n4_; have HB := n5_; clear n0_ n1_ n2_ n3_ n4_ n5_; (try clear hb); (try clear hb2); (try clear hk); (try clear hi); (try clear ho0); obtain ⟨Ao75, co75, eo75⟩ := Kd.R_slice HO321.out; subst eo75; obtain ⟨Ao76, co76, eo76⟩ := Kd.R_slice HO328.out; subst eo76; have p329 : 0 ≤ (0 : Int) := (by omega); have q329 : 0 < (t318.length : Int) := of_decide_eq_true (by first | (with_reducible assumption) | assumption); obtain ⟨ad329, e329, hx329_0⟩ := Kd.at_int (Kd.R_reads' HO321.out).2.2 0 p329 q329; cases e329; have qi329 : (0 < t318.length) = True := eq_true (by omega); (try rw [show ((0 : Int)).toNat = 0 from rfl] at hx329_0); (try rw [Addr.add_zero'] at hx329_0); replace p329 := eq_true p329; replace q329 := eq_true q329; have p330 : 0 ≤ (1 : Int) := (by omega); have q330 : 1 < (t318.length : Int) := of_decide_eq_true (by first | (with_reducible assumption) | assumption); obtain ⟨ad330, e330, hx330_0⟩ := Kd.at_int (Kd.R_reads' HO321.out).2.2 1 p330 q330; obtain rfl : ad329 = ad330 := (by injection e330); (try simp only [show (1 : Int).toNat = 1 from rfl, Nat.reduceMul, Nat.reduceEqDiff, Go.Addr.add, ↓reduceIte] at hx330_0); have qi330 : (1 < t318.length) = True := eq_true (by omega); (try rw [show ((1 : Int)).toNat = 1 from rfl] at hx330_0); replace p330 := eq_true p330; replace q330 := eq_true q330; have p331 : 0 ≤ (0 : Int) := (by omega); have q331 : 0 < (t318.length : Int) := of_decide_eq_true (by first | (with_reducible assumption) | assumption); obtain ⟨ad331, e331, hx331_0⟩ := Kd.at_int (Kd.R_reads' HO321.out).2.2 0 p331 q331; obtain rfl : ad329 = ad331 := (by injection e331); have qi331 : (0 < t318.length) = True := eq_true (by omega); (try rw [show ((0 : Int)).toNat = 0 from rfl] at hx331_0); (try rw [Addr.add_zero'] at hx331_0); replace p331 := eq_true p331; replace q331 := eq_true q331; have p332 : 0 ≤ (0 : Int) := (by omega); have q332 : 0 < (t325.length : Int) := of_decide_eq_true (by first | (with_reducible assumption) | assumption); obtain ⟨ad332, e332, hx332_0⟩ := Kd.at_int (Kd.R_reads' HO328.out).2.2 0 p332 q332; cases e332; have qi332 : (0 < t325.length) = True := eq_true (by omega); (try rw [show ((0 : Int)).toNat = 0 from rfl] at hx332_0); (try rw [Addr.add_zero'] at hx332_0); replace p332 := eq_true p332; replace q332 := eq_true q332; have p333 : 0 ≤ (1 : Int) := (by omega); have q333 : 1 < (t325.length : Int) := of_decide_eq_true (by first | (with_reducible assumption) | assumption); obtain ⟨ad333, e333, hx333_0⟩ := Kd.at_int (Kd.R_reads' HO328.out).2.2 1 p333 q333; obtain rfl : ad332 = ad333 := (by injection e333); (try simp only [show (1 : Int).toNat = 1 from rfl, Nat.reduceMul, Nat.reduceEqDiff, Go.Addr.add, ↓reduceIte] at hx333_0); have qi333 : (1 < t325.length) = True := eq_true (by omega); (try rw [show ((1 : Int)).toNat = 1 from rfl] at hx333_0); replace p333 := eq_true p333; replace q333 := eq_true q333)); try go_wp2_with (first | ((with_reducible refine gate_dst (N := 98) rfl ?_); (try (refine gate_guard (by rfl) ?_; dsimp only)); refine Kd.R_lit k70 _ 70 ?hg (N := 98) ?hd (xs := ([(⟨1, wrap64 (1 + (Go.bits .and .i64 a2 127))⟩ : S70), (⟨0, 0⟩ : S70)] : List (S70))) (inner := [.int .i64 1, .int .i64 (wrap64 (1 + (Go.bits .and .i64 a2 127))), .int .i64 0, .int .i64 0]) (ok := fun _ => True) (okp := fun _ => True) ?hr ?hp (fun _ hk => hk) trivial (Below.refl _ _) (Nat.le_refl _) (by simp) ?_; (case hd => rfl); (case hg => rfl); (case hr => first | (go_simp; done) | (go_simp; rfl)); (case hp => exact (Reps.c2 (show Kd.M k70 _ _ _ (⟨1, wrap64 (1 + (Go.bits .and .i64 a2 127))⟩ : S70) [.int .i64 1, .int .i64 (wrap64 (1 + (Go.bits .and .i64 a2 127)))] from (k70_mkM _ _ _ (⟨1, wrap64 (1 + (Go.bits .and .i64 a2 127))⟩ : S70) )) (Reps.c2 (show Kd.M k70 _ _ _ (⟨0, 0⟩ : S70) [.int .i64 0, .int .i64 0] from (k70_mkM _ _ _ (⟨0, 0⟩ : S70) )) (Reps.none _ _)))); intro v316 w67 ho68 hb hg_ hnew_; clear hg_ hnew_; (first | rw [← Ny315.out] at ho68 | (simp only [Int.reduceToNat] at ho68; rw [← Ny315.out] at ho68)); have n0_ := Aside0.mk (Kd.R_below (by (with_reducible repeat (first | apply Kd.R_alloc | apply Kd.R_drewN | apply Kd.R_drew)); exact HO_9.out) hb); have n1_ := Aside0.mk (Kd.R_lower ho68 (below_size (by repeat (first | (with_reducible first | exact HB.out | apply below_alloc | apply pw_below_drewN | apply below_drew1) | exact HB.out)))); have n2_ := Aside0.mk (below_step (by repeat (first | (with_reducible first | exact HB.out | apply below_alloc | apply pw_below_drewN | apply below_drew1) | exact HB.out)) hb); clear HO_9; clear HB; have HO_9 := n0_; have HO317 := n1_; have HB := n2_; clear n0_ n1_ n2_; clear hb ho68; obtain ⟨Ao69, co69, eo69⟩ := Kd.R_slice HO317.out; subst eo69) | (go_at_call 39; (with_reducible refine (solve_Share.calls k3 a0 _ _ y315 t318 t319 _ ?side1 ?side2 A53.out).mono ?_); (case side1 => repeat (first | exact (Kd.R_reads' HO317.out).2.2 | (with_reducible refine Kd.C_alloc ?_ _) | (with_reducible refine Kd.C_drewN ?_ _) | (with_reducible refine Kd.C_drew ?_))); (case side2 => exact (Kd.R_reads' HO317.out).2.1); rintro e w70 ⟨v320, rfl, ho0, hb⟩; have n0_ := Aside0.mk (Kd.R_elder' (by (with_reducible repeat (first | apply Kd.R_alloc | apply Kd.R_drewN | apply Kd.R_drew)); exact HO_9.out) (Kd.R_base ho0) hb); have n1_ := Aside0.mk (Kd.R_below (by (with_reducible repeat (first | apply Kd.R_alloc | apply Kd.R_drewN | apply Kd.R_drew)); exact HO317.out) hb); have n2_ := Aside0.mk (Kd.R_lower (Kd.R_new' ho0 (Kd.R_lt (by (with_reducible repeat (first | apply Kd.R_alloc | apply Kd.R_drewN | apply Kd.R_drew)); exact HO_9.out))) (below_size (by repeat (first | (with_reducible first | exact HB.out | apply below_alloc | apply pw_below_drewN | apply below_drew1) | exact HB.out)))); have n3_ := Aside0.mk (below_step (by repeat (first | (with_reducible first | exact HB.out | apply below_alloc | apply pw_below_drewN | apply below_drew1) | exact HB.out)) hb); clear HO_9; clear HO317; clear HB; have HO_9 := n0_; have HO317 := n1_; have HO321 := n2_; have HB := n3_; clear n0_ n1_ n2_ n3_; (try clear hb); (try clear hb2); (try clear hk); (try clear hi); (try clear ho0)) | ((with_reducible refine gate_dst (N := 106) rfl ?_); (try (refine gate_guard (by rfl) ?_; dsimp only)); refine Kd.R_lit k70 _ 70 ?hg (N := 106) ?hd (xs := ([(⟨0, 0⟩ : S70), (⟨2, 100⟩ : S70)] : List (S70))) (inner := [.int .i64 0, .int .i64 0, .int .i64 2, .int .i64 100]) (ok := fun _ => True) (okp := fun _ => True) ?hr ?hp (fun _ hk => hk) trivial (Below.refl _ _) (Nat.le_refl _) (by simp) ?_; (case hd => rfl); (case hg => rfl); (case hr => first | (go_simp; done) | (go_simp; rfl)); (case hp => exact (Reps.c2 (show Kd.M k70 _ _ _ (⟨0, 0⟩ : S70) [.int .i64 0, .int .i64 0] from (k70_mkM _ _ _ (⟨0, 0⟩ : S70) )) (Reps.c2 (show Kd.M k70 _ _ _ (⟨2, 100⟩ : S70) [.int .i64 2, .int .i64 100] from (k70_mkM _ _ _ (⟨2, 100⟩ : S70) )) (Reps.none _ _)))); intro v323 w71 ho72 hb hg_ hnew_; clear hg_ hnew_; (first | rw [← Ny322.out] at ho72 | (simp only [Int.reduceToNat] at ho72; rw [← Ny322.out] at ho72)); have n0_ := Aside0.mk (Kd.R_below (by (with_reducible repeat (first | apply Kd.R_alloc | apply Kd.R_drewN | apply Kd.R_drew)); exact HO_9.out) hb); have n1_ := Aside0.mk (Kd.R_elder' (by (with_reducible repeat (first | apply Kd.R_alloc | apply Kd.R_drewN | apply Kd.R_drew)); exact HO317.out) (Kd.R_base ho72) hb); have n2_ := Aside0.mk (Kd.R_below (by (with_reducible repeat (first | apply Kd.R_alloc | apply Kd.R_drewN | apply Kd.R_drew)); exact HO321.out) hb); have n3_ := Aside0.mk (Kd.R_lower (Kd.R_new' ho72 (Kd.R_lt (by (with_reducible repeat (first | apply Kd.R_alloc | apply Kd.R_drewN | apply Kd.R_drew)); exact HO317.out))) (below_size (by repeat (first | (with_reducible first | exact HB.out | apply below_alloc | apply pw_below_drewN | apply below_drew1) | exact HB.out)))); have n4_ := Aside0.mk (below_step (by repeat (first | (with_reducible first | exact HB.out | apply below_alloc | apply pw_below_drewN | apply below_drew1) | exact HB.out)) hb); clear HO_9; clear HO317; clear HO321; clear HB; have HO_9 := n0_; have HO317 := n1_; have HO321 := n2_; have HO324 := n3_; have HB := n4_; clear n0_ n1_ n2_ n3_ n4_; clear hb ho72; obtain ⟨Ao73, co73, eo73⟩ := Kd.R_slice HO324.out; subst eo73) | (go_at_call 39; (with_reducible refine (solve_Share.calls k3 a0 _ _ y322 t325 t326 _ ?side1 ?side2 A54.out).mono ?_); (case side1 => repeat (first | exact (Kd.R_reads' HO324.out).2.2 | (with_reducible refine Kd.C_alloc ?_ _) | (with_reducible refine Kd.C_drewN ?_ _) | (with_reducible refine Kd.C_drew ?_))); (case side2 => exact (Kd.R_reads' HO324.out).2.1); rintro e w74 ⟨v327, rfl, ho0, hb⟩; have n0_ := Aside0.mk (Kd.R_elder' (by (with_reducible repeat (first | apply Kd.R_alloc | apply Kd.R_drewN | apply Kd.R_drew)); exact HO_9.out) (Kd.R_base ho0) hb); have n1_ := Aside0.mk (Kd.R_below (by (with_reducible repeat (first | apply Kd.R_alloc | apply Kd.R_drewN | apply Kd.R_drew)); exact HO317.out) hb); have n2_ := Aside0.mk (Kd.R_elder' (by (with_reducible repeat (first | apply Kd.R_alloc | apply Kd.R_drewN | apply Kd.R_drew)); exact HO321.out) (Kd.R_base ho0) hb); have n3_ := Aside0.mk (Kd.R_below (by (with_reducible repeat (first | apply Kd.R_alloc | apply Kd.R_drewN | apply Kd.R_drew)); exact HO324.out) hb); have n4_ := Aside0.mk (Kd.R_lower (Kd.R_new' (Kd.R_new' ho0 (Kd.R_lt (by (with_reducible repeat (first | apply Kd.R_alloc | apply Kd.R_drewN | apply Kd.R_drew)); exact HO_9.out))) (Kd.R_lt (by (with_reducible repeat (first | apply Kd.R_alloc | apply Kd.R_drewN | apply Kd.R_drew)); exact HO321.out))) (below_size (by repeat (first | (with_reducible first | exact HB.out | apply below_alloc | apply pw_below_drewN | apply below_drew1) | exact HB.out)))); have n5_ := Aside0.mk (below_step (by repeat (first | (with_reducible first | exact HB.out | apply below_alloc | apply pw_below_drewN | apply below_drew1) | exact HB.out)) hb); clear HO_9; clear HO317; clear HO321; clear HO324; clear HB; have HO_9 := n0_; have HO317 := n1_; have HO321 := n2_; have HO324 := n3_; have HO328 := n4_; have HB := n5_; clear n0_ n1_ n2_ n3_ n4_ n5_; (try clear hb); (try clear hb2); (try clear hk); (try clear hi); (try clear ho0); obtain ⟨Ao75, co75, eo75⟩ := Kd.R_slice HO321.out; subst eo75; obtain ⟨Ao76, co76, eo76⟩ := Kd.R_slice HO328.out; subst eo76; have p329 : 0 ≤ (0 : Int) := (by omega); have q329 : 0 < (t318.length : Int) := of_decide_eq_true (by first | (with_reducible assumption) | assumption); obtain ⟨ad329, e329, hx329_0⟩ := Kd.at_int (Kd.R_reads' HO321.out).2.2 0 p329 q329; cases e329; have qi329 : (0 < t318.length) = True := eq_true (by omega); (try rw [show ((0 : Int)).toNat = 0 from rfl] at hx329_0); (try rw [Addr.add_zero'] at hx329_0); replace p329 := eq_true p329; replace q329 := eq_true q329; have p330 : 0 ≤ (1 : Int) := (by omega); have q330 : 1 < (t318.length : Int) := of_decide_eq_true (by first | (with_reducible assumption) | assumption); obtain ⟨ad330, e330, hx330_0⟩ := Kd.at_int (Kd.R_reads' HO321.out).2.2 1 p330 q330; obtain rfl : ad329 = ad330 := (by injection e330); (try simp only [show (1 : Int).toNat = 1 from rfl, Nat.reduceMul, Nat.reduceEqDiff, Go.Addr.add, ↓reduceIte] at hx330_0); have qi330 : (1 < t318.length) = True := eq_true (by omega); (try rw [show ((1 : Int)).toNat = 1 from rfl] at hx330_0); replace p330 := eq_true p330; replace q330 := eq_true q330; have p331 : 0 ≤ (0 : Int) := (by omega); have q331 : 0 < (t318.length : Int) := of_decide_eq_true (by first | (with_reducible assumption) | assumption); obtain ⟨ad331, e331, hx331_0⟩ := Kd.at_int (Kd.R_reads' HO321.out).2.2 0 p331 q331; obtain rfl : ad329 = ad331 := (by injection e331); have qi331 : (0 < t318.length) = True := eq_true (by omega); (try rw [show ((0 : Int)).toNat = 0 from rfl] at hx331_0); (try rw [Addr.add_zero'] at hx331_0); replace p331 := eq_true p331; replace q331 := eq_true q331; have p332 : 0 ≤ (0 : Int) := (by omega); have q332 : 0 < (t325.length : Int) := of_decide_eq_true (by first | (with_reducible assumption) | assumption); obtain ⟨ad332, e332, hx332_0⟩ := Kd.at_int (Kd.R_reads' HO328.out).2.2 0 p332 q332; cases e332; have qi332 : (0 < t325.length) = True := eq_true (by omega); (try rw [show ((0 : Int)).toNat = 0 from rfl] at hx332_0); (try rw [Addr.add_zero'] at hx332_0); replace p332 := eq_true p332; replace q332 := eq_true q332; have p333 : 0 ≤ (1 : Int) := (by omega); have q333 : 1 < (t325.length : Int) := of_decide_eq_true (by first | (with_reducible assumption) | assumption); obtain ⟨ad333, e333, hx333_0⟩ := Kd.at_int (Kd.R_reads' HO328.out).2.2 1 p333 q333; obtain rfl : ad332 = ad333 := (by injection e333); (try simp only [show (1 : Int).toNat = 1 from rfl, Nat.reduceMul, Nat.reduceEqDiff, Go.Addr.add, ↓reduceIte] at hx333_0); have qi333 : (1 < t325.length) = True := eq_true (by omega); (try rw [show ((1 : Int)).toNat = 1 from rfl] at hx333_0); replace p333 := eq_true p333; replace q333 := eq_true q333)))
                                                  go_ret
                                                  exact ⟨by first | rfl | (simp [errW_none, errW_some] <;> rfl) | (simp only [← hji30, ← hji60]; first | rfl | (simp [errW_none, errW_some] <;> rfl)) | (simp [*, errW_none, errW_some] <;> rfl), by repeat (first | (with_reducible first | exact HB.out | apply below_alloc | apply pw_below_drewN | apply below_drew1) | exact HB.out)⟩
                                                · rw [if_neg c66] at H
                                                  exact absurd H (by simp)
                                              · rw [if_neg c65] at H
                                                have c65b0 : ((rd t325 0) == 1) = false := beq_eq_false_iff_ne.mpr c65
                                                have c65b1 : ((rd t325 0) != 1) = true := bne_iff_ne.mpr c65
                                                exact absurd ((Option.some.inj H).trans HRT.out) (by decide)
                                            · rw [if_neg c64] at H
                                              exact absurd H (by simp)
                                          · rw [if_neg c63] at H
                                            have c63b0 : ((rd t318 1) == (wrap64 (a0 - (rd t318 0)))) = false := beq_eq_false_iff_ne.mpr c63
                                            have c63b1 : ((rd t318 1) != (wrap64 (a0 - (rd t318 0)))) = true := bne_iff_ne.mpr c63
                                            exact absurd ((Option.some.inj H).trans HRT.out) (by decide)
                                        · rw [if_neg c62] at H
                                          exact absurd H (by simp)
                                      · rw [if_neg c61] at H
                                        have c61b0 : ((rd t318 0) == (ji60)) = false := beq_eq_false_iff_ne.mpr c61
                                        have c61b1 : ((rd t318 0) != (ji60)) = true := bne_iff_ne.mpr c61
                                        exact absurd ((Option.some.inj H).trans HRT.out) (by decide)
                                    · rw [if_neg c59] at H
                                      exact absurd H (by simp)
                                  · rw [if_neg c58] at H
                                    have c58b0 : ((t325.length : Int) == 2) = false := beq_eq_false_iff_ne.mpr c58
                                    have c58b1 : ((t325.length : Int) != 2) = true := bne_iff_ne.mpr c58
                                    exact absurd ((Option.some.inj H).trans HRT.out) (by decide)
                                · rw [if_neg c57] at H
                                  have c57b0 : ((t318.length : Int) == 2) = false := beq_eq_false_iff_ne.mpr c57
                                  have c57b1 : ((t318.length : Int) != 2) = true := bne_iff_ne.mpr c57
                                  exact absurd ((Option.some.inj H).trans HRT.out) (by decide)
                              · rw [if_neg c56] at H
                                have c56b0 : (t326 == 0) = false := beq_eq_false_iff_ne.mpr c56
                                have c56b1 : (t326 != 0) = true := bne_iff_ne.mpr c56
                                exact absurd ((Option.some.inj H).trans HRT.out) (by decide)
                            · rw [if_neg c55] at H
                              have c55b0 : (t319 == 0) = false := beq_eq_false_iff_ne.mpr c55
                              have c55b1 : (t319 != 0) = true := bne_iff_ne.mpr c55
                              exact absurd ((Option.some.inj H).trans HRT.out) (by decide)
            · rw [if_neg c32] at H
              exact absurd H (by simp)
          · rw [if_neg c31] at H
            exact absurd H (by simp)
  · replace c5 := Bool.eq_false_iff.mpr c5
    subst c5
    have H1 : (some false) = some r := by rw [if_neg (show ¬ (false = true) by decide)] at H; exact H
    clear H
    have H := H1
    clear H1
    exact absurd ((Option.some.inj H).trans HRT.out) (by decide)

def casementlaw09_SolveAlike.Pure : Prop := ∀ (a0 : Int) (a1 : Int) (a2 : Int), ((Lit.int .i64 a0).wf = true) → ((Lit.int .i64 a1).wf = true) → ((Lit.int .i64 a2).wf = true) → ∃ k, casementlaw09_SolveAlike.f k a0 a1 a2 = some true
theorem casementlaw09_SolveAlike.walk (P : casementlaw09_SolveAlike.Pure) (a0 : Int) (a1 : Int) (a2 : Int) (w : World) (wl0 : ((Lit.int .i64 a0).wf = true)) (wl1 : ((Lit.int .i64 a1).wf = true)) (wl2 : ((Lit.int .i64 a2).wf = true))  :
    Calls Try.prog 11 #[.int .i64 a0, .int .i64 a1, .int .i64 a2] w fun e w' => e = .returned (.bool true) ∧ Below w.heap.size w w' := by
  obtain ⟨k, h⟩ := P a0 a1 a2 wl0 wl1 wl2
  refine (casementlaw09_SolveAlike.calls k a0 a1 a2 true w  h rfl).mono ?_
  rintro e w' ⟨rfl, hd⟩
  exact ⟨rfl, hd⟩

end Go.Proofs.Ythllpilgfipkpaa.Q
