-- written by a program of this session after the way of the kit's print; not the kit's own print. Lean checks it.
import Derived.Test.YthllpilgfipkpaaQx0
import Derived.Test.YthllpilgfipkpaaQx5
import Derived.Test.YthllpilgfipkpaaQx6
namespace Go.Proofs.Ythllpilgfipkpaa.Q
open Go.RowKit Go.Proofs.YthllpilgfipkpaaW.PrintWords Go.Proofs.YthllpilgfipkpaaW.PrintLast Go.Proofs.YthllpilgfipkpaaW.PrintMore
attribute [local go_sem] max2_int min2_int max_two min_two max_three min_three max_four min_four   -- for this text's walks alone
set_option linter.unusedVariables false
set_option linter.unusedSimpArgs false

/-! ### solve_Share: function 39 -/
mutual
def solve_Share.j0 : Nat → Int → List (S70) → Bool → Option (List Int × Int)
  | 0, _, _, _ => none
  | k + 1, x0, x1, x15 => if x15 = true then (some (([] : List Int), 1)) else (if (x1.length : Int) > 16 then (some (([] : List Int), 3)) else (if x0 < (x1.length : Int) then (some (([] : List Int), 90)) else (solve_Share.l0 k x0 ([] : List Int) ([] : List Int) x0 x1 (x1.length : Int) 0)))
def solve_Share.l0 : Nat → Int → List Int → List Int → Int → List (S70) → Int → Int → Option (List Int × Int)
  | 0, _, _, _, _, _, _, _ => none
  | k + 1, x0, x6, x7, x8, x37, x38, x39 => if x39 < x38 then (if 0 ≤ x39 then (if x39 < (x37.length : Int) then ((solve_wants.f x0 ((rd_T70 x37 x39).f0) ((rd_T70 x37 x39).f1)).bind fun t113 => (if x6.length < 17592186044416 then ((some (x6 ++ [t113] : List Int)).bind fun y114 => (if x39 < (y114.length : Int) then (if ((rd_T70 x37 x39).f0) = 0 then (if x7.length < 17592186044416 then (solve_Share.l0 k x0 y114 (x7 ++ [x39]) (wrap64 (x8 - (rd y114 x39))) x37 x38 (wrap64 (x39 + 1))) else (none)) else (solve_Share.l0 k x0 y114 x7 (wrap64 (x8 - (rd y114 x39))) x37 x38 (wrap64 (x39 + 1)))) else (none))) else (none))) else (none)) else (none)) else (solve_Share.l1 k x6 x7 x8 (wrap64 ((x6.length : Int) - 1)))
def solve_Share.l1 : Nat → List Int → List Int → Int → Int → Option (List Int × Int)
  | 0, _, _, _, _ => none
  | k + 1, x6, x7, x8, x11 => if x8 < 0 then (if 0 ≤ x11 then (if x11 < (x6.length : Int) then (solve_Share.l1 k (x6.set (x11 : Int).toNat (wrap64 ((rd x6 x11) - (mn (wrap64 ((rd x6 x11) - 1)) (wrap64 (-x8)))))) x7 (wrap64 (x8 + (mn (wrap64 ((rd x6 x11) - 1)) (wrap64 (-x8))))) (wrap64 (x11 - 1))) else (none)) else (none)) else (if (x7.length : Int) = 0 then (if 0 ≤ (wrap64 ((x6.length : Int) - 1)) then (if (wrap64 ((x6.length : Int) - 1)) < (x6.length : Int) then (some ((x6.set ((wrap64 ((x6.length : Int) - 1)) : Int).toNat (wrap64 ((rd x6 (wrap64 ((x6.length : Int) - 1))) + x8))), 0)) else (none)) else (none)) else (solve_Share.l2 k x6 x7 x8 x7 (x7.length : Int) 0))
def solve_Share.l2 : Nat → List Int → List Int → Int → List Int → Int → Int → Option (List Int × Int)
  | 0, _, _, _, _, _, _ => none
  | k + 1, x6, x7, x8, x102, x103, x104 => if x104 < x103 then (if 0 ≤ x104 then (if x104 < (x102.length : Int) then (if 0 ≤ (rd x102 x104) then (if (rd x102 x104) < (x6.length : Int) then (if (x7.length : Int) = 0 then (none) else ((some (x6.set ((rd x102 x104) : Int).toNat (wrap64 ((rd x6 (rd x102 x104)) + (wrap64 (Int.tdiv x8 (x7.length : Int))))) : List Int)).bind fun y128 => (if x104 < (Int.tmod x8 (x7.length : Int)) then (solve_Share.l2 k (y128.set ((rd x102 x104) : Int).toNat (wrap64 ((rd y128 (rd x102 x104)) + 1))) x7 x8 x102 x103 (wrap64 (x104 + 1))) else (solve_Share.l2 k y128 x7 x8 x102 x103 (wrap64 (x104 + 1)))))) else (none)) else (none)) else (none)) else (none)) else (some (x6, 0))
end
def solve_Share.f (k : Nat) (a0 : Int) (l1 : List (S70)) : Option (List Int × Int) := if (l1.length : Int) = 0 then (solve_Share.j0 k a0 l1 true) else (if a0 > 200 then (solve_Share.j0 k a0 l1 true) else ((api_Size_51.f k l1).bind fun t110 => (solve_Share.j0 k a0 l1 t110)))
theorem solve_Share.mono_l : ∀ k, (∀ y0 y1 y2, LeO (solve_Share.j0 k y0 y1 y2) (solve_Share.j0 (k + 1) y0 y1 y2)) ∧ (∀ y0 y1 y2 y3 y4 y5 y6, LeO (solve_Share.l0 k y0 y1 y2 y3 y4 y5 y6) (solve_Share.l0 (k + 1) y0 y1 y2 y3 y4 y5 y6)) ∧ (∀ y0 y1 y2 y3, LeO (solve_Share.l1 k y0 y1 y2 y3) (solve_Share.l1 (k + 1) y0 y1 y2 y3)) ∧ (∀ y0 y1 y2 y3 y4 y5, LeO (solve_Share.l2 k y0 y1 y2 y3 y4 y5) (solve_Share.l2 (k + 1) y0 y1 y2 y3 y4 y5))
  | 0 => ⟨fun _ _ _ r h => by simp [solve_Share.j0] at h, fun _ _ _ _ _ _ _ r h => by simp [solve_Share.l0] at h, fun _ _ _ _ r h => by simp [solve_Share.l1] at h, fun _ _ _ _ _ _ r h => by simp [solve_Share.l2] at h⟩
  | k + 1 => by
    obtain ⟨ih0, ih1, ih2, ih3⟩ := solve_Share.mono_l k
    refine ⟨?_, ?_, ?_, ?_⟩
    · intro y0 y1 y2
      unfold solve_Share.j0
      repeat' first
      | (with_reducible exact ih0 _ _ _)
      | (with_reducible exact ih1 _ _ _ _ _ _ _)
      | (with_reducible exact ih2 _ _ _ _)
      | (with_reducible exact ih3 _ _ _ _ _ _)
      | (with_reducible exact api_Size_51.mono _ _)
      | (with_reducible exact LeO.refl _)
      | (with_reducible exact LeO.none _)
      | (with_reducible refine LeO.ite ?_ ?_)
      | (with_reducible refine LeO.bind ?_ (fun _ => ?_))
      | exact ih0 _ _ _
      | exact ih1 _ _ _ _ _ _ _
      | exact ih2 _ _ _ _
      | exact ih3 _ _ _ _ _ _
      | exact api_Size_51.mono _ _
      | exact LeO.none _
      | refine LeO.ite ?_ ?_
      | refine LeO.bind ?_ (fun _ => ?_)
    · intro y0 y1 y2 y3 y4 y5 y6
      unfold solve_Share.l0
      repeat' first
      | (with_reducible exact ih0 _ _ _)
      | (with_reducible exact ih1 _ _ _ _ _ _ _)
      | (with_reducible exact ih2 _ _ _ _)
      | (with_reducible exact ih3 _ _ _ _ _ _)
      | (with_reducible exact api_Size_51.mono _ _)
      | (with_reducible exact LeO.refl _)
      | (with_reducible exact LeO.none _)
      | (with_reducible refine LeO.ite ?_ ?_)
      | (with_reducible refine LeO.bind ?_ (fun _ => ?_))
      | exact ih0 _ _ _
      | exact ih1 _ _ _ _ _ _ _
      | exact ih2 _ _ _ _
      | exact ih3 _ _ _ _ _ _
      | exact api_Size_51.mono _ _
      | exact LeO.none _
      | refine LeO.ite ?_ ?_
      | refine LeO.bind ?_ (fun _ => ?_)
    · intro y0 y1 y2 y3
      unfold solve_Share.l1
      repeat' first
      | (with_reducible exact ih0 _ _ _)
      | (with_reducible exact ih1 _ _ _ _ _ _ _)
      | (with_reducible exact ih2 _ _ _ _)
      | (with_reducible exact ih3 _ _ _ _ _ _)
      | (with_reducible exact api_Size_51.mono _ _)
      | (with_reducible exact LeO.refl _)
      | (with_reducible exact LeO.none _)
      | (with_reducible refine LeO.ite ?_ ?_)
      | (with_reducible refine LeO.bind ?_ (fun _ => ?_))
      | exact ih0 _ _ _
      | exact ih1 _ _ _ _ _ _ _
      | exact ih2 _ _ _ _
      | exact ih3 _ _ _ _ _ _
      | exact api_Size_51.mono _ _
      | exact LeO.none _
      | refine LeO.ite ?_ ?_
      | refine LeO.bind ?_ (fun _ => ?_)
    · intro y0 y1 y2 y3 y4 y5
      unfold solve_Share.l2
      repeat' first
      | (with_reducible exact ih0 _ _ _)
      | (with_reducible exact ih1 _ _ _ _ _ _ _)
      | (with_reducible exact ih2 _ _ _ _)
      | (with_reducible exact ih3 _ _ _ _ _ _)
      | (with_reducible exact api_Size_51.mono _ _)
      | (with_reducible exact LeO.refl _)
      | (with_reducible exact LeO.none _)
      | (with_reducible refine LeO.ite ?_ ?_)
      | (with_reducible refine LeO.bind ?_ (fun _ => ?_))
      | exact ih0 _ _ _
      | exact ih1 _ _ _ _ _ _ _
      | exact ih2 _ _ _ _
      | exact ih3 _ _ _ _ _ _
      | exact api_Size_51.mono _ _
      | exact LeO.none _
      | refine LeO.ite ?_ ?_
      | refine LeO.bind ?_ (fun _ => ?_)
theorem solve_Share.mono : ∀ a0 a1 k, LeO (solve_Share.f k a0 a1) (solve_Share.f (k + 1) a0 a1) := by
  intro a0 a1 k
  obtain ⟨ih0, ih1, ih2, ih3⟩ := solve_Share.mono_l k
  unfold solve_Share.f
  repeat' first
      | (with_reducible exact ih0 _ _ _)
      | (with_reducible exact ih1 _ _ _ _ _ _ _)
      | (with_reducible exact ih2 _ _ _ _)
      | (with_reducible exact ih3 _ _ _ _ _ _)
      | (with_reducible exact api_Size_51.mono _ _)
      | (with_reducible exact LeO.refl _)
      | (with_reducible exact LeO.none _)
      | (with_reducible refine LeO.ite ?_ ?_)
      | (with_reducible refine LeO.bind ?_ (fun _ => ?_))
      | exact ih0 _ _ _
      | exact ih1 _ _ _ _ _ _ _
      | exact ih2 _ _ _ _
      | exact ih3 _ _ _ _ _ _
      | exact api_Size_51.mono _ _
      | exact LeO.none _
      | refine LeO.ite ?_ ?_
      | refine LeO.bind ?_ (fun _ => ?_)
def solve_Share.T29 : Bool × List (List Nat × List Nat) := (true, [([], []), ([], []), ([0, 1], [0, 1]), ([2], [2]), ([], []), ([], []), ([5], [5]), ([4, 6], [4, 6]), ([3, 7], [3, 7]), ([0, 1, 0, 1, 2, 3, 4, 5, 6, 7, 8], [0, 1]), ([9, 8, 0, 1, 2, 3, 4, 5, 6, 7, 8], [8, 9])])
def solve_Share.B29 : List Nat := [0, 0, 3, 7, 0, 0, 32, 112, 255, 511, 1023]
theorem solve_Share.tab29 : rtab .any (opsOf Try.f39 29) = solve_Share.T29 := by kernel_rfl
theorem solve_Share.bits29 : waitsOk solve_Share.T29.2 solve_Share.B29 = true := by kernel_rfl
set_option maxHeartbeats 8000000 in
set_option maxRecDepth 100000 in
theorem solve_Share.calls (k : Nat) (a0 : Int) (A1 : Option Addr) (c1 : Nat) (l1 : List (S70)) (r1 : List Int) (r2 : Int) (w : World) (hr1 : Kd.C k70 w A1 l1.length l1) (hc1 : l1.length ≤ c1) (h : solve_Share.f k a0 l1 = some (r1, r2)) :
    Calls Try.prog 39 #[.int .i64 a0, .slice A1 l1.length c1] w fun e w' => ∃ v0_ : Value, e = .returned (.tuple #[v0_, .int .i64 r2]) ∧ Kd.R (Kd.int .i64) 3 w' w.heap.size (fun _ => True) v0_ r1 ∧ Below w.heap.size w w' := by
  have hu70 := Try.underlying70
  have HR1 := Aside0.mk hr1
  have HC1 := Aside0.mk hc1
  clear hr1 hc1
  have HB := Aside0.mk (Below.refl w.heap.size w)
  have H : (if (l1.length : Int) = 0 then (solve_Share.j0 k a0 l1 true) else (if a0 > 200 then (solve_Share.j0 k a0 l1 true) else ((api_Size_51.f k l1).bind fun t110 => (solve_Share.j0 k a0 l1 t110)))) = some (r1, r2) := h
  clear h
  have HC3 := Aside0.mk H
  clear H
  go_enter Try.func39, Try.ntmps39
  go_upto_region 1 with (fail)
  go_cut [15] (fun v15 wc => ∃ (kq : Nat) (x15_2 : Bool), v15 = .bool x15_2 ∧ Aside0 (solve_Share.j0 kq a0 l1 x15_2 = some (r1, r2)) ∧ Aside0 (kq ≤ k) ∧ Aside0 (Below w.heap.size w wc))
  case first =>
    have H := HC3.out
    clear HC3
    by_cases c4 : (l1.length : Int) = 0
    · rw [if_pos c4] at H
      have c4b0 : ((l1.length : Int) == 0) = true := beq_iff_eq.mpr c4
      have c4b1 : ((l1.length : Int) != 0) = false := bne_eq_false_iff_eq.mpr c4
      clear c4
      (first | rw [c4b0] | (simp only [i64_w, i32_w]; rw [c4b0]) | skip)
      have H' := Aside0.mk H
      clear H
      go_wp2
      go_meet
      case rel => exact ⟨_, (true), (by first | rfl | (simp; done) | (simp [*]; done)), H', ⟨by first | omega | exact Nat.le_refl _⟩, ⟨by repeat (first | (with_reducible first | exact HB.out | apply below_alloc | apply pw_below_drewN | apply below_drew1) | exact HB.out)⟩⟩
    · rw [if_neg c4] at H
      have c4b0 : ((l1.length : Int) == 0) = false := beq_eq_false_iff_ne.mpr c4
      have c4b1 : ((l1.length : Int) != 0) = true := bne_iff_ne.mpr c4
      have c4b2 : ¬ (l1 = []) := fun h_ => c4 (by rw [h_]; rfl)
      (first | rw [c4b0] | (simp only [i64_w, i32_w]; rw [c4b0]) | skip)
      by_cases c5 : a0 > 200
      · rw [if_pos c5] at H
        have c5b0 : decide (200 < a0) = true := decide_eq_true c5
        clear c5
        have H' := Aside0.mk H
        clear H
        go_wp2
        go_meet
        case rel => exact ⟨_, (true), (by first | rfl | (simp; done) | (simp [*]; done)), H', ⟨by first | omega | exact Nat.le_refl _⟩, ⟨by repeat (first | (with_reducible first | exact HB.out | apply below_alloc | apply pw_below_drewN | apply below_drew1) | exact HB.out)⟩⟩
      · rw [if_neg c5] at H
        have c5b0 : decide (200 < a0) = false := decide_eq_false c5
        clear c5
        replace H := Option.bind_eq_some_iff.mp H
        obtain ⟨t110, A60, H⟩ := H
        replace H : (solve_Share.j0 k a0 l1 t110) = some (r1, r2) := H
        have A6 := Aside0.mk A60
        clear A60
        have H' := Aside0.mk H
        clear H
        go_wp2_with (first | (go_at_call 51; (with_reducible refine (api_Size_51.calls k _ _ l1  t110 _ ?side1 ?side2 A6.out).mono ?_); (case side1 => repeat (first | exact (Kd.C_below HR1.out HB.out) | (with_reducible refine Kd.C_alloc ?_ _) | (with_reducible refine Kd.C_drewN ?_ _) | (with_reducible refine Kd.C_drew ?_))); (case side2 => exact HC1.out); rintro e w7 ⟨rfl, hb⟩; have n0_ := Aside0.mk (below_step (by repeat (first | (with_reducible first | exact HB.out | apply below_alloc | apply pw_below_drewN | apply below_drew1) | exact HB.out)) hb); clear HB; have HB := n0_; clear n0_; (try clear hb); (try clear hb2); (try clear hk); (try clear hi)))
        go_meet
        case rel => exact ⟨_, (t110), (by first | rfl | (simp; done) | (simp [*]; done)), H', ⟨by first | omega | exact Nat.le_refl _⟩, ⟨by repeat (first | (with_reducible first | exact HB.out | apply below_alloc | apply pw_below_drewN | apply below_drew1) | exact HB.out)⟩⟩
  case rest =>
    clear HC3
    try clear c1
    try clear p2
    try clear c3
    try clear c4
    try clear c4b0
    try clear c4b1
    try clear c4b2
    try clear c5
    try clear c5b0
    obtain ⟨kq, x15_2, rfl, HA, HJ2, HB⟩ := hcut
    cases kq with
    | zero => exact absurd HA.out (by simp [solve_Share.j0])
    | succ kj2 =>
      have H := HA.out
      clear HA
      simp only [solve_Share.j0] at H
      by_cases c8 : x15_2 = true
      · subst c8
        have H1 : (some (([] : List Int), 1)) = some (r1, r2) := by rw [if_pos rfl] at H; exact H
        clear H
        have H := H1
        clear H1
        simp only [Option.some.injEq, Prod.mk.injEq] at H
        obtain ⟨rfl, rfl⟩ := H
        go_wp2
        go_ret2
        exact ⟨_, by first | rfl | (simp [errW_none, errW_some] <;> rfl) | (simp [*, errW_none, errW_some] <;> rfl), by first | exact Kd.R_nil _ _ _ _ _ | exact Kd.N_nil _ _ _ _ _ | exact Kd.V_nil _ _ _ _ _ | exact Kd.Q_nil _ _ _ _ _ | exact Kd.S_nil _ _ _ _ _, by repeat (first | (with_reducible first | exact HB.out | apply below_alloc | apply pw_below_drewN | apply below_drew1) | exact HB.out)⟩
      · replace c8 := Bool.eq_false_iff.mpr c8
        subst c8
        have H1 : (if (l1.length : Int) > 16 then (some (([] : List Int), 3)) else (if a0 < (l1.length : Int) then (some (([] : List Int), 90)) else (solve_Share.l0 kj2 a0 ([] : List Int) ([] : List Int) a0 l1 (l1.length : Int) 0))) = some (r1, r2) := by rw [if_neg (show ¬ (false = true) by decide)] at H; exact H
        clear H
        have H := H1
        clear H1
        by_cases c9 : (l1.length : Int) > 16
        · rw [if_pos c9] at H
          have c9b0 : decide (16 < (l1.length : Int)) = true := decide_eq_true c9
          have c9b1 : decide (16 < l1.length) = true := decide_eq_true (by omega)
          clear c9
          simp only [Option.some.injEq, Prod.mk.injEq] at H
          obtain ⟨rfl, rfl⟩ := H
          go_wp2
          go_ret2
          exact ⟨_, by first | rfl | (simp [errW_none, errW_some] <;> rfl) | (simp [*, errW_none, errW_some] <;> rfl), by first | exact Kd.R_nil _ _ _ _ _ | exact Kd.N_nil _ _ _ _ _ | exact Kd.V_nil _ _ _ _ _ | exact Kd.Q_nil _ _ _ _ _ | exact Kd.S_nil _ _ _ _ _, by repeat (first | (with_reducible first | exact HB.out | apply below_alloc | apply pw_below_drewN | apply below_drew1) | exact HB.out)⟩
        · rw [if_neg c9] at H
          have c9b0 : decide (16 < (l1.length : Int)) = false := decide_eq_false c9
          have c9b1 : decide (16 < l1.length) = false := decide_eq_false (by omega)
          clear c9
          by_cases c10 : a0 < (l1.length : Int)
          · rw [if_pos c10] at H
            have c10b0 : decide (a0 < (l1.length : Int)) = true := decide_eq_true c10
            clear c10
            simp only [Option.some.injEq, Prod.mk.injEq] at H
            obtain ⟨rfl, rfl⟩ := H
            go_wp2
            go_ret2
            exact ⟨_, by first | rfl | (simp [errW_none, errW_some] <;> rfl) | (simp [*, errW_none, errW_some] <;> rfl), by first | exact Kd.R_nil _ _ _ _ _ | exact Kd.N_nil _ _ _ _ _ | exact Kd.V_nil _ _ _ _ _ | exact Kd.Q_nil _ _ _ _ _ | exact Kd.S_nil _ _ _ _ _, by repeat (first | (with_reducible first | exact HB.out | apply below_alloc | apply pw_below_drewN | apply below_drew1) | exact HB.out)⟩
          · rw [if_neg c10] at H
            have c10b0 : decide (a0 < (l1.length : Int)) = false := decide_eq_false c10
            clear c10
            have H' := Aside0.mk H
            clear H
            go_wp2
            go_loopg [6, 7, 8, 39] kj2 (fun kq v6 v7 v8 v39 w' => ∃ (x6_2 : List Int) (x7_2 : List Int) (x8_2 : Int) (x39_2 : Int), v8 = .int .i64 x8_2 ∧ v39 = .int .i64 x39_2 ∧ Aside0 (solve_Share.l0 kq a0 x6_2 x7_2 x8_2 l1 (l1.length : Int) x39_2 = some (r1, r2)) ∧ Aside0 (kq ≤ kj2) ∧ Aside0 (Kd.R (Kd.int .i64) 3 w' w.heap.size (fun k_ => some k_ ≠ (v7 : Value).ownBlock) v6 x6_2) ∧ Aside0 (Kd.R (Kd.int .i64) 3 w' w.heap.size (fun k_ => some k_ ≠ (v6 : Value).ownBlock) v7 x7_2) ∧ Aside0 (Below w.heap.size w w'))
            case atStart => exact ⟨(([] : List Int)), (([] : List Int)), (a0), (0), (by first | rfl | (simp; done) | (simp [*]; done)), (by first | rfl | (simp; done) | (simp [*]; done)), H', ⟨Nat.le_refl _⟩, ⟨by first | exact Kd.R_nil _ _ _ _ _ | exact Kd.N_nil _ _ _ _ _ | exact Kd.V_nil _ _ _ _ _ | exact Kd.Q_nil _ _ _ _ _ | exact Kd.S_nil _ _ _ _ _⟩, ⟨by first | exact Kd.R_nil _ _ _ _ _ | exact Kd.N_nil _ _ _ _ _ | exact Kd.V_nil _ _ _ _ _ | exact Kd.Q_nil _ _ _ _ _ | exact Kd.S_nil _ _ _ _ _⟩, ⟨by repeat (first | (with_reducible first | exact HB.out | apply below_alloc | apply pw_below_drewN | apply below_drew1) | exact HB.out)⟩⟩
            case round =>
              clear H'
              try clear c1
              try clear p2
              try clear c3
              try clear c4
              try clear c4b0
              try clear c4b1
              try clear c4b2
              try clear c5
              try clear c5b0
              try clear c8
              try clear c9
              try clear c9b0
              try clear c9b1
              try clear c10
              try clear c10b0
              try clear p2
              obtain ⟨x6_2, x7_2, x8_2, x39_2, rfl, rfl, HA, HK2, HO_6, HO_7, HB⟩ := hrel
              cases gk with
              | zero => exact absurd HA.out (by simp [solve_Share.l0])
              | succ k2 =>
                have H := HA.out
                clear HA
                simp only [solve_Share.l0] at H
                by_cases c11 : x39_2 < (l1.length : Int)
                · rw [if_pos c11] at H
                  have c11b0 : decide (x39_2 < (l1.length : Int)) = true := decide_eq_true c11
                  clear c11
                  by_cases c12 : 0 ≤ x39_2
                  · rw [if_pos c12] at H
                    have c12b0 : decide (0 ≤ x39_2) = true := decide_eq_true c12
                    clear c12
                    by_cases c13 : x39_2 < (l1.length : Int)
                    · rw [if_pos c13] at H
                      have c13b0 : decide (x39_2 < (l1.length : Int)) = true := decide_eq_true c13
                      clear c13
                      replace H := Option.bind_eq_some_iff.mp H
                      obtain ⟨t113, A140, H⟩ := H
                      replace H : (if x6_2.length < 17592186044416 then ((some (x6_2 ++ [t113] : List Int)).bind fun y114 => (if x39_2 < (y114.length : Int) then (if ((rd_T70 l1 x39_2).f0) = 0 then (if x7_2.length < 17592186044416 then (solve_Share.l0 k2 a0 y114 (x7_2 ++ [x39_2]) (wrap64 (x8_2 - (rd y114 x39_2))) l1 (l1.length : Int) (wrap64 (x39_2 + 1))) else (none)) else (solve_Share.l0 k2 a0 y114 x7_2 (wrap64 (x8_2 - (rd y114 x39_2))) l1 (l1.length : Int) (wrap64 (x39_2 + 1)))) else (none))) else (none)) = some (r1, r2) := H
                      have A14 := Aside0.mk A140
                      clear A140
                      by_cases c15 : x6_2.length < 17592186044416
                      · rw [if_pos c15] at H
                        have LMc15 := Aside0.mk c15
                        clear c15
                        obtain ⟨y114, hy114⟩ : ∃ y_ : List Int, y_ = (x6_2 ++ [t113]) := ⟨_, rfl⟩
                        replace H : (if x39_2 < (y114.length : Int) then (if ((rd_T70 l1 x39_2).f0) = 0 then (if x7_2.length < 17592186044416 then (solve_Share.l0 k2 a0 y114 (x7_2 ++ [x39_2]) (wrap64 (x8_2 - (rd y114 x39_2))) l1 (l1.length : Int) (wrap64 (x39_2 + 1))) else (none)) else (solve_Share.l0 k2 a0 y114 x7_2 (wrap64 (x8_2 - (rd y114 x39_2))) l1 (l1.length : Int) (wrap64 (x39_2 + 1)))) else (none)) = some (r1, r2) := by first | (rw [hy114]; with_reducible exact H) | (have H2_ := (Option.bind_some _ _).symm.trans H; rw [hy114]; with_reducible exact H2_) | (have H2_ := (Option.bind_some _ _).symm.trans H; with_reducible exact H2_) | with_reducible exact H | (rw [hy114]; exact H) | exact H
                        have Ny114 := Aside0.mk hy114
                        clear hy114
                        by_cases c16 : x39_2 < (y114.length : Int)
                        · rw [if_pos c16] at H
                          have c16b0 : decide (x39_2 < (y114.length : Int)) = true := decide_eq_true c16
                          clear c16
                          by_cases c17 : ((rd_T70 l1 x39_2).f0) = 0
                          · rw [if_pos c17] at H
                            have c17b0 : (((rd_T70 l1 x39_2).f0) == 0) = true := beq_iff_eq.mpr c17
                            have c17b1 : (((rd_T70 l1 x39_2).f0) != 0) = false := bne_eq_false_iff_eq.mpr c17
                            clear c17
                            by_cases c18 : x7_2.length < 17592186044416
                            · rw [if_pos c18] at H
                              have LMc18 := Aside0.mk c18
                              clear c18
                              obtain ⟨y118, hy118⟩ : ∃ y_ : List Int, y_ = (x7_2 ++ [x39_2]) := ⟨_, rfl⟩
                              replace H : (solve_Share.l0 k2 a0 y114 y118 (wrap64 (x8_2 - (rd y114 x39_2))) l1 (l1.length : Int) (wrap64 (x39_2 + 1))) = some (r1, r2) := by first | (rw [hy118]; with_reducible exact H) | (have H2_ := (Option.bind_some _ _).symm.trans H; rw [hy118]; with_reducible exact H2_) | (have H2_ := (Option.bind_some _ _).symm.trans H; with_reducible exact H2_) | with_reducible exact H | (rw [hy118]; exact H) | exact H
                              have Ny118 := Aside0.mk hy118
                              clear hy118
                              have H' := Aside0.mk H
                              clear H
                              have p111 : 0 ≤ (x39_2 : Int) := of_decide_eq_true (by first | (with_reducible assumption) | assumption)
                              have q111 : x39_2 < (l1.length : Int) := of_decide_eq_true (by first | (with_reducible assumption) | assumption)
                              obtain ⟨ad111, e111, hx111_0, hx111_1⟩ := at_T70 HR1.out x39_2 p111 q111
                              cases e111
                              replace hx111_0 := (HB.out.cell (World.block_lt_of_cell? w _ hx111_0)).trans hx111_0
                              replace hx111_1 := (HB.out.cell (World.block_lt_of_cell? w _ hx111_1)).trans hx111_1
                              replace p111 := eq_true p111
                              replace q111 := eq_true q111
                              go_wp2_with (first | ((with_reducible refine gate_dst (N := 10) rfl ?_); refine box_event ?hg (N := 10) ?hd (cs := #[.int .i64 0, .int .i64 0]) (t := 70) ?hr ?_; (case hd => rfl); (case hg => rfl); (case hr => first | (go_simp; done) | (go_simp; rfl)); intro gb112 hg w19 hbox hb; have n0_ := Aside0.mk (Kd.R_below (by (with_reducible repeat (first | apply Kd.R_alloc | apply Kd.R_drewN | apply Kd.R_drew)); exact HO_6.out) hb); have n1_ := Aside0.mk (Kd.R_below (by (with_reducible repeat (first | apply Kd.R_alloc | apply Kd.R_drewN | apply Kd.R_drew)); exact HO_7.out) hb); have n2_ := Aside0.mk (below_step (by repeat (first | (with_reducible first | exact HB.out | apply below_alloc | apply pw_below_drewN | apply below_drew1) | exact HB.out)) hb); have n3_ := Aside0.mk (hbox); have n4_ := Aside0.mk ((by rw [hg]; exact (below_size (by repeat (first | (with_reducible first | exact HB.out | apply below_alloc | apply pw_below_drewN | apply below_drew1) | exact HB.out))) : w.heap.size ≤ gb112)); have n5_ := Aside0.mk ((by rw [hg]; exact (below_size (by repeat (first | (with_reducible first | exact HB.out | apply below_alloc | apply pw_below_drewN | apply below_drew1) | exact HB.out))) : w.heap.size ≤ gb112)); clear HO_6; clear HO_7; clear HB; have HO_6 := n0_; have HO_7 := n1_; have HB := n2_; have BK112 := n3_; have GW112 := n4_; have GE112 := n5_; clear n0_ n1_ n2_ n3_ n4_ n5_; clear hb hbox hg; have hcz20_0 : w19.cell? ⟨gb112, 0, none⟩ = some (.int .i64 0) := (blk_cell BK112.out 0).trans rfl; have hcz20_1 : w19.cell? ⟨gb112, 1, none⟩ = some (.int .i64 0) := (blk_cell BK112.out 1).trans rfl; have hfz20_0 := blk_frozen BK112.out 0; have hfz20_1 := blk_frozen BK112.out 1) | ((with_reducible refine gate_callee (f := 53) rfl ?_); refine goesL_ (some 47) rfl rfl Try.func53 (by kernel_rfl) rfl #[.int .i64 a0, .agg #[.int .i64 ((rd_T70 l1 x39_2).f0), .int .i64 ((rd_T70 l1 x39_2).f1)]] rfl (by (try simp only [List.map_toArray, List.map_cons, List.map_nil]); first | done | rfl | (simp only [List.length_drop, List.length_take]; rfl)) ?_; (with_reducible refine (solve_wants.calls a0 ((rd_T70 l1 x39_2).f0) ((rd_T70 l1 x39_2).f1) t113 _ A14.out).mono ?_); rintro e w21 ⟨rfl, hb⟩; refine ⟨_, rfl, ?_⟩; have n0_ := Aside0.mk (Kd.R_below (by (with_reducible repeat (first | apply Kd.R_alloc | apply Kd.R_drewN | apply Kd.R_drew)); exact (Kd.R_mono (Kd.R_far (p := ⟨gb112, 1, none⟩) (Kd.R_far (p := ⟨gb112, 0, none⟩) (Kd.R_types HO_6.out BK112.out (by decide)) (fun _ hk => hk.2) (.int .i64 ((rd_T70 l1 x39_2).f0))) (fun _ hk => hk.2) (.int .i64 ((rd_T70 l1 x39_2).f1))) (fun _ h_ => h_.1))) hb); have n1_ := Aside0.mk (Kd.R_below (by (with_reducible repeat (first | apply Kd.R_alloc | apply Kd.R_drewN | apply Kd.R_drew)); exact (Kd.R_mono (Kd.R_far (p := ⟨gb112, 1, none⟩) (Kd.R_far (p := ⟨gb112, 0, none⟩) (Kd.R_types HO_7.out BK112.out (by decide)) (fun _ hk => hk.2) (.int .i64 ((rd_T70 l1 x39_2).f0))) (fun _ hk => hk.2) (.int .i64 ((rd_T70 l1 x39_2).f1))) (fun _ h_ => h_.1))) hb); have n2_ := Aside0.mk (blk_below (g := gb112) (o := .cells #[.int .i64 ((rd_T70 l1 x39_2).f0), .int .i64 ((rd_T70 l1 x39_2).f1)] 70 (0, 0)) (by (with_reducible repeat (first | refine blk_drewN ?_ _ | refine blk_drew ?_ | refine blk_alloc ?_ _)); refine blk_put (cs := #[.int .i64 ((rd_T70 l1 x39_2).f0), .int .i64 0]) ?_ 1 _ rfl; (with_reducible repeat (first | refine blk_drewN ?_ _ | refine blk_drew ?_ | refine blk_alloc ?_ _)); refine blk_put (cs := #[.int .i64 0, .int .i64 0]) ?_ 0 _ rfl; (with_reducible repeat (first | refine blk_drewN ?_ _ | refine blk_drew ?_ | refine blk_alloc ?_ _)); exact BK112.out) hb); have n3_ := Aside0.mk (below_step (by repeat (first | (with_reducible first | exact HB.out | apply below_alloc | apply pw_below_drewN | apply below_drew1 | refine below_set ?_ GE112.out) | exact HB.out)) hb); clear HO_6; clear HO_7; clear BK112; clear HB; have HO_6 := n0_; have HO_7 := n1_; have BK112 := n2_; have HB := n3_; clear n0_ n1_ n2_ n3_; (try clear hb); (try clear hb2); (try clear hk); (try clear hi)) | ((with_reducible refine gate_builtin (b := .append) (xs := #[.tmp 44, .tmp 48]) rfl ?_); at_builtin; refine Kd.R_append (Kd.int .i64) (w0 := w) w.heap.size rfl (.tmp 44) (.tmp 48) 32 3 (.int .i64 0) 8 rfl Try.underlying32 info3 rfl (by decide) (by omega) u6 x6_2 t113 [.int .i64 t113] (fun k_ => some k_ ≠ (u7 : Value).ownBlock) (fun _ => False) rfl rfl ?aP (fun _ hk => hk.elim) ?aF ?aO ?aB ?aS ?aL ?_; (case aP => exact rfl); (case aB => exact (by repeat (first | (with_reducible first | exact HB.out | apply below_alloc | apply pw_below_drewN | apply below_drew1 | refine below_set ?_ GE112.out) | exact HB.out))); (case aF => exact (fun k_ hk => Kd.fresh' (Kd.R_lt (by (with_reducible repeat (first | apply Kd.R_alloc | apply Kd.R_drewN | apply Kd.R_drew)); exact HO_7.out)) k_ hk)); (case aO => exact (by (with_reducible repeat (first | apply Kd.R_alloc | apply Kd.R_drewN | apply Kd.R_drew)); exact HO_6.out)); (case aS => exact (below_size (by repeat (first | (with_reducible first | exact HB.out | apply below_alloc | apply pw_below_drewN | apply below_drew1 | refine below_set ?_ GE112.out) | exact HB.out)))); (case aL => have := LMc15.out; omega); intro v115 w22 ho hb hg hat; rw [← Ny114.out] at ho; have n0_ := Aside0.mk (Kd.R_after (ok := (fun _ => True)) (by (with_reducible repeat (first | apply Kd.R_alloc | apply Kd.R_drewN | apply Kd.R_drew)); exact Kd.R_mono HO_7.out (fun _ hk => ⟨trivial, hk⟩)) hg hat); have n1_ := Aside0.mk (blk_grown (g := gb112) (o := .cells #[.int .i64 ((rd_T70 l1 x39_2).f0), .int .i64 ((rd_T70 l1 x39_2).f1)] 70 (0, 0)) (by (with_reducible repeat (first | refine blk_drewN ?_ _ | refine blk_drew ?_ | refine blk_alloc ?_ _)); exact BK112.out) hg (Kd.R_ne HO_6.out BK112.out (by decide))); have n2_ := Aside0.mk (hb); have n3_ := Aside0.mk (ho); clear HO_7; clear BK112; clear HB; clear HO_6; have HO_7 := n0_; have BK112 := n1_; have HB := n2_; have HO116 := n3_; clear n0_ n1_ n2_ n3_; clear ho hb hg hat; obtain ⟨Ao23, co23, eo23⟩ := Kd.R_slice HO116.out; subst eo23; have p117 : 0 ≤ (x39_2 : Int) := of_decide_eq_true (by first | (with_reducible assumption) | assumption); have q117 : x39_2 < (y114.length : Int) := of_decide_eq_true (by first | (with_reducible assumption) | assumption); obtain ⟨ad117, e117, hx117_0⟩ := Kd.at_int (Kd.R_reads' HO116.out).2.2 x39_2 p117 q117; cases e117; replace p117 := eq_true p117; replace q117 := eq_true q117; have hcz24_0 : w22.cell? ⟨gb112, 0, none⟩ = some (.int .i64 ((rd_T70 l1 x39_2).f0)) := (blk_cell BK112.out 0).trans rfl; have hcz24_1 : w22.cell? ⟨gb112, 1, none⟩ = some (.int .i64 ((rd_T70 l1 x39_2).f1)) := (blk_cell BK112.out 1).trans rfl; have hfz24_0 := blk_frozen BK112.out 0; have hfz24_1 := blk_frozen BK112.out 1) | ((with_reducible refine gate_builtin (b := .append) (xs := #[.tmp 59, .tmp 61]) rfl ?_); at_builtin; refine Kd.R_append (Kd.int .i64) (w0 := w) w.heap.size rfl (.tmp 59) (.tmp 61) 32 3 (.int .i64 0) 8 rfl Try.underlying32 info3 rfl (by decide) (by omega) u7 x7_2 x39_2 [.int .i64 x39_2] (fun k_ => some k_ ≠ (.slice (some ad117) y114.length co23 : Value).ownBlock) (fun _ => False) rfl rfl ?aP (fun _ hk => hk.elim) ?aF ?aO ?aB ?aS ?aL ?_; (case aP => exact rfl); (case aB => exact (by repeat (first | (with_reducible first | exact HB.out | apply below_alloc | apply pw_below_drewN | apply below_drew1 | refine below_set ?_ GE112.out) | exact HB.out))); (case aF => exact (fun k_ hk => Kd.fresh' (Kd.R_lt (by (with_reducible repeat (first | apply Kd.R_alloc | apply Kd.R_drewN | apply Kd.R_drew)); exact HO116.out)) k_ hk)); (case aO => exact (by (with_reducible repeat (first | apply Kd.R_alloc | apply Kd.R_drewN | apply Kd.R_drew)); exact Kd.R_mono HO_7.out (fun _ hk => hk.2))); (case aS => exact (below_size (by repeat (first | (with_reducible first | exact HB.out | apply below_alloc | apply pw_below_drewN | apply below_drew1 | refine below_set ?_ GE112.out) | exact HB.out)))); (case aL => have := LMc18.out; omega); intro v119 w25 ho hb hg hat; rw [← Ny118.out] at ho; have n0_ := Aside0.mk (blk_grown (g := gb112) (o := .cells #[.int .i64 ((rd_T70 l1 x39_2).f0), .int .i64 ((rd_T70 l1 x39_2).f1)] 70 (0, 0)) (by (with_reducible repeat (first | refine blk_drewN ?_ _ | refine blk_drew ?_ | refine blk_alloc ?_ _)); exact BK112.out) hg (Kd.R_ne HO_7.out BK112.out (by decide))); have n1_ := Aside0.mk (Kd.R_after (ok := (fun _ => True)) (by (with_reducible repeat (first | apply Kd.R_alloc | apply Kd.R_drewN | apply Kd.R_drew)); exact Kd.R_mono HO116.out (fun _ hk => ⟨trivial, hk⟩)) hg hat); have n2_ := Aside0.mk (hb); have n3_ := Aside0.mk (ho); clear BK112; clear HO116; clear HB; clear HO_7; have BK112 := n0_; have HO116 := n1_; have HB := n2_; have HO120 := n3_; clear n0_ n1_ n2_ n3_; clear ho hb hg hat))
                              go_roundg k2
                              case measure => have := HJ2.out; have := HK2.out; omega
                              case rel => exact ⟨(y114), (y118), (wrap64 (x8_2 - (rd y114 x39_2))), (wrap64 (x39_2 + 1)), (by first | rfl | (simp; done) | (simp [*]; done)), (by first | rfl | (simp; done) | (simp [*]; done)), H', ⟨by have := HJ2.out; have := HK2.out; omega⟩, ⟨by (with_reducible repeat (first | apply Kd.R_alloc | apply Kd.R_drewN | apply Kd.R_drew)); exact Kd.R_mono HO116.out (fun _ hk => hk.2)⟩, ⟨by (with_reducible repeat (first | apply Kd.R_alloc | apply Kd.R_drewN | apply Kd.R_drew)); exact HO120.out⟩, ⟨by repeat (first | (with_reducible first | exact HB.out | apply below_alloc | apply pw_below_drewN | apply below_drew1 | refine below_set ?_ GE112.out) | exact HB.out)⟩⟩
                            · rw [if_neg c18] at H
                              exact absurd H (by simp)
                          · rw [if_neg c17] at H
                            have c17b0 : (((rd_T70 l1 x39_2).f0) == 0) = false := beq_eq_false_iff_ne.mpr c17
                            have c17b1 : (((rd_T70 l1 x39_2).f0) != 0) = true := bne_iff_ne.mpr c17
                            have H' := Aside0.mk H
                            clear H
                            have p111 : 0 ≤ (x39_2 : Int) := of_decide_eq_true (by first | (with_reducible assumption) | assumption)
                            have q111 : x39_2 < (l1.length : Int) := of_decide_eq_true (by first | (with_reducible assumption) | assumption)
                            obtain ⟨ad111, e111, hx111_0, hx111_1⟩ := at_T70 HR1.out x39_2 p111 q111
                            cases e111
                            replace hx111_0 := (HB.out.cell (World.block_lt_of_cell? w _ hx111_0)).trans hx111_0
                            replace hx111_1 := (HB.out.cell (World.block_lt_of_cell? w _ hx111_1)).trans hx111_1
                            replace p111 := eq_true p111
                            replace q111 := eq_true q111
                            go_wp2_with (first | ((with_reducible refine gate_dst (N := 10) rfl ?_); refine box_event ?hg (N := 10) ?hd (cs := #[.int .i64 0, .int .i64 0]) (t := 70) ?hr ?_; (case hd => rfl); (case hg => rfl); (case hr => first | (go_simp; done) | (go_simp; rfl)); intro gb112 hg w26 hbox hb; have n0_ := Aside0.mk (Kd.R_below (by (with_reducible repeat (first | apply Kd.R_alloc | apply Kd.R_drewN | apply Kd.R_drew)); exact HO_6.out) hb); have n1_ := Aside0.mk (Kd.R_below (by (with_reducible repeat (first | apply Kd.R_alloc | apply Kd.R_drewN | apply Kd.R_drew)); exact HO_7.out) hb); have n2_ := Aside0.mk (below_step (by repeat (first | (with_reducible first | exact HB.out | apply below_alloc | apply pw_below_drewN | apply below_drew1) | exact HB.out)) hb); have n3_ := Aside0.mk (hbox); have n4_ := Aside0.mk ((by rw [hg]; exact (below_size (by repeat (first | (with_reducible first | exact HB.out | apply below_alloc | apply pw_below_drewN | apply below_drew1) | exact HB.out))) : w.heap.size ≤ gb112)); have n5_ := Aside0.mk ((by rw [hg]; exact (below_size (by repeat (first | (with_reducible first | exact HB.out | apply below_alloc | apply pw_below_drewN | apply below_drew1) | exact HB.out))) : w.heap.size ≤ gb112)); clear HO_6; clear HO_7; clear HB; have HO_6 := n0_; have HO_7 := n1_; have HB := n2_; have BK112 := n3_; have GW112 := n4_; have GE112 := n5_; clear n0_ n1_ n2_ n3_ n4_ n5_; clear hb hbox hg; have hcz27_0 : w26.cell? ⟨gb112, 0, none⟩ = some (.int .i64 0) := (blk_cell BK112.out 0).trans rfl; have hcz27_1 : w26.cell? ⟨gb112, 1, none⟩ = some (.int .i64 0) := (blk_cell BK112.out 1).trans rfl; have hfz27_0 := blk_frozen BK112.out 0; have hfz27_1 := blk_frozen BK112.out 1) | ((with_reducible refine gate_callee (f := 53) rfl ?_); refine goesL_ (some 47) rfl rfl Try.func53 (by kernel_rfl) rfl #[.int .i64 a0, .agg #[.int .i64 ((rd_T70 l1 x39_2).f0), .int .i64 ((rd_T70 l1 x39_2).f1)]] rfl (by (try simp only [List.map_toArray, List.map_cons, List.map_nil]); first | done | rfl | (simp only [List.length_drop, List.length_take]; rfl)) ?_; (with_reducible refine (solve_wants.calls a0 ((rd_T70 l1 x39_2).f0) ((rd_T70 l1 x39_2).f1) t113 _ A14.out).mono ?_); rintro e w28 ⟨rfl, hb⟩; refine ⟨_, rfl, ?_⟩; have n0_ := Aside0.mk (Kd.R_below (by (with_reducible repeat (first | apply Kd.R_alloc | apply Kd.R_drewN | apply Kd.R_drew)); exact (Kd.R_mono (Kd.R_far (p := ⟨gb112, 1, none⟩) (Kd.R_far (p := ⟨gb112, 0, none⟩) (Kd.R_types HO_6.out BK112.out (by decide)) (fun _ hk => hk.2) (.int .i64 ((rd_T70 l1 x39_2).f0))) (fun _ hk => hk.2) (.int .i64 ((rd_T70 l1 x39_2).f1))) (fun _ h_ => h_.1))) hb); have n1_ := Aside0.mk (Kd.R_below (by (with_reducible repeat (first | apply Kd.R_alloc | apply Kd.R_drewN | apply Kd.R_drew)); exact (Kd.R_mono (Kd.R_far (p := ⟨gb112, 1, none⟩) (Kd.R_far (p := ⟨gb112, 0, none⟩) (Kd.R_types HO_7.out BK112.out (by decide)) (fun _ hk => hk.2) (.int .i64 ((rd_T70 l1 x39_2).f0))) (fun _ hk => hk.2) (.int .i64 ((rd_T70 l1 x39_2).f1))) (fun _ h_ => h_.1))) hb); have n2_ := Aside0.mk (blk_below (g := gb112) (o := .cells #[.int .i64 ((rd_T70 l1 x39_2).f0), .int .i64 ((rd_T70 l1 x39_2).f1)] 70 (0, 0)) (by (with_reducible repeat (first | refine blk_drewN ?_ _ | refine blk_drew ?_ | refine blk_alloc ?_ _)); refine blk_put (cs := #[.int .i64 ((rd_T70 l1 x39_2).f0), .int .i64 0]) ?_ 1 _ rfl; (with_reducible repeat (first | refine blk_drewN ?_ _ | refine blk_drew ?_ | refine blk_alloc ?_ _)); refine blk_put (cs := #[.int .i64 0, .int .i64 0]) ?_ 0 _ rfl; (with_reducible repeat (first | refine blk_drewN ?_ _ | refine blk_drew ?_ | refine blk_alloc ?_ _)); exact BK112.out) hb); have n3_ := Aside0.mk (below_step (by repeat (first | (with_reducible first | exact HB.out | apply below_alloc | apply pw_below_drewN | apply below_drew1 | refine below_set ?_ GE112.out) | exact HB.out)) hb); clear HO_6; clear HO_7; clear BK112; clear HB; have HO_6 := n0_; have HO_7 := n1_; have BK112 := n2_; have HB := n3_; clear n0_ n1_ n2_ n3_; (try clear hb); (try clear hb2); (try clear hk); (try clear hi)) | ((with_reducible refine gate_builtin (b := .append) (xs := #[.tmp 44, .tmp 48]) rfl ?_); at_builtin; refine Kd.R_append (Kd.int .i64) (w0 := w) w.heap.size rfl (.tmp 44) (.tmp 48) 32 3 (.int .i64 0) 8 rfl Try.underlying32 info3 rfl (by decide) (by omega) u6 x6_2 t113 [.int .i64 t113] (fun k_ => some k_ ≠ (u7 : Value).ownBlock) (fun _ => False) rfl rfl ?aP (fun _ hk => hk.elim) ?aF ?aO ?aB ?aS ?aL ?_; (case aP => exact rfl); (case aB => exact (by repeat (first | (with_reducible first | exact HB.out | apply below_alloc | apply pw_below_drewN | apply below_drew1 | refine below_set ?_ GE112.out) | exact HB.out))); (case aF => exact (fun k_ hk => Kd.fresh' (Kd.R_lt (by (with_reducible repeat (first | apply Kd.R_alloc | apply Kd.R_drewN | apply Kd.R_drew)); exact HO_7.out)) k_ hk)); (case aO => exact (by (with_reducible repeat (first | apply Kd.R_alloc | apply Kd.R_drewN | apply Kd.R_drew)); exact HO_6.out)); (case aS => exact (below_size (by repeat (first | (with_reducible first | exact HB.out | apply below_alloc | apply pw_below_drewN | apply below_drew1 | refine below_set ?_ GE112.out) | exact HB.out)))); (case aL => have := LMc15.out; omega); intro v115 w29 ho hb hg hat; rw [← Ny114.out] at ho; have n0_ := Aside0.mk (Kd.R_after (ok := (fun _ => True)) (by (with_reducible repeat (first | apply Kd.R_alloc | apply Kd.R_drewN | apply Kd.R_drew)); exact Kd.R_mono HO_7.out (fun _ hk => ⟨trivial, hk⟩)) hg hat); have n1_ := Aside0.mk (blk_grown (g := gb112) (o := .cells #[.int .i64 ((rd_T70 l1 x39_2).f0), .int .i64 ((rd_T70 l1 x39_2).f1)] 70 (0, 0)) (by (with_reducible repeat (first | refine blk_drewN ?_ _ | refine blk_drew ?_ | refine blk_alloc ?_ _)); exact BK112.out) hg (Kd.R_ne HO_6.out BK112.out (by decide))); have n2_ := Aside0.mk (hb); have n3_ := Aside0.mk (ho); clear HO_7; clear BK112; clear HB; clear HO_6; have HO_7 := n0_; have BK112 := n1_; have HB := n2_; have HO116 := n3_; clear n0_ n1_ n2_ n3_; clear ho hb hg hat; obtain ⟨Ao30, co30, eo30⟩ := Kd.R_slice HO116.out; subst eo30; have p117 : 0 ≤ (x39_2 : Int) := of_decide_eq_true (by first | (with_reducible assumption) | assumption); have q117 : x39_2 < (y114.length : Int) := of_decide_eq_true (by first | (with_reducible assumption) | assumption); obtain ⟨ad117, e117, hx117_0⟩ := Kd.at_int (Kd.R_reads' HO116.out).2.2 x39_2 p117 q117; cases e117; replace p117 := eq_true p117; replace q117 := eq_true q117; have hcz31_0 : w29.cell? ⟨gb112, 0, none⟩ = some (.int .i64 ((rd_T70 l1 x39_2).f0)) := (blk_cell BK112.out 0).trans rfl; have hcz31_1 : w29.cell? ⟨gb112, 1, none⟩ = some (.int .i64 ((rd_T70 l1 x39_2).f1)) := (blk_cell BK112.out 1).trans rfl; have hfz31_0 := blk_frozen BK112.out 0; have hfz31_1 := blk_frozen BK112.out 1))
                            go_roundg k2
                            case measure => have := HJ2.out; have := HK2.out; omega
                            case rel => exact ⟨(y114), (x7_2), (wrap64 (x8_2 - (rd y114 x39_2))), (wrap64 (x39_2 + 1)), (by first | rfl | (simp; done) | (simp [*]; done)), (by first | rfl | (simp; done) | (simp [*]; done)), H', ⟨by have := HJ2.out; have := HK2.out; omega⟩, ⟨by (with_reducible repeat (first | apply Kd.R_alloc | apply Kd.R_drewN | apply Kd.R_drew)); exact HO116.out⟩, ⟨by (with_reducible repeat (first | apply Kd.R_alloc | apply Kd.R_drewN | apply Kd.R_drew)); exact Kd.R_mono HO_7.out (fun _ hk => hk.2)⟩, ⟨by repeat (first | (with_reducible first | exact HB.out | apply below_alloc | apply pw_below_drewN | apply below_drew1 | refine below_set ?_ GE112.out) | exact HB.out)⟩⟩
                        · rw [if_neg c16] at H
                          exact absurd H (by simp)
                      · rw [if_neg c15] at H
                        exact absurd H (by simp)
                    · rw [if_neg c13] at H
                      exact absurd H (by simp)
                  · rw [if_neg c12] at H
                    exact absurd H (by simp)
                · rw [if_neg c11] at H
                  have c11b0 : decide (x39_2 < (l1.length : Int)) = false := decide_eq_false c11
                  clear c11
                  have H' := Aside0.mk H
                  clear H
                  obtain ⟨Ao32, co32, eo32⟩ := Kd.R_slice HO_6.out
                  subst eo32
                  go_wp2
                  go_loopg [8, 11] k2 (fun kq v8 v11 w' => ∃ (x6_3 : List Int) (x8_3 : Int) (x11_3 : Int), v8 = .int .i64 x8_3 ∧ v11 = .int .i64 x11_3 ∧ Aside0 (solve_Share.l1 kq x6_3 x7_2 x8_3 x11_3 = some (r1, r2)) ∧ Aside0 (kq ≤ k2) ∧ Aside0 (Kd.R (Kd.int .i64) 3 w' w.heap.size (fun k_ => some k_ ≠ (u7 : Value).ownBlock) (.slice Ao32 x6_2.length co32) x6_3) ∧ Aside0 (Kd.R (Kd.int .i64) 3 w' w.heap.size (fun k_ => some k_ ≠ ((.slice Ao32 x6_2.length co32) : Value).ownBlock) u7 x7_2) ∧ Aside0 (Below w.heap.size w w'))
                  case atStart => exact ⟨(x6_2), (x8_2), (wrap64 ((x6_2.length : Int) - 1)), (by first | rfl | (simp; done) | (simp [*]; done)), (by first | rfl | (simp; done) | (simp [*]; done)), H', ⟨Nat.le_refl _⟩, ⟨by (with_reducible repeat (first | apply Kd.R_alloc | apply Kd.R_drewN | apply Kd.R_drew)); exact HO_6.out⟩, ⟨by (with_reducible repeat (first | apply Kd.R_alloc | apply Kd.R_drewN | apply Kd.R_drew)); exact HO_7.out⟩, ⟨by repeat (first | (with_reducible first | exact HB.out | apply below_alloc | apply pw_below_drewN | apply below_drew1) | exact HB.out)⟩⟩
                  case round =>
                    clear H'
                    try clear c1
                    try clear p1
                    try clear q1
                    try clear hx1
                    try clear p2
                    try clear c3
                    try clear c4
                    try clear c4b0
                    try clear c4b1
                    try clear c4b2
                    try clear c5
                    try clear c5b0
                    try clear p6
                    try clear c8
                    try clear c9
                    try clear c9b0
                    try clear c9b1
                    try clear c10
                    try clear c10b0
                    try clear c11
                    try clear c11b0
                    try clear p11
                    try clear q11
                    try clear hx11
                    try clear c12
                    try clear c12b0
                    try clear c13
                    try clear c13b0
                    try clear c15
                    try clear c16
                    try clear c16b0
                    try clear c17
                    try clear c17b0
                    try clear c17b1
                    try clear c18
                    try clear hcz20_0
                    try clear hcz20_1
                    try clear hcz24_0
                    try clear hcz24_1
                    try clear hcz27_0
                    try clear hcz27_1
                    try clear hcz31_0
                    try clear hcz31_1
                    try clear hfz20_0
                    try clear hfz20_1
                    try clear hfz24_0
                    try clear hfz24_1
                    try clear hfz27_0
                    try clear hfz27_1
                    try clear hfz31_0
                    try clear hfz31_1
                    try clear hx111_0
                    try clear hx111_1
                    try clear hx117_0
                    try clear p111
                    try clear p117
                    try clear p2
                    try clear q111
                    try clear q117
                    obtain ⟨x6_3, x8_3, x11_3, rfl, rfl, HA, HK3, HO_6, HO_7, HB⟩ := hrel
                    have hl6_3 := (Kd.R_reads' HO_6.out).1
                    rw [hl6_3] at HO_6
                    (try simp only [hl6_3])
                    (try simp only [hl6_3] at HO_7)
                    cases gk with
                    | zero => exact absurd HA.out (by simp [solve_Share.l1])
                    | succ k3 =>
                      have H := HA.out
                      clear HA
                      simp only [solve_Share.l1] at H
                      by_cases c33 : x8_3 < 0
                      · rw [if_pos c33] at H
                        have c33b0 : decide (x8_3 < 0) = true := decide_eq_true c33
                        clear c33
                        by_cases c34 : 0 ≤ x11_3
                        · rw [if_pos c34] at H
                          have c34b0 : decide (0 ≤ x11_3) = true := decide_eq_true c34
                          clear c34
                          by_cases c35 : x11_3 < (x6_3.length : Int)
                          · rw [if_pos c35] at H
                            have c35b0 : decide (x11_3 < (x6_3.length : Int)) = true := decide_eq_true c35
                            clear c35
                            (try simp only [hl6_3] at c35b0)
                            obtain ⟨ji36, hji36⟩ : ∃ j_ : Int, (mn (wrap64 ((rd x6_3 x11_3) - 1)) (wrap64 (-x8_3))) = j_ := ⟨_, rfl⟩
                            replace H : (solve_Share.l1 k3 (x6_3.set (x11_3 : Int).toNat (wrap64 ((rd x6_3 x11_3) - (ji36)))) x7_2 (wrap64 (x8_3 + (ji36))) (wrap64 (x11_3 - 1))) = some (r1, r2) := by first | (rw [hji36] at H; exact H) | (simp only [hji36] at H ⊢; exact H)
                            have hji36_ : (if (wrap64 (-x8_3)) < (wrap64 ((rd x6_3 x11_3) - 1)) then (wrap64 (-x8_3)) else (wrap64 ((rd x6_3 x11_3) - 1))) = ji36 := hji36
                            obtain ⟨y123, hy123⟩ : ∃ y_ : List Int, y_ = (x6_3.set (x11_3 : Int).toNat (wrap64 ((rd x6_3 x11_3) - (ji36)))) := ⟨_, rfl⟩
                            replace H : (solve_Share.l1 k3 y123 x7_2 (wrap64 (x8_3 + (ji36))) (wrap64 (x11_3 - 1))) = some (r1, r2) := by first | (rw [hy123]; with_reducible exact H) | (have H2_ := (Option.bind_some _ _).symm.trans H; rw [hy123]; with_reducible exact H2_) | (have H2_ := (Option.bind_some _ _).symm.trans H; with_reducible exact H2_) | with_reducible exact H | (rw [hy123]; exact H) | exact H
                            have Ny123 := Aside0.mk hy123
                            clear hy123
                            have H' := Aside0.mk H
                            clear H
                            have p121 : 0 ≤ (x11_3 : Int) := of_decide_eq_true (by first | (with_reducible assumption) | assumption)
                            have q121 : x11_3 < (x6_3.length : Int) := of_decide_eq_true (by first | (with_reducible assumption) | assumption)
                            obtain ⟨ad121, e121, hx121_0⟩ := Kd.at_int (Kd.R_reads' HO_6.out).2.2 x11_3 p121 q121
                            cases e121
                            replace p121 := eq_true p121
                            replace q121 := eq_true q121
                            have p122 : 0 ≤ (x11_3 : Int) := of_decide_eq_true (by first | (with_reducible assumption) | assumption)
                            have q122 : x11_3 < (x6_3.length : Int) := of_decide_eq_true (by first | (with_reducible assumption) | assumption)
                            obtain ⟨ad122, e122, hx122_0⟩ := Kd.at_int (Kd.R_reads' HO_6.out).2.2 x11_3 p122 q122
                            obtain rfl : ad121 = ad122 := (by injection e122)
                            replace p122 := eq_true p122
                            replace q122 := eq_true q122
                            have p37 : 0 ≤ (x11_3 : Int) := of_decide_eq_true (by first | (with_reducible assumption) | assumption)
                            have q37 : (x11_3 : Int) < ((x6_3.length : Int) : Int) := of_decide_eq_true (by first | (with_reducible assumption) | assumption)
                            obtain ⟨go37, co37, eo37, gb37, gl37, cl37, HG37⟩ := Kd.R_form HO_6.out (by omega)
                            (first | cases eo37 | (injection eo37 with ea_ en_ ec_; (first | subst ea_ | (injection ea_ with ea_; subst ea_)); subst ec_; clear en_))
                            have GB37 := Aside0.mk gb37
                            have GG37 := Aside0.mk HG37
                            clear gb37 gl37 HG37
                            (first | simp only [add_plain] at hx121_0 | skip)
                            (first | simp only [add_plain] at hx122_0 | skip)
                            obtain ⟨hx37_0, hf37_0⟩ := Kd.R_celln 0 HO_6.out (x11_3 : Int) p37 q37
                            replace p37 := eq_true p37
                            replace q37 := eq_true q37
                            have HP38 := Kd.R_putg HO_6.out (x11_3 : Int) (wrap64 ((rd x6_3 x11_3) - (ji36)))
                            go_wp2_with (first | ((with_reducible refine gate_store (t := 3) (p := 85) rfl ?_); refine store_event (t := 3) (p := 85) (v := ?vo_w39) (w1 := (wr.setCell ⟨go37, (x11_3 : Int).toNat, none⟩ (.int .i64 (wrap64 ((rd x6_3 x11_3) - (ji36)))))) ?hg ?ho ?hn ?hr ?_; (case ho => rfl); (case hg => rfl); (case hn => rfl); (case hr => first | (go_simp; done) | (go_simp; rfl)); intro w39 hw; have hg : wr.grownBy w39 (some go37) := (by rw [hw]; exact HP38.2); have hp_ : Kd.R (Kd.int .i64) 3 w39 w.heap.size (fun k_ => some k_ ≠ (u7 : Value).ownBlock) (.slice (some ⟨go37, 0, none⟩) x6_3.length co32) y123 := (by rw [hw, Ny123.out]; exact HP38.1); clear HP38; have n0_ := Aside0.mk (hp_); have n1_ := Aside0.mk (Kd.R_after (v := (.slice (some ⟨go37, 0, none⟩) x6_3.length co32)) (v1 := (.slice (some ⟨go37, 0, none⟩) x6_3.length co32)) (ok := (fun _ => True)) (by (with_reducible repeat (first | apply Kd.R_alloc | apply Kd.R_drewN | apply Kd.R_drew)); exact Kd.R_mono HO_7.out (fun _ hk => ⟨trivial, hk⟩)) hg (.inl rfl)); have n2_ := Aside0.mk ((by rw [hw]; exact below_set (HB.out) GB37.out : Below w.heap.size w w39)); clear HO_6; clear HO_7; clear HB; have HO_6 := n0_; have HO_7 := n1_; have HB := n2_; clear n0_ n1_ n2_; clear hg hw hp_))
                            (try simp only [← hl6_3])
                            go_roundg k3
                            case measure => have := HJ2.out; have := HK2.out; have := HK3.out; omega
                            case rel => exact ⟨(y123), (wrap64 (x8_3 + (ji36))), (wrap64 (x11_3 - 1)), (by first | rfl | (simp; done) | (simp only [← hji36] <;> (first | rfl | simp)) | (simp [*]; done)), (by first | rfl | (simp; done) | (simp [*]; done)), H', ⟨by have := HJ2.out; have := HK2.out; have := HK3.out; omega⟩, ⟨by (try simp only [hl6_3]); (with_reducible repeat (first | apply Kd.R_alloc | apply Kd.R_drewN | apply Kd.R_drew)); exact HO_6.out⟩, ⟨by (try simp only [hl6_3]); (with_reducible repeat (first | apply Kd.R_alloc | apply Kd.R_drewN | apply Kd.R_drew)); exact Kd.R_mono HO_7.out (fun _ hk => hk.2)⟩, ⟨by repeat (first | (with_reducible first | exact HB.out | apply below_alloc | apply pw_below_drewN | apply below_drew1) | exact HB.out)⟩⟩
                          · rw [if_neg c35] at H
                            exact absurd H (by simp)
                        · rw [if_neg c34] at H
                          exact absurd H (by simp)
                      · rw [if_neg c33] at H
                        have c33b0 : decide (x8_3 < 0) = false := decide_eq_false c33
                        clear c33
                        by_cases c40 : (x7_2.length : Int) = 0
                        · rw [if_pos c40] at H
                          have c40b0 : ((x7_2.length : Int) == 0) = true := beq_iff_eq.mpr c40
                          have c40b1 : ((x7_2.length : Int) != 0) = false := bne_eq_false_iff_eq.mpr c40
                          clear c40
                          (try simp only [hl6_3] at c40b0)
                          (try simp only [hl6_3] at c40b1)
                          obtain ⟨ji41, hji41⟩ : ∃ j_ : Int, (wrap64 ((x6_3.length : Int) - 1)) = j_ := ⟨_, rfl⟩
                          replace H : (if 0 ≤ (ji41) then (if (ji41) < (x6_3.length : Int) then (some ((x6_3.set ((ji41) : Int).toNat (wrap64 ((rd x6_3 (ji41)) + x8_3))), 0)) else (none)) else (none)) = some (r1, r2) := by first | (rw [hji41] at H; exact H) | (simp only [hji41] at H ⊢; exact H)
                          have hji41w : (IntKind.i64.wrap ((x6_3.length : Int) - 1)) = ji41 := (i64_w _).trans hji41
                          by_cases c42 : 0 ≤ (ji41)
                          · rw [if_pos c42] at H
                            have c42b0 : decide (0 ≤ (ji41)) = true := decide_eq_true c42
                            clear c42
                            by_cases c43 : (ji41) < (x6_3.length : Int)
                            · rw [if_pos c43] at H
                              have c43b0 : decide ((ji41) < (x6_3.length : Int)) = true := decide_eq_true c43
                              clear c43
                              (try simp only [hl6_3] at c43b0)
                              obtain ⟨y125, hy125⟩ : ∃ y_ : List Int, y_ = (x6_3.set ((ji41) : Int).toNat (wrap64 ((rd x6_3 (ji41)) + x8_3))) := ⟨_, rfl⟩
                              replace H : (some (y125, 0)) = some (r1, r2) := by first | (rw [hy125]; with_reducible exact H) | (have H2_ := (Option.bind_some _ _).symm.trans H; rw [hy125]; with_reducible exact H2_) | (have H2_ := (Option.bind_some _ _).symm.trans H; with_reducible exact H2_) | with_reducible exact H | (rw [hy125]; exact H) | exact H
                              have Ny125 := Aside0.mk hy125
                              clear hy125
                              simp only [Option.some.injEq, Prod.mk.injEq] at H
                              obtain ⟨rfl, rfl⟩ := H
                              obtain ⟨Ao45, co45, eo45⟩ := Kd.R_slice HO_7.out
                              subst eo45
                              have p124 : 0 ≤ ((ji41) : Int) := of_decide_eq_true (by first | (with_reducible assumption) | assumption)
                              have q124 : (ji41) < (x6_3.length : Int) := of_decide_eq_true (by first | (with_reducible assumption) | assumption)
                              obtain ⟨ad124, e124, hx124_0⟩ := Kd.at_int (Kd.R_reads' HO_6.out).2.2 (ji41) p124 q124
                              cases e124
                              replace p124 := eq_true p124
                              replace q124 := eq_true q124
                              have p44 : 0 ≤ ((ji41) : Int) := of_decide_eq_true (by first | (with_reducible assumption) | assumption)
                              have q44 : ((ji41) : Int) < ((x6_3.length : Int) : Int) := of_decide_eq_true (by first | (with_reducible assumption) | assumption)
                              obtain ⟨go44, co44, eo44, gb44, gl44, cl44, HG44⟩ := Kd.R_form HO_6.out (by omega)
                              (first | cases eo44 | (injection eo44 with ea_ en_ ec_; (first | subst ea_ | (injection ea_ with ea_; subst ea_)); subst ec_; clear en_))
                              have GB44 := Aside0.mk gb44
                              have GG44 := Aside0.mk HG44
                              clear gb44 gl44 HG44
                              (first | simp only [add_plain] at hx124_0 | skip)
                              obtain ⟨hx44_0, hf44_0⟩ := Kd.R_celln 0 HO_6.out ((ji41) : Int) p44 q44
                              replace p44 := eq_true p44
                              replace q44 := eq_true q44
                              have HP46 := Kd.R_putg HO_6.out ((ji41) : Int) (wrap64 ((rd x6_3 (ji41)) + x8_3))
                              go_wp2_with (first | ((with_reducible refine gate_store (t := 3) (p := 100) rfl ?_); refine store_event (t := 3) (p := 100) (v := ?vo_w47) (w1 := (wr.setCell ⟨go44, ((ji41) : Int).toNat, none⟩ (.int .i64 (wrap64 ((rd x6_3 (ji41)) + x8_3))))) ?hg ?ho ?hn ?hr ?_; (case ho => rfl); (case hg => rfl); (case hn => rfl); (case hr => first | (go_simp; done) | (go_simp; rfl)); intro w47 hw; have hg : wr.grownBy w47 (some go44) := (by rw [hw]; exact HP46.2); have hp_ : Kd.R (Kd.int .i64) 3 w47 w.heap.size (fun k_ => some k_ ≠ (.slice Ao45 x7_2.length co45 : Value).ownBlock) (.slice (some ⟨go44, 0, none⟩) x6_3.length co32) y125 := (by rw [hw, Ny125.out]; exact HP46.1); clear HP46; have n0_ := Aside0.mk (hp_); have n1_ := Aside0.mk (Kd.R_after (v := (.slice (some ⟨go44, 0, none⟩) x6_3.length co32)) (v1 := (.slice (some ⟨go44, 0, none⟩) x6_3.length co32)) (ok := (fun _ => True)) (by (with_reducible repeat (first | apply Kd.R_alloc | apply Kd.R_drewN | apply Kd.R_drew)); exact Kd.R_mono HO_7.out (fun _ hk => ⟨trivial, hk⟩)) hg (.inl rfl)); have n2_ := Aside0.mk ((by rw [hw]; exact below_set (HB.out) GB44.out : Below w.heap.size w w47)); clear HO_6; clear HO_7; clear HB; have HO_6 := n0_; have HO_7 := n1_; have HB := n2_; clear n0_ n1_ n2_; clear hg hw hp_))
                              go_ret2
                              exact ⟨_, by first | rfl | (simp [errW_none, errW_some] <;> rfl) | (simp only [← hji41]; first | rfl | (simp [errW_none, errW_some] <;> rfl)) | (simp [*, errW_none, errW_some] <;> rfl), by (with_reducible repeat (first | apply Kd.R_alloc | apply Kd.R_drewN | apply Kd.R_drew)); exact Kd.R_mono HO_6.out (fun _ hk => trivial), by repeat (first | (with_reducible first | exact HB.out | apply below_alloc | apply pw_below_drewN | apply below_drew1) | exact HB.out)⟩
                            · rw [if_neg c43] at H
                              exact absurd H (by simp)
                          · rw [if_neg c42] at H
                            exact absurd H (by simp)
                        · rw [if_neg c40] at H
                          have c40b0 : ((x7_2.length : Int) == 0) = false := beq_eq_false_iff_ne.mpr c40
                          have c40b1 : ((x7_2.length : Int) != 0) = true := bne_iff_ne.mpr c40
                          have c40b2 : ¬ (x7_2 = []) := fun h_ => c40 (by rw [h_]; rfl)
                          (try simp only [hl6_3] at c40b0)
                          (try simp only [hl6_3] at c40b1)
                          (try simp only [hl6_3] at c40b2)
                          have H' := Aside0.mk H
                          clear H
                          obtain ⟨Ao48, co48, eo48⟩ := Kd.R_slice HO_7.out
                          subst eo48
                          go_wp2
                          go_loopg [104] k3 (fun kq v104 w' => ∃ (x6_4 : List Int) (x104_4 : Int), v104 = .int .i64 x104_4 ∧ Aside0 (solve_Share.l2 kq x6_4 x7_2 x8_3 x7_2 (x7_2.length : Int) x104_4 = some (r1, r2)) ∧ Aside0 (kq ≤ k3) ∧ Aside0 (Kd.R (Kd.int .i64) 3 w' w.heap.size (fun k_ => some k_ ≠ ((.slice Ao48 x7_2.length co48) : Value).ownBlock ∧ some k_ ≠ ((.slice Ao48 x7_2.length co48) : Value).ownBlock) (.slice Ao32 x6_3.length co32) x6_4) ∧ Aside0 (Kd.R (Kd.int .i64) 3 w' w.heap.size (fun k_ => some k_ ≠ ((.slice Ao32 x6_3.length co32) : Value).ownBlock) (.slice Ao48 x7_2.length co48) x7_2) ∧ Aside0 (Kd.R (Kd.int .i64) 3 w' w.heap.size (fun k_ => some k_ ≠ ((.slice Ao32 x6_3.length co32) : Value).ownBlock) (.slice Ao48 x7_2.length co48) x7_2) ∧ Aside0 (Below w.heap.size w w'))
                          case atStart => exact ⟨(x6_3), (0), (by first | rfl | (simp; done) | (simp [*]; done)), H', ⟨Nat.le_refl _⟩, ⟨by (try simp only [hl6_3]); (with_reducible repeat (first | apply Kd.R_alloc | apply Kd.R_drewN | apply Kd.R_drew)); exact Kd.R_mono HO_6.out (fun _ hk => ⟨hk, hk⟩)⟩, ⟨by (try simp only [hl6_3]); (with_reducible repeat (first | apply Kd.R_alloc | apply Kd.R_drewN | apply Kd.R_drew)); exact HO_7.out⟩, ⟨by (try simp only [hl6_3]); (with_reducible repeat (first | apply Kd.R_alloc | apply Kd.R_drewN | apply Kd.R_drew)); exact HO_7.out⟩, ⟨by repeat (first | (with_reducible first | exact HB.out | apply below_alloc | apply pw_below_drewN | apply below_drew1) | exact HB.out)⟩⟩
                          case round =>
                            clear H'
                            try clear c1
                            try clear p1
                            try clear q1
                            try clear hx1
                            try clear p2
                            try clear c3
                            try clear p3
                            try clear q3
                            try clear hx3
                            try clear hf3
                            try clear c4
                            try clear c4b0
                            try clear c4b1
                            try clear c4b2
                            try clear p4
                            try clear q4
                            try clear hx4
                            try clear hf4
                            try clear c5
                            try clear c5b0
                            try clear p6
                            try clear c8
                            try clear c9
                            try clear c9b0
                            try clear c9b1
                            try clear c10
                            try clear c10b0
                            try clear c11
                            try clear c11b0
                            try clear p11
                            try clear q11
                            try clear hx11
                            try clear c12
                            try clear c12b0
                            try clear p12
                            try clear q12
                            try clear hx12
                            try clear c13
                            try clear c13b0
                            try clear c15
                            try clear c16
                            try clear c16b0
                            try clear c17
                            try clear c17b0
                            try clear c17b1
                            try clear c18
                            try clear c33
                            try clear c33b0
                            try clear c34
                            try clear c34b0
                            try clear c35
                            try clear c35b0
                            try clear p37
                            try clear q37
                            try clear hx37
                            try clear hf37
                            try clear c39
                            try clear c40
                            try clear c40b0
                            try clear c40b1
                            try clear c40b2
                            try clear c42
                            try clear c42b0
                            try clear c43
                            try clear c43b0
                            try clear p44
                            try clear q44
                            try clear hx44
                            try clear hf44
                            try clear hcz20_0
                            try clear hcz20_1
                            try clear hcz24_0
                            try clear hcz24_1
                            try clear hcz27_0
                            try clear hcz27_1
                            try clear hcz31_0
                            try clear hcz31_1
                            try clear hfz20_0
                            try clear hfz20_1
                            try clear hfz24_0
                            try clear hfz24_1
                            try clear hfz27_0
                            try clear hfz27_1
                            try clear hfz31_0
                            try clear hfz31_1
                            try clear hx111_0
                            try clear hx111_1
                            try clear hx117_0
                            try clear hx121_0
                            try clear hx122_0
                            try clear hx124_0
                            try clear hx37_0
                            try clear hx44_0
                            try clear p1
                            try clear p11
                            try clear p111
                            try clear p117
                            try clear p121
                            try clear p122
                            try clear p124
                            try clear p2
                            try clear p37
                            try clear p44
                            try clear p6
                            try clear q1
                            try clear q11
                            try clear q111
                            try clear q117
                            try clear q121
                            try clear q122
                            try clear q124
                            try clear q37
                            try clear q44
                            obtain ⟨x6_4, x104_4, rfl, HA, HK4, HO_6, HO_7, HO_102, HB⟩ := hrel
                            have hl6_4 := (Kd.R_reads' HO_6.out).1
                            rw [hl6_4] at HO_6
                            (try simp only [hl6_4])
                            (try simp only [hl6_4] at HO_7)
                            (try simp only [hl6_4] at HO_102)
                            cases gk with
                            | zero => exact absurd HA.out (by simp [solve_Share.l2])
                            | succ k4 =>
                              have H := HA.out
                              clear HA
                              simp only [solve_Share.l2] at H
                              by_cases c49 : x104_4 < (x7_2.length : Int)
                              · rw [if_pos c49] at H
                                have c49b0 : decide (x104_4 < (x7_2.length : Int)) = true := decide_eq_true c49
                                clear c49
                                (try simp only [hl6_3, hl6_4] at c49b0)
                                by_cases c50 : 0 ≤ x104_4
                                · rw [if_pos c50] at H
                                  have c50b0 : decide (0 ≤ x104_4) = true := decide_eq_true c50
                                  clear c50
                                  by_cases c51 : x104_4 < (x7_2.length : Int)
                                  · rw [if_pos c51] at H
                                    have c51b0 : decide (x104_4 < (x7_2.length : Int)) = true := decide_eq_true c51
                                    clear c51
                                    (try simp only [hl6_3, hl6_4] at c51b0)
                                    by_cases c52 : 0 ≤ (rd x7_2 x104_4)
                                    · rw [if_pos c52] at H
                                      have c52b0 : decide (0 ≤ (rd x7_2 x104_4)) = true := decide_eq_true c52
                                      clear c52
                                      by_cases c53 : (rd x7_2 x104_4) < (x6_4.length : Int)
                                      · rw [if_pos c53] at H
                                        have c53b0 : decide ((rd x7_2 x104_4) < (x6_4.length : Int)) = true := decide_eq_true c53
                                        clear c53
                                        (try simp only [hl6_3, hl6_4] at c53b0)
                                        by_cases c54 : (x7_2.length : Int) = 0
                                        · rw [if_pos c54] at H
                                          exact absurd H (by simp)
                                        · rw [if_neg c54] at H
                                          have c54b0 : ((x7_2.length : Int) == 0) = false := beq_eq_false_iff_ne.mpr c54
                                          have c54b1 : ((x7_2.length : Int) != 0) = true := bne_iff_ne.mpr c54
                                          have c54b2 : ¬ (x7_2 = []) := fun h_ => c54 (by rw [h_]; rfl)
                                          (try simp only [hl6_3, hl6_4] at c54b0)
                                          (try simp only [hl6_3, hl6_4] at c54b1)
                                          (try simp only [hl6_3, hl6_4] at c54b2)
                                          obtain ⟨y128, hy128⟩ : ∃ y_ : List Int, y_ = (x6_4.set ((rd x7_2 x104_4) : Int).toNat (wrap64 ((rd x6_4 (rd x7_2 x104_4)) + (wrap64 (Int.tdiv x8_3 (x7_2.length : Int)))))) := ⟨_, rfl⟩
                                          replace H : (if x104_4 < (Int.tmod x8_3 (x7_2.length : Int)) then (solve_Share.l2 k4 (y128.set ((rd x7_2 x104_4) : Int).toNat (wrap64 ((rd y128 (rd x7_2 x104_4)) + 1))) x7_2 x8_3 x7_2 (x7_2.length : Int) (wrap64 (x104_4 + 1))) else (solve_Share.l2 k4 y128 x7_2 x8_3 x7_2 (x7_2.length : Int) (wrap64 (x104_4 + 1)))) = some (r1, r2) := by first | (rw [hy128]; with_reducible exact H) | (have H2_ := (Option.bind_some _ _).symm.trans H; rw [hy128]; with_reducible exact H2_) | (have H2_ := (Option.bind_some _ _).symm.trans H; with_reducible exact H2_) | with_reducible exact H | (rw [hy128]; exact H) | exact H
                                          have Ny128 := Aside0.mk hy128
                                          clear hy128
                                          by_cases c56 : x104_4 < (Int.tmod x8_3 (x7_2.length : Int))
                                          · rw [if_pos c56] at H
                                            have c56b0 : decide (x104_4 < (Int.tmod x8_3 (x7_2.length : Int))) = true := decide_eq_true c56
                                            clear c56
                                            (try simp only [hl6_3, hl6_4] at c56b0)
                                            obtain ⟨y130, hy130⟩ : ∃ y_ : List Int, y_ = (y128.set ((rd x7_2 x104_4) : Int).toNat (wrap64 ((rd y128 (rd x7_2 x104_4)) + 1))) := ⟨_, rfl⟩
                                            replace H : (solve_Share.l2 k4 y130 x7_2 x8_3 x7_2 (x7_2.length : Int) (wrap64 (x104_4 + 1))) = some (r1, r2) := by first | (rw [hy130]; with_reducible exact H) | (have H2_ := (Option.bind_some _ _).symm.trans H; rw [hy130]; with_reducible exact H2_) | (have H2_ := (Option.bind_some _ _).symm.trans H; with_reducible exact H2_) | with_reducible exact H | (rw [hy130]; exact H) | exact H
                                            have Ny130 := Aside0.mk hy130
                                            clear hy130
                                            have H' := Aside0.mk H
                                            clear H
                                            have p126 : 0 ≤ (x104_4 : Int) := of_decide_eq_true (by first | (with_reducible assumption) | assumption)
                                            have q126 : x104_4 < (x7_2.length : Int) := of_decide_eq_true (by first | (with_reducible assumption) | assumption)
                                            obtain ⟨ad126, e126, hx126_0⟩ := Kd.at_int (Kd.R_reads' HO_102.out).2.2 x104_4 p126 q126
                                            cases e126
                                            replace p126 := eq_true p126
                                            replace q126 := eq_true q126
                                            try go_wp2
                                            have n0_ := Aside0.mk (Kd.R_drew HO_6.out)
                                            have n1_ := Aside0.mk (Kd.R_drew HO_7.out)
                                            have n2_ := Aside0.mk (Kd.R_drew HO_102.out)
                                            have n3_ := Aside0.mk (below_drew1 HB.out)
                                            clear HO_6
                                            clear HO_7
                                            clear HO_102
                                            clear HB
                                            have HO_6 := n0_
                                            have HO_7 := n1_
                                            have HO_102 := n2_
                                            have HB := n3_
                                            clear n0_ n1_ n2_ n3_
                                            have p127 : 0 ≤ ((rd x7_2 x104_4) : Int) := of_decide_eq_true (by first | (with_reducible assumption) | assumption)
                                            have q127 : (rd x7_2 x104_4) < (x6_4.length : Int) := of_decide_eq_true (by first | (with_reducible assumption) | assumption)
                                            obtain ⟨ad127, e127, hx127_0⟩ := Kd.at_int (Kd.R_reads' HO_6.out).2.2 (rd x7_2 x104_4) p127 q127
                                            cases e127
                                            replace p127 := eq_true p127
                                            replace q127 := eq_true q127
                                            have p55 : 0 ≤ ((rd x7_2 x104_4) : Int) := of_decide_eq_true (by first | (with_reducible assumption) | assumption)
                                            have q55 : ((rd x7_2 x104_4) : Int) < ((x6_4.length : Int) : Int) := of_decide_eq_true (by first | (with_reducible assumption) | assumption)
                                            obtain ⟨go55, co55, eo55, gb55, gl55, cl55, HG55⟩ := Kd.R_form HO_6.out (by omega)
                                            (first | cases eo55 | (injection eo55 with ea_ en_ ec_; (first | subst ea_ | (injection ea_ with ea_; subst ea_)); subst ec_; clear en_))
                                            have GB55 := Aside0.mk gb55
                                            have GG55 := Aside0.mk HG55
                                            clear gb55 gl55 HG55
                                            (first | simp only [add_plain] at hx127_0 | skip)
                                            obtain ⟨hx55_0, hf55_0⟩ := Kd.R_celln 0 HO_6.out ((rd x7_2 x104_4) : Int) p55 q55
                                            replace p55 := eq_true p55
                                            replace q55 := eq_true q55
                                            have HP59 := Kd.R_putn HO_6.out ((rd x7_2 x104_4) : Int) (wrap64 ((rd x6_4 (rd x7_2 x104_4)) + (wrap64 (Int.tdiv x8_3 (x7_2.length : Int)))))
                                            rw [← Ny128.out] at HP59
                                            have HQ59 := Aside0.mk HP59
                                            clear HP59
                                            refine start_ (n := 11) (S := fun w' => w'.cell? ⟨go55, ((rd x7_2 x104_4)).toNat, none⟩ = some (.int .i64 (rd x6_4 (rd x7_2 x104_4)))) (ds := [10]) #[false, false, false, false, false, false, false, false, false, false, false] (by kernel_rfl) rfl rfl (hx127_0) (fun hHeld => ?_); refine with_tabW solve_Share.tab29 solve_Share.bits29 (fun HT_ HW_ => ?_)
                                            generalize wr.drew = w58 at HO_6 HO_7 HO_102 HB GG55 HQ59 hf55_0 hx127_0 hx55_0 hHeld ⊢
                                            refine pure_ (i := 0) (N := some 109) (v := ?_) (a' := ?_) #[true, false, false, false, false, false, false, false, false, false, false] rfl rfl (any_of HT_.out (by kernel_rfl)) (fun _ _ _ h => h) (Or.inl ⟨by rfl, ?_⟩) ?_ ?_
                                            rotate_left
                                            · intro w'
                                              go_simp
                                              with_reducible rfl
                                            rotate_left
                                            · simp only [Act.put, List.setIfInBounds_toArray, List.set_cons_zero, List.set_cons_succ, i64_w, i32_w]
                                              rfl
                                            refine pure_ (i := 1) (N := some 110) (v := ?_) (a' := ?_) #[true, true, false, false, false, false, false, false, false, false, false] rfl rfl (any_of HT_.out (by kernel_rfl)) (fun _ _ _ h => h) (Or.inl ⟨by rfl, ?_⟩) ?_ ?_
                                            rotate_left
                                            · intro w'
                                              go_simp
                                              with_reducible rfl
                                            rotate_left
                                            · simp only [Act.put, List.setIfInBounds_toArray, List.set_cons_zero, List.set_cons_succ, i64_w, i32_w]
                                              rfl
                                            refine pure_ (i := 2) (N := some 111) (v := ?_) (a' := ?_) #[true, true, true, false, false, false, false, false, false, false, false] rfl rfl (any_of HT_.out (by kernel_rfl)) (fun _ _ _ h => h) (Or.inl ⟨by rfl, ?_⟩) ?_ ?_
                                            rotate_left
                                            · intro w'
                                              go_simp
                                              with_reducible rfl
                                            rotate_left
                                            · simp only [Act.put, List.setIfInBounds_toArray, List.set_cons_zero, List.set_cons_succ, i64_w, i32_w]
                                              rfl
                                            refine pure_ (i := 4) (N := some 113) (v := ?_) (a' := ?_) #[true, true, true, false, true, false, false, false, false, false, false] rfl rfl (any_of HT_.out (by kernel_rfl)) (fun _ _ _ h => h) (Or.inl ⟨by rfl, ?_⟩) ?_ ?_
                                            rotate_left
                                            · intro w'
                                              go_simp
                                              with_reducible rfl
                                            rotate_left
                                            · simp only [Act.put, List.setIfInBounds_toArray, List.set_cons_zero, List.set_cons_succ, i64_w, i32_w]
                                              rfl
                                            refine pure_ (i := 5) (N := some 114) (v := ?_) (a' := ?_) #[true, true, true, false, true, true, false, false, false, false, false] rfl rfl (any_of HT_.out (by kernel_rfl)) (fun _ _ _ h => h) (Or.inl ⟨by rfl, ?_⟩) ?_ ?_
                                            rotate_left
                                            · intro w'
                                              go_simp
                                              with_reducible rfl
                                            rotate_left
                                            · simp only [Act.put, List.setIfInBounds_toArray, List.set_cons_zero, List.set_cons_succ, i64_w, i32_w]
                                              rfl
                                            refine pure_ (i := 6) (N := some 115) (v := ?_) (a' := ?_) #[true, true, true, false, true, true, true, false, false, false, false] rfl rfl (any_of HT_.out (by kernel_rfl)) (fun _ _ _ h => h) (Or.inl ⟨by rfl, ?_⟩) ?_ ?_
                                            rotate_left
                                            · intro w'
                                              go_simp
                                              with_reducible rfl
                                            rotate_left
                                            · simp only [Act.put, List.setIfInBounds_toArray, List.set_cons_zero, List.set_cons_succ, i64_w, i32_w]
                                              rfl
                                            refine pure_ (i := 7) (N := some 116) (v := ?_) (a' := ?_) #[true, true, true, false, true, true, true, true, false, false, false] rfl rfl (any_of HT_.out (by kernel_rfl)) (fun _ _ _ h => h) (Or.inl ⟨by rfl, ?_⟩) ?_ ?_
                                            rotate_left
                                            · intro w'
                                              go_simp
                                              with_reducible rfl
                                            rotate_left
                                            · simp only [Act.put, List.setIfInBounds_toArray, List.set_cons_zero, List.set_cons_succ, i64_w, i32_w]
                                              rfl
                                            refine take_ (i := 3) (N := some 112) (v := ?_) (a' := ?_) #[true, true, true, true, true, true, true, true, false, false, false] rfl rfl (take_ofW HT_.out HW_.out (by kernel_rfl)) (fun _ _ _ h => h) (Or.inl ⟨by rfl, ?_⟩) hHeld ?_ ?_
                                            rotate_left
                                            · intro w' s0
                                              go_simp
                                              with_reducible rfl
                                            rotate_left
                                            · simp only [Act.put, List.setIfInBounds_toArray, List.set_cons_zero, List.set_cons_succ, i64_w, i32_w]
                                              rfl
                                            refine pure_ (i := 8) (N := some 117) (v := ?_) (a' := ?_) #[true, true, true, true, true, true, true, true, true, false, false] rfl rfl (any_of HT_.out (by kernel_rfl)) (fun _ _ _ h => h) (Or.inl ⟨by rfl, ?_⟩) ?_ ?_
                                            rotate_left
                                            · intro w'
                                              go_simp
                                              with_reducible rfl
                                            rotate_left
                                            · simp only [Act.put, List.setIfInBounds_toArray, List.set_cons_zero, List.set_cons_succ, i64_w, i32_w]
                                              rfl
                                            refine pure_ (i := 9) (N := some 118) (v := ?_) (a' := ?_) #[true, true, true, true, true, true, true, true, true, true, false] rfl rfl (any_of HT_.out (by kernel_rfl)) (fun _ _ _ h => h) (Or.inl ⟨by rfl, ?_⟩) ?_ ?_
                                            rotate_left
                                            · intro w'
                                              go_simp
                                              with_reducible rfl
                                            rotate_left
                                            · simp only [Act.put, List.setIfInBounds_toArray, List.set_cons_zero, List.set_cons_succ, i64_w, i32_w]
                                              rfl
                                            refine last_ (i := 10) (N := none) #[true, true, true, true, true, true, true, true, true, true, true] rfl rfl (one_of HT_.out (by kernel_rfl)) (by decide) (fun K hK => ?_)
                                            refine skip_ (w1 := ?_) (by rfl) rfl ?_ ?_
                                            rotate_left
                                            · go_simp
                                              rfl
                                            refine hK.out _ _ ?_
                                            clear hK K
                                            refine done_ (done_of HT_.out (by kernel_rfl)) ?_
                                            have n0_ : Aside0 (Kd.R (Kd.int .i64) 3 (w58.setCell ⟨go55, ((rd x7_2 x104_4) : Int).toNat, none⟩ (.int .i64 (wrap64 ((rd x6_4 (rd x7_2 x104_4)) + (wrap64 (Int.tdiv x8_3 (x7_2.length : Int))))))) w.heap.size (fun k_ => some k_ ≠ (.slice (some ad126) x7_2.length co48 : Value).ownBlock ∧ some k_ ≠ (.slice (some ad126) x7_2.length co48 : Value).ownBlock) (.slice (some ⟨go55, 0, none⟩) x6_4.length co32) y128) := ⟨by (with_reducible repeat (first | apply Kd.R_alloc | apply Kd.R_drewN | apply Kd.R_drew)); exact HQ59.out⟩
                                            have n1_ : Aside0 (Kd.R (Kd.int .i64) 3 (w58.setCell ⟨go55, ((rd x7_2 x104_4) : Int).toNat, none⟩ (.int .i64 (wrap64 ((rd x6_4 (rd x7_2 x104_4)) + (wrap64 (Int.tdiv x8_3 (x7_2.length : Int))))))) w.heap.size (fun k_ => some k_ ≠ (.slice (some ⟨go55, 0, none⟩) x6_4.length co32 : Value).ownBlock) (.slice (some ad126) x7_2.length co48) x7_2) := ⟨by (with_reducible repeat (first | apply Kd.R_alloc | apply Kd.R_drewN | apply Kd.R_drew)); exact Kd.R_mono (Kd.R_far (p := ⟨go55, ((rd x7_2 x104_4) : Int).toNat, none⟩) (Kd.R_mono HO_7.out (fun k_ hk => (⟨hk, fun e_ => hk (by rw [e_]; rfl)⟩ : _ ∧ k_ ≠ go55))) (fun _ hk => hk.2) (.int .i64 (wrap64 ((rd x6_4 (rd x7_2 x104_4)) + (wrap64 (Int.tdiv x8_3 (x7_2.length : Int))))))) (fun _ hk => hk.1)⟩
                                            have n2_ : Aside0 (Kd.R (Kd.int .i64) 3 (w58.setCell ⟨go55, ((rd x7_2 x104_4) : Int).toNat, none⟩ (.int .i64 (wrap64 ((rd x6_4 (rd x7_2 x104_4)) + (wrap64 (Int.tdiv x8_3 (x7_2.length : Int))))))) w.heap.size (fun k_ => some k_ ≠ (.slice (some ⟨go55, 0, none⟩) x6_4.length co32 : Value).ownBlock) (.slice (some ad126) x7_2.length co48) x7_2) := ⟨by (with_reducible repeat (first | apply Kd.R_alloc | apply Kd.R_drewN | apply Kd.R_drew)); exact Kd.R_mono (Kd.R_far (p := ⟨go55, ((rd x7_2 x104_4) : Int).toNat, none⟩) (Kd.R_mono HO_102.out (fun k_ hk => (⟨hk, fun e_ => hk (by rw [e_]; rfl)⟩ : _ ∧ k_ ≠ go55))) (fun _ hk => hk.2) (.int .i64 (wrap64 ((rd x6_4 (rd x7_2 x104_4)) + (wrap64 (Int.tdiv x8_3 (x7_2.length : Int))))))) (fun _ hk => hk.1)⟩
                                            have n3_ : Aside0 (Below w.heap.size w (w58.setCell ⟨go55, ((rd x7_2 x104_4) : Int).toNat, none⟩ (.int .i64 (wrap64 ((rd x6_4 (rd x7_2 x104_4)) + (wrap64 (Int.tdiv x8_3 (x7_2.length : Int)))))))) := ⟨by repeat (first | (with_reducible first | exact HB.out | apply below_alloc | apply pw_below_drewN | apply below_drew1 | refine below_set ?_ GB55.out) | exact HB.out)⟩
                                            (try clear HO_6)
                                            (try clear HO_7)
                                            (try clear HO_102)
                                            (try clear HB)
                                            generalize (w58.setCell ⟨go55, ((rd x7_2 x104_4) : Int).toNat, none⟩ (.int .i64 (wrap64 ((rd x6_4 (rd x7_2 x104_4)) + (wrap64 (Int.tdiv x8_3 (x7_2.length : Int))))))) = w60 at n0_ n1_ n2_ n3_ ⊢
                                            have HO_6 := n0_
                                            have HO_7 := n1_
                                            have HO_102 := n2_
                                            have HB := n3_
                                            clear n0_ n1_ n2_ n3_
                                            have p129 : 0 ≤ ((rd x7_2 x104_4) : Int) := of_decide_eq_true (by first | (with_reducible assumption) | assumption)
                                            have q129 : (rd x7_2 x104_4) < (y128.length : Int) := (by have h_ : ((rd x7_2 x104_4) : Int) < ((x6_4.length : Int) : Int) := of_decide_eq_true (by first | (with_reducible assumption) | assumption); first | (have e_ := (Kd.R_reads' HO_6.out).1; omega) | simpa only [Ny128.out, List.length_set] using h_)
                                            have ql129 : (((rd x7_2 x104_4) : Int) < ((x6_4.length : Int) : Int)) = True := eq_true (of_decide_eq_true (by first | (with_reducible assumption) | assumption))
                                            obtain ⟨ad129, e129, hx129_0⟩ := Kd.at_int (Kd.R_reads' HO_6.out).2.2 (rd x7_2 x104_4) p129 q129
                                            obtain rfl : (⟨go55, 0, none⟩ : Addr) = ad129 := (by injection e129)
                                            (first | simp only [add_plain] at hx129_0 | simp only [add_at] at hx129_0 | simp only [Addr.add, Nat.zero_add] at hx129_0 | skip)
                                            replace p129 := eq_true p129
                                            replace q129 := eq_true q129
                                            have p57 : 0 ≤ ((rd x7_2 x104_4) : Int) := of_decide_eq_true (by first | (with_reducible assumption) | assumption)
                                            have q57 : ((rd x7_2 x104_4) : Int) < ((x6_4.length : Int) : Int) := of_decide_eq_true (by first | (with_reducible assumption) | assumption)
                                            obtain ⟨hx57_0, hf57_0⟩ := Kd.R_celln 0 HO_6.out ((rd x7_2 x104_4) : Int) p57 q57
                                            replace p57 := eq_true p57
                                            replace q57 := eq_true q57
                                            obtain ⟨hy61_, hz61_⟩ := Kd.R_celln 0 HO_6.out ((rd x7_2 x104_4) : Int) (of_decide_eq_true (by first | (with_reducible assumption) | assumption)) (of_decide_eq_true (by first | (with_reducible assumption) | assumption))
                                            have HP61 := Kd.R_putg HO_6.out ((rd x7_2 x104_4) : Int) (wrap64 ((rd y128 (rd x7_2 x104_4)) + 1))
                                            try go_wp2_with (first | ((with_reducible refine gate_store (t := 3) (p := 130) rfl ?_); refine store_event (t := 3) (p := 130) (v := ?vo_w62) (w1 := (w60.setCell ⟨go55, ((rd x7_2 x104_4) : Int).toNat, none⟩ (.int .i64 (wrap64 ((rd y128 (rd x7_2 x104_4)) + 1))))) ?hg ?ho ?hn ?hr ?_; (case ho => rfl); (case hg => rfl); (case hn => rfl); (case hr => first | (go_simp; done) | (go_simp; rfl)); intro w62 hw; have hg : w60.grownBy w62 (some go55) := (by rw [hw]; exact HP61.2); have hp_ : Kd.R (Kd.int .i64) 3 w62 w.heap.size (fun k_ => some k_ ≠ (.slice (some ad126) x7_2.length co48 : Value).ownBlock ∧ some k_ ≠ (.slice (some ad126) x7_2.length co48 : Value).ownBlock) (.slice (some ⟨go55, 0, none⟩) x6_4.length co32) y130 := (by rw [hw, Ny130.out]; exact HP61.1); clear HP61; have n0_ := Aside0.mk (hp_); have n1_ := Aside0.mk (Kd.R_after (v := (.slice (some ⟨go55, 0, none⟩) x6_4.length co32)) (v1 := (.slice (some ⟨go55, 0, none⟩) x6_4.length co32)) (ok := (fun _ => True)) (by (with_reducible repeat (first | apply Kd.R_alloc | apply Kd.R_drewN | apply Kd.R_drew)); exact Kd.R_mono HO_7.out (fun _ hk => ⟨trivial, hk⟩)) hg (.inl rfl)); have n2_ := Aside0.mk (Kd.R_after (v := (.slice (some ⟨go55, 0, none⟩) x6_4.length co32)) (v1 := (.slice (some ⟨go55, 0, none⟩) x6_4.length co32)) (ok := (fun _ => True)) (by (with_reducible repeat (first | apply Kd.R_alloc | apply Kd.R_drewN | apply Kd.R_drew)); exact Kd.R_mono HO_102.out (fun _ hk => ⟨trivial, hk⟩)) hg (.inl rfl)); have n3_ := Aside0.mk ((by rw [hw]; exact below_set (HB.out) GB55.out : Below w.heap.size w w62)); clear HO_6; clear HO_7; clear HO_102; clear HB; have HO_6 := n0_; have HO_7 := n1_; have HO_102 := n2_; have HB := n3_; clear n0_ n1_ n2_ n3_; clear hg hw hp_))
                                            (try simp only [← hl6_4])
                                            go_roundg k4
                                            case measure => have := HJ2.out; have := HK2.out; have := HK3.out; have := HK4.out; omega
                                            case rel => exact ⟨(y130), (wrap64 (x104_4 + 1)), (by first | rfl | (simp; done) | (simp [*]; done)), H', ⟨by have := HJ2.out; have := HK2.out; have := HK3.out; have := HK4.out; omega⟩, ⟨by (try simp only [hl6_3]); (try simp only [hl6_4]); (with_reducible repeat (first | apply Kd.R_alloc | apply Kd.R_drewN | apply Kd.R_drew)); exact HO_6.out⟩, ⟨by (try simp only [hl6_3]); (try simp only [hl6_4]); (with_reducible repeat (first | apply Kd.R_alloc | apply Kd.R_drewN | apply Kd.R_drew)); exact Kd.R_mono HO_7.out (fun _ hk => hk.2)⟩, ⟨by (try simp only [hl6_3]); (try simp only [hl6_4]); (with_reducible repeat (first | apply Kd.R_alloc | apply Kd.R_drewN | apply Kd.R_drew)); exact Kd.R_mono HO_102.out (fun _ hk => hk.2)⟩, ⟨by repeat (first | (with_reducible first | exact HB.out | apply below_alloc | apply pw_below_drewN | apply below_drew1) | exact HB.out)⟩⟩
                                          · rw [if_neg c56] at H
                                            have c56b0 : decide (x104_4 < (Int.tmod x8_3 (x7_2.length : Int))) = false := decide_eq_false c56
                                            clear c56
                                            (try simp only [hl6_3, hl6_4] at c56b0)
                                            have H' := Aside0.mk H
                                            clear H
                                            have p126 : 0 ≤ (x104_4 : Int) := of_decide_eq_true (by first | (with_reducible assumption) | assumption)
                                            have q126 : x104_4 < (x7_2.length : Int) := of_decide_eq_true (by first | (with_reducible assumption) | assumption)
                                            obtain ⟨ad126, e126, hx126_0⟩ := Kd.at_int (Kd.R_reads' HO_102.out).2.2 x104_4 p126 q126
                                            cases e126
                                            replace p126 := eq_true p126
                                            replace q126 := eq_true q126
                                            try go_wp2
                                            have n0_ := Aside0.mk (Kd.R_drew HO_6.out)
                                            have n1_ := Aside0.mk (Kd.R_drew HO_7.out)
                                            have n2_ := Aside0.mk (Kd.R_drew HO_102.out)
                                            have n3_ := Aside0.mk (below_drew1 HB.out)
                                            clear HO_6
                                            clear HO_7
                                            clear HO_102
                                            clear HB
                                            have HO_6 := n0_
                                            have HO_7 := n1_
                                            have HO_102 := n2_
                                            have HB := n3_
                                            clear n0_ n1_ n2_ n3_
                                            have p127 : 0 ≤ ((rd x7_2 x104_4) : Int) := of_decide_eq_true (by first | (with_reducible assumption) | assumption)
                                            have q127 : (rd x7_2 x104_4) < (x6_4.length : Int) := of_decide_eq_true (by first | (with_reducible assumption) | assumption)
                                            obtain ⟨ad127, e127, hx127_0⟩ := Kd.at_int (Kd.R_reads' HO_6.out).2.2 (rd x7_2 x104_4) p127 q127
                                            cases e127
                                            replace p127 := eq_true p127
                                            replace q127 := eq_true q127
                                            have p55 : 0 ≤ ((rd x7_2 x104_4) : Int) := of_decide_eq_true (by first | (with_reducible assumption) | assumption)
                                            have q55 : ((rd x7_2 x104_4) : Int) < ((x6_4.length : Int) : Int) := of_decide_eq_true (by first | (with_reducible assumption) | assumption)
                                            obtain ⟨go55, co55, eo55, gb55, gl55, cl55, HG55⟩ := Kd.R_form HO_6.out (by omega)
                                            (first | cases eo55 | (injection eo55 with ea_ en_ ec_; (first | subst ea_ | (injection ea_ with ea_; subst ea_)); subst ec_; clear en_))
                                            have GB55 := Aside0.mk gb55
                                            have GG55 := Aside0.mk HG55
                                            clear gb55 gl55 HG55
                                            (first | simp only [add_plain] at hx127_0 | skip)
                                            obtain ⟨hx55_0, hf55_0⟩ := Kd.R_celln 0 HO_6.out ((rd x7_2 x104_4) : Int) p55 q55
                                            replace p55 := eq_true p55
                                            replace q55 := eq_true q55
                                            have HP64 := Kd.R_putn HO_6.out ((rd x7_2 x104_4) : Int) (wrap64 ((rd x6_4 (rd x7_2 x104_4)) + (wrap64 (Int.tdiv x8_3 (x7_2.length : Int)))))
                                            rw [← Ny128.out] at HP64
                                            have HQ64 := Aside0.mk HP64
                                            clear HP64
                                            refine start_ (n := 11) (S := fun w' => w'.cell? ⟨go55, ((rd x7_2 x104_4)).toNat, none⟩ = some (.int .i64 (rd x6_4 (rd x7_2 x104_4)))) (ds := [10]) #[false, false, false, false, false, false, false, false, false, false, false] (by kernel_rfl) rfl rfl (hx127_0) (fun hHeld => ?_); refine with_tabW solve_Share.tab29 solve_Share.bits29 (fun HT_ HW_ => ?_)
                                            generalize wr.drew = w63 at HO_6 HO_7 HO_102 HB GG55 HQ64 hf55_0 hx127_0 hx55_0 hHeld ⊢
                                            refine pure_ (i := 0) (N := some 109) (v := ?_) (a' := ?_) #[true, false, false, false, false, false, false, false, false, false, false] rfl rfl (any_of HT_.out (by kernel_rfl)) (fun _ _ _ h => h) (Or.inl ⟨by rfl, ?_⟩) ?_ ?_
                                            rotate_left
                                            · intro w'
                                              go_simp
                                              with_reducible rfl
                                            rotate_left
                                            · simp only [Act.put, List.setIfInBounds_toArray, List.set_cons_zero, List.set_cons_succ, i64_w, i32_w]
                                              rfl
                                            refine pure_ (i := 1) (N := some 110) (v := ?_) (a' := ?_) #[true, true, false, false, false, false, false, false, false, false, false] rfl rfl (any_of HT_.out (by kernel_rfl)) (fun _ _ _ h => h) (Or.inl ⟨by rfl, ?_⟩) ?_ ?_
                                            rotate_left
                                            · intro w'
                                              go_simp
                                              with_reducible rfl
                                            rotate_left
                                            · simp only [Act.put, List.setIfInBounds_toArray, List.set_cons_zero, List.set_cons_succ, i64_w, i32_w]
                                              rfl
                                            refine pure_ (i := 2) (N := some 111) (v := ?_) (a' := ?_) #[true, true, true, false, false, false, false, false, false, false, false] rfl rfl (any_of HT_.out (by kernel_rfl)) (fun _ _ _ h => h) (Or.inl ⟨by rfl, ?_⟩) ?_ ?_
                                            rotate_left
                                            · intro w'
                                              go_simp
                                              with_reducible rfl
                                            rotate_left
                                            · simp only [Act.put, List.setIfInBounds_toArray, List.set_cons_zero, List.set_cons_succ, i64_w, i32_w]
                                              rfl
                                            refine pure_ (i := 4) (N := some 113) (v := ?_) (a' := ?_) #[true, true, true, false, true, false, false, false, false, false, false] rfl rfl (any_of HT_.out (by kernel_rfl)) (fun _ _ _ h => h) (Or.inl ⟨by rfl, ?_⟩) ?_ ?_
                                            rotate_left
                                            · intro w'
                                              go_simp
                                              with_reducible rfl
                                            rotate_left
                                            · simp only [Act.put, List.setIfInBounds_toArray, List.set_cons_zero, List.set_cons_succ, i64_w, i32_w]
                                              rfl
                                            refine pure_ (i := 5) (N := some 114) (v := ?_) (a' := ?_) #[true, true, true, false, true, true, false, false, false, false, false] rfl rfl (any_of HT_.out (by kernel_rfl)) (fun _ _ _ h => h) (Or.inl ⟨by rfl, ?_⟩) ?_ ?_
                                            rotate_left
                                            · intro w'
                                              go_simp
                                              with_reducible rfl
                                            rotate_left
                                            · simp only [Act.put, List.setIfInBounds_toArray, List.set_cons_zero, List.set_cons_succ, i64_w, i32_w]
                                              rfl
                                            refine pure_ (i := 6) (N := some 115) (v := ?_) (a' := ?_) #[true, true, true, false, true, true, true, false, false, false, false] rfl rfl (any_of HT_.out (by kernel_rfl)) (fun _ _ _ h => h) (Or.inl ⟨by rfl, ?_⟩) ?_ ?_
                                            rotate_left
                                            · intro w'
                                              go_simp
                                              with_reducible rfl
                                            rotate_left
                                            · simp only [Act.put, List.setIfInBounds_toArray, List.set_cons_zero, List.set_cons_succ, i64_w, i32_w]
                                              rfl
                                            refine pure_ (i := 7) (N := some 116) (v := ?_) (a' := ?_) #[true, true, true, false, true, true, true, true, false, false, false] rfl rfl (any_of HT_.out (by kernel_rfl)) (fun _ _ _ h => h) (Or.inl ⟨by rfl, ?_⟩) ?_ ?_
                                            rotate_left
                                            · intro w'
                                              go_simp
                                              with_reducible rfl
                                            rotate_left
                                            · simp only [Act.put, List.setIfInBounds_toArray, List.set_cons_zero, List.set_cons_succ, i64_w, i32_w]
                                              rfl
                                            refine take_ (i := 3) (N := some 112) (v := ?_) (a' := ?_) #[true, true, true, true, true, true, true, true, false, false, false] rfl rfl (take_ofW HT_.out HW_.out (by kernel_rfl)) (fun _ _ _ h => h) (Or.inl ⟨by rfl, ?_⟩) hHeld ?_ ?_
                                            rotate_left
                                            · intro w' s0
                                              go_simp
                                              with_reducible rfl
                                            rotate_left
                                            · simp only [Act.put, List.setIfInBounds_toArray, List.set_cons_zero, List.set_cons_succ, i64_w, i32_w]
                                              rfl
                                            refine pure_ (i := 8) (N := some 117) (v := ?_) (a' := ?_) #[true, true, true, true, true, true, true, true, true, false, false] rfl rfl (any_of HT_.out (by kernel_rfl)) (fun _ _ _ h => h) (Or.inl ⟨by rfl, ?_⟩) ?_ ?_
                                            rotate_left
                                            · intro w'
                                              go_simp
                                              with_reducible rfl
                                            rotate_left
                                            · simp only [Act.put, List.setIfInBounds_toArray, List.set_cons_zero, List.set_cons_succ, i64_w, i32_w]
                                              rfl
                                            refine pure_ (i := 9) (N := some 118) (v := ?_) (a' := ?_) #[true, true, true, true, true, true, true, true, true, true, false] rfl rfl (any_of HT_.out (by kernel_rfl)) (fun _ _ _ h => h) (Or.inl ⟨by rfl, ?_⟩) ?_ ?_
                                            rotate_left
                                            · intro w'
                                              go_simp
                                              with_reducible rfl
                                            rotate_left
                                            · simp only [Act.put, List.setIfInBounds_toArray, List.set_cons_zero, List.set_cons_succ, i64_w, i32_w]
                                              rfl
                                            refine last_ (i := 10) (N := none) #[true, true, true, true, true, true, true, true, true, true, true] rfl rfl (one_of HT_.out (by kernel_rfl)) (by decide) (fun K hK => ?_)
                                            refine skip_ (w1 := ?_) (by rfl) rfl ?_ ?_
                                            rotate_left
                                            · go_simp
                                              rfl
                                            refine hK.out _ _ ?_
                                            clear hK K
                                            refine done_ (done_of HT_.out (by kernel_rfl)) ?_
                                            try go_wp2
                                            (try simp only [← hl6_4])
                                            go_roundg k4
                                            case measure => have := HJ2.out; have := HK2.out; have := HK3.out; have := HK4.out; omega
                                            case rel => exact ⟨(y128), (wrap64 (x104_4 + 1)), (by first | rfl | (simp; done) | (simp [*]; done)), H', ⟨by have := HJ2.out; have := HK2.out; have := HK3.out; have := HK4.out; omega⟩, ⟨by (try simp only [hl6_3]); (try simp only [hl6_4]); (with_reducible repeat (first | apply Kd.R_alloc | apply Kd.R_drewN | apply Kd.R_drew)); exact HQ64.out⟩, ⟨by (try simp only [hl6_3]); (try simp only [hl6_4]); (with_reducible repeat (first | apply Kd.R_alloc | apply Kd.R_drewN | apply Kd.R_drew)); exact Kd.R_mono (Kd.R_far (p := ⟨go55, ((rd x7_2 x104_4) : Int).toNat, none⟩) (Kd.R_mono HO_7.out (fun k_ hk => (⟨hk, fun e_ => hk (by rw [e_]; rfl)⟩ : _ ∧ k_ ≠ go55))) (fun _ hk => hk.2) (.int .i64 (wrap64 ((rd x6_4 (rd x7_2 x104_4)) + (wrap64 (Int.tdiv x8_3 (x7_2.length : Int))))))) (fun _ hk => hk.1)⟩, ⟨by (try simp only [hl6_3]); (try simp only [hl6_4]); (with_reducible repeat (first | apply Kd.R_alloc | apply Kd.R_drewN | apply Kd.R_drew)); exact Kd.R_mono (Kd.R_far (p := ⟨go55, ((rd x7_2 x104_4) : Int).toNat, none⟩) (Kd.R_mono HO_102.out (fun k_ hk => (⟨hk, fun e_ => hk (by rw [e_]; rfl)⟩ : _ ∧ k_ ≠ go55))) (fun _ hk => hk.2) (.int .i64 (wrap64 ((rd x6_4 (rd x7_2 x104_4)) + (wrap64 (Int.tdiv x8_3 (x7_2.length : Int))))))) (fun _ hk => hk.1)⟩, ⟨by repeat (first | (with_reducible first | exact HB.out | apply below_alloc | apply pw_below_drewN | apply below_drew1 | refine below_set ?_ GB55.out) | exact HB.out)⟩⟩
                                      · rw [if_neg c53] at H
                                        exact absurd H (by simp)
                                    · rw [if_neg c52] at H
                                      exact absurd H (by simp)
                                  · rw [if_neg c51] at H
                                    exact absurd H (by simp)
                                · rw [if_neg c50] at H
                                  exact absurd H (by simp)
                              · rw [if_neg c49] at H
                                have c49b0 : decide (x104_4 < (x7_2.length : Int)) = false := decide_eq_false c49
                                clear c49
                                (try simp only [hl6_3, hl6_4] at c49b0)
                                simp only [Option.some.injEq, Prod.mk.injEq] at H
                                obtain ⟨rfl, rfl⟩ := H
                                go_wp2
                                go_ret2
                                exact ⟨_, by first | rfl | (simp [errW_none, errW_some] <;> rfl) | (simp [*, errW_none, errW_some] <;> rfl), by (with_reducible repeat (first | apply Kd.R_alloc | apply Kd.R_drewN | apply Kd.R_drew)); exact Kd.R_mono HO_6.out (fun _ hk => trivial), by repeat (first | (with_reducible first | exact HB.out | apply below_alloc | apply pw_below_drewN | apply below_drew1) | exact HB.out)⟩

end Go.Proofs.Ythllpilgfipkpaa.Q
