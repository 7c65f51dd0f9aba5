-- written by a program of this session after the way of the kit's print; not the kit's own print. Lean checks it.
import Derived.Test.YtgngbbkaghmnpaaQx0
import Derived.Test.YtgngbbkaghmnpaaQx10
import Derived.Test.YtgngbbkaghmnpaaQx12
namespace Go.Proofs.Ytgngbbkaghmnpaa.Q
open Go.RowKit Go.Proofs.YtgngbbkaghmnpaaW.PrintWords Go.Proofs.YtgngbbkaghmnpaaW.PrintLast Go.Proofs.YtgngbbkaghmnpaaW.PrintMore
attribute [local go_sem] max2_int min2_int max_two min_two max_three min_three max_four min_four   -- for this text's walks alone
set_option linter.unusedVariables false
set_option linter.unusedSimpArgs false

/-! ### check_heights: function 21 -/
mutual
def check_heights.l0 : Nat → Int → List (S46) → List Int → Int → Int → Int → List Int → List (S42) → Option (List Int × Bool)
  | 0, _, _, _, _, _, _, _, _ => none
  | k + 1, x1, x6, x7, x27, x28, x175000, x175001, x175002 => if x28 < x27 then (if 0 ≤ x28 then (if x28 < (x7.length : Int) then (check_heights.l0 k x1 x6 (x7.set (x28 : Int).toNat (-1)) x27 (wrap64 (x28 + 1)) x175000 x175001 x175002) else (none)) else (none)) else (if 0 < (x7.length : Int) then (check_heights.l1 k x1 x6 (x7.set (0 : Int).toNat 0) (([0] : List Int)) x175000 x175001 x175002) else (none))
def check_heights.l1 : Nat → Int → List (S46) → List Int → List Int → Int → List Int → List (S42) → Option (List Int × Bool)
  | 0, _, _, _, _, _, _, _ => none
  | k + 1, x1, x6, x7, x9, x175000, x175001, x175002 => if (x9.length : Int) > 0 then (if 0 ≤ (wrap64 ((x9.length : Int) - 1)) then (if (wrap64 ((x9.length : Int) - 1)) < (x9.length : Int) then (if (wrap64 ((x9.length : Int) - 1)) ≤ (x9.length : Int) then ((some (x9.take ((wrap64 ((x9.length : Int) - 1)) : Int).toNat : List Int)).bind fun y185 => (if 0 ≤ (rd x9 (wrap64 ((x9.length : Int) - 1))) then (if (rd x9 (wrap64 ((x9.length : Int) - 1))) < (x6.length : Int) then ((check_Effect.f k x175000 x175001 x175002 x1 ((rd_T46 x6 (rd x9 (wrap64 ((x9.length : Int) - 1)))).f0) ((rd_T46 x6 (rd x9 (wrap64 ((x9.length : Int) - 1)))).f1)).bind fun bt189 => (if (rd x9 (wrap64 ((x9.length : Int) - 1))) < (x7.length : Int) then (if (wrap64 ((rd x7 (rd x9 (wrap64 ((x9.length : Int) - 1)))) - bt189.1)) < 0 then (check_heights.j2 k x1 x6 x7 y185 (rd x9 (wrap64 ((x9.length : Int) - 1))) bt189.2.1 (wrap64 ((rd x7 (rd x9 (wrap64 ((x9.length : Int) - 1)))) - bt189.1)) true x175000 x175001 x175002) else (if (wrap64 ((wrap64 ((rd x7 (rd x9 (wrap64 ((x9.length : Int) - 1)))) - bt189.1)) + bt189.2.1)) > 64 then (check_heights.j2 k x1 x6 x7 y185 (rd x9 (wrap64 ((x9.length : Int) - 1))) bt189.2.1 (wrap64 ((rd x7 (rd x9 (wrap64 ((x9.length : Int) - 1)))) - bt189.1)) true x175000 x175001 x175002) else (if ((rd_T46 x6 (rd x9 (wrap64 ((x9.length : Int) - 1)))).f0) = 27 then (check_heights.j2 k x1 x6 x7 y185 (rd x9 (wrap64 ((x9.length : Int) - 1))) bt189.2.1 (wrap64 ((rd x7 (rd x9 (wrap64 ((x9.length : Int) - 1)))) - bt189.1)) ((wrap64 ((rd x7 (rd x9 (wrap64 ((x9.length : Int) - 1)))) - bt189.1)) != 0) x175000 x175001 x175002) else (check_heights.j2 k x1 x6 x7 y185 (rd x9 (wrap64 ((x9.length : Int) - 1))) bt189.2.1 (wrap64 ((rd x7 (rd x9 (wrap64 ((x9.length : Int) - 1)))) - bt189.1)) false x175000 x175001 x175002)))) else (none))) else (none)) else (none))) else (none)) else (none)) else (none)) else (some (x7, true))
def check_heights.j2 : Nat → Int → List (S46) → List Int → List Int → Int → Int → Int → Bool → Int → List Int → List (S42) → Option (List Int × Bool)
  | 0, _, _, _, _, _, _, _, _, _, _, _ => none
  | k + 1, x1, x6, x7, x9, x10, x12, x14, x88, x175000, x175001, x175002 => if x88 = true then (some (([] : List Int), false)) else (if 0 ≤ x10 then (if x10 < (x6.length : Int) then ((check_next.f k x10 ((rd_T46 x6 x10).f0) ((rd_T46 x6 x10).f1)).bind fun t195 => (check_heights.l2 k x1 x6 x7 x9 x12 x14 t195 (t195.length : Int) 0 x175000 x175001 x175002)) else (none)) else (none))
def check_heights.l2 : Nat → Int → List (S46) → List Int → List Int → Int → Int → List Int → Int → Int → Int → List Int → List (S42) → Option (List Int × Bool)
  | 0, _, _, _, _, _, _, _, _, _, _, _, _ => none
  | k + 1, x1, x6, x7, x9, x12, x14, x94, x95, x96, x175000, x175001, x175002 => if x96 < x95 then (if 0 ≤ x96 then (if x96 < (x94.length : Int) then (if (rd x94 x96) = (x6.length : Int) then (check_heights.j4 k x1 x6 x7 x9 x12 x14 (rd x94 x96) x94 x95 x96 true x175000 x175001 x175002) else (if 0 ≤ (rd x94 x96) then (if (rd x94 x96) < (x7.length : Int) then (if (rd x7 (rd x94 x96)) ≥ 0 then (check_heights.j4 k x1 x6 x7 x9 x12 x14 (rd x94 x96) x94 x95 x96 ((rd x7 (rd x94 x96)) != (wrap64 (x14 + x12))) x175000 x175001 x175002) else (check_heights.j4 k x1 x6 x7 x9 x12 x14 (rd x94 x96) x94 x95 x96 false x175000 x175001 x175002)) else (none)) else (none))) else (none)) else (none)) else (check_heights.l1 k x1 x6 x7 x9 x175000 x175001 x175002)
def check_heights.j4 : Nat → Int → List (S46) → List Int → List Int → Int → Int → Int → List Int → Int → Int → Bool → Int → List Int → List (S42) → Option (List Int × Bool)
  | 0, _, _, _, _, _, _, _, _, _, _, _, _, _, _ => none
  | k + 1, x1, x6, x7, x9, x12, x14, x16, x94, x95, x96, x100, x175000, x175001, x175002 => if x100 = true then (some (([] : List Int), false)) else (if 0 ≤ x16 then (if x16 < (x7.length : Int) then (if (rd x7 x16) < 0 then (if x9.length < 17592186044416 then (check_heights.l2 k x1 x6 (x7.set (x16 : Int).toNat (wrap64 (x14 + x12))) (x9 ++ [x16]) x12 x14 x94 x95 (wrap64 (x96 + 1)) x175000 x175001 x175002) else (none)) else (check_heights.l2 k x1 x6 x7 x9 x12 x14 x94 x95 (wrap64 (x96 + 1)) x175000 x175001 x175002)) else (none)) else (none))
end
def check_heights.f (k : Nat) (a0_0 : Int) (l0_1 : List Int) (l0_2 : List (S42)) (a1 : Int) : Option (List Int × Bool) := if 0 ≤ a1 then (if a1 < (l0_2.length : Int) then (if 0 ≤ (((rd_T42 l0_2 a1).f3).length : Int) then (if ((((rd_T42 l0_2 a1).f3).length : Int) : Int).toNat ≤ 35184372088832 then ((some (List.replicate ((((rd_T42 l0_2 a1).f3).length : Int) : Int).toNat 0 : List Int)).bind fun y176 => (check_heights.l0 k a1 ((rd_T42 l0_2 a1).f3) y176 (y176.length : Int) 0 a0_0 l0_1 l0_2)) else (none)) else (none)) else (none)) else (none)
theorem check_heights.mono_l : ∀ k, (∀ y0 y1 y2 y3 y4 y5 y6 y7, LeO (check_heights.l0 k y0 y1 y2 y3 y4 y5 y6 y7) (check_heights.l0 (k + 1) y0 y1 y2 y3 y4 y5 y6 y7)) ∧ (∀ y0 y1 y2 y3 y4 y5 y6, LeO (check_heights.l1 k y0 y1 y2 y3 y4 y5 y6) (check_heights.l1 (k + 1) y0 y1 y2 y3 y4 y5 y6)) ∧ (∀ y0 y1 y2 y3 y4 y5 y6 y7 y8 y9 y10, LeO (check_heights.j2 k y0 y1 y2 y3 y4 y5 y6 y7 y8 y9 y10) (check_heights.j2 (k + 1) y0 y1 y2 y3 y4 y5 y6 y7 y8 y9 y10)) ∧ (∀ y0 y1 y2 y3 y4 y5 y6 y7 y8 y9 y10 y11, LeO (check_heights.l2 k y0 y1 y2 y3 y4 y5 y6 y7 y8 y9 y10 y11) (check_heights.l2 (k + 1) y0 y1 y2 y3 y4 y5 y6 y7 y8 y9 y10 y11)) ∧ (∀ y0 y1 y2 y3 y4 y5 y6 y7 y8 y9 y10 y11 y12 y13, LeO (check_heights.j4 k y0 y1 y2 y3 y4 y5 y6 y7 y8 y9 y10 y11 y12 y13) (check_heights.j4 (k + 1) y0 y1 y2 y3 y4 y5 y6 y7 y8 y9 y10 y11 y12 y13))
  | 0 => ⟨fun _ _ _ _ _ _ _ _ r h => by simp [check_heights.l0] at h, fun _ _ _ _ _ _ _ r h => by simp [check_heights.l1] at h, fun _ _ _ _ _ _ _ _ _ _ _ r h => by simp [check_heights.j2] at h, fun _ _ _ _ _ _ _ _ _ _ _ _ r h => by simp [check_heights.l2] at h, fun _ _ _ _ _ _ _ _ _ _ _ _ _ _ r h => by simp [check_heights.j4] at h⟩
  | k + 1 => by
    obtain ⟨ih0, ih1, ih2, ih3, ih4⟩ := check_heights.mono_l k
    refine ⟨?_, ?_, ?_, ?_, ?_⟩ <;> intros <;> (first | unfold check_heights.l0 | unfold check_heights.l1 | unfold check_heights.j2 | unfold check_heights.l2 | unfold check_heights.j4) <;>
      (repeat' first
      | (with_reducible exact ih0 _ _ _ _ _ _ _ _)
      | (with_reducible exact ih1 _ _ _ _ _ _ _)
      | (with_reducible exact ih2 _ _ _ _ _ _ _ _ _ _ _)
      | (with_reducible exact ih3 _ _ _ _ _ _ _ _ _ _ _ _)
      | (with_reducible exact ih4 _ _ _ _ _ _ _ _ _ _ _ _ _ _)
      | (with_reducible exact check_Effect.mono _ _ _ _ _ _ _)
      | (with_reducible exact check_next.mono _ _ _ _)
      | (with_reducible exact LeO.refl _)
      | (with_reducible exact LeO.none _)
      | (with_reducible refine LeO.ite ?_ ?_)
      | (with_reducible refine LeO.bind ?_ (fun _ => ?_))
      | exact ih0 _ _ _ _ _ _ _ _
      | exact ih1 _ _ _ _ _ _ _
      | exact ih2 _ _ _ _ _ _ _ _ _ _ _
      | exact ih3 _ _ _ _ _ _ _ _ _ _ _ _
      | exact ih4 _ _ _ _ _ _ _ _ _ _ _ _ _ _
      | exact check_Effect.mono _ _ _ _ _ _ _
      | exact check_next.mono _ _ _ _
      | exact LeO.none _
      | refine LeO.ite ?_ ?_
      | refine LeO.bind ?_ (fun _ => ?_))
theorem check_heights.mono : ∀ a0 a1 a2 a3 k, LeO (check_heights.f k a0 a1 a2 a3) (check_heights.f (k + 1) a0 a1 a2 a3) := by
  intro a0 a1 a2 a3 k; obtain ⟨ih0, ih1, ih2, ih3, ih4⟩ := check_heights.mono_l k
  unfold check_heights.f
  repeat' first
      | (with_reducible exact ih0 _ _ _ _ _ _ _ _)
      | (with_reducible exact ih1 _ _ _ _ _ _ _)
      | (with_reducible exact ih2 _ _ _ _ _ _ _ _ _ _ _)
      | (with_reducible exact ih3 _ _ _ _ _ _ _ _ _ _ _ _)
      | (with_reducible exact ih4 _ _ _ _ _ _ _ _ _ _ _ _ _ _)
      | (with_reducible exact check_Effect.mono _ _ _ _ _ _ _)
      | (with_reducible exact check_next.mono _ _ _ _)
      | (with_reducible exact LeO.refl _)
      | (with_reducible exact LeO.none _)
      | (with_reducible refine LeO.ite ?_ ?_)
      | (with_reducible refine LeO.bind ?_ (fun _ => ?_))
      | exact ih0 _ _ _ _ _ _ _ _
      | exact ih1 _ _ _ _ _ _ _
      | exact ih2 _ _ _ _ _ _ _ _ _ _ _
      | exact ih3 _ _ _ _ _ _ _ _ _ _ _ _
      | exact ih4 _ _ _ _ _ _ _ _ _ _ _ _ _ _
      | exact check_Effect.mono _ _ _ _ _ _ _
      | exact check_next.mono _ _ _ _
      | exact LeO.none _
      | refine LeO.ite ?_ ?_
      | refine LeO.bind ?_ (fun _ => ?_)
def check_heights.T13 : Bool × List (List Nat × List Nat) := (true, [([], []), ([], []), ([], []), ([], []), ([2, 3], [2, 3]), ([4], [4]), ([0, 1, 5], [0, 1, 5]), ([6], [6]), ([7], [7]), ([7], [7]), ([7], [7]), ([8, 6, 0, 1, 2, 3, 4, 5, 6, 7, 8], [8]), ([9, 11, 0, 1, 2, 3, 4, 5, 6, 7, 8, 9, 11], [9]), ([10, 12, 0, 1, 2, 3, 4, 5, 6, 7, 8, 9, 10, 11, 12], [10])])
def check_heights.B13 : List Nat := [0, 0, 0, 0, 12, 28, 63, 127, 255, 255, 255, 511, 3071, 8191]
theorem check_heights.tab13 : rtab .any (opsOf Try.f21 13) = check_heights.T13 := by kernel_rfl
theorem check_heights.bits13 : waitsOk check_heights.T13.2 check_heights.B13 = true := by kernel_rfl
set_option maxHeartbeats 8000000 in
set_option maxRecDepth 100000 in
theorem check_heights.calls (k : Nat) (a0_0 : Int) (A0_1 : Option Addr) (c0_1 : Nat) (l0_1 : List Int) (A0_2 : Option Addr) (c0_2 : Nat) (l0_2 : List (S42)) (a1 : Int) (r1 : List Int) (r2 : Bool) (w : World) (hr0_1 : Kd.C (Kd.int .u8) w A0_1 l0_1.length l0_1) (hc0_1 : l0_1.length ≤ c0_1) (hr0_2 : Kd.C k42 w A0_2 l0_2.length l0_2) (hc0_2 : l0_2.length ≤ c0_2) (h : check_heights.f k a0_0 l0_1 l0_2 a1 = some (r1, r2)) :
    Calls Try.prog 21 #[.agg #[.int .i64 a0_0, .slice A0_1 l0_1.length c0_1, .slice A0_2 l0_2.length c0_2], .int .i64 a1] w fun e w' => ∃ v0_ : Value, e = .returned (.tuple #[v0_, .bool r2]) ∧ Kd.R (Kd.int .i64) 3 w' w.heap.size (fun _ => True) v0_ r1 ∧ Below w.heap.size w w' := by
  have hu25 := Try.underlying25; have hu46 := Try.underlying46; have HR0_1 := Aside0.mk hr0_1; have HC0_1 := Aside0.mk hc0_1; clear hr0_1 hc0_1; have HR0_2 := Aside0.mk hr0_2; have HC0_2 := Aside0.mk hc0_2; clear hr0_2 hc0_2; have HB := Aside0.mk (Below.refl w.heap.size w); have H : (if 0 ≤ a1 then (if a1 < (l0_2.length : Int) then (if 0 ≤ (((rd_T42 l0_2 a1).f3).length : Int) then (if ((((rd_T42 l0_2 a1).f3).length : Int) : Int).toNat ≤ 35184372088832 then ((some (List.replicate ((((rd_T42 l0_2 a1).f3).length : Int) : Int).toNat 0 : List Int)).bind fun y176 => (check_heights.l0 k a1 ((rd_T42 l0_2 a1).f3) y176 (y176.length : Int) 0 a0_0 l0_1 l0_2)) else (none)) else (none)) else (none)) else (none)) = some (r1, r2) := h; clear h
  by_cases c3 : 0 ≤ a1
  case neg => rw [if_neg c3] at H; exact absurd H (by simp)
  rw [if_pos c3] at H; have c3b0 : decide (0 ≤ a1) = true := decide_eq_true c3; clear c3
  by_cases c4 : a1 < (l0_2.length : Int)
  case neg => rw [if_neg c4] at H; exact absurd H (by simp)
  rw [if_pos c4] at H; have c4b0 : decide (a1 < (l0_2.length : Int)) = true := decide_eq_true c4; clear c4
  by_cases c5 : 0 ≤ (((rd_T42 l0_2 a1).f3).length : Int)
  case neg => rw [if_neg c5] at H; exact absurd H (by simp)
  rw [if_pos c5] at H; have c5b0 := eq_true c5; have c5b1 : decide (0 ≤ (((rd_T42 l0_2 a1).f3).length : Int)) = true := decide_eq_true c5; clear c5
  by_cases c6 : ((((rd_T42 l0_2 a1).f3).length : Int) : Int).toNat ≤ 35184372088832
  case neg => rw [if_neg c6] at H; exact absurd H (by simp)
  rw [if_pos c6] at H; have c6b0 := eq_true c6; have c6b1 : decide (((((rd_T42 l0_2 a1).f3).length : Int) : Int).toNat ≤ 35184372088832) = true := decide_eq_true c6; clear c6; obtain ⟨y176, hy176⟩ : ∃ y_ : List Int, y_ = (List.replicate ((((rd_T42 l0_2 a1).f3).length : Int) : Int).toNat 0) := ⟨_, rfl⟩
  replace H : (check_heights.l0 k a1 ((rd_T42 l0_2 a1).f3) y176 (y176.length : Int) 0 a0_0 l0_1 l0_2) = some (r1, r2) := by first | (rw [hy176]; with_reducible exact H) | (have H2_ := (Option.bind_some _ _).symm.trans H; rw [hy176]; with_reducible exact H2_) | (have H2_ := (Option.bind_some _ _).symm.trans H; with_reducible exact H2_) | with_reducible exact H | (rw [hy176]; exact H) | exact H
  have Ny176 := Aside0.mk hy176; clear hy176; have H' := Aside0.mk H; clear H
  go_enter Try.func21, Try.ntmps21
  go_wp2_with (first | ((with_reducible refine gate_dst (N := 2) rfl ?_); refine box_event ?hg (N := 2) ?hd (cs := #[.int .i64 a0_0, .slice A0_1 l0_1.length c0_1, .slice A0_2 l0_2.length c0_2]) (t := 25) ?hr ?_; (case hd => rfl); (case hg => rfl); (case hr => first | (go_simp; done) | (go_simp; rfl)); intro gb174 hg w7 hbox hb; have n0_ := Aside0.mk (below_step (bn0 HB) hb); have BK174 := Aside0.mk (hbox); have GW174 := Aside0.mk ((by rw [hg]; exact (below_size (bn0 HB)) : w.heap.size ≤ gb174)); have GE174 := Aside0.mk ((by rw [hg]; exact (below_size (bn0 HB)) : w.heap.size ≤ gb174)); replace HB := n0_; clear n0_; clear hb hbox hg; obtain ⟨hcz8_0, hcz8_1, hcz8_2⟩ := cells3 BK174.out; obtain ⟨hfz8_0, hfz8_1, hfz8_2⟩ := froz3 BK174.out; have p175 : 0 ≤ (a1 : Int) := of_decide_eq_true (by first | (with_reducible assumption) | assumption); have q175 : a1 < (l0_2.length : Int) := of_decide_eq_true (by first | (with_reducible assumption) | assumption); obtain ⟨ad175, A175_3, c175_3, e175, hx175_0, hx175_1, hx175_2, hx175_3, hl175_3, hi175_3⟩ := at_T42 HR0_2.out a1 p175 q175; cases e175; replace hx175_0 := (HB.out.cell (World.block_lt_of_cell? w _ hx175_0)).trans hx175_0; replace hx175_1 := (HB.out.cell (World.block_lt_of_cell? w _ hx175_1)).trans hx175_1; replace hx175_2 := (HB.out.cell (World.block_lt_of_cell? w _ hx175_2)).trans hx175_2; replace hx175_3 := (HB.out.cell (World.block_lt_of_cell? w _ hx175_3)).trans hx175_3; have HR175_3 := Aside0.mk hi175_3; have HC175_3 := Aside0.mk hl175_3; clear hi175_3 hl175_3; replace p175 := eq_true p175; replace q175 := eq_true q175) | ((with_reducible refine gate_dst (N := 25) rfl ?_); refine Kd.R_make (Kd.int .i64) _ 3 rfl (N := 25) rfl 34 _ _ rfl (((rd_T42 l0_2 a1).f3).length : Int) rfl rfl Try.underlying34 (.int .i64 0) 8 info3 rfl (by decide) (by omega) 0 (ok := fun _ => True) (okp := fun _ => True) rfl (fun _ hk => hk) trivial (of_decide_eq_true (by first | (with_reducible assumption) | assumption)) (Nat.le_trans (Nat.mul_le_mul_right _ (of_decide_eq_true (by first | (with_reducible assumption) | assumption) : (((rd_T42 l0_2 a1).f3).length : Int).toNat ≤ 35184372088832)) (by omega)) (Below.refl _ _) (Nat.le_refl _) ?_; intro v177 w9 ho10 hb hg_ hnew_; clear hg_ hnew_; (first | rw [← Ny176.out] at ho10 | (simp only [Int.reduceToNat] at ho10; rw [← Ny176.out] at ho10)); have HO178 := Aside0.mk (Kd.R_lower ho10 (below_size (bn1 HB GE174))); replace BK174 := Aside0.mk (blk_below (g := gb174) (o := .cells #[.int .i64 a0_0, .slice A0_1 l0_1.length c0_1, .slice (some ad175) l0_2.length c0_2] 25 (0, 0)) (bkn BK174) hb); replace HB := Aside0.mk (below_step (bn1 HB GE174) hb); clear hb ho10; obtain ⟨Ao11, co11, eo11⟩ := Kd.R_slice HO178.out; subst eo11))
  go_loopg [28] k (fun kq v28 w' => ∃ (x7_1 : List Int) (x28_1 : Int), v28 = .int .i64 x28_1 ∧ Aside0 (check_heights.l0 kq a1 ((rd_T42 l0_2 a1).f3) x7_1 (y176.length : Int) x28_1 a0_0 l0_1 l0_2 = some (r1, r2)) ∧ Aside0 (kq ≤ k) ∧ Aside0 (Kd.R (Kd.int .i64) 3 w' w.heap.size (fun _ => True) (.slice Ao11 y176.length co11) x7_1) ∧ Aside0 (w'.heap[gb174]? = some (.cells #[.int .i64 a0_0, (.slice A0_1 l0_1.length c0_1), (.slice (some ad175) l0_2.length c0_2)] 25 (0, 0))) ∧ Aside0 (Below w.heap.size w w'))
  case atStart => exact ⟨(y176), (0), (by first | rfl | (simp; done) | (simp [*]; done)), H', ⟨Nat.le_refl _⟩, ⟨by (with_reducible repeat (first | apply Kd.R_alloc | apply Kd.R_drewN | apply Kd.R_drew)); exact HO178.out⟩, ⟨by (with_reducible repeat (first | refine blk_drewN ?_ _ | refine blk_drew ?_ | refine blk_alloc ?_ _)); exact BK174.out⟩, ⟨bn1 HB GE174⟩⟩
  case round =>
    clear H'
    try clear c1
    try clear p1
    try clear q1
    try clear hx1
    try clear c2
    try clear p2
    try clear c3
    try clear c3b0
    try clear c4
    try clear c4b0
    try clear c5
    try clear c5b0
    try clear c5b1
    try clear c6
    try clear c6b0
    try clear c6b1
    try clear hcz8_0
    try clear hcz8_1
    try clear hcz8_2
    try clear hfz8_0
    try clear hfz8_1
    try clear hfz8_2
    try clear hx175_0
    try clear hx175_1
    try clear hx175_2
    try clear hx175_3
    try clear p175
    try clear q175
    obtain ⟨x7_1, x28_1, rfl, HA, HK1, HO_7, BK174, HB⟩ := hrel; have hl7_1 := (Kd.R_reads' HO_7.out).1; rw [hl7_1] at HO_7
    (try simp only [hl7_1])
    (try simp only [hl7_1] at BK174)
    cases gk with
    | zero => exact absurd HA.out (by simp [check_heights.l0])
    | succ k1 => ?_
    have H := HA.out; clear HA; simp only [check_heights.l0] at H
    by_cases c12 : x28_1 < (y176.length : Int)
    · rw [if_pos c12] at H
      have c12b0 : decide (x28_1 < (y176.length : Int)) = true := decide_eq_true c12; clear c12
      (try simp only [hl7_1] at c12b0)
      by_cases c13 : 0 ≤ x28_1
      case neg => rw [if_neg c13] at H; exact absurd H (by simp)
      rw [if_pos c13] at H; have c13b0 : decide (0 ≤ x28_1) = true := decide_eq_true c13; clear c13
      by_cases c14 : x28_1 < (x7_1.length : Int)
      case neg => rw [if_neg c14] at H; exact absurd H (by simp)
      rw [if_pos c14] at H; have c14b0 : decide (x28_1 < (x7_1.length : Int)) = true := decide_eq_true c14; clear c14
      (try simp only [hl7_1] at c14b0)
      obtain ⟨y179, hy179⟩ : ∃ y_ : List Int, y_ = (x7_1.set (x28_1 : Int).toNat (-1)) := ⟨_, rfl⟩
      replace H : (check_heights.l0 k1 a1 ((rd_T42 l0_2 a1).f3) y179 (y176.length : Int) (wrap64 (x28_1 + 1)) a0_0 l0_1 l0_2) = some (r1, r2) := by first | (rw [hy179]; with_reducible exact H) | (have H2_ := (Option.bind_some _ _).symm.trans H; rw [hy179]; with_reducible exact H2_) | (have H2_ := (Option.bind_some _ _).symm.trans H; with_reducible exact H2_) | with_reducible exact H | (rw [hy179]; exact H) | exact H
      have Ny179 := Aside0.mk hy179; clear hy179; have H' := Aside0.mk H; clear H; have p15 : 0 ≤ (x28_1 : Int) := of_decide_eq_true (by first | (with_reducible assumption) | assumption); have q15 : (x28_1 : Int) < ((x7_1.length : Int) : Int) := of_decide_eq_true (by first | (with_reducible assumption) | assumption); obtain ⟨go15, co15, eo15, gb15, gl15, cl15, HG15⟩ := Kd.R_form HO_7.out (by omega)
      (first | cases eo15 | (injection eo15 with ea_ en_ ec_; (first | subst ea_ | (injection ea_ with ea_; subst ea_)); subst ec_; clear en_))
      have GB15 := Aside0.mk gb15; have GG15 := Aside0.mk HG15; clear gb15 gl15 HG15; obtain ⟨hx15_0, hf15_0⟩ := Kd.R_celln 0 HO_7.out (x28_1 : Int) p15 q15; replace p15 := eq_true p15; replace q15 := eq_true q15; have HP16 := Kd.R_putg HO_7.out (x28_1 : Int) (-1)
      go_wp2_with (first | ((with_reducible refine gate_store (t := 3) (p := 33) rfl ?_); refine store_event (t := 3) (p := 33) (v := ?vo_w17) (w1 := (wr.setCell ⟨go15, (x28_1 : Int).toNat, none⟩ (.int .i64 (-1)))) ?hg ?ho ?hn ?hr ?_; (case ho => rfl); (case hg => rfl); (case hn => rfl); (case hr => first | (go_simp; done) | (go_simp; rfl)); intro w17 hw; have hg : wr.grownBy w17 (some go15) := (by rw [hw]; exact HP16.2); have hp_ : Kd.R (Kd.int .i64) 3 w17 w.heap.size (fun _ => True) (.slice (some ⟨go15, 0, none⟩) x7_1.length co11) y179 := (by rw [hw, Ny179.out]; exact HP16.1); clear HP16; have n0_ := Aside0.mk (hp_); replace BK174 := Aside0.mk (blk_grown (g := gb174) (o := .cells #[.int .i64 a0_0, .slice A0_1 l0_1.length c0_1, .slice (some ad175) l0_2.length c0_2] 25 (0, 0)) (bkn BK174) hg (Kd.R_ne HO_7.out BK174.out (by decide))); replace HB := Aside0.mk ((by rw [hw]; exact below_set (HB.out) GB15.out : Below w.heap.size w w17)); replace HO_7 := n0_; clear n0_; clear hg hw hp_))
      (try simp only [← hl7_1])
      go_roundg k1
      case measure => have := HK1.out; omega
      case rel => exact ⟨(y179), (wrap64 (x28_1 + 1)), (by first | rfl | (simp; done) | (simp [*]; done)), H', ⟨by have := HK1.out; omega⟩, ⟨by (try simp only [hl7_1]); (with_reducible repeat (first | apply Kd.R_alloc | apply Kd.R_drewN | apply Kd.R_drew)); exact HO_7.out⟩, ⟨by (try simp only [hl7_1]); (with_reducible repeat (first | refine blk_drewN ?_ _ | refine blk_drew ?_ | refine blk_alloc ?_ _)); exact BK174.out⟩, ⟨bn1 HB GE174⟩⟩
    · rw [if_neg c12] at H
      have c12b0 : decide (x28_1 < (y176.length : Int)) = false := decide_eq_false c12; clear c12
      (try simp only [hl7_1] at c12b0)
      by_cases c18 : 0 < (x7_1.length : Int)
      case neg => rw [if_neg c18] at H; exact absurd H (by simp)
      rw [if_pos c18] at H; have c18b0 : decide (0 < (x7_1.length : Int)) = true := decide_eq_true c18; have c18b1 : decide (0 < x7_1.length) = true := decide_eq_true (by omega); clear c18
      (try simp only [hl7_1] at c18b0)
      (try simp only [hl7_1] at c18b1)
      obtain ⟨y180, hy180⟩ : ∃ y_ : List Int, y_ = (x7_1.set (0 : Int).toNat 0) := ⟨_, rfl⟩
      replace H : (check_heights.l1 k1 a1 ((rd_T42 l0_2 a1).f3) y180 (([0] : List Int)) a0_0 l0_1 l0_2) = some (r1, r2) := by first | (rw [hy180]; with_reducible exact H) | (have H2_ := (Option.bind_some _ _).symm.trans H; rw [hy180]; with_reducible exact H2_) | (have H2_ := (Option.bind_some _ _).symm.trans H; with_reducible exact H2_) | with_reducible exact H | (rw [hy180]; exact H) | exact H
      have Ny180 := Aside0.mk hy180; clear hy180; obtain ⟨y181, hy181⟩ : ∃ y_ : List Int, y_ = (([0] : List Int)) := ⟨_, rfl⟩
      replace H : (check_heights.l1 k1 a1 ((rd_T42 l0_2 a1).f3) y180 y181 a0_0 l0_1 l0_2) = some (r1, r2) := by first | (rw [hy181]; with_reducible exact H) | (have H2_ := (Option.bind_some _ _).symm.trans H; rw [hy181]; with_reducible exact H2_) | (have H2_ := (Option.bind_some _ _).symm.trans H; with_reducible exact H2_) | with_reducible exact H | (rw [hy181]; exact H) | exact H
      have Ny181 := Aside0.mk hy181; clear hy181; have H' := Aside0.mk H; clear H; have p19 : 0 ≤ (0 : Int) := (by omega); have q19 : (0 : Int) < ((x7_1.length : Int) : Int) := of_decide_eq_true (by first | (with_reducible assumption) | assumption); have qi19 : (0 < x7_1.length) = True := eq_true (by omega); obtain ⟨go19, co19, eo19, gb19, gl19, cl19, HG19⟩ := Kd.R_form HO_7.out (by omega)
      (first | cases eo19 | (injection eo19 with ea_ en_ ec_; (first | subst ea_ | (injection ea_ with ea_; subst ea_)); subst ec_; clear en_))
      have GB19 := Aside0.mk gb19; have GG19 := Aside0.mk HG19; clear gb19 gl19 HG19; obtain ⟨hx19_0, hf19_0⟩ := Kd.R_celln 0 HO_7.out (0 : Int) p19 q19
      (try rw [show ((0 : Int)).toNat = 0 from rfl] at hx19_0)
      (try simp only [Nat.reduceMul, Nat.zero_mul, Nat.zero_add, Nat.reduceAdd] at hx19_0)
      (try rw [show ((0 : Int)).toNat = 0 from rfl] at hf19_0)
      (try simp only [Nat.reduceMul, Nat.zero_mul, Nat.zero_add, Nat.reduceAdd] at hf19_0)
      replace p19 := eq_true p19; replace q19 := eq_true q19; have HP20 := Kd.R_putg HO_7.out (0 : Int) 0
      go_wp2_with (first | ((with_reducible refine gate_store (t := 3) (p := 36) rfl ?_); refine store_event (t := 3) (p := 36) (v := ?vo_w21) (w1 := (wr.setCell ⟨go19, (0 : Int).toNat, none⟩ (.int .i64 0))) ?hg ?ho ?hn ?hr ?_; (case ho => rfl); (case hg => rfl); (case hn => rfl); (case hr => first | (go_simp; done) | (go_simp; rfl)); intro w21 hw; have hg : wr.grownBy w21 (some go19) := (by rw [hw]; exact HP20.2); have hp_ : Kd.R (Kd.int .i64) 3 w21 w.heap.size (fun _ => True) (.slice (some ⟨go19, 0, none⟩) x7_1.length co11) y180 := (by rw [hw, Ny180.out]; exact HP20.1); clear HP20; have n0_ := Aside0.mk (hp_); replace BK174 := Aside0.mk (blk_grown (g := gb174) (o := .cells #[.int .i64 a0_0, .slice A0_1 l0_1.length c0_1, .slice (some ad175) l0_2.length c0_2] 25 (0, 0)) (bkn BK174) hg (Kd.R_ne HO_7.out BK174.out (by decide))); replace HB := Aside0.mk ((by rw [hw]; exact below_set (HB.out) GB19.out : Below w.heap.size w w21)); replace HO_7 := n0_; clear n0_; clear hg hw hp_) | ((with_reducible refine gate_dst (N := 37) rfl ?_); refine Kd.R_lit (Kd.int .i64) _ 3 ?hg (N := 37) ?hd (xs := ([0] : List Int)) (inner := [.int .i64 0]) (ok := fun _ => True) (okp := fun _ => True) ?hr ?hp (fun _ hk => hk) trivial (Below.refl _ _) (Nat.le_refl _) (by simp) ?_; (case hd => rfl); (case hg => rfl); (case hr => first | (go_simp; done) | (go_simp; rfl)); (case hp => exact (Reps.one (show Kd.M (Kd.int .i64) _ _ _ 0 [.int .i64 0] from rfl) (Reps.none _ _))); intro v182 w22 ho23 hb hg_ hnew_; clear hg_ hnew_; (first | rw [← Ny181.out] at ho23 | (simp only [Int.reduceToNat] at ho23; rw [← Ny181.out] at ho23)); have n0_ := Aside0.mk (Kd.R_elder' (rnR HO_7) (Kd.R_base ho23) hb); have HO183 := Aside0.mk (Kd.R_lower (Kd.R_new' ho23 (Kd.R_lt (rnR HO_7))) (below_size (bn1 HB GE174))); replace BK174 := Aside0.mk (blk_below (g := gb174) (o := .cells #[.int .i64 a0_0, .slice A0_1 l0_1.length c0_1, .slice (some ad175) l0_2.length c0_2] 25 (0, 0)) (bkn BK174) hb); replace HB := Aside0.mk (below_step (bn1 HB GE174) hb); replace HO_7 := n0_; clear n0_; clear hb ho23))
      go_loopg [9] k1 (fun kq v9 w' => ∃ (x7_2 : List Int) (x9_2 : List Int), Aside0 (check_heights.l1 kq a1 ((rd_T42 l0_2 a1).f3) x7_2 x9_2 a0_0 l0_1 l0_2 = some (r1, r2)) ∧ Aside0 (kq ≤ k1) ∧ Aside0 (Kd.R (Kd.int .i64) 3 w' w.heap.size (fun k_ => some k_ ≠ (v9 : Value).ownBlock) (.slice (some ⟨go19, 0, none⟩) x7_1.length co11) x7_2) ∧ Aside0 (Kd.R (Kd.int .i64) 3 w' w.heap.size (fun k_ => some k_ ≠ ((.slice (some ⟨go19, 0, none⟩) x7_1.length co11) : Value).ownBlock) v9 x9_2) ∧ Aside0 (w'.heap[gb174]? = some (.cells #[.int .i64 a0_0, (.slice A0_1 l0_1.length c0_1), (.slice (some ad175) l0_2.length c0_2)] 25 (0, 0))) ∧ Aside0 (Below w.heap.size w w'))
      case atStart => exact ⟨(y180), (y181), H', ⟨Nat.le_refl _⟩, ⟨by (try simp only [hl7_1]); (with_reducible repeat (first | apply Kd.R_alloc | apply Kd.R_drewN | apply Kd.R_drew)); exact Kd.R_mono HO_7.out (fun _ hk => hk.2)⟩, ⟨by (try simp only [hl7_1]); (with_reducible repeat (first | apply Kd.R_alloc | apply Kd.R_drewN | apply Kd.R_drew)); exact Kd.R_mono HO183.out (fun _ hk => hk.2)⟩, ⟨by (try simp only [hl7_1]); (with_reducible repeat (first | refine blk_drewN ?_ _ | refine blk_drew ?_ | refine blk_alloc ?_ _)); exact BK174.out⟩, ⟨bn1 HB GE174⟩⟩
      case round =>
        clear H'
        try clear c1
        try clear p1
        try clear q1
        try clear hx1
        try clear qi1
        try clear c2
        try clear p2
        try clear c3
        try clear c3b0
        try clear c4
        try clear c4b0
        try clear c5
        try clear c5b0
        try clear c5b1
        try clear c6
        try clear c6b0
        try clear c6b1
        try clear p6
        try clear c12
        try clear c12b0
        try clear c13
        try clear c13b0
        try clear c14
        try clear c14b0
        try clear p15
        try clear q15
        try clear hx15
        try clear hf15
        try clear c17
        try clear p17
        try clear q17
        try clear hx17
        try clear c18
        try clear c18b0
        try clear c18b1
        try clear p19
        try clear q19
        try clear hx19
        try clear qi19
        try clear hf19
        try clear c21
        try clear hcz8_0
        try clear hcz8_1
        try clear hcz8_2
        try clear hfz8_0
        try clear hfz8_1
        try clear hfz8_2
        try clear hx15_0
        try clear hx175_0
        try clear hx175_1
        try clear hx175_2
        try clear hx175_3
        try clear hx19_0
        try clear p1
        try clear p15
        try clear p175
        try clear p19
        try clear p2
        try clear q1
        try clear q15
        try clear q175
        try clear q19
        obtain ⟨x7_2, x9_2, HA, HK2, HO_7, HO_9, BK174, HB⟩ := hrel; have hl7_2 := (Kd.R_reads' HO_7.out).1; rw [hl7_2] at HO_7
        (try simp only [hl7_2])
        (try simp only [hl7_2] at BK174)
        (try simp only [hl7_2] at HO_9)
        cases gk with
        | zero => exact absurd HA.out (by simp [check_heights.l1])
        | succ k2 => ?_
        have H := HA.out; clear HA; simp only [check_heights.l1] at H
        by_cases c24 : (x9_2.length : Int) > 0
        · rw [if_pos c24] at H
          have c24b0 : decide (0 < (x9_2.length : Int)) = true := decide_eq_true c24; have c24b1 : decide (0 < x9_2.length) = true := decide_eq_true (by omega); clear c24
          (try simp only [hl7_1, hl7_2] at c24b0)
          (try simp only [hl7_1, hl7_2] at c24b1)
          obtain ⟨ji25, hji25⟩ : ∃ j_ : Int, (wrap64 ((x9_2.length : Int) - 1)) = j_ := ⟨_, rfl⟩
          replace H : (if 0 ≤ (ji25) then (if (ji25) < (x9_2.length : Int) then (if (ji25) ≤ (x9_2.length : Int) then ((some (x9_2.take ((ji25) : Int).toNat : List Int)).bind fun y185 => (if 0 ≤ (rd x9_2 (ji25)) then (if (rd x9_2 (ji25)) < (((rd_T42 l0_2 a1).f3).length : Int) then ((check_Effect.f k2 a0_0 l0_1 l0_2 a1 ((rd_T46 ((rd_T42 l0_2 a1).f3) (rd x9_2 (ji25))).f0) ((rd_T46 ((rd_T42 l0_2 a1).f3) (rd x9_2 (ji25))).f1)).bind fun bt189 => (if (rd x9_2 (ji25)) < (x7_2.length : Int) then (if (wrap64 ((rd x7_2 (rd x9_2 (ji25))) - bt189.1)) < 0 then (check_heights.j2 k2 a1 ((rd_T42 l0_2 a1).f3) x7_2 y185 (rd x9_2 (ji25)) bt189.2.1 (wrap64 ((rd x7_2 (rd x9_2 (ji25))) - bt189.1)) true a0_0 l0_1 l0_2) else (if (wrap64 ((wrap64 ((rd x7_2 (rd x9_2 (ji25))) - bt189.1)) + bt189.2.1)) > 64 then (check_heights.j2 k2 a1 ((rd_T42 l0_2 a1).f3) x7_2 y185 (rd x9_2 (ji25)) bt189.2.1 (wrap64 ((rd x7_2 (rd x9_2 (ji25))) - bt189.1)) true a0_0 l0_1 l0_2) else (if ((rd_T46 ((rd_T42 l0_2 a1).f3) (rd x9_2 (ji25))).f0) = 27 then (check_heights.j2 k2 a1 ((rd_T42 l0_2 a1).f3) x7_2 y185 (rd x9_2 (ji25)) bt189.2.1 (wrap64 ((rd x7_2 (rd x9_2 (ji25))) - bt189.1)) ((wrap64 ((rd x7_2 (rd x9_2 (ji25))) - bt189.1)) != 0) a0_0 l0_1 l0_2) else (check_heights.j2 k2 a1 ((rd_T42 l0_2 a1).f3) x7_2 y185 (rd x9_2 (ji25)) bt189.2.1 (wrap64 ((rd x7_2 (rd x9_2 (ji25))) - bt189.1)) false a0_0 l0_1 l0_2)))) else (none))) else (none)) else (none))) else (none)) else (none)) else (none)) = some (r1, r2) := by first | (rw [hji25] at H; exact H) | (simp only [hji25] at H ⊢; exact H)
          have hji25w : (IntKind.i64.wrap ((x9_2.length : Int) - 1)) = ji25 := (i64_w _).trans hji25
          by_cases c26 : 0 ≤ (ji25)
          case neg => rw [if_neg c26] at H; exact absurd H (by simp)
          rw [if_pos c26] at H; have c26b0 : decide (0 ≤ (ji25)) = true := decide_eq_true c26; clear c26
          by_cases c27 : (ji25) < (x9_2.length : Int)
          case neg => rw [if_neg c27] at H; exact absurd H (by simp)
          rw [if_pos c27] at H; have c27b0 : decide ((ji25) < (x9_2.length : Int)) = true := decide_eq_true c27; clear c27
          (try simp only [hl7_1, hl7_2] at c27b0)
          by_cases c28 : (ji25) ≤ (x9_2.length : Int)
          case neg => rw [if_neg c28] at H; exact absurd H (by simp)
          rw [if_pos c28] at H; have c28b0 := eq_true c28; have c28b1 : decide ((ji25) ≤ (x9_2.length : Int)) = true := decide_eq_true c28; clear c28; obtain ⟨y185, hy185⟩ : ∃ y_ : List Int, y_ = (x9_2.take ((ji25) : Int).toNat) := ⟨_, rfl⟩
          replace H : (if 0 ≤ (rd x9_2 (ji25)) then (if (rd x9_2 (ji25)) < (((rd_T42 l0_2 a1).f3).length : Int) then ((check_Effect.f k2 a0_0 l0_1 l0_2 a1 ((rd_T46 ((rd_T42 l0_2 a1).f3) (rd x9_2 (ji25))).f0) ((rd_T46 ((rd_T42 l0_2 a1).f3) (rd x9_2 (ji25))).f1)).bind fun bt189 => (if (rd x9_2 (ji25)) < (x7_2.length : Int) then (if (wrap64 ((rd x7_2 (rd x9_2 (ji25))) - bt189.1)) < 0 then (check_heights.j2 k2 a1 ((rd_T42 l0_2 a1).f3) x7_2 y185 (rd x9_2 (ji25)) bt189.2.1 (wrap64 ((rd x7_2 (rd x9_2 (ji25))) - bt189.1)) true a0_0 l0_1 l0_2) else (if (wrap64 ((wrap64 ((rd x7_2 (rd x9_2 (ji25))) - bt189.1)) + bt189.2.1)) > 64 then (check_heights.j2 k2 a1 ((rd_T42 l0_2 a1).f3) x7_2 y185 (rd x9_2 (ji25)) bt189.2.1 (wrap64 ((rd x7_2 (rd x9_2 (ji25))) - bt189.1)) true a0_0 l0_1 l0_2) else (if ((rd_T46 ((rd_T42 l0_2 a1).f3) (rd x9_2 (ji25))).f0) = 27 then (check_heights.j2 k2 a1 ((rd_T42 l0_2 a1).f3) x7_2 y185 (rd x9_2 (ji25)) bt189.2.1 (wrap64 ((rd x7_2 (rd x9_2 (ji25))) - bt189.1)) ((wrap64 ((rd x7_2 (rd x9_2 (ji25))) - bt189.1)) != 0) a0_0 l0_1 l0_2) else (check_heights.j2 k2 a1 ((rd_T42 l0_2 a1).f3) x7_2 y185 (rd x9_2 (ji25)) bt189.2.1 (wrap64 ((rd x7_2 (rd x9_2 (ji25))) - bt189.1)) false a0_0 l0_1 l0_2)))) else (none))) else (none)) else (none)) = some (r1, r2) := by first | (rw [hy185]; with_reducible exact H) | (have H2_ := (Option.bind_some _ _).symm.trans H; rw [hy185]; with_reducible exact H2_) | (have H2_ := (Option.bind_some _ _).symm.trans H; with_reducible exact H2_) | with_reducible exact H | (rw [hy185]; exact H) | exact H
          have Ny185 := Aside0.mk hy185; clear hy185
          by_cases c29 : 0 ≤ (rd x9_2 (ji25))
          case neg => rw [if_neg c29] at H; exact absurd H (by simp)
          rw [if_pos c29] at H; have c29b0 : decide (0 ≤ (rd x9_2 (ji25))) = true := decide_eq_true c29; clear c29
          by_cases c30 : (rd x9_2 (ji25)) < (((rd_T42 l0_2 a1).f3).length : Int)
          case neg => rw [if_neg c30] at H; exact absurd H (by simp)
          rw [if_pos c30] at H; have c30b0 : decide ((rd x9_2 (ji25)) < (((rd_T42 l0_2 a1).f3).length : Int)) = true := decide_eq_true c30; clear c30
          (try simp only [hl7_1, hl7_2] at c30b0)
          replace H := Option.bind_eq_some_iff.mp H; obtain ⟨⟨t189, t190, t191⟩, A310, H⟩ := H; replace H : (if (rd x9_2 (ji25)) < (x7_2.length : Int) then (if (wrap64 ((rd x7_2 (rd x9_2 (ji25))) - t189)) < 0 then (check_heights.j2 k2 a1 ((rd_T42 l0_2 a1).f3) x7_2 y185 (rd x9_2 (ji25)) t190 (wrap64 ((rd x7_2 (rd x9_2 (ji25))) - t189)) true a0_0 l0_1 l0_2) else (if (wrap64 ((wrap64 ((rd x7_2 (rd x9_2 (ji25))) - t189)) + t190)) > 64 then (check_heights.j2 k2 a1 ((rd_T42 l0_2 a1).f3) x7_2 y185 (rd x9_2 (ji25)) t190 (wrap64 ((rd x7_2 (rd x9_2 (ji25))) - t189)) true a0_0 l0_1 l0_2) else (if ((rd_T46 ((rd_T42 l0_2 a1).f3) (rd x9_2 (ji25))).f0) = 27 then (check_heights.j2 k2 a1 ((rd_T42 l0_2 a1).f3) x7_2 y185 (rd x9_2 (ji25)) t190 (wrap64 ((rd x7_2 (rd x9_2 (ji25))) - t189)) ((wrap64 ((rd x7_2 (rd x9_2 (ji25))) - t189)) != 0) a0_0 l0_1 l0_2) else (check_heights.j2 k2 a1 ((rd_T42 l0_2 a1).f3) x7_2 y185 (rd x9_2 (ji25)) t190 (wrap64 ((rd x7_2 (rd x9_2 (ji25))) - t189)) false a0_0 l0_1 l0_2)))) else (none)) = some (r1, r2) := H; have A31 := Aside0.mk A310; clear A310
          by_cases c32 : (rd x9_2 (ji25)) < (x7_2.length : Int)
          case neg => rw [if_neg c32] at H; exact absurd H (by simp)
          rw [if_pos c32] at H; have c32b0 : decide ((rd x9_2 (ji25)) < (x7_2.length : Int)) = true := decide_eq_true c32; clear c32
          (try simp only [hl7_1, hl7_2] at c32b0)
          have HC33 := Aside0.mk H; clear H; obtain ⟨Ao34, co34, eo34⟩ := Kd.R_slice HO_9.out; subst eo34; have p184 : 0 ≤ ((ji25) : Int) := of_decide_eq_true (by first | (with_reducible assumption) | assumption); have q184 : (ji25) < (x9_2.length : Int) := of_decide_eq_true (by first | (with_reducible assumption) | assumption); obtain ⟨ad184, e184, hx184_0⟩ := Kd.at_int (Kd.R_reads' HO_9.out).2.2 (ji25) p184 q184
          cases e184
          replace p184 := eq_true p184; replace q184 := eq_true q184; have q35 : ((ji25) : Int) ≤ ((x9_2.length : Int) : Int) := of_decide_eq_true (by first | (with_reducible assumption) | assumption); obtain ⟨i035, hi035, _, hsz35, _⟩ := info_parts info3; have hcut35 := cut_to (P := Try.prog) 34 3 .i64 Try.underlying34 hi035 (some ad184) x9_2.length co34 (ji25) (of_decide_eq_true (by first | (with_reducible assumption) | assumption)) q35 (Kd.R_reads' HO_9.out).2.1; have hr35 := Kd.R_take (m := ((ji25) : Int).toNat) HO_9.out (by omega); have hy35 : y185.length = ((ji25) : Int).toNat := (by rw [Ny185.out, List.length_take]; omega); rw [← Ny185.out] at hr35; rw [← hy35] at hr35 hcut35; clear hy35 hi035 hsz35 HO_9; have HO187 := Aside0.mk hr35; clear hr35; replace q35 := eq_true q35
          try go_wp2
          replace HO_7 := Aside0.mk (Kd.R_drew HO_7.out); replace HO187 := Aside0.mk (Kd.R_drew HO187.out); replace BK174 := Aside0.mk (blk_drew BK174.out); replace HB := Aside0.mk (below_drew1 HB.out); have p188 : 0 ≤ ((rd x9_2 (ji25)) : Int) := of_decide_eq_true (by first | (with_reducible assumption) | assumption); have q188 : (rd x9_2 (ji25)) < (((rd_T42 l0_2 a1).f3).length : Int) := of_decide_eq_true (by first | (with_reducible assumption) | assumption); obtain ⟨ad188, e188, hx188_0, hx188_1⟩ := at_T46 HR175_3.out (rd x9_2 (ji25)) p188 q188; have hw188_1 := hx188_1; have hw188_0 := hx188_0
          cases e188
          replace hx188_0 := (HB.out.cell (World.block_lt_of_cell? w _ hx188_0)).trans hx188_0; replace hx188_1 := (HB.out.cell (World.block_lt_of_cell? w _ hx188_1)).trans hx188_1; replace p188 := eq_true p188; replace q188 := eq_true q188
          refine start_ (n := 14) (S := fun w' => w'.cell? ⟨gb174, 0, none⟩ = some (.int .i64 a0_0) ∧ w'.cell? ⟨gb174, 1, none⟩ = some (.slice A0_1 l0_1.length c0_1) ∧ w'.cell? ⟨gb174, 2, none⟩ = some (.slice (some ad175) l0_2.length c0_2) ∧ w'.cell? (ad188.add (((rd x9_2 (ji25))).toNat * 2)) = some (.int .i64 ((rd_T46 ((rd_T42 l0_2 a1).f3) (rd x9_2 (ji25))).f0)) ∧ w'.cell? ⟨(ad188.add (((rd x9_2 (ji25))).toNat * 2)).block, (ad188.add (((rd x9_2 (ji25))).toNat * 2)).off + 1, none⟩ = some (.int .i64 ((rd_T46 ((rd_T42 l0_2 a1).f3) (rd x9_2 (ji25))).f1))) (ds := []) #[false, false, false, false, false, false, false, false, false, false, false, false, false, false] (by kernel_rfl) rfl rfl ⟨(blk_cell BK174.out 0).trans rfl, (blk_cell BK174.out 1).trans rfl, (blk_cell BK174.out 2).trans rfl, ((HB.out.cell (World.block_lt_of_cell? w _ hw188_0)).trans hw188_0), ((HB.out.cell (World.block_lt_of_cell? w _ hw188_1)).trans hw188_1)⟩ (fun hHeld => ?_); refine with_tabW check_heights.tab13 check_heights.bits13 (fun HT_ HW_ => ?_)
          generalize wr.drew = w36 at HO_7 HO187 BK174 HB hx188_0 hx188_1 hHeld ⊢
          refine pure_ (i := 1) (N := some 54) (v := ?_) (a' := ?_) #[false, true, false, false, false, false, false, false, false, false, false, false, false, false] rfl rfl (any_of HT_.out (by kernel_rfl)) (fun _ _ _ h => h) (Or.inl ⟨by rfl, ?_⟩) ?_ ?_
          rotate_left
          · intro w'
            go_simp
            with_reducible rfl
          rotate_left
          · simp only [Act.put, List.setIfInBounds_toArray, List.set_cons_zero, List.set_cons_succ, i64_w, i32_w]
            rfl
          refine pure_ (i := 2) (N := some 55) (v := ?_) (a' := ?_) #[false, true, true, false, false, false, false, false, false, false, false, false, false, false] rfl rfl (any_of HT_.out (by kernel_rfl)) (fun _ _ _ h => h) (Or.inl ⟨by rfl, ?_⟩) ?_ ?_
          rotate_left
          · intro w'
            go_simp
            with_reducible rfl
          rotate_left
          · simp only [Act.put, List.setIfInBounds_toArray, List.set_cons_zero, List.set_cons_succ, i64_w, i32_w]
            rfl
          refine pure_ (i := 3) (N := some 56) (v := ?_) (a' := ?_) #[false, true, true, true, false, false, false, false, false, false, false, false, false, false] rfl rfl (any_of HT_.out (by kernel_rfl)) (fun _ _ _ h => h) (Or.inl ⟨by rfl, ?_⟩) ?_ ?_
          rotate_left
          · intro w'
            go_simp
            with_reducible rfl
          rotate_left
          · simp only [Act.put, List.setIfInBounds_toArray, List.set_cons_zero, List.set_cons_succ, i64_w, i32_w]
            rfl
          refine pure_ (i := 4) (N := some 57) (v := ?_) (a' := ?_) #[false, true, true, true, true, false, false, false, false, false, false, false, false, false] rfl rfl (any_of HT_.out (by kernel_rfl)) (fun _ _ _ h => h) (Or.inl ⟨by rfl, ?_⟩) ?_ ?_
          rotate_left
          · intro w'
            go_simp
            with_reducible rfl
          rotate_left
          · simp only [Act.put, List.setIfInBounds_toArray, List.set_cons_zero, List.set_cons_succ, i64_w, i32_w]
            rfl
          refine take_ (i := 0) (N := some 53) (v := ?_) (a' := ?_) #[true, true, true, true, true, false, false, false, false, false, false, false, false, false] rfl rfl (take_ofW HT_.out HW_.out (by kernel_rfl)) (fun _ _ _ h => h) (Or.inl ⟨by rfl, ?_⟩) hHeld ?_ ?_
          rotate_left
          · rintro w' ⟨s0, s1, s2, s3, s4⟩
            go_simp
            with_reducible rfl
          rotate_left
          · simp only [Act.put, List.setIfInBounds_toArray, List.set_cons_zero, List.set_cons_succ, i64_w, i32_w]
            rfl
          refine take_ (i := 5) (N := some 58) (v := ?_) (a' := ?_) #[true, true, true, true, true, true, false, false, false, false, false, false, false, false] rfl rfl (take_ofW HT_.out HW_.out (by kernel_rfl)) (fun _ _ _ h => h) (Or.inl ⟨by rfl, ?_⟩) hHeld ?_ ?_
          rotate_left
          · rintro w' ⟨s0, s1, s2, s3, s4⟩
            go_simp
            with_reducible rfl
          rotate_left
          · simp only [Act.put, List.setIfInBounds_toArray, List.set_cons_zero, List.set_cons_succ, i64_w, i32_w]
            rfl
          refine one_ (i := 6) (N := some 59) #[true, true, true, true, true, true, true, false, false, false, false, false, false, false] rfl rfl (one_of HT_.out (by kernel_rfl)) (by decide) (fun K hK => ?_)
          refine goes_ Try.func14 (by kernel_rfl) rfl #[.agg #[.int .i64 a0_0, .slice A0_1 l0_1.length c0_1, .slice (some ad175) l0_2.length c0_2], .int .i64 a1, .agg #[.int .i64 ((rd_T46 ((rd_T42 l0_2 a1).f3) (rd x9_2 (ji25))).f0), .int .i64 ((rd_T46 ((rd_T42 l0_2 a1).f3) (rd x9_2 (ji25))).f1)]] (by rfl) rfl rfl (by (try simp only [List.map_toArray, List.map_cons, List.map_nil]); first | done | (simp only [hji25]; rfl) | rfl | (simp only [List.length_drop, List.length_take]; rfl)) ?_
          with_reducible refine (check_Effect.calls k2 a0_0 _ _ l0_1 _ _ l0_2 a1 ((rd_T46 ((rd_T42 l0_2 a1).f3) (rd x9_2 (ji25))).f0) ((rd_T46 ((rd_T42 l0_2 a1).f3) (rd x9_2 (ji25))).f1) t189 t190 t191 _ ?side1 ?side2 ?side3 ?side4 A31.out).mono ?_
          (case side1 => repeat (first | exact (Kd.C_below HR0_1.out HB.out) | (with_reducible refine Kd.C_alloc ?_ _) | (with_reducible refine Kd.C_drewN ?_ _) | (with_reducible refine Kd.C_drew ?_)))
          (case side2 => exact HC0_1.out)
          (case side3 => repeat (first | exact (Kd.C_below HR0_2.out HB.out) | (with_reducible refine Kd.C_alloc ?_ _) | (with_reducible refine Kd.C_drewN ?_ _) | (with_reducible refine Kd.C_drew ?_)))
          (case side4 => exact HC0_2.out)
          rintro e w37 ⟨rfl, hb⟩
          refine ⟨_, rfl, ?_⟩
          replace HO_7 := Aside0.mk (Kd.R_below (rnR HO_7) hb); replace HO187 := Aside0.mk (Kd.R_below (rnR HO187) hb); replace BK174 := Aside0.mk (blk_below (g := gb174) (o := .cells #[.int .i64 a0_0, .slice A0_1 l0_1.length c0_1, .slice (some ad175) l0_2.length c0_2] 25 (0, 0)) (bkn BK174) hb); replace HB := Aside0.mk (below_step (bn1 HB GE174) hb)
          refine hK.out _ _ ⟨(blk_cell BK174.out 0).trans rfl, (blk_cell BK174.out 1).trans rfl, (blk_cell BK174.out 2).trans rfl, ((HB.out.cell (World.block_lt_of_cell? w _ hw188_0)).trans hw188_0), ((HB.out.cell (World.block_lt_of_cell? w _ hw188_1)).trans hw188_1)⟩ (fun hHeld => ?_)
          clear hK K
          refine norm_ (a' := ?_) ?_ ?_
          rotate_left
          · show Act.put _ (some 59) _ = _
            simp only [Act.put, List.setIfInBounds_toArray, List.set_cons_zero, List.set_cons_succ, i64_w, i32_w]
            rfl
          refine pure_ (i := 7) (N := some 52) (v := ?_) (a' := ?_) #[true, true, true, true, true, true, true, true, false, false, false, false, false, false] rfl rfl (any_of HT_.out (by kernel_rfl)) (fun _ _ _ h => h) (Or.inl ⟨by rfl, ?_⟩) ?_ ?_
          rotate_left
          · intro w'
            go_simp
            with_reducible rfl
          rotate_left
          · simp only [Act.put, List.setIfInBounds_toArray, List.set_cons_zero, List.set_cons_succ, i64_w, i32_w]
            rfl
          refine pure_ (i := 8) (N := some 60) (v := ?_) (a' := ?_) #[true, true, true, true, true, true, true, true, true, false, false, false, false, false] rfl rfl (any_of HT_.out (by kernel_rfl)) (fun _ _ _ h => h) (Or.inl ⟨by rfl, ?_⟩) ?_ ?_
          rotate_left
          · intro w'
            go_simp
            with_reducible rfl
          rotate_left
          · simp only [Act.put, List.setIfInBounds_toArray, List.set_cons_zero, List.set_cons_succ, i64_w, i32_w]
            rfl
          refine pure_ (i := 9) (N := some 61) (v := ?_) (a' := ?_) #[true, true, true, true, true, true, true, true, true, true, false, false, false, false] rfl rfl (any_of HT_.out (by kernel_rfl)) (fun _ _ _ h => h) (Or.inl ⟨by rfl, ?_⟩) ?_ ?_
          rotate_left
          · intro w'
            go_simp
            with_reducible rfl
          rotate_left
          · simp only [Act.put, List.setIfInBounds_toArray, List.set_cons_zero, List.set_cons_succ, i64_w, i32_w]
            rfl
          refine pure_ (i := 10) (N := some 62) (v := ?_) (a' := ?_) #[true, true, true, true, true, true, true, true, true, true, true, false, false, false] rfl rfl (any_of HT_.out (by kernel_rfl)) (fun _ _ _ h => h) (Or.inl ⟨by rfl, ?_⟩) ?_ ?_
          rotate_left
          · intro w'
            go_simp
            with_reducible rfl
          rotate_left
          · simp only [Act.put, List.setIfInBounds_toArray, List.set_cons_zero, List.set_cons_succ, i64_w, i32_w]
            rfl
          refine pure_ (i := 11) (N := some 11) (v := ?_) (a' := ?_) #[true, true, true, true, true, true, true, true, true, true, true, true, false, false] rfl rfl (any_of HT_.out (by kernel_rfl)) (fun _ _ _ h => h) (Or.inl ⟨by rfl, ?_⟩) ?_ ?_
          rotate_left
          · intro w'
            go_simp
            with_reducible rfl
          rotate_left
          · simp only [Act.put, List.setIfInBounds_toArray, List.set_cons_zero, List.set_cons_succ, i64_w, i32_w]
            rfl
          refine pure_ (i := 12) (N := some 12) (v := ?_) (a' := ?_) #[true, true, true, true, true, true, true, true, true, true, true, true, true, false] rfl rfl (any_of HT_.out (by kernel_rfl)) (fun _ _ _ h => h) (Or.inl ⟨by rfl, ?_⟩) ?_ ?_
          rotate_left
          · intro w'
            go_simp
            with_reducible rfl
          rotate_left
          · simp only [Act.put, List.setIfInBounds_toArray, List.set_cons_zero, List.set_cons_succ, i64_w, i32_w]
            rfl
          refine pure_ (i := 13) (N := some 13) (v := ?_) (a' := ?_) #[true, true, true, true, true, true, true, true, true, true, true, true, true, true] rfl rfl (any_of HT_.out (by kernel_rfl)) (fun _ _ _ h => h) (Or.inl ⟨by rfl, ?_⟩) ?_ ?_
          rotate_left
          · intro w'
            go_simp
            with_reducible rfl
          rotate_left
          · simp only [Act.put, List.setIfInBounds_toArray, List.set_cons_zero, List.set_cons_succ, i64_w, i32_w]
            rfl
          refine done_ (done_of HT_.out (by kernel_rfl)) ?_
          have p192 : 0 ≤ ((rd x9_2 (ji25)) : Int) := of_decide_eq_true (by first | (with_reducible assumption) | assumption); have q192 : (rd x9_2 (ji25)) < (x7_2.length : Int) := of_decide_eq_true (by first | (with_reducible assumption) | assumption); obtain ⟨ad192, e192, hx192_0⟩ := Kd.at_int (Kd.R_reads' HO_7.out).2.2 (rd x9_2 (ji25)) p192 q192; obtain rfl : (⟨go19, 0, none⟩ : Addr) = ad192 := (by injection e192)
          (first | simp only [add_plain] at hx192_0 | simp only [add_at] at hx192_0 | simp only [Addr.add, Nat.zero_add] at hx192_0 | skip)
          replace p192 := eq_true p192; replace q192 := eq_true q192
          go_upto_region 15 with (fail)
          go_cut [88] (fun v88 wc => ∃ (kq : Nat) (x88_32 : Bool), v88 = .bool x88_32 ∧ Aside0 (check_heights.j2 kq a1 ((rd_T42 l0_2 a1).f3) x7_2 y185 (rd x9_2 (ji25)) t190 (wrap64 ((rd x7_2 (rd x9_2 (ji25))) - t189)) x88_32 a0_0 l0_1 l0_2 = some (r1, r2)) ∧ Aside0 (kq ≤ k2) ∧ Aside0 (Kd.R (Kd.int .i64) 3 wc w.heap.size (fun k_ => some k_ ≠ ((.slice (some ad184) y185.length co34) : Value).ownBlock) (.slice (some ⟨go19, 0, none⟩) x7_2.length co11) x7_2) ∧ Aside0 (Kd.R (Kd.int .i64) 3 wc w.heap.size (fun k_ => some k_ ≠ ((.slice (some ⟨go19, 0, none⟩) x7_2.length co11) : Value).ownBlock) (.slice (some ad184) y185.length co34) y185) ∧ Aside0 (wc.heap[gb174]? = some (.cells #[.int .i64 a0_0, (.slice A0_1 l0_1.length c0_1), (.slice (some ad175) l0_2.length c0_2)] 25 (0, 0))) ∧ Aside0 (Below w.heap.size w wc))
          case first =>
            have H := HC33.out; clear HC33
            by_cases c38 : (wrap64 ((rd x7_2 (rd x9_2 (ji25))) - t189)) < 0
            · rw [if_pos c38] at H
              have c38b0 : decide ((wrap64 ((rd x7_2 (rd x9_2 (ji25))) - t189)) < 0) = true := decide_eq_true c38; clear c38
              (first | rw [c38b0] | (simp only [i64_w, i32_w]; rw [c38b0]) | skip)
              have H' := Aside0.mk H; clear H
              go_wp2
              go_meet
              case rel => exact ⟨_, (true), (by first | rfl | (simp; done) | (simp [*]; done)), H', ⟨by have := HK1.out; have := HK2.out; first | omega | exact Nat.le_refl _⟩, ⟨by (try simp only [hl7_1]); (try simp only [hl7_2]); (with_reducible repeat (first | apply Kd.R_alloc | apply Kd.R_drewN | apply Kd.R_drew)); exact HO_7.out⟩, ⟨by (try simp only [hl7_1]); (try simp only [hl7_2]); (with_reducible repeat (first | apply Kd.R_alloc | apply Kd.R_drewN | apply Kd.R_drew)); exact HO187.out⟩, ⟨by (try simp only [hl7_1]); (try simp only [hl7_2]); (with_reducible repeat (first | refine blk_drewN ?_ _ | refine blk_drew ?_ | refine blk_alloc ?_ _)); exact BK174.out⟩, ⟨bn1 HB GE174⟩⟩
            · rw [if_neg c38] at H
              have c38b0 : decide ((wrap64 ((rd x7_2 (rd x9_2 (ji25))) - t189)) < 0) = false := decide_eq_false c38; clear c38
              (first | rw [c38b0] | (simp only [i64_w, i32_w]; rw [c38b0]) | skip)
              by_cases c39 : (wrap64 ((wrap64 ((rd x7_2 (rd x9_2 (ji25))) - t189)) + t190)) > 64
              · rw [if_pos c39] at H
                have c39b0 : decide (64 < (wrap64 ((wrap64 ((rd x7_2 (rd x9_2 (ji25))) - t189)) + t190))) = true := decide_eq_true c39; clear c39; have H' := Aside0.mk H; clear H
                go_wp2
                go_meet
                case rel => exact ⟨_, (true), (by first | rfl | (simp; done) | (simp [*]; done)), H', ⟨by have := HK1.out; have := HK2.out; first | omega | exact Nat.le_refl _⟩, ⟨by (try simp only [hl7_1]); (try simp only [hl7_2]); (with_reducible repeat (first | apply Kd.R_alloc | apply Kd.R_drewN | apply Kd.R_drew)); exact HO_7.out⟩, ⟨by (try simp only [hl7_1]); (try simp only [hl7_2]); (with_reducible repeat (first | apply Kd.R_alloc | apply Kd.R_drewN | apply Kd.R_drew)); exact HO187.out⟩, ⟨by (try simp only [hl7_1]); (try simp only [hl7_2]); (with_reducible repeat (first | refine blk_drewN ?_ _ | refine blk_drew ?_ | refine blk_alloc ?_ _)); exact BK174.out⟩, ⟨bn1 HB GE174⟩⟩
              · rw [if_neg c39] at H
                have c39b0 : decide (64 < (wrap64 ((wrap64 ((rd x7_2 (rd x9_2 (ji25))) - t189)) + t190))) = false := decide_eq_false c39; clear c39
                by_cases c40 : ((rd_T46 ((rd_T42 l0_2 a1).f3) (rd x9_2 (ji25))).f0) = 27
                · rw [if_pos c40] at H
                  have c40b0 : (((rd_T46 ((rd_T42 l0_2 a1).f3) (rd x9_2 (ji25))).f0) == 27) = true := beq_iff_eq.mpr c40; have c40b1 : (((rd_T46 ((rd_T42 l0_2 a1).f3) (rd x9_2 (ji25))).f0) != 27) = false := bne_eq_false_iff_eq.mpr c40; clear c40; have H' := Aside0.mk H; clear H; have p193 : 0 ≤ ((rd x9_2 (ji25)) : Int) := of_decide_eq_true (by first | (with_reducible assumption) | assumption); have q193 : (rd x9_2 (ji25)) < (((rd_T42 l0_2 a1).f3).length : Int) := of_decide_eq_true (by first | (with_reducible assumption) | assumption); obtain ⟨ad193, e193, hx193_0, hx193_1⟩ := at_T46 HR175_3.out (rd x9_2 (ji25)) p193 q193; obtain rfl : ad188 = ad193 := (by injection e193); replace hx193_0 := (HB.out.cell (World.block_lt_of_cell? w _ hx193_0)).trans hx193_0; replace hx193_1 := (HB.out.cell (World.block_lt_of_cell? w _ hx193_1)).trans hx193_1; replace p193 := eq_true p193; replace q193 := eq_true q193
                  go_wp2
                  go_meet
                  case rel => exact ⟨_, (((wrap64 ((rd x7_2 (rd x9_2 (ji25))) - t189)) != 0)), (by first | rfl | (simp; done) | (simp only [← hji25] <;> (first | rfl | simp)) | (simp [*]; done)), H', ⟨by have := HK1.out; have := HK2.out; first | omega | exact Nat.le_refl _⟩, ⟨by (try simp only [hl7_1]); (try simp only [hl7_2]); (with_reducible repeat (first | apply Kd.R_alloc | apply Kd.R_drewN | apply Kd.R_drew)); exact HO_7.out⟩, ⟨by (try simp only [hl7_1]); (try simp only [hl7_2]); (with_reducible repeat (first | apply Kd.R_alloc | apply Kd.R_drewN | apply Kd.R_drew)); exact HO187.out⟩, ⟨by (try simp only [hl7_1]); (try simp only [hl7_2]); (with_reducible repeat (first | refine blk_drewN ?_ _ | refine blk_drew ?_ | refine blk_alloc ?_ _)); exact BK174.out⟩, ⟨bn1 HB GE174⟩⟩
                · rw [if_neg c40] at H
                  have c40b0 : (((rd_T46 ((rd_T42 l0_2 a1).f3) (rd x9_2 (ji25))).f0) == 27) = false := beq_eq_false_iff_ne.mpr c40; have c40b1 : (((rd_T46 ((rd_T42 l0_2 a1).f3) (rd x9_2 (ji25))).f0) != 27) = true := bne_iff_ne.mpr c40; have H' := Aside0.mk H; clear H; have p193 : 0 ≤ ((rd x9_2 (ji25)) : Int) := of_decide_eq_true (by first | (with_reducible assumption) | assumption); have q193 : (rd x9_2 (ji25)) < (((rd_T42 l0_2 a1).f3).length : Int) := of_decide_eq_true (by first | (with_reducible assumption) | assumption); obtain ⟨ad193, e193, hx193_0, hx193_1⟩ := at_T46 HR175_3.out (rd x9_2 (ji25)) p193 q193; obtain rfl : ad188 = ad193 := (by injection e193); replace hx193_0 := (HB.out.cell (World.block_lt_of_cell? w _ hx193_0)).trans hx193_0; replace hx193_1 := (HB.out.cell (World.block_lt_of_cell? w _ hx193_1)).trans hx193_1; replace p193 := eq_true p193; replace q193 := eq_true q193
                  go_wp2
                  go_meet
                  case rel => exact ⟨_, (false), (by first | rfl | (simp; done) | (simp [*]; done)), H', ⟨by have := HK1.out; have := HK2.out; first | omega | exact Nat.le_refl _⟩, ⟨by (try simp only [hl7_1]); (try simp only [hl7_2]); (with_reducible repeat (first | apply Kd.R_alloc | apply Kd.R_drewN | apply Kd.R_drew)); exact HO_7.out⟩, ⟨by (try simp only [hl7_1]); (try simp only [hl7_2]); (with_reducible repeat (first | apply Kd.R_alloc | apply Kd.R_drewN | apply Kd.R_drew)); exact HO187.out⟩, ⟨by (try simp only [hl7_1]); (try simp only [hl7_2]); (with_reducible repeat (first | refine blk_drewN ?_ _ | refine blk_drew ?_ | refine blk_alloc ?_ _)); exact BK174.out⟩, ⟨bn1 HB GE174⟩⟩
          case rest =>
            clear HC33
            try clear c1
            try clear p1
            try clear q1
            try clear hx1
            try clear qi1
            try clear c2
            try clear p2
            try clear c3
            try clear c3b0
            try clear q3
            try clear c4
            try clear c4b0
            try clear c5
            try clear c5b0
            try clear c5b1
            try clear c6
            try clear c6b0
            try clear c6b1
            try clear p6
            try clear c12
            try clear c12b0
            try clear c13
            try clear c13b0
            try clear c14
            try clear c14b0
            try clear p15
            try clear q15
            try clear hx15
            try clear hf15
            try clear c17
            try clear p17
            try clear q17
            try clear hx17
            try clear c18
            try clear c18b0
            try clear c18b1
            try clear p18
            try clear q18
            try clear hx18
            try clear p19
            try clear q19
            try clear hx19
            try clear qi19
            try clear hf19
            try clear c21
            try clear c24
            try clear c24b0
            try clear c24b1
            try clear c26
            try clear c26b0
            try clear c27
            try clear c27b0
            try clear c28
            try clear c28b0
            try clear c28b1
            try clear c29
            try clear c29b0
            try clear c30
            try clear c30b0
            try clear c32
            try clear c32b0
            try clear q35
            try clear c38
            try clear c38b0
            try clear c39
            try clear c39b0
            try clear c40
            try clear c40b0
            try clear c40b1
            try clear hcz8_0
            try clear hcz8_1
            try clear hcz8_2
            try clear hfz8_0
            try clear hfz8_1
            try clear hfz8_2
            try clear hx15_0
            try clear hx175_0
            try clear hx175_1
            try clear hx175_2
            try clear hx175_3
            try clear hx184_0
            try clear hx188_0
            try clear hx188_1
            try clear hx192_0
            try clear hx193_0
            try clear hx193_1
            try clear hx19_0
            try clear p1
            try clear p15
            try clear p17
            try clear p175
            try clear p184
            try clear p188
            try clear p19
            try clear p192
            try clear p193
            try clear p2
            try clear p6
            try clear q1
            try clear q15
            try clear q17
            try clear q175
            try clear q184
            try clear q188
            try clear q19
            try clear q192
            try clear q193
            try clear q35
            obtain ⟨kq, x88_32, rfl, HA, HJ32, HO_7, HO_9, BK174, HB⟩ := hcut
            cases kq with
            | zero => exact absurd HA.out (by simp [check_heights.j2])
            | succ kj32 => ?_
            have H := HA.out; clear HA; simp only [check_heights.j2] at H
            by_cases c41 : x88_32 = true
            · subst c41
              have H1 : (some (([] : List Int), false)) = some (r1, r2) := by rw [if_pos rfl] at H; exact H
              clear H; have H := H1; clear H1; simp only [Option.some.injEq, Prod.mk.injEq] at H; obtain ⟨rfl, rfl⟩ := H
              go_wp2
              go_ret2
              exact ⟨_, by first | rfl | (simp [errW_none, errW_some] <;> rfl) | (simp only [← hji25]; first | rfl | (simp [errW_none, errW_some] <;> rfl)) | (simp [*, errW_none, errW_some] <;> rfl), by first | exact Kd.R_nil _ _ _ _ _ | exact Kd.N_nil _ _ _ _ _ | exact Kd.V_nil _ _ _ _ _ | exact Kd.Q_nil _ _ _ _ _ | exact Kd.S_nil _ _ _ _ _, bn1 HB GE174⟩
            · replace c41 := Bool.eq_false_iff.mpr c41
              subst c41
              have H1 : (if 0 ≤ (rd x9_2 (ji25)) then (if (rd x9_2 (ji25)) < (((rd_T42 l0_2 a1).f3).length : Int) then ((check_next.f kj32 (rd x9_2 (ji25)) ((rd_T46 ((rd_T42 l0_2 a1).f3) (rd x9_2 (ji25))).f0) ((rd_T46 ((rd_T42 l0_2 a1).f3) (rd x9_2 (ji25))).f1)).bind fun t195 => (check_heights.l2 kj32 a1 ((rd_T42 l0_2 a1).f3) x7_2 y185 t190 (wrap64 ((rd x7_2 (rd x9_2 (ji25))) - t189)) t195 (t195.length : Int) 0 a0_0 l0_1 l0_2)) else (none)) else (none)) = some (r1, r2) := by rw [if_neg (show ¬ (false = true) by decide)] at H; exact H
              clear H; have H := H1; clear H1
              by_cases c42 : 0 ≤ (rd x9_2 (ji25))
              case neg => rw [if_neg c42] at H; exact absurd H (by simp)
              rw [if_pos c42] at H; have c42b0 : decide (0 ≤ (rd x9_2 (ji25))) = true := decide_eq_true c42; clear c42
              by_cases c43 : (rd x9_2 (ji25)) < (((rd_T42 l0_2 a1).f3).length : Int)
              case neg => rw [if_neg c43] at H; exact absurd H (by simp)
              rw [if_pos c43] at H; have c43b0 : decide ((rd x9_2 (ji25)) < (((rd_T42 l0_2 a1).f3).length : Int)) = true := decide_eq_true c43; clear c43
              (try simp only [hl7_1, hl7_2] at c43b0)
              replace H := Option.bind_eq_some_iff.mp H; obtain ⟨t195, A440, H⟩ := H; replace H : (check_heights.l2 kj32 a1 ((rd_T42 l0_2 a1).f3) x7_2 y185 t190 (wrap64 ((rd x7_2 (rd x9_2 (ji25))) - t189)) t195 (t195.length : Int) 0 a0_0 l0_1 l0_2) = some (r1, r2) := H; have A44 := Aside0.mk A440; clear A440; have H' := Aside0.mk H; clear H; have p194 : 0 ≤ ((rd x9_2 (ji25)) : Int) := of_decide_eq_true (by first | (with_reducible assumption) | assumption); have q194 : (rd x9_2 (ji25)) < (((rd_T42 l0_2 a1).f3).length : Int) := of_decide_eq_true (by first | (with_reducible assumption) | assumption); obtain ⟨ad194, e194, hx194_0, hx194_1⟩ := at_T46 HR175_3.out (rd x9_2 (ji25)) p194 q194; obtain rfl : ad188 = ad194 := (by injection e194); replace hx194_0 := (HB.out.cell (World.block_lt_of_cell? w _ hx194_0)).trans hx194_0; replace hx194_1 := (HB.out.cell (World.block_lt_of_cell? w _ hx194_1)).trans hx194_1; replace p194 := eq_true p194; replace q194 := eq_true q194
              go_wp2_with (first | ((with_reducible refine gate_callee (f := 30) rfl ?_); refine goesL_ (some 94) rfl rfl Try.func30 (by kernel_rfl) rfl #[.int .i64 (rd x9_2 (ji25)), .agg #[.int .i64 ((rd_T46 ((rd_T42 l0_2 a1).f3) (rd x9_2 (ji25))).f0), .int .i64 ((rd_T46 ((rd_T42 l0_2 a1).f3) (rd x9_2 (ji25))).f1)]] rfl (by (try simp only [List.map_toArray, List.map_cons, List.map_nil]); first | done | (simp only [hji25]; rfl) | rfl | (simp only [List.length_drop, List.length_take]; rfl)) ?_; (with_reducible refine (check_next.calls kj32 (rd x9_2 (ji25)) ((rd_T46 ((rd_T42 l0_2 a1).f3) (rd x9_2 (ji25))).f0) ((rd_T46 ((rd_T42 l0_2 a1).f3) (rd x9_2 (ji25))).f1) t195 _ A44.out).mono ?_); rintro e w45 ⟨v196, rfl, ho0, hb⟩; refine ⟨_, rfl, ?_⟩; have n0_ := Aside0.mk (Kd.R_elder' (rnR HO_7) (Kd.R_base ho0) hb); have n1_ := Aside0.mk (Kd.R_elder' (rnR HO_9) (Kd.R_base ho0) hb); have HO197 := Aside0.mk (Kd.R_lower (Kd.R_new' (Kd.R_new' ho0 (Kd.R_lt (rnR HO_7))) (Kd.R_lt (rnR HO_9))) (below_size (bn1 HB GE174))); replace BK174 := Aside0.mk (blk_below (g := gb174) (o := .cells #[.int .i64 a0_0, .slice A0_1 l0_1.length c0_1, .slice (some ad175) l0_2.length c0_2] 25 (0, 0)) (bkn BK174) hb); replace HB := Aside0.mk (below_step (bn1 HB GE174) hb); replace HO_7 := n0_; replace HO_9 := n1_; clear n0_ n1_; (try clear hb); (try clear ho0); obtain ⟨Ao46, co46, eo46⟩ := Kd.R_slice HO197.out; subst eo46))
              go_loopg [9, 96] kj32 (fun kq v9 v96 w' => ∃ (x7_4 : List Int) (x9_4 : List Int) (x96_4 : Int), v96 = .int .i64 x96_4 ∧ Aside0 (check_heights.l2 kq a1 ((rd_T42 l0_2 a1).f3) x7_4 x9_4 t190 (wrap64 ((rd x7_2 (rd x9_2 (ji25))) - t189)) t195 (t195.length : Int) x96_4 a0_0 l0_1 l0_2 = some (r1, r2)) ∧ Aside0 (kq ≤ kj32) ∧ Aside0 (Kd.R (Kd.int .i64) 3 w' w.heap.size (fun k_ => some k_ ≠ (v9 : Value).ownBlock ∧ some k_ ≠ ((.slice Ao46 t195.length co46) : Value).ownBlock) (.slice (some ⟨go19, 0, none⟩) x7_2.length co11) x7_4) ∧ Aside0 (Kd.R (Kd.int .i64) 3 w' w.heap.size (fun k_ => some k_ ≠ ((.slice (some ⟨go19, 0, none⟩) x7_2.length co11) : Value).ownBlock ∧ some k_ ≠ ((.slice Ao46 t195.length co46) : Value).ownBlock) v9 x9_4) ∧ Aside0 (Kd.R (Kd.int .i64) 3 w' w.heap.size (fun k_ => some k_ ≠ ((.slice (some ⟨go19, 0, none⟩) x7_2.length co11) : Value).ownBlock ∧ some k_ ≠ (v9 : Value).ownBlock) (.slice Ao46 t195.length co46) t195) ∧ Aside0 (w'.heap[gb174]? = some (.cells #[.int .i64 a0_0, (.slice A0_1 l0_1.length c0_1), (.slice (some ad175) l0_2.length c0_2)] 25 (0, 0))) ∧ Aside0 (Below w.heap.size w w'))
              case atStart => exact ⟨(x7_2), (y185), (0), (by first | rfl | (simp; done) | (simp [*]; done)), H', ⟨Nat.le_refl _⟩, ⟨by (try simp only [hl7_1]); (try simp only [hl7_2]); (with_reducible repeat (first | apply Kd.R_alloc | apply Kd.R_drewN | apply Kd.R_drew)); exact HO_7.out⟩, ⟨by (try simp only [hl7_1]); (try simp only [hl7_2]); (with_reducible repeat (first | apply Kd.R_alloc | apply Kd.R_drewN | apply Kd.R_drew)); exact HO_9.out⟩, ⟨by (try simp only [hl7_1]); (try simp only [hl7_2]); (with_reducible repeat (first | apply Kd.R_alloc | apply Kd.R_drewN | apply Kd.R_drew)); exact Kd.R_mono HO197.out (fun _ hk => ⟨hk.1.2, hk.2⟩)⟩, ⟨by (try simp only [hl7_1]); (try simp only [hl7_2]); (with_reducible repeat (first | refine blk_drewN ?_ _ | refine blk_drew ?_ | refine blk_alloc ?_ _)); exact BK174.out⟩, ⟨bn1 HB GE174⟩⟩
              case round =>
                clear H'
                try clear c1
                try clear p1
                try clear q1
                try clear hx1
                try clear qi1
                try clear c2
                try clear p2
                try clear c3
                try clear c3b0
                try clear q3
                try clear c4
                try clear c4b0
                try clear c5
                try clear c5b0
                try clear c5b1
                try clear c6
                try clear c6b0
                try clear c6b1
                try clear p6
                try clear c12
                try clear c12b0
                try clear c13
                try clear c13b0
                try clear c14
                try clear c14b0
                try clear p15
                try clear q15
                try clear hx15
                try clear hf15
                try clear c17
                try clear p17
                try clear q17
                try clear hx17
                try clear c18
                try clear c18b0
                try clear c18b1
                try clear p18
                try clear q18
                try clear hx18
                try clear p19
                try clear q19
                try clear hx19
                try clear qi19
                try clear hf19
                try clear c21
                try clear c24
                try clear c24b0
                try clear c24b1
                try clear c26
                try clear c26b0
                try clear c27
                try clear c27b0
                try clear c28
                try clear c28b0
                try clear c28b1
                try clear c29
                try clear c29b0
                try clear c30
                try clear c30b0
                try clear c32
                try clear c32b0
                try clear q35
                try clear c38
                try clear c38b0
                try clear c39
                try clear c39b0
                try clear c40
                try clear c40b0
                try clear c40b1
                try clear c41
                try clear c42
                try clear c42b0
                try clear c43
                try clear c43b0
                try clear hcz8_0
                try clear hcz8_1
                try clear hcz8_2
                try clear hfz8_0
                try clear hfz8_1
                try clear hfz8_2
                try clear hx15_0
                try clear hx175_0
                try clear hx175_1
                try clear hx175_2
                try clear hx175_3
                try clear hx184_0
                try clear hx188_0
                try clear hx188_1
                try clear hx192_0
                try clear hx193_0
                try clear hx193_1
                try clear hx194_0
                try clear hx194_1
                try clear hx19_0
                try clear p1
                try clear p15
                try clear p17
                try clear p175
                try clear p18
                try clear p184
                try clear p188
                try clear p19
                try clear p192
                try clear p193
                try clear p194
                try clear p2
                try clear p6
                try clear q1
                try clear q15
                try clear q17
                try clear q175
                try clear q18
                try clear q184
                try clear q188
                try clear q19
                try clear q192
                try clear q193
                try clear q194
                try clear q3
                try clear q35
                obtain ⟨x7_4, x9_4, x96_4, rfl, HA, HK4, HO_7, HO_9, HO_94, BK174, HB⟩ := hrel; have hl7_4 := (Kd.R_reads' HO_7.out).1; rw [hl7_4] at HO_7
                (try simp only [hl7_4])
                (try simp only [hl7_4] at BK174)
                (try simp only [hl7_4] at HO_9)
                (try simp only [hl7_4] at HO_94)
                cases gk with
                | zero => exact absurd HA.out (by simp [check_heights.l2])
                | succ k4 => ?_
                have H := HA.out; clear HA; simp only [check_heights.l2] at H
                by_cases c47 : x96_4 < (t195.length : Int)
                · rw [if_pos c47] at H
                  have c47b0 : decide (x96_4 < (t195.length : Int)) = true := decide_eq_true c47; clear c47
                  (try simp only [hl7_1, hl7_2, hl7_4] at c47b0)
                  by_cases c48 : 0 ≤ x96_4
                  case neg => rw [if_neg c48] at H; exact absurd H (by simp)
                  rw [if_pos c48] at H; have c48b0 : decide (0 ≤ x96_4) = true := decide_eq_true c48; clear c48
                  by_cases c49 : x96_4 < (t195.length : Int)
                  case neg => rw [if_neg c49] at H; exact absurd H (by simp)
                  rw [if_pos c49] at H; have c49b0 : decide (x96_4 < (t195.length : Int)) = true := decide_eq_true c49; clear c49
                  (try simp only [hl7_1, hl7_2, hl7_4] at c49b0)
                  have HC50 := Aside0.mk H; clear H; have p198 : 0 ≤ (x96_4 : Int) := of_decide_eq_true (by first | (with_reducible assumption) | assumption); have q198 : x96_4 < (t195.length : Int) := of_decide_eq_true (by first | (with_reducible assumption) | assumption); obtain ⟨ad198, e198, hx198_0⟩ := Kd.at_int (Kd.R_reads' HO_94.out).2.2 x96_4 p198 q198
                  cases e198
                  replace p198 := eq_true p198; replace q198 := eq_true q198
                  go_upto_region 20 with (fail)
                  go_cut [100] (fun v100 wc => ∃ (kq : Nat) (x100_49 : Bool), v100 = .bool x100_49 ∧ Aside0 (check_heights.j4 kq a1 ((rd_T42 l0_2 a1).f3) x7_4 x9_4 t190 (wrap64 ((rd x7_2 (rd x9_2 (ji25))) - t189)) (rd t195 x96_4) t195 (t195.length : Int) x96_4 x100_49 a0_0 l0_1 l0_2 = some (r1, r2)) ∧ Aside0 (kq ≤ k4) ∧ Aside0 (Kd.R (Kd.int .i64) 3 wc w.heap.size (fun k_ => some k_ ≠ (u9 : Value).ownBlock ∧ some k_ ≠ ((.slice (some ad198) t195.length co46) : Value).ownBlock) (.slice (some ⟨go19, 0, none⟩) x7_4.length co11) x7_4) ∧ Aside0 (Kd.R (Kd.int .i64) 3 wc w.heap.size (fun k_ => some k_ ≠ ((.slice (some ⟨go19, 0, none⟩) x7_4.length co11) : Value).ownBlock ∧ some k_ ≠ ((.slice (some ad198) t195.length co46) : Value).ownBlock) u9 x9_4) ∧ Aside0 (Kd.R (Kd.int .i64) 3 wc w.heap.size (fun k_ => some k_ ≠ ((.slice (some ⟨go19, 0, none⟩) x7_4.length co11) : Value).ownBlock ∧ some k_ ≠ (u9 : Value).ownBlock) (.slice (some ad198) t195.length co46) t195) ∧ Aside0 (wc.heap[gb174]? = some (.cells #[.int .i64 a0_0, (.slice A0_1 l0_1.length c0_1), (.slice (some ad175) l0_2.length c0_2)] 25 (0, 0))) ∧ Aside0 (Below w.heap.size w wc))
                  case first =>
                    have H := HC50.out; clear HC50
                    by_cases c51 : (rd t195 x96_4) = (((rd_T42 l0_2 a1).f3).length : Int)
                    · rw [if_pos c51] at H
                      have c51b0 : ((rd t195 x96_4) == (((rd_T42 l0_2 a1).f3).length : Int)) = true := beq_iff_eq.mpr c51; have c51b1 : ((rd t195 x96_4) != (((rd_T42 l0_2 a1).f3).length : Int)) = false := bne_eq_false_iff_eq.mpr c51; clear c51
                      (try simp only [hl7_1, hl7_2, hl7_4] at c51b0)
                      (try simp only [hl7_1, hl7_2, hl7_4] at c51b1)
                      (first | rw [c51b0] | (simp only [i64_w, i32_w]; rw [c51b0]) | skip)
                      have H' := Aside0.mk H; clear H
                      go_wp2
                      go_meet
                      case rel => exact ⟨_, (true), (by first | rfl | (simp; done) | (simp [*]; done)), H', ⟨by have := HK1.out; have := HK2.out; have := HJ32.out; have := HK4.out; first | omega | exact Nat.le_refl _⟩, ⟨by (try simp only [hl7_1]); (try simp only [hl7_2]); (try simp only [hl7_4]); (with_reducible repeat (first | apply Kd.R_alloc | apply Kd.R_drewN | apply Kd.R_drew)); exact HO_7.out⟩, ⟨by (try simp only [hl7_1]); (try simp only [hl7_2]); (try simp only [hl7_4]); (with_reducible repeat (first | apply Kd.R_alloc | apply Kd.R_drewN | apply Kd.R_drew)); exact HO_9.out⟩, ⟨by (try simp only [hl7_1]); (try simp only [hl7_2]); (try simp only [hl7_4]); (with_reducible repeat (first | apply Kd.R_alloc | apply Kd.R_drewN | apply Kd.R_drew)); exact HO_94.out⟩, ⟨by (try simp only [hl7_1]); (try simp only [hl7_2]); (try simp only [hl7_4]); (with_reducible repeat (first | refine blk_drewN ?_ _ | refine blk_drew ?_ | refine blk_alloc ?_ _)); exact BK174.out⟩, ⟨bn1 HB GE174⟩⟩
                    · rw [if_neg c51] at H
                      have c51b0 : ((rd t195 x96_4) == (((rd_T42 l0_2 a1).f3).length : Int)) = false := beq_eq_false_iff_ne.mpr c51; have c51b1 : ((rd t195 x96_4) != (((rd_T42 l0_2 a1).f3).length : Int)) = true := bne_iff_ne.mpr c51
                      (try simp only [hl7_1, hl7_2, hl7_4] at c51b0)
                      (try simp only [hl7_1, hl7_2, hl7_4] at c51b1)
                      (first | rw [c51b0] | (simp only [i64_w, i32_w]; rw [c51b0]) | skip)
                      by_cases c52 : 0 ≤ (rd t195 x96_4)
                      case neg => rw [if_neg c52] at H; exact absurd H (by simp)
                      rw [if_pos c52] at H; have c52b0 : decide (0 ≤ (rd t195 x96_4)) = true := decide_eq_true c52; clear c52
                      by_cases c53 : (rd t195 x96_4) < (x7_4.length : Int)
                      case neg => rw [if_neg c53] at H; exact absurd H (by simp)
                      rw [if_pos c53] at H; have c53b0 : decide ((rd t195 x96_4) < (x7_4.length : Int)) = true := decide_eq_true c53; clear c53
                      (try simp only [hl7_1, hl7_2, hl7_4] at c53b0)
                      by_cases c54 : (rd x7_4 (rd t195 x96_4)) ≥ 0
                      · rw [if_pos c54] at H
                        have c54b0 : decide (0 ≤ (rd x7_4 (rd t195 x96_4))) = true := decide_eq_true c54; clear c54; have H' := Aside0.mk H; clear H; have p199 : 0 ≤ ((rd t195 x96_4) : Int) := of_decide_eq_true (by first | (with_reducible assumption) | assumption); have q199 : (rd t195 x96_4) < (x7_4.length : Int) := of_decide_eq_true (by first | (with_reducible assumption) | assumption); obtain ⟨ad199, e199, hx199_0⟩ := Kd.at_int (Kd.R_reads' HO_7.out).2.2 (rd t195 x96_4) p199 q199; obtain rfl : (⟨go19, 0, none⟩ : Addr) = ad199 := (by injection e199)
                        (first | simp only [add_plain] at hx199_0 | simp only [add_at] at hx199_0 | simp only [Addr.add, Nat.zero_add] at hx199_0 | skip)
                        replace p199 := eq_true p199; replace q199 := eq_true q199; have p200 : 0 ≤ ((rd t195 x96_4) : Int) := of_decide_eq_true (by first | (with_reducible assumption) | assumption); have q200 : (rd t195 x96_4) < (x7_4.length : Int) := of_decide_eq_true (by first | (with_reducible assumption) | assumption); obtain ⟨ad200, e200, hx200_0⟩ := Kd.at_int (Kd.R_reads' HO_7.out).2.2 (rd t195 x96_4) p200 q200; obtain rfl : (⟨go19, 0, none⟩ : Addr) = ad200 := (by injection e200)
                        (first | simp only [add_plain] at hx200_0 | simp only [add_at] at hx200_0 | simp only [Addr.add, Nat.zero_add] at hx200_0 | skip)
                        replace p200 := eq_true p200; replace q200 := eq_true q200
                        go_wp2
                        go_meet
                        case rel => exact ⟨_, (((rd x7_4 (rd t195 x96_4)) != (wrap64 ((wrap64 ((rd x7_2 (rd x9_2 (ji25))) - t189)) + t190)))), (by first | rfl | (simp; done) | (simp only [← hji25] <;> (first | rfl | simp)) | (simp [*]; done)), H', ⟨by have := HK1.out; have := HK2.out; have := HJ32.out; have := HK4.out; first | omega | exact Nat.le_refl _⟩, ⟨by (try simp only [hl7_1]); (try simp only [hl7_2]); (try simp only [hl7_4]); (with_reducible repeat (first | apply Kd.R_alloc | apply Kd.R_drewN | apply Kd.R_drew)); exact HO_7.out⟩, ⟨by (try simp only [hl7_1]); (try simp only [hl7_2]); (try simp only [hl7_4]); (with_reducible repeat (first | apply Kd.R_alloc | apply Kd.R_drewN | apply Kd.R_drew)); exact HO_9.out⟩, ⟨by (try simp only [hl7_1]); (try simp only [hl7_2]); (try simp only [hl7_4]); (with_reducible repeat (first | apply Kd.R_alloc | apply Kd.R_drewN | apply Kd.R_drew)); exact HO_94.out⟩, ⟨by (try simp only [hl7_1]); (try simp only [hl7_2]); (try simp only [hl7_4]); (with_reducible repeat (first | refine blk_drewN ?_ _ | refine blk_drew ?_ | refine blk_alloc ?_ _)); exact BK174.out⟩, ⟨bn1 HB GE174⟩⟩
                      · rw [if_neg c54] at H
                        have c54b0 : decide (0 ≤ (rd x7_4 (rd t195 x96_4))) = false := decide_eq_false c54; clear c54; have H' := Aside0.mk H; clear H; have p199 : 0 ≤ ((rd t195 x96_4) : Int) := of_decide_eq_true (by first | (with_reducible assumption) | assumption); have q199 : (rd t195 x96_4) < (x7_4.length : Int) := of_decide_eq_true (by first | (with_reducible assumption) | assumption); obtain ⟨ad199, e199, hx199_0⟩ := Kd.at_int (Kd.R_reads' HO_7.out).2.2 (rd t195 x96_4) p199 q199; obtain rfl : (⟨go19, 0, none⟩ : Addr) = ad199 := (by injection e199)
                        (first | simp only [add_plain] at hx199_0 | simp only [add_at] at hx199_0 | simp only [Addr.add, Nat.zero_add] at hx199_0 | skip)
                        replace p199 := eq_true p199; replace q199 := eq_true q199
                        go_wp2
                        go_meet
                        case rel => exact ⟨_, (false), (by first | rfl | (simp; done) | (simp [*]; done)), H', ⟨by have := HK1.out; have := HK2.out; have := HJ32.out; have := HK4.out; first | omega | exact Nat.le_refl _⟩, ⟨by (try simp only [hl7_1]); (try simp only [hl7_2]); (try simp only [hl7_4]); (with_reducible repeat (first | apply Kd.R_alloc | apply Kd.R_drewN | apply Kd.R_drew)); exact HO_7.out⟩, ⟨by (try simp only [hl7_1]); (try simp only [hl7_2]); (try simp only [hl7_4]); (with_reducible repeat (first | apply Kd.R_alloc | apply Kd.R_drewN | apply Kd.R_drew)); exact HO_9.out⟩, ⟨by (try simp only [hl7_1]); (try simp only [hl7_2]); (try simp only [hl7_4]); (with_reducible repeat (first | apply Kd.R_alloc | apply Kd.R_drewN | apply Kd.R_drew)); exact HO_94.out⟩, ⟨by (try simp only [hl7_1]); (try simp only [hl7_2]); (try simp only [hl7_4]); (with_reducible repeat (first | refine blk_drewN ?_ _ | refine blk_drew ?_ | refine blk_alloc ?_ _)); exact BK174.out⟩, ⟨bn1 HB GE174⟩⟩
                  case rest =>
                    clear HC50
                    try clear c1
                    try clear p1
                    try clear q1
                    try clear hx1
                    try clear qi1
                    try clear c2
                    try clear p2
                    try clear q2
                    try clear hx2
                    try clear c3
                    try clear c3b0
                    try clear q3
                    try clear c4
                    try clear c4b0
                    try clear c5
                    try clear c5b0
                    try clear c5b1
                    try clear c6
                    try clear c6b0
                    try clear c6b1
                    try clear p6
                    try clear c12
                    try clear c12b0
                    try clear c13
                    try clear c13b0
                    try clear c14
                    try clear c14b0
                    try clear p15
                    try clear q15
                    try clear hx15
                    try clear hf15
                    try clear c17
                    try clear p17
                    try clear q17
                    try clear hx17
                    try clear c18
                    try clear c18b0
                    try clear c18b1
                    try clear p18
                    try clear q18
                    try clear hx18
                    try clear p19
                    try clear q19
                    try clear hx19
                    try clear qi19
                    try clear hf19
                    try clear p20
                    try clear q20
                    try clear hx20
                    try clear c21
                    try clear c24
                    try clear c24b0
                    try clear c24b1
                    try clear c26
                    try clear c26b0
                    try clear c27
                    try clear c27b0
                    try clear c28
                    try clear c28b0
                    try clear c28b1
                    try clear c29
                    try clear c29b0
                    try clear c30
                    try clear c30b0
                    try clear c32
                    try clear c32b0
                    try clear q35
                    try clear c38
                    try clear c38b0
                    try clear c39
                    try clear c39b0
                    try clear c40
                    try clear c40b0
                    try clear c40b1
                    try clear c41
                    try clear c42
                    try clear c42b0
                    try clear c43
                    try clear c43b0
                    try clear c47
                    try clear c47b0
                    try clear c48
                    try clear c48b0
                    try clear c49
                    try clear c49b0
                    try clear c51
                    try clear c51b0
                    try clear c51b1
                    try clear c52
                    try clear c52b0
                    try clear c53
                    try clear c53b0
                    try clear c54
                    try clear c54b0
                    try clear hcz8_0
                    try clear hcz8_1
                    try clear hcz8_2
                    try clear hfz8_0
                    try clear hfz8_1
                    try clear hfz8_2
                    try clear hx15_0
                    try clear hx175_0
                    try clear hx175_1
                    try clear hx175_2
                    try clear hx175_3
                    try clear hx184_0
                    try clear hx188_0
                    try clear hx188_1
                    try clear hx192_0
                    try clear hx193_0
                    try clear hx193_1
                    try clear hx194_0
                    try clear hx194_1
                    try clear hx198_0
                    try clear hx199_0
                    try clear hx19_0
                    try clear hx200_0
                    try clear p1
                    try clear p15
                    try clear p17
                    try clear p175
                    try clear p18
                    try clear p184
                    try clear p188
                    try clear p19
                    try clear p192
                    try clear p193
                    try clear p194
                    try clear p198
                    try clear p199
                    try clear p2
                    try clear p200
                    try clear p6
                    try clear q1
                    try clear q15
                    try clear q17
                    try clear q175
                    try clear q18
                    try clear q184
                    try clear q188
                    try clear q19
                    try clear q192
                    try clear q193
                    try clear q194
                    try clear q198
                    try clear q199
                    try clear q200
                    try clear q3
                    try clear q35
                    obtain ⟨kq, x100_49, rfl, HA, HJ49, HO_7, HO_9, HO_94, BK174, HB⟩ := hcut
                    cases kq with
                    | zero => exact absurd HA.out (by simp [check_heights.j4])
                    | succ kj49 => ?_
                    have H := HA.out; clear HA; simp only [check_heights.j4] at H
                    by_cases c55 : x100_49 = true
                    · subst c55
                      have H1 : (some (([] : List Int), false)) = some (r1, r2) := by rw [if_pos rfl] at H; exact H
                      clear H; have H := H1; clear H1; simp only [Option.some.injEq, Prod.mk.injEq] at H; obtain ⟨rfl, rfl⟩ := H
                      go_wp2
                      go_ret2
                      exact ⟨_, by first | rfl | (simp [errW_none, errW_some] <;> rfl) | (simp only [← hji25]; first | rfl | (simp [errW_none, errW_some] <;> rfl)) | (simp [*, errW_none, errW_some] <;> rfl), by first | exact Kd.R_nil _ _ _ _ _ | exact Kd.N_nil _ _ _ _ _ | exact Kd.V_nil _ _ _ _ _ | exact Kd.Q_nil _ _ _ _ _ | exact Kd.S_nil _ _ _ _ _, bn1 HB GE174⟩
                    · replace c55 := Bool.eq_false_iff.mpr c55
                      subst c55
                      have H1 : (if 0 ≤ (rd t195 x96_4) then (if (rd t195 x96_4) < (x7_4.length : Int) then (if (rd x7_4 (rd t195 x96_4)) < 0 then (if x9_4.length < 17592186044416 then (check_heights.l2 kj49 a1 ((rd_T42 l0_2 a1).f3) (x7_4.set ((rd t195 x96_4) : Int).toNat (wrap64 ((wrap64 ((rd x7_2 (rd x9_2 (ji25))) - t189)) + t190))) (x9_4 ++ [(rd t195 x96_4)]) t190 (wrap64 ((rd x7_2 (rd x9_2 (ji25))) - t189)) t195 (t195.length : Int) (wrap64 (x96_4 + 1)) a0_0 l0_1 l0_2) else (none)) else (check_heights.l2 kj49 a1 ((rd_T42 l0_2 a1).f3) x7_4 x9_4 t190 (wrap64 ((rd x7_2 (rd x9_2 (ji25))) - t189)) t195 (t195.length : Int) (wrap64 (x96_4 + 1)) a0_0 l0_1 l0_2)) else (none)) else (none)) = some (r1, r2) := by rw [if_neg (show ¬ (false = true) by decide)] at H; exact H
                      clear H; have H := H1; clear H1
                      by_cases c56 : 0 ≤ (rd t195 x96_4)
                      case neg => rw [if_neg c56] at H; exact absurd H (by simp)
                      rw [if_pos c56] at H; have c56b0 : decide (0 ≤ (rd t195 x96_4)) = true := decide_eq_true c56; clear c56
                      by_cases c57 : (rd t195 x96_4) < (x7_4.length : Int)
                      case neg => rw [if_neg c57] at H; exact absurd H (by simp)
                      rw [if_pos c57] at H; have c57b0 : decide ((rd t195 x96_4) < (x7_4.length : Int)) = true := decide_eq_true c57; clear c57
                      (try simp only [hl7_1, hl7_2, hl7_4] at c57b0)
                      by_cases c58 : (rd x7_4 (rd t195 x96_4)) < 0
                      · rw [if_pos c58] at H
                        have c58b0 : decide ((rd x7_4 (rd t195 x96_4)) < 0) = true := decide_eq_true c58; clear c58; obtain ⟨y202, hy202⟩ : ∃ y_ : List Int, y_ = (x7_4.set ((rd t195 x96_4) : Int).toNat (wrap64 ((wrap64 ((rd x7_2 (rd x9_2 (ji25))) - t189)) + t190))) := ⟨_, rfl⟩
                        replace H : (if x9_4.length < 17592186044416 then (check_heights.l2 kj49 a1 ((rd_T42 l0_2 a1).f3) y202 (x9_4 ++ [(rd t195 x96_4)]) t190 (wrap64 ((rd x7_2 (rd x9_2 (ji25))) - t189)) t195 (t195.length : Int) (wrap64 (x96_4 + 1)) a0_0 l0_1 l0_2) else (none)) = some (r1, r2) := by first | (rw [hy202]; with_reducible exact H) | (have H2_ := (Option.bind_some _ _).symm.trans H; rw [hy202]; with_reducible exact H2_) | (have H2_ := (Option.bind_some _ _).symm.trans H; with_reducible exact H2_) | with_reducible exact H | (rw [hy202]; exact H) | exact H
                        have Ny202 := Aside0.mk hy202; clear hy202
                        by_cases c60 : x9_4.length < 17592186044416
                        case neg => rw [if_neg c60] at H; exact absurd H (by simp)
                        rw [if_pos c60] at H; have LMc60 := Aside0.mk c60; clear c60; obtain ⟨y203, hy203⟩ : ∃ y_ : List Int, y_ = (x9_4 ++ [(rd t195 x96_4)]) := ⟨_, rfl⟩
                        replace H : (check_heights.l2 kj49 a1 ((rd_T42 l0_2 a1).f3) y202 y203 t190 (wrap64 ((rd x7_2 (rd x9_2 (ji25))) - t189)) t195 (t195.length : Int) (wrap64 (x96_4 + 1)) a0_0 l0_1 l0_2) = some (r1, r2) := by first | (rw [hy203]; with_reducible exact H) | (have H2_ := (Option.bind_some _ _).symm.trans H; rw [hy203]; with_reducible exact H2_) | (have H2_ := (Option.bind_some _ _).symm.trans H; with_reducible exact H2_) | with_reducible exact H | (rw [hy203]; exact H) | exact H
                        have Ny203 := Aside0.mk hy203; clear hy203; have H' := Aside0.mk H; clear H; have p201 : 0 ≤ ((rd t195 x96_4) : Int) := of_decide_eq_true (by first | (with_reducible assumption) | assumption); have q201 : (rd t195 x96_4) < (x7_4.length : Int) := of_decide_eq_true (by first | (with_reducible assumption) | assumption); obtain ⟨ad201, e201, hx201_0⟩ := Kd.at_int (Kd.R_reads' HO_7.out).2.2 (rd t195 x96_4) p201 q201; obtain rfl : (⟨go19, 0, none⟩ : Addr) = ad201 := (by injection e201)
                        (first | simp only [add_plain] at hx201_0 | simp only [add_at] at hx201_0 | simp only [Addr.add, Nat.zero_add] at hx201_0 | skip)
                        replace p201 := eq_true p201; replace q201 := eq_true q201; have p59 : 0 ≤ ((rd t195 x96_4) : Int) := of_decide_eq_true (by first | (with_reducible assumption) | assumption); have q59 : ((rd t195 x96_4) : Int) < ((x7_4.length : Int) : Int) := of_decide_eq_true (by first | (with_reducible assumption) | assumption); obtain ⟨hx59_0, hf59_0⟩ := Kd.R_celln 0 HO_7.out ((rd t195 x96_4) : Int) p59 q59; replace p59 := eq_true p59; replace q59 := eq_true q59; have HP61 := Kd.R_putg HO_7.out ((rd t195 x96_4) : Int) (wrap64 ((wrap64 ((rd x7_2 (rd x9_2 (ji25))) - t189)) + t190))
                        go_wp2_with (first | ((with_reducible refine gate_store (t := 3) (p := 133) rfl ?_); refine store_event (t := 3) (p := 133) (v := ?vo_w62) (w1 := (wc.setCell ⟨go19, ((rd t195 x96_4) : Int).toNat, none⟩ (.int .i64 (wrap64 ((wrap64 ((rd x7_2 (rd x9_2 (ji25))) - t189)) + t190))))) ?hg ?ho ?hn ?hr ?_; (case ho => rfl); (case hg => rfl); (case hn => rfl); (case hr => first | (go_simp; done) | (go_simp; rfl)); intro w62 hw; have hg : wc.grownBy w62 (some go19) := (by rw [hw]; exact HP61.2); have hp_ : Kd.R (Kd.int .i64) 3 w62 w.heap.size (fun k_ => some k_ ≠ (u9 : Value).ownBlock ∧ some k_ ≠ (.slice (some ad198) t195.length co46 : Value).ownBlock) (.slice (some ⟨go19, 0, none⟩) x7_4.length co11) y202 := (by rw [hw, Ny202.out]; exact HP61.1); clear HP61; have n0_ := Aside0.mk (hp_); replace HO_9 := Aside0.mk (Kd.R_after (v := (.slice (some ⟨go19, 0, none⟩) x7_4.length co11)) (v1 := (.slice (some ⟨go19, 0, none⟩) x7_4.length co11)) (ok := (fun k_ => some k_ ≠ (.slice (some ad198) t195.length co46 : Value).ownBlock)) (by (with_reducible repeat (first | apply Kd.R_alloc | apply Kd.R_drewN | apply Kd.R_drew)); exact Kd.R_mono HO_9.out (fun _ hk => ⟨hk.2, hk.1⟩)) hg (.inl rfl)); replace HO_94 := Aside0.mk (Kd.R_after (v := (.slice (some ⟨go19, 0, none⟩) x7_4.length co11)) (v1 := (.slice (some ⟨go19, 0, none⟩) x7_4.length co11)) (ok := (fun k_ => some k_ ≠ (u9 : Value).ownBlock)) (by (with_reducible repeat (first | apply Kd.R_alloc | apply Kd.R_drewN | apply Kd.R_drew)); exact Kd.R_mono HO_94.out (fun _ hk => ⟨hk.2, hk.1⟩)) hg (.inl rfl)); replace BK174 := Aside0.mk (blk_grown (g := gb174) (o := .cells #[.int .i64 a0_0, .slice A0_1 l0_1.length c0_1, .slice (some ad175) l0_2.length c0_2] 25 (0, 0)) (bkn BK174) hg (Kd.R_ne HO_7.out BK174.out (by decide))); replace HB := Aside0.mk ((by rw [hw]; exact below_set (HB.out) GB19.out : Below w.heap.size w w62)); replace HO_7 := n0_; clear n0_; clear hg hw hp_) | ((with_reducible refine gate_builtin (b := .append) (xs := #[.tmp 134, .tmp 136]) rfl ?_); at_builtin; refine Kd.R_append (Kd.int .i64) (w0 := w) w.heap.size rfl (.tmp 134) (.tmp 136) 34 3 (.int .i64 0) 8 rfl Try.underlying34 info3 rfl (by decide) (by omega) u9 x9_4 (rd t195 x96_4) [.int .i64 (rd t195 x96_4)] (fun k_ => some k_ ≠ (.slice (some ⟨go19, 0, none⟩) x7_4.length co11 : Value).ownBlock ∧ some k_ ≠ (.slice (some ad198) t195.length co46 : Value).ownBlock) (fun _ => False) rfl rfl ?aP (fun _ hk => hk.elim) ?aF ?aO ?aB ?aS ?aL ?_; (case aP => exact rfl); (case aB => exact (bn1 HB GE174)); (case aF => exact (fun k_ hk => ⟨Kd.fresh' (Kd.R_lt (rnR HO_7)) k_ hk, Kd.fresh' (Kd.R_lt (rnR HO_94)) k_ hk⟩)); (case aO => exact (by (with_reducible repeat (first | apply Kd.R_alloc | apply Kd.R_drewN | apply Kd.R_drew)); exact Kd.R_mono HO_9.out (fun _ hk => ⟨hk.2, hk.1⟩))); (case aS => exact (below_size (bn1 HB GE174))); (case aL => have := LMc60.out; omega); intro v204 w63 ho hb hg hat; rw [← Ny203.out] at ho; replace HO_7 := Aside0.mk (Kd.R_after (ok := (fun k_ => some k_ ≠ (.slice (some ad198) t195.length co46 : Value).ownBlock)) (by (with_reducible repeat (first | apply Kd.R_alloc | apply Kd.R_drewN | apply Kd.R_drew)); exact Kd.R_mono HO_7.out (fun _ hk => ⟨hk.2, hk.1⟩)) hg hat); replace HO_94 := Aside0.mk (Kd.R_after (ok := (fun k_ => some k_ ≠ (.slice (some ⟨go19, 0, none⟩) x7_4.length co11 : Value).ownBlock)) (by (with_reducible repeat (first | apply Kd.R_alloc | apply Kd.R_drewN | apply Kd.R_drew)); exact Kd.R_mono HO_94.out (fun _ hk => ⟨hk.2, hk.1⟩)) hg hat); replace BK174 := Aside0.mk (blk_grown (g := gb174) (o := .cells #[.int .i64 a0_0, .slice A0_1 l0_1.length c0_1, .slice (some ad175) l0_2.length c0_2] 25 (0, 0)) (bkn BK174) hg (Kd.R_ne HO_9.out BK174.out (by decide))); replace HB := Aside0.mk (hb); have HO205 := Aside0.mk (ho); clear HO_9; clear ho hb hg hat))
                        (try simp only [← hl7_4])
                        go_roundg kj49
                        case measure => have := HK1.out; have := HK2.out; have := HJ32.out; have := HK4.out; have := HJ49.out; omega
                        case rel => exact ⟨(y202), (y203), (wrap64 (x96_4 + 1)), (by first | rfl | (simp; done) | (simp [*]; done)), H', ⟨by have := HK1.out; have := HK2.out; have := HJ32.out; have := HK4.out; have := HJ49.out; omega⟩, ⟨by (try simp only [hl7_1]); (try simp only [hl7_2]); (try simp only [hl7_4]); (with_reducible repeat (first | apply Kd.R_alloc | apply Kd.R_drewN | apply Kd.R_drew)); exact Kd.R_mono HO_7.out (fun _ hk => ⟨hk.2, hk.1⟩)⟩, ⟨by (try simp only [hl7_1]); (try simp only [hl7_2]); (try simp only [hl7_4]); (with_reducible repeat (first | apply Kd.R_alloc | apply Kd.R_drewN | apply Kd.R_drew)); exact HO205.out⟩, ⟨by (try simp only [hl7_1]); (try simp only [hl7_2]); (try simp only [hl7_4]); (with_reducible repeat (first | apply Kd.R_alloc | apply Kd.R_drewN | apply Kd.R_drew)); exact HO_94.out⟩, ⟨by (try simp only [hl7_1]); (try simp only [hl7_2]); (try simp only [hl7_4]); (with_reducible repeat (first | refine blk_drewN ?_ _ | refine blk_drew ?_ | refine blk_alloc ?_ _)); exact BK174.out⟩, ⟨bn1 HB GE174⟩⟩
                      · rw [if_neg c58] at H
                        have c58b0 : decide ((rd x7_4 (rd t195 x96_4)) < 0) = false := decide_eq_false c58; clear c58; have H' := Aside0.mk H; clear H; have p201 : 0 ≤ ((rd t195 x96_4) : Int) := of_decide_eq_true (by first | (with_reducible assumption) | assumption); have q201 : (rd t195 x96_4) < (x7_4.length : Int) := of_decide_eq_true (by first | (with_reducible assumption) | assumption); obtain ⟨ad201, e201, hx201_0⟩ := Kd.at_int (Kd.R_reads' HO_7.out).2.2 (rd t195 x96_4) p201 q201; obtain rfl : (⟨go19, 0, none⟩ : Addr) = ad201 := (by injection e201)
                        (first | simp only [add_plain] at hx201_0 | simp only [add_at] at hx201_0 | simp only [Addr.add, Nat.zero_add] at hx201_0 | skip)
                        replace p201 := eq_true p201; replace q201 := eq_true q201
                        go_wp2
                        (try simp only [← hl7_4])
                        go_roundg kj49
                        case measure => have := HK1.out; have := HK2.out; have := HJ32.out; have := HK4.out; have := HJ49.out; omega
                        case rel => exact ⟨(x7_4), (x9_4), (wrap64 (x96_4 + 1)), (by first | rfl | (simp; done) | (simp [*]; done)), H', ⟨by have := HK1.out; have := HK2.out; have := HJ32.out; have := HK4.out; have := HJ49.out; omega⟩, ⟨by (try simp only [hl7_1]); (try simp only [hl7_2]); (try simp only [hl7_4]); (with_reducible repeat (first | apply Kd.R_alloc | apply Kd.R_drewN | apply Kd.R_drew)); exact HO_7.out⟩, ⟨by (try simp only [hl7_1]); (try simp only [hl7_2]); (try simp only [hl7_4]); (with_reducible repeat (first | apply Kd.R_alloc | apply Kd.R_drewN | apply Kd.R_drew)); exact HO_9.out⟩, ⟨by (try simp only [hl7_1]); (try simp only [hl7_2]); (try simp only [hl7_4]); (with_reducible repeat (first | apply Kd.R_alloc | apply Kd.R_drewN | apply Kd.R_drew)); exact HO_94.out⟩, ⟨by (try simp only [hl7_1]); (try simp only [hl7_2]); (try simp only [hl7_4]); (with_reducible repeat (first | refine blk_drewN ?_ _ | refine blk_drew ?_ | refine blk_alloc ?_ _)); exact BK174.out⟩, ⟨bn1 HB GE174⟩⟩
                · rw [if_neg c47] at H
                  have c47b0 : decide (x96_4 < (t195.length : Int)) = false := decide_eq_false c47; clear c47
                  (try simp only [hl7_1, hl7_2, hl7_4] at c47b0)
                  have H' := Aside0.mk H; clear H
                  go_wp2
                  (try simp only [← hl7_2, ← hl7_4])
                  go_roundg k4
                  case measure => have := HK1.out; have := HK2.out; have := HJ32.out; have := HK4.out; omega
                  case rel => exact ⟨(x7_4), (x9_4), H', ⟨by have := HK1.out; have := HK2.out; have := HJ32.out; have := HK4.out; omega⟩, ⟨by (try simp only [hl7_1]); (try simp only [hl7_2]); (try simp only [hl7_4]); (with_reducible repeat (first | apply Kd.R_alloc | apply Kd.R_drewN | apply Kd.R_drew)); exact Kd.R_mono HO_7.out (fun _ hk => hk.1)⟩, ⟨by (try simp only [hl7_1]); (try simp only [hl7_2]); (try simp only [hl7_4]); (with_reducible repeat (first | apply Kd.R_alloc | apply Kd.R_drewN | apply Kd.R_drew)); exact Kd.R_mono HO_9.out (fun _ hk => hk.1)⟩, ⟨by (try simp only [hl7_1]); (try simp only [hl7_2]); (try simp only [hl7_4]); (with_reducible repeat (first | refine blk_drewN ?_ _ | refine blk_drew ?_ | refine blk_alloc ?_ _)); exact BK174.out⟩, ⟨bn1 HB GE174⟩⟩
        · rw [if_neg c24] at H
          have c24b0 : decide (0 < (x9_2.length : Int)) = false := decide_eq_false c24; have c24b1 : decide (0 < x9_2.length) = false := decide_eq_false (by omega); clear c24
          (try simp only [hl7_1, hl7_2] at c24b0)
          (try simp only [hl7_1, hl7_2] at c24b1)
          simp only [Option.some.injEq, Prod.mk.injEq] at H; obtain ⟨rfl, rfl⟩ := H; obtain ⟨Ao64, co64, eo64⟩ := Kd.R_slice HO_9.out; subst eo64
          go_wp2
          go_ret2
          exact ⟨_, by first | rfl | (simp [errW_none, errW_some] <;> rfl) | (simp [*, errW_none, errW_some] <;> rfl), by (with_reducible repeat (first | apply Kd.R_alloc | apply Kd.R_drewN | apply Kd.R_drew)); exact Kd.R_mono HO_7.out (fun _ hk => trivial), bn1 HB GE174⟩
end Go.Proofs.Ytgngbbkaghmnpaa.Q
