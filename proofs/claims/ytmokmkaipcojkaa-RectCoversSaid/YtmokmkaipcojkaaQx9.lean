-- written by a program of this session after the way of the kit's print; not the kit's own print. Lean checks it.
import Derived.Test.YtmokmkaipcojkaaQx0
import Derived.Test.YtmokmkaipcojkaaQx3
import Derived.Test.YtmokmkaipcojkaaQx4
import Derived.Test.YtmokmkaipcojkaaQx8
namespace Go.Proofs.Ytmokmkaipcojkaa.Q
open Go.RowKit Go.Proofs.YtmokmkaipcojkaaW.PrintWords Go.Proofs.YtmokmkaipcojkaaW.PrintLast Go.Proofs.YtmokmkaipcojkaaW.PrintMore
attribute [local go_sem] max2_int min2_int max_two min_two max_three min_three max_four min_four   -- for this text's walks alone
set_option linter.unusedVariables false
set_option linter.unusedSimpArgs false

/-! ### rect_Cover: function 14 -/
mutual
def rect_Cover.l0 : Nat → List (S26) → Int → List (S26) → Int → Int → Option (Int)
  | 0, _, _, _, _, _ => none
  | k + 1, x3, x4, x19, x20, x21 => if x21 < x20 then (if 0 ≤ x21 then (if x21 < (x19.length : Int) then ((rect_Clean.f ((rd_T26 x19 x21).f0) ((rd_T26 x19 x21).f1) ((rd_T26 x19 x21).f2) ((rd_T26 x19 x21).f3)).bind fun bt179 => (rect_Cover.l1 k x3 x4 (([(⟨bt179.1, bt179.2.1, bt179.2.2.1, bt179.2.2.2⟩ : S26)] : List (S26))) x19 x20 x21 x3 (x3.length : Int) 0)) else (none)) else (none)) else (some x4)
def rect_Cover.l1 : Nat → List (S26) → Int → List (S26) → List (S26) → Int → Int → List (S26) → Int → Int → Option (Int)
  | 0, _, _, _, _, _, _, _, _, _ => none
  | k + 1, x3, x4, x7, x19, x20, x21, x28, x29, x30 => if x30 < x29 then (if 0 ≤ x30 then (if x30 < (x28.length : Int) then (rect_Cover.l2 k x3 x4 ([] : List (S26)) x19 x20 x21 x28 x29 x30 x7 (x7.length : Int) 0 ((rd_T26 x28 x30).f0) ((rd_T26 x28 x30).f1) ((rd_T26 x28 x30).f2) ((rd_T26 x28 x30).f3)) else (none)) else (none)) else (rect_Cover.l3 k x3 x4 x7 x19 x20 x21 x7 (x7.length : Int) 0)
def rect_Cover.l2 : Nat → List (S26) → Int → List (S26) → List (S26) → Int → Int → List (S26) → Int → Int → List (S26) → Int → Int → Int → Int → Int → Int → Option (Int)
  | 0, _, _, _, _, _, _, _, _, _, _, _, _, _, _, _, _ => none
  | k + 1, x3, x4, x10, x19, x20, x21, x28, x29, x30, x34, x35, x36, x188000, x188001, x188002, x188003 => if x36 < x35 then (if 0 ≤ x36 then (if x36 < (x34.length : Int) then ((rect_Minus.f k ((rd_T26 x34 x36).f0) ((rd_T26 x34 x36).f1) ((rd_T26 x34 x36).f2) ((rd_T26 x34 x36).f3) x188000 x188001 x188002 x188003).bind fun t190 => (if x10.length + t190.length < 4398046511104 then (rect_Cover.l2 k x3 x4 (x10 ++ t190) x19 x20 x21 x28 x29 x30 x34 x35 (wrap64 (x36 + 1)) x188000 x188001 x188002 x188003) else (none))) else (none)) else (none)) else (rect_Cover.l1 k x3 x4 x10 x19 x20 x21 x28 x29 (wrap64 (x30 + 1)))
def rect_Cover.l3 : Nat → List (S26) → Int → List (S26) → List (S26) → Int → Int → List (S26) → Int → Int → Option (Int)
  | 0, _, _, _, _, _, _, _, _, _ => none
  | k + 1, x3, x4, x7, x19, x20, x21, x48, x49, x50 => if x50 < x49 then (if 0 ≤ x50 then (if x50 < (x48.length : Int) then ((rect_Area.f ((rd_T26 x48 x50).f0) ((rd_T26 x48 x50).f1) ((rd_T26 x48 x50).f2) ((rd_T26 x48 x50).f3)).bind fun t198 => (rect_Cover.l3 k x3 (wrap64 (x4 + t198)) x7 x19 x20 x21 x48 x49 (wrap64 (x50 + 1)))) else (none)) else (none)) else (if x3.length + x7.length < 4398046511104 then (rect_Cover.l0 k (x3 ++ x7) x4 x19 x20 (wrap64 (x21 + 1))) else (none))
end
def rect_Cover.f (k : Nat) (l0 : List (S26)) : Option (Int) := if 0 ≤ (mn (l0.length : Int) 24) then (if (mn (l0.length : Int) 24) ≤ (l0.length : Int) then ((some (l0.take ((mn (l0.length : Int) 24) : Int).toNat : List (S26))).bind fun y173 => (rect_Cover.l0 k ([] : List (S26)) 0 y173 (y173.length : Int) 0)) else (none)) else (none)
theorem rect_Cover.mono_l : ∀ k, (∀ y0 y1 y2 y3 y4, LeO (rect_Cover.l0 k y0 y1 y2 y3 y4) (rect_Cover.l0 (k + 1) y0 y1 y2 y3 y4)) ∧ (∀ y0 y1 y2 y3 y4 y5 y6 y7 y8, LeO (rect_Cover.l1 k y0 y1 y2 y3 y4 y5 y6 y7 y8) (rect_Cover.l1 (k + 1) y0 y1 y2 y3 y4 y5 y6 y7 y8)) ∧ (∀ y0 y1 y2 y3 y4 y5 y6 y7 y8 y9 y10 y11 y12 y13 y14 y15, LeO (rect_Cover.l2 k y0 y1 y2 y3 y4 y5 y6 y7 y8 y9 y10 y11 y12 y13 y14 y15) (rect_Cover.l2 (k + 1) y0 y1 y2 y3 y4 y5 y6 y7 y8 y9 y10 y11 y12 y13 y14 y15)) ∧ (∀ y0 y1 y2 y3 y4 y5 y6 y7 y8, LeO (rect_Cover.l3 k y0 y1 y2 y3 y4 y5 y6 y7 y8) (rect_Cover.l3 (k + 1) y0 y1 y2 y3 y4 y5 y6 y7 y8))
  | 0 => ⟨fun _ _ _ _ _ r h => by simp [rect_Cover.l0] at h, fun _ _ _ _ _ _ _ _ _ r h => by simp [rect_Cover.l1] at h, fun _ _ _ _ _ _ _ _ _ _ _ _ _ _ _ _ r h => by simp [rect_Cover.l2] at h, fun _ _ _ _ _ _ _ _ _ r h => by simp [rect_Cover.l3] at h⟩
  | k + 1 => by
    obtain ⟨ih0, ih1, ih2, ih3⟩ := rect_Cover.mono_l k
    refine ⟨?_, ?_, ?_, ?_⟩
    · intro y0 y1 y2 y3 y4
      unfold rect_Cover.l0
      repeat' first
      | (with_reducible exact ih0 _ _ _ _ _)
      | (with_reducible exact ih1 _ _ _ _ _ _ _ _ _)
      | (with_reducible exact ih2 _ _ _ _ _ _ _ _ _ _ _ _ _ _ _ _)
      | (with_reducible exact ih3 _ _ _ _ _ _ _ _ _)
      | (with_reducible exact rect_Minus.mono _ _ _ _ _ _ _ _ _)
      | (with_reducible exact LeO.refl _)
      | (with_reducible exact LeO.none _)
      | (with_reducible refine LeO.ite ?_ ?_)
      | (with_reducible refine LeO.bind ?_ (fun _ => ?_))
      | exact ih0 _ _ _ _ _
      | exact ih1 _ _ _ _ _ _ _ _ _
      | exact ih2 _ _ _ _ _ _ _ _ _ _ _ _ _ _ _ _
      | exact ih3 _ _ _ _ _ _ _ _ _
      | exact rect_Minus.mono _ _ _ _ _ _ _ _ _
      | exact LeO.none _
      | refine LeO.ite ?_ ?_
      | refine LeO.bind ?_ (fun _ => ?_)
    · intro y0 y1 y2 y3 y4 y5 y6 y7 y8
      unfold rect_Cover.l1
      repeat' first
      | (with_reducible exact ih0 _ _ _ _ _)
      | (with_reducible exact ih1 _ _ _ _ _ _ _ _ _)
      | (with_reducible exact ih2 _ _ _ _ _ _ _ _ _ _ _ _ _ _ _ _)
      | (with_reducible exact ih3 _ _ _ _ _ _ _ _ _)
      | (with_reducible exact rect_Minus.mono _ _ _ _ _ _ _ _ _)
      | (with_reducible exact LeO.refl _)
      | (with_reducible exact LeO.none _)
      | (with_reducible refine LeO.ite ?_ ?_)
      | (with_reducible refine LeO.bind ?_ (fun _ => ?_))
      | exact ih0 _ _ _ _ _
      | exact ih1 _ _ _ _ _ _ _ _ _
      | exact ih2 _ _ _ _ _ _ _ _ _ _ _ _ _ _ _ _
      | exact ih3 _ _ _ _ _ _ _ _ _
      | exact rect_Minus.mono _ _ _ _ _ _ _ _ _
      | exact LeO.none _
      | refine LeO.ite ?_ ?_
      | refine LeO.bind ?_ (fun _ => ?_)
    · intro y0 y1 y2 y3 y4 y5 y6 y7 y8 y9 y10 y11 y12 y13 y14 y15
      unfold rect_Cover.l2
      repeat' first
      | (with_reducible exact ih0 _ _ _ _ _)
      | (with_reducible exact ih1 _ _ _ _ _ _ _ _ _)
      | (with_reducible exact ih2 _ _ _ _ _ _ _ _ _ _ _ _ _ _ _ _)
      | (with_reducible exact ih3 _ _ _ _ _ _ _ _ _)
      | (with_reducible exact rect_Minus.mono _ _ _ _ _ _ _ _ _)
      | (with_reducible exact LeO.refl _)
      | (with_reducible exact LeO.none _)
      | (with_reducible refine LeO.ite ?_ ?_)
      | (with_reducible refine LeO.bind ?_ (fun _ => ?_))
      | exact ih0 _ _ _ _ _
      | exact ih1 _ _ _ _ _ _ _ _ _
      | exact ih2 _ _ _ _ _ _ _ _ _ _ _ _ _ _ _ _
      | exact ih3 _ _ _ _ _ _ _ _ _
      | exact rect_Minus.mono _ _ _ _ _ _ _ _ _
      | exact LeO.none _
      | refine LeO.ite ?_ ?_
      | refine LeO.bind ?_ (fun _ => ?_)
    · intro y0 y1 y2 y3 y4 y5 y6 y7 y8
      unfold rect_Cover.l3
      repeat' first
      | (with_reducible exact ih0 _ _ _ _ _)
      | (with_reducible exact ih1 _ _ _ _ _ _ _ _ _)
      | (with_reducible exact ih2 _ _ _ _ _ _ _ _ _ _ _ _ _ _ _ _)
      | (with_reducible exact ih3 _ _ _ _ _ _ _ _ _)
      | (with_reducible exact rect_Minus.mono _ _ _ _ _ _ _ _ _)
      | (with_reducible exact LeO.refl _)
      | (with_reducible exact LeO.none _)
      | (with_reducible refine LeO.ite ?_ ?_)
      | (with_reducible refine LeO.bind ?_ (fun _ => ?_))
      | exact ih0 _ _ _ _ _
      | exact ih1 _ _ _ _ _ _ _ _ _
      | exact ih2 _ _ _ _ _ _ _ _ _ _ _ _ _ _ _ _
      | exact ih3 _ _ _ _ _ _ _ _ _
      | exact rect_Minus.mono _ _ _ _ _ _ _ _ _
      | exact LeO.none _
      | refine LeO.ite ?_ ?_
      | refine LeO.bind ?_ (fun _ => ?_)
theorem rect_Cover.mono : ∀ a0 k, LeO (rect_Cover.f k a0) (rect_Cover.f (k + 1) a0) := by
  intro a0 k
  obtain ⟨ih0, ih1, ih2, ih3⟩ := rect_Cover.mono_l k
  unfold rect_Cover.f
  repeat' first
      | (with_reducible exact ih0 _ _ _ _ _)
      | (with_reducible exact ih1 _ _ _ _ _ _ _ _ _)
      | (with_reducible exact ih2 _ _ _ _ _ _ _ _ _ _ _ _ _ _ _ _)
      | (with_reducible exact ih3 _ _ _ _ _ _ _ _ _)
      | (with_reducible exact rect_Minus.mono _ _ _ _ _ _ _ _ _)
      | (with_reducible exact LeO.refl _)
      | (with_reducible exact LeO.none _)
      | (with_reducible refine LeO.ite ?_ ?_)
      | (with_reducible refine LeO.bind ?_ (fun _ => ?_))
      | exact ih0 _ _ _ _ _
      | exact ih1 _ _ _ _ _ _ _ _ _
      | exact ih2 _ _ _ _ _ _ _ _ _ _ _ _ _ _ _ _
      | exact ih3 _ _ _ _ _ _ _ _ _
      | exact rect_Minus.mono _ _ _ _ _ _ _ _ _
      | exact LeO.none _
      | refine LeO.ite ?_ ?_
      | refine LeO.bind ?_ (fun _ => ?_)
set_option maxHeartbeats 8000000 in
set_option maxRecDepth 100000 in
theorem rect_Cover.calls (k : Nat) (A0 : Option Addr) (c0 : Nat) (l0 : List (S26)) (r : Int) (w : World) (hr0 : Kd.C k26 w A0 l0.length l0) (hc0 : l0.length ≤ c0) (h : rect_Cover.f k l0 = some r) :
    Calls Try.prog 14 #[.slice A0 l0.length c0] w fun e w' => e = .returned (.int .i64 r) ∧ Below w.heap.size w w' := by
  have hu26 := Try.underlying26
  have HR0 := Aside0.mk hr0
  have HC0 := Aside0.mk hc0
  clear hr0 hc0
  have HB := Aside0.mk (Below.refl w.heap.size w)
  have H : (if 0 ≤ (mn (l0.length : Int) 24) then (if (mn (l0.length : Int) 24) ≤ (l0.length : Int) then ((some (l0.take ((mn (l0.length : Int) 24) : Int).toNat : List (S26))).bind fun y173 => (rect_Cover.l0 k ([] : List (S26)) 0 y173 (y173.length : Int) 0)) else (none)) else (none)) = some r := h
  clear h
  obtain ⟨ji2, hji2⟩ : ∃ j_ : Int, (mn (l0.length : Int) 24) = j_ := ⟨_, rfl⟩
  replace H : (if 0 ≤ (ji2) then (if (ji2) ≤ (l0.length : Int) then ((some (l0.take ((ji2) : Int).toNat : List (S26))).bind fun y173 => (rect_Cover.l0 k ([] : List (S26)) 0 y173 (y173.length : Int) 0)) else (none)) else (none)) = some r := by first | (rw [hji2] at H; exact H) | (simp only [hji2] at H ⊢; exact H)
  (try (have hji2h : ji2 ≤ 24 := by (rw [← hji2]; unfold mn; (repeat' split) <;> omega)))
  (try (have hji2g : ji2 ≤ 64 := by omega))
  (try (have hji2l : 0 ≤ ji2 := by (rw [← hji2]; unfold mn; (repeat' split) <;> omega)))
  (try (have hji2m : 0 ≤ ji2 := by omega))
  (try (have hji2mx : max ji2 0 = ji2 := by omega))
  have hji2_ : (if 24 < (l0.length : Int) then 24 else (l0.length : Int)) = ji2 := hji2
  by_cases c3 : 0 ≤ (ji2)
  · rw [if_pos c3] at H
    have c3b0 := eq_true c3
    have c3b1 : decide (0 ≤ (ji2)) = true := decide_eq_true c3
    clear c3
    by_cases c4 : (ji2) ≤ (l0.length : Int)
    · rw [if_pos c4] at H
      have c4b0 := eq_true c4
      have c4b1 : decide ((ji2) ≤ (l0.length : Int)) = true := decide_eq_true c4
      clear c4
      obtain ⟨y173, hy173⟩ : ∃ y_ : List (S26), y_ = (l0.take ((ji2) : Int).toNat) := ⟨_, rfl⟩
      replace H : (rect_Cover.l0 k ([] : List (S26)) 0 y173 (y173.length : Int) 0) = some r := by first | (rw [hy173]; with_reducible exact H) | (have H2_ := (Option.bind_some _ _).symm.trans H; rw [hy173]; with_reducible exact H2_) | (have H2_ := (Option.bind_some _ _).symm.trans H; with_reducible exact H2_) | with_reducible exact H | (rw [hy173]; exact H) | exact H
      have Ny173 := Aside0.mk hy173
      clear hy173
      have H' := Aside0.mk H
      clear H
      have q5 : ((ji2) : Int) ≤ ((l0.length : Int) : Int) := of_decide_eq_true (by first | (with_reducible assumption) | assumption)
      obtain ⟨i05, hi05, _, hsz5, _⟩ := info_parts info26
      have hroom5 : l0.length ≤ c0 := HC0.out
      have hC5 : Kd.C k26 _ A0 l0.length l0 := HR0.out
      have hcut5 := cut_to (P := Try.prog) 22 26 .i64 Try.underlying22 hi05 A0 l0.length c0 (ji2) (of_decide_eq_true (by first | (with_reducible assumption) | assumption)) q5 hroom5
      have hr5 := Kd.C_take (m := ((ji2) : Int).toNat) hC5 (by omega)
      have hy5 : y173.length = ((ji2) : Int).toNat := (by rw [Ny173.out, List.length_take]; omega)
      rw [← Ny173.out] at hr5
      rw [← hy5] at hcut5
      have HR176 := Aside0.mk hr5
      have HC176 := Aside0.mk (show y173.length ≤ c0 from by omega)
      clear hr5 hC5 hroom5 hi05 hsz5
      have KY5 := Aside0.mk hy5
      clear hy5
      replace q5 := eq_true q5
      go_enter Try.func14, Try.ntmps14
      go_wp2
      go_loopg [3, 4, 21] k (fun kq v3 v4 v21 w' => ∃ (x3_1 : List (S26)) (x4_1 : Int) (x21_1 : Int), v4 = .int .i64 x4_1 ∧ v21 = .int .i64 x21_1 ∧ Aside0 (rect_Cover.l0 kq x3_1 x4_1 y173 (y173.length : Int) x21_1 = some r) ∧ Aside0 (kq ≤ k) ∧ Aside0 (Kd.R k26 26 w' w.heap.size (fun _ => True) v3 x3_1) ∧ Aside0 (Below w.heap.size w w'))
      case atStart => exact ⟨(([] : List (S26))), (0), (0), (by first | rfl | (simp; done) | (simp [*]; done)), (by first | rfl | (simp; done) | (simp [*]; done)), H', ⟨Nat.le_refl _⟩, ⟨by first | exact Kd.R_nil _ _ _ _ _ | exact Kd.N_nil _ _ _ _ _ | exact Kd.V_nil _ _ _ _ _ | exact Kd.Q_nil _ _ _ _ _ | exact Kd.S_nil _ _ _ _ _⟩, ⟨by repeat (first | (with_reducible first | exact HB.out | apply below_alloc | apply pw_below_drewN | apply below_drew1) | exact HB.out)⟩⟩
      case round =>
        clear H'
        try clear c1
        try clear p2
        try clear c3
        try clear c3b0
        try clear c3b1
        try clear c4
        try clear c4b0
        try clear c4b1
        try clear q5
        try clear q5
        obtain ⟨x3_1, x4_1, x21_1, rfl, rfl, HA, HK1, HO_3, HB⟩ := hrel
        cases gk with
        | zero => exact absurd HA.out (by simp [rect_Cover.l0])
        | succ k1 =>
          have H := HA.out
          clear HA
          simp only [rect_Cover.l0] at H
          by_cases c6 : x21_1 < (y173.length : Int)
          · rw [if_pos c6] at H
            have c6b0 : decide (x21_1 < (y173.length : Int)) = true := decide_eq_true c6
            clear c6
            by_cases c7 : 0 ≤ x21_1
            · rw [if_pos c7] at H
              have c7b0 : decide (0 ≤ x21_1) = true := decide_eq_true c7
              clear c7
              by_cases c8 : x21_1 < (y173.length : Int)
              · rw [if_pos c8] at H
                have c8b0 : decide (x21_1 < (y173.length : Int)) = true := decide_eq_true c8
                clear c8
                replace H := Option.bind_eq_some_iff.mp H
                obtain ⟨⟨t179, t180, t181, t182⟩, A90, H⟩ := H
                replace H : (rect_Cover.l1 k1 x3_1 x4_1 (([(⟨t179, t180, t181, t182⟩ : S26)] : List (S26))) y173 (y173.length : Int) x21_1 x3_1 (x3_1.length : Int) 0) = some r := H
                have A9 := Aside0.mk A90
                clear A90
                obtain ⟨y183, hy183⟩ : ∃ y_ : List (S26), y_ = (([(⟨t179, t180, t181, t182⟩ : S26)] : List (S26))) := ⟨_, rfl⟩
                replace H : (rect_Cover.l1 k1 x3_1 x4_1 y183 y173 (y173.length : Int) x21_1 x3_1 (x3_1.length : Int) 0) = some r := by first | (rw [hy183]; with_reducible exact H) | (have H2_ := (Option.bind_some _ _).symm.trans H; rw [hy183]; with_reducible exact H2_) | (have H2_ := (Option.bind_some _ _).symm.trans H; with_reducible exact H2_) | with_reducible exact H | (rw [hy183]; exact H) | exact H
                have Ny183 := Aside0.mk hy183
                clear hy183
                have H' := Aside0.mk H
                clear H
                have p177 : 0 ≤ (x21_1 : Int) := of_decide_eq_true (by first | (with_reducible assumption) | assumption)
                have q177 : x21_1 < (y173.length : Int) := of_decide_eq_true (by first | (with_reducible assumption) | assumption)
                obtain ⟨ad177, e177, hx177_0, hx177_1, hx177_2, hx177_3⟩ := at_T26 HR176.out x21_1 p177 q177
                cases e177
                replace hx177_0 := (HB.out.cell (World.block_lt_of_cell? w _ hx177_0)).trans hx177_0
                replace hx177_1 := (HB.out.cell (World.block_lt_of_cell? w _ hx177_1)).trans hx177_1
                replace hx177_2 := (HB.out.cell (World.block_lt_of_cell? w _ hx177_2)).trans hx177_2
                replace hx177_3 := (HB.out.cell (World.block_lt_of_cell? w _ hx177_3)).trans hx177_3
                replace p177 := eq_true p177
                replace q177 := eq_true q177
                go_wp2_with (first | ((with_reducible refine gate_dst (N := 6) rfl ?_); refine box_event ?hg (N := 6) ?hd (cs := #[.int .i64 0, .int .i64 0, .int .i64 0, .int .i64 0]) (t := 26) ?hr ?_; (case hd => rfl); (case hg => rfl); (case hr => first | (go_simp; done) | (go_simp; rfl)); intro gb178 hg w10 hbox hb; have n0_ := Aside0.mk (Kd.R_below (Kd.R_elderB (by (with_reducible repeat (first | apply Kd.R_alloc | apply Kd.R_drewN | apply Kd.R_drew)); exact HO_3.out) gb178 (Nat.le_of_eq hg.symm)) hb); have n1_ := Aside0.mk (below_step (by repeat (first | (with_reducible first | exact HB.out | apply below_alloc | apply pw_below_drewN | apply below_drew1) | exact HB.out)) hb); have n2_ := Aside0.mk (hbox); have n3_ := Aside0.mk ((by rw [hg]; exact (below_size (by repeat (first | (with_reducible first | exact HB.out | apply below_alloc | apply pw_below_drewN | apply below_drew1) | exact HB.out))) : w.heap.size ≤ gb178)); have n4_ := Aside0.mk ((by rw [hg]; exact (below_size (by repeat (first | (with_reducible first | exact HB.out | apply below_alloc | apply pw_below_drewN | apply below_drew1) | exact HB.out))) : w.heap.size ≤ gb178)); clear HO_3; clear HB; have HO_3 := n0_; have HB := n1_; have BK178 := n2_; have GW178 := n3_; have GE178 := n4_; clear n0_ n1_ n2_ n3_ n4_; clear hb hbox hg; have hcz11_0 : w10.cell? ⟨gb178, 0, none⟩ = some (.int .i64 0) := (blk_cell BK178.out 0).trans rfl; have hcz11_1 : w10.cell? ⟨gb178, 1, none⟩ = some (.int .i64 0) := (blk_cell BK178.out 1).trans rfl; have hcz11_2 : w10.cell? ⟨gb178, 2, none⟩ = some (.int .i64 0) := (blk_cell BK178.out 2).trans rfl; have hcz11_3 : w10.cell? ⟨gb178, 3, none⟩ = some (.int .i64 0) := (blk_cell BK178.out 3).trans rfl; have hfz11_0 := blk_frozen BK178.out 0; have hfz11_1 := blk_frozen BK178.out 1; have hfz11_2 := blk_frozen BK178.out 2; have hfz11_3 := blk_frozen BK178.out 3) | ((with_reducible refine gate_callee (f := 20) rfl ?_); refine goesL_ (some 26) rfl rfl Try.func20 (by kernel_rfl) rfl #[.agg #[.int .i64 ((rd_T26 y173 x21_1).f0), .int .i64 ((rd_T26 y173 x21_1).f1), .int .i64 ((rd_T26 y173 x21_1).f2), .int .i64 ((rd_T26 y173 x21_1).f3)]] rfl (by (try simp only [List.map_toArray, List.map_cons, List.map_nil]); first | done | rfl | (simp only [List.length_drop, List.length_take]; rfl)) ?_; (with_reducible refine (rect_Clean.calls ((rd_T26 y173 x21_1).f0) ((rd_T26 y173 x21_1).f1) ((rd_T26 y173 x21_1).f2) ((rd_T26 y173 x21_1).f3) t179 t180 t181 t182 _ A9.out).mono ?_); rintro e w12 ⟨rfl, hb⟩; refine ⟨_, rfl, ?_⟩; have n0_ := Aside0.mk (Kd.R_below (by (with_reducible repeat (first | apply Kd.R_alloc | apply Kd.R_drewN | apply Kd.R_drew)); exact (Kd.R_mono (Kd.R_far (p := ⟨gb178, 3, none⟩) (Kd.R_far (p := ⟨gb178, 2, none⟩) (Kd.R_far (p := ⟨gb178, 1, none⟩) (Kd.R_far (p := ⟨gb178, 0, none⟩) (Kd.R_mono HO_3.out (fun k_ hk => (⟨hk, hk.2⟩ : _ ∧ k_ ≠ gb178))) (fun _ hk => hk.2) (.int .i64 ((rd_T26 y173 x21_1).f0))) (fun _ hk => hk.2) (.int .i64 ((rd_T26 y173 x21_1).f1))) (fun _ hk => hk.2) (.int .i64 ((rd_T26 y173 x21_1).f2))) (fun _ hk => hk.2) (.int .i64 ((rd_T26 y173 x21_1).f3))) (fun _ h_ => h_.1))) hb); have n1_ := Aside0.mk (blk_below (g := gb178) (o := .cells #[.int .i64 ((rd_T26 y173 x21_1).f0), .int .i64 ((rd_T26 y173 x21_1).f1), .int .i64 ((rd_T26 y173 x21_1).f2), .int .i64 ((rd_T26 y173 x21_1).f3)] 26 (0, 0)) (by (with_reducible repeat (first | refine blk_drewN ?_ _ | refine blk_drew ?_ | refine blk_alloc ?_ _)); refine blk_put (cs := #[.int .i64 ((rd_T26 y173 x21_1).f0), .int .i64 ((rd_T26 y173 x21_1).f1), .int .i64 ((rd_T26 y173 x21_1).f2), .int .i64 0]) ?_ 3 _ rfl; (with_reducible repeat (first | refine blk_drewN ?_ _ | refine blk_drew ?_ | refine blk_alloc ?_ _)); refine blk_put (cs := #[.int .i64 ((rd_T26 y173 x21_1).f0), .int .i64 ((rd_T26 y173 x21_1).f1), .int .i64 0, .int .i64 0]) ?_ 2 _ rfl; (with_reducible repeat (first | refine blk_drewN ?_ _ | refine blk_drew ?_ | refine blk_alloc ?_ _)); refine blk_put (cs := #[.int .i64 ((rd_T26 y173 x21_1).f0), .int .i64 0, .int .i64 0, .int .i64 0]) ?_ 1 _ rfl; (with_reducible repeat (first | refine blk_drewN ?_ _ | refine blk_drew ?_ | refine blk_alloc ?_ _)); refine blk_put (cs := #[.int .i64 0, .int .i64 0, .int .i64 0, .int .i64 0]) ?_ 0 _ rfl; (with_reducible repeat (first | refine blk_drewN ?_ _ | refine blk_drew ?_ | refine blk_alloc ?_ _)); exact BK178.out) hb); have n2_ := Aside0.mk (below_step (by repeat (first | (with_reducible first | exact HB.out | apply below_alloc | apply pw_below_drewN | apply below_drew1 | refine below_set ?_ GE178.out) | exact HB.out)) hb); clear HO_3; clear BK178; clear HB; have HO_3 := n0_; have BK178 := n1_; have HB := n2_; clear n0_ n1_ n2_; (try clear hb); (try clear hb2); (try clear hk); (try clear hi)) | ((with_reducible refine gate_dst (N := 27) rfl ?_); refine Kd.R_lit k26 _ 26 ?hg (N := 27) ?hd (xs := ([(⟨t179, t180, t181, t182⟩ : S26)] : List (S26))) (inner := [.int .i64 t179, .int .i64 t180, .int .i64 t181, .int .i64 t182]) (ok := fun _ => True) (okp := fun _ => True) ?hr ?hp (fun _ hk => hk) trivial (Below.refl _ _) (Nat.le_refl _) (by simp) ?_; (case hd => rfl); (case hg => rfl); (case hr => first | (go_simp; done) | (go_simp; rfl)); (case hp => exact (Reps.c4 (show Kd.M k26 _ _ _ (⟨t179, t180, t181, t182⟩ : S26) [.int .i64 t179, .int .i64 t180, .int .i64 t181, .int .i64 t182] from (k26_mkM _ _ _ (⟨t179, t180, t181, t182⟩ : S26) )) (Reps.none _ _))); intro v184 w13 ho14 hb hg_ hnew_; clear hg_ hnew_; (first | rw [← Ny183.out] at ho14 | (simp only [Int.reduceToNat] at ho14; rw [← Ny183.out] at ho14)); have n0_ := Aside0.mk (Kd.R_elder' (by (with_reducible repeat (first | apply Kd.R_alloc | apply Kd.R_drewN | apply Kd.R_drew)); exact HO_3.out) (Kd.R_base ho14) hb); have n1_ := Aside0.mk (Kd.R_lower (Kd.R_newB (Kd.R_new' ho14 (Kd.R_lt (by (with_reducible repeat (first | apply Kd.R_alloc | apply Kd.R_drewN | apply Kd.R_drew)); exact HO_3.out))) (g := gb178) (o := .cells #[.int .i64 ((rd_T26 y173 x21_1).f0), .int .i64 ((rd_T26 y173 x21_1).f1), .int .i64 ((rd_T26 y173 x21_1).f2), .int .i64 ((rd_T26 y173 x21_1).f3)] 26 (0, 0)) (by (with_reducible repeat (first | refine blk_drewN ?_ _ | refine blk_drew ?_ | refine blk_alloc ?_ _)); exact BK178.out)) (below_size (by repeat (first | (with_reducible first | exact HB.out | apply below_alloc | apply pw_below_drewN | apply below_drew1 | refine below_set ?_ GE178.out) | exact HB.out)))); have n2_ := Aside0.mk (blk_below (g := gb178) (o := .cells #[.int .i64 ((rd_T26 y173 x21_1).f0), .int .i64 ((rd_T26 y173 x21_1).f1), .int .i64 ((rd_T26 y173 x21_1).f2), .int .i64 ((rd_T26 y173 x21_1).f3)] 26 (0, 0)) (by (with_reducible repeat (first | refine blk_drewN ?_ _ | refine blk_drew ?_ | refine blk_alloc ?_ _)); exact BK178.out) hb); have n3_ := Aside0.mk (below_step (by repeat (first | (with_reducible first | exact HB.out | apply below_alloc | apply pw_below_drewN | apply below_drew1 | refine below_set ?_ GE178.out) | exact HB.out)) hb); clear HO_3; clear BK178; clear HB; have HO_3 := n0_; have HO185 := n1_; have BK178 := n2_; have HB := n3_; clear n0_ n1_ n2_ n3_; clear hb ho14; obtain ⟨Ao15, co15, eo15⟩ := Kd.R_slice HO_3.out; subst eo15))
                go_loopg [7, 30] k1 (fun kq v7 v30 w' => ∃ (x7_2 : List (S26)) (x30_2 : Int), v30 = .int .i64 x30_2 ∧ Aside0 (rect_Cover.l1 kq x3_1 x4_1 x7_2 y173 (y173.length : Int) x21_1 x3_1 (x3_1.length : Int) x30_2 = some r) ∧ Aside0 (kq ≤ k1) ∧ Aside0 (Kd.R k26 26 w' w.heap.size (fun k_ => some k_ ≠ (v7 : Value).ownBlock ∧ k_ ≠ gb178) (.slice Ao15 x3_1.length co15) x3_1) ∧ Aside0 (Kd.R k26 26 w' w.heap.size (fun k_ => some k_ ≠ ((.slice Ao15 x3_1.length co15) : Value).ownBlock ∧ some k_ ≠ ((.slice Ao15 x3_1.length co15) : Value).ownBlock ∧ k_ ≠ gb178) v7 x7_2) ∧ Aside0 (Kd.R k26 26 w' w.heap.size (fun k_ => some k_ ≠ (v7 : Value).ownBlock ∧ k_ ≠ gb178) (.slice Ao15 x3_1.length co15) x3_1) ∧ Aside0 (w'.heap[gb178]? = some (.cells #[.int .i64 ((rd_T26 y173 x21_1).f0), .int .i64 ((rd_T26 y173 x21_1).f1), .int .i64 ((rd_T26 y173 x21_1).f2), .int .i64 ((rd_T26 y173 x21_1).f3)] 26 (0, 0))) ∧ Aside0 (Below w.heap.size w w'))
                case atStart => exact ⟨(y183), (0), (by first | rfl | (simp; done) | (simp [*]; done)), H', ⟨Nat.le_refl _⟩, ⟨by (with_reducible repeat (first | apply Kd.R_alloc | apply Kd.R_drewN | apply Kd.R_drew)); exact Kd.R_mono HO_3.out (fun _ hk => ⟨hk.2, hk.1.2⟩)⟩, ⟨by (with_reducible repeat (first | apply Kd.R_alloc | apply Kd.R_drewN | apply Kd.R_drew)); exact Kd.R_mono HO185.out (fun _ hk => ⟨hk.1.2, ⟨hk.1.2, hk.2⟩⟩)⟩, ⟨by (with_reducible repeat (first | apply Kd.R_alloc | apply Kd.R_drewN | apply Kd.R_drew)); exact Kd.R_mono HO_3.out (fun _ hk => ⟨hk.2, hk.1.2⟩)⟩, ⟨by (with_reducible repeat (first | refine blk_drewN ?_ _ | refine blk_drew ?_ | refine blk_alloc ?_ _)); exact BK178.out⟩, ⟨by repeat (first | (with_reducible first | exact HB.out | apply below_alloc | apply pw_below_drewN | apply below_drew1 | refine below_set ?_ GE178.out) | exact HB.out)⟩⟩
                case round =>
                  clear H'
                  try clear c1
                  try clear p1
                  try clear q1
                  try clear hx1
                  try clear c2
                  try clear p2
                  try clear c3
                  try clear c3b0
                  try clear c3b1
                  try clear c4
                  try clear c4b0
                  try clear c4b1
                  try clear q5
                  try clear c6
                  try clear c6b0
                  try clear c7
                  try clear c7b0
                  try clear c8
                  try clear c8b0
                  try clear c14
                  try clear hcz11_0
                  try clear hcz11_1
                  try clear hcz11_2
                  try clear hcz11_3
                  try clear hfz11_0
                  try clear hfz11_1
                  try clear hfz11_2
                  try clear hfz11_3
                  try clear hx177_0
                  try clear hx177_1
                  try clear hx177_2
                  try clear hx177_3
                  try clear p177
                  try clear p2
                  try clear q177
                  try clear q5
                  obtain ⟨x7_2, x30_2, rfl, HA, HK2, HO_3, HO_7, HO_28, BK178, HB⟩ := hrel
                  cases gk with
                  | zero => exact absurd HA.out (by simp [rect_Cover.l1])
                  | succ k2 =>
                    have H := HA.out
                    clear HA
                    simp only [rect_Cover.l1] at H
                    by_cases c16 : x30_2 < (x3_1.length : Int)
                    · rw [if_pos c16] at H
                      have c16b0 : decide (x30_2 < (x3_1.length : Int)) = true := decide_eq_true c16
                      clear c16
                      by_cases c17 : 0 ≤ x30_2
                      · rw [if_pos c17] at H
                        have c17b0 : decide (0 ≤ x30_2) = true := decide_eq_true c17
                        clear c17
                        by_cases c18 : x30_2 < (x3_1.length : Int)
                        · rw [if_pos c18] at H
                          have c18b0 : decide (x30_2 < (x3_1.length : Int)) = true := decide_eq_true c18
                          clear c18
                          have H' := Aside0.mk H
                          clear H
                          have p186 : 0 ≤ (x30_2 : Int) := of_decide_eq_true (by first | (with_reducible assumption) | assumption)
                          have q186 : x30_2 < (x3_1.length : Int) := of_decide_eq_true (by first | (with_reducible assumption) | assumption)
                          obtain ⟨ad186, e186, hx186_0, hx186_1, hx186_2, hx186_3⟩ := at_T26 (Kd.R_reads' HO_28.out).2.2 x30_2 p186 q186
                          cases e186
                          replace p186 := eq_true p186
                          replace q186 := eq_true q186
                          go_wp2_with (first | ((with_reducible refine gate_dst (N := 9) rfl ?_); refine box_event ?hg (N := 9) ?hd (cs := #[.int .i64 0, .int .i64 0, .int .i64 0, .int .i64 0]) (t := 26) ?hr ?_; (case hd => rfl); (case hg => rfl); (case hr => first | (go_simp; done) | (go_simp; rfl)); intro gb187 hg w19 hbox hb; have n0_ := Aside0.mk (Kd.R_below (Kd.R_elderB (by (with_reducible repeat (first | apply Kd.R_alloc | apply Kd.R_drewN | apply Kd.R_drew)); exact HO_3.out) gb187 (Nat.le_of_eq hg.symm)) hb); have n1_ := Aside0.mk (Kd.R_below (Kd.R_elderB (by (with_reducible repeat (first | apply Kd.R_alloc | apply Kd.R_drewN | apply Kd.R_drew)); exact HO_7.out) gb187 (Nat.le_of_eq hg.symm)) hb); have n2_ := Aside0.mk (Kd.R_below (Kd.R_elderB (by (with_reducible repeat (first | apply Kd.R_alloc | apply Kd.R_drewN | apply Kd.R_drew)); exact HO_28.out) gb187 (Nat.le_of_eq hg.symm)) hb); have n3_ := Aside0.mk (blk_below (g := gb178) (o := .cells #[.int .i64 ((rd_T26 y173 x21_1).f0), .int .i64 ((rd_T26 y173 x21_1).f1), .int .i64 ((rd_T26 y173 x21_1).f2), .int .i64 ((rd_T26 y173 x21_1).f3)] 26 (0, 0)) (by (with_reducible repeat (first | refine blk_drewN ?_ _ | refine blk_drew ?_ | refine blk_alloc ?_ _)); exact BK178.out) hb); have n4_ := Aside0.mk (below_step (by repeat (first | (with_reducible first | exact HB.out | apply below_alloc | apply pw_below_drewN | apply below_drew1 | refine below_set ?_ GE178.out) | exact HB.out)) hb); have n5_ := Aside0.mk (hbox); have n6_ := Aside0.mk ((by rw [hg]; exact (below_size (by repeat (first | (with_reducible first | exact HB.out | apply below_alloc | apply pw_below_drewN | apply below_drew1 | refine below_set ?_ GE178.out) | exact HB.out))) : w.heap.size ≤ gb187)); have n7_ := Aside0.mk ((by rw [hg]; exact (below_size (by repeat (first | (with_reducible first | exact HB.out | apply below_alloc | apply pw_below_drewN | apply below_drew1 | refine below_set ?_ GE178.out) | exact HB.out))) : w.heap.size ≤ gb187)); have n8_ := Aside0.mk ((by rw [hg]; exact Nat.ne_of_lt (blk_lt (g := gb178) (o := .cells #[.int .i64 ((rd_T26 y173 x21_1).f0), .int .i64 ((rd_T26 y173 x21_1).f1), .int .i64 ((rd_T26 y173 x21_1).f2), .int .i64 ((rd_T26 y173 x21_1).f3)] 26 (0, 0)) (by (with_reducible repeat (first | refine blk_drewN ?_ _ | refine blk_drew ?_ | refine blk_alloc ?_ _)); exact BK178.out)) : gb178 ≠ gb187)); have n9_ := Aside0.mk ((by rw [hg]; exact Nat.ne_of_gt (blk_lt (g := gb178) (o := .cells #[.int .i64 ((rd_T26 y173 x21_1).f0), .int .i64 ((rd_T26 y173 x21_1).f1), .int .i64 ((rd_T26 y173 x21_1).f2), .int .i64 ((rd_T26 y173 x21_1).f3)] 26 (0, 0)) (by (with_reducible repeat (first | refine blk_drewN ?_ _ | refine blk_drew ?_ | refine blk_alloc ?_ _)); exact BK178.out)) : gb187 ≠ gb178)); clear HO_3; clear HO_7; clear HO_28; clear BK178; clear HB; have HO_3 := n0_; have HO_7 := n1_; have HO_28 := n2_; have BK178 := n3_; have HB := n4_; have BK187 := n5_; have GW187 := n6_; have GE187 := n7_; have NB178_187 := n8_; have NB187_178 := n9_; clear n0_ n1_ n2_ n3_ n4_ n5_ n6_ n7_ n8_ n9_; clear hb hbox hg; have hnb20 := NB187_178.out; have hnc20 := NB178_187.out; have hcz21_0 : w19.cell? ⟨gb187, 0, none⟩ = some (.int .i64 0) := (blk_cell BK187.out 0).trans rfl; have hcz21_1 : w19.cell? ⟨gb187, 1, none⟩ = some (.int .i64 0) := (blk_cell BK187.out 1).trans rfl; have hcz21_2 : w19.cell? ⟨gb187, 2, none⟩ = some (.int .i64 0) := (blk_cell BK187.out 2).trans rfl; have hcz21_3 : w19.cell? ⟨gb187, 3, none⟩ = some (.int .i64 0) := (blk_cell BK187.out 3).trans rfl; have hfz21_0 := blk_frozen BK187.out 0; have hfz21_1 := blk_frozen BK187.out 1; have hfz21_2 := blk_frozen BK187.out 2; have hfz21_3 := blk_frozen BK187.out 3; obtain ⟨Ao22, co22, eo22⟩ := Kd.R_slice HO_7.out; subst eo22))
                          go_loopg [10, 36] k2 (fun kq v10 v36 w' => ∃ (x10_3 : List (S26)) (x36_3 : Int), v36 = .int .i64 x36_3 ∧ Aside0 (rect_Cover.l2 kq x3_1 x4_1 x10_3 y173 (y173.length : Int) x21_1 x3_1 (x3_1.length : Int) x30_2 x7_2 (x7_2.length : Int) x36_3 ((rd_T26 x3_1 x30_2).f0) ((rd_T26 x3_1 x30_2).f1) ((rd_T26 x3_1 x30_2).f2) ((rd_T26 x3_1 x30_2).f3) = some r) ∧ Aside0 (kq ≤ k2) ∧ Aside0 (Kd.R k26 26 w' w.heap.size (fun k_ => some k_ ≠ (v10 : Value).ownBlock ∧ some k_ ≠ ((.slice Ao22 x7_2.length co22) : Value).ownBlock ∧ k_ ≠ gb178 ∧ k_ ≠ gb187) (.slice (some ad186) x3_1.length co15) x3_1) ∧ Aside0 (Kd.R k26 26 w' w.heap.size (fun k_ => some k_ ≠ ((.slice (some ad186) x3_1.length co15) : Value).ownBlock ∧ some k_ ≠ ((.slice (some ad186) x3_1.length co15) : Value).ownBlock ∧ some k_ ≠ ((.slice Ao22 x7_2.length co22) : Value).ownBlock ∧ k_ ≠ gb178 ∧ k_ ≠ gb187) v10 x10_3) ∧ Aside0 (Kd.R k26 26 w' w.heap.size (fun k_ => some k_ ≠ (v10 : Value).ownBlock ∧ some k_ ≠ ((.slice Ao22 x7_2.length co22) : Value).ownBlock ∧ k_ ≠ gb178 ∧ k_ ≠ gb187) (.slice (some ad186) x3_1.length co15) x3_1) ∧ Aside0 (Kd.R k26 26 w' w.heap.size (fun k_ => some k_ ≠ ((.slice (some ad186) x3_1.length co15) : Value).ownBlock ∧ some k_ ≠ (v10 : Value).ownBlock ∧ some k_ ≠ ((.slice (some ad186) x3_1.length co15) : Value).ownBlock ∧ k_ ≠ gb178 ∧ k_ ≠ gb187) (.slice Ao22 x7_2.length co22) x7_2) ∧ Aside0 (w'.heap[gb178]? = some (.cells #[.int .i64 ((rd_T26 y173 x21_1).f0), .int .i64 ((rd_T26 y173 x21_1).f1), .int .i64 ((rd_T26 y173 x21_1).f2), .int .i64 ((rd_T26 y173 x21_1).f3)] 26 (0, 0))) ∧ Aside0 (w'.heap[gb187]? = some (.cells #[.int .i64 ((rd_T26 x3_1 x30_2).f0), .int .i64 ((rd_T26 x3_1 x30_2).f1), .int .i64 ((rd_T26 x3_1 x30_2).f2), .int .i64 ((rd_T26 x3_1 x30_2).f3)] 26 (0, 0))) ∧ Aside0 (Below w.heap.size w w'))
                          case atStart => exact ⟨(([] : List (S26))), (0), (by first | rfl | (simp; done) | (simp [*]; done)), H', ⟨Nat.le_refl _⟩, ⟨by (with_reducible repeat (first | apply Kd.R_alloc | apply Kd.R_drewN | apply Kd.R_drew)); exact Kd.R_mono (Kd.R_far (p := ⟨gb187, 3, none⟩) (Kd.R_far (p := ⟨gb187, 2, none⟩) (Kd.R_far (p := ⟨gb187, 1, none⟩) (Kd.R_far (p := ⟨gb187, 0, none⟩) (Kd.R_mono HO_3.out (fun k_ hk => (⟨hk, hk.2⟩ : _ ∧ k_ ≠ gb187))) (fun _ hk => hk.2) (.int .i64 ((rd_T26 x3_1 x30_2).f0))) (fun _ hk => hk.2) (.int .i64 ((rd_T26 x3_1 x30_2).f1))) (fun _ hk => hk.2) (.int .i64 ((rd_T26 x3_1 x30_2).f2))) (fun _ hk => hk.2) (.int .i64 ((rd_T26 x3_1 x30_2).f3))) (fun _ hk => ⟨(by simp [Value.ownBlock]), ⟨hk.1.1.1, ⟨hk.1.1.2, hk.1.2⟩⟩⟩)⟩, ⟨by first | exact Kd.R_nil _ _ _ _ _ | exact Kd.N_nil _ _ _ _ _ | exact Kd.V_nil _ _ _ _ _ | exact Kd.Q_nil _ _ _ _ _ | exact Kd.S_nil _ _ _ _ _⟩, ⟨by (with_reducible repeat (first | apply Kd.R_alloc | apply Kd.R_drewN | apply Kd.R_drew)); exact Kd.R_mono (Kd.R_far (p := ⟨gb187, 3, none⟩) (Kd.R_far (p := ⟨gb187, 2, none⟩) (Kd.R_far (p := ⟨gb187, 1, none⟩) (Kd.R_far (p := ⟨gb187, 0, none⟩) (Kd.R_mono HO_28.out (fun k_ hk => (⟨hk, hk.2⟩ : _ ∧ k_ ≠ gb187))) (fun _ hk => hk.2) (.int .i64 ((rd_T26 x3_1 x30_2).f0))) (fun _ hk => hk.2) (.int .i64 ((rd_T26 x3_1 x30_2).f1))) (fun _ hk => hk.2) (.int .i64 ((rd_T26 x3_1 x30_2).f2))) (fun _ hk => hk.2) (.int .i64 ((rd_T26 x3_1 x30_2).f3))) (fun _ hk => ⟨(by simp [Value.ownBlock]), ⟨hk.1.1.1, ⟨hk.1.1.2, hk.1.2⟩⟩⟩)⟩, ⟨by (with_reducible repeat (first | apply Kd.R_alloc | apply Kd.R_drewN | apply Kd.R_drew)); exact Kd.R_mono (Kd.R_far (p := ⟨gb187, 3, none⟩) (Kd.R_far (p := ⟨gb187, 2, none⟩) (Kd.R_far (p := ⟨gb187, 1, none⟩) (Kd.R_far (p := ⟨gb187, 0, none⟩) (Kd.R_mono HO_7.out (fun k_ hk => (⟨hk, hk.2⟩ : _ ∧ k_ ≠ gb187))) (fun _ hk => hk.2) (.int .i64 ((rd_T26 x3_1 x30_2).f0))) (fun _ hk => hk.2) (.int .i64 ((rd_T26 x3_1 x30_2).f1))) (fun _ hk => hk.2) (.int .i64 ((rd_T26 x3_1 x30_2).f2))) (fun _ hk => hk.2) (.int .i64 ((rd_T26 x3_1 x30_2).f3))) (fun _ hk => ⟨hk.1.1.1, ⟨(by simp [Value.ownBlock]), ⟨hk.1.1.2.1, ⟨hk.1.1.2.2, hk.1.2⟩⟩⟩⟩)⟩, ⟨by (with_reducible repeat (first | refine blk_drewN ?_ _ | refine blk_drew ?_ | refine blk_alloc ?_ _)); refine blk_far ?_ NB178_187.out _; (with_reducible repeat (first | refine blk_drewN ?_ _ | refine blk_drew ?_ | refine blk_alloc ?_ _)); refine blk_far ?_ NB178_187.out _; (with_reducible repeat (first | refine blk_drewN ?_ _ | refine blk_drew ?_ | refine blk_alloc ?_ _)); refine blk_far ?_ NB178_187.out _; (with_reducible repeat (first | refine blk_drewN ?_ _ | refine blk_drew ?_ | refine blk_alloc ?_ _)); refine blk_far ?_ NB178_187.out _; (with_reducible repeat (first | refine blk_drewN ?_ _ | refine blk_drew ?_ | refine blk_alloc ?_ _)); exact BK178.out⟩, ⟨by (with_reducible repeat (first | refine blk_drewN ?_ _ | refine blk_drew ?_ | refine blk_alloc ?_ _)); refine blk_put (cs := #[.int .i64 ((rd_T26 x3_1 x30_2).f0), .int .i64 ((rd_T26 x3_1 x30_2).f1), .int .i64 ((rd_T26 x3_1 x30_2).f2), .int .i64 0]) ?_ 3 _ rfl; (with_reducible repeat (first | refine blk_drewN ?_ _ | refine blk_drew ?_ | refine blk_alloc ?_ _)); refine blk_put (cs := #[.int .i64 ((rd_T26 x3_1 x30_2).f0), .int .i64 ((rd_T26 x3_1 x30_2).f1), .int .i64 0, .int .i64 0]) ?_ 2 _ rfl; (with_reducible repeat (first | refine blk_drewN ?_ _ | refine blk_drew ?_ | refine blk_alloc ?_ _)); refine blk_put (cs := #[.int .i64 ((rd_T26 x3_1 x30_2).f0), .int .i64 0, .int .i64 0, .int .i64 0]) ?_ 1 _ rfl; (with_reducible repeat (first | refine blk_drewN ?_ _ | refine blk_drew ?_ | refine blk_alloc ?_ _)); refine blk_put (cs := #[.int .i64 0, .int .i64 0, .int .i64 0, .int .i64 0]) ?_ 0 _ rfl; (with_reducible repeat (first | refine blk_drewN ?_ _ | refine blk_drew ?_ | refine blk_alloc ?_ _)); exact BK187.out⟩, ⟨by repeat (first | (with_reducible first | exact HB.out | apply below_alloc | apply pw_below_drewN | apply below_drew1 | refine below_set ?_ GE178.out | refine below_set ?_ GE187.out) | exact HB.out)⟩⟩
                          case round =>
                            clear H'
                            try clear c1
                            try clear p1
                            try clear q1
                            try clear hx1
                            try clear c2
                            try clear p2
                            try clear c3
                            try clear c3b0
                            try clear c3b1
                            try clear c4
                            try clear c4b0
                            try clear c4b1
                            try clear q5
                            try clear c6
                            try clear c6b0
                            try clear c7
                            try clear c7b0
                            try clear c8
                            try clear c8b0
                            try clear c14
                            try clear c16
                            try clear c16b0
                            try clear c17
                            try clear c17b0
                            try clear p17
                            try clear q17
                            try clear hx17
                            try clear c18
                            try clear c18b0
                            try clear p18
                            try clear q18
                            try clear hx18
                            try clear c20
                            try clear hcz11_0
                            try clear hcz11_1
                            try clear hcz11_2
                            try clear hcz11_3
                            try clear hcz21_0
                            try clear hcz21_1
                            try clear hcz21_2
                            try clear hcz21_3
                            try clear hfz11_0
                            try clear hfz11_1
                            try clear hfz11_2
                            try clear hfz11_3
                            try clear hfz21_0
                            try clear hfz21_1
                            try clear hfz21_2
                            try clear hfz21_3
                            try clear hx177_0
                            try clear hx177_1
                            try clear hx177_2
                            try clear hx177_3
                            try clear hx186_0
                            try clear hx186_1
                            try clear hx186_2
                            try clear hx186_3
                            try clear p1
                            try clear p177
                            try clear p186
                            try clear p2
                            try clear q1
                            try clear q177
                            try clear q186
                            try clear q5
                            obtain ⟨x10_3, x36_3, rfl, HA, HK3, HO_3, HO_10, HO_28, HO_34, BK178, BK187, HB⟩ := hrel
                            cases gk with
                            | zero => exact absurd HA.out (by simp [rect_Cover.l2])
                            | succ k3 =>
                              have H := HA.out
                              clear HA
                              simp only [rect_Cover.l2] at H
                              by_cases c23 : x36_3 < (x7_2.length : Int)
                              · rw [if_pos c23] at H
                                have c23b0 : decide (x36_3 < (x7_2.length : Int)) = true := decide_eq_true c23
                                clear c23
                                by_cases c24 : 0 ≤ x36_3
                                · rw [if_pos c24] at H
                                  have c24b0 : decide (0 ≤ x36_3) = true := decide_eq_true c24
                                  clear c24
                                  by_cases c25 : x36_3 < (x7_2.length : Int)
                                  · rw [if_pos c25] at H
                                    have c25b0 : decide (x36_3 < (x7_2.length : Int)) = true := decide_eq_true c25
                                    clear c25
                                    replace H := Option.bind_eq_some_iff.mp H
                                    obtain ⟨t190, A260, H⟩ := H
                                    replace H : (if x10_3.length + t190.length < 4398046511104 then (rect_Cover.l2 k3 x3_1 x4_1 (x10_3 ++ t190) y173 (y173.length : Int) x21_1 x3_1 (x3_1.length : Int) x30_2 x7_2 (x7_2.length : Int) (wrap64 (x36_3 + 1)) ((rd_T26 x3_1 x30_2).f0) ((rd_T26 x3_1 x30_2).f1) ((rd_T26 x3_1 x30_2).f2) ((rd_T26 x3_1 x30_2).f3)) else (none)) = some r := H
                                    have A26 := Aside0.mk A260
                                    clear A260
                                    by_cases c27 : x10_3.length + t190.length < 4398046511104
                                    · rw [if_pos c27] at H
                                      have LMc27 := Aside0.mk c27
                                      clear c27
                                      obtain ⟨y193, hy193⟩ : ∃ y_ : List (S26), y_ = (x10_3 ++ t190) := ⟨_, rfl⟩
                                      replace H : (rect_Cover.l2 k3 x3_1 x4_1 y193 y173 (y173.length : Int) x21_1 x3_1 (x3_1.length : Int) x30_2 x7_2 (x7_2.length : Int) (wrap64 (x36_3 + 1)) ((rd_T26 x3_1 x30_2).f0) ((rd_T26 x3_1 x30_2).f1) ((rd_T26 x3_1 x30_2).f2) ((rd_T26 x3_1 x30_2).f3)) = some r := by first | (rw [hy193]; with_reducible exact H) | (have H2_ := (Option.bind_some _ _).symm.trans H; rw [hy193]; with_reducible exact H2_) | (have H2_ := (Option.bind_some _ _).symm.trans H; with_reducible exact H2_) | with_reducible exact H | (rw [hy193]; exact H) | exact H
                                      have Ny193 := Aside0.mk hy193
                                      clear hy193
                                      have H' := Aside0.mk H
                                      clear H
                                      have p188 : 0 ≤ (x36_3 : Int) := of_decide_eq_true (by first | (with_reducible assumption) | assumption)
                                      have q188 : x36_3 < (x7_2.length : Int) := of_decide_eq_true (by first | (with_reducible assumption) | assumption)
                                      obtain ⟨ad188, e188, hx188_0, hx188_1, hx188_2, hx188_3⟩ := at_T26 (Kd.R_reads' HO_34.out).2.2 x36_3 p188 q188
                                      cases e188
                                      replace p188 := eq_true p188
                                      replace q188 := eq_true q188
                                      go_wp2_with (first | ((with_reducible refine gate_dst (N := 12) rfl ?_); refine box_event ?hg (N := 12) ?hd (cs := #[.int .i64 0, .int .i64 0, .int .i64 0, .int .i64 0]) (t := 26) ?hr ?_; (case hd => rfl); (case hg => rfl); (case hr => first | (go_simp; done) | (go_simp; rfl)); intro gb189 hg w28 hbox hb; have n0_ := Aside0.mk (Kd.R_below (Kd.R_elderB (by (with_reducible repeat (first | apply Kd.R_alloc | apply Kd.R_drewN | apply Kd.R_drew)); exact HO_3.out) gb189 (Nat.le_of_eq hg.symm)) hb); have n1_ := Aside0.mk (Kd.R_below (Kd.R_elderB (by (with_reducible repeat (first | apply Kd.R_alloc | apply Kd.R_drewN | apply Kd.R_drew)); exact HO_10.out) gb189 (Nat.le_of_eq hg.symm)) hb); have n2_ := Aside0.mk (Kd.R_below (Kd.R_elderB (by (with_reducible repeat (first | apply Kd.R_alloc | apply Kd.R_drewN | apply Kd.R_drew)); exact HO_28.out) gb189 (Nat.le_of_eq hg.symm)) hb); have n3_ := Aside0.mk (Kd.R_below (Kd.R_elderB (by (with_reducible repeat (first | apply Kd.R_alloc | apply Kd.R_drewN | apply Kd.R_drew)); exact HO_34.out) gb189 (Nat.le_of_eq hg.symm)) hb); have n4_ := Aside0.mk (blk_below (g := gb178) (o := .cells #[.int .i64 ((rd_T26 y173 x21_1).f0), .int .i64 ((rd_T26 y173 x21_1).f1), .int .i64 ((rd_T26 y173 x21_1).f2), .int .i64 ((rd_T26 y173 x21_1).f3)] 26 (0, 0)) (by (with_reducible repeat (first | refine blk_drewN ?_ _ | refine blk_drew ?_ | refine blk_alloc ?_ _)); exact BK178.out) hb); have n5_ := Aside0.mk (blk_below (g := gb187) (o := .cells #[.int .i64 ((rd_T26 x3_1 x30_2).f0), .int .i64 ((rd_T26 x3_1 x30_2).f1), .int .i64 ((rd_T26 x3_1 x30_2).f2), .int .i64 ((rd_T26 x3_1 x30_2).f3)] 26 (0, 0)) (by (with_reducible repeat (first | refine blk_drewN ?_ _ | refine blk_drew ?_ | refine blk_alloc ?_ _)); exact BK187.out) hb); have n6_ := Aside0.mk (below_step (by repeat (first | (with_reducible first | exact HB.out | apply below_alloc | apply pw_below_drewN | apply below_drew1 | refine below_set ?_ GE178.out | refine below_set ?_ GE187.out) | exact HB.out)) hb); have n7_ := Aside0.mk (hbox); have n8_ := Aside0.mk ((by rw [hg]; exact (below_size (by repeat (first | (with_reducible first | exact HB.out | apply below_alloc | apply pw_below_drewN | apply below_drew1 | refine below_set ?_ GE178.out | refine below_set ?_ GE187.out) | exact HB.out))) : w.heap.size ≤ gb189)); have n9_ := Aside0.mk ((by rw [hg]; exact (below_size (by repeat (first | (with_reducible first | exact HB.out | apply below_alloc | apply pw_below_drewN | apply below_drew1 | refine below_set ?_ GE178.out | refine below_set ?_ GE187.out) | exact HB.out))) : w.heap.size ≤ gb189)); have n10_ := Aside0.mk ((by rw [hg]; exact Nat.ne_of_lt (blk_lt (g := gb178) (o := .cells #[.int .i64 ((rd_T26 y173 x21_1).f0), .int .i64 ((rd_T26 y173 x21_1).f1), .int .i64 ((rd_T26 y173 x21_1).f2), .int .i64 ((rd_T26 y173 x21_1).f3)] 26 (0, 0)) (by (with_reducible repeat (first | refine blk_drewN ?_ _ | refine blk_drew ?_ | refine blk_alloc ?_ _)); exact BK178.out)) : gb178 ≠ gb189)); have n11_ := Aside0.mk ((by rw [hg]; exact Nat.ne_of_gt (blk_lt (g := gb178) (o := .cells #[.int .i64 ((rd_T26 y173 x21_1).f0), .int .i64 ((rd_T26 y173 x21_1).f1), .int .i64 ((rd_T26 y173 x21_1).f2), .int .i64 ((rd_T26 y173 x21_1).f3)] 26 (0, 0)) (by (with_reducible repeat (first | refine blk_drewN ?_ _ | refine blk_drew ?_ | refine blk_alloc ?_ _)); exact BK178.out)) : gb189 ≠ gb178)); have n12_ := Aside0.mk ((by rw [hg]; exact Nat.ne_of_lt (blk_lt (g := gb187) (o := .cells #[.int .i64 ((rd_T26 x3_1 x30_2).f0), .int .i64 ((rd_T26 x3_1 x30_2).f1), .int .i64 ((rd_T26 x3_1 x30_2).f2), .int .i64 ((rd_T26 x3_1 x30_2).f3)] 26 (0, 0)) (by (with_reducible repeat (first | refine blk_drewN ?_ _ | refine blk_drew ?_ | refine blk_alloc ?_ _)); exact BK187.out)) : gb187 ≠ gb189)); have n13_ := Aside0.mk ((by rw [hg]; exact Nat.ne_of_gt (blk_lt (g := gb187) (o := .cells #[.int .i64 ((rd_T26 x3_1 x30_2).f0), .int .i64 ((rd_T26 x3_1 x30_2).f1), .int .i64 ((rd_T26 x3_1 x30_2).f2), .int .i64 ((rd_T26 x3_1 x30_2).f3)] 26 (0, 0)) (by (with_reducible repeat (first | refine blk_drewN ?_ _ | refine blk_drew ?_ | refine blk_alloc ?_ _)); exact BK187.out)) : gb189 ≠ gb187)); clear HO_3; clear HO_10; clear HO_28; clear HO_34; clear BK178; clear BK187; clear HB; have HO_3 := n0_; have HO_10 := n1_; have HO_28 := n2_; have HO_34 := n3_; have BK178 := n4_; have BK187 := n5_; have HB := n6_; have BK189 := n7_; have GW189 := n8_; have GE189 := n9_; have NB178_189 := n10_; have NB189_178 := n11_; have NB187_189 := n12_; have NB189_187 := n13_; clear n0_ n1_ n2_ n3_ n4_ n5_ n6_ n7_ n8_ n9_ n10_ n11_ n12_ n13_; clear hb hbox hg; have hnb29 := NB189_178.out; have hnc29 := NB178_189.out; have hnb30 := NB189_187.out; have hnc30 := NB187_189.out; have hcz31_0 : w28.cell? ⟨gb189, 0, none⟩ = some (.int .i64 0) := (blk_cell BK189.out 0).trans rfl; have hcz31_1 : w28.cell? ⟨gb189, 1, none⟩ = some (.int .i64 0) := (blk_cell BK189.out 1).trans rfl; have hcz31_2 : w28.cell? ⟨gb189, 2, none⟩ = some (.int .i64 0) := (blk_cell BK189.out 2).trans rfl; have hcz31_3 : w28.cell? ⟨gb189, 3, none⟩ = some (.int .i64 0) := (blk_cell BK189.out 3).trans rfl; have hfz31_0 := blk_frozen BK189.out 0; have hfz31_1 := blk_frozen BK189.out 1; have hfz31_2 := blk_frozen BK189.out 2; have hfz31_3 := blk_frozen BK189.out 3; have hnb32 := NB187_178.out; have hnc32 := NB178_187.out; have hcz33_0 : w28.cell? ⟨gb187, 0, none⟩ = some (.int .i64 ((rd_T26 x3_1 x30_2).f0)) := (blk_cell BK187.out 0).trans rfl; have hcz33_1 : w28.cell? ⟨gb187, 1, none⟩ = some (.int .i64 ((rd_T26 x3_1 x30_2).f1)) := (blk_cell BK187.out 1).trans rfl; have hcz33_2 : w28.cell? ⟨gb187, 2, none⟩ = some (.int .i64 ((rd_T26 x3_1 x30_2).f2)) := (blk_cell BK187.out 2).trans rfl; have hcz33_3 : w28.cell? ⟨gb187, 3, none⟩ = some (.int .i64 ((rd_T26 x3_1 x30_2).f3)) := (blk_cell BK187.out 3).trans rfl; have hfz33_0 := blk_frozen BK187.out 0; have hfz33_1 := blk_frozen BK187.out 1; have hfz33_2 := blk_frozen BK187.out 2; have hfz33_3 := blk_frozen BK187.out 3) | ((with_reducible refine gate_callee (f := 36) rfl ?_); refine goesL_ (some 43) rfl rfl Try.func36 (by kernel_rfl) rfl #[.agg #[.int .i64 ((rd_T26 x7_2 x36_3).f0), .int .i64 ((rd_T26 x7_2 x36_3).f1), .int .i64 ((rd_T26 x7_2 x36_3).f2), .int .i64 ((rd_T26 x7_2 x36_3).f3)], .agg #[.int .i64 ((rd_T26 x3_1 x30_2).f0), .int .i64 ((rd_T26 x3_1 x30_2).f1), .int .i64 ((rd_T26 x3_1 x30_2).f2), .int .i64 ((rd_T26 x3_1 x30_2).f3)]] rfl (by (try simp only [List.map_toArray, List.map_cons, List.map_nil]); first | done | rfl | (simp only [List.length_drop, List.length_take]; rfl)) ?_; (with_reducible refine (rect_Minus.calls k3 ((rd_T26 x7_2 x36_3).f0) ((rd_T26 x7_2 x36_3).f1) ((rd_T26 x7_2 x36_3).f2) ((rd_T26 x7_2 x36_3).f3) ((rd_T26 x3_1 x30_2).f0) ((rd_T26 x3_1 x30_2).f1) ((rd_T26 x3_1 x30_2).f2) ((rd_T26 x3_1 x30_2).f3) t190 _ A26.out).mono ?_); rintro e w34 ⟨v191, rfl, ho0, hb⟩; refine ⟨_, rfl, ?_⟩; have n0_ := Aside0.mk (Kd.R_elder' (by (with_reducible repeat (first | apply Kd.R_alloc | apply Kd.R_drewN | apply Kd.R_drew)); exact (Kd.R_mono (Kd.R_far (p := ⟨gb189, 3, none⟩) (Kd.R_far (p := ⟨gb189, 2, none⟩) (Kd.R_far (p := ⟨gb189, 1, none⟩) (Kd.R_far (p := ⟨gb189, 0, none⟩) (Kd.R_mono HO_3.out (fun k_ hk => (⟨hk, hk.2⟩ : _ ∧ k_ ≠ gb189))) (fun _ hk => hk.2) (.int .i64 ((rd_T26 x7_2 x36_3).f0))) (fun _ hk => hk.2) (.int .i64 ((rd_T26 x7_2 x36_3).f1))) (fun _ hk => hk.2) (.int .i64 ((rd_T26 x7_2 x36_3).f2))) (fun _ hk => hk.2) (.int .i64 ((rd_T26 x7_2 x36_3).f3))) (fun _ h_ => h_.1))) (Kd.R_base ho0) hb); have n1_ := Aside0.mk (Kd.R_elder' (by (with_reducible repeat (first | apply Kd.R_alloc | apply Kd.R_drewN | apply Kd.R_drew)); exact (Kd.R_mono (Kd.R_far (p := ⟨gb189, 3, none⟩) (Kd.R_far (p := ⟨gb189, 2, none⟩) (Kd.R_far (p := ⟨gb189, 1, none⟩) (Kd.R_far (p := ⟨gb189, 0, none⟩) (Kd.R_mono HO_10.out (fun k_ hk => (⟨hk, hk.2⟩ : _ ∧ k_ ≠ gb189))) (fun _ hk => hk.2) (.int .i64 ((rd_T26 x7_2 x36_3).f0))) (fun _ hk => hk.2) (.int .i64 ((rd_T26 x7_2 x36_3).f1))) (fun _ hk => hk.2) (.int .i64 ((rd_T26 x7_2 x36_3).f2))) (fun _ hk => hk.2) (.int .i64 ((rd_T26 x7_2 x36_3).f3))) (fun _ h_ => h_.1))) (Kd.R_base ho0) hb); have n2_ := Aside0.mk (Kd.R_elder' (by (with_reducible repeat (first | apply Kd.R_alloc | apply Kd.R_drewN | apply Kd.R_drew)); exact (Kd.R_mono (Kd.R_far (p := ⟨gb189, 3, none⟩) (Kd.R_far (p := ⟨gb189, 2, none⟩) (Kd.R_far (p := ⟨gb189, 1, none⟩) (Kd.R_far (p := ⟨gb189, 0, none⟩) (Kd.R_mono HO_28.out (fun k_ hk => (⟨hk, hk.2⟩ : _ ∧ k_ ≠ gb189))) (fun _ hk => hk.2) (.int .i64 ((rd_T26 x7_2 x36_3).f0))) (fun _ hk => hk.2) (.int .i64 ((rd_T26 x7_2 x36_3).f1))) (fun _ hk => hk.2) (.int .i64 ((rd_T26 x7_2 x36_3).f2))) (fun _ hk => hk.2) (.int .i64 ((rd_T26 x7_2 x36_3).f3))) (fun _ h_ => h_.1))) (Kd.R_base ho0) hb); have n3_ := Aside0.mk (Kd.R_elder' (by (with_reducible repeat (first | apply Kd.R_alloc | apply Kd.R_drewN | apply Kd.R_drew)); exact (Kd.R_mono (Kd.R_far (p := ⟨gb189, 3, none⟩) (Kd.R_far (p := ⟨gb189, 2, none⟩) (Kd.R_far (p := ⟨gb189, 1, none⟩) (Kd.R_far (p := ⟨gb189, 0, none⟩) (Kd.R_mono HO_34.out (fun k_ hk => (⟨hk, hk.2⟩ : _ ∧ k_ ≠ gb189))) (fun _ hk => hk.2) (.int .i64 ((rd_T26 x7_2 x36_3).f0))) (fun _ hk => hk.2) (.int .i64 ((rd_T26 x7_2 x36_3).f1))) (fun _ hk => hk.2) (.int .i64 ((rd_T26 x7_2 x36_3).f2))) (fun _ hk => hk.2) (.int .i64 ((rd_T26 x7_2 x36_3).f3))) (fun _ h_ => h_.1))) (Kd.R_base ho0) hb); have n4_ := Aside0.mk (Kd.R_lower (Kd.R_newB (Kd.R_newB (Kd.R_newB (Kd.R_new' (Kd.R_new' (Kd.R_new' (Kd.R_new' ho0 (Kd.R_lt (by (with_reducible repeat (first | apply Kd.R_alloc | apply Kd.R_drewN | apply Kd.R_drew)); exact (Kd.R_mono (Kd.R_far (p := ⟨gb189, 3, none⟩) (Kd.R_far (p := ⟨gb189, 2, none⟩) (Kd.R_far (p := ⟨gb189, 1, none⟩) (Kd.R_far (p := ⟨gb189, 0, none⟩) (Kd.R_mono HO_3.out (fun k_ hk => (⟨hk, hk.2⟩ : _ ∧ k_ ≠ gb189))) (fun _ hk => hk.2) (.int .i64 ((rd_T26 x7_2 x36_3).f0))) (fun _ hk => hk.2) (.int .i64 ((rd_T26 x7_2 x36_3).f1))) (fun _ hk => hk.2) (.int .i64 ((rd_T26 x7_2 x36_3).f2))) (fun _ hk => hk.2) (.int .i64 ((rd_T26 x7_2 x36_3).f3))) (fun _ h_ => h_.1))))) (Kd.R_lt (by (with_reducible repeat (first | apply Kd.R_alloc | apply Kd.R_drewN | apply Kd.R_drew)); exact (Kd.R_mono (Kd.R_far (p := ⟨gb189, 3, none⟩) (Kd.R_far (p := ⟨gb189, 2, none⟩) (Kd.R_far (p := ⟨gb189, 1, none⟩) (Kd.R_far (p := ⟨gb189, 0, none⟩) (Kd.R_mono HO_10.out (fun k_ hk => (⟨hk, hk.2⟩ : _ ∧ k_ ≠ gb189))) (fun _ hk => hk.2) (.int .i64 ((rd_T26 x7_2 x36_3).f0))) (fun _ hk => hk.2) (.int .i64 ((rd_T26 x7_2 x36_3).f1))) (fun _ hk => hk.2) (.int .i64 ((rd_T26 x7_2 x36_3).f2))) (fun _ hk => hk.2) (.int .i64 ((rd_T26 x7_2 x36_3).f3))) (fun _ h_ => h_.1))))) (Kd.R_lt (by (with_reducible repeat (first | apply Kd.R_alloc | apply Kd.R_drewN | apply Kd.R_drew)); exact (Kd.R_mono (Kd.R_far (p := ⟨gb189, 3, none⟩) (Kd.R_far (p := ⟨gb189, 2, none⟩) (Kd.R_far (p := ⟨gb189, 1, none⟩) (Kd.R_far (p := ⟨gb189, 0, none⟩) (Kd.R_mono HO_28.out (fun k_ hk => (⟨hk, hk.2⟩ : _ ∧ k_ ≠ gb189))) (fun _ hk => hk.2) (.int .i64 ((rd_T26 x7_2 x36_3).f0))) (fun _ hk => hk.2) (.int .i64 ((rd_T26 x7_2 x36_3).f1))) (fun _ hk => hk.2) (.int .i64 ((rd_T26 x7_2 x36_3).f2))) (fun _ hk => hk.2) (.int .i64 ((rd_T26 x7_2 x36_3).f3))) (fun _ h_ => h_.1))))) (Kd.R_lt (by (with_reducible repeat (first | apply Kd.R_alloc | apply Kd.R_drewN | apply Kd.R_drew)); exact (Kd.R_mono (Kd.R_far (p := ⟨gb189, 3, none⟩) (Kd.R_far (p := ⟨gb189, 2, none⟩) (Kd.R_far (p := ⟨gb189, 1, none⟩) (Kd.R_far (p := ⟨gb189, 0, none⟩) (Kd.R_mono HO_34.out (fun k_ hk => (⟨hk, hk.2⟩ : _ ∧ k_ ≠ gb189))) (fun _ hk => hk.2) (.int .i64 ((rd_T26 x7_2 x36_3).f0))) (fun _ hk => hk.2) (.int .i64 ((rd_T26 x7_2 x36_3).f1))) (fun _ hk => hk.2) (.int .i64 ((rd_T26 x7_2 x36_3).f2))) (fun _ hk => hk.2) (.int .i64 ((rd_T26 x7_2 x36_3).f3))) (fun _ h_ => h_.1))))) (g := gb178) (o := .cells #[.int .i64 ((rd_T26 y173 x21_1).f0), .int .i64 ((rd_T26 y173 x21_1).f1), .int .i64 ((rd_T26 y173 x21_1).f2), .int .i64 ((rd_T26 y173 x21_1).f3)] 26 (0, 0)) (by (with_reducible repeat (first | refine blk_drewN ?_ _ | refine blk_drew ?_ | refine blk_alloc ?_ _)); refine blk_far ?_ NB178_189.out _; (with_reducible repeat (first | refine blk_drewN ?_ _ | refine blk_drew ?_ | refine blk_alloc ?_ _)); refine blk_far ?_ NB178_189.out _; (with_reducible repeat (first | refine blk_drewN ?_ _ | refine blk_drew ?_ | refine blk_alloc ?_ _)); refine blk_far ?_ NB178_189.out _; (with_reducible repeat (first | refine blk_drewN ?_ _ | refine blk_drew ?_ | refine blk_alloc ?_ _)); refine blk_far ?_ NB178_189.out _; (with_reducible repeat (first | refine blk_drewN ?_ _ | refine blk_drew ?_ | refine blk_alloc ?_ _)); exact BK178.out)) (g := gb187) (o := .cells #[.int .i64 ((rd_T26 x3_1 x30_2).f0), .int .i64 ((rd_T26 x3_1 x30_2).f1), .int .i64 ((rd_T26 x3_1 x30_2).f2), .int .i64 ((rd_T26 x3_1 x30_2).f3)] 26 (0, 0)) (by (with_reducible repeat (first | refine blk_drewN ?_ _ | refine blk_drew ?_ | refine blk_alloc ?_ _)); refine blk_far ?_ NB187_189.out _; (with_reducible repeat (first | refine blk_drewN ?_ _ | refine blk_drew ?_ | refine blk_alloc ?_ _)); refine blk_far ?_ NB187_189.out _; (with_reducible repeat (first | refine blk_drewN ?_ _ | refine blk_drew ?_ | refine blk_alloc ?_ _)); refine blk_far ?_ NB187_189.out _; (with_reducible repeat (first | refine blk_drewN ?_ _ | refine blk_drew ?_ | refine blk_alloc ?_ _)); refine blk_far ?_ NB187_189.out _; (with_reducible repeat (first | refine blk_drewN ?_ _ | refine blk_drew ?_ | refine blk_alloc ?_ _)); exact BK187.out)) (g := gb189) (o := .cells #[.int .i64 ((rd_T26 x7_2 x36_3).f0), .int .i64 ((rd_T26 x7_2 x36_3).f1), .int .i64 ((rd_T26 x7_2 x36_3).f2), .int .i64 ((rd_T26 x7_2 x36_3).f3)] 26 (0, 0)) (by (with_reducible repeat (first | refine blk_drewN ?_ _ | refine blk_drew ?_ | refine blk_alloc ?_ _)); refine blk_put (cs := #[.int .i64 ((rd_T26 x7_2 x36_3).f0), .int .i64 ((rd_T26 x7_2 x36_3).f1), .int .i64 ((rd_T26 x7_2 x36_3).f2), .int .i64 0]) ?_ 3 _ rfl; (with_reducible repeat (first | refine blk_drewN ?_ _ | refine blk_drew ?_ | refine blk_alloc ?_ _)); refine blk_put (cs := #[.int .i64 ((rd_T26 x7_2 x36_3).f0), .int .i64 ((rd_T26 x7_2 x36_3).f1), .int .i64 0, .int .i64 0]) ?_ 2 _ rfl; (with_reducible repeat (first | refine blk_drewN ?_ _ | refine blk_drew ?_ | refine blk_alloc ?_ _)); refine blk_put (cs := #[.int .i64 ((rd_T26 x7_2 x36_3).f0), .int .i64 0, .int .i64 0, .int .i64 0]) ?_ 1 _ rfl; (with_reducible repeat (first | refine blk_drewN ?_ _ | refine blk_drew ?_ | refine blk_alloc ?_ _)); refine blk_put (cs := #[.int .i64 0, .int .i64 0, .int .i64 0, .int .i64 0]) ?_ 0 _ rfl; (with_reducible repeat (first | refine blk_drewN ?_ _ | refine blk_drew ?_ | refine blk_alloc ?_ _)); exact BK189.out)) (below_size (by repeat (first | (with_reducible first | exact HB.out | apply below_alloc | apply pw_below_drewN | apply below_drew1 | refine below_set ?_ GE178.out | refine below_set ?_ GE187.out | refine below_set ?_ GE189.out) | exact HB.out)))); have n5_ := Aside0.mk (blk_below (g := gb178) (o := .cells #[.int .i64 ((rd_T26 y173 x21_1).f0), .int .i64 ((rd_T26 y173 x21_1).f1), .int .i64 ((rd_T26 y173 x21_1).f2), .int .i64 ((rd_T26 y173 x21_1).f3)] 26 (0, 0)) (by (with_reducible repeat (first | refine blk_drewN ?_ _ | refine blk_drew ?_ | refine blk_alloc ?_ _)); refine blk_far ?_ NB178_189.out _; (with_reducible repeat (first | refine blk_drewN ?_ _ | refine blk_drew ?_ | refine blk_alloc ?_ _)); refine blk_far ?_ NB178_189.out _; (with_reducible repeat (first | refine blk_drewN ?_ _ | refine blk_drew ?_ | refine blk_alloc ?_ _)); refine blk_far ?_ NB178_189.out _; (with_reducible repeat (first | refine blk_drewN ?_ _ | refine blk_drew ?_ | refine blk_alloc ?_ _)); refine blk_far ?_ NB178_189.out _; (with_reducible repeat (first | refine blk_drewN ?_ _ | refine blk_drew ?_ | refine blk_alloc ?_ _)); exact BK178.out) hb); have n6_ := Aside0.mk (blk_below (g := gb187) (o := .cells #[.int .i64 ((rd_T26 x3_1 x30_2).f0), .int .i64 ((rd_T26 x3_1 x30_2).f1), .int .i64 ((rd_T26 x3_1 x30_2).f2), .int .i64 ((rd_T26 x3_1 x30_2).f3)] 26 (0, 0)) (by (with_reducible repeat (first | refine blk_drewN ?_ _ | refine blk_drew ?_ | refine blk_alloc ?_ _)); refine blk_far ?_ NB187_189.out _; (with_reducible repeat (first | refine blk_drewN ?_ _ | refine blk_drew ?_ | refine blk_alloc ?_ _)); refine blk_far ?_ NB187_189.out _; (with_reducible repeat (first | refine blk_drewN ?_ _ | refine blk_drew ?_ | refine blk_alloc ?_ _)); refine blk_far ?_ NB187_189.out _; (with_reducible repeat (first | refine blk_drewN ?_ _ | refine blk_drew ?_ | refine blk_alloc ?_ _)); refine blk_far ?_ NB187_189.out _; (with_reducible repeat (first | refine blk_drewN ?_ _ | refine blk_drew ?_ | refine blk_alloc ?_ _)); exact BK187.out) hb); have n7_ := Aside0.mk (blk_below (g := gb189) (o := .cells #[.int .i64 ((rd_T26 x7_2 x36_3).f0), .int .i64 ((rd_T26 x7_2 x36_3).f1), .int .i64 ((rd_T26 x7_2 x36_3).f2), .int .i64 ((rd_T26 x7_2 x36_3).f3)] 26 (0, 0)) (by (with_reducible repeat (first | refine blk_drewN ?_ _ | refine blk_drew ?_ | refine blk_alloc ?_ _)); refine blk_put (cs := #[.int .i64 ((rd_T26 x7_2 x36_3).f0), .int .i64 ((rd_T26 x7_2 x36_3).f1), .int .i64 ((rd_T26 x7_2 x36_3).f2), .int .i64 0]) ?_ 3 _ rfl; (with_reducible repeat (first | refine blk_drewN ?_ _ | refine blk_drew ?_ | refine blk_alloc ?_ _)); refine blk_put (cs := #[.int .i64 ((rd_T26 x7_2 x36_3).f0), .int .i64 ((rd_T26 x7_2 x36_3).f1), .int .i64 0, .int .i64 0]) ?_ 2 _ rfl; (with_reducible repeat (first | refine blk_drewN ?_ _ | refine blk_drew ?_ | refine blk_alloc ?_ _)); refine blk_put (cs := #[.int .i64 ((rd_T26 x7_2 x36_3).f0), .int .i64 0, .int .i64 0, .int .i64 0]) ?_ 1 _ rfl; (with_reducible repeat (first | refine blk_drewN ?_ _ | refine blk_drew ?_ | refine blk_alloc ?_ _)); refine blk_put (cs := #[.int .i64 0, .int .i64 0, .int .i64 0, .int .i64 0]) ?_ 0 _ rfl; (with_reducible repeat (first | refine blk_drewN ?_ _ | refine blk_drew ?_ | refine blk_alloc ?_ _)); exact BK189.out) hb); have n8_ := Aside0.mk (below_step (by repeat (first | (with_reducible first | exact HB.out | apply below_alloc | apply pw_below_drewN | apply below_drew1 | refine below_set ?_ GE178.out | refine below_set ?_ GE187.out | refine below_set ?_ GE189.out) | exact HB.out)) hb); clear HO_3; clear HO_10; clear HO_28; clear HO_34; clear BK178; clear BK187; clear BK189; clear HB; have HO_3 := n0_; have HO_10 := n1_; have HO_28 := n2_; have HO_34 := n3_; have HO192 := n4_; have BK178 := n5_; have BK187 := n6_; have BK189 := n7_; have HB := n8_; clear n0_ n1_ n2_ n3_ n4_ n5_ n6_ n7_ n8_; (try clear hb); (try clear hb2); (try clear hk); (try clear hi); (try clear ho0); obtain ⟨Ao36, co36, eo36⟩ := Kd.R_slice HO192.out; subst eo36) | ((with_reducible refine gate_builtin (b := .append) (xs := #[.tmp 40, .tmp 43]) rfl ?_); at_builtin; refine Kd.R_append_rows k26 (w0 := w) w.heap.size rfl (.tmp 40) (.tmp 43) 22 26 (.agg #[(.int .i64 0), (.int .i64 0), (.int .i64 0), (.int .i64 0)]) 32 rfl Try.underlying22 info26 rfl (by decide) (by omega) u10 x10_3 t190 _ _ _ (fun k_ => some k_ ≠ (.slice (some ad186) x3_1.length co15 : Value).ownBlock ∧ some k_ ≠ (.slice (some ad186) x3_1.length co15 : Value).ownBlock ∧ some k_ ≠ (.slice (some ad188) x7_2.length co22 : Value).ownBlock ∧ some k_ ≠ (.slice Ao36 t190.length co36 : Value).ownBlock ∧ k_ ≠ gb178 ∧ k_ ≠ gb187 ∧ k_ ≠ gb189) (fun _ => False) rfl rfl ?aO ?aR (fun _ _ h => h) (fun _ h => h.elim) ?aF ?aB ?aS ?aL ?_; (case aR => repeat (first | exact (Kd.R_reads' HO192.out).2.2 | (with_reducible refine Kd.C_alloc ?_ _) | (with_reducible refine Kd.C_drewN ?_ _) | (with_reducible refine Kd.C_drew ?_))); (case aB => exact (by repeat (first | (with_reducible first | exact HB.out | apply below_alloc | apply pw_below_drewN | apply below_drew1 | refine below_set ?_ GE178.out | refine below_set ?_ GE187.out | refine below_set ?_ GE189.out) | exact HB.out))); (case aF => exact (fun k_ hk => ⟨Kd.fresh' (Kd.R_lt (by (with_reducible repeat (first | apply Kd.R_alloc | apply Kd.R_drewN | apply Kd.R_drew)); exact HO_3.out)) k_ hk, Kd.fresh' (Kd.R_lt (by (with_reducible repeat (first | apply Kd.R_alloc | apply Kd.R_drewN | apply Kd.R_drew)); exact HO_28.out)) k_ hk, Kd.fresh' (Kd.R_lt (by (with_reducible repeat (first | apply Kd.R_alloc | apply Kd.R_drewN | apply Kd.R_drew)); exact HO_34.out)) k_ hk, Kd.fresh' (Kd.R_lt (by (with_reducible repeat (first | apply Kd.R_alloc | apply Kd.R_drewN | apply Kd.R_drew)); exact HO192.out)) k_ hk, Kd.freshB (g := gb178) (o := .cells #[.int .i64 ((rd_T26 y173 x21_1).f0), .int .i64 ((rd_T26 y173 x21_1).f1), .int .i64 ((rd_T26 y173 x21_1).f2), .int .i64 ((rd_T26 y173 x21_1).f3)] 26 (0, 0)) (by (with_reducible repeat (first | refine blk_drewN ?_ _ | refine blk_drew ?_ | refine blk_alloc ?_ _)); exact BK178.out) k_ hk, Kd.freshB (g := gb187) (o := .cells #[.int .i64 ((rd_T26 x3_1 x30_2).f0), .int .i64 ((rd_T26 x3_1 x30_2).f1), .int .i64 ((rd_T26 x3_1 x30_2).f2), .int .i64 ((rd_T26 x3_1 x30_2).f3)] 26 (0, 0)) (by (with_reducible repeat (first | refine blk_drewN ?_ _ | refine blk_drew ?_ | refine blk_alloc ?_ _)); exact BK187.out) k_ hk, Kd.freshB (g := gb189) (o := .cells #[.int .i64 ((rd_T26 x7_2 x36_3).f0), .int .i64 ((rd_T26 x7_2 x36_3).f1), .int .i64 ((rd_T26 x7_2 x36_3).f2), .int .i64 ((rd_T26 x7_2 x36_3).f3)] 26 (0, 0)) (by (with_reducible repeat (first | refine blk_drewN ?_ _ | refine blk_drew ?_ | refine blk_alloc ?_ _)); exact BK189.out) k_ hk⟩)); (case aO => exact (by (with_reducible repeat (first | apply Kd.R_alloc | apply Kd.R_drewN | apply Kd.R_drew)); exact Kd.R_mono HO_10.out (fun _ hk => ⟨hk.1.1.1, ⟨hk.1.1.2.1, ⟨hk.1.1.2.2.1, ⟨hk.2, ⟨hk.1.1.2.2.2.1, ⟨hk.1.1.2.2.2.2, hk.1.2⟩⟩⟩⟩⟩⟩))); (case aS => exact (below_size (by repeat (first | (with_reducible first | exact HB.out | apply below_alloc | apply pw_below_drewN | apply below_drew1 | refine below_set ?_ GE178.out | refine below_set ?_ GE187.out | refine below_set ?_ GE189.out) | exact HB.out)))); (case aL => have := LMc27.out; omega); intro v194 w35 ho hb hg hat; rw [← Ny193.out] at ho; have n0_ := Aside0.mk (Kd.R_after (ok := (fun k_ => some k_ ≠ (.slice (some ad188) x7_2.length co22 : Value).ownBlock ∧ some k_ ≠ (.slice Ao36 t190.length co36 : Value).ownBlock ∧ k_ ≠ gb178 ∧ k_ ≠ gb187 ∧ k_ ≠ gb189)) (by (with_reducible repeat (first | apply Kd.R_alloc | apply Kd.R_drewN | apply Kd.R_drew)); exact Kd.R_mono HO_3.out (fun _ hk => ⟨⟨hk.1.1.2.1, ⟨hk.2, ⟨hk.1.1.2.2.1, ⟨hk.1.1.2.2.2, hk.1.2⟩⟩⟩⟩, hk.1.1.1⟩)) hg hat); have n1_ := Aside0.mk (Kd.R_after (ok := (fun k_ => some k_ ≠ (.slice (some ad188) x7_2.length co22 : Value).ownBlock ∧ some k_ ≠ (.slice Ao36 t190.length co36 : Value).ownBlock ∧ k_ ≠ gb178 ∧ k_ ≠ gb187 ∧ k_ ≠ gb189)) (by (with_reducible repeat (first | apply Kd.R_alloc | apply Kd.R_drewN | apply Kd.R_drew)); exact Kd.R_mono HO_28.out (fun _ hk => ⟨⟨hk.1.1.2.1, ⟨hk.2, ⟨hk.1.1.2.2.1, ⟨hk.1.1.2.2.2, hk.1.2⟩⟩⟩⟩, hk.1.1.1⟩)) hg hat); have n2_ := Aside0.mk (Kd.R_after (ok := (fun k_ => some k_ ≠ (.slice (some ad186) x3_1.length co15 : Value).ownBlock ∧ some k_ ≠ (.slice (some ad186) x3_1.length co15 : Value).ownBlock ∧ some k_ ≠ (.slice Ao36 t190.length co36 : Value).ownBlock ∧ k_ ≠ gb178 ∧ k_ ≠ gb187 ∧ k_ ≠ gb189)) (by (with_reducible repeat (first | apply Kd.R_alloc | apply Kd.R_drewN | apply Kd.R_drew)); exact Kd.R_mono HO_34.out (fun _ hk => ⟨⟨hk.1.1.1, ⟨hk.1.1.2.2.1, ⟨hk.2, ⟨hk.1.1.2.2.2.1, ⟨hk.1.1.2.2.2.2, hk.1.2⟩⟩⟩⟩⟩, hk.1.1.2.1⟩)) hg hat); have n3_ := Aside0.mk (blk_grown (g := gb178) (o := .cells #[.int .i64 ((rd_T26 y173 x21_1).f0), .int .i64 ((rd_T26 y173 x21_1).f1), .int .i64 ((rd_T26 y173 x21_1).f2), .int .i64 ((rd_T26 y173 x21_1).f3)] 26 (0, 0)) (by (with_reducible repeat (first | refine blk_drewN ?_ _ | refine blk_drew ?_ | refine blk_alloc ?_ _)); exact BK178.out) hg (Kd.R_away HO_10.out (fun _ hk => hk.1.1.2.2.2.1))); have n4_ := Aside0.mk (blk_grown (g := gb187) (o := .cells #[.int .i64 ((rd_T26 x3_1 x30_2).f0), .int .i64 ((rd_T26 x3_1 x30_2).f1), .int .i64 ((rd_T26 x3_1 x30_2).f2), .int .i64 ((rd_T26 x3_1 x30_2).f3)] 26 (0, 0)) (by (with_reducible repeat (first | refine blk_drewN ?_ _ | refine blk_drew ?_ | refine blk_alloc ?_ _)); exact BK187.out) hg (Kd.R_away HO_10.out (fun _ hk => hk.1.1.2.2.2.2))); have n5_ := Aside0.mk (blk_grown (g := gb189) (o := .cells #[.int .i64 ((rd_T26 x7_2 x36_3).f0), .int .i64 ((rd_T26 x7_2 x36_3).f1), .int .i64 ((rd_T26 x7_2 x36_3).f2), .int .i64 ((rd_T26 x7_2 x36_3).f3)] 26 (0, 0)) (by (with_reducible repeat (first | refine blk_drewN ?_ _ | refine blk_drew ?_ | refine blk_alloc ?_ _)); exact BK189.out) hg (Kd.R_away HO_10.out (fun _ hk => hk.1.2))); have n6_ := Aside0.mk (Kd.R_after (ok := (fun k_ => some k_ ≠ (.slice (some ad186) x3_1.length co15 : Value).ownBlock ∧ some k_ ≠ (.slice (some ad186) x3_1.length co15 : Value).ownBlock ∧ some k_ ≠ (.slice (some ad188) x7_2.length co22 : Value).ownBlock ∧ k_ ≠ gb178 ∧ k_ ≠ gb187 ∧ k_ ≠ gb189)) (by (with_reducible repeat (first | apply Kd.R_alloc | apply Kd.R_drewN | apply Kd.R_drew)); exact Kd.R_mono HO192.out (fun _ hk => ⟨⟨hk.1.1.1.1.1.1.2, ⟨hk.1.1.1.1.2, ⟨hk.1.1.1.2, ⟨hk.1.1.2, ⟨hk.1.2, hk.2⟩⟩⟩⟩⟩, hk.1.1.1.1.1.2⟩)) hg hat); have n7_ := Aside0.mk (hb); have n8_ := Aside0.mk (ho); clear HO_3; clear HO_28; clear HO_34; clear BK178; clear BK187; clear BK189; clear HO192; clear HB; clear HO_10; have HO_3 := n0_; have HO_28 := n1_; have HO_34 := n2_; have BK178 := n3_; have BK187 := n4_; have BK189 := n5_; have HO192 := n6_; have HB := n7_; have HO195 := n8_; clear n0_ n1_ n2_ n3_ n4_ n5_ n6_ n7_ n8_; clear ho hb hg hat))
                                      go_roundg k3
                                      case measure => have := HK1.out; have := HK2.out; have := HK3.out; omega
                                      case rel => exact ⟨(y193), (wrap64 (x36_3 + 1)), (by first | rfl | (simp; done) | (simp [*]; done)), H', ⟨by have := HK1.out; have := HK2.out; have := HK3.out; omega⟩, ⟨by (with_reducible repeat (first | apply Kd.R_alloc | apply Kd.R_drewN | apply Kd.R_drew)); exact Kd.R_mono HO_3.out (fun _ hk => ⟨hk.2, ⟨hk.1.1, ⟨hk.1.2.2.1, hk.1.2.2.2.1⟩⟩⟩)⟩, ⟨by (with_reducible repeat (first | apply Kd.R_alloc | apply Kd.R_drewN | apply Kd.R_drew)); exact Kd.R_mono HO195.out (fun _ hk => ⟨hk.1, ⟨hk.2.1, ⟨hk.2.2.1, ⟨hk.2.2.2.2.1, hk.2.2.2.2.2.1⟩⟩⟩⟩)⟩, ⟨by (with_reducible repeat (first | apply Kd.R_alloc | apply Kd.R_drewN | apply Kd.R_drew)); exact Kd.R_mono HO_28.out (fun _ hk => ⟨hk.2, ⟨hk.1.1, ⟨hk.1.2.2.1, hk.1.2.2.2.1⟩⟩⟩)⟩, ⟨by (with_reducible repeat (first | apply Kd.R_alloc | apply Kd.R_drewN | apply Kd.R_drew)); exact Kd.R_mono HO_34.out (fun _ hk => ⟨hk.1.1, ⟨hk.2, ⟨hk.1.2.1, ⟨hk.1.2.2.2.1, hk.1.2.2.2.2.1⟩⟩⟩⟩)⟩, ⟨by (with_reducible repeat (first | refine blk_drewN ?_ _ | refine blk_drew ?_ | refine blk_alloc ?_ _)); exact BK178.out⟩, ⟨by (with_reducible repeat (first | refine blk_drewN ?_ _ | refine blk_drew ?_ | refine blk_alloc ?_ _)); exact BK187.out⟩, ⟨by repeat (first | (with_reducible first | exact HB.out | apply below_alloc | apply pw_below_drewN | apply below_drew1 | refine below_set ?_ GE178.out | refine below_set ?_ GE187.out | refine below_set ?_ GE189.out) | exact HB.out)⟩⟩
                                    · rw [if_neg c27] at H
                                      exact absurd H (by simp)
                                  · rw [if_neg c25] at H
                                    exact absurd H (by simp)
                                · rw [if_neg c24] at H
                                  exact absurd H (by simp)
                              · rw [if_neg c23] at H
                                have c23b0 : decide (x36_3 < (x7_2.length : Int)) = false := decide_eq_false c23
                                clear c23
                                have H' := Aside0.mk H
                                clear H
                                go_wp2
                                go_roundg k3
                                case measure => have := HK1.out; have := HK2.out; have := HK3.out; omega
                                case rel => exact ⟨(x10_3), (wrap64 (x30_2 + 1)), (by first | rfl | (simp; done) | (simp [*]; done)), H', ⟨by have := HK1.out; have := HK2.out; have := HK3.out; omega⟩, ⟨by (with_reducible repeat (first | apply Kd.R_alloc | apply Kd.R_drewN | apply Kd.R_drew)); exact Kd.R_mono HO_3.out (fun _ hk => ⟨hk.1, hk.2.2.1⟩)⟩, ⟨by (with_reducible repeat (first | apply Kd.R_alloc | apply Kd.R_drewN | apply Kd.R_drew)); exact Kd.R_mono HO_10.out (fun _ hk => ⟨hk.1, ⟨hk.2.1, hk.2.2.2.1⟩⟩)⟩, ⟨by (with_reducible repeat (first | apply Kd.R_alloc | apply Kd.R_drewN | apply Kd.R_drew)); exact Kd.R_mono HO_28.out (fun _ hk => ⟨hk.1, hk.2.2.1⟩)⟩, ⟨by (with_reducible repeat (first | refine blk_drewN ?_ _ | refine blk_drew ?_ | refine blk_alloc ?_ _)); exact BK178.out⟩, ⟨by repeat (first | (with_reducible first | exact HB.out | apply below_alloc | apply pw_below_drewN | apply below_drew1 | refine below_set ?_ GE178.out | refine below_set ?_ GE187.out) | exact HB.out)⟩⟩
                        · rw [if_neg c18] at H
                          exact absurd H (by simp)
                      · rw [if_neg c17] at H
                        exact absurd H (by simp)
                    · rw [if_neg c16] at H
                      have c16b0 : decide (x30_2 < (x3_1.length : Int)) = false := decide_eq_false c16
                      clear c16
                      have H' := Aside0.mk H
                      clear H
                      obtain ⟨Ao37, co37, eo37⟩ := Kd.R_slice HO_7.out
                      subst eo37
                      go_wp2
                      go_loopg [4, 50] k2 (fun kq v4 v50 w' => ∃ (x4_3 : Int) (x50_3 : Int), v4 = .int .i64 x4_3 ∧ v50 = .int .i64 x50_3 ∧ Aside0 (rect_Cover.l3 kq x3_1 x4_3 x7_2 y173 (y173.length : Int) x21_1 x7_2 (x7_2.length : Int) x50_3 = some r) ∧ Aside0 (kq ≤ k2) ∧ Aside0 (Kd.R k26 26 w' w.heap.size (fun k_ => some k_ ≠ ((.slice Ao37 x7_2.length co37) : Value).ownBlock ∧ some k_ ≠ ((.slice Ao37 x7_2.length co37) : Value).ownBlock ∧ k_ ≠ gb178) (.slice Ao15 x3_1.length co15) x3_1) ∧ Aside0 (Kd.R k26 26 w' w.heap.size (fun k_ => some k_ ≠ ((.slice Ao15 x3_1.length co15) : Value).ownBlock ∧ k_ ≠ gb178) (.slice Ao37 x7_2.length co37) x7_2) ∧ Aside0 (Kd.R k26 26 w' w.heap.size (fun k_ => some k_ ≠ ((.slice Ao15 x3_1.length co15) : Value).ownBlock ∧ k_ ≠ gb178) (.slice Ao37 x7_2.length co37) x7_2) ∧ Aside0 (w'.heap[gb178]? = some (.cells #[.int .i64 ((rd_T26 y173 x21_1).f0), .int .i64 ((rd_T26 y173 x21_1).f1), .int .i64 ((rd_T26 y173 x21_1).f2), .int .i64 ((rd_T26 y173 x21_1).f3)] 26 (0, 0))) ∧ Aside0 (Below w.heap.size w w'))
                      case atStart => exact ⟨(x4_1), (0), (by first | rfl | (simp; done) | (simp [*]; done)), (by first | rfl | (simp; done) | (simp [*]; done)), H', ⟨Nat.le_refl _⟩, ⟨by (with_reducible repeat (first | apply Kd.R_alloc | apply Kd.R_drewN | apply Kd.R_drew)); exact Kd.R_mono HO_3.out (fun _ hk => ⟨hk.1, ⟨hk.1, hk.2⟩⟩)⟩, ⟨by (with_reducible repeat (first | apply Kd.R_alloc | apply Kd.R_drewN | apply Kd.R_drew)); exact Kd.R_mono HO_7.out (fun _ hk => ⟨hk.1, hk.2.2⟩)⟩, ⟨by (with_reducible repeat (first | apply Kd.R_alloc | apply Kd.R_drewN | apply Kd.R_drew)); exact Kd.R_mono HO_7.out (fun _ hk => ⟨hk.1, hk.2.2⟩)⟩, ⟨by (with_reducible repeat (first | refine blk_drewN ?_ _ | refine blk_drew ?_ | refine blk_alloc ?_ _)); exact BK178.out⟩, ⟨by repeat (first | (with_reducible first | exact HB.out | apply below_alloc | apply pw_below_drewN | apply below_drew1 | refine below_set ?_ GE178.out) | exact HB.out)⟩⟩
                      case round =>
                        clear H'
                        try clear c1
                        try clear p1
                        try clear q1
                        try clear hx1
                        try clear c2
                        try clear p2
                        try clear c3
                        try clear c3b0
                        try clear c3b1
                        try clear c4
                        try clear c4b0
                        try clear c4b1
                        try clear q5
                        try clear c6
                        try clear c6b0
                        try clear p6
                        try clear c7
                        try clear c7b0
                        try clear c8
                        try clear c8b0
                        try clear c14
                        try clear c16
                        try clear c16b0
                        try clear c17
                        try clear c17b0
                        try clear p17
                        try clear q17
                        try clear hx17
                        try clear c18
                        try clear c18b0
                        try clear p18
                        try clear q18
                        try clear hx18
                        try clear c20
                        try clear c23
                        try clear c23b0
                        try clear c24
                        try clear c24b0
                        try clear c25
                        try clear c25b0
                        try clear c27
                        try clear c29
                        try clear c30
                        try clear c32
                        try clear c36
                        try clear hcz11_0
                        try clear hcz11_1
                        try clear hcz11_2
                        try clear hcz11_3
                        try clear hcz21_0
                        try clear hcz21_1
                        try clear hcz21_2
                        try clear hcz21_3
                        try clear hcz31_0
                        try clear hcz31_1
                        try clear hcz31_2
                        try clear hcz31_3
                        try clear hcz33_0
                        try clear hcz33_1
                        try clear hcz33_2
                        try clear hcz33_3
                        try clear hfz11_0
                        try clear hfz11_1
                        try clear hfz11_2
                        try clear hfz11_3
                        try clear hfz21_0
                        try clear hfz21_1
                        try clear hfz21_2
                        try clear hfz21_3
                        try clear hfz31_0
                        try clear hfz31_1
                        try clear hfz31_2
                        try clear hfz31_3
                        try clear hfz33_0
                        try clear hfz33_1
                        try clear hfz33_2
                        try clear hfz33_3
                        try clear hx177_0
                        try clear hx177_1
                        try clear hx177_2
                        try clear hx177_3
                        try clear hx186_0
                        try clear hx186_1
                        try clear hx186_2
                        try clear hx186_3
                        try clear hx188_0
                        try clear hx188_1
                        try clear hx188_2
                        try clear hx188_3
                        try clear p1
                        try clear p17
                        try clear p177
                        try clear p18
                        try clear p186
                        try clear p188
                        try clear p2
                        try clear q1
                        try clear q17
                        try clear q177
                        try clear q18
                        try clear q186
                        try clear q188
                        try clear q5
                        obtain ⟨x4_3, x50_3, rfl, rfl, HA, HK3, HO_3, HO_7, HO_48, BK178, HB⟩ := hrel
                        cases gk with
                        | zero => exact absurd HA.out (by simp [rect_Cover.l3])
                        | succ k3 =>
                          have H := HA.out
                          clear HA
                          simp only [rect_Cover.l3] at H
                          by_cases c38 : x50_3 < (x7_2.length : Int)
                          · rw [if_pos c38] at H
                            have c38b0 : decide (x50_3 < (x7_2.length : Int)) = true := decide_eq_true c38
                            clear c38
                            by_cases c39 : 0 ≤ x50_3
                            · rw [if_pos c39] at H
                              have c39b0 : decide (0 ≤ x50_3) = true := decide_eq_true c39
                              clear c39
                              by_cases c40 : x50_3 < (x7_2.length : Int)
                              · rw [if_pos c40] at H
                                have c40b0 : decide (x50_3 < (x7_2.length : Int)) = true := decide_eq_true c40
                                clear c40
                                replace H := Option.bind_eq_some_iff.mp H
                                obtain ⟨t198, A410, H⟩ := H
                                replace H : (rect_Cover.l3 k3 x3_1 (wrap64 (x4_3 + t198)) x7_2 y173 (y173.length : Int) x21_1 x7_2 (x7_2.length : Int) (wrap64 (x50_3 + 1))) = some r := H
                                have A41 := Aside0.mk A410
                                clear A410
                                have H' := Aside0.mk H
                                clear H
                                have p196 : 0 ≤ (x50_3 : Int) := of_decide_eq_true (by first | (with_reducible assumption) | assumption)
                                have q196 : x50_3 < (x7_2.length : Int) := of_decide_eq_true (by first | (with_reducible assumption) | assumption)
                                obtain ⟨ad196, e196, hx196_0, hx196_1, hx196_2, hx196_3⟩ := at_T26 (Kd.R_reads' HO_48.out).2.2 x50_3 p196 q196
                                cases e196
                                replace p196 := eq_true p196
                                replace q196 := eq_true q196
                                go_wp2_with (first | ((with_reducible refine gate_dst (N := 14) rfl ?_); refine box_event ?hg (N := 14) ?hd (cs := #[.int .i64 0, .int .i64 0, .int .i64 0, .int .i64 0]) (t := 26) ?hr ?_; (case hd => rfl); (case hg => rfl); (case hr => first | (go_simp; done) | (go_simp; rfl)); intro gb197 hg w42 hbox hb; have n0_ := Aside0.mk (Kd.R_below (Kd.R_elderB (by (with_reducible repeat (first | apply Kd.R_alloc | apply Kd.R_drewN | apply Kd.R_drew)); exact HO_3.out) gb197 (Nat.le_of_eq hg.symm)) hb); have n1_ := Aside0.mk (Kd.R_below (Kd.R_elderB (by (with_reducible repeat (first | apply Kd.R_alloc | apply Kd.R_drewN | apply Kd.R_drew)); exact HO_7.out) gb197 (Nat.le_of_eq hg.symm)) hb); have n2_ := Aside0.mk (Kd.R_below (Kd.R_elderB (by (with_reducible repeat (first | apply Kd.R_alloc | apply Kd.R_drewN | apply Kd.R_drew)); exact HO_48.out) gb197 (Nat.le_of_eq hg.symm)) hb); have n3_ := Aside0.mk (blk_below (g := gb178) (o := .cells #[.int .i64 ((rd_T26 y173 x21_1).f0), .int .i64 ((rd_T26 y173 x21_1).f1), .int .i64 ((rd_T26 y173 x21_1).f2), .int .i64 ((rd_T26 y173 x21_1).f3)] 26 (0, 0)) (by (with_reducible repeat (first | refine blk_drewN ?_ _ | refine blk_drew ?_ | refine blk_alloc ?_ _)); exact BK178.out) hb); have n4_ := Aside0.mk (below_step (by repeat (first | (with_reducible first | exact HB.out | apply below_alloc | apply pw_below_drewN | apply below_drew1 | refine below_set ?_ GE178.out) | exact HB.out)) hb); have n5_ := Aside0.mk (hbox); have n6_ := Aside0.mk ((by rw [hg]; exact (below_size (by repeat (first | (with_reducible first | exact HB.out | apply below_alloc | apply pw_below_drewN | apply below_drew1 | refine below_set ?_ GE178.out) | exact HB.out))) : w.heap.size ≤ gb197)); have n7_ := Aside0.mk ((by rw [hg]; exact (below_size (by repeat (first | (with_reducible first | exact HB.out | apply below_alloc | apply pw_below_drewN | apply below_drew1 | refine below_set ?_ GE178.out) | exact HB.out))) : w.heap.size ≤ gb197)); have n8_ := Aside0.mk ((by rw [hg]; exact Nat.ne_of_lt (blk_lt (g := gb178) (o := .cells #[.int .i64 ((rd_T26 y173 x21_1).f0), .int .i64 ((rd_T26 y173 x21_1).f1), .int .i64 ((rd_T26 y173 x21_1).f2), .int .i64 ((rd_T26 y173 x21_1).f3)] 26 (0, 0)) (by (with_reducible repeat (first | refine blk_drewN ?_ _ | refine blk_drew ?_ | refine blk_alloc ?_ _)); exact BK178.out)) : gb178 ≠ gb197)); have n9_ := Aside0.mk ((by rw [hg]; exact Nat.ne_of_gt (blk_lt (g := gb178) (o := .cells #[.int .i64 ((rd_T26 y173 x21_1).f0), .int .i64 ((rd_T26 y173 x21_1).f1), .int .i64 ((rd_T26 y173 x21_1).f2), .int .i64 ((rd_T26 y173 x21_1).f3)] 26 (0, 0)) (by (with_reducible repeat (first | refine blk_drewN ?_ _ | refine blk_drew ?_ | refine blk_alloc ?_ _)); exact BK178.out)) : gb197 ≠ gb178)); clear HO_3; clear HO_7; clear HO_48; clear BK178; clear HB; have HO_3 := n0_; have HO_7 := n1_; have HO_48 := n2_; have BK178 := n3_; have HB := n4_; have BK197 := n5_; have GW197 := n6_; have GE197 := n7_; have NB178_197 := n8_; have NB197_178 := n9_; clear n0_ n1_ n2_ n3_ n4_ n5_ n6_ n7_ n8_ n9_; clear hb hbox hg; have hnb43 := NB197_178.out; have hnc43 := NB178_197.out; have hcz44_0 : w42.cell? ⟨gb197, 0, none⟩ = some (.int .i64 0) := (blk_cell BK197.out 0).trans rfl; have hcz44_1 : w42.cell? ⟨gb197, 1, none⟩ = some (.int .i64 0) := (blk_cell BK197.out 1).trans rfl; have hcz44_2 : w42.cell? ⟨gb197, 2, none⟩ = some (.int .i64 0) := (blk_cell BK197.out 2).trans rfl; have hcz44_3 : w42.cell? ⟨gb197, 3, none⟩ = some (.int .i64 0) := (blk_cell BK197.out 3).trans rfl; have hfz44_0 := blk_frozen BK197.out 0; have hfz44_1 := blk_frozen BK197.out 1; have hfz44_2 := blk_frozen BK197.out 2; have hfz44_3 := blk_frozen BK197.out 3) | ((with_reducible refine gate_callee (f := 13) rfl ?_); refine goesL_ (some 56) rfl rfl Try.func13 (by kernel_rfl) rfl #[.agg #[.int .i64 ((rd_T26 x7_2 x50_3).f0), .int .i64 ((rd_T26 x7_2 x50_3).f1), .int .i64 ((rd_T26 x7_2 x50_3).f2), .int .i64 ((rd_T26 x7_2 x50_3).f3)]] rfl (by (try simp only [List.map_toArray, List.map_cons, List.map_nil]); first | done | rfl | (simp only [List.length_drop, List.length_take]; rfl)) ?_; (with_reducible refine (rect_Area.calls ((rd_T26 x7_2 x50_3).f0) ((rd_T26 x7_2 x50_3).f1) ((rd_T26 x7_2 x50_3).f2) ((rd_T26 x7_2 x50_3).f3) t198 _ A41.out).mono ?_); rintro e w45 ⟨rfl, hb⟩; refine ⟨_, rfl, ?_⟩; have n0_ := Aside0.mk (Kd.R_below (by (with_reducible repeat (first | apply Kd.R_alloc | apply Kd.R_drewN | apply Kd.R_drew)); exact (Kd.R_mono (Kd.R_far (p := ⟨gb197, 3, none⟩) (Kd.R_far (p := ⟨gb197, 2, none⟩) (Kd.R_far (p := ⟨gb197, 1, none⟩) (Kd.R_far (p := ⟨gb197, 0, none⟩) (Kd.R_mono HO_3.out (fun k_ hk => (⟨hk, hk.2⟩ : _ ∧ k_ ≠ gb197))) (fun _ hk => hk.2) (.int .i64 ((rd_T26 x7_2 x50_3).f0))) (fun _ hk => hk.2) (.int .i64 ((rd_T26 x7_2 x50_3).f1))) (fun _ hk => hk.2) (.int .i64 ((rd_T26 x7_2 x50_3).f2))) (fun _ hk => hk.2) (.int .i64 ((rd_T26 x7_2 x50_3).f3))) (fun _ h_ => h_.1))) hb); have n1_ := Aside0.mk (Kd.R_below (by (with_reducible repeat (first | apply Kd.R_alloc | apply Kd.R_drewN | apply Kd.R_drew)); exact (Kd.R_mono (Kd.R_far (p := ⟨gb197, 3, none⟩) (Kd.R_far (p := ⟨gb197, 2, none⟩) (Kd.R_far (p := ⟨gb197, 1, none⟩) (Kd.R_far (p := ⟨gb197, 0, none⟩) (Kd.R_mono HO_7.out (fun k_ hk => (⟨hk, hk.2⟩ : _ ∧ k_ ≠ gb197))) (fun _ hk => hk.2) (.int .i64 ((rd_T26 x7_2 x50_3).f0))) (fun _ hk => hk.2) (.int .i64 ((rd_T26 x7_2 x50_3).f1))) (fun _ hk => hk.2) (.int .i64 ((rd_T26 x7_2 x50_3).f2))) (fun _ hk => hk.2) (.int .i64 ((rd_T26 x7_2 x50_3).f3))) (fun _ h_ => h_.1))) hb); have n2_ := Aside0.mk (Kd.R_below (by (with_reducible repeat (first | apply Kd.R_alloc | apply Kd.R_drewN | apply Kd.R_drew)); exact (Kd.R_mono (Kd.R_far (p := ⟨gb197, 3, none⟩) (Kd.R_far (p := ⟨gb197, 2, none⟩) (Kd.R_far (p := ⟨gb197, 1, none⟩) (Kd.R_far (p := ⟨gb197, 0, none⟩) (Kd.R_mono HO_48.out (fun k_ hk => (⟨hk, hk.2⟩ : _ ∧ k_ ≠ gb197))) (fun _ hk => hk.2) (.int .i64 ((rd_T26 x7_2 x50_3).f0))) (fun _ hk => hk.2) (.int .i64 ((rd_T26 x7_2 x50_3).f1))) (fun _ hk => hk.2) (.int .i64 ((rd_T26 x7_2 x50_3).f2))) (fun _ hk => hk.2) (.int .i64 ((rd_T26 x7_2 x50_3).f3))) (fun _ h_ => h_.1))) hb); have n3_ := Aside0.mk (blk_below (g := gb178) (o := .cells #[.int .i64 ((rd_T26 y173 x21_1).f0), .int .i64 ((rd_T26 y173 x21_1).f1), .int .i64 ((rd_T26 y173 x21_1).f2), .int .i64 ((rd_T26 y173 x21_1).f3)] 26 (0, 0)) (by (with_reducible repeat (first | refine blk_drewN ?_ _ | refine blk_drew ?_ | refine blk_alloc ?_ _)); refine blk_far ?_ NB178_197.out _; (with_reducible repeat (first | refine blk_drewN ?_ _ | refine blk_drew ?_ | refine blk_alloc ?_ _)); refine blk_far ?_ NB178_197.out _; (with_reducible repeat (first | refine blk_drewN ?_ _ | refine blk_drew ?_ | refine blk_alloc ?_ _)); refine blk_far ?_ NB178_197.out _; (with_reducible repeat (first | refine blk_drewN ?_ _ | refine blk_drew ?_ | refine blk_alloc ?_ _)); refine blk_far ?_ NB178_197.out _; (with_reducible repeat (first | refine blk_drewN ?_ _ | refine blk_drew ?_ | refine blk_alloc ?_ _)); exact BK178.out) hb); have n4_ := Aside0.mk (blk_below (g := gb197) (o := .cells #[.int .i64 ((rd_T26 x7_2 x50_3).f0), .int .i64 ((rd_T26 x7_2 x50_3).f1), .int .i64 ((rd_T26 x7_2 x50_3).f2), .int .i64 ((rd_T26 x7_2 x50_3).f3)] 26 (0, 0)) (by (with_reducible repeat (first | refine blk_drewN ?_ _ | refine blk_drew ?_ | refine blk_alloc ?_ _)); refine blk_put (cs := #[.int .i64 ((rd_T26 x7_2 x50_3).f0), .int .i64 ((rd_T26 x7_2 x50_3).f1), .int .i64 ((rd_T26 x7_2 x50_3).f2), .int .i64 0]) ?_ 3 _ rfl; (with_reducible repeat (first | refine blk_drewN ?_ _ | refine blk_drew ?_ | refine blk_alloc ?_ _)); refine blk_put (cs := #[.int .i64 ((rd_T26 x7_2 x50_3).f0), .int .i64 ((rd_T26 x7_2 x50_3).f1), .int .i64 0, .int .i64 0]) ?_ 2 _ rfl; (with_reducible repeat (first | refine blk_drewN ?_ _ | refine blk_drew ?_ | refine blk_alloc ?_ _)); refine blk_put (cs := #[.int .i64 ((rd_T26 x7_2 x50_3).f0), .int .i64 0, .int .i64 0, .int .i64 0]) ?_ 1 _ rfl; (with_reducible repeat (first | refine blk_drewN ?_ _ | refine blk_drew ?_ | refine blk_alloc ?_ _)); refine blk_put (cs := #[.int .i64 0, .int .i64 0, .int .i64 0, .int .i64 0]) ?_ 0 _ rfl; (with_reducible repeat (first | refine blk_drewN ?_ _ | refine blk_drew ?_ | refine blk_alloc ?_ _)); exact BK197.out) hb); have n5_ := Aside0.mk (below_step (by repeat (first | (with_reducible first | exact HB.out | apply below_alloc | apply pw_below_drewN | apply below_drew1 | refine below_set ?_ GE178.out | refine below_set ?_ GE197.out) | exact HB.out)) hb); clear HO_3; clear HO_7; clear HO_48; clear BK178; clear BK197; clear HB; have HO_3 := n0_; have HO_7 := n1_; have HO_48 := n2_; have BK178 := n3_; have BK197 := n4_; have HB := n5_; clear n0_ n1_ n2_ n3_ n4_ n5_; (try clear hb); (try clear hb2); (try clear hk); (try clear hi)))
                                go_roundg k3
                                case measure => have := HK1.out; have := HK2.out; have := HK3.out; omega
                                case rel => exact ⟨(wrap64 (x4_3 + t198)), (wrap64 (x50_3 + 1)), (by first | rfl | (simp; done) | (simp [*]; done)), (by first | rfl | (simp; done) | (simp [*]; done)), H', ⟨by have := HK1.out; have := HK2.out; have := HK3.out; omega⟩, ⟨by (with_reducible repeat (first | apply Kd.R_alloc | apply Kd.R_drewN | apply Kd.R_drew)); exact Kd.R_mono HO_3.out (fun _ hk => ⟨hk.1.1, ⟨hk.1.2.1, hk.1.2.2⟩⟩)⟩, ⟨by (with_reducible repeat (first | apply Kd.R_alloc | apply Kd.R_drewN | apply Kd.R_drew)); exact Kd.R_mono HO_7.out (fun _ hk => ⟨hk.1.1, hk.1.2⟩)⟩, ⟨by (with_reducible repeat (first | apply Kd.R_alloc | apply Kd.R_drewN | apply Kd.R_drew)); exact Kd.R_mono HO_48.out (fun _ hk => ⟨hk.1.1, hk.1.2⟩)⟩, ⟨by (with_reducible repeat (first | refine blk_drewN ?_ _ | refine blk_drew ?_ | refine blk_alloc ?_ _)); exact BK178.out⟩, ⟨by repeat (first | (with_reducible first | exact HB.out | apply below_alloc | apply pw_below_drewN | apply below_drew1 | refine below_set ?_ GE178.out | refine below_set ?_ GE197.out) | exact HB.out)⟩⟩
                              · rw [if_neg c40] at H
                                exact absurd H (by simp)
                            · rw [if_neg c39] at H
                              exact absurd H (by simp)
                          · rw [if_neg c38] at H
                            have c38b0 : decide (x50_3 < (x7_2.length : Int)) = false := decide_eq_false c38
                            clear c38
                            by_cases c46 : x3_1.length + x7_2.length < 4398046511104
                            · rw [if_pos c46] at H
                              have LMc46 := Aside0.mk c46
                              clear c46
                              obtain ⟨y199, hy199⟩ : ∃ y_ : List (S26), y_ = (x3_1 ++ x7_2) := ⟨_, rfl⟩
                              replace H : (rect_Cover.l0 k3 y199 x4_3 y173 (y173.length : Int) (wrap64 (x21_1 + 1))) = some r := by first | (rw [hy199]; with_reducible exact H) | (have H2_ := (Option.bind_some _ _).symm.trans H; rw [hy199]; with_reducible exact H2_) | (have H2_ := (Option.bind_some _ _).symm.trans H; with_reducible exact H2_) | with_reducible exact H | (rw [hy199]; exact H) | exact H
                              have Ny199 := Aside0.mk hy199
                              clear hy199
                              have H' := Aside0.mk H
                              clear H
                              go_wp2_with (first | ((with_reducible refine gate_builtin (b := .append) (xs := #[.tmp 59, .tmp 60]) rfl ?_); at_builtin; refine Kd.R_append_rows k26 (w0 := w) w.heap.size rfl (.tmp 59) (.tmp 60) 22 26 (.agg #[(.int .i64 0), (.int .i64 0), (.int .i64 0), (.int .i64 0)]) 32 rfl Try.underlying22 info26 rfl (by decide) (by omega) (.slice Ao15 x3_1.length co15) x3_1 x7_2 _ _ _ (fun k_ => some k_ ≠ (.slice Ao37 x7_2.length co37 : Value).ownBlock ∧ some k_ ≠ (.slice Ao37 x7_2.length co37 : Value).ownBlock ∧ k_ ≠ gb178) (fun _ => False) rfl rfl ?aO ?aR (fun _ _ h => h) (fun _ h => h.elim) ?aF ?aB ?aS ?aL ?_; (case aR => repeat (first | exact (Kd.R_reads' HO_7.out).2.2 | (with_reducible refine Kd.C_alloc ?_ _) | (with_reducible refine Kd.C_drewN ?_ _) | (with_reducible refine Kd.C_drew ?_))); (case aB => exact (by repeat (first | (with_reducible first | exact HB.out | apply below_alloc | apply pw_below_drewN | apply below_drew1 | refine below_set ?_ GE178.out) | exact HB.out))); (case aF => exact (fun k_ hk => ⟨Kd.fresh' (Kd.R_lt (by (with_reducible repeat (first | apply Kd.R_alloc | apply Kd.R_drewN | apply Kd.R_drew)); exact HO_7.out)) k_ hk, Kd.fresh' (Kd.R_lt (by (with_reducible repeat (first | apply Kd.R_alloc | apply Kd.R_drewN | apply Kd.R_drew)); exact HO_48.out)) k_ hk, Kd.freshB (g := gb178) (o := .cells #[.int .i64 ((rd_T26 y173 x21_1).f0), .int .i64 ((rd_T26 y173 x21_1).f1), .int .i64 ((rd_T26 y173 x21_1).f2), .int .i64 ((rd_T26 y173 x21_1).f3)] 26 (0, 0)) (by (with_reducible repeat (first | refine blk_drewN ?_ _ | refine blk_drew ?_ | refine blk_alloc ?_ _)); exact BK178.out) k_ hk⟩)); (case aO => exact (by (with_reducible repeat (first | apply Kd.R_alloc | apply Kd.R_drewN | apply Kd.R_drew)); exact HO_3.out)); (case aS => exact (below_size (by repeat (first | (with_reducible first | exact HB.out | apply below_alloc | apply pw_below_drewN | apply below_drew1 | refine below_set ?_ GE178.out) | exact HB.out)))); (case aL => have := LMc46.out; omega); intro v200 w47 ho hb hg hat; rw [← Ny199.out] at ho; have n0_ := Aside0.mk (Kd.R_after (ok := (fun k_ => k_ ≠ gb178)) (by (with_reducible repeat (first | apply Kd.R_alloc | apply Kd.R_drewN | apply Kd.R_drew)); exact Kd.R_mono HO_7.out (fun _ hk => ⟨hk.2, hk.1⟩)) hg hat); have n1_ := Aside0.mk (Kd.R_after (ok := (fun k_ => k_ ≠ gb178)) (by (with_reducible repeat (first | apply Kd.R_alloc | apply Kd.R_drewN | apply Kd.R_drew)); exact Kd.R_mono HO_48.out (fun _ hk => ⟨hk.2, hk.1⟩)) hg hat); have n2_ := Aside0.mk (blk_grown (g := gb178) (o := .cells #[.int .i64 ((rd_T26 y173 x21_1).f0), .int .i64 ((rd_T26 y173 x21_1).f1), .int .i64 ((rd_T26 y173 x21_1).f2), .int .i64 ((rd_T26 y173 x21_1).f3)] 26 (0, 0)) (by (with_reducible repeat (first | refine blk_drewN ?_ _ | refine blk_drew ?_ | refine blk_alloc ?_ _)); exact BK178.out) hg (Kd.R_away HO_3.out (fun _ hk => hk.2.2))); have n3_ := Aside0.mk (hb); have n4_ := Aside0.mk (ho); clear HO_7; clear HO_48; clear BK178; clear HB; clear HO_3; have HO_7 := n0_; have HO_48 := n1_; have BK178 := n2_; have HB := n3_; have HO201 := n4_; clear n0_ n1_ n2_ n3_ n4_; clear ho hb hg hat))
                              go_roundg k3
                              case measure => have := HK1.out; have := HK2.out; have := HK3.out; omega
                              case rel => exact ⟨(y199), (x4_3), (wrap64 (x21_1 + 1)), (by first | rfl | (simp; done) | (simp [*]; done)), (by first | rfl | (simp; done) | (simp [*]; done)), H', ⟨by have := HK1.out; have := HK2.out; have := HK3.out; omega⟩, ⟨by (with_reducible repeat (first | apply Kd.R_alloc | apply Kd.R_drewN | apply Kd.R_drew)); exact Kd.R_mono HO201.out (fun _ hk => trivial)⟩, ⟨by repeat (first | (with_reducible first | exact HB.out | apply below_alloc | apply pw_below_drewN | apply below_drew1 | refine below_set ?_ GE178.out) | exact HB.out)⟩⟩
                            · rw [if_neg c46] at H
                              exact absurd H (by simp)
              · rw [if_neg c8] at H
                exact absurd H (by simp)
            · rw [if_neg c7] at H
              exact absurd H (by simp)
          · rw [if_neg c6] at H
            have c6b0 : decide (x21_1 < (y173.length : Int)) = false := decide_eq_false c6
            clear c6
            obtain rfl := Option.some.inj H
            go_wp2
            go_ret
            exact ⟨by first | rfl | (simp [errW_none, errW_some] <;> rfl) | (simp only [← hji2]; first | rfl | (simp [errW_none, errW_some] <;> rfl)) | (simp [*, errW_none, errW_some] <;> rfl), by repeat (first | (with_reducible first | exact HB.out | apply below_alloc | apply pw_below_drewN | apply below_drew1) | exact HB.out)⟩
    · rw [if_neg c4] at H
      exact absurd H (by simp)
  · rw [if_neg c3] at H
    exact absurd H (by simp)

end Go.Proofs.Ytmokmkaipcojkaa.Q
