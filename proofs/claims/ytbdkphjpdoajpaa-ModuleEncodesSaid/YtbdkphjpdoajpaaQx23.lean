-- written by a program of this session after the way of the kit's print; not the kit's own print. Lean checks it.
import Derived.Test.YtbdkphjpdoajpaaQx0
import Derived.Test.YtbdkphjpdoajpaaQx16
namespace Go.Proofs.Ytbdkphjpdoajpaa.Q
open Go.RowKit Go.Proofs.YtbdkphjpdoajpaaW.PrintWords Go.Proofs.YtbdkphjpdoajpaaW.PrintLast Go.Proofs.YtbdkphjpdoajpaaW.PrintMore
attribute [local go_sem] max2_int min2_int max_two min_two max_three min_three max_four min_four   -- for this text's walks alone
set_option linter.unusedVariables false
set_option linter.unusedSimpArgs false

/-! ### casementref12_Right: function 25 -/
mutual
def casementref12_Right.j0 : Nat → Bool → Int → List Int → List (S44) → Option (Bool)
  | 0, _, _, _, _ => none
  | k + 1, x34, x388000, x388001, x388002 => if x34 = true then (some false) else (casementref12_Right.l0 k 0 x388000 x388001 x388002)
def casementref12_Right.l0 : Nat → Int → Int → List Int → List (S44) → Option (Bool)
  | 0, _, _, _, _ => none
  | k + 1, x3, x388000, x388001, x388002 => if x3 < (x388002.length : Int) then (if 0 ≤ x3 then (if ((rd_T44 x388002 x3).f0) < 0 then (casementref12_Right.j2 k x3 true x388000 x388001 x388002 ((rd_T44 x388002 x3).f0) ((rd_T44 x388002 x3).f1) ((rd_T44 x388002 x3).f2) ((rd_T44 x388002 x3).f3)) else (if ((rd_T44 x388002 x3).f0) > 8 then (casementref12_Right.j2 k x3 true x388000 x388001 x388002 ((rd_T44 x388002 x3).f0) ((rd_T44 x388002 x3).f1) ((rd_T44 x388002 x3).f2) ((rd_T44 x388002 x3).f3)) else (if ((rd_T44 x388002 x3).f1) < 0 then (casementref12_Right.j2 k x3 true x388000 x388001 x388002 ((rd_T44 x388002 x3).f0) ((rd_T44 x388002 x3).f1) ((rd_T44 x388002 x3).f2) ((rd_T44 x388002 x3).f3)) else (if ((rd_T44 x388002 x3).f1) > 1 then (casementref12_Right.j2 k x3 true x388000 x388001 x388002 ((rd_T44 x388002 x3).f0) ((rd_T44 x388002 x3).f1) ((rd_T44 x388002 x3).f2) ((rd_T44 x388002 x3).f3)) else (if ((rd_T44 x388002 x3).f2) < 0 then (casementref12_Right.j2 k x3 true x388000 x388001 x388002 ((rd_T44 x388002 x3).f0) ((rd_T44 x388002 x3).f1) ((rd_T44 x388002 x3).f2) ((rd_T44 x388002 x3).f3)) else (if ((rd_T44 x388002 x3).f2) > 16 then (casementref12_Right.j2 k x3 true x388000 x388001 x388002 ((rd_T44 x388002 x3).f0) ((rd_T44 x388002 x3).f1) ((rd_T44 x388002 x3).f2) ((rd_T44 x388002 x3).f3)) else (if (wrap64 (((rd_T44 x388002 x3).f0) + ((rd_T44 x388002 x3).f2))) > 16 then (casementref12_Right.j2 k x3 true x388000 x388001 x388002 ((rd_T44 x388002 x3).f0) ((rd_T44 x388002 x3).f1) ((rd_T44 x388002 x3).f2) ((rd_T44 x388002 x3).f3)) else (if (((rd_T44 x388002 x3).f3).length : Int) = 0 then (casementref12_Right.j2 k x3 true x388000 x388001 x388002 ((rd_T44 x388002 x3).f0) ((rd_T44 x388002 x3).f1) ((rd_T44 x388002 x3).f2) ((rd_T44 x388002 x3).f3)) else (casementref12_Right.j2 k x3 (decide ((((rd_T44 x388002 x3).f3).length : Int) > 400)) x388000 x388001 x388002 ((rd_T44 x388002 x3).f0) ((rd_T44 x388002 x3).f1) ((rd_T44 x388002 x3).f2) ((rd_T44 x388002 x3).f3)))))))))) else (none)) else (some true)
def casementref12_Right.j2 : Nat → Int → Bool → Int → List Int → List (S44) → Int → Int → Int → List (S41) → Option (Bool)
  | 0, _, _, _, _, _, _, _, _, _ => none
  | k + 1, x3, x94, x388000, x388001, x388002, x390000, x390001, x390002, x390003 => if x94 = true then (some false) else (casementref12_Right.l1 k x3 0 x388000 x388001 x388002 x390000 x390001 x390002 x390003)
def casementref12_Right.l1 : Nat → Int → Int → Int → List Int → List (S44) → Int → Int → Int → List (S41) → Option (Bool)
  | 0, _, _, _, _, _, _, _, _, _ => none
  | k + 1, x3, x5, x388000, x388001, x388002, x390000, x390001, x390002, x390003 => if x5 < (x390003.length : Int) then (if 0 ≤ x5 then (if ((rd_T41 x390003 x5).f0) < 0 then (some false) else (if ((rd_T41 x390003 x5).f0) > 29 then (some false) else ((casementref12_Has.f ((rd_T41 x390003 x5).f0)).bind fun t392 => (if t392 = true then (casementref12_Right.l1 k x3 (wrap64 (x5 + 1)) x388000 x388001 x388002 x390000 x390001 x390002 x390003) else (if ((rd_T41 x390003 x5).f1) = 0 then (casementref12_Right.l1 k x3 (wrap64 (x5 + 1)) x388000 x388001 x388002 x390000 x390001 x390002 x390003) else (some false)))))) else (none)) else (casementref12_Right.l0 k (wrap64 (x3 + 1)) x388000 x388001 x388002)
end
def casementref12_Right.f (k : Nat) (a0_0 : Int) (l0_1 : List Int) (l0_2 : List (S44)) : Option (Bool) := if a0_0 < 0 then (casementref12_Right.j0 k true a0_0 l0_1 l0_2) else (if a0_0 > 1024 then (casementref12_Right.j0 k true a0_0 l0_1 l0_2) else (if (l0_1.length : Int) > a0_0 then (casementref12_Right.j0 k true a0_0 l0_1 l0_2) else (if (l0_2.length : Int) = 0 then (casementref12_Right.j0 k true a0_0 l0_1 l0_2) else (casementref12_Right.j0 k (decide ((l0_2.length : Int) > 16)) a0_0 l0_1 l0_2))))
theorem casementref12_Right.mono_l : ∀ k, (∀ y0 y1 y2 y3, LeO (casementref12_Right.j0 k y0 y1 y2 y3) (casementref12_Right.j0 (k + 1) y0 y1 y2 y3)) ∧ (∀ y0 y1 y2 y3, LeO (casementref12_Right.l0 k y0 y1 y2 y3) (casementref12_Right.l0 (k + 1) y0 y1 y2 y3)) ∧ (∀ y0 y1 y2 y3 y4 y5 y6 y7 y8, LeO (casementref12_Right.j2 k y0 y1 y2 y3 y4 y5 y6 y7 y8) (casementref12_Right.j2 (k + 1) y0 y1 y2 y3 y4 y5 y6 y7 y8)) ∧ (∀ y0 y1 y2 y3 y4 y5 y6 y7 y8, LeO (casementref12_Right.l1 k y0 y1 y2 y3 y4 y5 y6 y7 y8) (casementref12_Right.l1 (k + 1) y0 y1 y2 y3 y4 y5 y6 y7 y8))
  | 0 => ⟨fun _ _ _ _ r h => by simp [casementref12_Right.j0] at h, fun _ _ _ _ r h => by simp [casementref12_Right.l0] at h, fun _ _ _ _ _ _ _ _ _ r h => by simp [casementref12_Right.j2] at h, fun _ _ _ _ _ _ _ _ _ r h => by simp [casementref12_Right.l1] at h⟩
  | k + 1 => by
    obtain ⟨ih0, ih1, ih2, ih3⟩ := casementref12_Right.mono_l k
    refine ⟨?_, ?_, ?_, ?_⟩
    · intro y0 y1 y2 y3
      unfold casementref12_Right.j0
      repeat' first
      | (with_reducible exact ih0 _ _ _ _)
      | (with_reducible exact ih1 _ _ _ _)
      | (with_reducible exact ih2 _ _ _ _ _ _ _ _ _)
      | (with_reducible exact ih3 _ _ _ _ _ _ _ _ _)
      | (with_reducible exact LeO.refl _)
      | (with_reducible exact LeO.none _)
      | (with_reducible refine LeO.ite ?_ ?_)
      | (with_reducible refine LeO.bind ?_ (fun _ => ?_))
      | exact ih0 _ _ _ _
      | exact ih1 _ _ _ _
      | exact ih2 _ _ _ _ _ _ _ _ _
      | exact ih3 _ _ _ _ _ _ _ _ _
      | exact LeO.none _
      | refine LeO.ite ?_ ?_
      | refine LeO.bind ?_ (fun _ => ?_)
    · intro y0 y1 y2 y3
      unfold casementref12_Right.l0
      repeat' first
      | (with_reducible exact ih0 _ _ _ _)
      | (with_reducible exact ih1 _ _ _ _)
      | (with_reducible exact ih2 _ _ _ _ _ _ _ _ _)
      | (with_reducible exact ih3 _ _ _ _ _ _ _ _ _)
      | (with_reducible exact LeO.refl _)
      | (with_reducible exact LeO.none _)
      | (with_reducible refine LeO.ite ?_ ?_)
      | (with_reducible refine LeO.bind ?_ (fun _ => ?_))
      | exact ih0 _ _ _ _
      | exact ih1 _ _ _ _
      | exact ih2 _ _ _ _ _ _ _ _ _
      | exact ih3 _ _ _ _ _ _ _ _ _
      | exact LeO.none _
      | refine LeO.ite ?_ ?_
      | refine LeO.bind ?_ (fun _ => ?_)
    · intro y0 y1 y2 y3 y4 y5 y6 y7 y8
      unfold casementref12_Right.j2
      repeat' first
      | (with_reducible exact ih0 _ _ _ _)
      | (with_reducible exact ih1 _ _ _ _)
      | (with_reducible exact ih2 _ _ _ _ _ _ _ _ _)
      | (with_reducible exact ih3 _ _ _ _ _ _ _ _ _)
      | (with_reducible exact LeO.refl _)
      | (with_reducible exact LeO.none _)
      | (with_reducible refine LeO.ite ?_ ?_)
      | (with_reducible refine LeO.bind ?_ (fun _ => ?_))
      | exact ih0 _ _ _ _
      | exact ih1 _ _ _ _
      | exact ih2 _ _ _ _ _ _ _ _ _
      | exact ih3 _ _ _ _ _ _ _ _ _
      | exact LeO.none _
      | refine LeO.ite ?_ ?_
      | refine LeO.bind ?_ (fun _ => ?_)
    · intro y0 y1 y2 y3 y4 y5 y6 y7 y8
      unfold casementref12_Right.l1
      repeat' first
      | (with_reducible exact ih0 _ _ _ _)
      | (with_reducible exact ih1 _ _ _ _)
      | (with_reducible exact ih2 _ _ _ _ _ _ _ _ _)
      | (with_reducible exact ih3 _ _ _ _ _ _ _ _ _)
      | (with_reducible exact LeO.refl _)
      | (with_reducible exact LeO.none _)
      | (with_reducible refine LeO.ite ?_ ?_)
      | (with_reducible refine LeO.bind ?_ (fun _ => ?_))
      | exact ih0 _ _ _ _
      | exact ih1 _ _ _ _
      | exact ih2 _ _ _ _ _ _ _ _ _
      | exact ih3 _ _ _ _ _ _ _ _ _
      | exact LeO.none _
      | refine LeO.ite ?_ ?_
      | refine LeO.bind ?_ (fun _ => ?_)
theorem casementref12_Right.mono : ∀ a0 a1 a2 k, LeO (casementref12_Right.f k a0 a1 a2) (casementref12_Right.f (k + 1) a0 a1 a2) := by
  intro a0 a1 a2 k
  obtain ⟨ih0, ih1, ih2, ih3⟩ := casementref12_Right.mono_l k
  unfold casementref12_Right.f
  repeat' first
      | (with_reducible exact ih0 _ _ _ _)
      | (with_reducible exact ih1 _ _ _ _)
      | (with_reducible exact ih2 _ _ _ _ _ _ _ _ _)
      | (with_reducible exact ih3 _ _ _ _ _ _ _ _ _)
      | (with_reducible exact LeO.refl _)
      | (with_reducible exact LeO.none _)
      | (with_reducible refine LeO.ite ?_ ?_)
      | (with_reducible refine LeO.bind ?_ (fun _ => ?_))
      | exact ih0 _ _ _ _
      | exact ih1 _ _ _ _
      | exact ih2 _ _ _ _ _ _ _ _ _
      | exact ih3 _ _ _ _ _ _ _ _ _
      | exact LeO.none _
      | refine LeO.ite ?_ ?_
      | refine LeO.bind ?_ (fun _ => ?_)
set_option maxHeartbeats 8000000 in
set_option maxRecDepth 100000 in
theorem casementref12_Right.calls (k : Nat) (a0_0 : Int) (A0_1 : Option Addr) (c0_1 : Nat) (l0_1 : List Int) (A0_2 : Option Addr) (c0_2 : Nat) (l0_2 : List (S44)) (r : Bool) (w : World) (hr0_1 : Kd.C (Kd.int .u8) w A0_1 l0_1.length l0_1) (hc0_1 : l0_1.length ≤ c0_1) (hr0_2 : Kd.C k44 w A0_2 l0_2.length l0_2) (hc0_2 : l0_2.length ≤ c0_2) (h : casementref12_Right.f k a0_0 l0_1 l0_2 = some r) :
    Calls Try.prog 25 #[.agg #[.int .i64 a0_0, .slice A0_1 l0_1.length c0_1, .slice A0_2 l0_2.length c0_2]] w fun e w' => e = .returned (.bool r) ∧ Below w.heap.size w w' := by
  have hu26 := Try.underlying26
  have hu44 := Try.underlying44
  have hu41 := Try.underlying41
  have HR0_1 := Aside0.mk hr0_1
  have HC0_1 := Aside0.mk hc0_1
  clear hr0_1 hc0_1
  have HR0_2 := Aside0.mk hr0_2
  have HC0_2 := Aside0.mk hc0_2
  clear hr0_2 hc0_2
  have HB := Aside0.mk (Below.refl w.heap.size w)
  have H : (if a0_0 < 0 then (casementref12_Right.j0 k true a0_0 l0_1 l0_2) else (if a0_0 > 1024 then (casementref12_Right.j0 k true a0_0 l0_1 l0_2) else (if (l0_1.length : Int) > a0_0 then (casementref12_Right.j0 k true a0_0 l0_1 l0_2) else (if (l0_2.length : Int) = 0 then (casementref12_Right.j0 k true a0_0 l0_1 l0_2) else (casementref12_Right.j0 k (decide ((l0_2.length : Int) > 16)) a0_0 l0_1 l0_2))))) = some r := h
  clear h
  have HC2 := Aside0.mk H
  clear H
  go_enter Try.func25, Try.ntmps25
  go_upto_region 1 with (first | ((with_reducible refine gate_dst (N := 1) rfl ?_); (try (refine gate_guard (by rfl) ?_; dsimp only)); refine box_event ?hg (N := 1) ?hd (cs := #[.int .i64 a0_0, .slice A0_1 l0_1.length c0_1, .slice A0_2 l0_2.length c0_2]) (t := 26) ?hr ?_; (case hd => rfl); (case hg => rfl); (case hr => first | (go_simp; done) | (go_simp; rfl)); intro gb387 hg w3 hbox hb; have n0_ := Aside0.mk (below_step (by repeat (first | (with_reducible first | exact HB.out | apply below_alloc | apply pw_below_drewN | apply below_drew1) | exact HB.out)) hb); have n1_ := Aside0.mk (hbox); have n2_ := Aside0.mk ((by rw [hg]; exact (below_size (by repeat (first | (with_reducible first | exact HB.out | apply below_alloc | apply pw_below_drewN | apply below_drew1) | exact HB.out))) : w.heap.size ≤ gb387)); have n3_ := Aside0.mk ((by rw [hg]; exact (below_size (by repeat (first | (with_reducible first | exact HB.out | apply below_alloc | apply pw_below_drewN | apply below_drew1) | exact HB.out))) : w.heap.size ≤ gb387)); clear HB; have HB := n0_; have BK387 := n1_; have GW387 := n2_; have GE387 := n3_; clear n0_ n1_ n2_ n3_; clear hb hbox hg))
  (try simp only [Act.put, List.setIfInBounds_toArray, List.set_cons_zero, List.set_cons_succ])
  go_cut [34] (fun v34 wc => ∃ (kq : Nat) (x34_1 : Bool), v34 = .bool x34_1 ∧ Aside0 (casementref12_Right.j0 kq x34_1 a0_0 l0_1 l0_2 = some r) ∧ Aside0 (kq ≤ k) ∧ Aside0 (wc.heap[gb387]? = some (.cells #[.int .i64 a0_0, (.slice A0_1 l0_1.length c0_1), (.slice A0_2 l0_2.length c0_2)] 26 (0, 0))) ∧ Aside0 (Below w.heap.size w wc))
  case first =>
    have H := HC2.out
    clear HC2
    by_cases c4 : a0_0 < 0
    · rw [if_pos c4] at H
      have c4b0 : decide (a0_0 < 0) = true := decide_eq_true c4
      clear c4
      (first | rw [c4b0] | (simp only [i64_w, i32_w]; rw [c4b0]) | skip)
      have H' := Aside0.mk H
      clear H
      have hcz5_0 : w3.cell? ⟨gb387, 0, none⟩ = some (.int .i64 a0_0) := (blk_cell BK387.out 0).trans rfl
      have hcz5_1 : w3.cell? ⟨gb387, 1, none⟩ = some (.slice A0_1 l0_1.length c0_1) := (blk_cell BK387.out 1).trans rfl
      have hcz5_2 : w3.cell? ⟨gb387, 2, none⟩ = some (.slice A0_2 l0_2.length c0_2) := (blk_cell BK387.out 2).trans rfl
      have hfz5_0 := blk_frozen BK387.out 0
      have hfz5_1 := blk_frozen BK387.out 1
      have hfz5_2 := blk_frozen BK387.out 2
      go_wp2
      go_meet
      case rel => exact ⟨_, (true), (by first | rfl | (simp; done) | (simp [*]; done)), H', ⟨by first | omega | exact Nat.le_refl _⟩, ⟨by (with_reducible repeat (first | refine blk_drewN ?_ _ | refine blk_drew ?_ | refine blk_alloc ?_ _)); exact BK387.out⟩, ⟨by repeat (first | (with_reducible first | exact HB.out | apply below_alloc | apply pw_below_drewN | apply below_drew1 | refine below_set ?_ GE387.out) | exact HB.out)⟩⟩
    · rw [if_neg c4] at H
      have c4b0 : decide (a0_0 < 0) = false := decide_eq_false c4
      clear c4
      (first | rw [c4b0] | (simp only [i64_w, i32_w]; rw [c4b0]) | skip)
      by_cases c6 : a0_0 > 1024
      · rw [if_pos c6] at H
        have c6b0 : decide (1024 < a0_0) = true := decide_eq_true c6
        clear c6
        have H' := Aside0.mk H
        clear H
        have hcz7_0 : w3.cell? ⟨gb387, 0, none⟩ = some (.int .i64 a0_0) := (blk_cell BK387.out 0).trans rfl
        have hcz7_1 : w3.cell? ⟨gb387, 1, none⟩ = some (.slice A0_1 l0_1.length c0_1) := (blk_cell BK387.out 1).trans rfl
        have hcz7_2 : w3.cell? ⟨gb387, 2, none⟩ = some (.slice A0_2 l0_2.length c0_2) := (blk_cell BK387.out 2).trans rfl
        have hfz7_0 := blk_frozen BK387.out 0
        have hfz7_1 := blk_frozen BK387.out 1
        have hfz7_2 := blk_frozen BK387.out 2
        go_wp2
        go_meet
        case rel => exact ⟨_, (true), (by first | rfl | (simp; done) | (simp [*]; done)), H', ⟨by first | omega | exact Nat.le_refl _⟩, ⟨by (with_reducible repeat (first | refine blk_drewN ?_ _ | refine blk_drew ?_ | refine blk_alloc ?_ _)); exact BK387.out⟩, ⟨by repeat (first | (with_reducible first | exact HB.out | apply below_alloc | apply pw_below_drewN | apply below_drew1 | refine below_set ?_ GE387.out) | exact HB.out)⟩⟩
      · rw [if_neg c6] at H
        have c6b0 : decide (1024 < a0_0) = false := decide_eq_false c6
        clear c6
        by_cases c8 : (l0_1.length : Int) > a0_0
        · rw [if_pos c8] at H
          have c8b0 : decide (a0_0 < (l0_1.length : Int)) = true := decide_eq_true c8
          clear c8
          have H' := Aside0.mk H
          clear H
          have hcz9_0 : w3.cell? ⟨gb387, 0, none⟩ = some (.int .i64 a0_0) := (blk_cell BK387.out 0).trans rfl
          have hcz9_1 : w3.cell? ⟨gb387, 1, none⟩ = some (.slice A0_1 l0_1.length c0_1) := (blk_cell BK387.out 1).trans rfl
          have hcz9_2 : w3.cell? ⟨gb387, 2, none⟩ = some (.slice A0_2 l0_2.length c0_2) := (blk_cell BK387.out 2).trans rfl
          have hfz9_0 := blk_frozen BK387.out 0
          have hfz9_1 := blk_frozen BK387.out 1
          have hfz9_2 := blk_frozen BK387.out 2
          go_wp2
          go_meet
          case rel => exact ⟨_, (true), (by first | rfl | (simp; done) | (simp [*]; done)), H', ⟨by first | omega | exact Nat.le_refl _⟩, ⟨by (with_reducible repeat (first | refine blk_drewN ?_ _ | refine blk_drew ?_ | refine blk_alloc ?_ _)); exact BK387.out⟩, ⟨by repeat (first | (with_reducible first | exact HB.out | apply below_alloc | apply pw_below_drewN | apply below_drew1 | refine below_set ?_ GE387.out) | exact HB.out)⟩⟩
        · rw [if_neg c8] at H
          have c8b0 : decide (a0_0 < (l0_1.length : Int)) = false := decide_eq_false c8
          clear c8
          by_cases c10 : (l0_2.length : Int) = 0
          · rw [if_pos c10] at H
            have c10b0 : ((l0_2.length : Int) == 0) = true := beq_iff_eq.mpr c10
            have c10b1 : ((l0_2.length : Int) != 0) = false := bne_eq_false_iff_eq.mpr c10
            clear c10
            have H' := Aside0.mk H
            clear H
            have hcz11_0 : w3.cell? ⟨gb387, 0, none⟩ = some (.int .i64 a0_0) := (blk_cell BK387.out 0).trans rfl
            have hcz11_1 : w3.cell? ⟨gb387, 1, none⟩ = some (.slice A0_1 l0_1.length c0_1) := (blk_cell BK387.out 1).trans rfl
            have hcz11_2 : w3.cell? ⟨gb387, 2, none⟩ = some (.slice A0_2 l0_2.length c0_2) := (blk_cell BK387.out 2).trans rfl
            have hfz11_0 := blk_frozen BK387.out 0
            have hfz11_1 := blk_frozen BK387.out 1
            have hfz11_2 := blk_frozen BK387.out 2
            go_wp2
            go_meet
            case rel => exact ⟨_, (true), (by first | rfl | (simp; done) | (simp [*]; done)), H', ⟨by first | omega | exact Nat.le_refl _⟩, ⟨by (with_reducible repeat (first | refine blk_drewN ?_ _ | refine blk_drew ?_ | refine blk_alloc ?_ _)); exact BK387.out⟩, ⟨by repeat (first | (with_reducible first | exact HB.out | apply below_alloc | apply pw_below_drewN | apply below_drew1 | refine below_set ?_ GE387.out) | exact HB.out)⟩⟩
          · rw [if_neg c10] at H
            have c10b0 : ((l0_2.length : Int) == 0) = false := beq_eq_false_iff_ne.mpr c10
            have c10b1 : ((l0_2.length : Int) != 0) = true := bne_iff_ne.mpr c10
            have c10b2 : ¬ (l0_2 = []) := fun h_ => c10 (by rw [h_]; rfl)
            have H' := Aside0.mk H
            clear H
            have hcz12_0 : w3.cell? ⟨gb387, 0, none⟩ = some (.int .i64 a0_0) := (blk_cell BK387.out 0).trans rfl
            have hcz12_1 : w3.cell? ⟨gb387, 1, none⟩ = some (.slice A0_1 l0_1.length c0_1) := (blk_cell BK387.out 1).trans rfl
            have hcz12_2 : w3.cell? ⟨gb387, 2, none⟩ = some (.slice A0_2 l0_2.length c0_2) := (blk_cell BK387.out 2).trans rfl
            have hfz12_0 := blk_frozen BK387.out 0
            have hfz12_1 := blk_frozen BK387.out 1
            have hfz12_2 := blk_frozen BK387.out 2
            go_wp2
            go_meet
            case rel => exact ⟨_, (decide ((l0_2.length : Int) > 16)), (by first | rfl | (simp; done) | (simp [*]; done)), H', ⟨by first | omega | exact Nat.le_refl _⟩, ⟨by (with_reducible repeat (first | refine blk_drewN ?_ _ | refine blk_drew ?_ | refine blk_alloc ?_ _)); exact BK387.out⟩, ⟨by repeat (first | (with_reducible first | exact HB.out | apply below_alloc | apply pw_below_drewN | apply below_drew1 | refine below_set ?_ GE387.out) | exact HB.out)⟩⟩
  case rest =>
    clear HC2
    try clear c1
    try clear c2
    try clear p2
    try clear c4
    try clear c4b0
    try clear c6
    try clear c6b0
    try clear c8
    try clear c8b0
    try clear c10
    try clear c10b0
    try clear c10b1
    try clear c10b2
    try clear hcz11_0
    try clear hcz11_1
    try clear hcz11_2
    try clear hcz12_0
    try clear hcz12_1
    try clear hcz12_2
    try clear hcz5_0
    try clear hcz5_1
    try clear hcz5_2
    try clear hcz7_0
    try clear hcz7_1
    try clear hcz7_2
    try clear hcz9_0
    try clear hcz9_1
    try clear hcz9_2
    try clear hfz11_0
    try clear hfz11_1
    try clear hfz11_2
    try clear hfz12_0
    try clear hfz12_1
    try clear hfz12_2
    try clear hfz5_0
    try clear hfz5_1
    try clear hfz5_2
    try clear hfz7_0
    try clear hfz7_1
    try clear hfz7_2
    try clear hfz9_0
    try clear hfz9_1
    try clear hfz9_2
    obtain ⟨kq, x34_1, rfl, HA, HJ1, BK387, HB⟩ := hcut
    cases kq with
    | zero => exact absurd HA.out (by simp [casementref12_Right.j0])
    | succ kj1 =>
      have H := HA.out
      clear HA
      simp only [casementref12_Right.j0] at H
      by_cases c13 : x34_1 = true
      · subst c13
        have H1 : (some false) = some r := by rw [if_pos rfl] at H; exact H
        clear H
        have H := H1
        clear H1
        obtain rfl := Option.some.inj H
        go_wp2
        go_ret
        exact ⟨by first | rfl | (simp [errW_none, errW_some] <;> rfl) | (simp [*, errW_none, errW_some] <;> rfl), by repeat (first | (with_reducible first | exact HB.out | apply below_alloc | apply pw_below_drewN | apply below_drew1 | refine below_set ?_ GE387.out) | exact HB.out)⟩
      · replace c13 := Bool.eq_false_iff.mpr c13
        subst c13
        have H1 : (casementref12_Right.l0 kj1 0 a0_0 l0_1 l0_2) = some r := by rw [if_neg (show ¬ (false = true) by decide)] at H; exact H
        clear H
        have H := H1
        clear H1
        have H' := Aside0.mk H
        clear H
        go_wp2
        go_loopg [3] kj1 (fun kq v3 w' => ∃ (x3_2 : Int), v3 = .int .i64 x3_2 ∧ Aside0 (casementref12_Right.l0 kq x3_2 a0_0 l0_1 l0_2 = some r) ∧ Aside0 (kq ≤ kj1) ∧ Aside0 (w'.heap[gb387]? = some (.cells #[.int .i64 a0_0, (.slice A0_1 l0_1.length c0_1), (.slice A0_2 l0_2.length c0_2)] 26 (0, 0))) ∧ Aside0 (Below w.heap.size w w'))
        case atStart => exact ⟨(0), (by first | rfl | (simp; done) | (simp [*]; done)), H', ⟨Nat.le_refl _⟩, ⟨by (with_reducible repeat (first | refine blk_drewN ?_ _ | refine blk_drew ?_ | refine blk_alloc ?_ _)); exact BK387.out⟩, ⟨by repeat (first | (with_reducible first | exact HB.out | apply below_alloc | apply pw_below_drewN | apply below_drew1 | refine below_set ?_ GE387.out) | exact HB.out)⟩⟩
        case round =>
          clear H'
          try clear c1
          try clear c2
          try clear p2
          try clear c4
          try clear c4b0
          try clear c6
          try clear c6b0
          try clear c8
          try clear c8b0
          try clear c10
          try clear c10b0
          try clear c10b1
          try clear c10b2
          try clear c13
          try clear hcz11_0
          try clear hcz11_1
          try clear hcz11_2
          try clear hcz12_0
          try clear hcz12_1
          try clear hcz12_2
          try clear hcz5_0
          try clear hcz5_1
          try clear hcz5_2
          try clear hcz7_0
          try clear hcz7_1
          try clear hcz7_2
          try clear hcz9_0
          try clear hcz9_1
          try clear hcz9_2
          try clear hfz11_0
          try clear hfz11_1
          try clear hfz11_2
          try clear hfz12_0
          try clear hfz12_1
          try clear hfz12_2
          try clear hfz5_0
          try clear hfz5_1
          try clear hfz5_2
          try clear hfz7_0
          try clear hfz7_1
          try clear hfz7_2
          try clear hfz9_0
          try clear hfz9_1
          try clear hfz9_2
          try clear p2
          obtain ⟨x3_2, rfl, HA, HK2, BK387, HB⟩ := hrel
          cases gk with
          | zero => exact absurd HA.out (by simp [casementref12_Right.l0])
          | succ k2 =>
            have H := HA.out
            clear HA
            simp only [casementref12_Right.l0] at H
            by_cases c14 : x3_2 < (l0_2.length : Int)
            · rw [if_pos c14] at H
              have c14b0 : decide (x3_2 < (l0_2.length : Int)) = true := decide_eq_true c14
              clear c14
              by_cases c15 : 0 ≤ x3_2
              · rw [if_pos c15] at H
                have c15b0 : decide (0 ≤ x3_2) = true := decide_eq_true c15
                clear c15
                have HC16 := Aside0.mk H
                clear H
                have hcz17_0 : wr.cell? ⟨gb387, 0, none⟩ = some (.int .i64 a0_0) := (blk_cell BK387.out 0).trans rfl
                have hcz17_1 : wr.cell? ⟨gb387, 1, none⟩ = some (.slice A0_1 l0_1.length c0_1) := (blk_cell BK387.out 1).trans rfl
                have hcz17_2 : wr.cell? ⟨gb387, 2, none⟩ = some (.slice A0_2 l0_2.length c0_2) := (blk_cell BK387.out 2).trans rfl
                have hfz17_0 := blk_frozen BK387.out 0
                have hfz17_1 := blk_frozen BK387.out 1
                have hfz17_2 := blk_frozen BK387.out 2
                have p388 : 0 ≤ (x3_2 : Int) := of_decide_eq_true (by first | (with_reducible assumption) | assumption)
                have q388 : x3_2 < (l0_2.length : Int) := of_decide_eq_true (by first | (with_reducible assumption) | assumption)
                obtain ⟨ad388, A388_3, c388_3, e388, hx388_0, hx388_1, hx388_2, hx388_3, hl388_3, hi388_3⟩ := at_T44 HR0_2.out x3_2 p388 q388
                cases e388
                replace hx388_0 := (HB.out.cell (World.block_lt_of_cell? w _ hx388_0)).trans hx388_0
                replace hx388_1 := (HB.out.cell (World.block_lt_of_cell? w _ hx388_1)).trans hx388_1
                replace hx388_2 := (HB.out.cell (World.block_lt_of_cell? w _ hx388_2)).trans hx388_2
                replace hx388_3 := (HB.out.cell (World.block_lt_of_cell? w _ hx388_3)).trans hx388_3
                have HR388_3 := Aside0.mk hi388_3
                have HC388_3 := Aside0.mk hl388_3
                clear hi388_3 hl388_3
                replace p388 := eq_true p388
                replace q388 := eq_true q388
                go_upto_region 7 with (first | ((with_reducible refine gate_dst (N := 4) rfl ?_); (try (refine gate_guard (by rfl) ?_; dsimp only)); refine box_event ?hg (N := 4) ?hd (cs := #[.int .i64 0, .int .i64 0, .int .i64 0, .slice none 0 0]) (t := 44) ?hr ?_; (case hd => rfl); (case hg => rfl); (case hr => first | (go_simp; done) | (go_simp; rfl)); intro gb389 hg w18 hbox hb; have n0_ := Aside0.mk (blk_below (g := gb387) (o := .cells #[.int .i64 a0_0, .slice A0_1 l0_1.length c0_1, .slice (some ad388) l0_2.length c0_2] 26 (0, 0)) (by (with_reducible repeat (first | refine blk_drewN ?_ _ | refine blk_drew ?_ | refine blk_alloc ?_ _)); exact BK387.out) hb); have n1_ := Aside0.mk (below_step (by repeat (first | (with_reducible first | exact HB.out | apply below_alloc | apply pw_below_drewN | apply below_drew1 | refine below_set ?_ GE387.out) | exact HB.out)) hb); have n2_ := Aside0.mk (hbox); have n3_ := Aside0.mk ((by rw [hg]; exact (below_size (by repeat (first | (with_reducible first | exact HB.out | apply below_alloc | apply pw_below_drewN | apply below_drew1 | refine below_set ?_ GE387.out) | exact HB.out))) : w.heap.size ≤ gb389)); have n4_ := Aside0.mk ((by rw [hg]; exact (below_size (by repeat (first | (with_reducible first | exact HB.out | apply below_alloc | apply pw_below_drewN | apply below_drew1 | refine below_set ?_ GE387.out) | exact HB.out))) : w.heap.size ≤ gb389)); have n5_ := Aside0.mk ((by rw [hg]; exact Nat.ne_of_lt (blk_lt (g := gb387) (o := .cells #[.int .i64 a0_0, .slice A0_1 l0_1.length c0_1, .slice (some ad388) l0_2.length c0_2] 26 (0, 0)) (by (with_reducible repeat (first | refine blk_drewN ?_ _ | refine blk_drew ?_ | refine blk_alloc ?_ _)); exact BK387.out)) : gb387 ≠ gb389)); have n6_ := Aside0.mk ((by rw [hg]; exact Nat.ne_of_gt (blk_lt (g := gb387) (o := .cells #[.int .i64 a0_0, .slice A0_1 l0_1.length c0_1, .slice (some ad388) l0_2.length c0_2] 26 (0, 0)) (by (with_reducible repeat (first | refine blk_drewN ?_ _ | refine blk_drew ?_ | refine blk_alloc ?_ _)); exact BK387.out)) : gb389 ≠ gb387)); clear BK387; clear HB; have BK387 := n0_; have HB := n1_; have BK389 := n2_; have GW389 := n3_; have GE389 := n4_; have NB387_389 := n5_; have NB389_387 := n6_; clear n0_ n1_ n2_ n3_ n4_ n5_ n6_; clear hb hbox hg; have hnb19 := NB389_387.out; have hnc19 := NB387_389.out; have hcz20_0 : w18.cell? ⟨gb389, 0, none⟩ = some (.int .i64 0) := (blk_cell BK389.out 0).trans rfl; have hcz20_1 : w18.cell? ⟨gb389, 1, none⟩ = some (.int .i64 0) := (blk_cell BK389.out 1).trans rfl; have hcz20_2 : w18.cell? ⟨gb389, 2, none⟩ = some (.int .i64 0) := (blk_cell BK389.out 2).trans rfl; have hcz20_3 : w18.cell? ⟨gb389, 3, none⟩ = some (.slice none 0 0) := (blk_cell BK389.out 3).trans rfl; have hfz20_0 := blk_frozen BK389.out 0; have hfz20_1 := blk_frozen BK389.out 1; have hfz20_2 := blk_frozen BK389.out 2; have hfz20_3 := blk_frozen BK389.out 3))
                (try simp only [Act.put, List.setIfInBounds_toArray, List.set_cons_zero, List.set_cons_succ])
                go_cut [94] (fun v94 wc => ∃ (kq : Nat) (x94_15 : Bool), v94 = .bool x94_15 ∧ Aside0 (casementref12_Right.j2 kq x3_2 x94_15 a0_0 l0_1 l0_2 ((rd_T44 l0_2 x3_2).f0) ((rd_T44 l0_2 x3_2).f1) ((rd_T44 l0_2 x3_2).f2) ((rd_T44 l0_2 x3_2).f3) = some r) ∧ Aside0 (kq ≤ k2) ∧ Aside0 (wc.heap[gb387]? = some (.cells #[.int .i64 a0_0, (.slice A0_1 l0_1.length c0_1), (.slice (some ad388) l0_2.length c0_2)] 26 (0, 0))) ∧ Aside0 (wc.heap[gb389]? = some (.cells #[.int .i64 ((rd_T44 l0_2 x3_2).f0), .int .i64 ((rd_T44 l0_2 x3_2).f1), .int .i64 ((rd_T44 l0_2 x3_2).f2), (.slice A388_3 ((rd_T44 l0_2 x3_2).f3).length c388_3)] 44 (0, 0))) ∧ Aside0 (Below w.heap.size w wc))
                case first =>
                  have H := HC16.out
                  clear HC16
                  by_cases c21 : ((rd_T44 l0_2 x3_2).f0) < 0
                  · rw [if_pos c21] at H
                    have c21b0 : decide (((rd_T44 l0_2 x3_2).f0) < 0) = true := decide_eq_true c21
                    clear c21
                    (first | rw [c21b0] | (simp only [i64_w, i32_w]; rw [c21b0]) | skip)
                    have H' := Aside0.mk H
                    clear H
                    have hnb22 := NB389_387.out
                    have hnc22 := NB387_389.out
                    have hcz23_0 : w18.cell? ⟨gb389, 0, none⟩ = some (.int .i64 0) := (blk_cell BK389.out 0).trans rfl
                    have hcz23_1 : w18.cell? ⟨gb389, 1, none⟩ = some (.int .i64 0) := (blk_cell BK389.out 1).trans rfl
                    have hcz23_2 : w18.cell? ⟨gb389, 2, none⟩ = some (.int .i64 0) := (blk_cell BK389.out 2).trans rfl
                    have hcz23_3 : w18.cell? ⟨gb389, 3, none⟩ = some (.slice none 0 0) := (blk_cell BK389.out 3).trans rfl
                    have hfz23_0 := blk_frozen BK389.out 0
                    have hfz23_1 := blk_frozen BK389.out 1
                    have hfz23_2 := blk_frozen BK389.out 2
                    have hfz23_3 := blk_frozen BK389.out 3
                    go_wp2
                    go_meet
                    case rel => exact ⟨_, (true), (by first | rfl | (simp; done) | (simp [*]; done)), H', ⟨by have := HJ1.out; have := HK2.out; first | omega | exact Nat.le_refl _⟩, ⟨by (with_reducible repeat (first | refine blk_drewN ?_ _ | refine blk_drew ?_ | refine blk_alloc ?_ _)); refine blk_far ?_ NB387_389.out _; (with_reducible repeat (first | refine blk_drewN ?_ _ | refine blk_drew ?_ | refine blk_alloc ?_ _)); refine blk_far ?_ NB387_389.out _; (with_reducible repeat (first | refine blk_drewN ?_ _ | refine blk_drew ?_ | refine blk_alloc ?_ _)); refine blk_far ?_ NB387_389.out _; (with_reducible repeat (first | refine blk_drewN ?_ _ | refine blk_drew ?_ | refine blk_alloc ?_ _)); refine blk_far ?_ NB387_389.out _; (with_reducible repeat (first | refine blk_drewN ?_ _ | refine blk_drew ?_ | refine blk_alloc ?_ _)); exact BK387.out⟩, ⟨by (with_reducible repeat (first | refine blk_drewN ?_ _ | refine blk_drew ?_ | refine blk_alloc ?_ _)); refine blk_put (cs := #[.int .i64 ((rd_T44 l0_2 x3_2).f0), .int .i64 ((rd_T44 l0_2 x3_2).f1), .int .i64 ((rd_T44 l0_2 x3_2).f2), .slice none 0 0]) ?_ 3 _ rfl; (with_reducible repeat (first | refine blk_drewN ?_ _ | refine blk_drew ?_ | refine blk_alloc ?_ _)); refine blk_put (cs := #[.int .i64 ((rd_T44 l0_2 x3_2).f0), .int .i64 ((rd_T44 l0_2 x3_2).f1), .int .i64 0, .slice none 0 0]) ?_ 2 _ rfl; (with_reducible repeat (first | refine blk_drewN ?_ _ | refine blk_drew ?_ | refine blk_alloc ?_ _)); refine blk_put (cs := #[.int .i64 ((rd_T44 l0_2 x3_2).f0), .int .i64 0, .int .i64 0, .slice none 0 0]) ?_ 1 _ rfl; (with_reducible repeat (first | refine blk_drewN ?_ _ | refine blk_drew ?_ | refine blk_alloc ?_ _)); refine blk_put (cs := #[.int .i64 0, .int .i64 0, .int .i64 0, .slice none 0 0]) ?_ 0 _ rfl; (with_reducible repeat (first | refine blk_drewN ?_ _ | refine blk_drew ?_ | refine blk_alloc ?_ _)); exact BK389.out⟩, ⟨by repeat (first | (with_reducible first | exact HB.out | apply below_alloc | apply pw_below_drewN | apply below_drew1 | refine below_set ?_ GE387.out | refine below_set ?_ GE389.out) | exact HB.out)⟩⟩
                  · rw [if_neg c21] at H
                    have c21b0 : decide (((rd_T44 l0_2 x3_2).f0) < 0) = false := decide_eq_false c21
                    clear c21
                    (first | rw [c21b0] | (simp only [i64_w, i32_w]; rw [c21b0]) | skip)
                    by_cases c24 : ((rd_T44 l0_2 x3_2).f0) > 8
                    · rw [if_pos c24] at H
                      have c24b0 : decide (8 < ((rd_T44 l0_2 x3_2).f0)) = true := decide_eq_true c24
                      clear c24
                      have H' := Aside0.mk H
                      clear H
                      have hnb25 := NB389_387.out
                      have hnc25 := NB387_389.out
                      have hcz26_0 : w18.cell? ⟨gb389, 0, none⟩ = some (.int .i64 0) := (blk_cell BK389.out 0).trans rfl
                      have hcz26_1 : w18.cell? ⟨gb389, 1, none⟩ = some (.int .i64 0) := (blk_cell BK389.out 1).trans rfl
                      have hcz26_2 : w18.cell? ⟨gb389, 2, none⟩ = some (.int .i64 0) := (blk_cell BK389.out 2).trans rfl
                      have hcz26_3 : w18.cell? ⟨gb389, 3, none⟩ = some (.slice none 0 0) := (blk_cell BK389.out 3).trans rfl
                      have hfz26_0 := blk_frozen BK389.out 0
                      have hfz26_1 := blk_frozen BK389.out 1
                      have hfz26_2 := blk_frozen BK389.out 2
                      have hfz26_3 := blk_frozen BK389.out 3
                      go_wp2
                      go_meet
                      case rel => exact ⟨_, (true), (by first | rfl | (simp; done) | (simp [*]; done)), H', ⟨by have := HJ1.out; have := HK2.out; first | omega | exact Nat.le_refl _⟩, ⟨by (with_reducible repeat (first | refine blk_drewN ?_ _ | refine blk_drew ?_ | refine blk_alloc ?_ _)); refine blk_far ?_ NB387_389.out _; (with_reducible repeat (first | refine blk_drewN ?_ _ | refine blk_drew ?_ | refine blk_alloc ?_ _)); refine blk_far ?_ NB387_389.out _; (with_reducible repeat (first | refine blk_drewN ?_ _ | refine blk_drew ?_ | refine blk_alloc ?_ _)); refine blk_far ?_ NB387_389.out _; (with_reducible repeat (first | refine blk_drewN ?_ _ | refine blk_drew ?_ | refine blk_alloc ?_ _)); refine blk_far ?_ NB387_389.out _; (with_reducible repeat (first | refine blk_drewN ?_ _ | refine blk_drew ?_ | refine blk_alloc ?_ _)); exact BK387.out⟩, ⟨by (with_reducible repeat (first | refine blk_drewN ?_ _ | refine blk_drew ?_ | refine blk_alloc ?_ _)); refine blk_put (cs := #[.int .i64 ((rd_T44 l0_2 x3_2).f0), .int .i64 ((rd_T44 l0_2 x3_2).f1), .int .i64 ((rd_T44 l0_2 x3_2).f2), .slice none 0 0]) ?_ 3 _ rfl; (with_reducible repeat (first | refine blk_drewN ?_ _ | refine blk_drew ?_ | refine blk_alloc ?_ _)); refine blk_put (cs := #[.int .i64 ((rd_T44 l0_2 x3_2).f0), .int .i64 ((rd_T44 l0_2 x3_2).f1), .int .i64 0, .slice none 0 0]) ?_ 2 _ rfl; (with_reducible repeat (first | refine blk_drewN ?_ _ | refine blk_drew ?_ | refine blk_alloc ?_ _)); refine blk_put (cs := #[.int .i64 ((rd_T44 l0_2 x3_2).f0), .int .i64 0, .int .i64 0, .slice none 0 0]) ?_ 1 _ rfl; (with_reducible repeat (first | refine blk_drewN ?_ _ | refine blk_drew ?_ | refine blk_alloc ?_ _)); refine blk_put (cs := #[.int .i64 0, .int .i64 0, .int .i64 0, .slice none 0 0]) ?_ 0 _ rfl; (with_reducible repeat (first | refine blk_drewN ?_ _ | refine blk_drew ?_ | refine blk_alloc ?_ _)); exact BK389.out⟩, ⟨by repeat (first | (with_reducible first | exact HB.out | apply below_alloc | apply pw_below_drewN | apply below_drew1 | refine below_set ?_ GE387.out | refine below_set ?_ GE389.out) | exact HB.out)⟩⟩
                    · rw [if_neg c24] at H
                      have c24b0 : decide (8 < ((rd_T44 l0_2 x3_2).f0)) = false := decide_eq_false c24
                      clear c24
                      by_cases c27 : ((rd_T44 l0_2 x3_2).f1) < 0
                      · rw [if_pos c27] at H
                        have c27b0 : decide (((rd_T44 l0_2 x3_2).f1) < 0) = true := decide_eq_true c27
                        clear c27
                        have H' := Aside0.mk H
                        clear H
                        have hnb28 := NB389_387.out
                        have hnc28 := NB387_389.out
                        have hcz29_0 : w18.cell? ⟨gb389, 0, none⟩ = some (.int .i64 0) := (blk_cell BK389.out 0).trans rfl
                        have hcz29_1 : w18.cell? ⟨gb389, 1, none⟩ = some (.int .i64 0) := (blk_cell BK389.out 1).trans rfl
                        have hcz29_2 : w18.cell? ⟨gb389, 2, none⟩ = some (.int .i64 0) := (blk_cell BK389.out 2).trans rfl
                        have hcz29_3 : w18.cell? ⟨gb389, 3, none⟩ = some (.slice none 0 0) := (blk_cell BK389.out 3).trans rfl
                        have hfz29_0 := blk_frozen BK389.out 0
                        have hfz29_1 := blk_frozen BK389.out 1
                        have hfz29_2 := blk_frozen BK389.out 2
                        have hfz29_3 := blk_frozen BK389.out 3
                        go_wp2
                        go_meet
                        case rel => exact ⟨_, (true), (by first | rfl | (simp; done) | (simp [*]; done)), H', ⟨by have := HJ1.out; have := HK2.out; first | omega | exact Nat.le_refl _⟩, ⟨by (with_reducible repeat (first | refine blk_drewN ?_ _ | refine blk_drew ?_ | refine blk_alloc ?_ _)); refine blk_far ?_ NB387_389.out _; (with_reducible repeat (first | refine blk_drewN ?_ _ | refine blk_drew ?_ | refine blk_alloc ?_ _)); refine blk_far ?_ NB387_389.out _; (with_reducible repeat (first | refine blk_drewN ?_ _ | refine blk_drew ?_ | refine blk_alloc ?_ _)); refine blk_far ?_ NB387_389.out _; (with_reducible repeat (first | refine blk_drewN ?_ _ | refine blk_drew ?_ | refine blk_alloc ?_ _)); refine blk_far ?_ NB387_389.out _; (with_reducible repeat (first | refine blk_drewN ?_ _ | refine blk_drew ?_ | refine blk_alloc ?_ _)); exact BK387.out⟩, ⟨by (with_reducible repeat (first | refine blk_drewN ?_ _ | refine blk_drew ?_ | refine blk_alloc ?_ _)); refine blk_put (cs := #[.int .i64 ((rd_T44 l0_2 x3_2).f0), .int .i64 ((rd_T44 l0_2 x3_2).f1), .int .i64 ((rd_T44 l0_2 x3_2).f2), .slice none 0 0]) ?_ 3 _ rfl; (with_reducible repeat (first | refine blk_drewN ?_ _ | refine blk_drew ?_ | refine blk_alloc ?_ _)); refine blk_put (cs := #[.int .i64 ((rd_T44 l0_2 x3_2).f0), .int .i64 ((rd_T44 l0_2 x3_2).f1), .int .i64 0, .slice none 0 0]) ?_ 2 _ rfl; (with_reducible repeat (first | refine blk_drewN ?_ _ | refine blk_drew ?_ | refine blk_alloc ?_ _)); refine blk_put (cs := #[.int .i64 ((rd_T44 l0_2 x3_2).f0), .int .i64 0, .int .i64 0, .slice none 0 0]) ?_ 1 _ rfl; (with_reducible repeat (first | refine blk_drewN ?_ _ | refine blk_drew ?_ | refine blk_alloc ?_ _)); refine blk_put (cs := #[.int .i64 0, .int .i64 0, .int .i64 0, .slice none 0 0]) ?_ 0 _ rfl; (with_reducible repeat (first | refine blk_drewN ?_ _ | refine blk_drew ?_ | refine blk_alloc ?_ _)); exact BK389.out⟩, ⟨by repeat (first | (with_reducible first | exact HB.out | apply below_alloc | apply pw_below_drewN | apply below_drew1 | refine below_set ?_ GE387.out | refine below_set ?_ GE389.out) | exact HB.out)⟩⟩
                      · rw [if_neg c27] at H
                        have c27b0 : decide (((rd_T44 l0_2 x3_2).f1) < 0) = false := decide_eq_false c27
                        clear c27
                        by_cases c30 : ((rd_T44 l0_2 x3_2).f1) > 1
                        · rw [if_pos c30] at H
                          have c30b0 : decide (1 < ((rd_T44 l0_2 x3_2).f1)) = true := decide_eq_true c30
                          clear c30
                          have H' := Aside0.mk H
                          clear H
                          have hnb31 := NB389_387.out
                          have hnc31 := NB387_389.out
                          have hcz32_0 : w18.cell? ⟨gb389, 0, none⟩ = some (.int .i64 0) := (blk_cell BK389.out 0).trans rfl
                          have hcz32_1 : w18.cell? ⟨gb389, 1, none⟩ = some (.int .i64 0) := (blk_cell BK389.out 1).trans rfl
                          have hcz32_2 : w18.cell? ⟨gb389, 2, none⟩ = some (.int .i64 0) := (blk_cell BK389.out 2).trans rfl
                          have hcz32_3 : w18.cell? ⟨gb389, 3, none⟩ = some (.slice none 0 0) := (blk_cell BK389.out 3).trans rfl
                          have hfz32_0 := blk_frozen BK389.out 0
                          have hfz32_1 := blk_frozen BK389.out 1
                          have hfz32_2 := blk_frozen BK389.out 2
                          have hfz32_3 := blk_frozen BK389.out 3
                          go_wp2
                          go_meet
                          case rel => exact ⟨_, (true), (by first | rfl | (simp; done) | (simp [*]; done)), H', ⟨by have := HJ1.out; have := HK2.out; first | omega | exact Nat.le_refl _⟩, ⟨by (with_reducible repeat (first | refine blk_drewN ?_ _ | refine blk_drew ?_ | refine blk_alloc ?_ _)); refine blk_far ?_ NB387_389.out _; (with_reducible repeat (first | refine blk_drewN ?_ _ | refine blk_drew ?_ | refine blk_alloc ?_ _)); refine blk_far ?_ NB387_389.out _; (with_reducible repeat (first | refine blk_drewN ?_ _ | refine blk_drew ?_ | refine blk_alloc ?_ _)); refine blk_far ?_ NB387_389.out _; (with_reducible repeat (first | refine blk_drewN ?_ _ | refine blk_drew ?_ | refine blk_alloc ?_ _)); refine blk_far ?_ NB387_389.out _; (with_reducible repeat (first | refine blk_drewN ?_ _ | refine blk_drew ?_ | refine blk_alloc ?_ _)); exact BK387.out⟩, ⟨by (with_reducible repeat (first | refine blk_drewN ?_ _ | refine blk_drew ?_ | refine blk_alloc ?_ _)); refine blk_put (cs := #[.int .i64 ((rd_T44 l0_2 x3_2).f0), .int .i64 ((rd_T44 l0_2 x3_2).f1), .int .i64 ((rd_T44 l0_2 x3_2).f2), .slice none 0 0]) ?_ 3 _ rfl; (with_reducible repeat (first | refine blk_drewN ?_ _ | refine blk_drew ?_ | refine blk_alloc ?_ _)); refine blk_put (cs := #[.int .i64 ((rd_T44 l0_2 x3_2).f0), .int .i64 ((rd_T44 l0_2 x3_2).f1), .int .i64 0, .slice none 0 0]) ?_ 2 _ rfl; (with_reducible repeat (first | refine blk_drewN ?_ _ | refine blk_drew ?_ | refine blk_alloc ?_ _)); refine blk_put (cs := #[.int .i64 ((rd_T44 l0_2 x3_2).f0), .int .i64 0, .int .i64 0, .slice none 0 0]) ?_ 1 _ rfl; (with_reducible repeat (first | refine blk_drewN ?_ _ | refine blk_drew ?_ | refine blk_alloc ?_ _)); refine blk_put (cs := #[.int .i64 0, .int .i64 0, .int .i64 0, .slice none 0 0]) ?_ 0 _ rfl; (with_reducible repeat (first | refine blk_drewN ?_ _ | refine blk_drew ?_ | refine blk_alloc ?_ _)); exact BK389.out⟩, ⟨by repeat (first | (with_reducible first | exact HB.out | apply below_alloc | apply pw_below_drewN | apply below_drew1 | refine below_set ?_ GE387.out | refine below_set ?_ GE389.out) | exact HB.out)⟩⟩
                        · rw [if_neg c30] at H
                          have c30b0 : decide (1 < ((rd_T44 l0_2 x3_2).f1)) = false := decide_eq_false c30
                          clear c30
                          by_cases c33 : ((rd_T44 l0_2 x3_2).f2) < 0
                          · rw [if_pos c33] at H
                            have c33b0 : decide (((rd_T44 l0_2 x3_2).f2) < 0) = true := decide_eq_true c33
                            clear c33
                            have H' := Aside0.mk H
                            clear H
                            have hnb34 := NB389_387.out
                            have hnc34 := NB387_389.out
                            have hcz35_0 : w18.cell? ⟨gb389, 0, none⟩ = some (.int .i64 0) := (blk_cell BK389.out 0).trans rfl
                            have hcz35_1 : w18.cell? ⟨gb389, 1, none⟩ = some (.int .i64 0) := (blk_cell BK389.out 1).trans rfl
                            have hcz35_2 : w18.cell? ⟨gb389, 2, none⟩ = some (.int .i64 0) := (blk_cell BK389.out 2).trans rfl
                            have hcz35_3 : w18.cell? ⟨gb389, 3, none⟩ = some (.slice none 0 0) := (blk_cell BK389.out 3).trans rfl
                            have hfz35_0 := blk_frozen BK389.out 0
                            have hfz35_1 := blk_frozen BK389.out 1
                            have hfz35_2 := blk_frozen BK389.out 2
                            have hfz35_3 := blk_frozen BK389.out 3
                            go_wp2
                            go_meet
                            case rel => exact ⟨_, (true), (by first | rfl | (simp; done) | (simp [*]; done)), H', ⟨by have := HJ1.out; have := HK2.out; first | omega | exact Nat.le_refl _⟩, ⟨by (with_reducible repeat (first | refine blk_drewN ?_ _ | refine blk_drew ?_ | refine blk_alloc ?_ _)); refine blk_far ?_ NB387_389.out _; (with_reducible repeat (first | refine blk_drewN ?_ _ | refine blk_drew ?_ | refine blk_alloc ?_ _)); refine blk_far ?_ NB387_389.out _; (with_reducible repeat (first | refine blk_drewN ?_ _ | refine blk_drew ?_ | refine blk_alloc ?_ _)); refine blk_far ?_ NB387_389.out _; (with_reducible repeat (first | refine blk_drewN ?_ _ | refine blk_drew ?_ | refine blk_alloc ?_ _)); refine blk_far ?_ NB387_389.out _; (with_reducible repeat (first | refine blk_drewN ?_ _ | refine blk_drew ?_ | refine blk_alloc ?_ _)); exact BK387.out⟩, ⟨by (with_reducible repeat (first | refine blk_drewN ?_ _ | refine blk_drew ?_ | refine blk_alloc ?_ _)); refine blk_put (cs := #[.int .i64 ((rd_T44 l0_2 x3_2).f0), .int .i64 ((rd_T44 l0_2 x3_2).f1), .int .i64 ((rd_T44 l0_2 x3_2).f2), .slice none 0 0]) ?_ 3 _ rfl; (with_reducible repeat (first | refine blk_drewN ?_ _ | refine blk_drew ?_ | refine blk_alloc ?_ _)); refine blk_put (cs := #[.int .i64 ((rd_T44 l0_2 x3_2).f0), .int .i64 ((rd_T44 l0_2 x3_2).f1), .int .i64 0, .slice none 0 0]) ?_ 2 _ rfl; (with_reducible repeat (first | refine blk_drewN ?_ _ | refine blk_drew ?_ | refine blk_alloc ?_ _)); refine blk_put (cs := #[.int .i64 ((rd_T44 l0_2 x3_2).f0), .int .i64 0, .int .i64 0, .slice none 0 0]) ?_ 1 _ rfl; (with_reducible repeat (first | refine blk_drewN ?_ _ | refine blk_drew ?_ | refine blk_alloc ?_ _)); refine blk_put (cs := #[.int .i64 0, .int .i64 0, .int .i64 0, .slice none 0 0]) ?_ 0 _ rfl; (with_reducible repeat (first | refine blk_drewN ?_ _ | refine blk_drew ?_ | refine blk_alloc ?_ _)); exact BK389.out⟩, ⟨by repeat (first | (with_reducible first | exact HB.out | apply below_alloc | apply pw_below_drewN | apply below_drew1 | refine below_set ?_ GE387.out | refine below_set ?_ GE389.out) | exact HB.out)⟩⟩
                          · rw [if_neg c33] at H
                            have c33b0 : decide (((rd_T44 l0_2 x3_2).f2) < 0) = false := decide_eq_false c33
                            clear c33
                            by_cases c36 : ((rd_T44 l0_2 x3_2).f2) > 16
                            · rw [if_pos c36] at H
                              have c36b0 : decide (16 < ((rd_T44 l0_2 x3_2).f2)) = true := decide_eq_true c36
                              clear c36
                              have H' := Aside0.mk H
                              clear H
                              have hnb37 := NB389_387.out
                              have hnc37 := NB387_389.out
                              have hcz38_0 : w18.cell? ⟨gb389, 0, none⟩ = some (.int .i64 0) := (blk_cell BK389.out 0).trans rfl
                              have hcz38_1 : w18.cell? ⟨gb389, 1, none⟩ = some (.int .i64 0) := (blk_cell BK389.out 1).trans rfl
                              have hcz38_2 : w18.cell? ⟨gb389, 2, none⟩ = some (.int .i64 0) := (blk_cell BK389.out 2).trans rfl
                              have hcz38_3 : w18.cell? ⟨gb389, 3, none⟩ = some (.slice none 0 0) := (blk_cell BK389.out 3).trans rfl
                              have hfz38_0 := blk_frozen BK389.out 0
                              have hfz38_1 := blk_frozen BK389.out 1
                              have hfz38_2 := blk_frozen BK389.out 2
                              have hfz38_3 := blk_frozen BK389.out 3
                              go_wp2
                              go_meet
                              case rel => exact ⟨_, (true), (by first | rfl | (simp; done) | (simp [*]; done)), H', ⟨by have := HJ1.out; have := HK2.out; first | omega | exact Nat.le_refl _⟩, ⟨by (with_reducible repeat (first | refine blk_drewN ?_ _ | refine blk_drew ?_ | refine blk_alloc ?_ _)); refine blk_far ?_ NB387_389.out _; (with_reducible repeat (first | refine blk_drewN ?_ _ | refine blk_drew ?_ | refine blk_alloc ?_ _)); refine blk_far ?_ NB387_389.out _; (with_reducible repeat (first | refine blk_drewN ?_ _ | refine blk_drew ?_ | refine blk_alloc ?_ _)); refine blk_far ?_ NB387_389.out _; (with_reducible repeat (first | refine blk_drewN ?_ _ | refine blk_drew ?_ | refine blk_alloc ?_ _)); refine blk_far ?_ NB387_389.out _; (with_reducible repeat (first | refine blk_drewN ?_ _ | refine blk_drew ?_ | refine blk_alloc ?_ _)); exact BK387.out⟩, ⟨by (with_reducible repeat (first | refine blk_drewN ?_ _ | refine blk_drew ?_ | refine blk_alloc ?_ _)); refine blk_put (cs := #[.int .i64 ((rd_T44 l0_2 x3_2).f0), .int .i64 ((rd_T44 l0_2 x3_2).f1), .int .i64 ((rd_T44 l0_2 x3_2).f2), .slice none 0 0]) ?_ 3 _ rfl; (with_reducible repeat (first | refine blk_drewN ?_ _ | refine blk_drew ?_ | refine blk_alloc ?_ _)); refine blk_put (cs := #[.int .i64 ((rd_T44 l0_2 x3_2).f0), .int .i64 ((rd_T44 l0_2 x3_2).f1), .int .i64 0, .slice none 0 0]) ?_ 2 _ rfl; (with_reducible repeat (first | refine blk_drewN ?_ _ | refine blk_drew ?_ | refine blk_alloc ?_ _)); refine blk_put (cs := #[.int .i64 ((rd_T44 l0_2 x3_2).f0), .int .i64 0, .int .i64 0, .slice none 0 0]) ?_ 1 _ rfl; (with_reducible repeat (first | refine blk_drewN ?_ _ | refine blk_drew ?_ | refine blk_alloc ?_ _)); refine blk_put (cs := #[.int .i64 0, .int .i64 0, .int .i64 0, .slice none 0 0]) ?_ 0 _ rfl; (with_reducible repeat (first | refine blk_drewN ?_ _ | refine blk_drew ?_ | refine blk_alloc ?_ _)); exact BK389.out⟩, ⟨by repeat (first | (with_reducible first | exact HB.out | apply below_alloc | apply pw_below_drewN | apply below_drew1 | refine below_set ?_ GE387.out | refine below_set ?_ GE389.out) | exact HB.out)⟩⟩
                            · rw [if_neg c36] at H
                              have c36b0 : decide (16 < ((rd_T44 l0_2 x3_2).f2)) = false := decide_eq_false c36
                              clear c36
                              by_cases c39 : (wrap64 (((rd_T44 l0_2 x3_2).f0) + ((rd_T44 l0_2 x3_2).f2))) > 16
                              · rw [if_pos c39] at H
                                have c39b0 : decide (16 < (wrap64 (((rd_T44 l0_2 x3_2).f0) + ((rd_T44 l0_2 x3_2).f2)))) = true := decide_eq_true c39
                                clear c39
                                have H' := Aside0.mk H
                                clear H
                                have hnb40 := NB389_387.out
                                have hnc40 := NB387_389.out
                                have hcz41_0 : w18.cell? ⟨gb389, 0, none⟩ = some (.int .i64 0) := (blk_cell BK389.out 0).trans rfl
                                have hcz41_1 : w18.cell? ⟨gb389, 1, none⟩ = some (.int .i64 0) := (blk_cell BK389.out 1).trans rfl
                                have hcz41_2 : w18.cell? ⟨gb389, 2, none⟩ = some (.int .i64 0) := (blk_cell BK389.out 2).trans rfl
                                have hcz41_3 : w18.cell? ⟨gb389, 3, none⟩ = some (.slice none 0 0) := (blk_cell BK389.out 3).trans rfl
                                have hfz41_0 := blk_frozen BK389.out 0
                                have hfz41_1 := blk_frozen BK389.out 1
                                have hfz41_2 := blk_frozen BK389.out 2
                                have hfz41_3 := blk_frozen BK389.out 3
                                go_wp2
                                go_meet
                                case rel => exact ⟨_, (true), (by first | rfl | (simp; done) | (simp [*]; done)), H', ⟨by have := HJ1.out; have := HK2.out; first | omega | exact Nat.le_refl _⟩, ⟨by (with_reducible repeat (first | refine blk_drewN ?_ _ | refine blk_drew ?_ | refine blk_alloc ?_ _)); refine blk_far ?_ NB387_389.out _; (with_reducible repeat (first | refine blk_drewN ?_ _ | refine blk_drew ?_ | refine blk_alloc ?_ _)); refine blk_far ?_ NB387_389.out _; (with_reducible repeat (first | refine blk_drewN ?_ _ | refine blk_drew ?_ | refine blk_alloc ?_ _)); refine blk_far ?_ NB387_389.out _; (with_reducible repeat (first | refine blk_drewN ?_ _ | refine blk_drew ?_ | refine blk_alloc ?_ _)); refine blk_far ?_ NB387_389.out _; (with_reducible repeat (first | refine blk_drewN ?_ _ | refine blk_drew ?_ | refine blk_alloc ?_ _)); exact BK387.out⟩, ⟨by (with_reducible repeat (first | refine blk_drewN ?_ _ | refine blk_drew ?_ | refine blk_alloc ?_ _)); refine blk_put (cs := #[.int .i64 ((rd_T44 l0_2 x3_2).f0), .int .i64 ((rd_T44 l0_2 x3_2).f1), .int .i64 ((rd_T44 l0_2 x3_2).f2), .slice none 0 0]) ?_ 3 _ rfl; (with_reducible repeat (first | refine blk_drewN ?_ _ | refine blk_drew ?_ | refine blk_alloc ?_ _)); refine blk_put (cs := #[.int .i64 ((rd_T44 l0_2 x3_2).f0), .int .i64 ((rd_T44 l0_2 x3_2).f1), .int .i64 0, .slice none 0 0]) ?_ 2 _ rfl; (with_reducible repeat (first | refine blk_drewN ?_ _ | refine blk_drew ?_ | refine blk_alloc ?_ _)); refine blk_put (cs := #[.int .i64 ((rd_T44 l0_2 x3_2).f0), .int .i64 0, .int .i64 0, .slice none 0 0]) ?_ 1 _ rfl; (with_reducible repeat (first | refine blk_drewN ?_ _ | refine blk_drew ?_ | refine blk_alloc ?_ _)); refine blk_put (cs := #[.int .i64 0, .int .i64 0, .int .i64 0, .slice none 0 0]) ?_ 0 _ rfl; (with_reducible repeat (first | refine blk_drewN ?_ _ | refine blk_drew ?_ | refine blk_alloc ?_ _)); exact BK389.out⟩, ⟨by repeat (first | (with_reducible first | exact HB.out | apply below_alloc | apply pw_below_drewN | apply below_drew1 | refine below_set ?_ GE387.out | refine below_set ?_ GE389.out) | exact HB.out)⟩⟩
                              · rw [if_neg c39] at H
                                have c39b0 : decide (16 < (wrap64 (((rd_T44 l0_2 x3_2).f0) + ((rd_T44 l0_2 x3_2).f2)))) = false := decide_eq_false c39
                                clear c39
                                by_cases c42 : (((rd_T44 l0_2 x3_2).f3).length : Int) = 0
                                · rw [if_pos c42] at H
                                  have c42b0 : ((((rd_T44 l0_2 x3_2).f3).length : Int) == 0) = true := beq_iff_eq.mpr c42
                                  have c42b1 : ((((rd_T44 l0_2 x3_2).f3).length : Int) != 0) = false := bne_eq_false_iff_eq.mpr c42
                                  clear c42
                                  have H' := Aside0.mk H
                                  clear H
                                  have hnb43 := NB389_387.out
                                  have hnc43 := NB387_389.out
                                  have hcz44_0 : w18.cell? ⟨gb389, 0, none⟩ = some (.int .i64 0) := (blk_cell BK389.out 0).trans rfl
                                  have hcz44_1 : w18.cell? ⟨gb389, 1, none⟩ = some (.int .i64 0) := (blk_cell BK389.out 1).trans rfl
                                  have hcz44_2 : w18.cell? ⟨gb389, 2, none⟩ = some (.int .i64 0) := (blk_cell BK389.out 2).trans rfl
                                  have hcz44_3 : w18.cell? ⟨gb389, 3, none⟩ = some (.slice none 0 0) := (blk_cell BK389.out 3).trans rfl
                                  have hfz44_0 := blk_frozen BK389.out 0
                                  have hfz44_1 := blk_frozen BK389.out 1
                                  have hfz44_2 := blk_frozen BK389.out 2
                                  have hfz44_3 := blk_frozen BK389.out 3
                                  go_wp2
                                  go_meet
                                  case rel => exact ⟨_, (true), (by first | rfl | (simp; done) | (simp [*]; done)), H', ⟨by have := HJ1.out; have := HK2.out; first | omega | exact Nat.le_refl _⟩, ⟨by (with_reducible repeat (first | refine blk_drewN ?_ _ | refine blk_drew ?_ | refine blk_alloc ?_ _)); refine blk_far ?_ NB387_389.out _; (with_reducible repeat (first | refine blk_drewN ?_ _ | refine blk_drew ?_ | refine blk_alloc ?_ _)); refine blk_far ?_ NB387_389.out _; (with_reducible repeat (first | refine blk_drewN ?_ _ | refine blk_drew ?_ | refine blk_alloc ?_ _)); refine blk_far ?_ NB387_389.out _; (with_reducible repeat (first | refine blk_drewN ?_ _ | refine blk_drew ?_ | refine blk_alloc ?_ _)); refine blk_far ?_ NB387_389.out _; (with_reducible repeat (first | refine blk_drewN ?_ _ | refine blk_drew ?_ | refine blk_alloc ?_ _)); exact BK387.out⟩, ⟨by (with_reducible repeat (first | refine blk_drewN ?_ _ | refine blk_drew ?_ | refine blk_alloc ?_ _)); refine blk_put (cs := #[.int .i64 ((rd_T44 l0_2 x3_2).f0), .int .i64 ((rd_T44 l0_2 x3_2).f1), .int .i64 ((rd_T44 l0_2 x3_2).f2), .slice none 0 0]) ?_ 3 _ rfl; (with_reducible repeat (first | refine blk_drewN ?_ _ | refine blk_drew ?_ | refine blk_alloc ?_ _)); refine blk_put (cs := #[.int .i64 ((rd_T44 l0_2 x3_2).f0), .int .i64 ((rd_T44 l0_2 x3_2).f1), .int .i64 0, .slice none 0 0]) ?_ 2 _ rfl; (with_reducible repeat (first | refine blk_drewN ?_ _ | refine blk_drew ?_ | refine blk_alloc ?_ _)); refine blk_put (cs := #[.int .i64 ((rd_T44 l0_2 x3_2).f0), .int .i64 0, .int .i64 0, .slice none 0 0]) ?_ 1 _ rfl; (with_reducible repeat (first | refine blk_drewN ?_ _ | refine blk_drew ?_ | refine blk_alloc ?_ _)); refine blk_put (cs := #[.int .i64 0, .int .i64 0, .int .i64 0, .slice none 0 0]) ?_ 0 _ rfl; (with_reducible repeat (first | refine blk_drewN ?_ _ | refine blk_drew ?_ | refine blk_alloc ?_ _)); exact BK389.out⟩, ⟨by repeat (first | (with_reducible first | exact HB.out | apply below_alloc | apply pw_below_drewN | apply below_drew1 | refine below_set ?_ GE387.out | refine below_set ?_ GE389.out) | exact HB.out)⟩⟩
                                · rw [if_neg c42] at H
                                  have c42b0 : ((((rd_T44 l0_2 x3_2).f3).length : Int) == 0) = false := beq_eq_false_iff_ne.mpr c42
                                  have c42b1 : ((((rd_T44 l0_2 x3_2).f3).length : Int) != 0) = true := bne_iff_ne.mpr c42
                                  have c42b2 : ¬ (((rd_T44 l0_2 x3_2).f3) = []) := fun h_ => c42 (by rw [h_]; rfl)
                                  have H' := Aside0.mk H
                                  clear H
                                  have hnb45 := NB389_387.out
                                  have hnc45 := NB387_389.out
                                  have hcz46_0 : w18.cell? ⟨gb389, 0, none⟩ = some (.int .i64 0) := (blk_cell BK389.out 0).trans rfl
                                  have hcz46_1 : w18.cell? ⟨gb389, 1, none⟩ = some (.int .i64 0) := (blk_cell BK389.out 1).trans rfl
                                  have hcz46_2 : w18.cell? ⟨gb389, 2, none⟩ = some (.int .i64 0) := (blk_cell BK389.out 2).trans rfl
                                  have hcz46_3 : w18.cell? ⟨gb389, 3, none⟩ = some (.slice none 0 0) := (blk_cell BK389.out 3).trans rfl
                                  have hfz46_0 := blk_frozen BK389.out 0
                                  have hfz46_1 := blk_frozen BK389.out 1
                                  have hfz46_2 := blk_frozen BK389.out 2
                                  have hfz46_3 := blk_frozen BK389.out 3
                                  go_wp2
                                  go_meet
                                  case rel => exact ⟨_, (decide ((((rd_T44 l0_2 x3_2).f3).length : Int) > 400)), (by first | rfl | (simp; done) | (simp [*]; done)), H', ⟨by have := HJ1.out; have := HK2.out; first | omega | exact Nat.le_refl _⟩, ⟨by (with_reducible repeat (first | refine blk_drewN ?_ _ | refine blk_drew ?_ | refine blk_alloc ?_ _)); refine blk_far ?_ NB387_389.out _; (with_reducible repeat (first | refine blk_drewN ?_ _ | refine blk_drew ?_ | refine blk_alloc ?_ _)); refine blk_far ?_ NB387_389.out _; (with_reducible repeat (first | refine blk_drewN ?_ _ | refine blk_drew ?_ | refine blk_alloc ?_ _)); refine blk_far ?_ NB387_389.out _; (with_reducible repeat (first | refine blk_drewN ?_ _ | refine blk_drew ?_ | refine blk_alloc ?_ _)); refine blk_far ?_ NB387_389.out _; (with_reducible repeat (first | refine blk_drewN ?_ _ | refine blk_drew ?_ | refine blk_alloc ?_ _)); exact BK387.out⟩, ⟨by (with_reducible repeat (first | refine blk_drewN ?_ _ | refine blk_drew ?_ | refine blk_alloc ?_ _)); refine blk_put (cs := #[.int .i64 ((rd_T44 l0_2 x3_2).f0), .int .i64 ((rd_T44 l0_2 x3_2).f1), .int .i64 ((rd_T44 l0_2 x3_2).f2), .slice none 0 0]) ?_ 3 _ rfl; (with_reducible repeat (first | refine blk_drewN ?_ _ | refine blk_drew ?_ | refine blk_alloc ?_ _)); refine blk_put (cs := #[.int .i64 ((rd_T44 l0_2 x3_2).f0), .int .i64 ((rd_T44 l0_2 x3_2).f1), .int .i64 0, .slice none 0 0]) ?_ 2 _ rfl; (with_reducible repeat (first | refine blk_drewN ?_ _ | refine blk_drew ?_ | refine blk_alloc ?_ _)); refine blk_put (cs := #[.int .i64 ((rd_T44 l0_2 x3_2).f0), .int .i64 0, .int .i64 0, .slice none 0 0]) ?_ 1 _ rfl; (with_reducible repeat (first | refine blk_drewN ?_ _ | refine blk_drew ?_ | refine blk_alloc ?_ _)); refine blk_put (cs := #[.int .i64 0, .int .i64 0, .int .i64 0, .slice none 0 0]) ?_ 0 _ rfl; (with_reducible repeat (first | refine blk_drewN ?_ _ | refine blk_drew ?_ | refine blk_alloc ?_ _)); exact BK389.out⟩, ⟨by repeat (first | (with_reducible first | exact HB.out | apply below_alloc | apply pw_below_drewN | apply below_drew1 | refine below_set ?_ GE387.out | refine below_set ?_ GE389.out) | exact HB.out)⟩⟩
                case rest =>
                  clear HC16
                  try clear c1
                  try clear c2
                  try clear p2
                  try clear c3
                  try clear p3
                  try clear q3
                  try clear hx3
                  try clear c4
                  try clear c4b0
                  try clear c6
                  try clear c6b0
                  try clear p6
                  try clear c8
                  try clear c8b0
                  try clear c10
                  try clear c10b0
                  try clear c10b1
                  try clear c10b2
                  try clear c13
                  try clear c14
                  try clear c14b0
                  try clear c15
                  try clear c15b0
                  try clear c19
                  try clear c21
                  try clear c21b0
                  try clear c22
                  try clear c24
                  try clear c24b0
                  try clear c25
                  try clear c27
                  try clear c27b0
                  try clear c28
                  try clear c30
                  try clear c30b0
                  try clear c31
                  try clear c33
                  try clear c33b0
                  try clear c34
                  try clear c36
                  try clear c36b0
                  try clear c37
                  try clear c38
                  try clear p38
                  try clear q38
                  try clear hx38
                  try clear c39
                  try clear c39b0
                  try clear c40
                  try clear c42
                  try clear c42b0
                  try clear c42b1
                  try clear c42b2
                  try clear c43
                  try clear c45
                  try clear hcz11_0
                  try clear hcz11_1
                  try clear hcz11_2
                  try clear hcz12_0
                  try clear hcz12_1
                  try clear hcz12_2
                  try clear hcz17_0
                  try clear hcz17_1
                  try clear hcz17_2
                  try clear hcz20_0
                  try clear hcz20_1
                  try clear hcz20_2
                  try clear hcz20_3
                  try clear hcz23_0
                  try clear hcz23_1
                  try clear hcz23_2
                  try clear hcz23_3
                  try clear hcz26_0
                  try clear hcz26_1
                  try clear hcz26_2
                  try clear hcz26_3
                  try clear hcz29_0
                  try clear hcz29_1
                  try clear hcz29_2
                  try clear hcz29_3
                  try clear hcz32_0
                  try clear hcz32_1
                  try clear hcz32_2
                  try clear hcz32_3
                  try clear hcz35_0
                  try clear hcz35_1
                  try clear hcz35_2
                  try clear hcz35_3
                  try clear hcz38_0
                  try clear hcz38_1
                  try clear hcz38_2
                  try clear hcz38_3
                  try clear hcz41_0
                  try clear hcz41_1
                  try clear hcz41_2
                  try clear hcz41_3
                  try clear hcz44_0
                  try clear hcz44_1
                  try clear hcz44_2
                  try clear hcz44_3
                  try clear hcz46_0
                  try clear hcz46_1
                  try clear hcz46_2
                  try clear hcz46_3
                  try clear hcz5_0
                  try clear hcz5_1
                  try clear hcz5_2
                  try clear hcz7_0
                  try clear hcz7_1
                  try clear hcz7_2
                  try clear hcz9_0
                  try clear hcz9_1
                  try clear hcz9_2
                  try clear hfz11_0
                  try clear hfz11_1
                  try clear hfz11_2
                  try clear hfz12_0
                  try clear hfz12_1
                  try clear hfz12_2
                  try clear hfz17_0
                  try clear hfz17_1
                  try clear hfz17_2
                  try clear hfz20_0
                  try clear hfz20_1
                  try clear hfz20_2
                  try clear hfz20_3
                  try clear hfz23_0
                  try clear hfz23_1
                  try clear hfz23_2
                  try clear hfz23_3
                  try clear hfz26_0
                  try clear hfz26_1
                  try clear hfz26_2
                  try clear hfz26_3
                  try clear hfz29_0
                  try clear hfz29_1
                  try clear hfz29_2
                  try clear hfz29_3
                  try clear hfz32_0
                  try clear hfz32_1
                  try clear hfz32_2
                  try clear hfz32_3
                  try clear hfz35_0
                  try clear hfz35_1
                  try clear hfz35_2
                  try clear hfz35_3
                  try clear hfz38_0
                  try clear hfz38_1
                  try clear hfz38_2
                  try clear hfz38_3
                  try clear hfz41_0
                  try clear hfz41_1
                  try clear hfz41_2
                  try clear hfz41_3
                  try clear hfz44_0
                  try clear hfz44_1
                  try clear hfz44_2
                  try clear hfz44_3
                  try clear hfz46_0
                  try clear hfz46_1
                  try clear hfz46_2
                  try clear hfz46_3
                  try clear hfz5_0
                  try clear hfz5_1
                  try clear hfz5_2
                  try clear hfz7_0
                  try clear hfz7_1
                  try clear hfz7_2
                  try clear hfz9_0
                  try clear hfz9_1
                  try clear hfz9_2
                  try clear hx388_0
                  try clear hx388_1
                  try clear hx388_2
                  try clear hx388_3
                  try clear p2
                  try clear p388
                  try clear q388
                  obtain ⟨kq, x94_15, rfl, HA, HJ15, BK387, BK389, HB⟩ := hcut
                  cases kq with
                  | zero => exact absurd HA.out (by simp [casementref12_Right.j2])
                  | succ kj15 =>
                    have H := HA.out
                    clear HA
                    simp only [casementref12_Right.j2] at H
                    by_cases c47 : x94_15 = true
                    · subst c47
                      have H1 : (some false) = some r := by rw [if_pos rfl] at H; exact H
                      clear H
                      have H := H1
                      clear H1
                      obtain rfl := Option.some.inj H
                      go_wp2
                      go_ret
                      exact ⟨by first | rfl | (simp [errW_none, errW_some] <;> rfl) | (simp [*, errW_none, errW_some] <;> rfl), by repeat (first | (with_reducible first | exact HB.out | apply below_alloc | apply pw_below_drewN | apply below_drew1 | refine below_set ?_ GE387.out | refine below_set ?_ GE389.out) | exact HB.out)⟩
                    · replace c47 := Bool.eq_false_iff.mpr c47
                      subst c47
                      have H1 : (casementref12_Right.l1 kj15 x3_2 0 a0_0 l0_1 l0_2 ((rd_T44 l0_2 x3_2).f0) ((rd_T44 l0_2 x3_2).f1) ((rd_T44 l0_2 x3_2).f2) ((rd_T44 l0_2 x3_2).f3)) = some r := by rw [if_neg (show ¬ (false = true) by decide)] at H; exact H
                      clear H
                      have H := H1
                      clear H1
                      have H' := Aside0.mk H
                      clear H
                      go_wp2
                      go_loopg [5] kj15 (fun kq v5 w' => ∃ (x5_4 : Int), v5 = .int .i64 x5_4 ∧ Aside0 (casementref12_Right.l1 kq x3_2 x5_4 a0_0 l0_1 l0_2 ((rd_T44 l0_2 x3_2).f0) ((rd_T44 l0_2 x3_2).f1) ((rd_T44 l0_2 x3_2).f2) ((rd_T44 l0_2 x3_2).f3) = some r) ∧ Aside0 (kq ≤ kj15) ∧ Aside0 (w'.heap[gb387]? = some (.cells #[.int .i64 a0_0, (.slice A0_1 l0_1.length c0_1), (.slice (some ad388) l0_2.length c0_2)] 26 (0, 0))) ∧ Aside0 (w'.heap[gb389]? = some (.cells #[.int .i64 ((rd_T44 l0_2 x3_2).f0), .int .i64 ((rd_T44 l0_2 x3_2).f1), .int .i64 ((rd_T44 l0_2 x3_2).f2), (.slice A388_3 ((rd_T44 l0_2 x3_2).f3).length c388_3)] 44 (0, 0))) ∧ Aside0 (Below w.heap.size w w'))
                      case atStart => exact ⟨(0), (by first | rfl | (simp; done) | (simp [*]; done)), H', ⟨Nat.le_refl _⟩, ⟨by (with_reducible repeat (first | refine blk_drewN ?_ _ | refine blk_drew ?_ | refine blk_alloc ?_ _)); exact BK387.out⟩, ⟨by (with_reducible repeat (first | refine blk_drewN ?_ _ | refine blk_drew ?_ | refine blk_alloc ?_ _)); exact BK389.out⟩, ⟨by repeat (first | (with_reducible first | exact HB.out | apply below_alloc | apply pw_below_drewN | apply below_drew1 | refine below_set ?_ GE387.out | refine below_set ?_ GE389.out) | exact HB.out)⟩⟩
                      case round =>
                        clear H'
                        try clear c1
                        try clear c2
                        try clear p2
                        try clear c3
                        try clear p3
                        try clear q3
                        try clear hx3
                        try clear c4
                        try clear c4b0
                        try clear c6
                        try clear c6b0
                        try clear p6
                        try clear c8
                        try clear c8b0
                        try clear c10
                        try clear c10b0
                        try clear c10b1
                        try clear c10b2
                        try clear c13
                        try clear c14
                        try clear c14b0
                        try clear c15
                        try clear c15b0
                        try clear c19
                        try clear c21
                        try clear c21b0
                        try clear c22
                        try clear c24
                        try clear c24b0
                        try clear c25
                        try clear c27
                        try clear c27b0
                        try clear c28
                        try clear c30
                        try clear c30b0
                        try clear c31
                        try clear c33
                        try clear c33b0
                        try clear c34
                        try clear c36
                        try clear c36b0
                        try clear c37
                        try clear c38
                        try clear p38
                        try clear q38
                        try clear hx38
                        try clear c39
                        try clear c39b0
                        try clear c40
                        try clear c42
                        try clear c42b0
                        try clear c42b1
                        try clear c42b2
                        try clear c43
                        try clear c45
                        try clear c47
                        try clear hcz11_0
                        try clear hcz11_1
                        try clear hcz11_2
                        try clear hcz12_0
                        try clear hcz12_1
                        try clear hcz12_2
                        try clear hcz17_0
                        try clear hcz17_1
                        try clear hcz17_2
                        try clear hcz20_0
                        try clear hcz20_1
                        try clear hcz20_2
                        try clear hcz20_3
                        try clear hcz23_0
                        try clear hcz23_1
                        try clear hcz23_2
                        try clear hcz23_3
                        try clear hcz26_0
                        try clear hcz26_1
                        try clear hcz26_2
                        try clear hcz26_3
                        try clear hcz29_0
                        try clear hcz29_1
                        try clear hcz29_2
                        try clear hcz29_3
                        try clear hcz32_0
                        try clear hcz32_1
                        try clear hcz32_2
                        try clear hcz32_3
                        try clear hcz35_0
                        try clear hcz35_1
                        try clear hcz35_2
                        try clear hcz35_3
                        try clear hcz38_0
                        try clear hcz38_1
                        try clear hcz38_2
                        try clear hcz38_3
                        try clear hcz41_0
                        try clear hcz41_1
                        try clear hcz41_2
                        try clear hcz41_3
                        try clear hcz44_0
                        try clear hcz44_1
                        try clear hcz44_2
                        try clear hcz44_3
                        try clear hcz46_0
                        try clear hcz46_1
                        try clear hcz46_2
                        try clear hcz46_3
                        try clear hcz5_0
                        try clear hcz5_1
                        try clear hcz5_2
                        try clear hcz7_0
                        try clear hcz7_1
                        try clear hcz7_2
                        try clear hcz9_0
                        try clear hcz9_1
                        try clear hcz9_2
                        try clear hfz11_0
                        try clear hfz11_1
                        try clear hfz11_2
                        try clear hfz12_0
                        try clear hfz12_1
                        try clear hfz12_2
                        try clear hfz17_0
                        try clear hfz17_1
                        try clear hfz17_2
                        try clear hfz20_0
                        try clear hfz20_1
                        try clear hfz20_2
                        try clear hfz20_3
                        try clear hfz23_0
                        try clear hfz23_1
                        try clear hfz23_2
                        try clear hfz23_3
                        try clear hfz26_0
                        try clear hfz26_1
                        try clear hfz26_2
                        try clear hfz26_3
                        try clear hfz29_0
                        try clear hfz29_1
                        try clear hfz29_2
                        try clear hfz29_3
                        try clear hfz32_0
                        try clear hfz32_1
                        try clear hfz32_2
                        try clear hfz32_3
                        try clear hfz35_0
                        try clear hfz35_1
                        try clear hfz35_2
                        try clear hfz35_3
                        try clear hfz38_0
                        try clear hfz38_1
                        try clear hfz38_2
                        try clear hfz38_3
                        try clear hfz41_0
                        try clear hfz41_1
                        try clear hfz41_2
                        try clear hfz41_3
                        try clear hfz44_0
                        try clear hfz44_1
                        try clear hfz44_2
                        try clear hfz44_3
                        try clear hfz46_0
                        try clear hfz46_1
                        try clear hfz46_2
                        try clear hfz46_3
                        try clear hfz5_0
                        try clear hfz5_1
                        try clear hfz5_2
                        try clear hfz7_0
                        try clear hfz7_1
                        try clear hfz7_2
                        try clear hfz9_0
                        try clear hfz9_1
                        try clear hfz9_2
                        try clear hx388_0
                        try clear hx388_1
                        try clear hx388_2
                        try clear hx388_3
                        try clear p2
                        try clear p3
                        try clear p38
                        try clear p388
                        try clear p6
                        try clear q3
                        try clear q38
                        try clear q388
                        obtain ⟨x5_4, rfl, HA, HK4, BK387, BK389, HB⟩ := hrel
                        cases gk with
                        | zero => exact absurd HA.out (by simp [casementref12_Right.l1])
                        | succ k4 =>
                          have H := HA.out
                          clear HA
                          simp only [casementref12_Right.l1] at H
                          by_cases c48 : x5_4 < (((rd_T44 l0_2 x3_2).f3).length : Int)
                          · rw [if_pos c48] at H
                            have c48b0 : decide (x5_4 < (((rd_T44 l0_2 x3_2).f3).length : Int)) = true := decide_eq_true c48
                            clear c48
                            by_cases c49 : 0 ≤ x5_4
                            · rw [if_pos c49] at H
                              have c49b0 : decide (0 ≤ x5_4) = true := decide_eq_true c49
                              clear c49
                              by_cases c50 : ((rd_T41 ((rd_T44 l0_2 x3_2).f3) x5_4).f0) < 0
                              · rw [if_pos c50] at H
                                have c50b0 : decide (((rd_T41 ((rd_T44 l0_2 x3_2).f3) x5_4).f0) < 0) = true := decide_eq_true c50
                                clear c50
                                obtain rfl := Option.some.inj H
                                have hnb51 := NB389_387.out
                                have hnc51 := NB387_389.out
                                have hcz52_0 : wr.cell? ⟨gb389, 0, none⟩ = some (.int .i64 ((rd_T44 l0_2 x3_2).f0)) := (blk_cell BK389.out 0).trans rfl
                                have hcz52_1 : wr.cell? ⟨gb389, 1, none⟩ = some (.int .i64 ((rd_T44 l0_2 x3_2).f1)) := (blk_cell BK389.out 1).trans rfl
                                have hcz52_2 : wr.cell? ⟨gb389, 2, none⟩ = some (.int .i64 ((rd_T44 l0_2 x3_2).f2)) := (blk_cell BK389.out 2).trans rfl
                                have hcz52_3 : wr.cell? ⟨gb389, 3, none⟩ = some (.slice A388_3 ((rd_T44 l0_2 x3_2).f3).length c388_3) := (blk_cell BK389.out 3).trans rfl
                                have hfz52_0 := blk_frozen BK389.out 0
                                have hfz52_1 := blk_frozen BK389.out 1
                                have hfz52_2 := blk_frozen BK389.out 2
                                have hfz52_3 := blk_frozen BK389.out 3
                                have p390 : 0 ≤ (x5_4 : Int) := of_decide_eq_true (by first | (with_reducible assumption) | assumption)
                                have q390 : x5_4 < (((rd_T44 l0_2 x3_2).f3).length : Int) := of_decide_eq_true (by first | (with_reducible assumption) | assumption)
                                obtain ⟨ad390, e390, hx390_0, hx390_1⟩ := at_T41 HR388_3.out x5_4 p390 q390
                                cases e390
                                replace hx390_0 := (HB.out.cell (World.block_lt_of_cell? w _ hx390_0)).trans hx390_0
                                replace hx390_1 := (HB.out.cell (World.block_lt_of_cell? w _ hx390_1)).trans hx390_1
                                replace p390 := eq_true p390
                                replace q390 := eq_true q390
                                go_wp2_with (first | ((with_reducible refine gate_dst (N := 6) rfl ?_); (try (refine gate_guard (by rfl) ?_; dsimp only)); refine box_event ?hg (N := 6) ?hd (cs := #[.int .i64 0, .int .i64 0]) (t := 41) ?hr ?_; (case hd => rfl); (case hg => rfl); (case hr => first | (go_simp; done) | (go_simp; rfl)); intro gb391 hg w53 hbox hb; have n0_ := Aside0.mk (blk_below (g := gb387) (o := .cells #[.int .i64 a0_0, .slice A0_1 l0_1.length c0_1, .slice (some ad388) l0_2.length c0_2] 26 (0, 0)) (by (with_reducible repeat (first | refine blk_drewN ?_ _ | refine blk_drew ?_ | refine blk_alloc ?_ _)); exact BK387.out) hb); have n1_ := Aside0.mk (blk_below (g := gb389) (o := .cells #[.int .i64 ((rd_T44 l0_2 x3_2).f0), .int .i64 ((rd_T44 l0_2 x3_2).f1), .int .i64 ((rd_T44 l0_2 x3_2).f2), .slice (some ad390) ((rd_T44 l0_2 x3_2).f3).length c388_3] 44 (0, 0)) (by (with_reducible repeat (first | refine blk_drewN ?_ _ | refine blk_drew ?_ | refine blk_alloc ?_ _)); exact BK389.out) hb); have n2_ := Aside0.mk (below_step (by repeat (first | (with_reducible first | exact HB.out | apply below_alloc | apply pw_below_drewN | apply below_drew1 | refine below_set ?_ GE387.out | refine below_set ?_ GE389.out) | exact HB.out)) hb); have n3_ := Aside0.mk (hbox); have n4_ := Aside0.mk ((by rw [hg]; exact (below_size (by repeat (first | (with_reducible first | exact HB.out | apply below_alloc | apply pw_below_drewN | apply below_drew1 | refine below_set ?_ GE387.out | refine below_set ?_ GE389.out) | exact HB.out))) : w.heap.size ≤ gb391)); have n5_ := Aside0.mk ((by rw [hg]; exact (below_size (by repeat (first | (with_reducible first | exact HB.out | apply below_alloc | apply pw_below_drewN | apply below_drew1 | refine below_set ?_ GE387.out | refine below_set ?_ GE389.out) | exact HB.out))) : w.heap.size ≤ gb391)); have n6_ := Aside0.mk ((by rw [hg]; exact Nat.ne_of_lt (blk_lt (g := gb387) (o := .cells #[.int .i64 a0_0, .slice A0_1 l0_1.length c0_1, .slice (some ad388) l0_2.length c0_2] 26 (0, 0)) (by (with_reducible repeat (first | refine blk_drewN ?_ _ | refine blk_drew ?_ | refine blk_alloc ?_ _)); exact BK387.out)) : gb387 ≠ gb391)); have n7_ := Aside0.mk ((by rw [hg]; exact Nat.ne_of_gt (blk_lt (g := gb387) (o := .cells #[.int .i64 a0_0, .slice A0_1 l0_1.length c0_1, .slice (some ad388) l0_2.length c0_2] 26 (0, 0)) (by (with_reducible repeat (first | refine blk_drewN ?_ _ | refine blk_drew ?_ | refine blk_alloc ?_ _)); exact BK387.out)) : gb391 ≠ gb387)); have n8_ := Aside0.mk ((by rw [hg]; exact Nat.ne_of_lt (blk_lt (g := gb389) (o := .cells #[.int .i64 ((rd_T44 l0_2 x3_2).f0), .int .i64 ((rd_T44 l0_2 x3_2).f1), .int .i64 ((rd_T44 l0_2 x3_2).f2), .slice (some ad390) ((rd_T44 l0_2 x3_2).f3).length c388_3] 44 (0, 0)) (by (with_reducible repeat (first | refine blk_drewN ?_ _ | refine blk_drew ?_ | refine blk_alloc ?_ _)); exact BK389.out)) : gb389 ≠ gb391)); have n9_ := Aside0.mk ((by rw [hg]; exact Nat.ne_of_gt (blk_lt (g := gb389) (o := .cells #[.int .i64 ((rd_T44 l0_2 x3_2).f0), .int .i64 ((rd_T44 l0_2 x3_2).f1), .int .i64 ((rd_T44 l0_2 x3_2).f2), .slice (some ad390) ((rd_T44 l0_2 x3_2).f3).length c388_3] 44 (0, 0)) (by (with_reducible repeat (first | refine blk_drewN ?_ _ | refine blk_drew ?_ | refine blk_alloc ?_ _)); exact BK389.out)) : gb391 ≠ gb389)); clear BK387; clear BK389; clear HB; have BK387 := n0_; have BK389 := n1_; have HB := n2_; have BK391 := n3_; have GW391 := n4_; have GE391 := n5_; have NB387_391 := n6_; have NB391_387 := n7_; have NB389_391 := n8_; have NB391_389 := n9_; clear n0_ n1_ n2_ n3_ n4_ n5_ n6_ n7_ n8_ n9_; clear hb hbox hg; have hnb54 := NB391_387.out; have hnc54 := NB387_391.out; have hnb55 := NB391_389.out; have hnc55 := NB389_391.out; have hcz56_0 : w53.cell? ⟨gb391, 0, none⟩ = some (.int .i64 0) := (blk_cell BK391.out 0).trans rfl; have hcz56_1 : w53.cell? ⟨gb391, 1, none⟩ = some (.int .i64 0) := (blk_cell BK391.out 1).trans rfl; have hfz56_0 := blk_frozen BK391.out 0; have hfz56_1 := blk_frozen BK391.out 1))
                                go_ret
                                exact ⟨by first | rfl | (simp [errW_none, errW_some] <;> rfl) | (simp [*, errW_none, errW_some] <;> rfl), by repeat (first | (with_reducible first | exact HB.out | apply below_alloc | apply pw_below_drewN | apply below_drew1 | refine below_set ?_ GE387.out | refine below_set ?_ GE389.out | refine below_set ?_ GE391.out) | exact HB.out)⟩
                              · rw [if_neg c50] at H
                                have c50b0 : decide (((rd_T41 ((rd_T44 l0_2 x3_2).f3) x5_4).f0) < 0) = false := decide_eq_false c50
                                clear c50
                                by_cases c57 : ((rd_T41 ((rd_T44 l0_2 x3_2).f3) x5_4).f0) > 29
                                · rw [if_pos c57] at H
                                  have c57b0 : decide (29 < ((rd_T41 ((rd_T44 l0_2 x3_2).f3) x5_4).f0)) = true := decide_eq_true c57
                                  clear c57
                                  obtain rfl := Option.some.inj H
                                  have hnb58 := NB389_387.out
                                  have hnc58 := NB387_389.out
                                  have hcz59_0 : wr.cell? ⟨gb389, 0, none⟩ = some (.int .i64 ((rd_T44 l0_2 x3_2).f0)) := (blk_cell BK389.out 0).trans rfl
                                  have hcz59_1 : wr.cell? ⟨gb389, 1, none⟩ = some (.int .i64 ((rd_T44 l0_2 x3_2).f1)) := (blk_cell BK389.out 1).trans rfl
                                  have hcz59_2 : wr.cell? ⟨gb389, 2, none⟩ = some (.int .i64 ((rd_T44 l0_2 x3_2).f2)) := (blk_cell BK389.out 2).trans rfl
                                  have hcz59_3 : wr.cell? ⟨gb389, 3, none⟩ = some (.slice A388_3 ((rd_T44 l0_2 x3_2).f3).length c388_3) := (blk_cell BK389.out 3).trans rfl
                                  have hfz59_0 := blk_frozen BK389.out 0
                                  have hfz59_1 := blk_frozen BK389.out 1
                                  have hfz59_2 := blk_frozen BK389.out 2
                                  have hfz59_3 := blk_frozen BK389.out 3
                                  have p390 : 0 ≤ (x5_4 : Int) := of_decide_eq_true (by first | (with_reducible assumption) | assumption)
                                  have q390 : x5_4 < (((rd_T44 l0_2 x3_2).f3).length : Int) := of_decide_eq_true (by first | (with_reducible assumption) | assumption)
                                  obtain ⟨ad390, e390, hx390_0, hx390_1⟩ := at_T41 HR388_3.out x5_4 p390 q390
                                  cases e390
                                  replace hx390_0 := (HB.out.cell (World.block_lt_of_cell? w _ hx390_0)).trans hx390_0
                                  replace hx390_1 := (HB.out.cell (World.block_lt_of_cell? w _ hx390_1)).trans hx390_1
                                  replace p390 := eq_true p390
                                  replace q390 := eq_true q390
                                  go_wp2_with (first | ((with_reducible refine gate_dst (N := 6) rfl ?_); (try (refine gate_guard (by rfl) ?_; dsimp only)); refine box_event ?hg (N := 6) ?hd (cs := #[.int .i64 0, .int .i64 0]) (t := 41) ?hr ?_; (case hd => rfl); (case hg => rfl); (case hr => first | (go_simp; done) | (go_simp; rfl)); intro gb391 hg w60 hbox hb; have n0_ := Aside0.mk (blk_below (g := gb387) (o := .cells #[.int .i64 a0_0, .slice A0_1 l0_1.length c0_1, .slice (some ad388) l0_2.length c0_2] 26 (0, 0)) (by (with_reducible repeat (first | refine blk_drewN ?_ _ | refine blk_drew ?_ | refine blk_alloc ?_ _)); exact BK387.out) hb); have n1_ := Aside0.mk (blk_below (g := gb389) (o := .cells #[.int .i64 ((rd_T44 l0_2 x3_2).f0), .int .i64 ((rd_T44 l0_2 x3_2).f1), .int .i64 ((rd_T44 l0_2 x3_2).f2), .slice (some ad390) ((rd_T44 l0_2 x3_2).f3).length c388_3] 44 (0, 0)) (by (with_reducible repeat (first | refine blk_drewN ?_ _ | refine blk_drew ?_ | refine blk_alloc ?_ _)); exact BK389.out) hb); have n2_ := Aside0.mk (below_step (by repeat (first | (with_reducible first | exact HB.out | apply below_alloc | apply pw_below_drewN | apply below_drew1 | refine below_set ?_ GE387.out | refine below_set ?_ GE389.out) | exact HB.out)) hb); have n3_ := Aside0.mk (hbox); have n4_ := Aside0.mk ((by rw [hg]; exact (below_size (by repeat (first | (with_reducible first | exact HB.out | apply below_alloc | apply pw_below_drewN | apply below_drew1 | refine below_set ?_ GE387.out | refine below_set ?_ GE389.out) | exact HB.out))) : w.heap.size ≤ gb391)); have n5_ := Aside0.mk ((by rw [hg]; exact (below_size (by repeat (first | (with_reducible first | exact HB.out | apply below_alloc | apply pw_below_drewN | apply below_drew1 | refine below_set ?_ GE387.out | refine below_set ?_ GE389.out) | exact HB.out))) : w.heap.size ≤ gb391)); have n6_ := Aside0.mk ((by rw [hg]; exact Nat.ne_of_lt (blk_lt (g := gb387) (o := .cells #[.int .i64 a0_0, .slice A0_1 l0_1.length c0_1, .slice (some ad388) l0_2.length c0_2] 26 (0, 0)) (by (with_reducible repeat (first | refine blk_drewN ?_ _ | refine blk_drew ?_ | refine blk_alloc ?_ _)); exact BK387.out)) : gb387 ≠ gb391)); have n7_ := Aside0.mk ((by rw [hg]; exact Nat.ne_of_gt (blk_lt (g := gb387) (o := .cells #[.int .i64 a0_0, .slice A0_1 l0_1.length c0_1, .slice (some ad388) l0_2.length c0_2] 26 (0, 0)) (by (with_reducible repeat (first | refine blk_drewN ?_ _ | refine blk_drew ?_ | refine blk_alloc ?_ _)); exact BK387.out)) : gb391 ≠ gb387)); have n8_ := Aside0.mk ((by rw [hg]; exact Nat.ne_of_lt (blk_lt (g := gb389) (o := .cells #[.int .i64 ((rd_T44 l0_2 x3_2).f0), .int .i64 ((rd_T44 l0_2 x3_2).f1), .int .i64 ((rd_T44 l0_2 x3_2).f2), .slice (some ad390) ((rd_T44 l0_2 x3_2).f3).length c388_3] 44 (0, 0)) (by (with_reducible repeat (first | refine blk_drewN ?_ _ | refine blk_drew ?_ | refine blk_alloc ?_ _)); exact BK389.out)) : gb389 ≠ gb391)); have n9_ := Aside0.mk ((by rw [hg]; exact Nat.ne_of_gt (blk_lt (g := gb389) (o := .cells #[.int .i64 ((rd_T44 l0_2 x3_2).f0), .int .i64 ((rd_T44 l0_2 x3_2).f1), .int .i64 ((rd_T44 l0_2 x3_2).f2), .slice (some ad390) ((rd_T44 l0_2 x3_2).f3).length c388_3] 44 (0, 0)) (by (with_reducible repeat (first | refine blk_drewN ?_ _ | refine blk_drew ?_ | refine blk_alloc ?_ _)); exact BK389.out)) : gb391 ≠ gb389)); clear BK387; clear BK389; clear HB; have BK387 := n0_; have BK389 := n1_; have HB := n2_; have BK391 := n3_; have GW391 := n4_; have GE391 := n5_; have NB387_391 := n6_; have NB391_387 := n7_; have NB389_391 := n8_; have NB391_389 := n9_; clear n0_ n1_ n2_ n3_ n4_ n5_ n6_ n7_ n8_ n9_; clear hb hbox hg; have hnb61 := NB391_387.out; have hnc61 := NB387_391.out; have hnb62 := NB391_389.out; have hnc62 := NB389_391.out; have hcz63_0 : w60.cell? ⟨gb391, 0, none⟩ = some (.int .i64 0) := (blk_cell BK391.out 0).trans rfl; have hcz63_1 : w60.cell? ⟨gb391, 1, none⟩ = some (.int .i64 0) := (blk_cell BK391.out 1).trans rfl; have hfz63_0 := blk_frozen BK391.out 0; have hfz63_1 := blk_frozen BK391.out 1))
                                  go_ret
                                  exact ⟨by first | rfl | (simp [errW_none, errW_some] <;> rfl) | (simp [*, errW_none, errW_some] <;> rfl), by repeat (first | (with_reducible first | exact HB.out | apply below_alloc | apply pw_below_drewN | apply below_drew1 | refine below_set ?_ GE387.out | refine below_set ?_ GE389.out | refine below_set ?_ GE391.out) | exact HB.out)⟩
                                · rw [if_neg c57] at H
                                  have c57b0 : decide (29 < ((rd_T41 ((rd_T44 l0_2 x3_2).f3) x5_4).f0)) = false := decide_eq_false c57
                                  clear c57
                                  replace H := Option.bind_eq_some_iff.mp H
                                  obtain ⟨t392, A640, H⟩ := H
                                  replace H : (if t392 = true then (casementref12_Right.l1 k4 x3_2 (wrap64 (x5_4 + 1)) a0_0 l0_1 l0_2 ((rd_T44 l0_2 x3_2).f0) ((rd_T44 l0_2 x3_2).f1) ((rd_T44 l0_2 x3_2).f2) ((rd_T44 l0_2 x3_2).f3)) else (if ((rd_T41 ((rd_T44 l0_2 x3_2).f3) x5_4).f1) = 0 then (casementref12_Right.l1 k4 x3_2 (wrap64 (x5_4 + 1)) a0_0 l0_1 l0_2 ((rd_T44 l0_2 x3_2).f0) ((rd_T44 l0_2 x3_2).f1) ((rd_T44 l0_2 x3_2).f2) ((rd_T44 l0_2 x3_2).f3)) else (some false))) = some r := H
                                  have A64 := Aside0.mk A640
                                  clear A640
                                  by_cases c65 : t392 = true
                                  · subst c65
                                    have H1 : (casementref12_Right.l1 k4 x3_2 (wrap64 (x5_4 + 1)) a0_0 l0_1 l0_2 ((rd_T44 l0_2 x3_2).f0) ((rd_T44 l0_2 x3_2).f1) ((rd_T44 l0_2 x3_2).f2) ((rd_T44 l0_2 x3_2).f3)) = some r := by rw [if_pos rfl] at H; exact H
                                    clear H
                                    have H := H1
                                    clear H1
                                    have H' := Aside0.mk H
                                    clear H
                                    have hnb66 := NB389_387.out
                                    have hnc66 := NB387_389.out
                                    have hcz67_0 : wr.cell? ⟨gb389, 0, none⟩ = some (.int .i64 ((rd_T44 l0_2 x3_2).f0)) := (blk_cell BK389.out 0).trans rfl
                                    have hcz67_1 : wr.cell? ⟨gb389, 1, none⟩ = some (.int .i64 ((rd_T44 l0_2 x3_2).f1)) := (blk_cell BK389.out 1).trans rfl
                                    have hcz67_2 : wr.cell? ⟨gb389, 2, none⟩ = some (.int .i64 ((rd_T44 l0_2 x3_2).f2)) := (blk_cell BK389.out 2).trans rfl
                                    have hcz67_3 : wr.cell? ⟨gb389, 3, none⟩ = some (.slice A388_3 ((rd_T44 l0_2 x3_2).f3).length c388_3) := (blk_cell BK389.out 3).trans rfl
                                    have hfz67_0 := blk_frozen BK389.out 0
                                    have hfz67_1 := blk_frozen BK389.out 1
                                    have hfz67_2 := blk_frozen BK389.out 2
                                    have hfz67_3 := blk_frozen BK389.out 3
                                    have p390 : 0 ≤ (x5_4 : Int) := of_decide_eq_true (by first | (with_reducible assumption) | assumption)
                                    have q390 : x5_4 < (((rd_T44 l0_2 x3_2).f3).length : Int) := of_decide_eq_true (by first | (with_reducible assumption) | assumption)
                                    obtain ⟨ad390, e390, hx390_0, hx390_1⟩ := at_T41 HR388_3.out x5_4 p390 q390
                                    cases e390
                                    replace hx390_0 := (HB.out.cell (World.block_lt_of_cell? w _ hx390_0)).trans hx390_0
                                    replace hx390_1 := (HB.out.cell (World.block_lt_of_cell? w _ hx390_1)).trans hx390_1
                                    replace p390 := eq_true p390
                                    replace q390 := eq_true q390
                                    go_wp2_with (first | ((with_reducible refine gate_dst (N := 6) rfl ?_); (try (refine gate_guard (by rfl) ?_; dsimp only)); refine box_event ?hg (N := 6) ?hd (cs := #[.int .i64 0, .int .i64 0]) (t := 41) ?hr ?_; (case hd => rfl); (case hg => rfl); (case hr => first | (go_simp; done) | (go_simp; rfl)); intro gb391 hg w68 hbox hb; have n0_ := Aside0.mk (blk_below (g := gb387) (o := .cells #[.int .i64 a0_0, .slice A0_1 l0_1.length c0_1, .slice (some ad388) l0_2.length c0_2] 26 (0, 0)) (by (with_reducible repeat (first | refine blk_drewN ?_ _ | refine blk_drew ?_ | refine blk_alloc ?_ _)); exact BK387.out) hb); have n1_ := Aside0.mk (blk_below (g := gb389) (o := .cells #[.int .i64 ((rd_T44 l0_2 x3_2).f0), .int .i64 ((rd_T44 l0_2 x3_2).f1), .int .i64 ((rd_T44 l0_2 x3_2).f2), .slice (some ad390) ((rd_T44 l0_2 x3_2).f3).length c388_3] 44 (0, 0)) (by (with_reducible repeat (first | refine blk_drewN ?_ _ | refine blk_drew ?_ | refine blk_alloc ?_ _)); exact BK389.out) hb); have n2_ := Aside0.mk (below_step (by repeat (first | (with_reducible first | exact HB.out | apply below_alloc | apply pw_below_drewN | apply below_drew1 | refine below_set ?_ GE387.out | refine below_set ?_ GE389.out) | exact HB.out)) hb); have n3_ := Aside0.mk (hbox); have n4_ := Aside0.mk ((by rw [hg]; exact (below_size (by repeat (first | (with_reducible first | exact HB.out | apply below_alloc | apply pw_below_drewN | apply below_drew1 | refine below_set ?_ GE387.out | refine below_set ?_ GE389.out) | exact HB.out))) : w.heap.size ≤ gb391)); have n5_ := Aside0.mk ((by rw [hg]; exact (below_size (by repeat (first | (with_reducible first | exact HB.out | apply below_alloc | apply pw_below_drewN | apply below_drew1 | refine below_set ?_ GE387.out | refine below_set ?_ GE389.out) | exact HB.out))) : w.heap.size ≤ gb391)); have n6_ := Aside0.mk ((by rw [hg]; exact Nat.ne_of_lt (blk_lt (g := gb387) (o := .cells #[.int .i64 a0_0, .slice A0_1 l0_1.length c0_1, .slice (some ad388) l0_2.length c0_2] 26 (0, 0)) (by (with_reducible repeat (first | refine blk_drewN ?_ _ | refine blk_drew ?_ | refine blk_alloc ?_ _)); exact BK387.out)) : gb387 ≠ gb391)); have n7_ := Aside0.mk ((by rw [hg]; exact Nat.ne_of_gt (blk_lt (g := gb387) (o := .cells #[.int .i64 a0_0, .slice A0_1 l0_1.length c0_1, .slice (some ad388) l0_2.length c0_2] 26 (0, 0)) (by (with_reducible repeat (first | refine blk_drewN ?_ _ | refine blk_drew ?_ | refine blk_alloc ?_ _)); exact BK387.out)) : gb391 ≠ gb387)); have n8_ := Aside0.mk ((by rw [hg]; exact Nat.ne_of_lt (blk_lt (g := gb389) (o := .cells #[.int .i64 ((rd_T44 l0_2 x3_2).f0), .int .i64 ((rd_T44 l0_2 x3_2).f1), .int .i64 ((rd_T44 l0_2 x3_2).f2), .slice (some ad390) ((rd_T44 l0_2 x3_2).f3).length c388_3] 44 (0, 0)) (by (with_reducible repeat (first | refine blk_drewN ?_ _ | refine blk_drew ?_ | refine blk_alloc ?_ _)); exact BK389.out)) : gb389 ≠ gb391)); have n9_ := Aside0.mk ((by rw [hg]; exact Nat.ne_of_gt (blk_lt (g := gb389) (o := .cells #[.int .i64 ((rd_T44 l0_2 x3_2).f0), .int .i64 ((rd_T44 l0_2 x3_2).f1), .int .i64 ((rd_T44 l0_2 x3_2).f2), .slice (some ad390) ((rd_T44 l0_2 x3_2).f3).length c388_3] 44 (0, 0)) (by (with_reducible repeat (first | refine blk_drewN ?_ _ | refine blk_drew ?_ | refine blk_alloc ?_ _)); exact BK389.out)) : gb391 ≠ gb389)); clear BK387; clear BK389; clear HB; have BK387 := n0_; have BK389 := n1_; have HB := n2_; have BK391 := n3_; have GW391 := n4_; have GE391 := n5_; have NB387_391 := n6_; have NB391_387 := n7_; have NB389_391 := n8_; have NB391_389 := n9_; clear n0_ n1_ n2_ n3_ n4_ n5_ n6_ n7_ n8_ n9_; clear hb hbox hg; have hnb69 := NB391_387.out; have hnc69 := NB387_391.out; have hnb70 := NB391_389.out; have hnc70 := NB389_391.out; have hcz71_0 : w68.cell? ⟨gb391, 0, none⟩ = some (.int .i64 0) := (blk_cell BK391.out 0).trans rfl; have hcz71_1 : w68.cell? ⟨gb391, 1, none⟩ = some (.int .i64 0) := (blk_cell BK391.out 1).trans rfl; have hfz71_0 := blk_frozen BK391.out 0; have hfz71_1 := blk_frozen BK391.out 1) | (go_at_call 29; (with_reducible refine (casementref12_Has.calls ((rd_T41 ((rd_T44 l0_2 x3_2).f3) x5_4).f0) true _ A64.out).mono ?_); rintro e w' ⟨rfl, ⟨nd, rfl⟩⟩))
                                    go_roundg k4
                                    case measure => have := HJ1.out; have := HK2.out; have := HJ15.out; have := HK4.out; omega
                                    case rel => exact ⟨(wrap64 (x5_4 + 1)), (by first | rfl | (simp; done) | (simp [*]; done)), H', ⟨by have := HJ1.out; have := HK2.out; have := HJ15.out; have := HK4.out; omega⟩, ⟨by (with_reducible repeat (first | refine blk_drewN ?_ _ | refine blk_drew ?_ | refine blk_alloc ?_ _)); refine blk_far ?_ NB387_391.out _; (with_reducible repeat (first | refine blk_drewN ?_ _ | refine blk_drew ?_ | refine blk_alloc ?_ _)); refine blk_far ?_ NB387_391.out _; (with_reducible repeat (first | refine blk_drewN ?_ _ | refine blk_drew ?_ | refine blk_alloc ?_ _)); exact BK387.out⟩, ⟨by (with_reducible repeat (first | refine blk_drewN ?_ _ | refine blk_drew ?_ | refine blk_alloc ?_ _)); refine blk_far ?_ NB389_391.out _; (with_reducible repeat (first | refine blk_drewN ?_ _ | refine blk_drew ?_ | refine blk_alloc ?_ _)); refine blk_far ?_ NB389_391.out _; (with_reducible repeat (first | refine blk_drewN ?_ _ | refine blk_drew ?_ | refine blk_alloc ?_ _)); exact BK389.out⟩, ⟨by repeat (first | (with_reducible first | exact HB.out | apply below_alloc | apply pw_below_drewN | apply below_drew1 | refine below_set ?_ GE387.out | refine below_set ?_ GE389.out | refine below_set ?_ GE391.out) | exact HB.out)⟩⟩
                                  · replace c65 := Bool.eq_false_iff.mpr c65
                                    subst c65
                                    have H1 : (if ((rd_T41 ((rd_T44 l0_2 x3_2).f3) x5_4).f1) = 0 then (casementref12_Right.l1 k4 x3_2 (wrap64 (x5_4 + 1)) a0_0 l0_1 l0_2 ((rd_T44 l0_2 x3_2).f0) ((rd_T44 l0_2 x3_2).f1) ((rd_T44 l0_2 x3_2).f2) ((rd_T44 l0_2 x3_2).f3)) else (some false)) = some r := by rw [if_neg (show ¬ (false = true) by decide)] at H; exact H
                                    clear H
                                    have H := H1
                                    clear H1
                                    by_cases c72 : ((rd_T41 ((rd_T44 l0_2 x3_2).f3) x5_4).f1) = 0
                                    · rw [if_pos c72] at H
                                      have c72b0 : (((rd_T41 ((rd_T44 l0_2 x3_2).f3) x5_4).f1) == 0) = true := beq_iff_eq.mpr c72
                                      have c72b1 : (((rd_T41 ((rd_T44 l0_2 x3_2).f3) x5_4).f1) != 0) = false := bne_eq_false_iff_eq.mpr c72
                                      clear c72
                                      have H' := Aside0.mk H
                                      clear H
                                      have hnb73 := NB389_387.out
                                      have hnc73 := NB387_389.out
                                      have hcz74_0 : wr.cell? ⟨gb389, 0, none⟩ = some (.int .i64 ((rd_T44 l0_2 x3_2).f0)) := (blk_cell BK389.out 0).trans rfl
                                      have hcz74_1 : wr.cell? ⟨gb389, 1, none⟩ = some (.int .i64 ((rd_T44 l0_2 x3_2).f1)) := (blk_cell BK389.out 1).trans rfl
                                      have hcz74_2 : wr.cell? ⟨gb389, 2, none⟩ = some (.int .i64 ((rd_T44 l0_2 x3_2).f2)) := (blk_cell BK389.out 2).trans rfl
                                      have hcz74_3 : wr.cell? ⟨gb389, 3, none⟩ = some (.slice A388_3 ((rd_T44 l0_2 x3_2).f3).length c388_3) := (blk_cell BK389.out 3).trans rfl
                                      have hfz74_0 := blk_frozen BK389.out 0
                                      have hfz74_1 := blk_frozen BK389.out 1
                                      have hfz74_2 := blk_frozen BK389.out 2
                                      have hfz74_3 := blk_frozen BK389.out 3
                                      have p390 : 0 ≤ (x5_4 : Int) := of_decide_eq_true (by first | (with_reducible assumption) | assumption)
                                      have q390 : x5_4 < (((rd_T44 l0_2 x3_2).f3).length : Int) := of_decide_eq_true (by first | (with_reducible assumption) | assumption)
                                      obtain ⟨ad390, e390, hx390_0, hx390_1⟩ := at_T41 HR388_3.out x5_4 p390 q390
                                      cases e390
                                      replace hx390_0 := (HB.out.cell (World.block_lt_of_cell? w _ hx390_0)).trans hx390_0
                                      replace hx390_1 := (HB.out.cell (World.block_lt_of_cell? w _ hx390_1)).trans hx390_1
                                      replace p390 := eq_true p390
                                      replace q390 := eq_true q390
                                      go_wp2_with (first | ((with_reducible refine gate_dst (N := 6) rfl ?_); (try (refine gate_guard (by rfl) ?_; dsimp only)); refine box_event ?hg (N := 6) ?hd (cs := #[.int .i64 0, .int .i64 0]) (t := 41) ?hr ?_; (case hd => rfl); (case hg => rfl); (case hr => first | (go_simp; done) | (go_simp; rfl)); intro gb391 hg w75 hbox hb; have n0_ := Aside0.mk (blk_below (g := gb387) (o := .cells #[.int .i64 a0_0, .slice A0_1 l0_1.length c0_1, .slice (some ad388) l0_2.length c0_2] 26 (0, 0)) (by (with_reducible repeat (first | refine blk_drewN ?_ _ | refine blk_drew ?_ | refine blk_alloc ?_ _)); exact BK387.out) hb); have n1_ := Aside0.mk (blk_below (g := gb389) (o := .cells #[.int .i64 ((rd_T44 l0_2 x3_2).f0), .int .i64 ((rd_T44 l0_2 x3_2).f1), .int .i64 ((rd_T44 l0_2 x3_2).f2), .slice (some ad390) ((rd_T44 l0_2 x3_2).f3).length c388_3] 44 (0, 0)) (by (with_reducible repeat (first | refine blk_drewN ?_ _ | refine blk_drew ?_ | refine blk_alloc ?_ _)); exact BK389.out) hb); have n2_ := Aside0.mk (below_step (by repeat (first | (with_reducible first | exact HB.out | apply below_alloc | apply pw_below_drewN | apply below_drew1 | refine below_set ?_ GE387.out | refine below_set ?_ GE389.out) | exact HB.out)) hb); have n3_ := Aside0.mk (hbox); have n4_ := Aside0.mk ((by rw [hg]; exact (below_size (by repeat (first | (with_reducible first | exact HB.out | apply below_alloc | apply pw_below_drewN | apply below_drew1 | refine below_set ?_ GE387.out | refine below_set ?_ GE389.out) | exact HB.out))) : w.heap.size ≤ gb391)); have n5_ := Aside0.mk ((by rw [hg]; exact (below_size (by repeat (first | (with_reducible first | exact HB.out | apply below_alloc | apply pw_below_drewN | apply below_drew1 | refine below_set ?_ GE387.out | refine below_set ?_ GE389.out) | exact HB.out))) : w.heap.size ≤ gb391)); have n6_ := Aside0.mk ((by rw [hg]; exact Nat.ne_of_lt (blk_lt (g := gb387) (o := .cells #[.int .i64 a0_0, .slice A0_1 l0_1.length c0_1, .slice (some ad388) l0_2.length c0_2] 26 (0, 0)) (by (with_reducible repeat (first | refine blk_drewN ?_ _ | refine blk_drew ?_ | refine blk_alloc ?_ _)); exact BK387.out)) : gb387 ≠ gb391)); have n7_ := Aside0.mk ((by rw [hg]; exact Nat.ne_of_gt (blk_lt (g := gb387) (o := .cells #[.int .i64 a0_0, .slice A0_1 l0_1.length c0_1, .slice (some ad388) l0_2.length c0_2] 26 (0, 0)) (by (with_reducible repeat (first | refine blk_drewN ?_ _ | refine blk_drew ?_ | refine blk_alloc ?_ _)); exact BK387.out)) : gb391 ≠ gb387)); have n8_ := Aside0.mk ((by rw [hg]; exact Nat.ne_of_lt (blk_lt (g := gb389) (o := .cells #[.int .i64 ((rd_T44 l0_2 x3_2).f0), .int .i64 ((rd_T44 l0_2 x3_2).f1), .int .i64 ((rd_T44 l0_2 x3_2).f2), .slice (some ad390) ((rd_T44 l0_2 x3_2).f3).length c388_3] 44 (0, 0)) (by (with_reducible repeat (first | refine blk_drewN ?_ _ | refine blk_drew ?_ | refine blk_alloc ?_ _)); exact BK389.out)) : gb389 ≠ gb391)); have n9_ := Aside0.mk ((by rw [hg]; exact Nat.ne_of_gt (blk_lt (g := gb389) (o := .cells #[.int .i64 ((rd_T44 l0_2 x3_2).f0), .int .i64 ((rd_T44 l0_2 x3_2).f1), .int .i64 ((rd_T44 l0_2 x3_2).f2), .slice (some ad390) ((rd_T44 l0_2 x3_2).f3).length c388_3] 44 (0, 0)) (by (with_reducible repeat (first | refine blk_drewN ?_ _ | refine blk_drew ?_ | refine blk_alloc ?_ _)); exact BK389.out)) : gb391 ≠ gb389)); clear BK387; clear BK389; clear HB; have BK387 := n0_; have BK389 := n1_; have HB := n2_; have BK391 := n3_; have GW391 := n4_; have GE391 := n5_; have NB387_391 := n6_; have NB391_387 := n7_; have NB389_391 := n8_; have NB391_389 := n9_; clear n0_ n1_ n2_ n3_ n4_ n5_ n6_ n7_ n8_ n9_; clear hb hbox hg; have hnb76 := NB391_387.out; have hnc76 := NB387_391.out; have hnb77 := NB391_389.out; have hnc77 := NB389_391.out; have hcz78_0 : w75.cell? ⟨gb391, 0, none⟩ = some (.int .i64 0) := (blk_cell BK391.out 0).trans rfl; have hcz78_1 : w75.cell? ⟨gb391, 1, none⟩ = some (.int .i64 0) := (blk_cell BK391.out 1).trans rfl; have hfz78_0 := blk_frozen BK391.out 0; have hfz78_1 := blk_frozen BK391.out 1) | (go_at_call 29; (with_reducible refine (casementref12_Has.calls ((rd_T41 ((rd_T44 l0_2 x3_2).f3) x5_4).f0) false _ A64.out).mono ?_); rintro e w' ⟨rfl, ⟨nd, rfl⟩⟩))
                                      go_roundg k4
                                      case measure => have := HJ1.out; have := HK2.out; have := HJ15.out; have := HK4.out; omega
                                      case rel => exact ⟨(wrap64 (x5_4 + 1)), (by first | rfl | (simp; done) | (simp [*]; done)), H', ⟨by have := HJ1.out; have := HK2.out; have := HJ15.out; have := HK4.out; omega⟩, ⟨by (with_reducible repeat (first | refine blk_drewN ?_ _ | refine blk_drew ?_ | refine blk_alloc ?_ _)); refine blk_far ?_ NB387_391.out _; (with_reducible repeat (first | refine blk_drewN ?_ _ | refine blk_drew ?_ | refine blk_alloc ?_ _)); refine blk_far ?_ NB387_391.out _; (with_reducible repeat (first | refine blk_drewN ?_ _ | refine blk_drew ?_ | refine blk_alloc ?_ _)); exact BK387.out⟩, ⟨by (with_reducible repeat (first | refine blk_drewN ?_ _ | refine blk_drew ?_ | refine blk_alloc ?_ _)); refine blk_far ?_ NB389_391.out _; (with_reducible repeat (first | refine blk_drewN ?_ _ | refine blk_drew ?_ | refine blk_alloc ?_ _)); refine blk_far ?_ NB389_391.out _; (with_reducible repeat (first | refine blk_drewN ?_ _ | refine blk_drew ?_ | refine blk_alloc ?_ _)); exact BK389.out⟩, ⟨by repeat (first | (with_reducible first | exact HB.out | apply below_alloc | apply pw_below_drewN | apply below_drew1 | refine below_set ?_ GE387.out | refine below_set ?_ GE389.out | refine below_set ?_ GE391.out) | exact HB.out)⟩⟩
                                    · rw [if_neg c72] at H
                                      have c72b0 : (((rd_T41 ((rd_T44 l0_2 x3_2).f3) x5_4).f1) == 0) = false := beq_eq_false_iff_ne.mpr c72
                                      have c72b1 : (((rd_T41 ((rd_T44 l0_2 x3_2).f3) x5_4).f1) != 0) = true := bne_iff_ne.mpr c72
                                      obtain rfl := Option.some.inj H
                                      have hnb79 := NB389_387.out
                                      have hnc79 := NB387_389.out
                                      have hcz80_0 : wr.cell? ⟨gb389, 0, none⟩ = some (.int .i64 ((rd_T44 l0_2 x3_2).f0)) := (blk_cell BK389.out 0).trans rfl
                                      have hcz80_1 : wr.cell? ⟨gb389, 1, none⟩ = some (.int .i64 ((rd_T44 l0_2 x3_2).f1)) := (blk_cell BK389.out 1).trans rfl
                                      have hcz80_2 : wr.cell? ⟨gb389, 2, none⟩ = some (.int .i64 ((rd_T44 l0_2 x3_2).f2)) := (blk_cell BK389.out 2).trans rfl
                                      have hcz80_3 : wr.cell? ⟨gb389, 3, none⟩ = some (.slice A388_3 ((rd_T44 l0_2 x3_2).f3).length c388_3) := (blk_cell BK389.out 3).trans rfl
                                      have hfz80_0 := blk_frozen BK389.out 0
                                      have hfz80_1 := blk_frozen BK389.out 1
                                      have hfz80_2 := blk_frozen BK389.out 2
                                      have hfz80_3 := blk_frozen BK389.out 3
                                      have p390 : 0 ≤ (x5_4 : Int) := of_decide_eq_true (by first | (with_reducible assumption) | assumption)
                                      have q390 : x5_4 < (((rd_T44 l0_2 x3_2).f3).length : Int) := of_decide_eq_true (by first | (with_reducible assumption) | assumption)
                                      obtain ⟨ad390, e390, hx390_0, hx390_1⟩ := at_T41 HR388_3.out x5_4 p390 q390
                                      cases e390
                                      replace hx390_0 := (HB.out.cell (World.block_lt_of_cell? w _ hx390_0)).trans hx390_0
                                      replace hx390_1 := (HB.out.cell (World.block_lt_of_cell? w _ hx390_1)).trans hx390_1
                                      replace p390 := eq_true p390
                                      replace q390 := eq_true q390
                                      go_wp2_with (first | ((with_reducible refine gate_dst (N := 6) rfl ?_); (try (refine gate_guard (by rfl) ?_; dsimp only)); refine box_event ?hg (N := 6) ?hd (cs := #[.int .i64 0, .int .i64 0]) (t := 41) ?hr ?_; (case hd => rfl); (case hg => rfl); (case hr => first | (go_simp; done) | (go_simp; rfl)); intro gb391 hg w81 hbox hb; have n0_ := Aside0.mk (blk_below (g := gb387) (o := .cells #[.int .i64 a0_0, .slice A0_1 l0_1.length c0_1, .slice (some ad388) l0_2.length c0_2] 26 (0, 0)) (by (with_reducible repeat (first | refine blk_drewN ?_ _ | refine blk_drew ?_ | refine blk_alloc ?_ _)); exact BK387.out) hb); have n1_ := Aside0.mk (blk_below (g := gb389) (o := .cells #[.int .i64 ((rd_T44 l0_2 x3_2).f0), .int .i64 ((rd_T44 l0_2 x3_2).f1), .int .i64 ((rd_T44 l0_2 x3_2).f2), .slice (some ad390) ((rd_T44 l0_2 x3_2).f3).length c388_3] 44 (0, 0)) (by (with_reducible repeat (first | refine blk_drewN ?_ _ | refine blk_drew ?_ | refine blk_alloc ?_ _)); exact BK389.out) hb); have n2_ := Aside0.mk (below_step (by repeat (first | (with_reducible first | exact HB.out | apply below_alloc | apply pw_below_drewN | apply below_drew1 | refine below_set ?_ GE387.out | refine below_set ?_ GE389.out) | exact HB.out)) hb); have n3_ := Aside0.mk (hbox); have n4_ := Aside0.mk ((by rw [hg]; exact (below_size (by repeat (first | (with_reducible first | exact HB.out | apply below_alloc | apply pw_below_drewN | apply below_drew1 | refine below_set ?_ GE387.out | refine below_set ?_ GE389.out) | exact HB.out))) : w.heap.size ≤ gb391)); have n5_ := Aside0.mk ((by rw [hg]; exact (below_size (by repeat (first | (with_reducible first | exact HB.out | apply below_alloc | apply pw_below_drewN | apply below_drew1 | refine below_set ?_ GE387.out | refine below_set ?_ GE389.out) | exact HB.out))) : w.heap.size ≤ gb391)); have n6_ := Aside0.mk ((by rw [hg]; exact Nat.ne_of_lt (blk_lt (g := gb387) (o := .cells #[.int .i64 a0_0, .slice A0_1 l0_1.length c0_1, .slice (some ad388) l0_2.length c0_2] 26 (0, 0)) (by (with_reducible repeat (first | refine blk_drewN ?_ _ | refine blk_drew ?_ | refine blk_alloc ?_ _)); exact BK387.out)) : gb387 ≠ gb391)); have n7_ := Aside0.mk ((by rw [hg]; exact Nat.ne_of_gt (blk_lt (g := gb387) (o := .cells #[.int .i64 a0_0, .slice A0_1 l0_1.length c0_1, .slice (some ad388) l0_2.length c0_2] 26 (0, 0)) (by (with_reducible repeat (first | refine blk_drewN ?_ _ | refine blk_drew ?_ | refine blk_alloc ?_ _)); exact BK387.out)) : gb391 ≠ gb387)); have n8_ := Aside0.mk ((by rw [hg]; exact Nat.ne_of_lt (blk_lt (g := gb389) (o := .cells #[.int .i64 ((rd_T44 l0_2 x3_2).f0), .int .i64 ((rd_T44 l0_2 x3_2).f1), .int .i64 ((rd_T44 l0_2 x3_2).f2), .slice (some ad390) ((rd_T44 l0_2 x3_2).f3).length c388_3] 44 (0, 0)) (by (with_reducible repeat (first | refine blk_drewN ?_ _ | refine blk_drew ?_ | refine blk_alloc ?_ _)); exact BK389.out)) : gb389 ≠ gb391)); have n9_ := Aside0.mk ((by rw [hg]; exact Nat.ne_of_gt (blk_lt (g := gb389) (o := .cells #[.int .i64 ((rd_T44 l0_2 x3_2).f0), .int .i64 ((rd_T44 l0_2 x3_2).f1), .int .i64 ((rd_T44 l0_2 x3_2).f2), .slice (some ad390) ((rd_T44 l0_2 x3_2).f3).length c388_3] 44 (0, 0)) (by (with_reducible repeat (first | refine blk_drewN ?_ _ | refine blk_drew ?_ | refine blk_alloc ?_ _)); exact BK389.out)) : gb391 ≠ gb389)); clear BK387; clear BK389; clear HB; have BK387 := n0_; have BK389 := n1_; have HB := n2_; have BK391 := n3_; have GW391 := n4_; have GE391 := n5_; have NB387_391 := n6_; have NB391_387 := n7_; have NB389_391 := n8_; have NB391_389 := n9_; clear n0_ n1_ n2_ n3_ n4_ n5_ n6_ n7_ n8_ n9_; clear hb hbox hg; have hnb82 := NB391_387.out; have hnc82 := NB387_391.out; have hnb83 := NB391_389.out; have hnc83 := NB389_391.out; have hcz84_0 : w81.cell? ⟨gb391, 0, none⟩ = some (.int .i64 0) := (blk_cell BK391.out 0).trans rfl; have hcz84_1 : w81.cell? ⟨gb391, 1, none⟩ = some (.int .i64 0) := (blk_cell BK391.out 1).trans rfl; have hfz84_0 := blk_frozen BK391.out 0; have hfz84_1 := blk_frozen BK391.out 1) | (go_at_call 29; (with_reducible refine (casementref12_Has.calls ((rd_T41 ((rd_T44 l0_2 x3_2).f3) x5_4).f0) false _ A64.out).mono ?_); rintro e w' ⟨rfl, ⟨nd, rfl⟩⟩))
                                      go_ret
                                      exact ⟨by first | rfl | (simp [errW_none, errW_some] <;> rfl) | (simp [*, errW_none, errW_some] <;> rfl), by repeat (first | (with_reducible first | exact HB.out | apply below_alloc | apply pw_below_drewN | apply below_drew1 | refine below_set ?_ GE387.out | refine below_set ?_ GE389.out | refine below_set ?_ GE391.out) | exact HB.out)⟩
                            · rw [if_neg c49] at H
                              exact absurd H (by simp)
                          · rw [if_neg c48] at H
                            have c48b0 : decide (x5_4 < (((rd_T44 l0_2 x3_2).f3).length : Int)) = false := decide_eq_false c48
                            clear c48
                            have H' := Aside0.mk H
                            clear H
                            have hnb85 := NB389_387.out
                            have hnc85 := NB387_389.out
                            have hcz86_0 : wr.cell? ⟨gb389, 0, none⟩ = some (.int .i64 ((rd_T44 l0_2 x3_2).f0)) := (blk_cell BK389.out 0).trans rfl
                            have hcz86_1 : wr.cell? ⟨gb389, 1, none⟩ = some (.int .i64 ((rd_T44 l0_2 x3_2).f1)) := (blk_cell BK389.out 1).trans rfl
                            have hcz86_2 : wr.cell? ⟨gb389, 2, none⟩ = some (.int .i64 ((rd_T44 l0_2 x3_2).f2)) := (blk_cell BK389.out 2).trans rfl
                            have hcz86_3 : wr.cell? ⟨gb389, 3, none⟩ = some (.slice A388_3 ((rd_T44 l0_2 x3_2).f3).length c388_3) := (blk_cell BK389.out 3).trans rfl
                            have hfz86_0 := blk_frozen BK389.out 0
                            have hfz86_1 := blk_frozen BK389.out 1
                            have hfz86_2 := blk_frozen BK389.out 2
                            have hfz86_3 := blk_frozen BK389.out 3
                            go_wp2
                            go_roundg k4
                            case measure => have := HJ1.out; have := HK2.out; have := HJ15.out; have := HK4.out; omega
                            case rel => exact ⟨(wrap64 (x3_2 + 1)), (by first | rfl | (simp; done) | (simp [*]; done)), H', ⟨by have := HJ1.out; have := HK2.out; have := HJ15.out; have := HK4.out; omega⟩, ⟨by (with_reducible repeat (first | refine blk_drewN ?_ _ | refine blk_drew ?_ | refine blk_alloc ?_ _)); exact BK387.out⟩, ⟨by repeat (first | (with_reducible first | exact HB.out | apply below_alloc | apply pw_below_drewN | apply below_drew1 | refine below_set ?_ GE387.out | refine below_set ?_ GE389.out) | exact HB.out)⟩⟩
              · rw [if_neg c15] at H
                exact absurd H (by simp)
            · rw [if_neg c14] at H
              have c14b0 : decide (x3_2 < (l0_2.length : Int)) = false := decide_eq_false c14
              clear c14
              obtain rfl := Option.some.inj H
              have hcz87_0 : wr.cell? ⟨gb387, 0, none⟩ = some (.int .i64 a0_0) := (blk_cell BK387.out 0).trans rfl
              have hcz87_1 : wr.cell? ⟨gb387, 1, none⟩ = some (.slice A0_1 l0_1.length c0_1) := (blk_cell BK387.out 1).trans rfl
              have hcz87_2 : wr.cell? ⟨gb387, 2, none⟩ = some (.slice A0_2 l0_2.length c0_2) := (blk_cell BK387.out 2).trans rfl
              have hfz87_0 := blk_frozen BK387.out 0
              have hfz87_1 := blk_frozen BK387.out 1
              have hfz87_2 := blk_frozen BK387.out 2
              go_wp2
              go_ret
              exact ⟨by first | rfl | (simp [errW_none, errW_some] <;> rfl) | (simp [*, errW_none, errW_some] <;> rfl), by repeat (first | (with_reducible first | exact HB.out | apply below_alloc | apply pw_below_drewN | apply below_drew1 | refine below_set ?_ GE387.out) | exact HB.out)⟩

end Go.Proofs.Ytbdkphjpdoajpaa.Q
