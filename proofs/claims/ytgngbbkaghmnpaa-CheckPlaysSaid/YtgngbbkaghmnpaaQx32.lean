-- written by a program of this session after the way of the kit's print; not the kit's own print. Lean checks it.
import Derived.Test.YtgngbbkaghmnpaaQx0
import Derived.Test.YtgngbbkaghmnpaaQx23
import Derived.Test.YtgngbbkaghmnpaaQx30
import Derived.Test.YtgngbbkaghmnpaaQx31
namespace Go.Proofs.Ytgngbbkaghmnpaa.Q
open Go.RowKit Go.Proofs.YtgngbbkaghmnpaaW.PrintWords Go.Proofs.YtgngbbkaghmnpaaW.PrintLast Go.Proofs.YtgngbbkaghmnpaaW.PrintMore
attribute [local go_sem] max2_int min2_int max_two min_two max_three min_three max_four min_four   -- for this text's walks alone
set_option linter.unusedVariables false
set_option linter.unusedSimpArgs false

/-! ### casementref13_Check: function 10 -/
mutual
def casementref13_Check.j0 : Nat → Bool → Int → List Int → List (S42) → Option (Int × Int × Int)
  | 0, _, _, _, _ => none
  | k + 1, x31, x515000, x515001, x515002 => if x31 = true then (some (0, (-1), 1)) else (casementref13_Check.l0 k 0 x515000 x515001 x515002)
def casementref13_Check.l0 : Nat → Int → Int → List Int → List (S42) → Option (Int × Int × Int)
  | 0, _, _, _, _ => none
  | k + 1, x5, x515000, x515001, x515002 => if x5 < (x515002.length : Int) then (if 0 ≤ x5 then (casementref13_Check.l1 k x5 ((rd_T42 x515002 x5).f3) 0 x515000 x515001 x515002) else (none)) else (some (0, 0, 0))
def casementref13_Check.l1 : Nat → Int → List (S46) → Int → Int → List Int → List (S42) → Option (Int × Int × Int)
  | 0, _, _, _, _, _, _ => none
  | k + 1, x5, x6, x7, x515000, x515001, x515002 => if x7 < (x6.length : Int) then (if 0 ≤ x7 then ((casementref13_bad.f k x515000 x515001 x515002 x5 ((rd_T46 x6 x7).f0) ((rd_T46 x6 x7).f1)).bind fun t524 => (if t524 = true then (some (x5, x7, 130)) else (casementref13_Check.l1 k x5 x6 (wrap64 (x7 + 1)) x515000 x515001 x515002))) else (none)) else ((casementref13_Heights.f k x515000 x515001 x515002 x5).bind fun bt525 => (if bt525.2 = true then (casementref13_Check.l0 k (wrap64 (x5 + 1)) x515000 x515001 x515002) else (some (x5, (-1), 130))))
end
def casementref13_Check.f (k : Nat) (a0_0 : Int) (l0_1 : List Int) (l0_2 : List (S42)) : Option (Int × Int × Int) := (casementref12_Encode.f k a0_0 l0_1 l0_2).bind fun bt516 => (if bt516.2 = 0 then (if 0 < (l0_2.length : Int) then (if ((rd_T42 l0_2 0).f0) = 3 then (casementref13_Check.j0 k (((rd_T42 l0_2 0).f1) != 0) a0_0 l0_1 l0_2) else (casementref13_Check.j0 k true a0_0 l0_1 l0_2)) else (none)) else (some ((-1), (-1), 1)))
theorem casementref13_Check.mono_l : ∀ k, (∀ y0 y1 y2 y3, LeO (casementref13_Check.j0 k y0 y1 y2 y3) (casementref13_Check.j0 (k + 1) y0 y1 y2 y3)) ∧ (∀ y0 y1 y2 y3, LeO (casementref13_Check.l0 k y0 y1 y2 y3) (casementref13_Check.l0 (k + 1) y0 y1 y2 y3)) ∧ (∀ y0 y1 y2 y3 y4 y5, LeO (casementref13_Check.l1 k y0 y1 y2 y3 y4 y5) (casementref13_Check.l1 (k + 1) y0 y1 y2 y3 y4 y5))
  | 0 => ⟨fun _ _ _ _ r h => by simp [casementref13_Check.j0] at h, fun _ _ _ _ r h => by simp [casementref13_Check.l0] at h, fun _ _ _ _ _ _ r h => by simp [casementref13_Check.l1] at h⟩
  | k + 1 => by
    obtain ⟨ih0, ih1, ih2⟩ := casementref13_Check.mono_l k
    refine ⟨?_, ?_, ?_⟩ <;> intros <;> (first | unfold casementref13_Check.j0 | unfold casementref13_Check.l0 | unfold casementref13_Check.l1) <;>
      (repeat' first
      | (with_reducible exact ih0 _ _ _ _)
      | (with_reducible exact ih1 _ _ _ _)
      | (with_reducible exact ih2 _ _ _ _ _ _)
      | (with_reducible exact casementref12_Encode.mono _ _ _ _)
      | (with_reducible exact casementref13_Heights.mono _ _ _ _ _)
      | (with_reducible exact casementref13_bad.mono _ _ _ _ _ _ _)
      | (with_reducible exact LeO.refl _)
      | (with_reducible exact LeO.none _)
      | (with_reducible refine LeO.ite ?_ ?_)
      | (with_reducible refine LeO.bind ?_ (fun _ => ?_))
      | exact ih0 _ _ _ _
      | exact ih1 _ _ _ _
      | exact ih2 _ _ _ _ _ _
      | exact casementref12_Encode.mono _ _ _ _
      | exact casementref13_Heights.mono _ _ _ _ _
      | exact casementref13_bad.mono _ _ _ _ _ _ _
      | exact LeO.none _
      | refine LeO.ite ?_ ?_
      | refine LeO.bind ?_ (fun _ => ?_))
theorem casementref13_Check.mono : ∀ a0 a1 a2 k, LeO (casementref13_Check.f k a0 a1 a2) (casementref13_Check.f (k + 1) a0 a1 a2) := by
  intro a0 a1 a2 k; obtain ⟨ih0, ih1, ih2⟩ := casementref13_Check.mono_l k
  unfold casementref13_Check.f
  repeat' first
      | (with_reducible exact ih0 _ _ _ _)
      | (with_reducible exact ih1 _ _ _ _)
      | (with_reducible exact ih2 _ _ _ _ _ _)
      | (with_reducible exact casementref12_Encode.mono _ _ _ _)
      | (with_reducible exact casementref13_Heights.mono _ _ _ _ _)
      | (with_reducible exact casementref13_bad.mono _ _ _ _ _ _ _)
      | (with_reducible exact LeO.refl _)
      | (with_reducible exact LeO.none _)
      | (with_reducible refine LeO.ite ?_ ?_)
      | (with_reducible refine LeO.bind ?_ (fun _ => ?_))
      | exact ih0 _ _ _ _
      | exact ih1 _ _ _ _
      | exact ih2 _ _ _ _ _ _
      | exact casementref12_Encode.mono _ _ _ _
      | exact casementref13_Heights.mono _ _ _ _ _
      | exact casementref13_bad.mono _ _ _ _ _ _ _
      | exact LeO.none _
      | refine LeO.ite ?_ ?_
      | refine LeO.bind ?_ (fun _ => ?_)
set_option maxHeartbeats 8000000 in
set_option maxRecDepth 100000 in
theorem casementref13_Check.calls (k : Nat) (a0_0 : Int) (A0_1 : Option Addr) (c0_1 : Nat) (l0_1 : List Int) (A0_2 : Option Addr) (c0_2 : Nat) (l0_2 : List (S42)) (r1 : Int) (r2 : Int) (r3 : Int) (w : World) (hr0_1 : Kd.C (Kd.int .u8) w A0_1 l0_1.length l0_1) (hc0_1 : l0_1.length ≤ c0_1) (hr0_2 : Kd.C k42 w A0_2 l0_2.length l0_2) (hc0_2 : l0_2.length ≤ c0_2) (h : casementref13_Check.f k a0_0 l0_1 l0_2 = some (r1, r2, r3)) :
    Calls Try.prog 10 #[.agg #[.int .i64 a0_0, .slice A0_1 l0_1.length c0_1, .slice A0_2 l0_2.length c0_2]] w fun e w' => e = .returned (.agg #[.int .i64 r1, .int .i64 r2, .int .i64 r3]) ∧ Below w.heap.size w w' := by
  have hu25 := Try.underlying25; have hu32 := Try.underlying32; have hu46 := Try.underlying46; have HR0_1 := Aside0.mk hr0_1; have HC0_1 := Aside0.mk hc0_1; clear hr0_1 hc0_1; have HR0_2 := Aside0.mk hr0_2; have HC0_2 := Aside0.mk hc0_2; clear hr0_2 hc0_2; have HB := Aside0.mk (Below.refl w.heap.size w); have H : ((casementref12_Encode.f k a0_0 l0_1 l0_2).bind fun bt516 => (if bt516.2 = 0 then (if 0 < (l0_2.length : Int) then (if ((rd_T42 l0_2 0).f0) = 3 then (casementref13_Check.j0 k (((rd_T42 l0_2 0).f1) != 0) a0_0 l0_1 l0_2) else (casementref13_Check.j0 k true a0_0 l0_1 l0_2)) else (none)) else (some ((-1), (-1), 1)))) = some (r1, r2, r3) := h; clear h; replace H := Option.bind_eq_some_iff.mp H; obtain ⟨⟨t516, t519⟩, A20, H⟩ := H; replace H : (if t519 = 0 then (if 0 < (l0_2.length : Int) then (if ((rd_T42 l0_2 0).f0) = 3 then (casementref13_Check.j0 k (((rd_T42 l0_2 0).f1) != 0) a0_0 l0_1 l0_2) else (casementref13_Check.j0 k true a0_0 l0_1 l0_2)) else (none)) else (some ((-1), (-1), 1))) = some (r1, r2, r3) := H; have A2 := Aside0.mk A20; clear A20
  by_cases c3 : t519 = 0
  · rw [if_pos c3] at H
    have c3b0 : (t519 == 0) = true := beq_iff_eq.mpr c3; have c3b1 : (t519 != 0) = false := bne_eq_false_iff_eq.mpr c3; clear c3; have HC4 := Aside0.mk H; clear H
    go_enter Try.func10, Try.ntmps10
    go_upto_region 4 with (first | ((with_reducible refine gate_dst (N := 1) rfl ?_); refine box_event ?hg (N := 1) ?hd (cs := #[.int .i64 a0_0, .slice A0_1 l0_1.length c0_1, .slice A0_2 l0_2.length c0_2]) (t := 25) ?hr ?_; (case hd => rfl); (case hg => rfl); (case hr => first | (go_simp; done) | (go_simp; rfl)); intro gb514 hg w5 hbox hb; have n0_ := Aside0.mk (below_step (bn0 HB) hb); have BK514 := Aside0.mk (hbox); have GW514 := Aside0.mk ((by rw [hg]; exact (below_size (bn0 HB)) : w.heap.size ≤ gb514)); have GE514 := Aside0.mk ((by rw [hg]; exact (below_size (bn0 HB)) : w.heap.size ≤ gb514)); replace HB := n0_; clear n0_; clear hb hbox hg) | ((with_reducible refine gate_dst (N := 2) rfl ?_); refine box_event ?hg (N := 2) ?hd (cs := #[.int .i64 0, .int .i64 0, .int .i64 0]) (t := 32) ?hr ?_; (case hd => rfl); (case hg => rfl); (case hr => first | (go_simp; done) | (go_simp; rfl)); intro gb515 hg w6 hbox hb; have n0_ := Aside0.mk (blk_below (g := gb514) (o := .cells #[.int .i64 a0_0, .slice A0_1 l0_1.length c0_1, .slice A0_2 l0_2.length c0_2] 25 (0, 0)) (bkn BK514) hb); have n1_ := Aside0.mk (below_step (bn1 HB GE514) hb); have BK515 := Aside0.mk (hbox); have GW515 := Aside0.mk ((by rw [hg]; exact (below_size (bn1 HB GE514)) : w.heap.size ≤ gb515)); have GE515 := Aside0.mk ((by rw [hg]; exact (below_size (bn1 HB GE514)) : w.heap.size ≤ gb515)); have NB514_515 := Aside0.mk ((by rw [hg]; exact Nat.ne_of_lt (blk_lt (g := gb514) (o := .cells #[.int .i64 a0_0, .slice A0_1 l0_1.length c0_1, .slice A0_2 l0_2.length c0_2] 25 (0, 0)) (bkn BK514)) : gb514 ≠ gb515)); have NB515_514 := Aside0.mk ((by rw [hg]; exact Nat.ne_of_gt (blk_lt (g := gb514) (o := .cells #[.int .i64 a0_0, .slice A0_1 l0_1.length c0_1, .slice A0_2 l0_2.length c0_2] 25 (0, 0)) (bkn BK514)) : gb515 ≠ gb514)); replace BK514 := n0_; replace HB := n1_; clear n0_ n1_; clear hb hbox hg; have hnb7 := NB514_515.out; have hnc7 := NB515_514.out; obtain ⟨hcz8_0, hcz8_1, hcz8_2⟩ := cells3 BK514.out; obtain ⟨hfz8_0, hfz8_1, hfz8_2⟩ := froz3 BK514.out) | ((with_reducible refine gate_callee (f := 22) rfl ?_); refine goesL_ (some 12) rfl rfl Try.func22 (by kernel_rfl) rfl #[.agg #[.int .i64 a0_0, .slice A0_1 l0_1.length c0_1, .slice A0_2 l0_2.length c0_2]] rfl (by (try simp only [List.map_toArray, List.map_cons, List.map_nil]); first | done | rfl | (simp only [List.length_drop, List.length_take]; rfl)) ?_; (with_reducible refine (casementref12_Encode.calls k a0_0 _ _ l0_1 _ _ l0_2 t516 t519 _ ?side1 ?side2 ?side3 ?side4 A2.out).mono ?_); (case side1 => repeat (first | exact (Kd.C_below HR0_1.out HB.out) | (with_reducible refine Kd.C_alloc ?_ _) | (with_reducible refine Kd.C_drewN ?_ _) | (with_reducible refine Kd.C_drew ?_))); (case side2 => exact HC0_1.out); (case side3 => repeat (first | exact (Kd.C_below HR0_2.out HB.out) | (with_reducible refine Kd.C_alloc ?_ _) | (with_reducible refine Kd.C_drewN ?_ _) | (with_reducible refine Kd.C_drew ?_))); (case side4 => exact HC0_2.out); rintro e w9 ⟨v517, rfl, ho0, hb⟩; refine ⟨_, rfl, ?_⟩; have HO518 := Aside0.mk (Kd.R_lower ho0 (below_size (bn2 HB GE514 GE515))); replace BK514 := Aside0.mk (blk_below (g := gb514) (o := .cells #[.int .i64 a0_0, .slice A0_1 l0_1.length c0_1, .slice A0_2 l0_2.length c0_2] 25 (0, 0)) (bkn BK514) hb); replace BK515 := Aside0.mk (blk_below (g := gb515) (o := .cells #[.int .i64 0, .int .i64 0, .int .i64 0] 32 (0, 0)) (bkn BK515) hb); replace HB := Aside0.mk (below_step (bn2 HB GE514 GE515) hb); (try clear hb); (try clear ho0)))
    (try simp only [Act.put, List.setIfInBounds_toArray, List.set_cons_zero, List.set_cons_succ])
    go_cut [31] (fun v31 wc => ∃ (kq : Nat) (x31_3 : Bool), v31 = .bool x31_3 ∧ Aside0 (casementref13_Check.j0 kq x31_3 a0_0 l0_1 l0_2 = some (r1, r2, r3)) ∧ Aside0 (kq ≤ k) ∧ Aside0 (wc.heap[gb514]? = some (.cells #[.int .i64 a0_0, (.slice A0_1 l0_1.length c0_1), (.slice A0_2 l0_2.length c0_2)] 25 (0, 0))) ∧ Aside0 (wc.heap[gb515]? = some (.cells #[.int .i64 0, .int .i64 0, .int .i64 0] 32 (0, 0))) ∧ Aside0 (Below w.heap.size w wc))
    case first =>
      have H := HC4.out; clear HC4
      by_cases c10 : 0 < (l0_2.length : Int)
      case neg => rw [if_neg c10] at H; exact absurd H (by simp)
      rw [if_pos c10] at H; have c10b0 : decide (0 < (l0_2.length : Int)) = true := decide_eq_true c10; have c10b1 : decide (0 < l0_2.length) = true := decide_eq_true (by omega); clear c10
      (first | rw [c10b0] | (simp only [i64_w, i32_w]; rw [c10b0]) | skip)
      by_cases c11 : ((rd_T42 l0_2 0).f0) = 3
      · rw [if_pos c11] at H
        have c11b0 : (((rd_T42 l0_2 0).f0) == 3) = true := beq_iff_eq.mpr c11; have c11b1 : (((rd_T42 l0_2 0).f0) != 3) = false := bne_eq_false_iff_eq.mpr c11; clear c11; have H' := Aside0.mk H; clear H; have hnb12 := NB514_515.out; have hnc12 := NB515_514.out; obtain ⟨hcz13_0, hcz13_1, hcz13_2⟩ := cells3 BK514.out; obtain ⟨hfz13_0, hfz13_1, hfz13_2⟩ := froz3 BK514.out; have p520 : 0 ≤ (0 : Int) := (by omega); have q520 : 0 < (l0_2.length : Int) := of_decide_eq_true (by first | (with_reducible assumption) | assumption); obtain ⟨ad520, A520_3, c520_3, e520, hx520_0, hx520_1, hx520_2, hx520_3, hl520_3, hi520_3⟩ := at_T42 HR0_2.out 0 p520 q520
        cases e520
        have qi520 : (0 < l0_2.length) = True := eq_true (by omega)
        (try rw [show ((0 : Int)).toNat = 0 from rfl] at hx520_0)
        (try rw [show 0 * 4 = 0 from rfl] at hx520_0)
        (try rw [Addr.add_zero'] at hx520_0)
        (try rw [show ((0 : Int)).toNat = 0 from rfl] at hx520_1)
        (try rw [show 0 * 4 = 0 from rfl] at hx520_1)
        (try rw [Addr.add_zero'] at hx520_1)
        (try rw [show ((0 : Int)).toNat = 0 from rfl] at hx520_2)
        (try rw [show 0 * 4 = 0 from rfl] at hx520_2)
        (try rw [Addr.add_zero'] at hx520_2)
        (try rw [show ((0 : Int)).toNat = 0 from rfl] at hx520_3)
        (try rw [show 0 * 4 = 0 from rfl] at hx520_3)
        (try rw [Addr.add_zero'] at hx520_3)
        replace hx520_0 := (HB.out.cell (World.block_lt_of_cell? w _ hx520_0)).trans hx520_0; replace hx520_1 := (HB.out.cell (World.block_lt_of_cell? w _ hx520_1)).trans hx520_1; replace hx520_2 := (HB.out.cell (World.block_lt_of_cell? w _ hx520_2)).trans hx520_2; replace hx520_3 := (HB.out.cell (World.block_lt_of_cell? w _ hx520_3)).trans hx520_3; have HR520_3 := Aside0.mk hi520_3; have HC520_3 := Aside0.mk hl520_3; clear hi520_3 hl520_3; replace p520 := eq_true p520; replace q520 := eq_true q520; have p521 : 0 ≤ (0 : Int) := (by omega); have q521 : 0 < (l0_2.length : Int) := of_decide_eq_true (by first | (with_reducible assumption) | assumption); obtain ⟨ad521, A521_3, c521_3, e521, hx521_0, hx521_1, hx521_2, hx521_3, hl521_3, hi521_3⟩ := at_T42 HR0_2.out 0 p521 q521; obtain rfl : ad520 = ad521 := (by injection e521); have qi521 : (0 < l0_2.length) = True := eq_true (by omega)
        (try rw [show ((0 : Int)).toNat = 0 from rfl] at hx521_0)
        (try rw [show 0 * 4 = 0 from rfl] at hx521_0)
        (try rw [Addr.add_zero'] at hx521_0)
        (try rw [show ((0 : Int)).toNat = 0 from rfl] at hx521_1)
        (try rw [show 0 * 4 = 0 from rfl] at hx521_1)
        (try rw [Addr.add_zero'] at hx521_1)
        (try rw [show ((0 : Int)).toNat = 0 from rfl] at hx521_2)
        (try rw [show 0 * 4 = 0 from rfl] at hx521_2)
        (try rw [Addr.add_zero'] at hx521_2)
        (try rw [show ((0 : Int)).toNat = 0 from rfl] at hx521_3)
        (try rw [show 0 * 4 = 0 from rfl] at hx521_3)
        (try rw [Addr.add_zero'] at hx521_3)
        replace hx521_0 := (HB.out.cell (World.block_lt_of_cell? w _ hx521_0)).trans hx521_0; replace hx521_1 := (HB.out.cell (World.block_lt_of_cell? w _ hx521_1)).trans hx521_1; replace hx521_2 := (HB.out.cell (World.block_lt_of_cell? w _ hx521_2)).trans hx521_2; replace hx521_3 := (HB.out.cell (World.block_lt_of_cell? w _ hx521_3)).trans hx521_3; have HR521_3 := Aside0.mk hi521_3; have HC521_3 := Aside0.mk hl521_3; clear hi521_3 hl521_3; replace p521 := eq_true p521; replace q521 := eq_true q521; have ea_ := Option.some.inj (hx520_3.symm.trans hx521_3)
        injection ea_ with ea_ en_ ec_
        subst ea_; subst ec_; clear en_
        go_wp2
        go_meet
        case rel => exact ⟨_, ((((rd_T42 l0_2 0).f1) != 0)), (by first | rfl | (simp; done) | (simp [*]; done)), H', ⟨by first | omega | exact Nat.le_refl _⟩, ⟨by (with_reducible repeat (first | refine blk_drewN ?_ _ | refine blk_drew ?_ | refine blk_alloc ?_ _)); exact BK514.out⟩, ⟨by (with_reducible repeat (first | refine blk_drewN ?_ _ | refine blk_drew ?_ | refine blk_alloc ?_ _)); exact BK515.out⟩, ⟨bn2 HB GE514 GE515⟩⟩
      · rw [if_neg c11] at H
        have c11b0 : (((rd_T42 l0_2 0).f0) == 3) = false := beq_eq_false_iff_ne.mpr c11; have c11b1 : (((rd_T42 l0_2 0).f0) != 3) = true := bne_iff_ne.mpr c11; have H' := Aside0.mk H; clear H; have hnb14 := NB514_515.out; have hnc14 := NB515_514.out; obtain ⟨hcz15_0, hcz15_1, hcz15_2⟩ := cells3 BK514.out; obtain ⟨hfz15_0, hfz15_1, hfz15_2⟩ := froz3 BK514.out; have p520 : 0 ≤ (0 : Int) := (by omega); have q520 : 0 < (l0_2.length : Int) := of_decide_eq_true (by first | (with_reducible assumption) | assumption); obtain ⟨ad520, A520_3, c520_3, e520, hx520_0, hx520_1, hx520_2, hx520_3, hl520_3, hi520_3⟩ := at_T42 HR0_2.out 0 p520 q520
        cases e520
        have qi520 : (0 < l0_2.length) = True := eq_true (by omega)
        (try rw [show ((0 : Int)).toNat = 0 from rfl] at hx520_0)
        (try rw [show 0 * 4 = 0 from rfl] at hx520_0)
        (try rw [Addr.add_zero'] at hx520_0)
        (try rw [show ((0 : Int)).toNat = 0 from rfl] at hx520_1)
        (try rw [show 0 * 4 = 0 from rfl] at hx520_1)
        (try rw [Addr.add_zero'] at hx520_1)
        (try rw [show ((0 : Int)).toNat = 0 from rfl] at hx520_2)
        (try rw [show 0 * 4 = 0 from rfl] at hx520_2)
        (try rw [Addr.add_zero'] at hx520_2)
        (try rw [show ((0 : Int)).toNat = 0 from rfl] at hx520_3)
        (try rw [show 0 * 4 = 0 from rfl] at hx520_3)
        (try rw [Addr.add_zero'] at hx520_3)
        replace hx520_0 := (HB.out.cell (World.block_lt_of_cell? w _ hx520_0)).trans hx520_0; replace hx520_1 := (HB.out.cell (World.block_lt_of_cell? w _ hx520_1)).trans hx520_1; replace hx520_2 := (HB.out.cell (World.block_lt_of_cell? w _ hx520_2)).trans hx520_2; replace hx520_3 := (HB.out.cell (World.block_lt_of_cell? w _ hx520_3)).trans hx520_3; have HR520_3 := Aside0.mk hi520_3; have HC520_3 := Aside0.mk hl520_3; clear hi520_3 hl520_3; replace p520 := eq_true p520; replace q520 := eq_true q520
        go_wp2
        go_meet
        case rel => exact ⟨_, (true), (by first | rfl | (simp; done) | (simp [*]; done)), H', ⟨by first | omega | exact Nat.le_refl _⟩, ⟨by (with_reducible repeat (first | refine blk_drewN ?_ _ | refine blk_drew ?_ | refine blk_alloc ?_ _)); exact BK514.out⟩, ⟨by (with_reducible repeat (first | refine blk_drewN ?_ _ | refine blk_drew ?_ | refine blk_alloc ?_ _)); exact BK515.out⟩, ⟨bn2 HB GE514 GE515⟩⟩
    case rest =>
      clear HC4
      try clear c1
      try clear c2
      try clear p2
      try clear c3
      try clear c3b0
      try clear c3b1
      try clear c5
      try clear p5
      try clear q5
      try clear hx5
      try clear qi5
      try clear c7
      try clear c10
      try clear c10b0
      try clear c10b1
      try clear c11
      try clear c11b0
      try clear c11b1
      try clear c12
      try clear c14
      try clear hcz13_0
      try clear hcz13_1
      try clear hcz13_2
      try clear hcz15_0
      try clear hcz15_1
      try clear hcz15_2
      try clear hcz8_0
      try clear hcz8_1
      try clear hcz8_2
      try clear hfz13_0
      try clear hfz13_1
      try clear hfz13_2
      try clear hfz15_0
      try clear hfz15_1
      try clear hfz15_2
      try clear hfz8_0
      try clear hfz8_1
      try clear hfz8_2
      try clear hx520_0
      try clear hx520_1
      try clear hx520_2
      try clear hx520_3
      try clear hx521_0
      try clear hx521_1
      try clear hx521_2
      try clear hx521_3
      try clear p520
      try clear p521
      try clear q520
      try clear q521
      obtain ⟨kq, x31_3, rfl, HA, HJ3, BK514, BK515, HB⟩ := hcut
      cases kq with
      | zero => exact absurd HA.out (by simp [casementref13_Check.j0])
      | succ kj3 => ?_
      have H := HA.out; clear HA; simp only [casementref13_Check.j0] at H
      by_cases c16 : x31_3 = true
      · subst c16
        have H1 : (some (0, (-1), 1)) = some (r1, r2, r3) := by rw [if_pos rfl] at H; exact H
        clear H; have H := H1; clear H1; simp only [Option.some.injEq, Prod.mk.injEq] at H; obtain ⟨rfl, rfl, rfl⟩ := H; have hnb17 := NB515_514.out; have hnc17 := NB514_515.out; obtain ⟨hcz18_0, hcz18_1, hcz18_2⟩ := cells3 BK515.out; obtain ⟨hfz18_0, hfz18_1, hfz18_2⟩ := froz3 BK515.out
        go_wp2
        refine bodyPost_ret (results_cell_row rfl _ _ gb515 32 #[.int .i64 0, .int .i64 (-1), .int .i64 1] (0, 0) _ rfl (by (with_reducible repeat (first | refine blk_drewN ?_ _ | refine blk_drew ?_ | refine blk_alloc ?_ _)); refine blk_put (cs := #[.int .i64 0, .int .i64 (-1), .int .i64 0]) ?_ 2 _ rfl; (with_reducible repeat (first | refine blk_drewN ?_ _ | refine blk_drew ?_ | refine blk_alloc ?_ _)); refine blk_put (cs := #[.int .i64 0, .int .i64 0, .int .i64 0]) ?_ 1 _ rfl; (with_reducible repeat (first | refine blk_drewN ?_ _ | refine blk_drew ?_ | refine blk_alloc ?_ _)); refine blk_put (cs := #[.int .i64 0, .int .i64 0, .int .i64 0]) ?_ 0 _ rfl; (with_reducible repeat (first | refine blk_drewN ?_ _ | refine blk_drew ?_ | refine blk_alloc ?_ _)); exact BK515.out) Try.underlying32 rfl (by kernel_rfl)) rfl ?_
        exact ⟨by first | rfl | (simp [errW_none, errW_some] <;> rfl) | (simp [*, errW_none, errW_some] <;> rfl), bn2 HB GE514 GE515⟩
      · replace c16 := Bool.eq_false_iff.mpr c16
        subst c16
        have H1 : (casementref13_Check.l0 kj3 0 a0_0 l0_1 l0_2) = some (r1, r2, r3) := by rw [if_neg (show ¬ (false = true) by decide)] at H; exact H
        clear H; have H := H1; clear H1; have H' := Aside0.mk H; clear H
        go_wp2
        go_loopg [5] kj3 (fun kq v5 w' => ∃ (x5_2 : Int) (x516000_2 : Int) (x516001_2 : Int) (x516002_2 : Int), v5 = .int .i64 x5_2 ∧ Aside0 (casementref13_Check.l0 kq x5_2 a0_0 l0_1 l0_2 = some (r1, r2, r3)) ∧ Aside0 (kq ≤ kj3) ∧ Aside0 (w'.heap[gb514]? = some (.cells #[.int .i64 a0_0, (.slice A0_1 l0_1.length c0_1), (.slice A0_2 l0_2.length c0_2)] 25 (0, 0))) ∧ Aside0 (w'.heap[gb515]? = some (.cells #[.int .i64 x516000_2, .int .i64 x516001_2, .int .i64 x516002_2] 32 (0, 0))) ∧ Aside0 (Below w.heap.size w w'))
        case atStart => exact ⟨(0), (0), (0), (0), (by first | rfl | (simp; done) | (simp [*]; done)), H', ⟨Nat.le_refl _⟩, ⟨by (with_reducible repeat (first | refine blk_drewN ?_ _ | refine blk_drew ?_ | refine blk_alloc ?_ _)); exact BK514.out⟩, ⟨by (with_reducible repeat (first | refine blk_drewN ?_ _ | refine blk_drew ?_ | refine blk_alloc ?_ _)); exact BK515.out⟩, ⟨bn2 HB GE514 GE515⟩⟩
        case round =>
          clear H'
          try clear c1
          try clear c2
          try clear p2
          try clear c3
          try clear c3b0
          try clear c3b1
          try clear c5
          try clear p5
          try clear q5
          try clear hx5
          try clear qi5
          try clear c7
          try clear c10
          try clear c10b0
          try clear c10b1
          try clear c11
          try clear c11b0
          try clear c11b1
          try clear c12
          try clear c14
          try clear c16
          try clear c17
          try clear hcz13_0
          try clear hcz13_1
          try clear hcz13_2
          try clear hcz15_0
          try clear hcz15_1
          try clear hcz15_2
          try clear hcz18_0
          try clear hcz18_1
          try clear hcz18_2
          try clear hcz8_0
          try clear hcz8_1
          try clear hcz8_2
          try clear hfz13_0
          try clear hfz13_1
          try clear hfz13_2
          try clear hfz15_0
          try clear hfz15_1
          try clear hfz15_2
          try clear hfz18_0
          try clear hfz18_1
          try clear hfz18_2
          try clear hfz8_0
          try clear hfz8_1
          try clear hfz8_2
          try clear hx520_0
          try clear hx520_1
          try clear hx520_2
          try clear hx520_3
          try clear hx521_0
          try clear hx521_1
          try clear hx521_2
          try clear hx521_3
          try clear p2
          try clear p5
          try clear p520
          try clear p521
          try clear q5
          try clear q520
          try clear q521
          obtain ⟨x5_2, x516000_2, x516001_2, x516002_2, rfl, HA, HK2, BK514, BK515, HB⟩ := hrel
          cases gk with
          | zero => exact absurd HA.out (by simp [casementref13_Check.l0])
          | succ k2 => ?_
          have H := HA.out; clear HA; simp only [casementref13_Check.l0] at H
          by_cases c19 : x5_2 < (l0_2.length : Int)
          · rw [if_pos c19] at H
            have c19b0 : decide (x5_2 < (l0_2.length : Int)) = true := decide_eq_true c19; clear c19
            by_cases c20 : 0 ≤ x5_2
            case neg => rw [if_neg c20] at H; exact absurd H (by simp)
            rw [if_pos c20] at H; have c20b0 : decide (0 ≤ x5_2) = true := decide_eq_true c20; clear c20; have H' := Aside0.mk H; clear H; have hnb21 := NB514_515.out; have hnc21 := NB515_514.out; obtain ⟨hcz22_0, hcz22_1, hcz22_2⟩ := cells3 BK514.out; obtain ⟨hfz22_0, hfz22_1, hfz22_2⟩ := froz3 BK514.out; have p522 : 0 ≤ (x5_2 : Int) := of_decide_eq_true (by first | (with_reducible assumption) | assumption); have q522 : x5_2 < (l0_2.length : Int) := of_decide_eq_true (by first | (with_reducible assumption) | assumption); obtain ⟨ad522, A522_3, c522_3, e522, hx522_0, hx522_1, hx522_2, hx522_3, hl522_3, hi522_3⟩ := at_T42 HR0_2.out x5_2 p522 q522
            cases e522
            replace hx522_0 := (HB.out.cell (World.block_lt_of_cell? w _ hx522_0)).trans hx522_0; replace hx522_1 := (HB.out.cell (World.block_lt_of_cell? w _ hx522_1)).trans hx522_1; replace hx522_2 := (HB.out.cell (World.block_lt_of_cell? w _ hx522_2)).trans hx522_2; replace hx522_3 := (HB.out.cell (World.block_lt_of_cell? w _ hx522_3)).trans hx522_3; have HR522_3 := Aside0.mk hi522_3; have HC522_3 := Aside0.mk hl522_3; clear hi522_3 hl522_3; replace p522 := eq_true p522; replace q522 := eq_true q522
            go_wp2
            go_loopg [7] k2 (fun kq v7 w' => ∃ (x7_3 : Int) (x516000_3 : Int) (x516001_3 : Int) (x516002_3 : Int), v7 = .int .i64 x7_3 ∧ Aside0 (casementref13_Check.l1 kq x5_2 ((rd_T42 l0_2 x5_2).f3) x7_3 a0_0 l0_1 l0_2 = some (r1, r2, r3)) ∧ Aside0 (kq ≤ k2) ∧ Aside0 (w'.heap[gb514]? = some (.cells #[.int .i64 a0_0, (.slice A0_1 l0_1.length c0_1), (.slice (some ad522) l0_2.length c0_2)] 25 (0, 0))) ∧ Aside0 (w'.heap[gb515]? = some (.cells #[.int .i64 x516000_3, .int .i64 x516001_3, .int .i64 x516002_3] 32 (0, 0))) ∧ Aside0 (Below w.heap.size w w'))
            case atStart => exact ⟨(0), (x516000_2), (x516001_2), (x516002_2), (by first | rfl | (simp; done) | (simp [*]; done)), H', ⟨Nat.le_refl _⟩, ⟨by (with_reducible repeat (first | refine blk_drewN ?_ _ | refine blk_drew ?_ | refine blk_alloc ?_ _)); exact BK514.out⟩, ⟨by (with_reducible repeat (first | refine blk_drewN ?_ _ | refine blk_drew ?_ | refine blk_alloc ?_ _)); exact BK515.out⟩, ⟨bn2 HB GE514 GE515⟩⟩
            case round =>
              clear H'
              try clear c1
              try clear c2
              try clear p2
              try clear c3
              try clear c3b0
              try clear c3b1
              try clear c5
              try clear p5
              try clear q5
              try clear hx5
              try clear qi5
              try clear c7
              try clear c10
              try clear c10b0
              try clear c10b1
              try clear c11
              try clear c11b0
              try clear c11b1
              try clear c12
              try clear c14
              try clear c16
              try clear c17
              try clear c19
              try clear c19b0
              try clear c20
              try clear c20b0
              try clear c21
              try clear c22
              try clear hcz13_0
              try clear hcz13_1
              try clear hcz13_2
              try clear hcz15_0
              try clear hcz15_1
              try clear hcz15_2
              try clear hcz18_0
              try clear hcz18_1
              try clear hcz18_2
              try clear hcz22_0
              try clear hcz22_1
              try clear hcz22_2
              try clear hcz8_0
              try clear hcz8_1
              try clear hcz8_2
              try clear hfz13_0
              try clear hfz13_1
              try clear hfz13_2
              try clear hfz15_0
              try clear hfz15_1
              try clear hfz15_2
              try clear hfz18_0
              try clear hfz18_1
              try clear hfz18_2
              try clear hfz22_0
              try clear hfz22_1
              try clear hfz22_2
              try clear hfz8_0
              try clear hfz8_1
              try clear hfz8_2
              try clear hx520_0
              try clear hx520_1
              try clear hx520_2
              try clear hx520_3
              try clear hx521_0
              try clear hx521_1
              try clear hx521_2
              try clear hx521_3
              try clear hx522_0
              try clear hx522_1
              try clear hx522_2
              try clear hx522_3
              try clear p2
              try clear p5
              try clear p520
              try clear p521
              try clear p522
              try clear q5
              try clear q520
              try clear q521
              try clear q522
              obtain ⟨x7_3, x516000_3, x516001_3, x516002_3, rfl, HA, HK3, BK514, BK515, HB⟩ := hrel
              cases gk with
              | zero => exact absurd HA.out (by simp [casementref13_Check.l1])
              | succ k3 => ?_
              have H := HA.out; clear HA; simp only [casementref13_Check.l1] at H
              by_cases c23 : x7_3 < (((rd_T42 l0_2 x5_2).f3).length : Int)
              · rw [if_pos c23] at H
                have c23b0 : decide (x7_3 < (((rd_T42 l0_2 x5_2).f3).length : Int)) = true := decide_eq_true c23; clear c23
                by_cases c24 : 0 ≤ x7_3
                case neg => rw [if_neg c24] at H; exact absurd H (by simp)
                rw [if_pos c24] at H; have c24b0 : decide (0 ≤ x7_3) = true := decide_eq_true c24; clear c24; replace H := Option.bind_eq_some_iff.mp H; obtain ⟨t524, A250, H⟩ := H; replace H : (if t524 = true then (some (x5_2, x7_3, 130)) else (casementref13_Check.l1 k3 x5_2 ((rd_T42 l0_2 x5_2).f3) (wrap64 (x7_3 + 1)) a0_0 l0_1 l0_2)) = some (r1, r2, r3) := H; have A25 := Aside0.mk A250; clear A250
                by_cases c26 : t524 = true
                · subst c26
                  have H1 : (some (x5_2, x7_3, 130)) = some (r1, r2, r3) := by rw [if_pos rfl] at H; exact H
                  clear H; have H := H1; clear H1; simp only [Option.some.injEq, Prod.mk.injEq] at H; obtain ⟨rfl, rfl, rfl⟩ := H
                  try go_wp2
                  replace BK514 := Aside0.mk (blk_drew BK514.out); replace BK515 := Aside0.mk (blk_drew BK515.out); replace HB := Aside0.mk (below_drew1 HB.out); have p523 : 0 ≤ (x7_3 : Int) := of_decide_eq_true (by first | (with_reducible assumption) | assumption); have q523 : x7_3 < (((rd_T42 l0_2 x5_2).f3).length : Int) := of_decide_eq_true (by first | (with_reducible assumption) | assumption); obtain ⟨ad523, e523, hx523_0, hx523_1⟩ := at_T46 HR522_3.out x7_3 p523 q523; have hw523_1 := hx523_1; have hw523_0 := hx523_0
                  cases e523
                  replace hx523_0 := (HB.out.cell (World.block_lt_of_cell? w _ hx523_0)).trans hx523_0; replace hx523_1 := (HB.out.cell (World.block_lt_of_cell? w _ hx523_1)).trans hx523_1; replace p523 := eq_true p523; replace q523 := eq_true q523
                  refine start_ (n := 7) (S := fun w' => w'.cell? ⟨gb514, 0, none⟩ = some (.int .i64 a0_0) ∧ w'.cell? ⟨gb514, 1, none⟩ = some (.slice A0_1 l0_1.length c0_1) ∧ w'.cell? ⟨gb514, 2, none⟩ = some (.slice (some ad522) l0_2.length c0_2) ∧ w'.cell? (ad523.add ((x7_3).toNat * 2)) = some (.int .i64 ((rd_T46 ((rd_T42 l0_2 x5_2).f3) x7_3).f0)) ∧ w'.cell? ⟨(ad523.add ((x7_3).toNat * 2)).block, (ad523.add ((x7_3).toNat * 2)).off + 1, none⟩ = some (.int .i64 ((rd_T46 ((rd_T42 l0_2 x5_2).f3) x7_3).f1))) (ds := []) #[false, false, false, false, false, false, false] (by kernel_rfl) rfl rfl ⟨(blk_cell BK514.out 0).trans rfl, (blk_cell BK514.out 1).trans rfl, (blk_cell BK514.out 2).trans rfl, ((HB.out.cell (World.block_lt_of_cell? w _ hw523_0)).trans hw523_0), ((HB.out.cell (World.block_lt_of_cell? w _ hw523_1)).trans hw523_1)⟩ (fun hHeld => ?_)
                  generalize wr.drew = w27 at BK514 BK515 HB hx523_0 hx523_1 hHeld ⊢
                  refine pure_ (i := 1) (N := some 53) (v := ?_) (a' := ?_) #[false, true, false, false, false, false, false] rfl rfl (by kernel_rfl) (fun _ _ _ h => h) (Or.inl ⟨by rfl, ?_⟩) ?_ ?_
                  rotate_left
                  · intro w'
                    go_simp
                    with_reducible rfl
                  rotate_left
                  · simp only [Act.put, List.setIfInBounds_toArray, List.set_cons_zero, List.set_cons_succ, i64_w, i32_w]
                    rfl
                  refine pure_ (i := 2) (N := some 54) (v := ?_) (a' := ?_) #[false, true, true, false, false, false, false] rfl rfl (by kernel_rfl) (fun _ _ _ h => h) (Or.inl ⟨by rfl, ?_⟩) ?_ ?_
                  rotate_left
                  · intro w'
                    go_simp
                    with_reducible rfl
                  rotate_left
                  · simp only [Act.put, List.setIfInBounds_toArray, List.set_cons_zero, List.set_cons_succ, i64_w, i32_w]
                    rfl
                  refine pure_ (i := 3) (N := some 55) (v := ?_) (a' := ?_) #[false, true, true, true, false, false, false] rfl rfl (by kernel_rfl) (fun _ _ _ h => h) (Or.inl ⟨by rfl, ?_⟩) ?_ ?_
                  rotate_left
                  · intro w'
                    go_simp
                    with_reducible rfl
                  rotate_left
                  · simp only [Act.put, List.setIfInBounds_toArray, List.set_cons_zero, List.set_cons_succ, i64_w, i32_w]
                    rfl
                  refine pure_ (i := 4) (N := some 56) (v := ?_) (a' := ?_) #[false, true, true, true, true, false, false] rfl rfl (by kernel_rfl) (fun _ _ _ h => h) (Or.inl ⟨by rfl, ?_⟩) ?_ ?_
                  rotate_left
                  · intro w'
                    go_simp
                    with_reducible rfl
                  rotate_left
                  · simp only [Act.put, List.setIfInBounds_toArray, List.set_cons_zero, List.set_cons_succ, i64_w, i32_w]
                    rfl
                  refine take_ (i := 0) (N := some 52) (v := ?_) (a' := ?_) #[true, true, true, true, true, false, false] rfl rfl (by kernel_rfl) (fun _ _ _ h => h) (Or.inl ⟨by rfl, ?_⟩) hHeld ?_ ?_
                  rotate_left
                  · rintro w' ⟨s0, s1, s2, s3, s4⟩
                    go_simp
                    with_reducible rfl
                  rotate_left
                  · simp only [Act.put, List.setIfInBounds_toArray, List.set_cons_zero, List.set_cons_succ, i64_w, i32_w]
                    rfl
                  refine take_ (i := 5) (N := some 57) (v := ?_) (a' := ?_) #[true, true, true, true, true, true, false] rfl rfl (by kernel_rfl) (fun _ _ _ h => h) (Or.inl ⟨by rfl, ?_⟩) hHeld ?_ ?_
                  rotate_left
                  · rintro w' ⟨s0, s1, s2, s3, s4⟩
                    go_simp
                    with_reducible rfl
                  rotate_left
                  · simp only [Act.put, List.setIfInBounds_toArray, List.set_cons_zero, List.set_cons_succ, i64_w, i32_w]
                    rfl
                  refine one_ (i := 6) (N := some 58) #[true, true, true, true, true, true, true] rfl rfl (by kernel_rfl) (by decide) (fun K hK => ?_)
                  refine goes_ Try.func23 (by kernel_rfl) rfl #[.agg #[.int .i64 a0_0, .slice A0_1 l0_1.length c0_1, .slice (some ad522) l0_2.length c0_2], .int .i64 x5_2, .agg #[.int .i64 ((rd_T46 ((rd_T42 l0_2 x5_2).f3) x7_3).f0), .int .i64 ((rd_T46 ((rd_T42 l0_2 x5_2).f3) x7_3).f1)]] (by rfl) rfl rfl (by (try simp only [List.map_toArray, List.map_cons, List.map_nil]); first | done | rfl | (simp only [List.length_drop, List.length_take]; rfl)) ?_
                  with_reducible refine (casementref13_bad.calls k3 a0_0 _ _ l0_1 _ _ l0_2 x5_2 ((rd_T46 ((rd_T42 l0_2 x5_2).f3) x7_3).f0) ((rd_T46 ((rd_T42 l0_2 x5_2).f3) x7_3).f1) true _ ?side1 ?side2 ?side3 ?side4 A25.out).mono ?_
                  (case side1 => repeat (first | exact (Kd.C_below HR0_1.out HB.out) | (with_reducible refine Kd.C_alloc ?_ _) | (with_reducible refine Kd.C_drewN ?_ _) | (with_reducible refine Kd.C_drew ?_)))
                  (case side2 => exact HC0_1.out)
                  (case side3 => repeat (first | exact (Kd.C_below HR0_2.out HB.out) | (with_reducible refine Kd.C_alloc ?_ _) | (with_reducible refine Kd.C_drewN ?_ _) | (with_reducible refine Kd.C_drew ?_)))
                  (case side4 => exact HC0_2.out)
                  rintro e w28 ⟨rfl, hb⟩
                  refine ⟨_, rfl, ?_⟩
                  replace BK514 := Aside0.mk (blk_below (g := gb514) (o := .cells #[.int .i64 a0_0, .slice A0_1 l0_1.length c0_1, .slice (some ad522) l0_2.length c0_2] 25 (0, 0)) (bkn BK514) hb); replace BK515 := Aside0.mk (blk_below (g := gb515) (o := .cells #[.int .i64 x516000_3, .int .i64 x516001_3, .int .i64 x516002_3] 32 (0, 0)) (bkn BK515) hb); replace HB := Aside0.mk (below_step (bn2 HB GE514 GE515) hb)
                  refine hK.out _ _ ⟨(blk_cell BK514.out 0).trans rfl, (blk_cell BK514.out 1).trans rfl, (blk_cell BK514.out 2).trans rfl, ((HB.out.cell (World.block_lt_of_cell? w _ hw523_0)).trans hw523_0), ((HB.out.cell (World.block_lt_of_cell? w _ hw523_1)).trans hw523_1)⟩ (fun hHeld => ?_)
                  clear hK K
                  refine norm_ (a' := ?_) ?_ ?_
                  rotate_left
                  · show Act.put _ (some 58) _ = _
                    simp only [Act.put, List.setIfInBounds_toArray, List.set_cons_zero, List.set_cons_succ, i64_w, i32_w]
                    rfl
                  refine done_ (by kernel_rfl) ?_
                  have hnb29 := NB515_514.out; have hnc29 := NB514_515.out; obtain ⟨hcz30_0, hcz30_1, hcz30_2⟩ := cells3 BK515.out; obtain ⟨hfz30_0, hfz30_1, hfz30_2⟩ := froz3 BK515.out
                  try go_wp2
                  refine bodyPost_ret (results_cell_row rfl _ _ gb515 32 #[.int .i64 x5_2, .int .i64 x7_3, .int .i64 130] (0, 0) _ rfl (by (with_reducible repeat (first | refine blk_drewN ?_ _ | refine blk_drew ?_ | refine blk_alloc ?_ _)); refine blk_put (cs := #[.int .i64 x5_2, .int .i64 x7_3, .int .i64 x516002_3]) ?_ 2 _ rfl; (with_reducible repeat (first | refine blk_drewN ?_ _ | refine blk_drew ?_ | refine blk_alloc ?_ _)); refine blk_put (cs := #[.int .i64 x5_2, .int .i64 x516001_3, .int .i64 x516002_3]) ?_ 1 _ rfl; (with_reducible repeat (first | refine blk_drewN ?_ _ | refine blk_drew ?_ | refine blk_alloc ?_ _)); refine blk_put (cs := #[.int .i64 x516000_3, .int .i64 x516001_3, .int .i64 x516002_3]) ?_ 0 _ rfl; (with_reducible repeat (first | refine blk_drewN ?_ _ | refine blk_drew ?_ | refine blk_alloc ?_ _)); exact BK515.out) Try.underlying32 rfl (by kernel_rfl)) rfl ?_
                  exact ⟨by first | rfl | (simp [errW_none, errW_some] <;> rfl) | (simp [*, errW_none, errW_some] <;> rfl), bn2 HB GE514 GE515⟩
                · replace c26 := Bool.eq_false_iff.mpr c26
                  subst c26
                  have H1 : (casementref13_Check.l1 k3 x5_2 ((rd_T42 l0_2 x5_2).f3) (wrap64 (x7_3 + 1)) a0_0 l0_1 l0_2) = some (r1, r2, r3) := by rw [if_neg (show ¬ (false = true) by decide)] at H; exact H
                  clear H; have H := H1; clear H1; have H' := Aside0.mk H; clear H
                  try go_wp2
                  replace BK514 := Aside0.mk (blk_drew BK514.out); replace BK515 := Aside0.mk (blk_drew BK515.out); replace HB := Aside0.mk (below_drew1 HB.out); have p523 : 0 ≤ (x7_3 : Int) := of_decide_eq_true (by first | (with_reducible assumption) | assumption); have q523 : x7_3 < (((rd_T42 l0_2 x5_2).f3).length : Int) := of_decide_eq_true (by first | (with_reducible assumption) | assumption); obtain ⟨ad523, e523, hx523_0, hx523_1⟩ := at_T46 HR522_3.out x7_3 p523 q523; have hw523_1 := hx523_1; have hw523_0 := hx523_0
                  cases e523
                  replace hx523_0 := (HB.out.cell (World.block_lt_of_cell? w _ hx523_0)).trans hx523_0; replace hx523_1 := (HB.out.cell (World.block_lt_of_cell? w _ hx523_1)).trans hx523_1; replace p523 := eq_true p523; replace q523 := eq_true q523
                  refine start_ (n := 7) (S := fun w' => w'.cell? ⟨gb514, 0, none⟩ = some (.int .i64 a0_0) ∧ w'.cell? ⟨gb514, 1, none⟩ = some (.slice A0_1 l0_1.length c0_1) ∧ w'.cell? ⟨gb514, 2, none⟩ = some (.slice (some ad522) l0_2.length c0_2) ∧ w'.cell? (ad523.add ((x7_3).toNat * 2)) = some (.int .i64 ((rd_T46 ((rd_T42 l0_2 x5_2).f3) x7_3).f0)) ∧ w'.cell? ⟨(ad523.add ((x7_3).toNat * 2)).block, (ad523.add ((x7_3).toNat * 2)).off + 1, none⟩ = some (.int .i64 ((rd_T46 ((rd_T42 l0_2 x5_2).f3) x7_3).f1))) (ds := []) #[false, false, false, false, false, false, false] (by kernel_rfl) rfl rfl ⟨(blk_cell BK514.out 0).trans rfl, (blk_cell BK514.out 1).trans rfl, (blk_cell BK514.out 2).trans rfl, ((HB.out.cell (World.block_lt_of_cell? w _ hw523_0)).trans hw523_0), ((HB.out.cell (World.block_lt_of_cell? w _ hw523_1)).trans hw523_1)⟩ (fun hHeld => ?_)
                  generalize wr.drew = w31 at BK514 BK515 HB hx523_0 hx523_1 hHeld ⊢
                  refine pure_ (i := 1) (N := some 53) (v := ?_) (a' := ?_) #[false, true, false, false, false, false, false] rfl rfl (by kernel_rfl) (fun _ _ _ h => h) (Or.inl ⟨by rfl, ?_⟩) ?_ ?_
                  rotate_left
                  · intro w'
                    go_simp
                    with_reducible rfl
                  rotate_left
                  · simp only [Act.put, List.setIfInBounds_toArray, List.set_cons_zero, List.set_cons_succ, i64_w, i32_w]
                    rfl
                  refine pure_ (i := 2) (N := some 54) (v := ?_) (a' := ?_) #[false, true, true, false, false, false, false] rfl rfl (by kernel_rfl) (fun _ _ _ h => h) (Or.inl ⟨by rfl, ?_⟩) ?_ ?_
                  rotate_left
                  · intro w'
                    go_simp
                    with_reducible rfl
                  rotate_left
                  · simp only [Act.put, List.setIfInBounds_toArray, List.set_cons_zero, List.set_cons_succ, i64_w, i32_w]
                    rfl
                  refine pure_ (i := 3) (N := some 55) (v := ?_) (a' := ?_) #[false, true, true, true, false, false, false] rfl rfl (by kernel_rfl) (fun _ _ _ h => h) (Or.inl ⟨by rfl, ?_⟩) ?_ ?_
                  rotate_left
                  · intro w'
                    go_simp
                    with_reducible rfl
                  rotate_left
                  · simp only [Act.put, List.setIfInBounds_toArray, List.set_cons_zero, List.set_cons_succ, i64_w, i32_w]
                    rfl
                  refine pure_ (i := 4) (N := some 56) (v := ?_) (a' := ?_) #[false, true, true, true, true, false, false] rfl rfl (by kernel_rfl) (fun _ _ _ h => h) (Or.inl ⟨by rfl, ?_⟩) ?_ ?_
                  rotate_left
                  · intro w'
                    go_simp
                    with_reducible rfl
                  rotate_left
                  · simp only [Act.put, List.setIfInBounds_toArray, List.set_cons_zero, List.set_cons_succ, i64_w, i32_w]
                    rfl
                  refine take_ (i := 0) (N := some 52) (v := ?_) (a' := ?_) #[true, true, true, true, true, false, false] rfl rfl (by kernel_rfl) (fun _ _ _ h => h) (Or.inl ⟨by rfl, ?_⟩) hHeld ?_ ?_
                  rotate_left
                  · rintro w' ⟨s0, s1, s2, s3, s4⟩
                    go_simp
                    with_reducible rfl
                  rotate_left
                  · simp only [Act.put, List.setIfInBounds_toArray, List.set_cons_zero, List.set_cons_succ, i64_w, i32_w]
                    rfl
                  refine take_ (i := 5) (N := some 57) (v := ?_) (a' := ?_) #[true, true, true, true, true, true, false] rfl rfl (by kernel_rfl) (fun _ _ _ h => h) (Or.inl ⟨by rfl, ?_⟩) hHeld ?_ ?_
                  rotate_left
                  · rintro w' ⟨s0, s1, s2, s3, s4⟩
                    go_simp
                    with_reducible rfl
                  rotate_left
                  · simp only [Act.put, List.setIfInBounds_toArray, List.set_cons_zero, List.set_cons_succ, i64_w, i32_w]
                    rfl
                  refine one_ (i := 6) (N := some 58) #[true, true, true, true, true, true, true] rfl rfl (by kernel_rfl) (by decide) (fun K hK => ?_)
                  refine goes_ Try.func23 (by kernel_rfl) rfl #[.agg #[.int .i64 a0_0, .slice A0_1 l0_1.length c0_1, .slice (some ad522) l0_2.length c0_2], .int .i64 x5_2, .agg #[.int .i64 ((rd_T46 ((rd_T42 l0_2 x5_2).f3) x7_3).f0), .int .i64 ((rd_T46 ((rd_T42 l0_2 x5_2).f3) x7_3).f1)]] (by rfl) rfl rfl (by (try simp only [List.map_toArray, List.map_cons, List.map_nil]); first | done | rfl | (simp only [List.length_drop, List.length_take]; rfl)) ?_
                  with_reducible refine (casementref13_bad.calls k3 a0_0 _ _ l0_1 _ _ l0_2 x5_2 ((rd_T46 ((rd_T42 l0_2 x5_2).f3) x7_3).f0) ((rd_T46 ((rd_T42 l0_2 x5_2).f3) x7_3).f1) false _ ?side1 ?side2 ?side3 ?side4 A25.out).mono ?_
                  (case side1 => repeat (first | exact (Kd.C_below HR0_1.out HB.out) | (with_reducible refine Kd.C_alloc ?_ _) | (with_reducible refine Kd.C_drewN ?_ _) | (with_reducible refine Kd.C_drew ?_)))
                  (case side2 => exact HC0_1.out)
                  (case side3 => repeat (first | exact (Kd.C_below HR0_2.out HB.out) | (with_reducible refine Kd.C_alloc ?_ _) | (with_reducible refine Kd.C_drewN ?_ _) | (with_reducible refine Kd.C_drew ?_)))
                  (case side4 => exact HC0_2.out)
                  rintro e w32 ⟨rfl, hb⟩
                  refine ⟨_, rfl, ?_⟩
                  replace BK514 := Aside0.mk (blk_below (g := gb514) (o := .cells #[.int .i64 a0_0, .slice A0_1 l0_1.length c0_1, .slice (some ad522) l0_2.length c0_2] 25 (0, 0)) (bkn BK514) hb); replace BK515 := Aside0.mk (blk_below (g := gb515) (o := .cells #[.int .i64 x516000_3, .int .i64 x516001_3, .int .i64 x516002_3] 32 (0, 0)) (bkn BK515) hb); replace HB := Aside0.mk (below_step (bn2 HB GE514 GE515) hb)
                  refine hK.out _ _ ⟨(blk_cell BK514.out 0).trans rfl, (blk_cell BK514.out 1).trans rfl, (blk_cell BK514.out 2).trans rfl, ((HB.out.cell (World.block_lt_of_cell? w _ hw523_0)).trans hw523_0), ((HB.out.cell (World.block_lt_of_cell? w _ hw523_1)).trans hw523_1)⟩ (fun hHeld => ?_)
                  clear hK K
                  refine norm_ (a' := ?_) ?_ ?_
                  rotate_left
                  · show Act.put _ (some 58) _ = _
                    simp only [Act.put, List.setIfInBounds_toArray, List.set_cons_zero, List.set_cons_succ, i64_w, i32_w]
                    rfl
                  refine done_ (by kernel_rfl) ?_
                  try go_wp2
                  go_roundg k3
                  case measure => have := HJ3.out; have := HK2.out; have := HK3.out; omega
                  case rel => exact ⟨(wrap64 (x7_3 + 1)), (x516000_3), (x516001_3), (x516002_3), (by first | rfl | (simp; done) | (simp [*]; done)), H', ⟨by have := HJ3.out; have := HK2.out; have := HK3.out; omega⟩, ⟨by (with_reducible repeat (first | refine blk_drewN ?_ _ | refine blk_drew ?_ | refine blk_alloc ?_ _)); exact BK514.out⟩, ⟨by (with_reducible repeat (first | refine blk_drewN ?_ _ | refine blk_drew ?_ | refine blk_alloc ?_ _)); exact BK515.out⟩, ⟨bn2 HB GE514 GE515⟩⟩
              · rw [if_neg c23] at H
                have c23b0 : decide (x7_3 < (((rd_T42 l0_2 x5_2).f3).length : Int)) = false := decide_eq_false c23; clear c23; replace H := Option.bind_eq_some_iff.mp H; obtain ⟨⟨t525, t528⟩, A330, H⟩ := H; replace H : (if t528 = true then (casementref13_Check.l0 k3 (wrap64 (x5_2 + 1)) a0_0 l0_1 l0_2) else (some (x5_2, (-1), 130))) = some (r1, r2, r3) := H; have A33 := Aside0.mk A330; clear A330
                by_cases c34 : t528 = true
                · subst c34
                  have H1 : (casementref13_Check.l0 k3 (wrap64 (x5_2 + 1)) a0_0 l0_1 l0_2) = some (r1, r2, r3) := by rw [if_pos rfl] at H; exact H
                  clear H; have H := H1; clear H1; have H' := Aside0.mk H; clear H; have hnb35 := NB514_515.out; have hnc35 := NB515_514.out; obtain ⟨hcz36_0, hcz36_1, hcz36_2⟩ := cells3 BK514.out; obtain ⟨hfz36_0, hfz36_1, hfz36_2⟩ := froz3 BK514.out
                  go_wp2_with (first | ((with_reducible refine gate_callee (f := 12) rfl ?_); refine goesL_ (some 65) rfl rfl Try.func12 (by kernel_rfl) rfl #[.agg #[.int .i64 a0_0, .slice A0_1 l0_1.length c0_1, .slice (some ad522) l0_2.length c0_2], .int .i64 x5_2] rfl (by (try simp only [List.map_toArray, List.map_cons, List.map_nil]); first | done | rfl | (simp only [List.length_drop, List.length_take]; rfl)) ?_; (with_reducible refine (casementref13_Heights.calls k3 a0_0 _ _ l0_1 _ _ l0_2 x5_2 t525 true _ ?side1 ?side2 ?side3 ?side4 A33.out).mono ?_); (case side1 => repeat (first | exact (Kd.C_below HR0_1.out HB.out) | (with_reducible refine Kd.C_alloc ?_ _) | (with_reducible refine Kd.C_drewN ?_ _) | (with_reducible refine Kd.C_drew ?_))); (case side2 => exact HC0_1.out); (case side3 => repeat (first | exact (Kd.C_below HR0_2.out HB.out) | (with_reducible refine Kd.C_alloc ?_ _) | (with_reducible refine Kd.C_drewN ?_ _) | (with_reducible refine Kd.C_drew ?_))); (case side4 => exact HC0_2.out); rintro e w37 ⟨v526, rfl, ho0, hb⟩; refine ⟨_, rfl, ?_⟩; have HO527 := Aside0.mk (Kd.R_lower ho0 (below_size (bn2 HB GE514 GE515))); replace BK514 := Aside0.mk (blk_below (g := gb514) (o := .cells #[.int .i64 a0_0, .slice A0_1 l0_1.length c0_1, .slice (some ad522) l0_2.length c0_2] 25 (0, 0)) (bkn BK514) hb); replace BK515 := Aside0.mk (blk_below (g := gb515) (o := .cells #[.int .i64 x516000_3, .int .i64 x516001_3, .int .i64 x516002_3] 32 (0, 0)) (bkn BK515) hb); replace HB := Aside0.mk (below_step (bn2 HB GE514 GE515) hb); (try clear hb); (try clear ho0)))
                  go_roundg k3
                  case measure => have := HJ3.out; have := HK2.out; have := HK3.out; omega
                  case rel => exact ⟨(wrap64 (x5_2 + 1)), (x516000_3), (x516001_3), (x516002_3), (by first | rfl | (simp; done) | (simp [*]; done)), H', ⟨by have := HJ3.out; have := HK2.out; have := HK3.out; omega⟩, ⟨by (with_reducible repeat (first | refine blk_drewN ?_ _ | refine blk_drew ?_ | refine blk_alloc ?_ _)); exact BK514.out⟩, ⟨by (with_reducible repeat (first | refine blk_drewN ?_ _ | refine blk_drew ?_ | refine blk_alloc ?_ _)); exact BK515.out⟩, ⟨bn2 HB GE514 GE515⟩⟩
                · replace c34 := Bool.eq_false_iff.mpr c34
                  subst c34
                  have H1 : (some (x5_2, (-1), 130)) = some (r1, r2, r3) := by rw [if_neg (show ¬ (false = true) by decide)] at H; exact H
                  clear H; have H := H1; clear H1; simp only [Option.some.injEq, Prod.mk.injEq] at H; obtain ⟨rfl, rfl, rfl⟩ := H; have hnb38 := NB514_515.out; have hnc38 := NB515_514.out; obtain ⟨hcz39_0, hcz39_1, hcz39_2⟩ := cells3 BK514.out; obtain ⟨hfz39_0, hfz39_1, hfz39_2⟩ := froz3 BK514.out
                  go_wp2_with (first | ((with_reducible refine gate_callee (f := 12) rfl ?_); refine goesL_ (some 65) rfl rfl Try.func12 (by kernel_rfl) rfl #[.agg #[.int .i64 a0_0, .slice A0_1 l0_1.length c0_1, .slice (some ad522) l0_2.length c0_2], .int .i64 x5_2] rfl (by (try simp only [List.map_toArray, List.map_cons, List.map_nil]); first | done | rfl | (simp only [List.length_drop, List.length_take]; rfl)) ?_; (with_reducible refine (casementref13_Heights.calls k3 a0_0 _ _ l0_1 _ _ l0_2 x5_2 t525 false _ ?side1 ?side2 ?side3 ?side4 A33.out).mono ?_); (case side1 => repeat (first | exact (Kd.C_below HR0_1.out HB.out) | (with_reducible refine Kd.C_alloc ?_ _) | (with_reducible refine Kd.C_drewN ?_ _) | (with_reducible refine Kd.C_drew ?_))); (case side2 => exact HC0_1.out); (case side3 => repeat (first | exact (Kd.C_below HR0_2.out HB.out) | (with_reducible refine Kd.C_alloc ?_ _) | (with_reducible refine Kd.C_drewN ?_ _) | (with_reducible refine Kd.C_drew ?_))); (case side4 => exact HC0_2.out); rintro e w40 ⟨v526, rfl, ho0, hb⟩; refine ⟨_, rfl, ?_⟩; have HO527 := Aside0.mk (Kd.R_lower ho0 (below_size (bn2 HB GE514 GE515))); replace BK514 := Aside0.mk (blk_below (g := gb514) (o := .cells #[.int .i64 a0_0, .slice A0_1 l0_1.length c0_1, .slice (some ad522) l0_2.length c0_2] 25 (0, 0)) (bkn BK514) hb); replace BK515 := Aside0.mk (blk_below (g := gb515) (o := .cells #[.int .i64 x516000_3, .int .i64 x516001_3, .int .i64 x516002_3] 32 (0, 0)) (bkn BK515) hb); replace HB := Aside0.mk (below_step (bn2 HB GE514 GE515) hb); (try clear hb); (try clear ho0); obtain ⟨hcz41_0, hcz41_1, hcz41_2⟩ := cells3 BK515.out; obtain ⟨hfz41_0, hfz41_1, hfz41_2⟩ := froz3 BK515.out))
                  refine bodyPost_ret (results_cell_row rfl _ _ gb515 32 #[.int .i64 x5_2, .int .i64 (-1), .int .i64 130] (0, 0) _ rfl (by (with_reducible repeat (first | refine blk_drewN ?_ _ | refine blk_drew ?_ | refine blk_alloc ?_ _)); refine blk_put (cs := #[.int .i64 x5_2, .int .i64 (-1), .int .i64 x516002_3]) ?_ 2 _ rfl; (with_reducible repeat (first | refine blk_drewN ?_ _ | refine blk_drew ?_ | refine blk_alloc ?_ _)); refine blk_put (cs := #[.int .i64 x5_2, .int .i64 x516001_3, .int .i64 x516002_3]) ?_ 1 _ rfl; (with_reducible repeat (first | refine blk_drewN ?_ _ | refine blk_drew ?_ | refine blk_alloc ?_ _)); refine blk_put (cs := #[.int .i64 x516000_3, .int .i64 x516001_3, .int .i64 x516002_3]) ?_ 0 _ rfl; (with_reducible repeat (first | refine blk_drewN ?_ _ | refine blk_drew ?_ | refine blk_alloc ?_ _)); exact BK515.out) Try.underlying32 rfl (by kernel_rfl)) rfl ?_
                  exact ⟨by first | rfl | (simp [errW_none, errW_some] <;> rfl) | (simp [*, errW_none, errW_some] <;> rfl), bn2 HB GE514 GE515⟩
          · rw [if_neg c19] at H
            have c19b0 : decide (x5_2 < (l0_2.length : Int)) = false := decide_eq_false c19; clear c19; simp only [Option.some.injEq, Prod.mk.injEq] at H; obtain ⟨rfl, rfl, rfl⟩ := H; have hnb42 := NB514_515.out; have hnc42 := NB515_514.out; obtain ⟨hcz43_0, hcz43_1, hcz43_2⟩ := cells3 BK514.out; obtain ⟨hfz43_0, hfz43_1, hfz43_2⟩ := froz3 BK514.out; obtain ⟨hcz44_0, hcz44_1, hcz44_2⟩ := cells3 BK515.out; obtain ⟨hfz44_0, hfz44_1, hfz44_2⟩ := froz3 BK515.out
            go_wp2
            refine bodyPost_ret (results_cell_row rfl _ _ gb515 32 #[.int .i64 0, .int .i64 0, .int .i64 0] (0, 0) _ rfl (by (with_reducible repeat (first | refine blk_drewN ?_ _ | refine blk_drew ?_ | refine blk_alloc ?_ _)); refine blk_put (cs := #[.int .i64 0, .int .i64 0, .int .i64 x516002_2]) ?_ 2 _ rfl; (with_reducible repeat (first | refine blk_drewN ?_ _ | refine blk_drew ?_ | refine blk_alloc ?_ _)); refine blk_put (cs := #[.int .i64 0, .int .i64 x516001_2, .int .i64 x516002_2]) ?_ 1 _ rfl; (with_reducible repeat (first | refine blk_drewN ?_ _ | refine blk_drew ?_ | refine blk_alloc ?_ _)); refine blk_put (cs := #[.int .i64 x516000_2, .int .i64 x516001_2, .int .i64 x516002_2]) ?_ 0 _ rfl; (with_reducible repeat (first | refine blk_drewN ?_ _ | refine blk_drew ?_ | refine blk_alloc ?_ _)); exact BK515.out) Try.underlying32 rfl (by kernel_rfl)) rfl ?_
            exact ⟨by first | rfl | (simp [errW_none, errW_some] <;> rfl) | (simp [*, errW_none, errW_some] <;> rfl), bn2 HB GE514 GE515⟩
  · rw [if_neg c3] at H
    have c3b0 : (t519 == 0) = false := beq_eq_false_iff_ne.mpr c3; have c3b1 : (t519 != 0) = true := bne_iff_ne.mpr c3; simp only [Option.some.injEq, Prod.mk.injEq] at H; obtain ⟨rfl, rfl, rfl⟩ := H
    go_enter Try.func10, Try.ntmps10
    go_wp2_with (first | ((with_reducible refine gate_dst (N := 1) rfl ?_); refine box_event ?hg (N := 1) ?hd (cs := #[.int .i64 a0_0, .slice A0_1 l0_1.length c0_1, .slice A0_2 l0_2.length c0_2]) (t := 25) ?hr ?_; (case hd => rfl); (case hg => rfl); (case hr => first | (go_simp; done) | (go_simp; rfl)); intro gb514 hg w45 hbox hb; have n0_ := Aside0.mk (below_step (bn0 HB) hb); have BK514 := Aside0.mk (hbox); have GW514 := Aside0.mk ((by rw [hg]; exact (below_size (bn0 HB)) : w.heap.size ≤ gb514)); have GE514 := Aside0.mk ((by rw [hg]; exact (below_size (bn0 HB)) : w.heap.size ≤ gb514)); replace HB := n0_; clear n0_; clear hb hbox hg) | ((with_reducible refine gate_dst (N := 2) rfl ?_); refine box_event ?hg (N := 2) ?hd (cs := #[.int .i64 0, .int .i64 0, .int .i64 0]) (t := 32) ?hr ?_; (case hd => rfl); (case hg => rfl); (case hr => first | (go_simp; done) | (go_simp; rfl)); intro gb515 hg w46 hbox hb; have n0_ := Aside0.mk (blk_below (g := gb514) (o := .cells #[.int .i64 a0_0, .slice A0_1 l0_1.length c0_1, .slice A0_2 l0_2.length c0_2] 25 (0, 0)) (bkn BK514) hb); have n1_ := Aside0.mk (below_step (bn1 HB GE514) hb); have BK515 := Aside0.mk (hbox); have GW515 := Aside0.mk ((by rw [hg]; exact (below_size (bn1 HB GE514)) : w.heap.size ≤ gb515)); have GE515 := Aside0.mk ((by rw [hg]; exact (below_size (bn1 HB GE514)) : w.heap.size ≤ gb515)); have NB514_515 := Aside0.mk ((by rw [hg]; exact Nat.ne_of_lt (blk_lt (g := gb514) (o := .cells #[.int .i64 a0_0, .slice A0_1 l0_1.length c0_1, .slice A0_2 l0_2.length c0_2] 25 (0, 0)) (bkn BK514)) : gb514 ≠ gb515)); have NB515_514 := Aside0.mk ((by rw [hg]; exact Nat.ne_of_gt (blk_lt (g := gb514) (o := .cells #[.int .i64 a0_0, .slice A0_1 l0_1.length c0_1, .slice A0_2 l0_2.length c0_2] 25 (0, 0)) (bkn BK514)) : gb515 ≠ gb514)); replace BK514 := n0_; replace HB := n1_; clear n0_ n1_; clear hb hbox hg; have hnb47 := NB514_515.out; have hnc47 := NB515_514.out; obtain ⟨hcz48_0, hcz48_1, hcz48_2⟩ := cells3 BK514.out; obtain ⟨hfz48_0, hfz48_1, hfz48_2⟩ := froz3 BK514.out) | ((with_reducible refine gate_callee (f := 22) rfl ?_); refine goesL_ (some 12) rfl rfl Try.func22 (by kernel_rfl) rfl #[.agg #[.int .i64 a0_0, .slice A0_1 l0_1.length c0_1, .slice A0_2 l0_2.length c0_2]] rfl (by (try simp only [List.map_toArray, List.map_cons, List.map_nil]); first | done | rfl | (simp only [List.length_drop, List.length_take]; rfl)) ?_; (with_reducible refine (casementref12_Encode.calls k a0_0 _ _ l0_1 _ _ l0_2 t516 t519 _ ?side1 ?side2 ?side3 ?side4 A2.out).mono ?_); (case side1 => repeat (first | exact (Kd.C_below HR0_1.out HB.out) | (with_reducible refine Kd.C_alloc ?_ _) | (with_reducible refine Kd.C_drewN ?_ _) | (with_reducible refine Kd.C_drew ?_))); (case side2 => exact HC0_1.out); (case side3 => repeat (first | exact (Kd.C_below HR0_2.out HB.out) | (with_reducible refine Kd.C_alloc ?_ _) | (with_reducible refine Kd.C_drewN ?_ _) | (with_reducible refine Kd.C_drew ?_))); (case side4 => exact HC0_2.out); rintro e w49 ⟨v517, rfl, ho0, hb⟩; refine ⟨_, rfl, ?_⟩; have HO518 := Aside0.mk (Kd.R_lower ho0 (below_size (bn2 HB GE514 GE515))); replace BK514 := Aside0.mk (blk_below (g := gb514) (o := .cells #[.int .i64 a0_0, .slice A0_1 l0_1.length c0_1, .slice A0_2 l0_2.length c0_2] 25 (0, 0)) (bkn BK514) hb); replace BK515 := Aside0.mk (blk_below (g := gb515) (o := .cells #[.int .i64 0, .int .i64 0, .int .i64 0] 32 (0, 0)) (bkn BK515) hb); replace HB := Aside0.mk (below_step (bn2 HB GE514 GE515) hb); (try clear hb); (try clear ho0); obtain ⟨hcz50_0, hcz50_1, hcz50_2⟩ := cells3 BK515.out; obtain ⟨hfz50_0, hfz50_1, hfz50_2⟩ := froz3 BK515.out))
    refine bodyPost_ret (results_cell_row rfl _ _ gb515 32 #[.int .i64 (-1), .int .i64 (-1), .int .i64 1] (0, 0) _ rfl (by (with_reducible repeat (first | refine blk_drewN ?_ _ | refine blk_drew ?_ | refine blk_alloc ?_ _)); refine blk_put (cs := #[.int .i64 (-1), .int .i64 (-1), .int .i64 0]) ?_ 2 _ rfl; (with_reducible repeat (first | refine blk_drewN ?_ _ | refine blk_drew ?_ | refine blk_alloc ?_ _)); refine blk_put (cs := #[.int .i64 (-1), .int .i64 0, .int .i64 0]) ?_ 1 _ rfl; (with_reducible repeat (first | refine blk_drewN ?_ _ | refine blk_drew ?_ | refine blk_alloc ?_ _)); refine blk_put (cs := #[.int .i64 0, .int .i64 0, .int .i64 0]) ?_ 0 _ rfl; (with_reducible repeat (first | refine blk_drewN ?_ _ | refine blk_drew ?_ | refine blk_alloc ?_ _)); exact BK515.out) Try.underlying32 rfl (by kernel_rfl)) rfl ?_
    exact ⟨by first | rfl | (simp [errW_none, errW_some] <;> rfl) | (simp [*, errW_none, errW_some] <;> rfl), bn2 HB GE514 GE515⟩

end Go.Proofs.Ytgngbbkaghmnpaa.Q
