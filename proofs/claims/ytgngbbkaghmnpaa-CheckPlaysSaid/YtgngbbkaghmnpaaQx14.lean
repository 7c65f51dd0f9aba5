-- written by a program of this session after the way of the kit's print; not the kit's own print. Lean checks it.
import Derived.Test.YtgngbbkaghmnpaaQx0
import Derived.Test.YtgngbbkaghmnpaaQx7
import Derived.Test.YtgngbbkaghmnpaaQx11
import Derived.Test.YtgngbbkaghmnpaaQx13
namespace Go.Proofs.Ytgngbbkaghmnpaa.Q
open Go.RowKit Go.Proofs.YtgngbbkaghmnpaaW.PrintWords Go.Proofs.YtgngbbkaghmnpaaW.PrintLast Go.Proofs.YtgngbbkaghmnpaaW.PrintMore
attribute [local go_sem] max2_int min2_int max_two min_two max_three min_three max_four min_four   -- for this text's walks alone
set_option linter.unusedVariables false
set_option linter.unusedSimpArgs false

/-! ### check_Check: function 9 -/
mutual
def check_Check.j0 : Nat → Bool → Int → List Int → List (S42) → Option (Int × Int × Int)
  | 0, _, _, _, _ => none
  | k + 1, x30, x207000, x207001, x207002 => if x30 = true then (some (0, (-1), 1)) else (check_Check.l0 k (x207002.length : Int) 0 x207000 x207001 x207002)
def check_Check.l0 : Nat → Int → Int → Int → List Int → List (S42) → Option (Int × Int × Int)
  | 0, _, _, _, _, _ => none
  | k + 1, x34, x35, x207000, x207001, x207002 => if x35 < x34 then ((check_static.f k x207000 x207001 x207002 x35).bind fun t214 => (if t214 ≥ 0 then (some (x35, t214, 130)) else ((check_heights.f k x207000 x207001 x207002 x35).bind fun bt215 => (if bt215.2 = true then (check_Check.l0 k x34 (wrap64 (x35 + 1)) x207000 x207001 x207002) else (some (x35, (-1), 130)))))) else (some (0, 0, 0))
end
def check_Check.f (k : Nat) (a0_0 : Int) (l0_1 : List Int) (l0_2 : List (S42)) : Option (Int × Int × Int) := (module_Encode.f k a0_0 l0_1 l0_2).bind fun bt208 => (if bt208.2 = 0 then (if 0 < (l0_2.length : Int) then (if ((rd_T42 l0_2 0).f0) = 3 then (check_Check.j0 k (((rd_T42 l0_2 0).f1) != 0) a0_0 l0_1 l0_2) else (check_Check.j0 k true a0_0 l0_1 l0_2)) else (none)) else (some ((-1), (-1), 1)))
theorem check_Check.mono_l : ∀ k, (∀ y0 y1 y2 y3, LeO (check_Check.j0 k y0 y1 y2 y3) (check_Check.j0 (k + 1) y0 y1 y2 y3)) ∧ (∀ y0 y1 y2 y3 y4, LeO (check_Check.l0 k y0 y1 y2 y3 y4) (check_Check.l0 (k + 1) y0 y1 y2 y3 y4))
  | 0 => ⟨fun _ _ _ _ r h => by simp [check_Check.j0] at h, fun _ _ _ _ _ r h => by simp [check_Check.l0] at h⟩
  | k + 1 => by
    obtain ⟨ih0, ih1⟩ := check_Check.mono_l k
    refine ⟨?_, ?_⟩ <;> intros <;> (first | unfold check_Check.j0 | unfold check_Check.l0) <;>
      (repeat' first
      | (with_reducible exact ih0 _ _ _ _)
      | (with_reducible exact ih1 _ _ _ _ _)
      | (with_reducible exact check_heights.mono _ _ _ _ _)
      | (with_reducible exact check_static.mono _ _ _ _ _)
      | (with_reducible exact module_Encode.mono _ _ _ _)
      | (with_reducible exact LeO.refl _)
      | (with_reducible exact LeO.none _)
      | (with_reducible refine LeO.ite ?_ ?_)
      | (with_reducible refine LeO.bind ?_ (fun _ => ?_))
      | exact ih0 _ _ _ _
      | exact ih1 _ _ _ _ _
      | exact check_heights.mono _ _ _ _ _
      | exact check_static.mono _ _ _ _ _
      | exact module_Encode.mono _ _ _ _
      | exact LeO.none _
      | refine LeO.ite ?_ ?_
      | refine LeO.bind ?_ (fun _ => ?_))
theorem check_Check.mono : ∀ a0 a1 a2 k, LeO (check_Check.f k a0 a1 a2) (check_Check.f (k + 1) a0 a1 a2) := by
  intro a0 a1 a2 k; obtain ⟨ih0, ih1⟩ := check_Check.mono_l k
  unfold check_Check.f
  repeat' first
      | (with_reducible exact ih0 _ _ _ _)
      | (with_reducible exact ih1 _ _ _ _ _)
      | (with_reducible exact check_heights.mono _ _ _ _ _)
      | (with_reducible exact check_static.mono _ _ _ _ _)
      | (with_reducible exact module_Encode.mono _ _ _ _)
      | (with_reducible exact LeO.refl _)
      | (with_reducible exact LeO.none _)
      | (with_reducible refine LeO.ite ?_ ?_)
      | (with_reducible refine LeO.bind ?_ (fun _ => ?_))
      | exact ih0 _ _ _ _
      | exact ih1 _ _ _ _ _
      | exact check_heights.mono _ _ _ _ _
      | exact check_static.mono _ _ _ _ _
      | exact module_Encode.mono _ _ _ _
      | exact LeO.none _
      | refine LeO.ite ?_ ?_
      | refine LeO.bind ?_ (fun _ => ?_)
set_option maxHeartbeats 8000000 in
set_option maxRecDepth 100000 in
theorem check_Check.calls (k : Nat) (a0_0 : Int) (A0_1 : Option Addr) (c0_1 : Nat) (l0_1 : List Int) (A0_2 : Option Addr) (c0_2 : Nat) (l0_2 : List (S42)) (r1 : Int) (r2 : Int) (r3 : Int) (w : World) (hr0_1 : Kd.C (Kd.int .u8) w A0_1 l0_1.length l0_1) (hc0_1 : l0_1.length ≤ c0_1) (hr0_2 : Kd.C k42 w A0_2 l0_2.length l0_2) (hc0_2 : l0_2.length ≤ c0_2) (h : check_Check.f k a0_0 l0_1 l0_2 = some (r1, r2, r3)) :
    Calls Try.prog 9 #[.agg #[.int .i64 a0_0, .slice A0_1 l0_1.length c0_1, .slice A0_2 l0_2.length c0_2]] w fun e w' => e = .returned (.agg #[.int .i64 r1, .int .i64 r2, .int .i64 r3]) ∧ Below w.heap.size w w' := by
  have hu25 := Try.underlying25; have hu29 := Try.underlying29; have HR0_1 := Aside0.mk hr0_1; have HC0_1 := Aside0.mk hc0_1; clear hr0_1 hc0_1; have HR0_2 := Aside0.mk hr0_2; have HC0_2 := Aside0.mk hc0_2; clear hr0_2 hc0_2; have HB := Aside0.mk (Below.refl w.heap.size w); have H : ((module_Encode.f k a0_0 l0_1 l0_2).bind fun bt208 => (if bt208.2 = 0 then (if 0 < (l0_2.length : Int) then (if ((rd_T42 l0_2 0).f0) = 3 then (check_Check.j0 k (((rd_T42 l0_2 0).f1) != 0) a0_0 l0_1 l0_2) else (check_Check.j0 k true a0_0 l0_1 l0_2)) else (none)) else (some ((-1), (-1), 1)))) = some (r1, r2, r3) := h; clear h; replace H := Option.bind_eq_some_iff.mp H; obtain ⟨⟨t208, t211⟩, A20, H⟩ := H; replace H : (if t211 = 0 then (if 0 < (l0_2.length : Int) then (if ((rd_T42 l0_2 0).f0) = 3 then (check_Check.j0 k (((rd_T42 l0_2 0).f1) != 0) a0_0 l0_1 l0_2) else (check_Check.j0 k true a0_0 l0_1 l0_2)) else (none)) else (some ((-1), (-1), 1))) = some (r1, r2, r3) := H; have A2 := Aside0.mk A20; clear A20
  by_cases c3 : t211 = 0
  · rw [if_pos c3] at H
    have c3b0 : (t211 == 0) = true := beq_iff_eq.mpr c3; have c3b1 : (t211 != 0) = false := bne_eq_false_iff_eq.mpr c3; clear c3; have HC4 := Aside0.mk H; clear H
    go_enter Try.func9, Try.ntmps9
    go_upto_region 4 with (first | ((with_reducible refine gate_dst (N := 1) rfl ?_); refine box_event ?hg (N := 1) ?hd (cs := #[.int .i64 a0_0, .slice A0_1 l0_1.length c0_1, .slice A0_2 l0_2.length c0_2]) (t := 25) ?hr ?_; (case hd => rfl); (case hg => rfl); (case hr => first | (go_simp; done) | (go_simp; rfl)); intro gb206 hg w5 hbox hb; have n0_ := Aside0.mk (below_step (bn0 HB) hb); have BK206 := Aside0.mk (hbox); have GW206 := Aside0.mk ((by rw [hg]; exact (below_size (bn0 HB)) : w.heap.size ≤ gb206)); have GE206 := Aside0.mk ((by rw [hg]; exact (below_size (bn0 HB)) : w.heap.size ≤ gb206)); replace HB := n0_; clear n0_; clear hb hbox hg) | ((with_reducible refine gate_dst (N := 2) rfl ?_); refine box_event ?hg (N := 2) ?hd (cs := #[.int .i64 0, .int .i64 0, .int .i64 0]) (t := 29) ?hr ?_; (case hd => rfl); (case hg => rfl); (case hr => first | (go_simp; done) | (go_simp; rfl)); intro gb207 hg w6 hbox hb; have n0_ := Aside0.mk (blk_below (g := gb206) (o := .cells #[.int .i64 a0_0, .slice A0_1 l0_1.length c0_1, .slice A0_2 l0_2.length c0_2] 25 (0, 0)) (bkn BK206) hb); have n1_ := Aside0.mk (below_step (bn1 HB GE206) hb); have BK207 := Aside0.mk (hbox); have GW207 := Aside0.mk ((by rw [hg]; exact (below_size (bn1 HB GE206)) : w.heap.size ≤ gb207)); have GE207 := Aside0.mk ((by rw [hg]; exact (below_size (bn1 HB GE206)) : w.heap.size ≤ gb207)); have NB206_207 := Aside0.mk ((by rw [hg]; exact Nat.ne_of_lt (blk_lt (g := gb206) (o := .cells #[.int .i64 a0_0, .slice A0_1 l0_1.length c0_1, .slice A0_2 l0_2.length c0_2] 25 (0, 0)) (bkn BK206)) : gb206 ≠ gb207)); have NB207_206 := Aside0.mk ((by rw [hg]; exact Nat.ne_of_gt (blk_lt (g := gb206) (o := .cells #[.int .i64 a0_0, .slice A0_1 l0_1.length c0_1, .slice A0_2 l0_2.length c0_2] 25 (0, 0)) (bkn BK206)) : gb207 ≠ gb206)); replace BK206 := n0_; replace HB := n1_; clear n0_ n1_; clear hb hbox hg; have hnb7 := NB206_207.out; have hnc7 := NB207_206.out; obtain ⟨hcz8_0, hcz8_1, hcz8_2⟩ := cells3 BK206.out; obtain ⟨hfz8_0, hfz8_1, hfz8_2⟩ := froz3 BK206.out) | ((with_reducible refine gate_callee (f := 18) rfl ?_); refine goesL_ (some 11) rfl rfl Try.func18 (by kernel_rfl) rfl #[.agg #[.int .i64 a0_0, .slice A0_1 l0_1.length c0_1, .slice A0_2 l0_2.length c0_2]] rfl (by (try simp only [List.map_toArray, List.map_cons, List.map_nil]); first | done | rfl | (simp only [List.length_drop, List.length_take]; rfl)) ?_; (with_reducible refine (module_Encode.calls k a0_0 _ _ l0_1 _ _ l0_2 t208 t211 _ ?side1 ?side2 ?side3 ?side4 A2.out).mono ?_); (case side1 => repeat (first | exact (Kd.C_below HR0_1.out HB.out) | (with_reducible refine Kd.C_alloc ?_ _) | (with_reducible refine Kd.C_drewN ?_ _) | (with_reducible refine Kd.C_drew ?_))); (case side2 => exact HC0_1.out); (case side3 => repeat (first | exact (Kd.C_below HR0_2.out HB.out) | (with_reducible refine Kd.C_alloc ?_ _) | (with_reducible refine Kd.C_drewN ?_ _) | (with_reducible refine Kd.C_drew ?_))); (case side4 => exact HC0_2.out); rintro e w9 ⟨v209, rfl, ho0, hb⟩; refine ⟨_, rfl, ?_⟩; have HO210 := Aside0.mk (Kd.R_lower ho0 (below_size (bn2 HB GE206 GE207))); replace BK206 := Aside0.mk (blk_below (g := gb206) (o := .cells #[.int .i64 a0_0, .slice A0_1 l0_1.length c0_1, .slice A0_2 l0_2.length c0_2] 25 (0, 0)) (bkn BK206) hb); replace BK207 := Aside0.mk (blk_below (g := gb207) (o := .cells #[.int .i64 0, .int .i64 0, .int .i64 0] 29 (0, 0)) (bkn BK207) hb); replace HB := Aside0.mk (below_step (bn2 HB GE206 GE207) hb); (try clear hb); (try clear ho0)))
    (try simp only [Act.put, List.setIfInBounds_toArray, List.set_cons_zero, List.set_cons_succ])
    go_cut [30] (fun v30 wc => ∃ (kq : Nat) (x30_3 : Bool), v30 = .bool x30_3 ∧ Aside0 (check_Check.j0 kq x30_3 a0_0 l0_1 l0_2 = some (r1, r2, r3)) ∧ Aside0 (kq ≤ k) ∧ Aside0 (wc.heap[gb206]? = some (.cells #[.int .i64 a0_0, (.slice A0_1 l0_1.length c0_1), (.slice A0_2 l0_2.length c0_2)] 25 (0, 0))) ∧ Aside0 (wc.heap[gb207]? = some (.cells #[.int .i64 0, .int .i64 0, .int .i64 0] 29 (0, 0))) ∧ Aside0 (Below w.heap.size w wc))
    case first =>
      have H := HC4.out; clear HC4
      by_cases c10 : 0 < (l0_2.length : Int)
      case neg => rw [if_neg c10] at H; exact absurd H (by simp)
      rw [if_pos c10] at H; have c10b0 : decide (0 < (l0_2.length : Int)) = true := decide_eq_true c10; have c10b1 : decide (0 < l0_2.length) = true := decide_eq_true (by omega); clear c10
      (first | rw [c10b0] | (simp only [i64_w, i32_w]; rw [c10b0]) | skip)
      by_cases c11 : ((rd_T42 l0_2 0).f0) = 3
      · rw [if_pos c11] at H
        have c11b0 : (((rd_T42 l0_2 0).f0) == 3) = true := beq_iff_eq.mpr c11; have c11b1 : (((rd_T42 l0_2 0).f0) != 3) = false := bne_eq_false_iff_eq.mpr c11; clear c11; have H' := Aside0.mk H; clear H; have hnb12 := NB206_207.out; have hnc12 := NB207_206.out; obtain ⟨hcz13_0, hcz13_1, hcz13_2⟩ := cells3 BK206.out; obtain ⟨hfz13_0, hfz13_1, hfz13_2⟩ := froz3 BK206.out; have p212 : 0 ≤ (0 : Int) := (by omega); have q212 : 0 < (l0_2.length : Int) := of_decide_eq_true (by first | (with_reducible assumption) | assumption); obtain ⟨ad212, A212_3, c212_3, e212, hx212_0, hx212_1, hx212_2, hx212_3, hl212_3, hi212_3⟩ := at_T42 HR0_2.out 0 p212 q212
        cases e212
        have qi212 : (0 < l0_2.length) = True := eq_true (by omega)
        (try rw [show ((0 : Int)).toNat = 0 from rfl] at hx212_0)
        (try rw [show 0 * 4 = 0 from rfl] at hx212_0)
        (try rw [Addr.add_zero'] at hx212_0)
        (try rw [show ((0 : Int)).toNat = 0 from rfl] at hx212_1)
        (try rw [show 0 * 4 = 0 from rfl] at hx212_1)
        (try rw [Addr.add_zero'] at hx212_1)
        (try rw [show ((0 : Int)).toNat = 0 from rfl] at hx212_2)
        (try rw [show 0 * 4 = 0 from rfl] at hx212_2)
        (try rw [Addr.add_zero'] at hx212_2)
        (try rw [show ((0 : Int)).toNat = 0 from rfl] at hx212_3)
        (try rw [show 0 * 4 = 0 from rfl] at hx212_3)
        (try rw [Addr.add_zero'] at hx212_3)
        replace hx212_0 := (HB.out.cell (World.block_lt_of_cell? w _ hx212_0)).trans hx212_0; replace hx212_1 := (HB.out.cell (World.block_lt_of_cell? w _ hx212_1)).trans hx212_1; replace hx212_2 := (HB.out.cell (World.block_lt_of_cell? w _ hx212_2)).trans hx212_2; replace hx212_3 := (HB.out.cell (World.block_lt_of_cell? w _ hx212_3)).trans hx212_3; have HR212_3 := Aside0.mk hi212_3; have HC212_3 := Aside0.mk hl212_3; clear hi212_3 hl212_3; replace p212 := eq_true p212; replace q212 := eq_true q212; have p213 : 0 ≤ (0 : Int) := (by omega); have q213 : 0 < (l0_2.length : Int) := of_decide_eq_true (by first | (with_reducible assumption) | assumption); obtain ⟨ad213, A213_3, c213_3, e213, hx213_0, hx213_1, hx213_2, hx213_3, hl213_3, hi213_3⟩ := at_T42 HR0_2.out 0 p213 q213; obtain rfl : ad212 = ad213 := (by injection e213); have qi213 : (0 < l0_2.length) = True := eq_true (by omega)
        (try rw [show ((0 : Int)).toNat = 0 from rfl] at hx213_0)
        (try rw [show 0 * 4 = 0 from rfl] at hx213_0)
        (try rw [Addr.add_zero'] at hx213_0)
        (try rw [show ((0 : Int)).toNat = 0 from rfl] at hx213_1)
        (try rw [show 0 * 4 = 0 from rfl] at hx213_1)
        (try rw [Addr.add_zero'] at hx213_1)
        (try rw [show ((0 : Int)).toNat = 0 from rfl] at hx213_2)
        (try rw [show 0 * 4 = 0 from rfl] at hx213_2)
        (try rw [Addr.add_zero'] at hx213_2)
        (try rw [show ((0 : Int)).toNat = 0 from rfl] at hx213_3)
        (try rw [show 0 * 4 = 0 from rfl] at hx213_3)
        (try rw [Addr.add_zero'] at hx213_3)
        replace hx213_0 := (HB.out.cell (World.block_lt_of_cell? w _ hx213_0)).trans hx213_0; replace hx213_1 := (HB.out.cell (World.block_lt_of_cell? w _ hx213_1)).trans hx213_1; replace hx213_2 := (HB.out.cell (World.block_lt_of_cell? w _ hx213_2)).trans hx213_2; replace hx213_3 := (HB.out.cell (World.block_lt_of_cell? w _ hx213_3)).trans hx213_3; have HR213_3 := Aside0.mk hi213_3; have HC213_3 := Aside0.mk hl213_3; clear hi213_3 hl213_3; replace p213 := eq_true p213; replace q213 := eq_true q213; have ea_ := Option.some.inj (hx212_3.symm.trans hx213_3)
        injection ea_ with ea_ en_ ec_
        subst ea_; subst ec_; clear en_
        go_wp2
        go_meet
        case rel => exact ⟨_, ((((rd_T42 l0_2 0).f1) != 0)), (by first | rfl | (simp; done) | (simp [*]; done)), H', ⟨by first | omega | exact Nat.le_refl _⟩, ⟨by (with_reducible repeat (first | refine blk_drewN ?_ _ | refine blk_drew ?_ | refine blk_alloc ?_ _)); exact BK206.out⟩, ⟨by (with_reducible repeat (first | refine blk_drewN ?_ _ | refine blk_drew ?_ | refine blk_alloc ?_ _)); exact BK207.out⟩, ⟨bn2 HB GE206 GE207⟩⟩
      · rw [if_neg c11] at H
        have c11b0 : (((rd_T42 l0_2 0).f0) == 3) = false := beq_eq_false_iff_ne.mpr c11; have c11b1 : (((rd_T42 l0_2 0).f0) != 3) = true := bne_iff_ne.mpr c11; have H' := Aside0.mk H; clear H; have hnb14 := NB206_207.out; have hnc14 := NB207_206.out; obtain ⟨hcz15_0, hcz15_1, hcz15_2⟩ := cells3 BK206.out; obtain ⟨hfz15_0, hfz15_1, hfz15_2⟩ := froz3 BK206.out; have p212 : 0 ≤ (0 : Int) := (by omega); have q212 : 0 < (l0_2.length : Int) := of_decide_eq_true (by first | (with_reducible assumption) | assumption); obtain ⟨ad212, A212_3, c212_3, e212, hx212_0, hx212_1, hx212_2, hx212_3, hl212_3, hi212_3⟩ := at_T42 HR0_2.out 0 p212 q212
        cases e212
        have qi212 : (0 < l0_2.length) = True := eq_true (by omega)
        (try rw [show ((0 : Int)).toNat = 0 from rfl] at hx212_0)
        (try rw [show 0 * 4 = 0 from rfl] at hx212_0)
        (try rw [Addr.add_zero'] at hx212_0)
        (try rw [show ((0 : Int)).toNat = 0 from rfl] at hx212_1)
        (try rw [show 0 * 4 = 0 from rfl] at hx212_1)
        (try rw [Addr.add_zero'] at hx212_1)
        (try rw [show ((0 : Int)).toNat = 0 from rfl] at hx212_2)
        (try rw [show 0 * 4 = 0 from rfl] at hx212_2)
        (try rw [Addr.add_zero'] at hx212_2)
        (try rw [show ((0 : Int)).toNat = 0 from rfl] at hx212_3)
        (try rw [show 0 * 4 = 0 from rfl] at hx212_3)
        (try rw [Addr.add_zero'] at hx212_3)
        replace hx212_0 := (HB.out.cell (World.block_lt_of_cell? w _ hx212_0)).trans hx212_0; replace hx212_1 := (HB.out.cell (World.block_lt_of_cell? w _ hx212_1)).trans hx212_1; replace hx212_2 := (HB.out.cell (World.block_lt_of_cell? w _ hx212_2)).trans hx212_2; replace hx212_3 := (HB.out.cell (World.block_lt_of_cell? w _ hx212_3)).trans hx212_3; have HR212_3 := Aside0.mk hi212_3; have HC212_3 := Aside0.mk hl212_3; clear hi212_3 hl212_3; replace p212 := eq_true p212; replace q212 := eq_true q212
        go_wp2
        go_meet
        case rel => exact ⟨_, (true), (by first | rfl | (simp; done) | (simp [*]; done)), H', ⟨by first | omega | exact Nat.le_refl _⟩, ⟨by (with_reducible repeat (first | refine blk_drewN ?_ _ | refine blk_drew ?_ | refine blk_alloc ?_ _)); exact BK206.out⟩, ⟨by (with_reducible repeat (first | refine blk_drewN ?_ _ | refine blk_drew ?_ | refine blk_alloc ?_ _)); exact BK207.out⟩, ⟨bn2 HB GE206 GE207⟩⟩
    case rest =>
      clear HC4
      try clear c1
      try clear c2
      try clear p2
      try clear q2
      try clear hx2
      try clear qi2
      try clear c3
      try clear c3b0
      try clear c3b1
      try clear c7
      try clear c9
      try clear c10
      try clear c10b0
      try clear c10b1
      try clear c11
      try clear c11b0
      try clear c11b1
      try clear c12
      try clear c14
      try clear hcz13_0
      try clear hcz13_1
      try clear hcz13_2
      try clear hcz15_0
      try clear hcz15_1
      try clear hcz15_2
      try clear hcz8_0
      try clear hcz8_1
      try clear hcz8_2
      try clear hfz13_0
      try clear hfz13_1
      try clear hfz13_2
      try clear hfz15_0
      try clear hfz15_1
      try clear hfz15_2
      try clear hfz8_0
      try clear hfz8_1
      try clear hfz8_2
      try clear hx212_0
      try clear hx212_1
      try clear hx212_2
      try clear hx212_3
      try clear hx213_0
      try clear hx213_1
      try clear hx213_2
      try clear hx213_3
      try clear p212
      try clear p213
      try clear q212
      try clear q213
      obtain ⟨kq, x30_3, rfl, HA, HJ3, BK206, BK207, HB⟩ := hcut
      cases kq with
      | zero => exact absurd HA.out (by simp [check_Check.j0])
      | succ kj3 => ?_
      have H := HA.out; clear HA; simp only [check_Check.j0] at H
      by_cases c16 : x30_3 = true
      · subst c16
        have H1 : (some (0, (-1), 1)) = some (r1, r2, r3) := by rw [if_pos rfl] at H; exact H
        clear H; have H := H1; clear H1; simp only [Option.some.injEq, Prod.mk.injEq] at H; obtain ⟨rfl, rfl, rfl⟩ := H; have hnb17 := NB207_206.out; have hnc17 := NB206_207.out; obtain ⟨hcz18_0, hcz18_1, hcz18_2⟩ := cells3 BK207.out; obtain ⟨hfz18_0, hfz18_1, hfz18_2⟩ := froz3 BK207.out
        go_wp2
        refine bodyPost_ret (results_cell_row rfl _ _ gb207 29 #[.int .i64 0, .int .i64 (-1), .int .i64 1] (0, 0) _ rfl (by (with_reducible repeat (first | refine blk_drewN ?_ _ | refine blk_drew ?_ | refine blk_alloc ?_ _)); refine blk_put (cs := #[.int .i64 0, .int .i64 (-1), .int .i64 0]) ?_ 2 _ rfl; (with_reducible repeat (first | refine blk_drewN ?_ _ | refine blk_drew ?_ | refine blk_alloc ?_ _)); refine blk_put (cs := #[.int .i64 0, .int .i64 0, .int .i64 0]) ?_ 1 _ rfl; (with_reducible repeat (first | refine blk_drewN ?_ _ | refine blk_drew ?_ | refine blk_alloc ?_ _)); refine blk_put (cs := #[.int .i64 0, .int .i64 0, .int .i64 0]) ?_ 0 _ rfl; (with_reducible repeat (first | refine blk_drewN ?_ _ | refine blk_drew ?_ | refine blk_alloc ?_ _)); exact BK207.out) Try.underlying29 rfl (by kernel_rfl)) rfl ?_
        exact ⟨by first | rfl | (simp [errW_none, errW_some] <;> rfl) | (simp [*, errW_none, errW_some] <;> rfl), bn2 HB GE206 GE207⟩
      · replace c16 := Bool.eq_false_iff.mpr c16
        subst c16
        have H1 : (check_Check.l0 kj3 (l0_2.length : Int) 0 a0_0 l0_1 l0_2) = some (r1, r2, r3) := by rw [if_neg (show ¬ (false = true) by decide)] at H; exact H
        clear H; have H := H1; clear H1; have H' := Aside0.mk H; clear H; have hnb19 := NB206_207.out; have hnc19 := NB207_206.out; obtain ⟨hcz20_0, hcz20_1, hcz20_2⟩ := cells3 BK206.out; obtain ⟨hfz20_0, hfz20_1, hfz20_2⟩ := froz3 BK206.out
        go_wp2
        go_loopg [35] kj3 (fun kq v35 w' => ∃ (x35_2 : Int) (x208000_2 : Int) (x208001_2 : Int) (x208002_2 : Int), v35 = .int .i64 x35_2 ∧ Aside0 (check_Check.l0 kq (l0_2.length : Int) x35_2 a0_0 l0_1 l0_2 = some (r1, r2, r3)) ∧ Aside0 (kq ≤ kj3) ∧ Aside0 (w'.heap[gb206]? = some (.cells #[.int .i64 a0_0, (.slice A0_1 l0_1.length c0_1), (.slice A0_2 l0_2.length c0_2)] 25 (0, 0))) ∧ Aside0 (w'.heap[gb207]? = some (.cells #[.int .i64 x208000_2, .int .i64 x208001_2, .int .i64 x208002_2] 29 (0, 0))) ∧ Aside0 (Below w.heap.size w w'))
        case atStart => exact ⟨(0), (0), (0), (0), (by first | rfl | (simp; done) | (simp [*]; done)), H', ⟨Nat.le_refl _⟩, ⟨by (with_reducible repeat (first | refine blk_drewN ?_ _ | refine blk_drew ?_ | refine blk_alloc ?_ _)); exact BK206.out⟩, ⟨by (with_reducible repeat (first | refine blk_drewN ?_ _ | refine blk_drew ?_ | refine blk_alloc ?_ _)); exact BK207.out⟩, ⟨bn2 HB GE206 GE207⟩⟩
        case round =>
          clear H'
          try clear c1
          try clear c2
          try clear p2
          try clear q2
          try clear hx2
          try clear qi2
          try clear c3
          try clear c3b0
          try clear c3b1
          try clear c7
          try clear c9
          try clear c10
          try clear c10b0
          try clear c10b1
          try clear c11
          try clear c11b0
          try clear c11b1
          try clear c12
          try clear c14
          try clear c16
          try clear c17
          try clear c18
          try clear c19
          try clear hcz13_0
          try clear hcz13_1
          try clear hcz13_2
          try clear hcz15_0
          try clear hcz15_1
          try clear hcz15_2
          try clear hcz18_0
          try clear hcz18_1
          try clear hcz18_2
          try clear hcz20_0
          try clear hcz20_1
          try clear hcz20_2
          try clear hcz8_0
          try clear hcz8_1
          try clear hcz8_2
          try clear hfz13_0
          try clear hfz13_1
          try clear hfz13_2
          try clear hfz15_0
          try clear hfz15_1
          try clear hfz15_2
          try clear hfz18_0
          try clear hfz18_1
          try clear hfz18_2
          try clear hfz20_0
          try clear hfz20_1
          try clear hfz20_2
          try clear hfz8_0
          try clear hfz8_1
          try clear hfz8_2
          try clear hx212_0
          try clear hx212_1
          try clear hx212_2
          try clear hx212_3
          try clear hx213_0
          try clear hx213_1
          try clear hx213_2
          try clear hx213_3
          try clear p2
          try clear p212
          try clear p213
          try clear q2
          try clear q212
          try clear q213
          obtain ⟨x35_2, x208000_2, x208001_2, x208002_2, rfl, HA, HK2, BK206, BK207, HB⟩ := hrel
          cases gk with
          | zero => exact absurd HA.out (by simp [check_Check.l0])
          | succ k2 => ?_
          have H := HA.out; clear HA; simp only [check_Check.l0] at H
          by_cases c21 : x35_2 < (l0_2.length : Int)
          · rw [if_pos c21] at H
            have c21b0 : decide (x35_2 < (l0_2.length : Int)) = true := decide_eq_true c21; clear c21; replace H := Option.bind_eq_some_iff.mp H; obtain ⟨t214, A220, H⟩ := H; replace H : (if t214 ≥ 0 then (some (x35_2, t214, 130)) else ((check_heights.f k2 a0_0 l0_1 l0_2 x35_2).bind fun bt215 => (if bt215.2 = true then (check_Check.l0 k2 (l0_2.length : Int) (wrap64 (x35_2 + 1)) a0_0 l0_1 l0_2) else (some (x35_2, (-1), 130))))) = some (r1, r2, r3) := H; have A22 := Aside0.mk A220; clear A220
            by_cases c23 : t214 ≥ 0
            · rw [if_pos c23] at H
              have c23b0 : decide (0 ≤ t214) = true := decide_eq_true c23; clear c23; simp only [Option.some.injEq, Prod.mk.injEq] at H; obtain ⟨rfl, rfl, rfl⟩ := H; have hnb24 := NB206_207.out; have hnc24 := NB207_206.out; obtain ⟨hcz25_0, hcz25_1, hcz25_2⟩ := cells3 BK206.out; obtain ⟨hfz25_0, hfz25_1, hfz25_2⟩ := froz3 BK206.out
              go_wp2_with (first | ((with_reducible refine gate_callee (f := 20) rfl ?_); refine goesL_ (some 40) rfl rfl Try.func20 (by kernel_rfl) rfl #[.agg #[.int .i64 a0_0, .slice A0_1 l0_1.length c0_1, .slice A0_2 l0_2.length c0_2], .int .i64 x35_2] rfl (by (try simp only [List.map_toArray, List.map_cons, List.map_nil]); first | done | rfl | (simp only [List.length_drop, List.length_take]; rfl)) ?_; (with_reducible refine (check_static.calls k2 a0_0 _ _ l0_1 _ _ l0_2 x35_2 t214 _ ?side1 ?side2 ?side3 ?side4 A22.out).mono ?_); (case side1 => repeat (first | exact (Kd.C_below HR0_1.out HB.out) | (with_reducible refine Kd.C_alloc ?_ _) | (with_reducible refine Kd.C_drewN ?_ _) | (with_reducible refine Kd.C_drew ?_))); (case side2 => exact HC0_1.out); (case side3 => repeat (first | exact (Kd.C_below HR0_2.out HB.out) | (with_reducible refine Kd.C_alloc ?_ _) | (with_reducible refine Kd.C_drewN ?_ _) | (with_reducible refine Kd.C_drew ?_))); (case side4 => exact HC0_2.out); rintro e w26 ⟨rfl, hb⟩; refine ⟨_, rfl, ?_⟩; replace BK206 := Aside0.mk (blk_below (g := gb206) (o := .cells #[.int .i64 a0_0, .slice A0_1 l0_1.length c0_1, .slice A0_2 l0_2.length c0_2] 25 (0, 0)) (bkn BK206) hb); replace BK207 := Aside0.mk (blk_below (g := gb207) (o := .cells #[.int .i64 x208000_2, .int .i64 x208001_2, .int .i64 x208002_2] 29 (0, 0)) (bkn BK207) hb); replace HB := Aside0.mk (below_step (bn2 HB GE206 GE207) hb); (try clear hb); obtain ⟨hcz27_0, hcz27_1, hcz27_2⟩ := cells3 BK207.out; obtain ⟨hfz27_0, hfz27_1, hfz27_2⟩ := froz3 BK207.out))
              refine bodyPost_ret (results_cell_row rfl _ _ gb207 29 #[.int .i64 x35_2, .int .i64 t214, .int .i64 130] (0, 0) _ rfl (by (with_reducible repeat (first | refine blk_drewN ?_ _ | refine blk_drew ?_ | refine blk_alloc ?_ _)); refine blk_put (cs := #[.int .i64 x35_2, .int .i64 t214, .int .i64 x208002_2]) ?_ 2 _ rfl; (with_reducible repeat (first | refine blk_drewN ?_ _ | refine blk_drew ?_ | refine blk_alloc ?_ _)); refine blk_put (cs := #[.int .i64 x35_2, .int .i64 x208001_2, .int .i64 x208002_2]) ?_ 1 _ rfl; (with_reducible repeat (first | refine blk_drewN ?_ _ | refine blk_drew ?_ | refine blk_alloc ?_ _)); refine blk_put (cs := #[.int .i64 x208000_2, .int .i64 x208001_2, .int .i64 x208002_2]) ?_ 0 _ rfl; (with_reducible repeat (first | refine blk_drewN ?_ _ | refine blk_drew ?_ | refine blk_alloc ?_ _)); exact BK207.out) Try.underlying29 rfl (by kernel_rfl)) rfl ?_
              exact ⟨by first | rfl | (simp [errW_none, errW_some] <;> rfl) | (simp [*, errW_none, errW_some] <;> rfl), bn2 HB GE206 GE207⟩
            · rw [if_neg c23] at H
              have c23b0 : decide (0 ≤ t214) = false := decide_eq_false c23; clear c23; replace H := Option.bind_eq_some_iff.mp H; obtain ⟨⟨t215, t218⟩, A280, H⟩ := H; replace H : (if t218 = true then (check_Check.l0 k2 (l0_2.length : Int) (wrap64 (x35_2 + 1)) a0_0 l0_1 l0_2) else (some (x35_2, (-1), 130))) = some (r1, r2, r3) := H; have A28 := Aside0.mk A280; clear A280
              by_cases c29 : t218 = true
              · subst c29
                have H1 : (check_Check.l0 k2 (l0_2.length : Int) (wrap64 (x35_2 + 1)) a0_0 l0_1 l0_2) = some (r1, r2, r3) := by rw [if_pos rfl] at H; exact H
                clear H; have H := H1; clear H1; have H' := Aside0.mk H; clear H; have hnb30 := NB206_207.out; have hnc30 := NB207_206.out; obtain ⟨hcz31_0, hcz31_1, hcz31_2⟩ := cells3 BK206.out; obtain ⟨hfz31_0, hfz31_1, hfz31_2⟩ := froz3 BK206.out
                go_wp2_with (first | ((with_reducible refine gate_callee (f := 20) rfl ?_); refine goesL_ (some 40) rfl rfl Try.func20 (by kernel_rfl) rfl #[.agg #[.int .i64 a0_0, .slice A0_1 l0_1.length c0_1, .slice A0_2 l0_2.length c0_2], .int .i64 x35_2] rfl (by (try simp only [List.map_toArray, List.map_cons, List.map_nil]); first | done | rfl | (simp only [List.length_drop, List.length_take]; rfl)) ?_; (with_reducible refine (check_static.calls k2 a0_0 _ _ l0_1 _ _ l0_2 x35_2 t214 _ ?side1 ?side2 ?side3 ?side4 A22.out).mono ?_); (case side1 => repeat (first | exact (Kd.C_below HR0_1.out HB.out) | (with_reducible refine Kd.C_alloc ?_ _) | (with_reducible refine Kd.C_drewN ?_ _) | (with_reducible refine Kd.C_drew ?_))); (case side2 => exact HC0_1.out); (case side3 => repeat (first | exact (Kd.C_below HR0_2.out HB.out) | (with_reducible refine Kd.C_alloc ?_ _) | (with_reducible refine Kd.C_drewN ?_ _) | (with_reducible refine Kd.C_drew ?_))); (case side4 => exact HC0_2.out); rintro e w32 ⟨rfl, hb⟩; refine ⟨_, rfl, ?_⟩; replace BK206 := Aside0.mk (blk_below (g := gb206) (o := .cells #[.int .i64 a0_0, .slice A0_1 l0_1.length c0_1, .slice A0_2 l0_2.length c0_2] 25 (0, 0)) (bkn BK206) hb); replace BK207 := Aside0.mk (blk_below (g := gb207) (o := .cells #[.int .i64 x208000_2, .int .i64 x208001_2, .int .i64 x208002_2] 29 (0, 0)) (bkn BK207) hb); replace HB := Aside0.mk (below_step (bn2 HB GE206 GE207) hb); (try clear hb); obtain ⟨hcz33_0, hcz33_1, hcz33_2⟩ := cells3 BK206.out; obtain ⟨hfz33_0, hfz33_1, hfz33_2⟩ := froz3 BK206.out) | ((with_reducible refine gate_callee (f := 21) rfl ?_); refine goesL_ (some 49) rfl rfl Try.func21 (by kernel_rfl) rfl #[.agg #[.int .i64 a0_0, .slice A0_1 l0_1.length c0_1, .slice A0_2 l0_2.length c0_2], .int .i64 x35_2] rfl (by (try simp only [List.map_toArray, List.map_cons, List.map_nil]); first | done | rfl | (simp only [List.length_drop, List.length_take]; rfl)) ?_; (with_reducible refine (check_heights.calls k2 a0_0 _ _ l0_1 _ _ l0_2 x35_2 t215 true _ ?side1 ?side2 ?side3 ?side4 A28.out).mono ?_); (case side1 => repeat (first | exact (Kd.C_below HR0_1.out HB.out) | (with_reducible refine Kd.C_alloc ?_ _) | (with_reducible refine Kd.C_drewN ?_ _) | (with_reducible refine Kd.C_drew ?_))); (case side2 => exact HC0_1.out); (case side3 => repeat (first | exact (Kd.C_below HR0_2.out HB.out) | (with_reducible refine Kd.C_alloc ?_ _) | (with_reducible refine Kd.C_drewN ?_ _) | (with_reducible refine Kd.C_drew ?_))); (case side4 => exact HC0_2.out); rintro e w34 ⟨v216, rfl, ho0, hb⟩; refine ⟨_, rfl, ?_⟩; have HO217 := Aside0.mk (Kd.R_lower ho0 (below_size (bn2 HB GE206 GE207))); replace BK206 := Aside0.mk (blk_below (g := gb206) (o := .cells #[.int .i64 a0_0, .slice A0_1 l0_1.length c0_1, .slice A0_2 l0_2.length c0_2] 25 (0, 0)) (bkn BK206) hb); replace BK207 := Aside0.mk (blk_below (g := gb207) (o := .cells #[.int .i64 x208000_2, .int .i64 x208001_2, .int .i64 x208002_2] 29 (0, 0)) (bkn BK207) hb); replace HB := Aside0.mk (below_step (bn2 HB GE206 GE207) hb); (try clear hb); (try clear ho0)))
                go_roundg k2
                case measure => have := HJ3.out; have := HK2.out; omega
                case rel => exact ⟨(wrap64 (x35_2 + 1)), (x208000_2), (x208001_2), (x208002_2), (by first | rfl | (simp; done) | (simp [*]; done)), H', ⟨by have := HJ3.out; have := HK2.out; omega⟩, ⟨by (with_reducible repeat (first | refine blk_drewN ?_ _ | refine blk_drew ?_ | refine blk_alloc ?_ _)); exact BK206.out⟩, ⟨by (with_reducible repeat (first | refine blk_drewN ?_ _ | refine blk_drew ?_ | refine blk_alloc ?_ _)); exact BK207.out⟩, ⟨bn2 HB GE206 GE207⟩⟩
              · replace c29 := Bool.eq_false_iff.mpr c29
                subst c29
                have H1 : (some (x35_2, (-1), 130)) = some (r1, r2, r3) := by rw [if_neg (show ¬ (false = true) by decide)] at H; exact H
                clear H; have H := H1; clear H1; simp only [Option.some.injEq, Prod.mk.injEq] at H; obtain ⟨rfl, rfl, rfl⟩ := H; have hnb35 := NB206_207.out; have hnc35 := NB207_206.out; obtain ⟨hcz36_0, hcz36_1, hcz36_2⟩ := cells3 BK206.out; obtain ⟨hfz36_0, hfz36_1, hfz36_2⟩ := froz3 BK206.out
                go_wp2_with (first | ((with_reducible refine gate_callee (f := 20) rfl ?_); refine goesL_ (some 40) rfl rfl Try.func20 (by kernel_rfl) rfl #[.agg #[.int .i64 a0_0, .slice A0_1 l0_1.length c0_1, .slice A0_2 l0_2.length c0_2], .int .i64 x35_2] rfl (by (try simp only [List.map_toArray, List.map_cons, List.map_nil]); first | done | rfl | (simp only [List.length_drop, List.length_take]; rfl)) ?_; (with_reducible refine (check_static.calls k2 a0_0 _ _ l0_1 _ _ l0_2 x35_2 t214 _ ?side1 ?side2 ?side3 ?side4 A22.out).mono ?_); (case side1 => repeat (first | exact (Kd.C_below HR0_1.out HB.out) | (with_reducible refine Kd.C_alloc ?_ _) | (with_reducible refine Kd.C_drewN ?_ _) | (with_reducible refine Kd.C_drew ?_))); (case side2 => exact HC0_1.out); (case side3 => repeat (first | exact (Kd.C_below HR0_2.out HB.out) | (with_reducible refine Kd.C_alloc ?_ _) | (with_reducible refine Kd.C_drewN ?_ _) | (with_reducible refine Kd.C_drew ?_))); (case side4 => exact HC0_2.out); rintro e w37 ⟨rfl, hb⟩; refine ⟨_, rfl, ?_⟩; replace BK206 := Aside0.mk (blk_below (g := gb206) (o := .cells #[.int .i64 a0_0, .slice A0_1 l0_1.length c0_1, .slice A0_2 l0_2.length c0_2] 25 (0, 0)) (bkn BK206) hb); replace BK207 := Aside0.mk (blk_below (g := gb207) (o := .cells #[.int .i64 x208000_2, .int .i64 x208001_2, .int .i64 x208002_2] 29 (0, 0)) (bkn BK207) hb); replace HB := Aside0.mk (below_step (bn2 HB GE206 GE207) hb); (try clear hb); obtain ⟨hcz38_0, hcz38_1, hcz38_2⟩ := cells3 BK206.out; obtain ⟨hfz38_0, hfz38_1, hfz38_2⟩ := froz3 BK206.out) | ((with_reducible refine gate_callee (f := 21) rfl ?_); refine goesL_ (some 49) rfl rfl Try.func21 (by kernel_rfl) rfl #[.agg #[.int .i64 a0_0, .slice A0_1 l0_1.length c0_1, .slice A0_2 l0_2.length c0_2], .int .i64 x35_2] rfl (by (try simp only [List.map_toArray, List.map_cons, List.map_nil]); first | done | rfl | (simp only [List.length_drop, List.length_take]; rfl)) ?_; (with_reducible refine (check_heights.calls k2 a0_0 _ _ l0_1 _ _ l0_2 x35_2 t215 false _ ?side1 ?side2 ?side3 ?side4 A28.out).mono ?_); (case side1 => repeat (first | exact (Kd.C_below HR0_1.out HB.out) | (with_reducible refine Kd.C_alloc ?_ _) | (with_reducible refine Kd.C_drewN ?_ _) | (with_reducible refine Kd.C_drew ?_))); (case side2 => exact HC0_1.out); (case side3 => repeat (first | exact (Kd.C_below HR0_2.out HB.out) | (with_reducible refine Kd.C_alloc ?_ _) | (with_reducible refine Kd.C_drewN ?_ _) | (with_reducible refine Kd.C_drew ?_))); (case side4 => exact HC0_2.out); rintro e w39 ⟨v216, rfl, ho0, hb⟩; refine ⟨_, rfl, ?_⟩; have HO217 := Aside0.mk (Kd.R_lower ho0 (below_size (bn2 HB GE206 GE207))); replace BK206 := Aside0.mk (blk_below (g := gb206) (o := .cells #[.int .i64 a0_0, .slice A0_1 l0_1.length c0_1, .slice A0_2 l0_2.length c0_2] 25 (0, 0)) (bkn BK206) hb); replace BK207 := Aside0.mk (blk_below (g := gb207) (o := .cells #[.int .i64 x208000_2, .int .i64 x208001_2, .int .i64 x208002_2] 29 (0, 0)) (bkn BK207) hb); replace HB := Aside0.mk (below_step (bn2 HB GE206 GE207) hb); (try clear hb); (try clear ho0); obtain ⟨hcz40_0, hcz40_1, hcz40_2⟩ := cells3 BK207.out; obtain ⟨hfz40_0, hfz40_1, hfz40_2⟩ := froz3 BK207.out))
                refine bodyPost_ret (results_cell_row rfl _ _ gb207 29 #[.int .i64 x35_2, .int .i64 (-1), .int .i64 130] (0, 0) _ rfl (by (with_reducible repeat (first | refine blk_drewN ?_ _ | refine blk_drew ?_ | refine blk_alloc ?_ _)); refine blk_put (cs := #[.int .i64 x35_2, .int .i64 (-1), .int .i64 x208002_2]) ?_ 2 _ rfl; (with_reducible repeat (first | refine blk_drewN ?_ _ | refine blk_drew ?_ | refine blk_alloc ?_ _)); refine blk_put (cs := #[.int .i64 x35_2, .int .i64 x208001_2, .int .i64 x208002_2]) ?_ 1 _ rfl; (with_reducible repeat (first | refine blk_drewN ?_ _ | refine blk_drew ?_ | refine blk_alloc ?_ _)); refine blk_put (cs := #[.int .i64 x208000_2, .int .i64 x208001_2, .int .i64 x208002_2]) ?_ 0 _ rfl; (with_reducible repeat (first | refine blk_drewN ?_ _ | refine blk_drew ?_ | refine blk_alloc ?_ _)); exact BK207.out) Try.underlying29 rfl (by kernel_rfl)) rfl ?_
                exact ⟨by first | rfl | (simp [errW_none, errW_some] <;> rfl) | (simp [*, errW_none, errW_some] <;> rfl), bn2 HB GE206 GE207⟩
          · rw [if_neg c21] at H
            have c21b0 : decide (x35_2 < (l0_2.length : Int)) = false := decide_eq_false c21; clear c21; simp only [Option.some.injEq, Prod.mk.injEq] at H; obtain ⟨rfl, rfl, rfl⟩ := H; have hnb41 := NB207_206.out; have hnc41 := NB206_207.out; obtain ⟨hcz42_0, hcz42_1, hcz42_2⟩ := cells3 BK207.out; obtain ⟨hfz42_0, hfz42_1, hfz42_2⟩ := froz3 BK207.out
            go_wp2
            refine bodyPost_ret (results_cell_row rfl _ _ gb207 29 #[.int .i64 0, .int .i64 0, .int .i64 0] (0, 0) _ rfl (by (with_reducible repeat (first | refine blk_drewN ?_ _ | refine blk_drew ?_ | refine blk_alloc ?_ _)); refine blk_put (cs := #[.int .i64 0, .int .i64 0, .int .i64 x208002_2]) ?_ 2 _ rfl; (with_reducible repeat (first | refine blk_drewN ?_ _ | refine blk_drew ?_ | refine blk_alloc ?_ _)); refine blk_put (cs := #[.int .i64 0, .int .i64 x208001_2, .int .i64 x208002_2]) ?_ 1 _ rfl; (with_reducible repeat (first | refine blk_drewN ?_ _ | refine blk_drew ?_ | refine blk_alloc ?_ _)); refine blk_put (cs := #[.int .i64 x208000_2, .int .i64 x208001_2, .int .i64 x208002_2]) ?_ 0 _ rfl; (with_reducible repeat (first | refine blk_drewN ?_ _ | refine blk_drew ?_ | refine blk_alloc ?_ _)); exact BK207.out) Try.underlying29 rfl (by kernel_rfl)) rfl ?_
            exact ⟨by first | rfl | (simp [errW_none, errW_some] <;> rfl) | (simp [*, errW_none, errW_some] <;> rfl), bn2 HB GE206 GE207⟩
  · rw [if_neg c3] at H
    have c3b0 : (t211 == 0) = false := beq_eq_false_iff_ne.mpr c3; have c3b1 : (t211 != 0) = true := bne_iff_ne.mpr c3; simp only [Option.some.injEq, Prod.mk.injEq] at H; obtain ⟨rfl, rfl, rfl⟩ := H
    go_enter Try.func9, Try.ntmps9
    go_wp2_with (first | ((with_reducible refine gate_dst (N := 1) rfl ?_); refine box_event ?hg (N := 1) ?hd (cs := #[.int .i64 a0_0, .slice A0_1 l0_1.length c0_1, .slice A0_2 l0_2.length c0_2]) (t := 25) ?hr ?_; (case hd => rfl); (case hg => rfl); (case hr => first | (go_simp; done) | (go_simp; rfl)); intro gb206 hg w43 hbox hb; have n0_ := Aside0.mk (below_step (bn0 HB) hb); have BK206 := Aside0.mk (hbox); have GW206 := Aside0.mk ((by rw [hg]; exact (below_size (bn0 HB)) : w.heap.size ≤ gb206)); have GE206 := Aside0.mk ((by rw [hg]; exact (below_size (bn0 HB)) : w.heap.size ≤ gb206)); replace HB := n0_; clear n0_; clear hb hbox hg) | ((with_reducible refine gate_dst (N := 2) rfl ?_); refine box_event ?hg (N := 2) ?hd (cs := #[.int .i64 0, .int .i64 0, .int .i64 0]) (t := 29) ?hr ?_; (case hd => rfl); (case hg => rfl); (case hr => first | (go_simp; done) | (go_simp; rfl)); intro gb207 hg w44 hbox hb; have n0_ := Aside0.mk (blk_below (g := gb206) (o := .cells #[.int .i64 a0_0, .slice A0_1 l0_1.length c0_1, .slice A0_2 l0_2.length c0_2] 25 (0, 0)) (bkn BK206) hb); have n1_ := Aside0.mk (below_step (bn1 HB GE206) hb); have BK207 := Aside0.mk (hbox); have GW207 := Aside0.mk ((by rw [hg]; exact (below_size (bn1 HB GE206)) : w.heap.size ≤ gb207)); have GE207 := Aside0.mk ((by rw [hg]; exact (below_size (bn1 HB GE206)) : w.heap.size ≤ gb207)); have NB206_207 := Aside0.mk ((by rw [hg]; exact Nat.ne_of_lt (blk_lt (g := gb206) (o := .cells #[.int .i64 a0_0, .slice A0_1 l0_1.length c0_1, .slice A0_2 l0_2.length c0_2] 25 (0, 0)) (bkn BK206)) : gb206 ≠ gb207)); have NB207_206 := Aside0.mk ((by rw [hg]; exact Nat.ne_of_gt (blk_lt (g := gb206) (o := .cells #[.int .i64 a0_0, .slice A0_1 l0_1.length c0_1, .slice A0_2 l0_2.length c0_2] 25 (0, 0)) (bkn BK206)) : gb207 ≠ gb206)); replace BK206 := n0_; replace HB := n1_; clear n0_ n1_; clear hb hbox hg; have hnb45 := NB206_207.out; have hnc45 := NB207_206.out; obtain ⟨hcz46_0, hcz46_1, hcz46_2⟩ := cells3 BK206.out; obtain ⟨hfz46_0, hfz46_1, hfz46_2⟩ := froz3 BK206.out) | ((with_reducible refine gate_callee (f := 18) rfl ?_); refine goesL_ (some 11) rfl rfl Try.func18 (by kernel_rfl) rfl #[.agg #[.int .i64 a0_0, .slice A0_1 l0_1.length c0_1, .slice A0_2 l0_2.length c0_2]] rfl (by (try simp only [List.map_toArray, List.map_cons, List.map_nil]); first | done | rfl | (simp only [List.length_drop, List.length_take]; rfl)) ?_; (with_reducible refine (module_Encode.calls k a0_0 _ _ l0_1 _ _ l0_2 t208 t211 _ ?side1 ?side2 ?side3 ?side4 A2.out).mono ?_); (case side1 => repeat (first | exact (Kd.C_below HR0_1.out HB.out) | (with_reducible refine Kd.C_alloc ?_ _) | (with_reducible refine Kd.C_drewN ?_ _) | (with_reducible refine Kd.C_drew ?_))); (case side2 => exact HC0_1.out); (case side3 => repeat (first | exact (Kd.C_below HR0_2.out HB.out) | (with_reducible refine Kd.C_alloc ?_ _) | (with_reducible refine Kd.C_drewN ?_ _) | (with_reducible refine Kd.C_drew ?_))); (case side4 => exact HC0_2.out); rintro e w47 ⟨v209, rfl, ho0, hb⟩; refine ⟨_, rfl, ?_⟩; have HO210 := Aside0.mk (Kd.R_lower ho0 (below_size (bn2 HB GE206 GE207))); replace BK206 := Aside0.mk (blk_below (g := gb206) (o := .cells #[.int .i64 a0_0, .slice A0_1 l0_1.length c0_1, .slice A0_2 l0_2.length c0_2] 25 (0, 0)) (bkn BK206) hb); replace BK207 := Aside0.mk (blk_below (g := gb207) (o := .cells #[.int .i64 0, .int .i64 0, .int .i64 0] 29 (0, 0)) (bkn BK207) hb); replace HB := Aside0.mk (below_step (bn2 HB GE206 GE207) hb); (try clear hb); (try clear ho0); obtain ⟨hcz48_0, hcz48_1, hcz48_2⟩ := cells3 BK207.out; obtain ⟨hfz48_0, hfz48_1, hfz48_2⟩ := froz3 BK207.out))
    refine bodyPost_ret (results_cell_row rfl _ _ gb207 29 #[.int .i64 (-1), .int .i64 (-1), .int .i64 1] (0, 0) _ rfl (by (with_reducible repeat (first | refine blk_drewN ?_ _ | refine blk_drew ?_ | refine blk_alloc ?_ _)); refine blk_put (cs := #[.int .i64 (-1), .int .i64 (-1), .int .i64 0]) ?_ 2 _ rfl; (with_reducible repeat (first | refine blk_drewN ?_ _ | refine blk_drew ?_ | refine blk_alloc ?_ _)); refine blk_put (cs := #[.int .i64 (-1), .int .i64 0, .int .i64 0]) ?_ 1 _ rfl; (with_reducible repeat (first | refine blk_drewN ?_ _ | refine blk_drew ?_ | refine blk_alloc ?_ _)); refine blk_put (cs := #[.int .i64 0, .int .i64 0, .int .i64 0]) ?_ 0 _ rfl; (with_reducible repeat (first | refine blk_drewN ?_ _ | refine blk_drew ?_ | refine blk_alloc ?_ _)); exact BK207.out) Try.underlying29 rfl (by kernel_rfl)) rfl ?_
    exact ⟨by first | rfl | (simp [errW_none, errW_some] <;> rfl) | (simp [*, errW_none, errW_some] <;> rfl), bn2 HB GE206 GE207⟩

end Go.Proofs.Ytgngbbkaghmnpaa.Q
