-- written by a program of this session after the way of the kit's print; not the kit's own print. Lean checks it.
import Derived.Test.YtgngbbkaghmnpaaQx0
import Derived.Test.YtgngbbkaghmnpaaQx21
namespace Go.Proofs.Ytgngbbkaghmnpaa.Q
open Go.RowKit Go.Proofs.YtgngbbkaghmnpaaW.PrintWords Go.Proofs.YtgngbbkaghmnpaaW.PrintLast Go.Proofs.YtgngbbkaghmnpaaW.PrintMore
attribute [local go_sem] max2_int min2_int max_two min_two max_three min_three max_four min_four   -- for this text's walks alone
set_option linter.unusedVariables false
set_option linter.unusedSimpArgs false

/-! ### casementref13_bad: function 23 -/
def casementref13_bad.j0 : Nat → Int → Bool → Int → List Int → List (S42) → Int → Int → Int → Int → Int → List (S46) → Option (Bool)
  | 0, _, _, _, _, _, _, _, _, _, _, _ => none
  | k + 1, x1, x23, x508000, x508001, x508002, x509000, x509001, x511000, x511001, x511002, x511003 => if x23 = true then (if x509001 < 0 then (some true) else (some (decide (x509001 ≥ (wrap64 (x511000 + x511002)))))) else (if x509000 = 24 then (if x509001 < 0 then (some true) else (some (decide (x509001 ≥ (x511003.length : Int))))) else (if x509000 = 25 then (if x509001 < 0 then (some true) else (some (decide (x509001 ≥ (x511003.length : Int))))) else ((casementref13_Effect.f k x508000 x508001 x508002 x1 x509000 x509001).bind fun bt511 => (some (!bt511.2.2)))))
def casementref13_bad.f (k : Nat) (a0_0 : Int) (l0_1 : List Int) (l0_2 : List (S42)) (a1 : Int) (a2_0 : Int) (a2_1 : Int) : Option (Bool) := if 0 ≤ a1 then (if a1 < (l0_2.length : Int) then (if a2_0 = 5 then (casementref13_bad.j0 k a1 true a0_0 l0_1 l0_2 a2_0 a2_1 ((rd_T42 l0_2 a1).f0) ((rd_T42 l0_2 a1).f1) ((rd_T42 l0_2 a1).f2) ((rd_T42 l0_2 a1).f3)) else (casementref13_bad.j0 k a1 (a2_0 == 6) a0_0 l0_1 l0_2 a2_0 a2_1 ((rd_T42 l0_2 a1).f0) ((rd_T42 l0_2 a1).f1) ((rd_T42 l0_2 a1).f2) ((rd_T42 l0_2 a1).f3))) else (none)) else (none)
theorem casementref13_bad.mono_l : ∀ k, (∀ y0 y1 y2 y3 y4 y5 y6 y7 y8 y9 y10, LeO (casementref13_bad.j0 k y0 y1 y2 y3 y4 y5 y6 y7 y8 y9 y10) (casementref13_bad.j0 (k + 1) y0 y1 y2 y3 y4 y5 y6 y7 y8 y9 y10))
  | 0 => fun _ _ _ _ _ _ _ _ _ _ _ r h => by simp [casementref13_bad.j0] at h
  | k + 1 => by
    have ih0 := casementref13_bad.mono_l k
    · intro y0 y1 y2 y3 y4 y5 y6 y7 y8 y9 y10
      unfold casementref13_bad.j0
      repeat' first
      | (with_reducible exact ih0 _ _ _ _ _ _ _ _ _ _ _)
      | (with_reducible exact casementref13_Effect.mono _ _ _ _ _ _ _)
      | (with_reducible exact LeO.refl _)
      | (with_reducible exact LeO.none _)
      | (with_reducible refine LeO.ite ?_ ?_)
      | (with_reducible refine LeO.bind ?_ (fun _ => ?_))
      | exact ih0 _ _ _ _ _ _ _ _ _ _ _
      | exact casementref13_Effect.mono _ _ _ _ _ _ _
      | exact LeO.none _
      | refine LeO.ite ?_ ?_
      | refine LeO.bind ?_ (fun _ => ?_)
theorem casementref13_bad.mono : ∀ a0 a1 a2 a3 a4 a5 k, LeO (casementref13_bad.f k a0 a1 a2 a3 a4 a5) (casementref13_bad.f (k + 1) a0 a1 a2 a3 a4 a5) := by
  intro a0 a1 a2 a3 a4 a5 k; have ih0 := casementref13_bad.mono_l k
  unfold casementref13_bad.f
  repeat' first
      | (with_reducible exact ih0 _ _ _ _ _ _ _ _ _ _ _)
      | (with_reducible exact casementref13_Effect.mono _ _ _ _ _ _ _)
      | (with_reducible exact LeO.refl _)
      | (with_reducible exact LeO.none _)
      | (with_reducible refine LeO.ite ?_ ?_)
      | (with_reducible refine LeO.bind ?_ (fun _ => ?_))
      | exact ih0 _ _ _ _ _ _ _ _ _ _ _
      | exact casementref13_Effect.mono _ _ _ _ _ _ _
      | exact LeO.none _
      | refine LeO.ite ?_ ?_
      | refine LeO.bind ?_ (fun _ => ?_)
set_option maxHeartbeats 8000000 in
set_option maxRecDepth 100000 in
theorem casementref13_bad.calls (k : Nat) (a0_0 : Int) (A0_1 : Option Addr) (c0_1 : Nat) (l0_1 : List Int) (A0_2 : Option Addr) (c0_2 : Nat) (l0_2 : List (S42)) (a1 : Int) (a2_0 : Int) (a2_1 : Int) (r : Bool) (w : World) (hr0_1 : Kd.C (Kd.int .u8) w A0_1 l0_1.length l0_1) (hc0_1 : l0_1.length ≤ c0_1) (hr0_2 : Kd.C k42 w A0_2 l0_2.length l0_2) (hc0_2 : l0_2.length ≤ c0_2) (h : casementref13_bad.f k a0_0 l0_1 l0_2 a1 a2_0 a2_1 = some r) :
    Calls Try.prog 23 #[.agg #[.int .i64 a0_0, .slice A0_1 l0_1.length c0_1, .slice A0_2 l0_2.length c0_2], .int .i64 a1, .agg #[.int .i64 a2_0, .int .i64 a2_1]] w fun e w' => e = .returned (.bool r) ∧ Below w.heap.size w w' := by
  have hu25 := Try.underlying25; have hu46 := Try.underlying46; have hu42 := Try.underlying42; have HR0_1 := Aside0.mk hr0_1; have HC0_1 := Aside0.mk hc0_1; clear hr0_1 hc0_1; have HR0_2 := Aside0.mk hr0_2; have HC0_2 := Aside0.mk hc0_2; clear hr0_2 hc0_2; have HB := Aside0.mk (Below.refl w.heap.size w); have H : (if 0 ≤ a1 then (if a1 < (l0_2.length : Int) then (if a2_0 = 5 then (casementref13_bad.j0 k a1 true a0_0 l0_1 l0_2 a2_0 a2_1 ((rd_T42 l0_2 a1).f0) ((rd_T42 l0_2 a1).f1) ((rd_T42 l0_2 a1).f2) ((rd_T42 l0_2 a1).f3)) else (casementref13_bad.j0 k a1 (a2_0 == 6) a0_0 l0_1 l0_2 a2_0 a2_1 ((rd_T42 l0_2 a1).f0) ((rd_T42 l0_2 a1).f1) ((rd_T42 l0_2 a1).f2) ((rd_T42 l0_2 a1).f3))) else (none)) else (none)) = some r := h; clear h
  by_cases c4 : 0 ≤ a1
  case neg => rw [if_neg c4] at H; exact absurd H (by simp)
  rw [if_pos c4] at H; have c4b0 : decide (0 ≤ a1) = true := decide_eq_true c4; clear c4
  by_cases c5 : a1 < (l0_2.length : Int)
  case neg => rw [if_neg c5] at H; exact absurd H (by simp)
  rw [if_pos c5] at H; have c5b0 : decide (a1 < (l0_2.length : Int)) = true := decide_eq_true c5; clear c5; have HC6 := Aside0.mk H; clear H
  go_enter Try.func23, Try.ntmps23
  go_upto_region 2 with (first | ((with_reducible refine gate_dst (N := 3) rfl ?_); (try (refine gate_guard (by rfl) ?_; dsimp only)); refine box_event ?hg (N := 3) ?hd (cs := #[.int .i64 a0_0, .slice A0_1 l0_1.length c0_1, .slice A0_2 l0_2.length c0_2]) (t := 25) ?hr ?_; (case hd => rfl); (case hg => rfl); (case hr => first | (go_simp; done) | (go_simp; rfl)); intro gb507 hg w7 hbox hb; have n0_ := Aside0.mk (below_step (bn0 HB) hb); have BK507 := Aside0.mk (hbox); have GW507 := Aside0.mk ((by rw [hg]; exact (below_size (bn0 HB)) : w.heap.size ≤ gb507)); have GE507 := Aside0.mk ((by rw [hg]; exact (below_size (bn0 HB)) : w.heap.size ≤ gb507)); replace HB := n0_; clear n0_; clear hb hbox hg) | ((with_reducible refine gate_dst (N := 5) rfl ?_); (try (refine gate_guard (by rfl) ?_; dsimp only)); refine box_event ?hg (N := 5) ?hd (cs := #[.int .i64 a2_0, .int .i64 a2_1]) (t := 46) ?hr ?_; (case hd => rfl); (case hg => rfl); (case hr => first | (go_simp; done) | (go_simp; rfl)); intro gb508 hg w8 hbox hb; have n0_ := Aside0.mk (blk_below (g := gb507) (o := .cells #[.int .i64 a0_0, .slice A0_1 l0_1.length c0_1, .slice A0_2 l0_2.length c0_2] 25 (0, 0)) (bkn BK507) hb); have n1_ := Aside0.mk (below_step (bn1 HB GE507) hb); have BK508 := Aside0.mk (hbox); have GW508 := Aside0.mk ((by rw [hg]; exact (below_size (bn1 HB GE507)) : w.heap.size ≤ gb508)); have GE508 := Aside0.mk ((by rw [hg]; exact (below_size (bn1 HB GE507)) : w.heap.size ≤ gb508)); have NB507_508 := Aside0.mk ((by rw [hg]; exact Nat.ne_of_lt (blk_lt (g := gb507) (o := .cells #[.int .i64 a0_0, .slice A0_1 l0_1.length c0_1, .slice A0_2 l0_2.length c0_2] 25 (0, 0)) (bkn BK507)) : gb507 ≠ gb508)); have NB508_507 := Aside0.mk ((by rw [hg]; exact Nat.ne_of_gt (blk_lt (g := gb507) (o := .cells #[.int .i64 a0_0, .slice A0_1 l0_1.length c0_1, .slice A0_2 l0_2.length c0_2] 25 (0, 0)) (bkn BK507)) : gb508 ≠ gb507)); replace BK507 := n0_; replace HB := n1_; clear n0_ n1_; clear hb hbox hg; have hnb9 := NB507_508.out; have hnc9 := NB508_507.out; obtain ⟨hcz10_0, hcz10_1, hcz10_2⟩ := cells3 BK507.out; obtain ⟨hfz10_0, hfz10_1, hfz10_2⟩ := froz3 BK507.out; have p509 : 0 ≤ (a1 : Int) := of_decide_eq_true (by first | (with_reducible assumption) | assumption); have q509 : a1 < (l0_2.length : Int) := of_decide_eq_true (by first | (with_reducible assumption) | assumption); obtain ⟨ad509, A509_3, c509_3, e509, hx509_0, hx509_1, hx509_2, hx509_3, hl509_3, hi509_3⟩ := at_T42 HR0_2.out a1 p509 q509; cases e509; replace hx509_0 := (HB.out.cell (World.block_lt_of_cell? w _ hx509_0)).trans hx509_0; replace hx509_1 := (HB.out.cell (World.block_lt_of_cell? w _ hx509_1)).trans hx509_1; replace hx509_2 := (HB.out.cell (World.block_lt_of_cell? w _ hx509_2)).trans hx509_2; replace hx509_3 := (HB.out.cell (World.block_lt_of_cell? w _ hx509_3)).trans hx509_3; have HR509_3 := Aside0.mk hi509_3; have HC509_3 := Aside0.mk hl509_3; clear hi509_3 hl509_3; replace p509 := eq_true p509; replace q509 := eq_true q509) | ((with_reducible refine gate_dst (N := 7) rfl ?_); (try (refine gate_guard (by rfl) ?_; dsimp only)); refine box_event ?hg (N := 7) ?hd (cs := #[.int .i64 0, .int .i64 0, .int .i64 0, .slice none 0 0]) (t := 42) ?hr ?_; (case hd => rfl); (case hg => rfl); (case hr => first | (go_simp; done) | (go_simp; rfl)); intro gb510 hg w11 hbox hb; have n0_ := Aside0.mk (blk_below (g := gb507) (o := .cells #[.int .i64 a0_0, .slice A0_1 l0_1.length c0_1, .slice (some ad509) l0_2.length c0_2] 25 (0, 0)) (bkn BK507) hb); have n1_ := Aside0.mk (blk_below (g := gb508) (o := .cells #[.int .i64 a2_0, .int .i64 a2_1] 46 (0, 0)) (bkn BK508) hb); have n2_ := Aside0.mk (below_step (bn2 HB GE507 GE508) hb); have BK510 := Aside0.mk (hbox); have GW510 := Aside0.mk ((by rw [hg]; exact (below_size (bn2 HB GE507 GE508)) : w.heap.size ≤ gb510)); have GE510 := Aside0.mk ((by rw [hg]; exact (below_size (bn2 HB GE507 GE508)) : w.heap.size ≤ gb510)); have NB507_510 := Aside0.mk ((by rw [hg]; exact Nat.ne_of_lt (blk_lt (g := gb507) (o := .cells #[.int .i64 a0_0, .slice A0_1 l0_1.length c0_1, .slice (some ad509) l0_2.length c0_2] 25 (0, 0)) (bkn BK507)) : gb507 ≠ gb510)); have NB510_507 := Aside0.mk ((by rw [hg]; exact Nat.ne_of_gt (blk_lt (g := gb507) (o := .cells #[.int .i64 a0_0, .slice A0_1 l0_1.length c0_1, .slice (some ad509) l0_2.length c0_2] 25 (0, 0)) (bkn BK507)) : gb510 ≠ gb507)); have NB508_510 := Aside0.mk ((by rw [hg]; exact Nat.ne_of_lt (blk_lt (g := gb508) (o := .cells #[.int .i64 a2_0, .int .i64 a2_1] 46 (0, 0)) (bkn BK508)) : gb508 ≠ gb510)); have NB510_508 := Aside0.mk ((by rw [hg]; exact Nat.ne_of_gt (blk_lt (g := gb508) (o := .cells #[.int .i64 a2_0, .int .i64 a2_1] 46 (0, 0)) (bkn BK508)) : gb510 ≠ gb508)); replace BK507 := n0_; replace BK508 := n1_; replace HB := n2_; clear n0_ n1_ n2_; clear hb hbox hg; have hnb12 := NB510_507.out; have hnc12 := NB507_510.out; have hnb13 := NB510_508.out; have hnc13 := NB508_510.out; obtain ⟨hcz14_0, hcz14_1, hcz14_2, hcz14_3⟩ := cells4 BK510.out; obtain ⟨hfz14_0, hfz14_1, hfz14_2, hfz14_3⟩ := froz4 BK510.out))
  (try simp only [Act.put, List.setIfInBounds_toArray, List.set_cons_zero, List.set_cons_succ])
  go_cut [23] (fun v23 wc => ∃ (kq : Nat) (x23_5 : Bool), v23 = .bool x23_5 ∧ Aside0 (casementref13_bad.j0 kq a1 x23_5 a0_0 l0_1 l0_2 a2_0 a2_1 ((rd_T42 l0_2 a1).f0) ((rd_T42 l0_2 a1).f1) ((rd_T42 l0_2 a1).f2) ((rd_T42 l0_2 a1).f3) = some r) ∧ Aside0 (kq ≤ k) ∧ Aside0 (wc.heap[gb507]? = some (.cells #[.int .i64 a0_0, (.slice A0_1 l0_1.length c0_1), (.slice (some ad509) l0_2.length c0_2)] 25 (0, 0))) ∧ Aside0 (wc.heap[gb508]? = some (.cells #[.int .i64 a2_0, .int .i64 a2_1] 46 (0, 0))) ∧ Aside0 (wc.heap[gb510]? = some (.cells #[.int .i64 ((rd_T42 l0_2 a1).f0), .int .i64 ((rd_T42 l0_2 a1).f1), .int .i64 ((rd_T42 l0_2 a1).f2), (.slice A509_3 ((rd_T42 l0_2 a1).f3).length c509_3)] 42 (0, 0))) ∧ Aside0 (Below w.heap.size w wc))
  case first =>
    have H := HC6.out; clear HC6
    by_cases c15 : a2_0 = 5
    · rw [if_pos c15] at H
      have c15b0 : (a2_0 == 5) = true := beq_iff_eq.mpr c15; have c15b1 : (a2_0 != 5) = false := bne_eq_false_iff_eq.mpr c15; clear c15
      (first | rw [c15b0] | (simp only [i64_w, i32_w]; rw [c15b0]) | skip)
      have H' := Aside0.mk H; clear H; have hnb16 := NB508_507.out; have hnc16 := NB507_508.out; have hnb17 := NB508_510.out; have hnc17 := NB510_508.out; obtain ⟨hcz18_0, hcz18_1⟩ := cells2 BK508.out; obtain ⟨hfz18_0, hfz18_1⟩ := froz2 BK508.out
      go_wp2
      go_meet
      case rel => exact ⟨_, (true), (by first | rfl | (simp; done) | (simp [*]; done)), H', ⟨by first | omega | exact Nat.le_refl _⟩, ⟨by (with_reducible repeat (first | refine blk_drewN ?_ _ | refine blk_drew ?_ | refine blk_alloc ?_ _)); refine blk_far ?_ NB507_510.out _; (with_reducible repeat (first | refine blk_drewN ?_ _ | refine blk_drew ?_ | refine blk_alloc ?_ _)); refine blk_far ?_ NB507_510.out _; (with_reducible repeat (first | refine blk_drewN ?_ _ | refine blk_drew ?_ | refine blk_alloc ?_ _)); refine blk_far ?_ NB507_510.out _; (with_reducible repeat (first | refine blk_drewN ?_ _ | refine blk_drew ?_ | refine blk_alloc ?_ _)); refine blk_far ?_ NB507_510.out _; (with_reducible repeat (first | refine blk_drewN ?_ _ | refine blk_drew ?_ | refine blk_alloc ?_ _)); exact BK507.out⟩, ⟨by (with_reducible repeat (first | refine blk_drewN ?_ _ | refine blk_drew ?_ | refine blk_alloc ?_ _)); refine blk_far ?_ NB508_510.out _; (with_reducible repeat (first | refine blk_drewN ?_ _ | refine blk_drew ?_ | refine blk_alloc ?_ _)); refine blk_far ?_ NB508_510.out _; (with_reducible repeat (first | refine blk_drewN ?_ _ | refine blk_drew ?_ | refine blk_alloc ?_ _)); refine blk_far ?_ NB508_510.out _; (with_reducible repeat (first | refine blk_drewN ?_ _ | refine blk_drew ?_ | refine blk_alloc ?_ _)); refine blk_far ?_ NB508_510.out _; (with_reducible repeat (first | refine blk_drewN ?_ _ | refine blk_drew ?_ | refine blk_alloc ?_ _)); exact BK508.out⟩, ⟨by (with_reducible repeat (first | refine blk_drewN ?_ _ | refine blk_drew ?_ | refine blk_alloc ?_ _)); refine blk_put (cs := #[.int .i64 ((rd_T42 l0_2 a1).f0), .int .i64 ((rd_T42 l0_2 a1).f1), .int .i64 ((rd_T42 l0_2 a1).f2), .slice none 0 0]) ?_ 3 _ rfl; (with_reducible repeat (first | refine blk_drewN ?_ _ | refine blk_drew ?_ | refine blk_alloc ?_ _)); refine blk_put (cs := #[.int .i64 ((rd_T42 l0_2 a1).f0), .int .i64 ((rd_T42 l0_2 a1).f1), .int .i64 0, .slice none 0 0]) ?_ 2 _ rfl; (with_reducible repeat (first | refine blk_drewN ?_ _ | refine blk_drew ?_ | refine blk_alloc ?_ _)); refine blk_put (cs := #[.int .i64 ((rd_T42 l0_2 a1).f0), .int .i64 0, .int .i64 0, .slice none 0 0]) ?_ 1 _ rfl; (with_reducible repeat (first | refine blk_drewN ?_ _ | refine blk_drew ?_ | refine blk_alloc ?_ _)); refine blk_put (cs := #[.int .i64 0, .int .i64 0, .int .i64 0, .slice none 0 0]) ?_ 0 _ rfl; (with_reducible repeat (first | refine blk_drewN ?_ _ | refine blk_drew ?_ | refine blk_alloc ?_ _)); exact BK510.out⟩, ⟨bn3 HB GE507 GE508 GE510⟩⟩
    · rw [if_neg c15] at H
      have c15b0 : (a2_0 == 5) = false := beq_eq_false_iff_ne.mpr c15; have c15b1 : (a2_0 != 5) = true := bne_iff_ne.mpr c15
      (first | rw [c15b0] | (simp only [i64_w, i32_w]; rw [c15b0]) | skip)
      have H' := Aside0.mk H; clear H; have hnb19 := NB508_507.out; have hnc19 := NB507_508.out; have hnb20 := NB508_510.out; have hnc20 := NB510_508.out; obtain ⟨hcz21_0, hcz21_1⟩ := cells2 BK508.out; obtain ⟨hfz21_0, hfz21_1⟩ := froz2 BK508.out
      go_wp2
      go_meet
      case rel => exact ⟨_, ((a2_0 == 6)), (by first | rfl | (simp; done) | (simp [*]; done)), H', ⟨by first | omega | exact Nat.le_refl _⟩, ⟨by (with_reducible repeat (first | refine blk_drewN ?_ _ | refine blk_drew ?_ | refine blk_alloc ?_ _)); refine blk_far ?_ NB507_510.out _; (with_reducible repeat (first | refine blk_drewN ?_ _ | refine blk_drew ?_ | refine blk_alloc ?_ _)); refine blk_far ?_ NB507_510.out _; (with_reducible repeat (first | refine blk_drewN ?_ _ | refine blk_drew ?_ | refine blk_alloc ?_ _)); refine blk_far ?_ NB507_510.out _; (with_reducible repeat (first | refine blk_drewN ?_ _ | refine blk_drew ?_ | refine blk_alloc ?_ _)); refine blk_far ?_ NB507_510.out _; (with_reducible repeat (first | refine blk_drewN ?_ _ | refine blk_drew ?_ | refine blk_alloc ?_ _)); exact BK507.out⟩, ⟨by (with_reducible repeat (first | refine blk_drewN ?_ _ | refine blk_drew ?_ | refine blk_alloc ?_ _)); refine blk_far ?_ NB508_510.out _; (with_reducible repeat (first | refine blk_drewN ?_ _ | refine blk_drew ?_ | refine blk_alloc ?_ _)); refine blk_far ?_ NB508_510.out _; (with_reducible repeat (first | refine blk_drewN ?_ _ | refine blk_drew ?_ | refine blk_alloc ?_ _)); refine blk_far ?_ NB508_510.out _; (with_reducible repeat (first | refine blk_drewN ?_ _ | refine blk_drew ?_ | refine blk_alloc ?_ _)); refine blk_far ?_ NB508_510.out _; (with_reducible repeat (first | refine blk_drewN ?_ _ | refine blk_drew ?_ | refine blk_alloc ?_ _)); exact BK508.out⟩, ⟨by (with_reducible repeat (first | refine blk_drewN ?_ _ | refine blk_drew ?_ | refine blk_alloc ?_ _)); refine blk_put (cs := #[.int .i64 ((rd_T42 l0_2 a1).f0), .int .i64 ((rd_T42 l0_2 a1).f1), .int .i64 ((rd_T42 l0_2 a1).f2), .slice none 0 0]) ?_ 3 _ rfl; (with_reducible repeat (first | refine blk_drewN ?_ _ | refine blk_drew ?_ | refine blk_alloc ?_ _)); refine blk_put (cs := #[.int .i64 ((rd_T42 l0_2 a1).f0), .int .i64 ((rd_T42 l0_2 a1).f1), .int .i64 0, .slice none 0 0]) ?_ 2 _ rfl; (with_reducible repeat (first | refine blk_drewN ?_ _ | refine blk_drew ?_ | refine blk_alloc ?_ _)); refine blk_put (cs := #[.int .i64 ((rd_T42 l0_2 a1).f0), .int .i64 0, .int .i64 0, .slice none 0 0]) ?_ 1 _ rfl; (with_reducible repeat (first | refine blk_drewN ?_ _ | refine blk_drew ?_ | refine blk_alloc ?_ _)); refine blk_put (cs := #[.int .i64 0, .int .i64 0, .int .i64 0, .slice none 0 0]) ?_ 0 _ rfl; (with_reducible repeat (first | refine blk_drewN ?_ _ | refine blk_drew ?_ | refine blk_alloc ?_ _)); exact BK510.out⟩, ⟨bn3 HB GE507 GE508 GE510⟩⟩
  case rest =>
    clear HC6
    try clear c1
    try clear c2
    try clear p2
    try clear c4
    try clear c4b0
    try clear c5
    try clear c5b0
    try clear p5
    try clear q5
    try clear hx5
    try clear c9
    try clear c12
    try clear c13
    try clear c15
    try clear c15b0
    try clear c15b1
    try clear c16
    try clear c17
    try clear c19
    try clear c20
    try clear hcz10_0
    try clear hcz10_1
    try clear hcz10_2
    try clear hcz14_0
    try clear hcz14_1
    try clear hcz14_2
    try clear hcz14_3
    try clear hcz18_0
    try clear hcz18_1
    try clear hcz21_0
    try clear hcz21_1
    try clear hfz10_0
    try clear hfz10_1
    try clear hfz10_2
    try clear hfz14_0
    try clear hfz14_1
    try clear hfz14_2
    try clear hfz14_3
    try clear hfz18_0
    try clear hfz18_1
    try clear hfz21_0
    try clear hfz21_1
    try clear hx509_0
    try clear hx509_1
    try clear hx509_2
    try clear hx509_3
    try clear p509
    try clear q509
    obtain ⟨kq, x23_5, rfl, HA, HJ5, BK507, BK508, BK510, HB⟩ := hcut
    cases kq with
    | zero => exact absurd HA.out (by simp [casementref13_bad.j0])
    | succ kj5 => ?_
    have H := HA.out; clear HA; simp only [casementref13_bad.j0] at H
    by_cases c22 : x23_5 = true
    · subst c22
      have H1 : (if a2_1 < 0 then (some true) else (some (decide (a2_1 ≥ (wrap64 (((rd_T42 l0_2 a1).f0) + ((rd_T42 l0_2 a1).f2))))))) = some r := by rw [if_pos rfl] at H; exact H
      clear H; have H := H1; clear H1
      by_cases c23 : a2_1 < 0
      · rw [if_pos c23] at H
        have c23b0 : decide (a2_1 < 0) = true := decide_eq_true c23; clear c23; obtain rfl := Option.some.inj H; have hnb24 := NB508_507.out; have hnc24 := NB507_508.out; have hnb25 := NB508_510.out; have hnc25 := NB510_508.out; obtain ⟨hcz26_0, hcz26_1⟩ := cells2 BK508.out; obtain ⟨hfz26_0, hfz26_1⟩ := froz2 BK508.out
        go_wp2
        go_ret
        exact ⟨by first | rfl | (simp [errW_none, errW_some] <;> rfl) | (simp [*, errW_none, errW_some] <;> rfl), bn3 HB GE507 GE508 GE510⟩
      · rw [if_neg c23] at H
        have c23b0 : decide (a2_1 < 0) = false := decide_eq_false c23; clear c23; obtain rfl := Option.some.inj H; have hnb27 := NB508_507.out; have hnc27 := NB507_508.out; have hnb28 := NB508_510.out; have hnc28 := NB510_508.out; obtain ⟨hcz29_0, hcz29_1⟩ := cells2 BK508.out; obtain ⟨hfz29_0, hfz29_1⟩ := froz2 BK508.out; have hnb30 := NB510_507.out; have hnc30 := NB507_510.out; obtain ⟨hcz31_0, hcz31_1, hcz31_2, hcz31_3⟩ := cells4 BK510.out; obtain ⟨hfz31_0, hfz31_1, hfz31_2, hfz31_3⟩ := froz4 BK510.out
        go_wp2
        go_ret
        exact ⟨by first | rfl | (simp [errW_none, errW_some] <;> rfl) | (simp [*, errW_none, errW_some] <;> rfl), bn3 HB GE507 GE508 GE510⟩
    · replace c22 := Bool.eq_false_iff.mpr c22
      subst c22
      have H1 : (if a2_0 = 24 then (if a2_1 < 0 then (some true) else (some (decide (a2_1 ≥ (((rd_T42 l0_2 a1).f3).length : Int))))) else (if a2_0 = 25 then (if a2_1 < 0 then (some true) else (some (decide (a2_1 ≥ (((rd_T42 l0_2 a1).f3).length : Int))))) else ((casementref13_Effect.f kj5 a0_0 l0_1 l0_2 a1 a2_0 a2_1).bind fun bt511 => (some (!bt511.2.2))))) = some r := by rw [if_neg (show ¬ (false = true) by decide)] at H; exact H
      clear H; have H := H1; clear H1
      by_cases c32 : a2_0 = 24
      · rw [if_pos c32] at H
        have c32b0 : (a2_0 == 24) = true := beq_iff_eq.mpr c32; have c32b1 : (a2_0 != 24) = false := bne_eq_false_iff_eq.mpr c32; clear c32
        by_cases c33 : a2_1 < 0
        · rw [if_pos c33] at H
          have c33b0 : decide (a2_1 < 0) = true := decide_eq_true c33; clear c33; obtain rfl := Option.some.inj H; have hnb34 := NB508_507.out; have hnc34 := NB507_508.out; have hnb35 := NB508_510.out; have hnc35 := NB510_508.out; obtain ⟨hcz36_0, hcz36_1⟩ := cells2 BK508.out; obtain ⟨hfz36_0, hfz36_1⟩ := froz2 BK508.out
          go_wp2
          go_ret
          exact ⟨by first | rfl | (simp [errW_none, errW_some] <;> rfl) | (simp [*, errW_none, errW_some] <;> rfl), bn3 HB GE507 GE508 GE510⟩
        · rw [if_neg c33] at H
          have c33b0 : decide (a2_1 < 0) = false := decide_eq_false c33; clear c33; obtain rfl := Option.some.inj H; have hnb37 := NB508_507.out; have hnc37 := NB507_508.out; have hnb38 := NB508_510.out; have hnc38 := NB510_508.out; obtain ⟨hcz39_0, hcz39_1⟩ := cells2 BK508.out; obtain ⟨hfz39_0, hfz39_1⟩ := froz2 BK508.out; have hnb40 := NB510_507.out; have hnc40 := NB507_510.out; obtain ⟨hcz41_0, hcz41_1, hcz41_2, hcz41_3⟩ := cells4 BK510.out; obtain ⟨hfz41_0, hfz41_1, hfz41_2, hfz41_3⟩ := froz4 BK510.out
          go_wp2
          go_ret
          exact ⟨by first | rfl | (simp [errW_none, errW_some] <;> rfl) | (simp [*, errW_none, errW_some] <;> rfl), bn3 HB GE507 GE508 GE510⟩
      · rw [if_neg c32] at H
        have c32b0 : (a2_0 == 24) = false := beq_eq_false_iff_ne.mpr c32; have c32b1 : (a2_0 != 24) = true := bne_iff_ne.mpr c32
        by_cases c42 : a2_0 = 25
        · rw [if_pos c42] at H
          have c42b0 : (a2_0 == 25) = true := beq_iff_eq.mpr c42; have c42b1 : (a2_0 != 25) = false := bne_eq_false_iff_eq.mpr c42; clear c42
          by_cases c43 : a2_1 < 0
          · rw [if_pos c43] at H
            have c43b0 : decide (a2_1 < 0) = true := decide_eq_true c43; clear c43; obtain rfl := Option.some.inj H; have hnb44 := NB508_507.out; have hnc44 := NB507_508.out; have hnb45 := NB508_510.out; have hnc45 := NB510_508.out; obtain ⟨hcz46_0, hcz46_1⟩ := cells2 BK508.out; obtain ⟨hfz46_0, hfz46_1⟩ := froz2 BK508.out
            go_wp2
            go_ret
            exact ⟨by first | rfl | (simp [errW_none, errW_some] <;> rfl) | (simp [*, errW_none, errW_some] <;> rfl), bn3 HB GE507 GE508 GE510⟩
          · rw [if_neg c43] at H
            have c43b0 : decide (a2_1 < 0) = false := decide_eq_false c43; clear c43; obtain rfl := Option.some.inj H; have hnb47 := NB508_507.out; have hnc47 := NB507_508.out; have hnb48 := NB508_510.out; have hnc48 := NB510_508.out; obtain ⟨hcz49_0, hcz49_1⟩ := cells2 BK508.out; obtain ⟨hfz49_0, hfz49_1⟩ := froz2 BK508.out; have hnb50 := NB510_507.out; have hnc50 := NB507_510.out; obtain ⟨hcz51_0, hcz51_1, hcz51_2, hcz51_3⟩ := cells4 BK510.out; obtain ⟨hfz51_0, hfz51_1, hfz51_2, hfz51_3⟩ := froz4 BK510.out
            go_wp2
            go_ret
            exact ⟨by first | rfl | (simp [errW_none, errW_some] <;> rfl) | (simp [*, errW_none, errW_some] <;> rfl), bn3 HB GE507 GE508 GE510⟩
        · rw [if_neg c42] at H
          have c42b0 : (a2_0 == 25) = false := beq_eq_false_iff_ne.mpr c42; have c42b1 : (a2_0 != 25) = true := bne_iff_ne.mpr c42; replace H := Option.bind_eq_some_iff.mp H; obtain ⟨⟨t511, t512, t513⟩, A520, H⟩ := H; replace H : (some (!t513)) = some r := H; have A52 := Aside0.mk A520; clear A520; obtain rfl := Option.some.inj H; have hnb53 := NB508_507.out; have hnc53 := NB507_508.out; have hnb54 := NB508_510.out; have hnc54 := NB510_508.out; obtain ⟨hcz55_0, hcz55_1⟩ := cells2 BK508.out; obtain ⟨hfz55_0, hfz55_1⟩ := froz2 BK508.out; have hnb56 := NB507_510.out; have hnc56 := NB510_507.out; obtain ⟨hcz57_0, hcz57_1, hcz57_2⟩ := cells3 BK507.out; obtain ⟨hfz57_0, hfz57_1, hfz57_2⟩ := froz3 BK507.out
          go_wp2_with (first | ((with_reducible refine gate_callee (f := 16) rfl ?_); refine goesL_ (some 60) rfl rfl Try.func16 (by kernel_rfl) rfl #[.agg #[.int .i64 a0_0, .slice A0_1 l0_1.length c0_1, .slice (some ad509) l0_2.length c0_2], .int .i64 a1, .agg #[.int .i64 a2_0, .int .i64 a2_1]] rfl (by (try simp only [List.map_toArray, List.map_cons, List.map_nil]); first | done | rfl | (simp only [List.length_drop, List.length_take]; rfl)) ?_; (with_reducible refine (casementref13_Effect.calls kj5 a0_0 _ _ l0_1 _ _ l0_2 a1 a2_0 a2_1 t511 t512 t513 _ ?side1 ?side2 ?side3 ?side4 A52.out).mono ?_); (case side1 => repeat (first | exact (Kd.C_below HR0_1.out HB.out) | (with_reducible refine Kd.C_alloc ?_ _) | (with_reducible refine Kd.C_drewN ?_ _) | (with_reducible refine Kd.C_drew ?_))); (case side2 => exact HC0_1.out); (case side3 => repeat (first | exact (Kd.C_below HR0_2.out HB.out) | (with_reducible refine Kd.C_alloc ?_ _) | (with_reducible refine Kd.C_drewN ?_ _) | (with_reducible refine Kd.C_drew ?_))); (case side4 => exact HC0_2.out); rintro e w58 ⟨rfl, hb⟩; refine ⟨_, rfl, ?_⟩; replace BK507 := Aside0.mk (blk_below (g := gb507) (o := .cells #[.int .i64 a0_0, .slice A0_1 l0_1.length c0_1, .slice (some ad509) l0_2.length c0_2] 25 (0, 0)) (bkn BK507) hb); replace BK508 := Aside0.mk (blk_below (g := gb508) (o := .cells #[.int .i64 a2_0, .int .i64 a2_1] 46 (0, 0)) (bkn BK508) hb); replace BK510 := Aside0.mk (blk_below (g := gb510) (o := .cells #[.int .i64 ((rd_T42 l0_2 a1).f0), .int .i64 ((rd_T42 l0_2 a1).f1), .int .i64 ((rd_T42 l0_2 a1).f2), .slice A509_3 ((rd_T42 l0_2 a1).f3).length c509_3] 42 (0, 0)) (bkn BK510) hb); replace HB := Aside0.mk (below_step (bn3 HB GE507 GE508 GE510) hb); (try clear hb)))
          go_ret
          exact ⟨by first | rfl | (simp [errW_none, errW_some] <;> rfl) | (simp [*, errW_none, errW_some] <;> rfl), bn3 HB GE507 GE508 GE510⟩
end Go.Proofs.Ytgngbbkaghmnpaa.Q
