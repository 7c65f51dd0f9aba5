-- written by a program of this session after the way of the kit's print; not the kit's own print. Lean checks it.
import Derived.Test.YtgngbbkaghmnpaaQx0
import Derived.Test.YtgngbbkaghmnpaaQx10
namespace Go.Proofs.Ytgngbbkaghmnpaa.Q
open Go.RowKit Go.Proofs.YtgngbbkaghmnpaaW.PrintWords Go.Proofs.YtgngbbkaghmnpaaW.PrintLast Go.Proofs.YtgngbbkaghmnpaaW.PrintMore
attribute [local go_sem] max2_int min2_int max_two min_two max_three min_three max_four min_four   -- for this text's walks alone
set_option linter.unusedVariables false
set_option linter.unusedSimpArgs false

/-! ### check_static: function 20 -/
mutual
def check_static.l0 : Nat → Int → List (S46) → Int → Int → Int → List Int → List (S42) → Int → Int → Int → List (S46) → Option (Int)
  | 0, _, _, _, _, _, _, _, _, _, _, _ => none
  | k + 1, x1, x15, x16, x17, x157000, x157001, x157002, x159000, x159001, x159002, x159003 => if x17 < x16 then (if 0 ≤ x17 then (if x17 < (x15.length : Int) then (if ((rd_T46 x15 x17).f0) = 5 then (check_static.j1 k x1 x17 true x15 x16 x17 ((rd_T46 x15 x17).f0) (((rd_T46 x15 x17).f0) == 5) x157000 x157001 x157002 x159000 x159001 x159002 x159003 ((rd_T46 x15 x17).f0) ((rd_T46 x15 x17).f1)) else (check_static.j1 k x1 x17 true x15 x16 x17 ((rd_T46 x15 x17).f0) (((rd_T46 x15 x17).f0) == 6) x157000 x157001 x157002 x159000 x159001 x159002 x159003 ((rd_T46 x15 x17).f0) ((rd_T46 x15 x17).f1))) else (none)) else (none)) else (some (-1))
def check_static.j1 : Nat → Int → Int → Bool → List (S46) → Int → Int → Int → Bool → Int → List Int → List (S42) → Int → Int → Int → List (S46) → Int → Int → Option (Int)
  | 0, _, _, _, _, _, _, _, _, _, _, _, _, _, _, _, _, _ => none
  | k + 1, x1, x6, x8, x15, x16, x17, x23, x24, x157000, x157001, x157002, x159000, x159001, x159002, x159003, x161000, x161001 => if x24 = true then (if x161001 ≥ 0 then (if (x161001 < (wrap64 (x159000 + x159002))) then (check_static.l0 k x1 x15 x16 (wrap64 (x17 + 1)) x157000 x157001 x157002 x159000 x159001 x159002 x159003) else (some x6)) else (some x6)) else (if x23 = 24 then (check_static.j2 k x1 x6 x8 x15 x16 x17 x23 (x23 == 24) x157000 x157001 x157002 x159000 x159001 x159002 x159003 x161000 x161001) else (check_static.j2 k x1 x6 x8 x15 x16 x17 x23 (x23 == 25) x157000 x157001 x157002 x159000 x159001 x159002 x159003 x161000 x161001))
def check_static.j2 : Nat → Int → Int → Bool → List (S46) → Int → Int → Int → Bool → Int → List Int → List (S42) → Int → Int → Int → List (S46) → Int → Int → Option (Int)
  | 0, _, _, _, _, _, _, _, _, _, _, _, _, _, _, _, _, _ => none
  | k + 1, x1, x6, x8, x15, x16, x17, x23, x40, x157000, x157001, x157002, x159000, x159001, x159002, x159003, x161000, x161001 => if x40 = true then (if x161001 ≥ 0 then (if (x161001 < (x159003.length : Int)) then (check_static.l0 k x1 x15 x16 (wrap64 (x17 + 1)) x157000 x157001 x157002 x159000 x159001 x159002 x159003) else (some x6)) else (some x6)) else (if x23 = 26 then (check_static.j3 k x1 x6 x8 x15 x16 x17 (x23 == 26) x157000 x157001 x157002 x159000 x159001 x159002 x159003 x161000 x161001) else (check_static.j3 k x1 x6 x8 x15 x16 x17 (x23 == 28) x157000 x157001 x157002 x159000 x159001 x159002 x159003 x161000 x161001))
def check_static.j3 : Nat → Int → Int → Bool → List (S46) → Int → Int → Bool → Int → List Int → List (S42) → Int → Int → Int → List (S46) → Int → Int → Option (Int)
  | 0, _, _, _, _, _, _, _, _, _, _, _, _, _, _, _, _ => none
  | k + 1, x1, x6, x8, x15, x16, x17, x54, x157000, x157001, x157002, x159000, x159001, x159002, x159003, x161000, x161001 => if x54 = true then ((check_Effect.f k x157000 x157001 x157002 x1 x161000 x161001).bind fun bt161 => (if bt161.2.2 = true then (check_static.l0 k x1 x15 x16 (wrap64 (x17 + 1)) x157000 x157001 x157002 x159000 x159001 x159002 x159003) else (some x6))) else (if x8 = true then (check_static.l0 k x1 x15 x16 (wrap64 (x17 + 1)) x157000 x157001 x157002 x159000 x159001 x159002 x159003) else (some x6))
end
def check_static.f (k : Nat) (a0_0 : Int) (l0_1 : List Int) (l0_2 : List (S42)) (a1 : Int) : Option (Int) := if 0 ≤ a1 then (if a1 < (l0_2.length : Int) then (check_static.l0 k a1 ((rd_T42 l0_2 a1).f3) (((rd_T42 l0_2 a1).f3).length : Int) 0 a0_0 l0_1 l0_2 ((rd_T42 l0_2 a1).f0) ((rd_T42 l0_2 a1).f1) ((rd_T42 l0_2 a1).f2) ((rd_T42 l0_2 a1).f3)) else (none)) else (none)
theorem check_static.mono_l : ∀ k, (∀ y0 y1 y2 y3 y4 y5 y6 y7 y8 y9 y10, LeO (check_static.l0 k y0 y1 y2 y3 y4 y5 y6 y7 y8 y9 y10) (check_static.l0 (k + 1) y0 y1 y2 y3 y4 y5 y6 y7 y8 y9 y10)) ∧ (∀ y0 y1 y2 y3 y4 y5 y6 y7 y8 y9 y10 y11 y12 y13 y14 y15 y16, LeO (check_static.j1 k y0 y1 y2 y3 y4 y5 y6 y7 y8 y9 y10 y11 y12 y13 y14 y15 y16) (check_static.j1 (k + 1) y0 y1 y2 y3 y4 y5 y6 y7 y8 y9 y10 y11 y12 y13 y14 y15 y16)) ∧ (∀ y0 y1 y2 y3 y4 y5 y6 y7 y8 y9 y10 y11 y12 y13 y14 y15 y16, LeO (check_static.j2 k y0 y1 y2 y3 y4 y5 y6 y7 y8 y9 y10 y11 y12 y13 y14 y15 y16) (check_static.j2 (k + 1) y0 y1 y2 y3 y4 y5 y6 y7 y8 y9 y10 y11 y12 y13 y14 y15 y16)) ∧ (∀ y0 y1 y2 y3 y4 y5 y6 y7 y8 y9 y10 y11 y12 y13 y14 y15, LeO (check_static.j3 k y0 y1 y2 y3 y4 y5 y6 y7 y8 y9 y10 y11 y12 y13 y14 y15) (check_static.j3 (k + 1) y0 y1 y2 y3 y4 y5 y6 y7 y8 y9 y10 y11 y12 y13 y14 y15))
  | 0 => ⟨fun _ _ _ _ _ _ _ _ _ _ _ r h => by simp [check_static.l0] at h, fun _ _ _ _ _ _ _ _ _ _ _ _ _ _ _ _ _ r h => by simp [check_static.j1] at h, fun _ _ _ _ _ _ _ _ _ _ _ _ _ _ _ _ _ r h => by simp [check_static.j2] at h, fun _ _ _ _ _ _ _ _ _ _ _ _ _ _ _ _ r h => by simp [check_static.j3] at h⟩
  | k + 1 => by
    obtain ⟨ih0, ih1, ih2, ih3⟩ := check_static.mono_l k
    refine ⟨?_, ?_, ?_, ?_⟩ <;> intros <;> (first | unfold check_static.l0 | unfold check_static.j1 | unfold check_static.j2 | unfold check_static.j3) <;>
      (repeat' first
      | (with_reducible exact ih0 _ _ _ _ _ _ _ _ _ _ _)
      | (with_reducible exact ih1 _ _ _ _ _ _ _ _ _ _ _ _ _ _ _ _ _)
      | (with_reducible exact ih2 _ _ _ _ _ _ _ _ _ _ _ _ _ _ _ _ _)
      | (with_reducible exact ih3 _ _ _ _ _ _ _ _ _ _ _ _ _ _ _ _)
      | (with_reducible exact check_Effect.mono _ _ _ _ _ _ _)
      | (with_reducible exact LeO.refl _)
      | (with_reducible exact LeO.none _)
      | (with_reducible refine LeO.ite ?_ ?_)
      | (with_reducible refine LeO.bind ?_ (fun _ => ?_))
      | exact ih0 _ _ _ _ _ _ _ _ _ _ _
      | exact ih1 _ _ _ _ _ _ _ _ _ _ _ _ _ _ _ _ _
      | exact ih2 _ _ _ _ _ _ _ _ _ _ _ _ _ _ _ _ _
      | exact ih3 _ _ _ _ _ _ _ _ _ _ _ _ _ _ _ _
      | exact check_Effect.mono _ _ _ _ _ _ _
      | exact LeO.none _
      | refine LeO.ite ?_ ?_
      | refine LeO.bind ?_ (fun _ => ?_))
theorem check_static.mono : ∀ a0 a1 a2 a3 k, LeO (check_static.f k a0 a1 a2 a3) (check_static.f (k + 1) a0 a1 a2 a3) := by
  intro a0 a1 a2 a3 k; obtain ⟨ih0, ih1, ih2, ih3⟩ := check_static.mono_l k
  unfold check_static.f
  repeat' first
      | (with_reducible exact ih0 _ _ _ _ _ _ _ _ _ _ _)
      | (with_reducible exact ih1 _ _ _ _ _ _ _ _ _ _ _ _ _ _ _ _ _)
      | (with_reducible exact ih2 _ _ _ _ _ _ _ _ _ _ _ _ _ _ _ _ _)
      | (with_reducible exact ih3 _ _ _ _ _ _ _ _ _ _ _ _ _ _ _ _)
      | (with_reducible exact check_Effect.mono _ _ _ _ _ _ _)
      | (with_reducible exact LeO.refl _)
      | (with_reducible exact LeO.none _)
      | (with_reducible refine LeO.ite ?_ ?_)
      | (with_reducible refine LeO.bind ?_ (fun _ => ?_))
      | exact ih0 _ _ _ _ _ _ _ _ _ _ _
      | exact ih1 _ _ _ _ _ _ _ _ _ _ _ _ _ _ _ _ _
      | exact ih2 _ _ _ _ _ _ _ _ _ _ _ _ _ _ _ _ _
      | exact ih3 _ _ _ _ _ _ _ _ _ _ _ _ _ _ _ _
      | exact check_Effect.mono _ _ _ _ _ _ _
      | exact LeO.none _
      | refine LeO.ite ?_ ?_
      | refine LeO.bind ?_ (fun _ => ?_)
set_option maxHeartbeats 8000000 in
set_option maxRecDepth 100000 in
theorem check_static.calls (k : Nat) (a0_0 : Int) (A0_1 : Option Addr) (c0_1 : Nat) (l0_1 : List Int) (A0_2 : Option Addr) (c0_2 : Nat) (l0_2 : List (S42)) (a1 : Int) (r : Int) (w : World) (hr0_1 : Kd.C (Kd.int .u8) w A0_1 l0_1.length l0_1) (hc0_1 : l0_1.length ≤ c0_1) (hr0_2 : Kd.C k42 w A0_2 l0_2.length l0_2) (hc0_2 : l0_2.length ≤ c0_2) (h : check_static.f k a0_0 l0_1 l0_2 a1 = some r) :
    Calls Try.prog 20 #[.agg #[.int .i64 a0_0, .slice A0_1 l0_1.length c0_1, .slice A0_2 l0_2.length c0_2], .int .i64 a1] w fun e w' => e = .returned (.int .i64 r) ∧ Below w.heap.size w w' := by
  have hu25 := Try.underlying25; have hu42 := Try.underlying42; have hu46 := Try.underlying46; have HR0_1 := Aside0.mk hr0_1; have HC0_1 := Aside0.mk hc0_1; clear hr0_1 hc0_1; have HR0_2 := Aside0.mk hr0_2; have HC0_2 := Aside0.mk hc0_2; clear hr0_2 hc0_2; have HB := Aside0.mk (Below.refl w.heap.size w); have H : (if 0 ≤ a1 then (if a1 < (l0_2.length : Int) then (check_static.l0 k a1 ((rd_T42 l0_2 a1).f3) (((rd_T42 l0_2 a1).f3).length : Int) 0 a0_0 l0_1 l0_2 ((rd_T42 l0_2 a1).f0) ((rd_T42 l0_2 a1).f1) ((rd_T42 l0_2 a1).f2) ((rd_T42 l0_2 a1).f3)) else (none)) else (none)) = some r := h; clear h
  by_cases c3 : 0 ≤ a1
  case neg => rw [if_neg c3] at H; exact absurd H (by simp)
  rw [if_pos c3] at H; have c3b0 : decide (0 ≤ a1) = true := decide_eq_true c3; clear c3
  by_cases c4 : a1 < (l0_2.length : Int)
  case neg => rw [if_neg c4] at H; exact absurd H (by simp)
  rw [if_pos c4] at H; have c4b0 : decide (a1 < (l0_2.length : Int)) = true := decide_eq_true c4; clear c4; have H' := Aside0.mk H; clear H
  go_enter Try.func20, Try.ntmps20
  go_wp2_with (first | ((with_reducible refine gate_dst (N := 2) rfl ?_); (try (refine gate_guard (by rfl) ?_; dsimp only)); refine box_event ?hg (N := 2) ?hd (cs := #[.int .i64 a0_0, .slice A0_1 l0_1.length c0_1, .slice A0_2 l0_2.length c0_2]) (t := 25) ?hr ?_; (case hd => rfl); (case hg => rfl); (case hr => first | (go_simp; done) | (go_simp; rfl)); intro gb156 hg w5 hbox hb; have n0_ := Aside0.mk (below_step (bn0 HB) hb); have BK156 := Aside0.mk (hbox); have GW156 := Aside0.mk ((by rw [hg]; exact (below_size (bn0 HB)) : w.heap.size ≤ gb156)); have GE156 := Aside0.mk ((by rw [hg]; exact (below_size (bn0 HB)) : w.heap.size ≤ gb156)); replace HB := n0_; clear n0_; clear hb hbox hg; obtain ⟨hcz6_0, hcz6_1, hcz6_2⟩ := cells3 BK156.out; obtain ⟨hfz6_0, hfz6_1, hfz6_2⟩ := froz3 BK156.out; have p157 : 0 ≤ (a1 : Int) := of_decide_eq_true (by first | (with_reducible assumption) | assumption); have q157 : a1 < (l0_2.length : Int) := of_decide_eq_true (by first | (with_reducible assumption) | assumption); obtain ⟨ad157, A157_3, c157_3, e157, hx157_0, hx157_1, hx157_2, hx157_3, hl157_3, hi157_3⟩ := at_T42 HR0_2.out a1 p157 q157; cases e157; replace hx157_0 := (HB.out.cell (World.block_lt_of_cell? w _ hx157_0)).trans hx157_0; replace hx157_1 := (HB.out.cell (World.block_lt_of_cell? w _ hx157_1)).trans hx157_1; replace hx157_2 := (HB.out.cell (World.block_lt_of_cell? w _ hx157_2)).trans hx157_2; replace hx157_3 := (HB.out.cell (World.block_lt_of_cell? w _ hx157_3)).trans hx157_3; have HR157_3 := Aside0.mk hi157_3; have HC157_3 := Aside0.mk hl157_3; clear hi157_3 hl157_3; replace p157 := eq_true p157; replace q157 := eq_true q157) | ((with_reducible refine gate_dst (N := 5) rfl ?_); (try (refine gate_guard (by rfl) ?_; dsimp only)); refine box_event ?hg (N := 5) ?hd (cs := #[.int .i64 0, .int .i64 0, .int .i64 0, .slice none 0 0]) (t := 42) ?hr ?_; (case hd => rfl); (case hg => rfl); (case hr => first | (go_simp; done) | (go_simp; rfl)); intro gb158 hg w7 hbox hb; have n0_ := Aside0.mk (blk_below (g := gb156) (o := .cells #[.int .i64 a0_0, .slice A0_1 l0_1.length c0_1, .slice (some ad157) l0_2.length c0_2] 25 (0, 0)) (bkn BK156) hb); have n1_ := Aside0.mk (below_step (bn1 HB GE156) hb); have BK158 := Aside0.mk (hbox); have GW158 := Aside0.mk ((by rw [hg]; exact (below_size (bn1 HB GE156)) : w.heap.size ≤ gb158)); have GE158 := Aside0.mk ((by rw [hg]; exact (below_size (bn1 HB GE156)) : w.heap.size ≤ gb158)); have NB156_158 := Aside0.mk ((by rw [hg]; exact Nat.ne_of_lt (blk_lt (g := gb156) (o := .cells #[.int .i64 a0_0, .slice A0_1 l0_1.length c0_1, .slice (some ad157) l0_2.length c0_2] 25 (0, 0)) (bkn BK156)) : gb156 ≠ gb158)); have NB158_156 := Aside0.mk ((by rw [hg]; exact Nat.ne_of_gt (blk_lt (g := gb156) (o := .cells #[.int .i64 a0_0, .slice A0_1 l0_1.length c0_1, .slice (some ad157) l0_2.length c0_2] 25 (0, 0)) (bkn BK156)) : gb158 ≠ gb156)); replace BK156 := n0_; replace HB := n1_; clear n0_ n1_; clear hb hbox hg; have hnb8 := NB158_156.out; have hnc8 := NB156_158.out; obtain ⟨hcz9_0, hcz9_1, hcz9_2, hcz9_3⟩ := cells4 BK158.out; obtain ⟨hfz9_0, hfz9_1, hfz9_2, hfz9_3⟩ := froz4 BK158.out))
  go_loopg [17] k (fun kq v17 w' => ∃ (x17_1 : Int), v17 = .int .i64 x17_1 ∧ Aside0 (check_static.l0 kq a1 ((rd_T42 l0_2 a1).f3) (((rd_T42 l0_2 a1).f3).length : Int) x17_1 a0_0 l0_1 l0_2 ((rd_T42 l0_2 a1).f0) ((rd_T42 l0_2 a1).f1) ((rd_T42 l0_2 a1).f2) ((rd_T42 l0_2 a1).f3) = some r) ∧ Aside0 (kq ≤ k) ∧ Aside0 (w'.heap[gb156]? = some (.cells #[.int .i64 a0_0, (.slice A0_1 l0_1.length c0_1), (.slice (some ad157) l0_2.length c0_2)] 25 (0, 0))) ∧ Aside0 (w'.heap[gb158]? = some (.cells #[.int .i64 ((rd_T42 l0_2 a1).f0), .int .i64 ((rd_T42 l0_2 a1).f1), .int .i64 ((rd_T42 l0_2 a1).f2), (.slice A157_3 ((rd_T42 l0_2 a1).f3).length c157_3)] 42 (0, 0))) ∧ Aside0 (Below w.heap.size w w'))
  case atStart => exact ⟨(0), (by first | rfl | (simp; done) | (simp [*]; done)), H', ⟨Nat.le_refl _⟩, ⟨by (with_reducible repeat (first | refine blk_drewN ?_ _ | refine blk_drew ?_ | refine blk_alloc ?_ _)); refine blk_far ?_ NB156_158.out _; (with_reducible repeat (first | refine blk_drewN ?_ _ | refine blk_drew ?_ | refine blk_alloc ?_ _)); refine blk_far ?_ NB156_158.out _; (with_reducible repeat (first | refine blk_drewN ?_ _ | refine blk_drew ?_ | refine blk_alloc ?_ _)); refine blk_far ?_ NB156_158.out _; (with_reducible repeat (first | refine blk_drewN ?_ _ | refine blk_drew ?_ | refine blk_alloc ?_ _)); refine blk_far ?_ NB156_158.out _; (with_reducible repeat (first | refine blk_drewN ?_ _ | refine blk_drew ?_ | refine blk_alloc ?_ _)); exact BK156.out⟩, ⟨by (with_reducible repeat (first | refine blk_drewN ?_ _ | refine blk_drew ?_ | refine blk_alloc ?_ _)); refine blk_put (cs := #[.int .i64 ((rd_T42 l0_2 a1).f0), .int .i64 ((rd_T42 l0_2 a1).f1), .int .i64 ((rd_T42 l0_2 a1).f2), .slice none 0 0]) ?_ 3 _ rfl; (with_reducible repeat (first | refine blk_drewN ?_ _ | refine blk_drew ?_ | refine blk_alloc ?_ _)); refine blk_put (cs := #[.int .i64 ((rd_T42 l0_2 a1).f0), .int .i64 ((rd_T42 l0_2 a1).f1), .int .i64 0, .slice none 0 0]) ?_ 2 _ rfl; (with_reducible repeat (first | refine blk_drewN ?_ _ | refine blk_drew ?_ | refine blk_alloc ?_ _)); refine blk_put (cs := #[.int .i64 ((rd_T42 l0_2 a1).f0), .int .i64 0, .int .i64 0, .slice none 0 0]) ?_ 1 _ rfl; (with_reducible repeat (first | refine blk_drewN ?_ _ | refine blk_drew ?_ | refine blk_alloc ?_ _)); refine blk_put (cs := #[.int .i64 0, .int .i64 0, .int .i64 0, .slice none 0 0]) ?_ 0 _ rfl; (with_reducible repeat (first | refine blk_drewN ?_ _ | refine blk_drew ?_ | refine blk_alloc ?_ _)); exact BK158.out⟩, ⟨bn2 HB GE156 GE158⟩⟩
  case round =>
    clear H'
    try clear c1
    try clear p1
    try clear q1
    try clear hx1
    try clear c2
    try clear p2
    try clear c3
    try clear c3b0
    try clear c4
    try clear c4b0
    try clear c8
    try clear hcz6_0
    try clear hcz6_1
    try clear hcz6_2
    try clear hcz9_0
    try clear hcz9_1
    try clear hcz9_2
    try clear hcz9_3
    try clear hfz6_0
    try clear hfz6_1
    try clear hfz6_2
    try clear hfz9_0
    try clear hfz9_1
    try clear hfz9_2
    try clear hfz9_3
    try clear hx157_0
    try clear hx157_1
    try clear hx157_2
    try clear hx157_3
    try clear p157
    try clear q157
    obtain ⟨x17_1, rfl, HA, HK1, BK156, BK158, HB⟩ := hrel
    cases gk with
    | zero => exact absurd HA.out (by simp [check_static.l0])
    | succ k1 => ?_
    have H := HA.out; clear HA; simp only [check_static.l0] at H
    by_cases c10 : x17_1 < (((rd_T42 l0_2 a1).f3).length : Int)
    · rw [if_pos c10] at H
      have c10b0 : decide (x17_1 < (((rd_T42 l0_2 a1).f3).length : Int)) = true := decide_eq_true c10; clear c10
      by_cases c11 : 0 ≤ x17_1
      case neg => rw [if_neg c11] at H; exact absurd H (by simp)
      rw [if_pos c11] at H; have c11b0 : decide (0 ≤ x17_1) = true := decide_eq_true c11; clear c11
      by_cases c12 : x17_1 < (((rd_T42 l0_2 a1).f3).length : Int)
      case neg => rw [if_neg c12] at H; exact absurd H (by simp)
      rw [if_pos c12] at H; have c12b0 : decide (x17_1 < (((rd_T42 l0_2 a1).f3).length : Int)) = true := decide_eq_true c12; clear c12; have HC13 := Aside0.mk H; clear H; have p159 : 0 ≤ (x17_1 : Int) := of_decide_eq_true (by first | (with_reducible assumption) | assumption); have q159 : x17_1 < (((rd_T42 l0_2 a1).f3).length : Int) := of_decide_eq_true (by first | (with_reducible assumption) | assumption); obtain ⟨ad159, e159, hx159_0, hx159_1⟩ := at_T46 HR157_3.out x17_1 p159 q159
      cases e159
      replace hx159_0 := (HB.out.cell (World.block_lt_of_cell? w _ hx159_0)).trans hx159_0; replace hx159_1 := (HB.out.cell (World.block_lt_of_cell? w _ hx159_1)).trans hx159_1; replace p159 := eq_true p159; replace q159 := eq_true q159
      go_upto_if 24 with (first | ((with_reducible refine gate_dst (N := 7) rfl ?_); (try (refine gate_guard (by rfl) ?_; dsimp only)); refine box_event ?hg (N := 7) ?hd (cs := #[.int .i64 0, .int .i64 0]) (t := 46) ?hr ?_; (case hd => rfl); (case hg => rfl); (case hr => first | (go_simp; done) | (go_simp; rfl)); intro gb160 hg w14 hbox hb; have n0_ := Aside0.mk (blk_below (g := gb156) (o := .cells #[.int .i64 a0_0, .slice A0_1 l0_1.length c0_1, .slice (some ad157) l0_2.length c0_2] 25 (0, 0)) (bkn BK156) hb); have n1_ := Aside0.mk (blk_below (g := gb158) (o := .cells #[.int .i64 ((rd_T42 l0_2 a1).f0), .int .i64 ((rd_T42 l0_2 a1).f1), .int .i64 ((rd_T42 l0_2 a1).f2), .slice (some ad159) ((rd_T42 l0_2 a1).f3).length c157_3] 42 (0, 0)) (bkn BK158) hb); have n2_ := Aside0.mk (below_step (bn2 HB GE156 GE158) hb); have BK160 := Aside0.mk (hbox); have GW160 := Aside0.mk ((by rw [hg]; exact (below_size (bn2 HB GE156 GE158)) : w.heap.size ≤ gb160)); have GE160 := Aside0.mk ((by rw [hg]; exact (below_size (bn2 HB GE156 GE158)) : w.heap.size ≤ gb160)); have NB156_160 := Aside0.mk ((by rw [hg]; exact Nat.ne_of_lt (blk_lt (g := gb156) (o := .cells #[.int .i64 a0_0, .slice A0_1 l0_1.length c0_1, .slice (some ad157) l0_2.length c0_2] 25 (0, 0)) (bkn BK156)) : gb156 ≠ gb160)); have NB160_156 := Aside0.mk ((by rw [hg]; exact Nat.ne_of_gt (blk_lt (g := gb156) (o := .cells #[.int .i64 a0_0, .slice A0_1 l0_1.length c0_1, .slice (some ad157) l0_2.length c0_2] 25 (0, 0)) (bkn BK156)) : gb160 ≠ gb156)); have NB158_160 := Aside0.mk ((by rw [hg]; exact Nat.ne_of_lt (blk_lt (g := gb158) (o := .cells #[.int .i64 ((rd_T42 l0_2 a1).f0), .int .i64 ((rd_T42 l0_2 a1).f1), .int .i64 ((rd_T42 l0_2 a1).f2), .slice (some ad159) ((rd_T42 l0_2 a1).f3).length c157_3] 42 (0, 0)) (bkn BK158)) : gb158 ≠ gb160)); have NB160_158 := Aside0.mk ((by rw [hg]; exact Nat.ne_of_gt (blk_lt (g := gb158) (o := .cells #[.int .i64 ((rd_T42 l0_2 a1).f0), .int .i64 ((rd_T42 l0_2 a1).f1), .int .i64 ((rd_T42 l0_2 a1).f2), .slice (some ad159) ((rd_T42 l0_2 a1).f3).length c157_3] 42 (0, 0)) (bkn BK158)) : gb160 ≠ gb158)); replace BK156 := n0_; replace BK158 := n1_; replace HB := n2_; clear n0_ n1_ n2_; clear hb hbox hg; have hnb15 := NB160_156.out; have hnc15 := NB156_160.out; have hnb16 := NB160_158.out; have hnc16 := NB158_160.out; obtain ⟨hcz17_0, hcz17_1⟩ := cells2 BK160.out; obtain ⟨hfz17_0, hfz17_1⟩ := froz2 BK160.out))
      (try simp only [Act.put, List.setIfInBounds_toArray, List.set_cons_zero, List.set_cons_succ])
      go_cut [24] (fun v24 wc => ∃ (kq : Nat) (x24_12 : Bool), v24 = .bool x24_12 ∧ Aside0 (check_static.j1 kq a1 x17_1 true ((rd_T42 l0_2 a1).f3) (((rd_T42 l0_2 a1).f3).length : Int) x17_1 ((rd_T46 ((rd_T42 l0_2 a1).f3) x17_1).f0) x24_12 a0_0 l0_1 l0_2 ((rd_T42 l0_2 a1).f0) ((rd_T42 l0_2 a1).f1) ((rd_T42 l0_2 a1).f2) ((rd_T42 l0_2 a1).f3) ((rd_T46 ((rd_T42 l0_2 a1).f3) x17_1).f0) ((rd_T46 ((rd_T42 l0_2 a1).f3) x17_1).f1) = some r) ∧ Aside0 (kq ≤ k1) ∧ Aside0 (wc.heap[gb156]? = some (.cells #[.int .i64 a0_0, (.slice A0_1 l0_1.length c0_1), (.slice (some ad157) l0_2.length c0_2)] 25 (0, 0))) ∧ Aside0 (wc.heap[gb158]? = some (.cells #[.int .i64 ((rd_T42 l0_2 a1).f0), .int .i64 ((rd_T42 l0_2 a1).f1), .int .i64 ((rd_T42 l0_2 a1).f2), (.slice (some ad159) ((rd_T42 l0_2 a1).f3).length c157_3)] 42 (0, 0))) ∧ Aside0 (wc.heap[gb160]? = some (.cells #[.int .i64 ((rd_T46 ((rd_T42 l0_2 a1).f3) x17_1).f0), .int .i64 ((rd_T46 ((rd_T42 l0_2 a1).f3) x17_1).f1)] 46 (0, 0))) ∧ Aside0 (Below w.heap.size w wc))
      case first =>
        have H := HC13.out; clear HC13
        by_cases c18 : ((rd_T46 ((rd_T42 l0_2 a1).f3) x17_1).f0) = 5
        · rw [if_pos c18] at H
          have c18b0 : (((rd_T46 ((rd_T42 l0_2 a1).f3) x17_1).f0) == 5) = true := beq_iff_eq.mpr c18; have c18b1 : (((rd_T46 ((rd_T42 l0_2 a1).f3) x17_1).f0) != 5) = false := bne_eq_false_iff_eq.mpr c18; clear c18
          (first | rw [c18b0] | (simp only [i64_w, i32_w]; rw [c18b0]) | skip)
          have H' := Aside0.mk H; clear H
          go_wp2
          go_meet
          case rel => exact ⟨_, ((((rd_T46 ((rd_T42 l0_2 a1).f3) x17_1).f0) == 5)), (by first | rfl | (simp; done) | (simp [*]; done)), H', ⟨by have := HK1.out; first | omega | exact Nat.le_refl _⟩, ⟨by (with_reducible repeat (first | refine blk_drewN ?_ _ | refine blk_drew ?_ | refine blk_alloc ?_ _)); refine blk_far ?_ NB156_160.out _; (with_reducible repeat (first | refine blk_drewN ?_ _ | refine blk_drew ?_ | refine blk_alloc ?_ _)); refine blk_far ?_ NB156_160.out _; (with_reducible repeat (first | refine blk_drewN ?_ _ | refine blk_drew ?_ | refine blk_alloc ?_ _)); exact BK156.out⟩, ⟨by (with_reducible repeat (first | refine blk_drewN ?_ _ | refine blk_drew ?_ | refine blk_alloc ?_ _)); refine blk_far ?_ NB158_160.out _; (with_reducible repeat (first | refine blk_drewN ?_ _ | refine blk_drew ?_ | refine blk_alloc ?_ _)); refine blk_far ?_ NB158_160.out _; (with_reducible repeat (first | refine blk_drewN ?_ _ | refine blk_drew ?_ | refine blk_alloc ?_ _)); exact BK158.out⟩, ⟨by (with_reducible repeat (first | refine blk_drewN ?_ _ | refine blk_drew ?_ | refine blk_alloc ?_ _)); refine blk_put (cs := #[.int .i64 ((rd_T46 ((rd_T42 l0_2 a1).f3) x17_1).f0), .int .i64 0]) ?_ 1 _ rfl; (with_reducible repeat (first | refine blk_drewN ?_ _ | refine blk_drew ?_ | refine blk_alloc ?_ _)); refine blk_put (cs := #[.int .i64 0, .int .i64 0]) ?_ 0 _ rfl; (with_reducible repeat (first | refine blk_drewN ?_ _ | refine blk_drew ?_ | refine blk_alloc ?_ _)); exact BK160.out⟩, ⟨bn3 HB GE156 GE158 GE160⟩⟩
        · rw [if_neg c18] at H
          have c18b0 : (((rd_T46 ((rd_T42 l0_2 a1).f3) x17_1).f0) == 5) = false := beq_eq_false_iff_ne.mpr c18; have c18b1 : (((rd_T46 ((rd_T42 l0_2 a1).f3) x17_1).f0) != 5) = true := bne_iff_ne.mpr c18
          (first | rw [c18b0] | (simp only [i64_w, i32_w]; rw [c18b0]) | skip)
          have H' := Aside0.mk H; clear H
          go_wp2
          go_meet
          case rel => exact ⟨_, ((((rd_T46 ((rd_T42 l0_2 a1).f3) x17_1).f0) == 6)), (by first | rfl | (simp; done) | (simp [*]; done)), H', ⟨by have := HK1.out; first | omega | exact Nat.le_refl _⟩, ⟨by (with_reducible repeat (first | refine blk_drewN ?_ _ | refine blk_drew ?_ | refine blk_alloc ?_ _)); refine blk_far ?_ NB156_160.out _; (with_reducible repeat (first | refine blk_drewN ?_ _ | refine blk_drew ?_ | refine blk_alloc ?_ _)); refine blk_far ?_ NB156_160.out _; (with_reducible repeat (first | refine blk_drewN ?_ _ | refine blk_drew ?_ | refine blk_alloc ?_ _)); exact BK156.out⟩, ⟨by (with_reducible repeat (first | refine blk_drewN ?_ _ | refine blk_drew ?_ | refine blk_alloc ?_ _)); refine blk_far ?_ NB158_160.out _; (with_reducible repeat (first | refine blk_drewN ?_ _ | refine blk_drew ?_ | refine blk_alloc ?_ _)); refine blk_far ?_ NB158_160.out _; (with_reducible repeat (first | refine blk_drewN ?_ _ | refine blk_drew ?_ | refine blk_alloc ?_ _)); exact BK158.out⟩, ⟨by (with_reducible repeat (first | refine blk_drewN ?_ _ | refine blk_drew ?_ | refine blk_alloc ?_ _)); refine blk_put (cs := #[.int .i64 ((rd_T46 ((rd_T42 l0_2 a1).f3) x17_1).f0), .int .i64 0]) ?_ 1 _ rfl; (with_reducible repeat (first | refine blk_drewN ?_ _ | refine blk_drew ?_ | refine blk_alloc ?_ _)); refine blk_put (cs := #[.int .i64 0, .int .i64 0]) ?_ 0 _ rfl; (with_reducible repeat (first | refine blk_drewN ?_ _ | refine blk_drew ?_ | refine blk_alloc ?_ _)); exact BK160.out⟩, ⟨bn3 HB GE156 GE158 GE160⟩⟩
      case rest =>
        clear HC13
        try clear c1
        try clear p1
        try clear q1
        try clear hx1
        try clear c2
        try clear p2
        try clear c3
        try clear c3b0
        try clear c4
        try clear c4b0
        try clear c8
        try clear c10
        try clear c10b0
        try clear c11
        try clear c11b0
        try clear c12
        try clear c12b0
        try clear c15
        try clear p15
        try clear q15
        try clear hx15
        try clear c16
        try clear c18
        try clear c18b0
        try clear c18b1
        try clear hcz17_0
        try clear hcz17_1
        try clear hcz6_0
        try clear hcz6_1
        try clear hcz6_2
        try clear hcz9_0
        try clear hcz9_1
        try clear hcz9_2
        try clear hcz9_3
        try clear hfz17_0
        try clear hfz17_1
        try clear hfz6_0
        try clear hfz6_1
        try clear hfz6_2
        try clear hfz9_0
        try clear hfz9_1
        try clear hfz9_2
        try clear hfz9_3
        try clear hx157_0
        try clear hx157_1
        try clear hx157_2
        try clear hx157_3
        try clear hx159_0
        try clear hx159_1
        try clear p1
        try clear p157
        try clear p159
        try clear p2
        try clear q1
        try clear q157
        try clear q159
        obtain ⟨kq, x24_12, rfl, HA, HJ12, BK156, BK158, BK160, HB⟩ := hcut
        cases kq with
        | zero => exact absurd HA.out (by simp [check_static.j1])
        | succ kj12 => ?_
        have H := HA.out; clear HA; simp only [check_static.j1] at H
        by_cases c19 : x24_12 = true
        · subst c19
          have H1 : (if ((rd_T46 ((rd_T42 l0_2 a1).f3) x17_1).f1) ≥ 0 then (if (((rd_T46 ((rd_T42 l0_2 a1).f3) x17_1).f1) < (wrap64 (((rd_T42 l0_2 a1).f0) + ((rd_T42 l0_2 a1).f2)))) then (check_static.l0 kj12 a1 ((rd_T42 l0_2 a1).f3) (((rd_T42 l0_2 a1).f3).length : Int) (wrap64 (x17_1 + 1)) a0_0 l0_1 l0_2 ((rd_T42 l0_2 a1).f0) ((rd_T42 l0_2 a1).f1) ((rd_T42 l0_2 a1).f2) ((rd_T42 l0_2 a1).f3)) else (some x17_1)) else (some x17_1)) = some r := by rw [if_pos rfl] at H; exact H
          clear H; have H := H1; clear H1
          by_cases c20 : ((rd_T46 ((rd_T42 l0_2 a1).f3) x17_1).f1) ≥ 0
          · rw [if_pos c20] at H
            have c20b0 : decide (0 ≤ ((rd_T46 ((rd_T42 l0_2 a1).f3) x17_1).f1)) = true := decide_eq_true c20; clear c20
            by_cases c21 : (((rd_T46 ((rd_T42 l0_2 a1).f3) x17_1).f1) < (wrap64 (((rd_T42 l0_2 a1).f0) + ((rd_T42 l0_2 a1).f2))))
            · rw [if_pos c21] at H
              have c21b0 : decide (((rd_T46 ((rd_T42 l0_2 a1).f3) x17_1).f1) < (wrap64 (((rd_T42 l0_2 a1).f0) + ((rd_T42 l0_2 a1).f2)))) = true := decide_eq_true c21; clear c21; have H' := Aside0.mk H; clear H; have hnb22 := NB160_156.out; have hnc22 := NB156_160.out; have hnb23 := NB160_158.out; have hnc23 := NB158_160.out; obtain ⟨hcz24_0, hcz24_1⟩ := cells2 BK160.out; obtain ⟨hfz24_0, hfz24_1⟩ := froz2 BK160.out; have hnb25 := NB158_156.out; have hnc25 := NB156_158.out; obtain ⟨hcz26_0, hcz26_1, hcz26_2, hcz26_3⟩ := cells4 BK158.out; obtain ⟨hfz26_0, hfz26_1, hfz26_2, hfz26_3⟩ := froz4 BK158.out
              go_wp2
              go_roundg kj12
              case measure => have := HK1.out; have := HJ12.out; omega
              case rel => exact ⟨(wrap64 (x17_1 + 1)), (by first | rfl | (simp; done) | (simp [*]; done)), H', ⟨by have := HK1.out; have := HJ12.out; omega⟩, ⟨by (with_reducible repeat (first | refine blk_drewN ?_ _ | refine blk_drew ?_ | refine blk_alloc ?_ _)); exact BK156.out⟩, ⟨by (with_reducible repeat (first | refine blk_drewN ?_ _ | refine blk_drew ?_ | refine blk_alloc ?_ _)); exact BK158.out⟩, ⟨bn3 HB GE156 GE158 GE160⟩⟩
            · rw [if_neg c21] at H
              have c21b0 : decide (((rd_T46 ((rd_T42 l0_2 a1).f3) x17_1).f1) < (wrap64 (((rd_T42 l0_2 a1).f0) + ((rd_T42 l0_2 a1).f2)))) = false := decide_eq_false c21; clear c21; obtain rfl := Option.some.inj H; have hnb27 := NB160_156.out; have hnc27 := NB156_160.out; have hnb28 := NB160_158.out; have hnc28 := NB158_160.out; obtain ⟨hcz29_0, hcz29_1⟩ := cells2 BK160.out; obtain ⟨hfz29_0, hfz29_1⟩ := froz2 BK160.out; have hnb30 := NB158_156.out; have hnc30 := NB156_158.out; obtain ⟨hcz31_0, hcz31_1, hcz31_2, hcz31_3⟩ := cells4 BK158.out; obtain ⟨hfz31_0, hfz31_1, hfz31_2, hfz31_3⟩ := froz4 BK158.out
              go_wp2
              go_ret
              exact ⟨by first | rfl | (simp [errW_none, errW_some] <;> rfl) | (simp [*, errW_none, errW_some] <;> rfl), bn3 HB GE156 GE158 GE160⟩
          · rw [if_neg c20] at H
            have c20b0 : decide (0 ≤ ((rd_T46 ((rd_T42 l0_2 a1).f3) x17_1).f1)) = false := decide_eq_false c20; clear c20; obtain rfl := Option.some.inj H; have hnb32 := NB160_156.out; have hnc32 := NB156_160.out; have hnb33 := NB160_158.out; have hnc33 := NB158_160.out; obtain ⟨hcz34_0, hcz34_1⟩ := cells2 BK160.out; obtain ⟨hfz34_0, hfz34_1⟩ := froz2 BK160.out
            go_wp2
            go_ret
            exact ⟨by first | rfl | (simp [errW_none, errW_some] <;> rfl) | (simp [*, errW_none, errW_some] <;> rfl), bn3 HB GE156 GE158 GE160⟩
        · replace c19 := Bool.eq_false_iff.mpr c19
          subst c19
          have H1 : (if ((rd_T46 ((rd_T42 l0_2 a1).f3) x17_1).f0) = 24 then (check_static.j2 kj12 a1 x17_1 true ((rd_T42 l0_2 a1).f3) (((rd_T42 l0_2 a1).f3).length : Int) x17_1 ((rd_T46 ((rd_T42 l0_2 a1).f3) x17_1).f0) (((rd_T46 ((rd_T42 l0_2 a1).f3) x17_1).f0) == 24) a0_0 l0_1 l0_2 ((rd_T42 l0_2 a1).f0) ((rd_T42 l0_2 a1).f1) ((rd_T42 l0_2 a1).f2) ((rd_T42 l0_2 a1).f3) ((rd_T46 ((rd_T42 l0_2 a1).f3) x17_1).f0) ((rd_T46 ((rd_T42 l0_2 a1).f3) x17_1).f1)) else (check_static.j2 kj12 a1 x17_1 true ((rd_T42 l0_2 a1).f3) (((rd_T42 l0_2 a1).f3).length : Int) x17_1 ((rd_T46 ((rd_T42 l0_2 a1).f3) x17_1).f0) (((rd_T46 ((rd_T42 l0_2 a1).f3) x17_1).f0) == 25) a0_0 l0_1 l0_2 ((rd_T42 l0_2 a1).f0) ((rd_T42 l0_2 a1).f1) ((rd_T42 l0_2 a1).f2) ((rd_T42 l0_2 a1).f3) ((rd_T46 ((rd_T42 l0_2 a1).f3) x17_1).f0) ((rd_T46 ((rd_T42 l0_2 a1).f3) x17_1).f1))) = some r := by rw [if_neg (show ¬ (false = true) by decide)] at H; exact H
          clear H; have H := H1; clear H1; have HC35 := Aside0.mk H; clear H
          go_upto_if 40 with (fail)
          go_cut [40] (fun v40 wc => ∃ (kq : Nat) (x40_34 : Bool), v40 = .bool x40_34 ∧ Aside0 (check_static.j2 kq a1 x17_1 true ((rd_T42 l0_2 a1).f3) (((rd_T42 l0_2 a1).f3).length : Int) x17_1 ((rd_T46 ((rd_T42 l0_2 a1).f3) x17_1).f0) x40_34 a0_0 l0_1 l0_2 ((rd_T42 l0_2 a1).f0) ((rd_T42 l0_2 a1).f1) ((rd_T42 l0_2 a1).f2) ((rd_T42 l0_2 a1).f3) ((rd_T46 ((rd_T42 l0_2 a1).f3) x17_1).f0) ((rd_T46 ((rd_T42 l0_2 a1).f3) x17_1).f1) = some r) ∧ Aside0 (kq ≤ kj12) ∧ Aside0 (wc.heap[gb156]? = some (.cells #[.int .i64 a0_0, (.slice A0_1 l0_1.length c0_1), (.slice (some ad157) l0_2.length c0_2)] 25 (0, 0))) ∧ Aside0 (wc.heap[gb158]? = some (.cells #[.int .i64 ((rd_T42 l0_2 a1).f0), .int .i64 ((rd_T42 l0_2 a1).f1), .int .i64 ((rd_T42 l0_2 a1).f2), (.slice (some ad159) ((rd_T42 l0_2 a1).f3).length c157_3)] 42 (0, 0))) ∧ Aside0 (wc.heap[gb160]? = some (.cells #[.int .i64 ((rd_T46 ((rd_T42 l0_2 a1).f3) x17_1).f0), .int .i64 ((rd_T46 ((rd_T42 l0_2 a1).f3) x17_1).f1)] 46 (0, 0))) ∧ Aside0 (Below w.heap.size w wc))
          case first =>
            have H := HC35.out; clear HC35
            by_cases c36 : ((rd_T46 ((rd_T42 l0_2 a1).f3) x17_1).f0) = 24
            · rw [if_pos c36] at H
              have c36b0 : (((rd_T46 ((rd_T42 l0_2 a1).f3) x17_1).f0) == 24) = true := beq_iff_eq.mpr c36; have c36b1 : (((rd_T46 ((rd_T42 l0_2 a1).f3) x17_1).f0) != 24) = false := bne_eq_false_iff_eq.mpr c36; clear c36
              (first | rw [c36b0] | (simp only [i64_w, i32_w]; rw [c36b0]) | skip)
              have H' := Aside0.mk H; clear H
              go_wp2
              go_meet
              case rel => exact ⟨_, ((((rd_T46 ((rd_T42 l0_2 a1).f3) x17_1).f0) == 24)), (by first | rfl | (simp; done) | (simp [*]; done)), H', ⟨by have := HK1.out; have := HJ12.out; first | omega | exact Nat.le_refl _⟩, ⟨by (with_reducible repeat (first | refine blk_drewN ?_ _ | refine blk_drew ?_ | refine blk_alloc ?_ _)); exact BK156.out⟩, ⟨by (with_reducible repeat (first | refine blk_drewN ?_ _ | refine blk_drew ?_ | refine blk_alloc ?_ _)); exact BK158.out⟩, ⟨by (with_reducible repeat (first | refine blk_drewN ?_ _ | refine blk_drew ?_ | refine blk_alloc ?_ _)); exact BK160.out⟩, ⟨bn3 HB GE156 GE158 GE160⟩⟩
            · rw [if_neg c36] at H
              have c36b0 : (((rd_T46 ((rd_T42 l0_2 a1).f3) x17_1).f0) == 24) = false := beq_eq_false_iff_ne.mpr c36; have c36b1 : (((rd_T46 ((rd_T42 l0_2 a1).f3) x17_1).f0) != 24) = true := bne_iff_ne.mpr c36
              (first | rw [c36b0] | (simp only [i64_w, i32_w]; rw [c36b0]) | skip)
              have H' := Aside0.mk H; clear H
              go_wp2
              go_meet
              case rel => exact ⟨_, ((((rd_T46 ((rd_T42 l0_2 a1).f3) x17_1).f0) == 25)), (by first | rfl | (simp; done) | (simp [*]; done)), H', ⟨by have := HK1.out; have := HJ12.out; first | omega | exact Nat.le_refl _⟩, ⟨by (with_reducible repeat (first | refine blk_drewN ?_ _ | refine blk_drew ?_ | refine blk_alloc ?_ _)); exact BK156.out⟩, ⟨by (with_reducible repeat (first | refine blk_drewN ?_ _ | refine blk_drew ?_ | refine blk_alloc ?_ _)); exact BK158.out⟩, ⟨by (with_reducible repeat (first | refine blk_drewN ?_ _ | refine blk_drew ?_ | refine blk_alloc ?_ _)); exact BK160.out⟩, ⟨bn3 HB GE156 GE158 GE160⟩⟩
          case rest =>
            clear HC35
            try clear c1
            try clear p1
            try clear q1
            try clear hx1
            try clear c2
            try clear p2
            try clear c3
            try clear c3b0
            try clear c4
            try clear c4b0
            try clear p6
            try clear c8
            try clear c10
            try clear c10b0
            try clear c11
            try clear c11b0
            try clear c12
            try clear c12b0
            try clear c15
            try clear p15
            try clear q15
            try clear hx15
            try clear c16
            try clear c18
            try clear c18b0
            try clear c18b1
            try clear c19
            try clear c20
            try clear c20b0
            try clear c21
            try clear c21b0
            try clear c22
            try clear c23
            try clear c25
            try clear c27
            try clear c28
            try clear c30
            try clear c32
            try clear c33
            try clear c36
            try clear c36b0
            try clear c36b1
            try clear hcz17_0
            try clear hcz17_1
            try clear hcz24_0
            try clear hcz24_1
            try clear hcz26_0
            try clear hcz26_1
            try clear hcz26_2
            try clear hcz26_3
            try clear hcz29_0
            try clear hcz29_1
            try clear hcz31_0
            try clear hcz31_1
            try clear hcz31_2
            try clear hcz31_3
            try clear hcz34_0
            try clear hcz34_1
            try clear hcz6_0
            try clear hcz6_1
            try clear hcz6_2
            try clear hcz9_0
            try clear hcz9_1
            try clear hcz9_2
            try clear hcz9_3
            try clear hfz17_0
            try clear hfz17_1
            try clear hfz24_0
            try clear hfz24_1
            try clear hfz26_0
            try clear hfz26_1
            try clear hfz26_2
            try clear hfz26_3
            try clear hfz29_0
            try clear hfz29_1
            try clear hfz31_0
            try clear hfz31_1
            try clear hfz31_2
            try clear hfz31_3
            try clear hfz34_0
            try clear hfz34_1
            try clear hfz6_0
            try clear hfz6_1
            try clear hfz6_2
            try clear hfz9_0
            try clear hfz9_1
            try clear hfz9_2
            try clear hfz9_3
            try clear hx157_0
            try clear hx157_1
            try clear hx157_2
            try clear hx157_3
            try clear hx159_0
            try clear hx159_1
            try clear p1
            try clear p15
            try clear p157
            try clear p159
            try clear p2
            try clear q1
            try clear q15
            try clear q157
            try clear q159
            obtain ⟨kq, x40_34, rfl, HA, HJ34, BK156, BK158, BK160, HB⟩ := hcut
            cases kq with
            | zero => exact absurd HA.out (by simp [check_static.j2])
            | succ kj34 => ?_
            have H := HA.out; clear HA; simp only [check_static.j2] at H
            by_cases c37 : x40_34 = true
            · subst c37
              have H1 : (if ((rd_T46 ((rd_T42 l0_2 a1).f3) x17_1).f1) ≥ 0 then (if (((rd_T46 ((rd_T42 l0_2 a1).f3) x17_1).f1) < (((rd_T42 l0_2 a1).f3).length : Int)) then (check_static.l0 kj34 a1 ((rd_T42 l0_2 a1).f3) (((rd_T42 l0_2 a1).f3).length : Int) (wrap64 (x17_1 + 1)) a0_0 l0_1 l0_2 ((rd_T42 l0_2 a1).f0) ((rd_T42 l0_2 a1).f1) ((rd_T42 l0_2 a1).f2) ((rd_T42 l0_2 a1).f3)) else (some x17_1)) else (some x17_1)) = some r := by rw [if_pos rfl] at H; exact H
              clear H; have H := H1; clear H1
              by_cases c38 : ((rd_T46 ((rd_T42 l0_2 a1).f3) x17_1).f1) ≥ 0
              · rw [if_pos c38] at H
                have c38b0 : decide (0 ≤ ((rd_T46 ((rd_T42 l0_2 a1).f3) x17_1).f1)) = true := decide_eq_true c38; clear c38
                by_cases c39 : (((rd_T46 ((rd_T42 l0_2 a1).f3) x17_1).f1) < (((rd_T42 l0_2 a1).f3).length : Int))
                · rw [if_pos c39] at H
                  have c39b0 : decide (((rd_T46 ((rd_T42 l0_2 a1).f3) x17_1).f1) < (((rd_T42 l0_2 a1).f3).length : Int)) = true := decide_eq_true c39; clear c39; have H' := Aside0.mk H; clear H; have hnb40 := NB160_156.out; have hnc40 := NB156_160.out; have hnb41 := NB160_158.out; have hnc41 := NB158_160.out; obtain ⟨hcz42_0, hcz42_1⟩ := cells2 BK160.out; obtain ⟨hfz42_0, hfz42_1⟩ := froz2 BK160.out; have hnb43 := NB158_156.out; have hnc43 := NB156_158.out; obtain ⟨hcz44_0, hcz44_1, hcz44_2, hcz44_3⟩ := cells4 BK158.out; obtain ⟨hfz44_0, hfz44_1, hfz44_2, hfz44_3⟩ := froz4 BK158.out
                  go_wp2
                  go_roundg kj34
                  case measure => have := HK1.out; have := HJ12.out; have := HJ34.out; omega
                  case rel => exact ⟨(wrap64 (x17_1 + 1)), (by first | rfl | (simp; done) | (simp [*]; done)), H', ⟨by have := HK1.out; have := HJ12.out; have := HJ34.out; omega⟩, ⟨by (with_reducible repeat (first | refine blk_drewN ?_ _ | refine blk_drew ?_ | refine blk_alloc ?_ _)); exact BK156.out⟩, ⟨by (with_reducible repeat (first | refine blk_drewN ?_ _ | refine blk_drew ?_ | refine blk_alloc ?_ _)); exact BK158.out⟩, ⟨bn3 HB GE156 GE158 GE160⟩⟩
                · rw [if_neg c39] at H
                  have c39b0 : decide (((rd_T46 ((rd_T42 l0_2 a1).f3) x17_1).f1) < (((rd_T42 l0_2 a1).f3).length : Int)) = false := decide_eq_false c39; clear c39; obtain rfl := Option.some.inj H; have hnb45 := NB160_156.out; have hnc45 := NB156_160.out; have hnb46 := NB160_158.out; have hnc46 := NB158_160.out; obtain ⟨hcz47_0, hcz47_1⟩ := cells2 BK160.out; obtain ⟨hfz47_0, hfz47_1⟩ := froz2 BK160.out; have hnb48 := NB158_156.out; have hnc48 := NB156_158.out; obtain ⟨hcz49_0, hcz49_1, hcz49_2, hcz49_3⟩ := cells4 BK158.out; obtain ⟨hfz49_0, hfz49_1, hfz49_2, hfz49_3⟩ := froz4 BK158.out
                  go_wp2
                  go_ret
                  exact ⟨by first | rfl | (simp [errW_none, errW_some] <;> rfl) | (simp [*, errW_none, errW_some] <;> rfl), bn3 HB GE156 GE158 GE160⟩
              · rw [if_neg c38] at H
                have c38b0 : decide (0 ≤ ((rd_T46 ((rd_T42 l0_2 a1).f3) x17_1).f1)) = false := decide_eq_false c38; clear c38; obtain rfl := Option.some.inj H; have hnb50 := NB160_156.out; have hnc50 := NB156_160.out; have hnb51 := NB160_158.out; have hnc51 := NB158_160.out; obtain ⟨hcz52_0, hcz52_1⟩ := cells2 BK160.out; obtain ⟨hfz52_0, hfz52_1⟩ := froz2 BK160.out
                go_wp2
                go_ret
                exact ⟨by first | rfl | (simp [errW_none, errW_some] <;> rfl) | (simp [*, errW_none, errW_some] <;> rfl), bn3 HB GE156 GE158 GE160⟩
            · replace c37 := Bool.eq_false_iff.mpr c37
              subst c37
              have H1 : (if ((rd_T46 ((rd_T42 l0_2 a1).f3) x17_1).f0) = 26 then (check_static.j3 kj34 a1 x17_1 true ((rd_T42 l0_2 a1).f3) (((rd_T42 l0_2 a1).f3).length : Int) x17_1 (((rd_T46 ((rd_T42 l0_2 a1).f3) x17_1).f0) == 26) a0_0 l0_1 l0_2 ((rd_T42 l0_2 a1).f0) ((rd_T42 l0_2 a1).f1) ((rd_T42 l0_2 a1).f2) ((rd_T42 l0_2 a1).f3) ((rd_T46 ((rd_T42 l0_2 a1).f3) x17_1).f0) ((rd_T46 ((rd_T42 l0_2 a1).f3) x17_1).f1)) else (check_static.j3 kj34 a1 x17_1 true ((rd_T42 l0_2 a1).f3) (((rd_T42 l0_2 a1).f3).length : Int) x17_1 (((rd_T46 ((rd_T42 l0_2 a1).f3) x17_1).f0) == 28) a0_0 l0_1 l0_2 ((rd_T42 l0_2 a1).f0) ((rd_T42 l0_2 a1).f1) ((rd_T42 l0_2 a1).f2) ((rd_T42 l0_2 a1).f3) ((rd_T46 ((rd_T42 l0_2 a1).f3) x17_1).f0) ((rd_T46 ((rd_T42 l0_2 a1).f3) x17_1).f1))) = some r := by rw [if_neg (show ¬ (false = true) by decide)] at H; exact H
              clear H; have H := H1; clear H1; have HC53 := Aside0.mk H; clear H
              go_upto_if 54 with (fail)
              go_cut [54] (fun v54 wc => ∃ (kq : Nat) (x54_52 : Bool), v54 = .bool x54_52 ∧ Aside0 (check_static.j3 kq a1 x17_1 true ((rd_T42 l0_2 a1).f3) (((rd_T42 l0_2 a1).f3).length : Int) x17_1 x54_52 a0_0 l0_1 l0_2 ((rd_T42 l0_2 a1).f0) ((rd_T42 l0_2 a1).f1) ((rd_T42 l0_2 a1).f2) ((rd_T42 l0_2 a1).f3) ((rd_T46 ((rd_T42 l0_2 a1).f3) x17_1).f0) ((rd_T46 ((rd_T42 l0_2 a1).f3) x17_1).f1) = some r) ∧ Aside0 (kq ≤ kj34) ∧ Aside0 (wc.heap[gb156]? = some (.cells #[.int .i64 a0_0, (.slice A0_1 l0_1.length c0_1), (.slice (some ad157) l0_2.length c0_2)] 25 (0, 0))) ∧ Aside0 (wc.heap[gb158]? = some (.cells #[.int .i64 ((rd_T42 l0_2 a1).f0), .int .i64 ((rd_T42 l0_2 a1).f1), .int .i64 ((rd_T42 l0_2 a1).f2), (.slice (some ad159) ((rd_T42 l0_2 a1).f3).length c157_3)] 42 (0, 0))) ∧ Aside0 (wc.heap[gb160]? = some (.cells #[.int .i64 ((rd_T46 ((rd_T42 l0_2 a1).f3) x17_1).f0), .int .i64 ((rd_T46 ((rd_T42 l0_2 a1).f3) x17_1).f1)] 46 (0, 0))) ∧ Aside0 (Below w.heap.size w wc))
              case first =>
                have H := HC53.out; clear HC53
                by_cases c54 : ((rd_T46 ((rd_T42 l0_2 a1).f3) x17_1).f0) = 26
                · rw [if_pos c54] at H
                  have c54b0 : (((rd_T46 ((rd_T42 l0_2 a1).f3) x17_1).f0) == 26) = true := beq_iff_eq.mpr c54; have c54b1 : (((rd_T46 ((rd_T42 l0_2 a1).f3) x17_1).f0) != 26) = false := bne_eq_false_iff_eq.mpr c54; clear c54
                  (first | rw [c54b0] | (simp only [i64_w, i32_w]; rw [c54b0]) | skip)
                  have H' := Aside0.mk H; clear H
                  go_wp2
                  go_meet
                  case rel => exact ⟨_, ((((rd_T46 ((rd_T42 l0_2 a1).f3) x17_1).f0) == 26)), (by first | rfl | (simp; done) | (simp [*]; done)), H', ⟨by have := HK1.out; have := HJ12.out; have := HJ34.out; first | omega | exact Nat.le_refl _⟩, ⟨by (with_reducible repeat (first | refine blk_drewN ?_ _ | refine blk_drew ?_ | refine blk_alloc ?_ _)); exact BK156.out⟩, ⟨by (with_reducible repeat (first | refine blk_drewN ?_ _ | refine blk_drew ?_ | refine blk_alloc ?_ _)); exact BK158.out⟩, ⟨by (with_reducible repeat (first | refine blk_drewN ?_ _ | refine blk_drew ?_ | refine blk_alloc ?_ _)); exact BK160.out⟩, ⟨bn3 HB GE156 GE158 GE160⟩⟩
                · rw [if_neg c54] at H
                  have c54b0 : (((rd_T46 ((rd_T42 l0_2 a1).f3) x17_1).f0) == 26) = false := beq_eq_false_iff_ne.mpr c54; have c54b1 : (((rd_T46 ((rd_T42 l0_2 a1).f3) x17_1).f0) != 26) = true := bne_iff_ne.mpr c54
                  (first | rw [c54b0] | (simp only [i64_w, i32_w]; rw [c54b0]) | skip)
                  have H' := Aside0.mk H; clear H
                  go_wp2
                  go_meet
                  case rel => exact ⟨_, ((((rd_T46 ((rd_T42 l0_2 a1).f3) x17_1).f0) == 28)), (by first | rfl | (simp; done) | (simp [*]; done)), H', ⟨by have := HK1.out; have := HJ12.out; have := HJ34.out; first | omega | exact Nat.le_refl _⟩, ⟨by (with_reducible repeat (first | refine blk_drewN ?_ _ | refine blk_drew ?_ | refine blk_alloc ?_ _)); exact BK156.out⟩, ⟨by (with_reducible repeat (first | refine blk_drewN ?_ _ | refine blk_drew ?_ | refine blk_alloc ?_ _)); exact BK158.out⟩, ⟨by (with_reducible repeat (first | refine blk_drewN ?_ _ | refine blk_drew ?_ | refine blk_alloc ?_ _)); exact BK160.out⟩, ⟨bn3 HB GE156 GE158 GE160⟩⟩
              case rest =>
                clear HC53
                try clear c1
                try clear p1
                try clear q1
                try clear hx1
                try clear c2
                try clear p2
                try clear c3
                try clear c3b0
                try clear c4
                try clear c4b0
                try clear c5
                try clear p6
                try clear c8
                try clear c10
                try clear c10b0
                try clear c11
                try clear c11b0
                try clear c12
                try clear c12b0
                try clear c15
                try clear p15
                try clear q15
                try clear hx15
                try clear c16
                try clear c18
                try clear c18b0
                try clear c18b1
                try clear c19
                try clear c20
                try clear c20b0
                try clear c21
                try clear c21b0
                try clear c22
                try clear c23
                try clear c25
                try clear c27
                try clear c28
                try clear c30
                try clear c32
                try clear c33
                try clear c36
                try clear c36b0
                try clear c36b1
                try clear c37
                try clear c38
                try clear c38b0
                try clear c39
                try clear c39b0
                try clear c40
                try clear c41
                try clear c43
                try clear c45
                try clear c46
                try clear c48
                try clear c50
                try clear c51
                try clear c54
                try clear c54b0
                try clear c54b1
                try clear hcz17_0
                try clear hcz17_1
                try clear hcz24_0
                try clear hcz24_1
                try clear hcz26_0
                try clear hcz26_1
                try clear hcz26_2
                try clear hcz26_3
                try clear hcz29_0
                try clear hcz29_1
                try clear hcz31_0
                try clear hcz31_1
                try clear hcz31_2
                try clear hcz31_3
                try clear hcz34_0
                try clear hcz34_1
                try clear hcz42_0
                try clear hcz42_1
                try clear hcz44_0
                try clear hcz44_1
                try clear hcz44_2
                try clear hcz44_3
                try clear hcz47_0
                try clear hcz47_1
                try clear hcz49_0
                try clear hcz49_1
                try clear hcz49_2
                try clear hcz49_3
                try clear hcz52_0
                try clear hcz52_1
                try clear hcz6_0
                try clear hcz6_1
                try clear hcz6_2
                try clear hcz9_0
                try clear hcz9_1
                try clear hcz9_2
                try clear hcz9_3
                try clear hfz17_0
                try clear hfz17_1
                try clear hfz24_0
                try clear hfz24_1
                try clear hfz26_0
                try clear hfz26_1
                try clear hfz26_2
                try clear hfz26_3
                try clear hfz29_0
                try clear hfz29_1
                try clear hfz31_0
                try clear hfz31_1
                try clear hfz31_2
                try clear hfz31_3
                try clear hfz34_0
                try clear hfz34_1
                try clear hfz42_0
                try clear hfz42_1
                try clear hfz44_0
                try clear hfz44_1
                try clear hfz44_2
                try clear hfz44_3
                try clear hfz47_0
                try clear hfz47_1
                try clear hfz49_0
                try clear hfz49_1
                try clear hfz49_2
                try clear hfz49_3
                try clear hfz52_0
                try clear hfz52_1
                try clear hfz6_0
                try clear hfz6_1
                try clear hfz6_2
                try clear hfz9_0
                try clear hfz9_1
                try clear hfz9_2
                try clear hfz9_3
                try clear hx157_0
                try clear hx157_1
                try clear hx157_2
                try clear hx157_3
                try clear hx159_0
                try clear hx159_1
                try clear p1
                try clear p15
                try clear p157
                try clear p159
                try clear p2
                try clear p6
                try clear q1
                try clear q15
                try clear q157
                try clear q159
                obtain ⟨kq, x54_52, rfl, HA, HJ52, BK156, BK158, BK160, HB⟩ := hcut
                cases kq with
                | zero => exact absurd HA.out (by simp [check_static.j3])
                | succ kj52 => ?_
                have H := HA.out; clear HA; simp only [check_static.j3] at H
                by_cases c55 : x54_52 = true
                · subst c55
                  have H1 : ((check_Effect.f kj52 a0_0 l0_1 l0_2 a1 ((rd_T46 ((rd_T42 l0_2 a1).f3) x17_1).f0) ((rd_T46 ((rd_T42 l0_2 a1).f3) x17_1).f1)).bind fun bt161 => (if bt161.2.2 = true then (check_static.l0 kj52 a1 ((rd_T42 l0_2 a1).f3) (((rd_T42 l0_2 a1).f3).length : Int) (wrap64 (x17_1 + 1)) a0_0 l0_1 l0_2 ((rd_T42 l0_2 a1).f0) ((rd_T42 l0_2 a1).f1) ((rd_T42 l0_2 a1).f2) ((rd_T42 l0_2 a1).f3)) else (some x17_1))) = some r := by rw [if_pos rfl] at H; exact H
                  clear H; have H := H1; clear H1; replace H := Option.bind_eq_some_iff.mp H; obtain ⟨⟨t161, t162, t163⟩, A560, H⟩ := H; replace H : (if t163 = true then (check_static.l0 kj52 a1 ((rd_T42 l0_2 a1).f3) (((rd_T42 l0_2 a1).f3).length : Int) (wrap64 (x17_1 + 1)) a0_0 l0_1 l0_2 ((rd_T42 l0_2 a1).f0) ((rd_T42 l0_2 a1).f1) ((rd_T42 l0_2 a1).f2) ((rd_T42 l0_2 a1).f3)) else (some x17_1)) = some r := H; have A56 := Aside0.mk A560; clear A560
                  by_cases c57 : t163 = true
                  · subst c57
                    have H1 : (check_static.l0 kj52 a1 ((rd_T42 l0_2 a1).f3) (((rd_T42 l0_2 a1).f3).length : Int) (wrap64 (x17_1 + 1)) a0_0 l0_1 l0_2 ((rd_T42 l0_2 a1).f0) ((rd_T42 l0_2 a1).f1) ((rd_T42 l0_2 a1).f2) ((rd_T42 l0_2 a1).f3)) = some r := by rw [if_pos rfl] at H; exact H
                    clear H; have H := H1; clear H1; have H' := Aside0.mk H; clear H; have hnb58 := NB156_158.out; have hnc58 := NB158_156.out; have hnb59 := NB156_160.out; have hnc59 := NB160_156.out; obtain ⟨hcz60_0, hcz60_1, hcz60_2⟩ := cells3 BK156.out; obtain ⟨hfz60_0, hfz60_1, hfz60_2⟩ := froz3 BK156.out; have hnb61 := NB160_158.out; have hnc61 := NB158_160.out; obtain ⟨hcz62_0, hcz62_1⟩ := cells2 BK160.out; obtain ⟨hfz62_0, hfz62_1⟩ := froz2 BK160.out
                    go_wp2_with (first | ((with_reducible refine gate_callee (f := 14) rfl ?_); refine goesL_ (some 61) rfl rfl Try.func14 (by kernel_rfl) rfl #[.agg #[.int .i64 a0_0, .slice A0_1 l0_1.length c0_1, .slice (some ad157) l0_2.length c0_2], .int .i64 a1, .agg #[.int .i64 ((rd_T46 ((rd_T42 l0_2 a1).f3) x17_1).f0), .int .i64 ((rd_T46 ((rd_T42 l0_2 a1).f3) x17_1).f1)]] rfl (by (try simp only [List.map_toArray, List.map_cons, List.map_nil]); first | done | rfl | (simp only [List.length_drop, List.length_take]; rfl)) ?_; (with_reducible refine (check_Effect.calls kj52 a0_0 _ _ l0_1 _ _ l0_2 a1 ((rd_T46 ((rd_T42 l0_2 a1).f3) x17_1).f0) ((rd_T46 ((rd_T42 l0_2 a1).f3) x17_1).f1) t161 t162 true _ ?side1 ?side2 ?side3 ?side4 A56.out).mono ?_); (case side1 => repeat (first | exact (Kd.C_below HR0_1.out HB.out) | (with_reducible refine Kd.C_alloc ?_ _) | (with_reducible refine Kd.C_drewN ?_ _) | (with_reducible refine Kd.C_drew ?_))); (case side2 => exact HC0_1.out); (case side3 => repeat (first | exact (Kd.C_below HR0_2.out HB.out) | (with_reducible refine Kd.C_alloc ?_ _) | (with_reducible refine Kd.C_drewN ?_ _) | (with_reducible refine Kd.C_drew ?_))); (case side4 => exact HC0_2.out); rintro e w63 ⟨rfl, hb⟩; refine ⟨_, rfl, ?_⟩; replace BK156 := Aside0.mk (blk_below (g := gb156) (o := .cells #[.int .i64 a0_0, .slice A0_1 l0_1.length c0_1, .slice (some ad157) l0_2.length c0_2] 25 (0, 0)) (bkn BK156) hb); replace BK158 := Aside0.mk (blk_below (g := gb158) (o := .cells #[.int .i64 ((rd_T42 l0_2 a1).f0), .int .i64 ((rd_T42 l0_2 a1).f1), .int .i64 ((rd_T42 l0_2 a1).f2), .slice (some ad159) ((rd_T42 l0_2 a1).f3).length c157_3] 42 (0, 0)) (bkn BK158) hb); replace BK160 := Aside0.mk (blk_below (g := gb160) (o := .cells #[.int .i64 ((rd_T46 ((rd_T42 l0_2 a1).f3) x17_1).f0), .int .i64 ((rd_T46 ((rd_T42 l0_2 a1).f3) x17_1).f1)] 46 (0, 0)) (bkn BK160) hb); replace HB := Aside0.mk (below_step (bn3 HB GE156 GE158 GE160) hb); (try clear hb)))
                    go_roundg kj52
                    case measure => have := HK1.out; have := HJ12.out; have := HJ34.out; have := HJ52.out; omega
                    case rel => exact ⟨(wrap64 (x17_1 + 1)), (by first | rfl | (simp; done) | (simp [*]; done)), H', ⟨by have := HK1.out; have := HJ12.out; have := HJ34.out; have := HJ52.out; omega⟩, ⟨by (with_reducible repeat (first | refine blk_drewN ?_ _ | refine blk_drew ?_ | refine blk_alloc ?_ _)); exact BK156.out⟩, ⟨by (with_reducible repeat (first | refine blk_drewN ?_ _ | refine blk_drew ?_ | refine blk_alloc ?_ _)); exact BK158.out⟩, ⟨bn3 HB GE156 GE158 GE160⟩⟩
                  · replace c57 := Bool.eq_false_iff.mpr c57
                    subst c57
                    have H1 : (some x17_1) = some r := by rw [if_neg (show ¬ (false = true) by decide)] at H; exact H
                    clear H; have H := H1; clear H1; obtain rfl := Option.some.inj H; have hnb64 := NB156_158.out; have hnc64 := NB158_156.out; have hnb65 := NB156_160.out; have hnc65 := NB160_156.out; obtain ⟨hcz66_0, hcz66_1, hcz66_2⟩ := cells3 BK156.out; obtain ⟨hfz66_0, hfz66_1, hfz66_2⟩ := froz3 BK156.out; have hnb67 := NB160_158.out; have hnc67 := NB158_160.out; obtain ⟨hcz68_0, hcz68_1⟩ := cells2 BK160.out; obtain ⟨hfz68_0, hfz68_1⟩ := froz2 BK160.out
                    go_wp2_with (first | ((with_reducible refine gate_callee (f := 14) rfl ?_); refine goesL_ (some 61) rfl rfl Try.func14 (by kernel_rfl) rfl #[.agg #[.int .i64 a0_0, .slice A0_1 l0_1.length c0_1, .slice (some ad157) l0_2.length c0_2], .int .i64 a1, .agg #[.int .i64 ((rd_T46 ((rd_T42 l0_2 a1).f3) x17_1).f0), .int .i64 ((rd_T46 ((rd_T42 l0_2 a1).f3) x17_1).f1)]] rfl (by (try simp only [List.map_toArray, List.map_cons, List.map_nil]); first | done | rfl | (simp only [List.length_drop, List.length_take]; rfl)) ?_; (with_reducible refine (check_Effect.calls kj52 a0_0 _ _ l0_1 _ _ l0_2 a1 ((rd_T46 ((rd_T42 l0_2 a1).f3) x17_1).f0) ((rd_T46 ((rd_T42 l0_2 a1).f3) x17_1).f1) t161 t162 false _ ?side1 ?side2 ?side3 ?side4 A56.out).mono ?_); (case side1 => repeat (first | exact (Kd.C_below HR0_1.out HB.out) | (with_reducible refine Kd.C_alloc ?_ _) | (with_reducible refine Kd.C_drewN ?_ _) | (with_reducible refine Kd.C_drew ?_))); (case side2 => exact HC0_1.out); (case side3 => repeat (first | exact (Kd.C_below HR0_2.out HB.out) | (with_reducible refine Kd.C_alloc ?_ _) | (with_reducible refine Kd.C_drewN ?_ _) | (with_reducible refine Kd.C_drew ?_))); (case side4 => exact HC0_2.out); rintro e w69 ⟨rfl, hb⟩; refine ⟨_, rfl, ?_⟩; replace BK156 := Aside0.mk (blk_below (g := gb156) (o := .cells #[.int .i64 a0_0, .slice A0_1 l0_1.length c0_1, .slice (some ad157) l0_2.length c0_2] 25 (0, 0)) (bkn BK156) hb); replace BK158 := Aside0.mk (blk_below (g := gb158) (o := .cells #[.int .i64 ((rd_T42 l0_2 a1).f0), .int .i64 ((rd_T42 l0_2 a1).f1), .int .i64 ((rd_T42 l0_2 a1).f2), .slice (some ad159) ((rd_T42 l0_2 a1).f3).length c157_3] 42 (0, 0)) (bkn BK158) hb); replace BK160 := Aside0.mk (blk_below (g := gb160) (o := .cells #[.int .i64 ((rd_T46 ((rd_T42 l0_2 a1).f3) x17_1).f0), .int .i64 ((rd_T46 ((rd_T42 l0_2 a1).f3) x17_1).f1)] 46 (0, 0)) (bkn BK160) hb); replace HB := Aside0.mk (below_step (bn3 HB GE156 GE158 GE160) hb); (try clear hb)))
                    go_ret
                    exact ⟨by first | rfl | (simp [errW_none, errW_some] <;> rfl) | (simp [*, errW_none, errW_some] <;> rfl), bn3 HB GE156 GE158 GE160⟩
                · replace c55 := Bool.eq_false_iff.mpr c55
                  subst c55
                  have H1 : (if true = true then (check_static.l0 kj52 a1 ((rd_T42 l0_2 a1).f3) (((rd_T42 l0_2 a1).f3).length : Int) (wrap64 (x17_1 + 1)) a0_0 l0_1 l0_2 ((rd_T42 l0_2 a1).f0) ((rd_T42 l0_2 a1).f1) ((rd_T42 l0_2 a1).f2) ((rd_T42 l0_2 a1).f3)) else (some x17_1)) = some r := by rw [if_neg (show ¬ (false = true) by decide)] at H; exact H
                  clear H; have H := H1; clear H1
                  have H1 : (check_static.l0 kj52 a1 ((rd_T42 l0_2 a1).f3) (((rd_T42 l0_2 a1).f3).length : Int) (wrap64 (x17_1 + 1)) a0_0 l0_1 l0_2 ((rd_T42 l0_2 a1).f0) ((rd_T42 l0_2 a1).f1) ((rd_T42 l0_2 a1).f2) ((rd_T42 l0_2 a1).f3)) = some r := by rw [if_pos rfl] at H; exact H
                  clear H; have H := H1; clear H1; have H' := Aside0.mk H; clear H
                  go_wp2
                  go_roundg kj52
                  case measure => have := HK1.out; have := HJ12.out; have := HJ34.out; have := HJ52.out; omega
                  case rel => exact ⟨(wrap64 (x17_1 + 1)), (by first | rfl | (simp; done) | (simp [*]; done)), H', ⟨by have := HK1.out; have := HJ12.out; have := HJ34.out; have := HJ52.out; omega⟩, ⟨by (with_reducible repeat (first | refine blk_drewN ?_ _ | refine blk_drew ?_ | refine blk_alloc ?_ _)); exact BK156.out⟩, ⟨by (with_reducible repeat (first | refine blk_drewN ?_ _ | refine blk_drew ?_ | refine blk_alloc ?_ _)); exact BK158.out⟩, ⟨bn3 HB GE156 GE158 GE160⟩⟩
    · rw [if_neg c10] at H
      have c10b0 : decide (x17_1 < (((rd_T42 l0_2 a1).f3).length : Int)) = false := decide_eq_false c10; clear c10; obtain rfl := Option.some.inj H
      go_wp2
      go_ret
      exact ⟨by first | rfl | (simp [errW_none, errW_some] <;> rfl) | (simp [*, errW_none, errW_some] <;> rfl), bn2 HB GE156 GE158⟩
end Go.Proofs.Ytgngbbkaghmnpaa.Q
