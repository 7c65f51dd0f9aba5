-- written by a program of this session after the way of the kit's print; not the kit's own print. Lean checks it.
import Derived.Test.YtmokmkaipcojkaaQx0
import Derived.Test.YtmokmkaipcojkaaQx4
import Derived.Test.YtmokmkaipcojkaaQx5
import Derived.Test.YtmokmkaipcojkaaQx7
import Derived.Test.YtmokmkaipcojkaaQx11
import Derived.Test.YtmokmkaipcojkaaQx14
import Derived.Test.YtmokmkaipcojkaaQx22
import Derived.Test.YtmokmkaipcojkaaQx24
namespace Go.Proofs.Ytmokmkaipcojkaa.Q
open Go.RowKit Go.Proofs.YtmokmkaipcojkaaW.PrintWords Go.Proofs.YtmokmkaipcojkaaW.PrintLast Go.Proofs.YtmokmkaipcojkaaW.PrintMore
attribute [local go_sem] max2_int min2_int max_two min_two max_three min_three max_four min_four   -- for this text's walks alone
set_option linter.unusedVariables false
set_option linter.unusedSimpArgs false

/-! ### casementlaw02_RectParts: function 6 -/
mutual
def casementlaw02_RectParts.l0 : Nat → List Int → Int → Int → List (S26) → Int → Int → List (S26) → Int → Int → Int → Int → Int → Int → Option (Bool)
  | 0, _, _, _, _, _, _, _, _, _, _, _, _, _ => none
  | k + 1, x1, x3, x4, x11, x12, x13, x24, x25, x26, x393000, x393001, x393002, x393003 => if x26 < x25 then (if 0 ≤ x26 then (if x26 < (x24.length : Int) then ((rect_Within.f ((rd_T26 x24 x26).f0) ((rd_T26 x24 x26).f1) ((rd_T26 x24 x26).f2) ((rd_T26 x24 x26).f3) x393000 x393001 x393002 x393003).bind fun t402 => (if t402 = true then (casementlaw02_RectParts.l1 k x1 x3 x4 x11 x12 x13 x24 x25 x26 x26 0 x393000 x393001 x393002 x393003 ((rd_T26 x24 x26).f0) ((rd_T26 x24 x26).f1) ((rd_T26 x24 x26).f2) ((rd_T26 x24 x26).f3)) else (some false))) else (none)) else (none)) else ((rect_Area.f x393000 x393001 x393002 x393003).bind fun t397 => (if (x11.length : Int) = (mn (x1.length : Int) 16) then ((rect_Area.f x393000 x393001 x393002 x393003).bind fun t398 => (if x13 ≤ t398 then (if x13 = t397 then ((rect_Has.f x393000 x393001 x393002 x393003 x3 x4).bind fun t399 => (if ((x12 == 1) == t399) = true then (some (decide (x12 ≤ 1))) else (some false))) else (some (decide (x12 ≤ 1)))) else (some false))) else (some false)))
def casementlaw02_RectParts.l1 : Nat → List Int → Int → Int → List (S26) → Int → Int → List (S26) → Int → Int → Int → Int → Int → Int → Int → Int → Int → Int → Int → Int → Option (Bool)
  | 0, _, _, _, _, _, _, _, _, _, _, _, _, _, _, _, _, _, _, _ => none
  | k + 1, x1, x3, x4, x11, x12, x13, x24, x25, x26, x35, x36, x393000, x393001, x393002, x393003, x402000, x402001, x402002, x402003 => if x36 < x35 then (if 0 ≤ x36 then (if x36 < (x11.length : Int) then ((rect_Meet.f x402000 x402001 x402002 x402003 ((rd_T26 x11 x36).f0) ((rd_T26 x11 x36).f1) ((rd_T26 x11 x36).f2) ((rd_T26 x11 x36).f3)).bind fun bt404 => ((rect_Empty.f bt404.1 bt404.2.1 bt404.2.2.1 bt404.2.2.2).bind fun t408 => (if t408 = true then (casementlaw02_RectParts.l1 k x1 x3 x4 x11 x12 x13 x24 x25 x26 x35 (wrap64 (x36 + 1)) x393000 x393001 x393002 x393003 x402000 x402001 x402002 x402003) else (some false)))) else (none)) else (none)) else ((rect_Has.f x402000 x402001 x402002 x402003 x3 x4).bind fun t409 => (if t409 = true then ((rect_Area.f x402000 x402001 x402002 x402003).bind fun t410 => (casementlaw02_RectParts.l0 k x1 x3 x4 x11 (wrap64 (x12 + 1)) (wrap64 (x13 + t410)) x24 x25 (wrap64 (x26 + 1)) x393000 x393001 x393002 x393003)) else ((rect_Area.f x402000 x402001 x402002 x402003).bind fun t411 => (casementlaw02_RectParts.l0 k x1 x3 x4 x11 x12 (wrap64 (x13 + t411)) x24 x25 (wrap64 (x26 + 1)) x393000 x393001 x393002 x393003))))
end
def casementlaw02_RectParts.f (k : Nat) (a0_0 : Int) (a0_1 : Int) (a0_2 : Int) (a0_3 : Int) (l1 : List Int) (a2 : Bool) (a3 : Int) (a4 : Int) : Option (Bool) := (casementlaw02_alive.f k).bind fun t393 => (if t393 = true then ((rect_Cut.f k a0_0 a0_1 a0_2 a0_3 l1 a2).bind fun t394 => (casementlaw02_RectParts.l0 k l1 a3 a4 t394 0 0 t394 (t394.length : Int) 0 a0_0 a0_1 a0_2 a0_3)) else (some false))
theorem casementlaw02_RectParts.mono_l : ∀ k, (∀ y0 y1 y2 y3 y4 y5 y6 y7 y8 y9 y10 y11 y12, LeO (casementlaw02_RectParts.l0 k y0 y1 y2 y3 y4 y5 y6 y7 y8 y9 y10 y11 y12) (casementlaw02_RectParts.l0 (k + 1) y0 y1 y2 y3 y4 y5 y6 y7 y8 y9 y10 y11 y12)) ∧ (∀ y0 y1 y2 y3 y4 y5 y6 y7 y8 y9 y10 y11 y12 y13 y14 y15 y16 y17 y18, LeO (casementlaw02_RectParts.l1 k y0 y1 y2 y3 y4 y5 y6 y7 y8 y9 y10 y11 y12 y13 y14 y15 y16 y17 y18) (casementlaw02_RectParts.l1 (k + 1) y0 y1 y2 y3 y4 y5 y6 y7 y8 y9 y10 y11 y12 y13 y14 y15 y16 y17 y18))
  | 0 => ⟨fun _ _ _ _ _ _ _ _ _ _ _ _ _ r h => by simp [casementlaw02_RectParts.l0] at h, fun _ _ _ _ _ _ _ _ _ _ _ _ _ _ _ _ _ _ _ r h => by simp [casementlaw02_RectParts.l1] at h⟩
  | k + 1 => by
    obtain ⟨ih0, ih1⟩ := casementlaw02_RectParts.mono_l k
    refine ⟨?_, ?_⟩
    · intro y0 y1 y2 y3 y4 y5 y6 y7 y8 y9 y10 y11 y12
      unfold casementlaw02_RectParts.l0
      repeat' first
      | (with_reducible exact ih0 _ _ _ _ _ _ _ _ _ _ _ _ _)
      | (with_reducible exact ih1 _ _ _ _ _ _ _ _ _ _ _ _ _ _ _ _ _ _ _)
      | (with_reducible exact casementlaw02_alive.mono _)
      | (with_reducible exact rect_Cut.mono _ _ _ _ _ _ _)
      | (with_reducible exact LeO.refl _)
      | (with_reducible exact LeO.none _)
      | (with_reducible refine LeO.ite ?_ ?_)
      | (with_reducible refine LeO.bind ?_ (fun _ => ?_))
      | exact ih0 _ _ _ _ _ _ _ _ _ _ _ _ _
      | exact ih1 _ _ _ _ _ _ _ _ _ _ _ _ _ _ _ _ _ _ _
      | exact casementlaw02_alive.mono _
      | exact rect_Cut.mono _ _ _ _ _ _ _
      | exact LeO.none _
      | refine LeO.ite ?_ ?_
      | refine LeO.bind ?_ (fun _ => ?_)
    · intro y0 y1 y2 y3 y4 y5 y6 y7 y8 y9 y10 y11 y12 y13 y14 y15 y16 y17 y18
      unfold casementlaw02_RectParts.l1
      repeat' first
      | (with_reducible exact ih0 _ _ _ _ _ _ _ _ _ _ _ _ _)
      | (with_reducible exact ih1 _ _ _ _ _ _ _ _ _ _ _ _ _ _ _ _ _ _ _)
      | (with_reducible exact casementlaw02_alive.mono _)
      | (with_reducible exact rect_Cut.mono _ _ _ _ _ _ _)
      | (with_reducible exact LeO.refl _)
      | (with_reducible exact LeO.none _)
      | (with_reducible refine LeO.ite ?_ ?_)
      | (with_reducible refine LeO.bind ?_ (fun _ => ?_))
      | exact ih0 _ _ _ _ _ _ _ _ _ _ _ _ _
      | exact ih1 _ _ _ _ _ _ _ _ _ _ _ _ _ _ _ _ _ _ _
      | exact casementlaw02_alive.mono _
      | exact rect_Cut.mono _ _ _ _ _ _ _
      | exact LeO.none _
      | refine LeO.ite ?_ ?_
      | refine LeO.bind ?_ (fun _ => ?_)
theorem casementlaw02_RectParts.mono : ∀ a0 a1 a2 a3 a4 a5 a6 a7 k, LeO (casementlaw02_RectParts.f k a0 a1 a2 a3 a4 a5 a6 a7) (casementlaw02_RectParts.f (k + 1) a0 a1 a2 a3 a4 a5 a6 a7) := by
  intro a0 a1 a2 a3 a4 a5 a6 a7 k
  obtain ⟨ih0, ih1⟩ := casementlaw02_RectParts.mono_l k
  unfold casementlaw02_RectParts.f
  repeat' first
      | (with_reducible exact ih0 _ _ _ _ _ _ _ _ _ _ _ _ _)
      | (with_reducible exact ih1 _ _ _ _ _ _ _ _ _ _ _ _ _ _ _ _ _ _ _)
      | (with_reducible exact casementlaw02_alive.mono _)
      | (with_reducible exact rect_Cut.mono _ _ _ _ _ _ _)
      | (with_reducible exact LeO.refl _)
      | (with_reducible exact LeO.none _)
      | (with_reducible refine LeO.ite ?_ ?_)
      | (with_reducible refine LeO.bind ?_ (fun _ => ?_))
      | exact ih0 _ _ _ _ _ _ _ _ _ _ _ _ _
      | exact ih1 _ _ _ _ _ _ _ _ _ _ _ _ _ _ _ _ _ _ _
      | exact casementlaw02_alive.mono _
      | exact rect_Cut.mono _ _ _ _ _ _ _
      | exact LeO.none _
      | refine LeO.ite ?_ ?_
      | refine LeO.bind ?_ (fun _ => ?_)
def casementlaw02_RectParts.T13 : Bool × List (List Nat × List Nat) := (true, [([], []), ([], []), ([], []), ([1, 2], [1, 2]), ([3], [3]), ([0, 4], [0, 4]), ([5, 5], [5]), ([6], [6])])
def casementlaw02_RectParts.B13 : List Nat := [0, 0, 0, 6, 14, 31, 63, 127]
theorem casementlaw02_RectParts.tab13 : rtab .any (opsOf Try.f6 13) = casementlaw02_RectParts.T13 := by kernel_rfl
theorem casementlaw02_RectParts.bits13 : waitsOk casementlaw02_RectParts.T13.2 casementlaw02_RectParts.B13 = true := by kernel_rfl
set_option maxHeartbeats 8000000 in
set_option maxRecDepth 100000 in
theorem casementlaw02_RectParts.calls (k : Nat) (a0_0 : Int) (a0_1 : Int) (a0_2 : Int) (a0_3 : Int) (A1 : Option Addr) (c1 : Nat) (l1 : List Int) (a2 : Bool) (a3 : Int) (a4 : Int) (r : Bool) (w : World) (hr1 : Kd.C (Kd.int .i64) w A1 l1.length l1) (hc1 : l1.length ≤ c1) (h : casementlaw02_RectParts.f k a0_0 a0_1 a0_2 a0_3 l1 a2 a3 a4 = some r) (hr : r = true) :
    Calls Try.prog 6 #[.agg #[.int .i64 a0_0, .int .i64 a0_1, .int .i64 a0_2, .int .i64 a0_3], .slice A1 l1.length c1, .bool a2, .int .i64 a3, .int .i64 a4] w fun e w' => e = .returned (.bool r) ∧ Below w.heap.size w w' := by
  have hu26 := Try.underlying26
  have HRT := Aside0.mk hr
  clear hr
  have HR1 := Aside0.mk hr1
  have HC1 := Aside0.mk hc1
  clear hr1 hc1
  have HB := Aside0.mk (Below.refl w.heap.size w)
  have H : ((casementlaw02_alive.f k).bind fun t393 => (if t393 = true then ((rect_Cut.f k a0_0 a0_1 a0_2 a0_3 l1 a2).bind fun t394 => (casementlaw02_RectParts.l0 k l1 a3 a4 t394 0 0 t394 (t394.length : Int) 0 a0_0 a0_1 a0_2 a0_3)) else (some false))) = some r := h
  clear h
  replace H := Option.bind_eq_some_iff.mp H
  obtain ⟨t393, A60, H⟩ := H
  replace H : (if t393 = true then ((rect_Cut.f k a0_0 a0_1 a0_2 a0_3 l1 a2).bind fun t394 => (casementlaw02_RectParts.l0 k l1 a3 a4 t394 0 0 t394 (t394.length : Int) 0 a0_0 a0_1 a0_2 a0_3)) else (some false)) = some r := H
  have A6 := Aside0.mk A60
  clear A60
  by_cases c7 : t393 = true
  · subst c7
    have H1 : ((rect_Cut.f k a0_0 a0_1 a0_2 a0_3 l1 a2).bind fun t394 => (casementlaw02_RectParts.l0 k l1 a3 a4 t394 0 0 t394 (t394.length : Int) 0 a0_0 a0_1 a0_2 a0_3)) = some r := by rw [if_pos rfl] at H; exact H
    clear H
    have H := H1
    clear H1
    replace H := Option.bind_eq_some_iff.mp H
    obtain ⟨t394, A80, H⟩ := H
    replace H : (casementlaw02_RectParts.l0 k l1 a3 a4 t394 0 0 t394 (t394.length : Int) 0 a0_0 a0_1 a0_2 a0_3) = some r := H
    have A8 := Aside0.mk A80
    clear A80
    have H' := Aside0.mk H
    clear H
    go_enter Try.func6, Try.ntmps6
    go_wp2_with (first | ((with_reducible refine gate_dst (N := 5) rfl ?_); refine box_event ?hg (N := 5) ?hd (cs := #[.int .i64 a0_0, .int .i64 a0_1, .int .i64 a0_2, .int .i64 a0_3]) (t := 26) ?hr ?_; (case hd => rfl); (case hg => rfl); (case hr => first | (go_simp; done) | (go_simp; rfl)); intro gb392 hg w9 hbox hb; have n0_ := Aside0.mk (below_step (by repeat (first | (with_reducible first | exact HB.out | apply below_alloc | apply pw_below_drewN | apply below_drew1) | exact HB.out)) hb); have n1_ := Aside0.mk (hbox); have n2_ := Aside0.mk ((by rw [hg]; exact (below_size (by repeat (first | (with_reducible first | exact HB.out | apply below_alloc | apply pw_below_drewN | apply below_drew1) | exact HB.out))) : w.heap.size ≤ gb392)); have n3_ := Aside0.mk ((by rw [hg]; exact (below_size (by repeat (first | (with_reducible first | exact HB.out | apply below_alloc | apply pw_below_drewN | apply below_drew1) | exact HB.out))) : w.heap.size ≤ gb392)); clear HB; have HB := n0_; have BK392 := n1_; have GW392 := n2_; have GE392 := n3_; clear n0_ n1_ n2_ n3_; clear hb hbox hg) | ((with_reducible refine gate_callee (f := 12) rfl ?_); refine goesL_ (some 18) rfl rfl Try.func12 (by kernel_rfl) rfl #[] rfl (by (try simp only [List.map_toArray, List.map_cons, List.map_nil]); first | done | rfl | (simp only [List.length_drop, List.length_take]; rfl)) ?_; (with_reducible refine (casementlaw02_alive.calls k  true _ A6.out (by first | rfl | assumption)).mono ?_); rintro e w10 ⟨rfl, hb⟩; refine ⟨_, rfl, ?_⟩; have n0_ := Aside0.mk (blk_below (g := gb392) (o := .cells #[.int .i64 a0_0, .int .i64 a0_1, .int .i64 a0_2, .int .i64 a0_3] 26 (0, 0)) (by (with_reducible repeat (first | refine blk_drewN ?_ _ | refine blk_drew ?_ | refine blk_alloc ?_ _)); exact BK392.out) hb); have n1_ := Aside0.mk (below_step (by repeat (first | (with_reducible first | exact HB.out | apply below_alloc | apply pw_below_drewN | apply below_drew1 | refine below_set ?_ GE392.out) | exact HB.out)) hb); clear BK392; clear HB; have BK392 := n0_; have HB := n1_; clear n0_ n1_; (try clear hb); (try clear hb2); (try clear hk); (try clear hi); have hcz11_0 : w10.cell? ⟨gb392, 0, none⟩ = some (.int .i64 a0_0) := (blk_cell BK392.out 0).trans rfl; have hcz11_1 : w10.cell? ⟨gb392, 1, none⟩ = some (.int .i64 a0_1) := (blk_cell BK392.out 1).trans rfl; have hcz11_2 : w10.cell? ⟨gb392, 2, none⟩ = some (.int .i64 a0_2) := (blk_cell BK392.out 2).trans rfl; have hcz11_3 : w10.cell? ⟨gb392, 3, none⟩ = some (.int .i64 a0_3) := (blk_cell BK392.out 3).trans rfl; have hfz11_0 := blk_frozen BK392.out 0; have hfz11_1 := blk_frozen BK392.out 1; have hfz11_2 := blk_frozen BK392.out 2; have hfz11_3 := blk_frozen BK392.out 3) | ((with_reducible refine gate_callee (f := 24) rfl ?_); refine goesL_ (some 23) rfl rfl Try.func24 (by kernel_rfl) rfl #[.agg #[.int .i64 a0_0, .int .i64 a0_1, .int .i64 a0_2, .int .i64 a0_3], .slice A1 l1.length c1, .bool a2] rfl (by (try simp only [List.map_toArray, List.map_cons, List.map_nil]); first | done | rfl | (simp only [List.length_drop, List.length_take]; rfl)) ?_; (with_reducible refine (rect_Cut.calls k a0_0 a0_1 a0_2 a0_3 _ _ l1 a2 t394 _ ?side1 ?side2 A8.out).mono ?_); (case side1 => repeat (first | exact (Kd.C_below HR1.out HB.out) | (with_reducible refine Kd.C_alloc ?_ _) | (with_reducible refine Kd.C_drewN ?_ _) | (with_reducible refine Kd.C_drew ?_))); (case side2 => exact HC1.out); rintro e w12 ⟨v395, rfl, ho0, hb⟩; refine ⟨_, rfl, ?_⟩; have n0_ := Aside0.mk (Kd.R_lower (Kd.R_newB ho0 (g := gb392) (o := .cells #[.int .i64 a0_0, .int .i64 a0_1, .int .i64 a0_2, .int .i64 a0_3] 26 (0, 0)) (by (with_reducible repeat (first | refine blk_drewN ?_ _ | refine blk_drew ?_ | refine blk_alloc ?_ _)); exact BK392.out)) (below_size (by repeat (first | (with_reducible first | exact HB.out | apply below_alloc | apply pw_below_drewN | apply below_drew1 | refine below_set ?_ GE392.out) | exact HB.out)))); have n1_ := Aside0.mk (blk_below (g := gb392) (o := .cells #[.int .i64 a0_0, .int .i64 a0_1, .int .i64 a0_2, .int .i64 a0_3] 26 (0, 0)) (by (with_reducible repeat (first | refine blk_drewN ?_ _ | refine blk_drew ?_ | refine blk_alloc ?_ _)); exact BK392.out) hb); have n2_ := Aside0.mk (below_step (by repeat (first | (with_reducible first | exact HB.out | apply below_alloc | apply pw_below_drewN | apply below_drew1 | refine below_set ?_ GE392.out) | exact HB.out)) hb); clear BK392; clear HB; have HO396 := n0_; have BK392 := n1_; have HB := n2_; clear n0_ n1_ n2_; (try clear hb); (try clear hb2); (try clear hk); (try clear hi); (try clear ho0); obtain ⟨Ao13, co13, eo13⟩ := Kd.R_slice HO396.out; subst eo13))
    go_loopg [12, 13, 26] k (fun kq v12 v13 v26 w' => ∃ (x12_1 : Int) (x13_1 : Int) (x26_1 : Int), v12 = .int .i64 x12_1 ∧ v13 = .int .i64 x13_1 ∧ v26 = .int .i64 x26_1 ∧ Aside0 (casementlaw02_RectParts.l0 kq l1 a3 a4 t394 x12_1 x13_1 t394 (t394.length : Int) x26_1 a0_0 a0_1 a0_2 a0_3 = some r) ∧ Aside0 (kq ≤ k) ∧ Aside0 (Kd.R k26 26 w' w.heap.size (fun k_ => k_ ≠ gb392) (.slice Ao13 t394.length co13) t394) ∧ Aside0 (Kd.R k26 26 w' w.heap.size (fun k_ => k_ ≠ gb392) (.slice Ao13 t394.length co13) t394) ∧ Aside0 (w'.heap[gb392]? = some (.cells #[.int .i64 a0_0, .int .i64 a0_1, .int .i64 a0_2, .int .i64 a0_3] 26 (0, 0))) ∧ Aside0 (Below w.heap.size w w'))
    case atStart => exact ⟨(0), (0), (0), (by first | rfl | (simp; done) | (simp [*]; done)), (by first | rfl | (simp; done) | (simp [*]; done)), (by first | rfl | (simp; done) | (simp [*]; done)), H', ⟨Nat.le_refl _⟩, ⟨by (with_reducible repeat (first | apply Kd.R_alloc | apply Kd.R_drewN | apply Kd.R_drew)); exact Kd.R_mono HO396.out (fun _ hk => hk.2)⟩, ⟨by (with_reducible repeat (first | apply Kd.R_alloc | apply Kd.R_drewN | apply Kd.R_drew)); exact Kd.R_mono HO396.out (fun _ hk => hk.2)⟩, ⟨by (with_reducible repeat (first | refine blk_drewN ?_ _ | refine blk_drew ?_ | refine blk_alloc ?_ _)); exact BK392.out⟩, ⟨by repeat (first | (with_reducible first | exact HB.out | apply below_alloc | apply pw_below_drewN | apply below_drew1 | refine below_set ?_ GE392.out) | exact HB.out)⟩⟩
    case round =>
      clear H'
      try clear c1
      try clear c2
      try clear p2
      try clear c6
      try clear c7
      try clear c12
      try clear hcz11_0
      try clear hcz11_1
      try clear hcz11_2
      try clear hcz11_3
      try clear hfz11_0
      try clear hfz11_1
      try clear hfz11_2
      try clear hfz11_3
      obtain ⟨x12_1, x13_1, x26_1, rfl, rfl, rfl, HA, HK1, HO_11, HO_24, BK392, HB⟩ := hrel
      cases gk with
      | zero => exact absurd HA.out (by simp [casementlaw02_RectParts.l0])
      | succ k1 =>
        have H := HA.out
        clear HA
        simp only [casementlaw02_RectParts.l0] at H
        by_cases c14 : x26_1 < (t394.length : Int)
        · rw [if_pos c14] at H
          have c14b0 : decide (x26_1 < (t394.length : Int)) = true := decide_eq_true c14
          clear c14
          by_cases c15 : 0 ≤ x26_1
          · rw [if_pos c15] at H
            have c15b0 : decide (0 ≤ x26_1) = true := decide_eq_true c15
            clear c15
            by_cases c16 : x26_1 < (t394.length : Int)
            · rw [if_pos c16] at H
              have c16b0 : decide (x26_1 < (t394.length : Int)) = true := decide_eq_true c16
              clear c16
              replace H := Option.bind_eq_some_iff.mp H
              obtain ⟨t402, A170, H⟩ := H
              replace H : (if t402 = true then (casementlaw02_RectParts.l1 k1 l1 a3 a4 t394 x12_1 x13_1 t394 (t394.length : Int) x26_1 x26_1 0 a0_0 a0_1 a0_2 a0_3 ((rd_T26 t394 x26_1).f0) ((rd_T26 t394 x26_1).f1) ((rd_T26 t394 x26_1).f2) ((rd_T26 t394 x26_1).f3)) else (some false)) = some r := H
              have A17 := Aside0.mk A170
              clear A170
              by_cases c18 : t402 = true
              · subst c18
                have H1 : (casementlaw02_RectParts.l1 k1 l1 a3 a4 t394 x12_1 x13_1 t394 (t394.length : Int) x26_1 x26_1 0 a0_0 a0_1 a0_2 a0_3 ((rd_T26 t394 x26_1).f0) ((rd_T26 t394 x26_1).f1) ((rd_T26 t394 x26_1).f2) ((rd_T26 t394 x26_1).f3)) = some r := by rw [if_pos rfl] at H; exact H
                clear H
                have H := H1
                clear H1
                have H' := Aside0.mk H
                clear H
                have p400 : 0 ≤ (x26_1 : Int) := of_decide_eq_true (by first | (with_reducible assumption) | assumption)
                have q400 : x26_1 < (t394.length : Int) := of_decide_eq_true (by first | (with_reducible assumption) | assumption)
                obtain ⟨ad400, e400, hx400_0, hx400_1, hx400_2, hx400_3⟩ := at_T26 (Kd.R_reads' HO_24.out).2.2 x26_1 p400 q400
                cases e400
                replace p400 := eq_true p400
                replace q400 := eq_true q400
                go_wp2_with (first | ((with_reducible refine gate_dst (N := 15) rfl ?_); refine box_event ?hg (N := 15) ?hd (cs := #[.int .i64 0, .int .i64 0, .int .i64 0, .int .i64 0]) (t := 26) ?hr ?_; (case hd => rfl); (case hg => rfl); (case hr => first | (go_simp; done) | (go_simp; rfl)); intro gb401 hg w19 hbox hb; have n0_ := Aside0.mk (Kd.R_below (Kd.R_elderB (by (with_reducible repeat (first | apply Kd.R_alloc | apply Kd.R_drewN | apply Kd.R_drew)); exact HO_11.out) gb401 (Nat.le_of_eq hg.symm)) hb); have n1_ := Aside0.mk (Kd.R_below (Kd.R_elderB (by (with_reducible repeat (first | apply Kd.R_alloc | apply Kd.R_drewN | apply Kd.R_drew)); exact HO_24.out) gb401 (Nat.le_of_eq hg.symm)) hb); have n2_ := Aside0.mk (blk_below (g := gb392) (o := .cells #[.int .i64 a0_0, .int .i64 a0_1, .int .i64 a0_2, .int .i64 a0_3] 26 (0, 0)) (by (with_reducible repeat (first | refine blk_drewN ?_ _ | refine blk_drew ?_ | refine blk_alloc ?_ _)); exact BK392.out) hb); have n3_ := Aside0.mk (below_step (by repeat (first | (with_reducible first | exact HB.out | apply below_alloc | apply pw_below_drewN | apply below_drew1 | refine below_set ?_ GE392.out) | exact HB.out)) hb); have n4_ := Aside0.mk (hbox); have n5_ := Aside0.mk ((by rw [hg]; exact (below_size (by repeat (first | (with_reducible first | exact HB.out | apply below_alloc | apply pw_below_drewN | apply below_drew1 | refine below_set ?_ GE392.out) | exact HB.out))) : w.heap.size ≤ gb401)); have n6_ := Aside0.mk ((by rw [hg]; exact (below_size (by repeat (first | (with_reducible first | exact HB.out | apply below_alloc | apply pw_below_drewN | apply below_drew1 | refine below_set ?_ GE392.out) | exact HB.out))) : w.heap.size ≤ gb401)); have n7_ := Aside0.mk ((by rw [hg]; exact Nat.ne_of_lt (blk_lt (g := gb392) (o := .cells #[.int .i64 a0_0, .int .i64 a0_1, .int .i64 a0_2, .int .i64 a0_3] 26 (0, 0)) (by (with_reducible repeat (first | refine blk_drewN ?_ _ | refine blk_drew ?_ | refine blk_alloc ?_ _)); exact BK392.out)) : gb392 ≠ gb401)); have n8_ := Aside0.mk ((by rw [hg]; exact Nat.ne_of_gt (blk_lt (g := gb392) (o := .cells #[.int .i64 a0_0, .int .i64 a0_1, .int .i64 a0_2, .int .i64 a0_3] 26 (0, 0)) (by (with_reducible repeat (first | refine blk_drewN ?_ _ | refine blk_drew ?_ | refine blk_alloc ?_ _)); exact BK392.out)) : gb401 ≠ gb392)); clear HO_11; clear HO_24; clear BK392; clear HB; have HO_11 := n0_; have HO_24 := n1_; have BK392 := n2_; have HB := n3_; have BK401 := n4_; have GW401 := n5_; have GE401 := n6_; have NB392_401 := n7_; have NB401_392 := n8_; clear n0_ n1_ n2_ n3_ n4_ n5_ n6_ n7_ n8_; clear hb hbox hg; have hnb20 := NB401_392.out; have hnc20 := NB392_401.out; have hcz21_0 : w19.cell? ⟨gb401, 0, none⟩ = some (.int .i64 0) := (blk_cell BK401.out 0).trans rfl; have hcz21_1 : w19.cell? ⟨gb401, 1, none⟩ = some (.int .i64 0) := (blk_cell BK401.out 1).trans rfl; have hcz21_2 : w19.cell? ⟨gb401, 2, none⟩ = some (.int .i64 0) := (blk_cell BK401.out 2).trans rfl; have hcz21_3 : w19.cell? ⟨gb401, 3, none⟩ = some (.int .i64 0) := (blk_cell BK401.out 3).trans rfl; have hfz21_0 := blk_frozen BK401.out 0; have hfz21_1 := blk_frozen BK401.out 1; have hfz21_2 := blk_frozen BK401.out 2; have hfz21_3 := blk_frozen BK401.out 3; have hcz22_0 : w19.cell? ⟨gb392, 0, none⟩ = some (.int .i64 a0_0) := (blk_cell BK392.out 0).trans rfl; have hcz22_1 : w19.cell? ⟨gb392, 1, none⟩ = some (.int .i64 a0_1) := (blk_cell BK392.out 1).trans rfl; have hcz22_2 : w19.cell? ⟨gb392, 2, none⟩ = some (.int .i64 a0_2) := (blk_cell BK392.out 2).trans rfl; have hcz22_3 : w19.cell? ⟨gb392, 3, none⟩ = some (.int .i64 a0_3) := (blk_cell BK392.out 3).trans rfl; have hfz22_0 := blk_frozen BK392.out 0; have hfz22_1 := blk_frozen BK392.out 1; have hfz22_2 := blk_frozen BK392.out 2; have hfz22_3 := blk_frozen BK392.out 3) | ((with_reducible refine gate_callee (f := 25) rfl ?_); refine goesL_ (some 33) rfl rfl Try.func25 (by kernel_rfl) rfl #[.agg #[.int .i64 ((rd_T26 t394 x26_1).f0), .int .i64 ((rd_T26 t394 x26_1).f1), .int .i64 ((rd_T26 t394 x26_1).f2), .int .i64 ((rd_T26 t394 x26_1).f3)], .agg #[.int .i64 a0_0, .int .i64 a0_1, .int .i64 a0_2, .int .i64 a0_3]] rfl (by (try simp only [List.map_toArray, List.map_cons, List.map_nil]); first | done | rfl | (simp only [List.length_drop, List.length_take]; rfl)) ?_; (with_reducible refine (rect_Within.calls ((rd_T26 t394 x26_1).f0) ((rd_T26 t394 x26_1).f1) ((rd_T26 t394 x26_1).f2) ((rd_T26 t394 x26_1).f3) a0_0 a0_1 a0_2 a0_3 true _ A17.out).mono ?_); rintro e w23 ⟨rfl, hb⟩; refine ⟨_, rfl, ?_⟩; have n0_ := Aside0.mk (Kd.R_below (by (with_reducible repeat (first | apply Kd.R_alloc | apply Kd.R_drewN | apply Kd.R_drew)); exact (Kd.R_mono (Kd.R_far (p := ⟨gb401, 3, none⟩) (Kd.R_far (p := ⟨gb401, 2, none⟩) (Kd.R_far (p := ⟨gb401, 1, none⟩) (Kd.R_far (p := ⟨gb401, 0, none⟩) (Kd.R_mono HO_11.out (fun k_ hk => (⟨hk, hk.2⟩ : _ ∧ k_ ≠ gb401))) (fun _ hk => hk.2) (.int .i64 ((rd_T26 t394 x26_1).f0))) (fun _ hk => hk.2) (.int .i64 ((rd_T26 t394 x26_1).f1))) (fun _ hk => hk.2) (.int .i64 ((rd_T26 t394 x26_1).f2))) (fun _ hk => hk.2) (.int .i64 ((rd_T26 t394 x26_1).f3))) (fun _ h_ => h_.1))) hb); have n1_ := Aside0.mk (Kd.R_below (by (with_reducible repeat (first | apply Kd.R_alloc | apply Kd.R_drewN | apply Kd.R_drew)); exact (Kd.R_mono (Kd.R_far (p := ⟨gb401, 3, none⟩) (Kd.R_far (p := ⟨gb401, 2, none⟩) (Kd.R_far (p := ⟨gb401, 1, none⟩) (Kd.R_far (p := ⟨gb401, 0, none⟩) (Kd.R_mono HO_24.out (fun k_ hk => (⟨hk, hk.2⟩ : _ ∧ k_ ≠ gb401))) (fun _ hk => hk.2) (.int .i64 ((rd_T26 t394 x26_1).f0))) (fun _ hk => hk.2) (.int .i64 ((rd_T26 t394 x26_1).f1))) (fun _ hk => hk.2) (.int .i64 ((rd_T26 t394 x26_1).f2))) (fun _ hk => hk.2) (.int .i64 ((rd_T26 t394 x26_1).f3))) (fun _ h_ => h_.1))) hb); have n2_ := Aside0.mk (blk_below (g := gb392) (o := .cells #[.int .i64 a0_0, .int .i64 a0_1, .int .i64 a0_2, .int .i64 a0_3] 26 (0, 0)) (by (with_reducible repeat (first | refine blk_drewN ?_ _ | refine blk_drew ?_ | refine blk_alloc ?_ _)); refine blk_far ?_ NB392_401.out _; (with_reducible repeat (first | refine blk_drewN ?_ _ | refine blk_drew ?_ | refine blk_alloc ?_ _)); refine blk_far ?_ NB392_401.out _; (with_reducible repeat (first | refine blk_drewN ?_ _ | refine blk_drew ?_ | refine blk_alloc ?_ _)); refine blk_far ?_ NB392_401.out _; (with_reducible repeat (first | refine blk_drewN ?_ _ | refine blk_drew ?_ | refine blk_alloc ?_ _)); refine blk_far ?_ NB392_401.out _; (with_reducible repeat (first | refine blk_drewN ?_ _ | refine blk_drew ?_ | refine blk_alloc ?_ _)); exact BK392.out) hb); have n3_ := Aside0.mk (blk_below (g := gb401) (o := .cells #[.int .i64 ((rd_T26 t394 x26_1).f0), .int .i64 ((rd_T26 t394 x26_1).f1), .int .i64 ((rd_T26 t394 x26_1).f2), .int .i64 ((rd_T26 t394 x26_1).f3)] 26 (0, 0)) (by (with_reducible repeat (first | refine blk_drewN ?_ _ | refine blk_drew ?_ | refine blk_alloc ?_ _)); refine blk_put (cs := #[.int .i64 ((rd_T26 t394 x26_1).f0), .int .i64 ((rd_T26 t394 x26_1).f1), .int .i64 ((rd_T26 t394 x26_1).f2), .int .i64 0]) ?_ 3 _ rfl; (with_reducible repeat (first | refine blk_drewN ?_ _ | refine blk_drew ?_ | refine blk_alloc ?_ _)); refine blk_put (cs := #[.int .i64 ((rd_T26 t394 x26_1).f0), .int .i64 ((rd_T26 t394 x26_1).f1), .int .i64 0, .int .i64 0]) ?_ 2 _ rfl; (with_reducible repeat (first | refine blk_drewN ?_ _ | refine blk_drew ?_ | refine blk_alloc ?_ _)); refine blk_put (cs := #[.int .i64 ((rd_T26 t394 x26_1).f0), .int .i64 0, .int .i64 0, .int .i64 0]) ?_ 1 _ rfl; (with_reducible repeat (first | refine blk_drewN ?_ _ | refine blk_drew ?_ | refine blk_alloc ?_ _)); refine blk_put (cs := #[.int .i64 0, .int .i64 0, .int .i64 0, .int .i64 0]) ?_ 0 _ rfl; (with_reducible repeat (first | refine blk_drewN ?_ _ | refine blk_drew ?_ | refine blk_alloc ?_ _)); exact BK401.out) hb); have n4_ := Aside0.mk (below_step (by repeat (first | (with_reducible first | exact HB.out | apply below_alloc | apply pw_below_drewN | apply below_drew1 | refine below_set ?_ GE392.out | refine below_set ?_ GE401.out) | exact HB.out)) hb); clear HO_11; clear HO_24; clear BK392; clear BK401; clear HB; have HO_11 := n0_; have HO_24 := n1_; have BK392 := n2_; have BK401 := n3_; have HB := n4_; clear n0_ n1_ n2_ n3_ n4_; (try clear hb); (try clear hb2); (try clear hk); (try clear hi)))
                go_loopg [36] k1 (fun kq v36 w' => ∃ (x36_2 : Int), v36 = .int .i64 x36_2 ∧ Aside0 (casementlaw02_RectParts.l1 kq l1 a3 a4 t394 x12_1 x13_1 t394 (t394.length : Int) x26_1 x26_1 x36_2 a0_0 a0_1 a0_2 a0_3 ((rd_T26 t394 x26_1).f0) ((rd_T26 t394 x26_1).f1) ((rd_T26 t394 x26_1).f2) ((rd_T26 t394 x26_1).f3) = some r) ∧ Aside0 (kq ≤ k1) ∧ Aside0 (Kd.R k26 26 w' w.heap.size (fun k_ => k_ ≠ gb392 ∧ k_ ≠ gb401) (.slice (some ad400) t394.length co13) t394) ∧ Aside0 (Kd.R k26 26 w' w.heap.size (fun k_ => k_ ≠ gb392 ∧ k_ ≠ gb401) (.slice (some ad400) t394.length co13) t394) ∧ Aside0 (w'.heap[gb392]? = some (.cells #[.int .i64 a0_0, .int .i64 a0_1, .int .i64 a0_2, .int .i64 a0_3] 26 (0, 0))) ∧ Aside0 (w'.heap[gb401]? = some (.cells #[.int .i64 ((rd_T26 t394 x26_1).f0), .int .i64 ((rd_T26 t394 x26_1).f1), .int .i64 ((rd_T26 t394 x26_1).f2), .int .i64 ((rd_T26 t394 x26_1).f3)] 26 (0, 0))) ∧ Aside0 (Below w.heap.size w w'))
                case atStart => exact ⟨(0), (by first | rfl | (simp; done) | (simp [*]; done)), H', ⟨Nat.le_refl _⟩, ⟨by (with_reducible repeat (first | apply Kd.R_alloc | apply Kd.R_drewN | apply Kd.R_drew)); exact HO_11.out⟩, ⟨by (with_reducible repeat (first | apply Kd.R_alloc | apply Kd.R_drewN | apply Kd.R_drew)); exact HO_24.out⟩, ⟨by (with_reducible repeat (first | refine blk_drewN ?_ _ | refine blk_drew ?_ | refine blk_alloc ?_ _)); exact BK392.out⟩, ⟨by (with_reducible repeat (first | refine blk_drewN ?_ _ | refine blk_drew ?_ | refine blk_alloc ?_ _)); exact BK401.out⟩, ⟨by repeat (first | (with_reducible first | exact HB.out | apply below_alloc | apply pw_below_drewN | apply below_drew1 | refine below_set ?_ GE392.out | refine below_set ?_ GE401.out) | exact HB.out)⟩⟩
                case round =>
                  clear H'
                  try clear c1
                  try clear c2
                  try clear p2
                  try clear p4
                  try clear q4
                  try clear hx4
                  try clear c6
                  try clear c7
                  try clear c12
                  try clear c14
                  try clear c14b0
                  try clear c15
                  try clear c15b0
                  try clear c16
                  try clear c16b0
                  try clear c18
                  try clear c20
                  try clear hcz11_0
                  try clear hcz11_1
                  try clear hcz11_2
                  try clear hcz11_3
                  try clear hcz21_0
                  try clear hcz21_1
                  try clear hcz21_2
                  try clear hcz21_3
                  try clear hcz22_0
                  try clear hcz22_1
                  try clear hcz22_2
                  try clear hcz22_3
                  try clear hfz11_0
                  try clear hfz11_1
                  try clear hfz11_2
                  try clear hfz11_3
                  try clear hfz21_0
                  try clear hfz21_1
                  try clear hfz21_2
                  try clear hfz21_3
                  try clear hfz22_0
                  try clear hfz22_1
                  try clear hfz22_2
                  try clear hfz22_3
                  try clear hx400_0
                  try clear hx400_1
                  try clear hx400_2
                  try clear hx400_3
                  try clear p2
                  try clear p400
                  try clear q400
                  obtain ⟨x36_2, rfl, HA, HK2, HO_11, HO_24, BK392, BK401, HB⟩ := hrel
                  cases gk with
                  | zero => exact absurd HA.out (by simp [casementlaw02_RectParts.l1])
                  | succ k2 =>
                    have H := HA.out
                    clear HA
                    simp only [casementlaw02_RectParts.l1] at H
                    by_cases c24 : x36_2 < x26_1
                    · rw [if_pos c24] at H
                      have c24b0 : decide (x36_2 < x26_1) = true := decide_eq_true c24
                      clear c24
                      by_cases c25 : 0 ≤ x36_2
                      · rw [if_pos c25] at H
                        have c25b0 : decide (0 ≤ x36_2) = true := decide_eq_true c25
                        clear c25
                        by_cases c26 : x36_2 < (t394.length : Int)
                        · rw [if_pos c26] at H
                          have c26b0 : decide (x36_2 < (t394.length : Int)) = true := decide_eq_true c26
                          clear c26
                          replace H := Option.bind_eq_some_iff.mp H
                          obtain ⟨⟨t404, t405, t406, t407⟩, A270, H⟩ := H
                          replace H : ((rect_Empty.f t404 t405 t406 t407).bind fun t408 => (if t408 = true then (casementlaw02_RectParts.l1 k2 l1 a3 a4 t394 x12_1 x13_1 t394 (t394.length : Int) x26_1 x26_1 (wrap64 (x36_2 + 1)) a0_0 a0_1 a0_2 a0_3 ((rd_T26 t394 x26_1).f0) ((rd_T26 t394 x26_1).f1) ((rd_T26 t394 x26_1).f2) ((rd_T26 t394 x26_1).f3)) else (some false))) = some r := H
                          have A27 := Aside0.mk A270
                          clear A270
                          replace H := Option.bind_eq_some_iff.mp H
                          obtain ⟨t408, A280, H⟩ := H
                          replace H : (if t408 = true then (casementlaw02_RectParts.l1 k2 l1 a3 a4 t394 x12_1 x13_1 t394 (t394.length : Int) x26_1 x26_1 (wrap64 (x36_2 + 1)) a0_0 a0_1 a0_2 a0_3 ((rd_T26 t394 x26_1).f0) ((rd_T26 t394 x26_1).f1) ((rd_T26 t394 x26_1).f2) ((rd_T26 t394 x26_1).f3)) else (some false)) = some r := H
                          have A28 := Aside0.mk A280
                          clear A280
                          by_cases c29 : t408 = true
                          · subst c29
                            have H1 : (casementlaw02_RectParts.l1 k2 l1 a3 a4 t394 x12_1 x13_1 t394 (t394.length : Int) x26_1 x26_1 (wrap64 (x36_2 + 1)) a0_0 a0_1 a0_2 a0_3 ((rd_T26 t394 x26_1).f0) ((rd_T26 t394 x26_1).f1) ((rd_T26 t394 x26_1).f2) ((rd_T26 t394 x26_1).f3)) = some r := by rw [if_pos rfl] at H; exact H
                            clear H
                            have H := H1
                            clear H1
                            have H' := Aside0.mk H
                            clear H
                            try go_wp2
                            have n0_ := Aside0.mk (Kd.R_drew HO_11.out)
                            have n1_ := Aside0.mk (Kd.R_drew HO_24.out)
                            have n2_ := Aside0.mk (blk_drew BK392.out)
                            have n3_ := Aside0.mk (blk_drew BK401.out)
                            have n4_ := Aside0.mk (below_drew1 HB.out)
                            clear HO_11
                            clear HO_24
                            clear BK392
                            clear BK401
                            clear HB
                            have HO_11 := n0_
                            have HO_24 := n1_
                            have BK392 := n2_
                            have BK401 := n3_
                            have HB := n4_
                            clear n0_ n1_ n2_ n3_ n4_
                            have p403 : 0 ≤ (x36_2 : Int) := of_decide_eq_true (by first | (with_reducible assumption) | assumption)
                            have q403 : x36_2 < (t394.length : Int) := of_decide_eq_true (by first | (with_reducible assumption) | assumption)
                            obtain ⟨ad403, e403, hx403_0, hx403_1, hx403_2, hx403_3⟩ := at_T26 (Kd.R_reads' HO_11.out).2.2 x36_2 p403 q403
                            obtain rfl : ad400 = ad403 := (by injection e403)
                            replace p403 := eq_true p403
                            replace q403 := eq_true q403
                            refine start_ (n := 8) (S := fun w' => w'.cell? ⟨gb401, 0, none⟩ = some (.int .i64 ((rd_T26 t394 x26_1).f0)) ∧ w'.cell? ⟨gb401, 1, none⟩ = some (.int .i64 ((rd_T26 t394 x26_1).f1)) ∧ w'.cell? ⟨gb401, 2, none⟩ = some (.int .i64 ((rd_T26 t394 x26_1).f2)) ∧ w'.cell? ⟨gb401, 3, none⟩ = some (.int .i64 ((rd_T26 t394 x26_1).f3)) ∧ w'.cell? (ad400.add ((x36_2).toNat * 4)) = some (.int .i64 ((rd_T26 t394 x36_2).f0)) ∧ w'.cell? ⟨(ad400.add ((x36_2).toNat * 4)).block, (ad400.add ((x36_2).toNat * 4)).off + 1, none⟩ = some (.int .i64 ((rd_T26 t394 x36_2).f1)) ∧ w'.cell? ⟨(ad400.add ((x36_2).toNat * 4)).block, (ad400.add ((x36_2).toNat * 4)).off + 2, none⟩ = some (.int .i64 ((rd_T26 t394 x36_2).f2)) ∧ w'.cell? ⟨(ad400.add ((x36_2).toNat * 4)).block, (ad400.add ((x36_2).toNat * 4)).off + 3, none⟩ = some (.int .i64 ((rd_T26 t394 x36_2).f3))) (ds := []) #[false, false, false, false, false, false, false, false] (by kernel_rfl) rfl rfl ⟨(blk_cell BK401.out 0).trans rfl, (blk_cell BK401.out 1).trans rfl, (blk_cell BK401.out 2).trans rfl, (blk_cell BK401.out 3).trans rfl, hx403_0, hx403_1, hx403_2, hx403_3⟩ (fun hHeld => ?_); refine with_tabW casementlaw02_RectParts.tab13 casementlaw02_RectParts.bits13 (fun HT_ HW_ => ?_)
                            generalize wr.drew = w30 at HO_11 HO_24 BK392 BK401 HB hx403_0 hx403_1 hx403_2 hx403_3 hHeld ⊢
                            refine pure_ (i := 1) (N := some 40) (v := ?_) (a' := ?_) #[false, true, false, false, false, false, false, false] rfl rfl (any_of HT_.out (by kernel_rfl)) (fun _ _ _ h => h) (Or.inl ⟨by rfl, ?_⟩) ?_ ?_
                            rotate_left
                            · intro w'
                              go_simp
                              with_reducible rfl
                            rotate_left
                            · simp only [Act.put, List.setIfInBounds_toArray, List.set_cons_zero, List.set_cons_succ, i64_w, i32_w]
                              rfl
                            refine pure_ (i := 2) (N := some 41) (v := ?_) (a' := ?_) #[false, true, true, false, false, false, false, false] rfl rfl (any_of HT_.out (by kernel_rfl)) (fun _ _ _ h => h) (Or.inl ⟨by rfl, ?_⟩) ?_ ?_
                            rotate_left
                            · intro w'
                              go_simp
                              with_reducible rfl
                            rotate_left
                            · simp only [Act.put, List.setIfInBounds_toArray, List.set_cons_zero, List.set_cons_succ, i64_w, i32_w]
                              rfl
                            refine pure_ (i := 3) (N := some 42) (v := ?_) (a' := ?_) #[false, true, true, true, false, false, false, false] rfl rfl (any_of HT_.out (by kernel_rfl)) (fun _ _ _ h => h) (Or.inl ⟨by rfl, ?_⟩) ?_ ?_
                            rotate_left
                            · intro w'
                              go_simp
                              with_reducible rfl
                            rotate_left
                            · simp only [Act.put, List.setIfInBounds_toArray, List.set_cons_zero, List.set_cons_succ, i64_w, i32_w]
                              rfl
                            refine take_ (i := 0) (N := some 39) (v := ?_) (a' := ?_) #[true, true, true, true, false, false, false, false] rfl rfl (take_ofW HT_.out HW_.out (by kernel_rfl)) (fun _ _ _ h => h) (Or.inl ⟨by rfl, ?_⟩) hHeld ?_ ?_
                            rotate_left
                            · rintro w' ⟨s0, s1, s2, s3, s4, s5, s6, s7⟩
                              go_simp
                              with_reducible rfl
                            rotate_left
                            · simp only [Act.put, List.setIfInBounds_toArray, List.set_cons_zero, List.set_cons_succ, i64_w, i32_w]
                              rfl
                            refine take_ (i := 4) (N := some 43) (v := ?_) (a' := ?_) #[true, true, true, true, true, false, false, false] rfl rfl (take_ofW HT_.out HW_.out (by kernel_rfl)) (fun _ _ _ h => h) (Or.inl ⟨by rfl, ?_⟩) hHeld ?_ ?_
                            rotate_left
                            · rintro w' ⟨s0, s1, s2, s3, s4, s5, s6, s7⟩
                              go_simp
                              with_reducible rfl
                            rotate_left
                            · simp only [Act.put, List.setIfInBounds_toArray, List.set_cons_zero, List.set_cons_succ, i64_w, i32_w]
                              rfl
                            refine one_ (i := 5) (N := some 44) #[true, true, true, true, true, true, false, false] rfl rfl (one_of HT_.out (by kernel_rfl)) (by decide) (fun K hK => ?_)
                            refine goes_ Try.func26 (by kernel_rfl) rfl #[.agg #[.int .i64 ((rd_T26 t394 x26_1).f0), .int .i64 ((rd_T26 t394 x26_1).f1), .int .i64 ((rd_T26 t394 x26_1).f2), .int .i64 ((rd_T26 t394 x26_1).f3)], .agg #[.int .i64 ((rd_T26 t394 x36_2).f0), .int .i64 ((rd_T26 t394 x36_2).f1), .int .i64 ((rd_T26 t394 x36_2).f2), .int .i64 ((rd_T26 t394 x36_2).f3)]] (by rfl) rfl rfl (by (try simp only [List.map_toArray, List.map_cons, List.map_nil]); first | done | rfl | (simp only [List.length_drop, List.length_take]; rfl)) ?_
                            with_reducible refine (rect_Meet.calls ((rd_T26 t394 x26_1).f0) ((rd_T26 t394 x26_1).f1) ((rd_T26 t394 x26_1).f2) ((rd_T26 t394 x26_1).f3) ((rd_T26 t394 x36_2).f0) ((rd_T26 t394 x36_2).f1) ((rd_T26 t394 x36_2).f2) ((rd_T26 t394 x36_2).f3) t404 t405 t406 t407 _ A27.out).mono ?_
                            rintro e w31 ⟨rfl, hb⟩
                            have HS4_ := (hb.cell (World.block_lt_of_cell? _ _ (hHeld.2.2.2.2.1))).trans (hHeld.2.2.2.2.1)
                            have HS5_ := (hb.cell (World.block_lt_of_cell? _ _ (hHeld.2.2.2.2.2.1))).trans (hHeld.2.2.2.2.2.1)
                            have HS6_ := (hb.cell (World.block_lt_of_cell? _ _ (hHeld.2.2.2.2.2.2.1))).trans (hHeld.2.2.2.2.2.2.1)
                            have HS7_ := (hb.cell (World.block_lt_of_cell? _ _ (hHeld.2.2.2.2.2.2.2))).trans (hHeld.2.2.2.2.2.2.2)
                            refine ⟨_, rfl, ?_⟩
                            have n0_ := Aside0.mk (Kd.R_below (by (with_reducible repeat (first | apply Kd.R_alloc | apply Kd.R_drewN | apply Kd.R_drew)); exact HO_11.out) hb)
                            have n1_ := Aside0.mk (Kd.R_below (by (with_reducible repeat (first | apply Kd.R_alloc | apply Kd.R_drewN | apply Kd.R_drew)); exact HO_24.out) hb)
                            have n2_ := Aside0.mk (blk_below (g := gb392) (o := .cells #[.int .i64 a0_0, .int .i64 a0_1, .int .i64 a0_2, .int .i64 a0_3] 26 (0, 0)) (by (with_reducible repeat (first | refine blk_drewN ?_ _ | refine blk_drew ?_ | refine blk_alloc ?_ _)); exact BK392.out) hb)
                            have n3_ := Aside0.mk (blk_below (g := gb401) (o := .cells #[.int .i64 ((rd_T26 t394 x26_1).f0), .int .i64 ((rd_T26 t394 x26_1).f1), .int .i64 ((rd_T26 t394 x26_1).f2), .int .i64 ((rd_T26 t394 x26_1).f3)] 26 (0, 0)) (by (with_reducible repeat (first | refine blk_drewN ?_ _ | refine blk_drew ?_ | refine blk_alloc ?_ _)); exact BK401.out) hb)
                            have n4_ := Aside0.mk (below_step (by repeat (first | (with_reducible first | exact HB.out | apply below_alloc | apply pw_below_drewN | apply below_drew1 | refine below_set ?_ GE392.out | refine below_set ?_ GE401.out) | exact HB.out)) hb)
                            clear HO_11
                            clear HO_24
                            clear BK392
                            clear BK401
                            clear HB
                            have HO_11 := n0_
                            have HO_24 := n1_
                            have BK392 := n2_
                            have BK401 := n3_
                            have HB := n4_
                            clear n0_ n1_ n2_ n3_ n4_
                            (try clear hb)
                            (try clear hb2)
                            (try clear hk)
                            (try clear hi)
                            refine hK.out _ _ ⟨(blk_cell BK401.out 0).trans rfl, (blk_cell BK401.out 1).trans rfl, (blk_cell BK401.out 2).trans rfl, (blk_cell BK401.out 3).trans rfl, HS4_, HS5_, HS6_, HS7_⟩ (fun hHeld => ?_)
                            clear hK K
                            refine norm_ (a' := ?_) ?_ ?_
                            rotate_left
                            · show Act.put _ (some 44) _ = _
                              simp only [Act.put, List.setIfInBounds_toArray, List.set_cons_zero, List.set_cons_succ, i64_w, i32_w]
                              rfl
                            refine one_ (i := 6) (N := some 45) #[true, true, true, true, true, true, true, false] rfl rfl (one_of HT_.out (by kernel_rfl)) (by decide) (fun K hK => ?_)
                            refine goes_ Try.func21 (by kernel_rfl) rfl #[.agg #[.int .i64 t404, .int .i64 t405, .int .i64 t406, .int .i64 t407]] (by rfl) rfl rfl (by (try simp only [List.map_toArray, List.map_cons, List.map_nil]); first | done | rfl | (simp only [List.length_drop, List.length_take]; rfl)) ?_
                            with_reducible refine (rect_Empty.calls t404 t405 t406 t407 true _ A28.out).mono ?_
                            rintro e w32 ⟨rfl, hb⟩
                            have HS4_ := (hb.cell (World.block_lt_of_cell? _ _ (hHeld.2.2.2.2.1))).trans (hHeld.2.2.2.2.1)
                            have HS5_ := (hb.cell (World.block_lt_of_cell? _ _ (hHeld.2.2.2.2.2.1))).trans (hHeld.2.2.2.2.2.1)
                            have HS6_ := (hb.cell (World.block_lt_of_cell? _ _ (hHeld.2.2.2.2.2.2.1))).trans (hHeld.2.2.2.2.2.2.1)
                            have HS7_ := (hb.cell (World.block_lt_of_cell? _ _ (hHeld.2.2.2.2.2.2.2))).trans (hHeld.2.2.2.2.2.2.2)
                            refine ⟨_, rfl, ?_⟩
                            have n0_ := Aside0.mk (Kd.R_below (by (with_reducible repeat (first | apply Kd.R_alloc | apply Kd.R_drewN | apply Kd.R_drew)); exact HO_11.out) hb)
                            have n1_ := Aside0.mk (Kd.R_below (by (with_reducible repeat (first | apply Kd.R_alloc | apply Kd.R_drewN | apply Kd.R_drew)); exact HO_24.out) hb)
                            have n2_ := Aside0.mk (blk_below (g := gb392) (o := .cells #[.int .i64 a0_0, .int .i64 a0_1, .int .i64 a0_2, .int .i64 a0_3] 26 (0, 0)) (by (with_reducible repeat (first | refine blk_drewN ?_ _ | refine blk_drew ?_ | refine blk_alloc ?_ _)); exact BK392.out) hb)
                            have n3_ := Aside0.mk (blk_below (g := gb401) (o := .cells #[.int .i64 ((rd_T26 t394 x26_1).f0), .int .i64 ((rd_T26 t394 x26_1).f1), .int .i64 ((rd_T26 t394 x26_1).f2), .int .i64 ((rd_T26 t394 x26_1).f3)] 26 (0, 0)) (by (with_reducible repeat (first | refine blk_drewN ?_ _ | refine blk_drew ?_ | refine blk_alloc ?_ _)); exact BK401.out) hb)
                            have n4_ := Aside0.mk (below_step (by repeat (first | (with_reducible first | exact HB.out | apply below_alloc | apply pw_below_drewN | apply below_drew1 | refine below_set ?_ GE392.out | refine below_set ?_ GE401.out) | exact HB.out)) hb)
                            clear HO_11
                            clear HO_24
                            clear BK392
                            clear BK401
                            clear HB
                            have HO_11 := n0_
                            have HO_24 := n1_
                            have BK392 := n2_
                            have BK401 := n3_
                            have HB := n4_
                            clear n0_ n1_ n2_ n3_ n4_
                            (try clear hb)
                            (try clear hb2)
                            (try clear hk)
                            (try clear hi)
                            refine hK.out _ _ ⟨(blk_cell BK401.out 0).trans rfl, (blk_cell BK401.out 1).trans rfl, (blk_cell BK401.out 2).trans rfl, (blk_cell BK401.out 3).trans rfl, HS4_, HS5_, HS6_, HS7_⟩ (fun hHeld => ?_)
                            clear hK K
                            refine norm_ (a' := ?_) ?_ ?_
                            rotate_left
                            · show Act.put _ (some 45) _ = _
                              simp only [Act.put, List.setIfInBounds_toArray, List.set_cons_zero, List.set_cons_succ, i64_w, i32_w]
                              rfl
                            refine pure_ (i := 7) (N := some 46) (v := ?_) (a' := ?_) #[true, true, true, true, true, true, true, true] rfl rfl (any_of HT_.out (by kernel_rfl)) (fun _ _ _ h => h) (Or.inl ⟨by rfl, ?_⟩) ?_ ?_
                            rotate_left
                            · intro w'
                              go_simp
                              with_reducible rfl
                            rotate_left
                            · simp only [Act.put, List.setIfInBounds_toArray, List.set_cons_zero, List.set_cons_succ, i64_w, i32_w]
                              rfl
                            refine done_ (done_of HT_.out (by kernel_rfl)) ?_
                            try go_wp2
                            go_roundg k2
                            case measure => have := HK1.out; have := HK2.out; omega
                            case rel => exact ⟨(wrap64 (x36_2 + 1)), (by first | rfl | (simp; done) | (simp [*]; done)), H', ⟨by have := HK1.out; have := HK2.out; omega⟩, ⟨by (with_reducible repeat (first | apply Kd.R_alloc | apply Kd.R_drewN | apply Kd.R_drew)); exact HO_11.out⟩, ⟨by (with_reducible repeat (first | apply Kd.R_alloc | apply Kd.R_drewN | apply Kd.R_drew)); exact HO_24.out⟩, ⟨by (with_reducible repeat (first | refine blk_drewN ?_ _ | refine blk_drew ?_ | refine blk_alloc ?_ _)); exact BK392.out⟩, ⟨by (with_reducible repeat (first | refine blk_drewN ?_ _ | refine blk_drew ?_ | refine blk_alloc ?_ _)); exact BK401.out⟩, ⟨by repeat (first | (with_reducible first | exact HB.out | apply below_alloc | apply pw_below_drewN | apply below_drew1 | refine below_set ?_ GE392.out | refine below_set ?_ GE401.out) | exact HB.out)⟩⟩
                          · replace c29 := Bool.eq_false_iff.mpr c29
                            subst c29
                            have H1 : (some false) = some r := by rw [if_neg (show ¬ (false = true) by decide)] at H; exact H
                            clear H
                            have H := H1
                            clear H1
                            exact absurd ((Option.some.inj H).trans HRT.out) (by decide)
                        · rw [if_neg c26] at H
                          exact absurd H (by simp)
                      · rw [if_neg c25] at H
                        exact absurd H (by simp)
                    · rw [if_neg c24] at H
                      have c24b0 : decide (x36_2 < x26_1) = false := decide_eq_false c24
                      clear c24
                      replace H := Option.bind_eq_some_iff.mp H
                      obtain ⟨t409, A330, H⟩ := H
                      replace H : (if t409 = true then ((rect_Area.f ((rd_T26 t394 x26_1).f0) ((rd_T26 t394 x26_1).f1) ((rd_T26 t394 x26_1).f2) ((rd_T26 t394 x26_1).f3)).bind fun t410 => (casementlaw02_RectParts.l0 k2 l1 a3 a4 t394 (wrap64 (x12_1 + 1)) (wrap64 (x13_1 + t410)) t394 (t394.length : Int) (wrap64 (x26_1 + 1)) a0_0 a0_1 a0_2 a0_3)) else ((rect_Area.f ((rd_T26 t394 x26_1).f0) ((rd_T26 t394 x26_1).f1) ((rd_T26 t394 x26_1).f2) ((rd_T26 t394 x26_1).f3)).bind fun t411 => (casementlaw02_RectParts.l0 k2 l1 a3 a4 t394 x12_1 (wrap64 (x13_1 + t411)) t394 (t394.length : Int) (wrap64 (x26_1 + 1)) a0_0 a0_1 a0_2 a0_3))) = some r := H
                      have A33 := Aside0.mk A330
                      clear A330
                      by_cases c34 : t409 = true
                      · subst c34
                        have H1 : ((rect_Area.f ((rd_T26 t394 x26_1).f0) ((rd_T26 t394 x26_1).f1) ((rd_T26 t394 x26_1).f2) ((rd_T26 t394 x26_1).f3)).bind fun t410 => (casementlaw02_RectParts.l0 k2 l1 a3 a4 t394 (wrap64 (x12_1 + 1)) (wrap64 (x13_1 + t410)) t394 (t394.length : Int) (wrap64 (x26_1 + 1)) a0_0 a0_1 a0_2 a0_3)) = some r := by rw [if_pos rfl] at H; exact H
                        clear H
                        have H := H1
                        clear H1
                        replace H := Option.bind_eq_some_iff.mp H
                        obtain ⟨t410, A350, H⟩ := H
                        replace H : (casementlaw02_RectParts.l0 k2 l1 a3 a4 t394 (wrap64 (x12_1 + 1)) (wrap64 (x13_1 + t410)) t394 (t394.length : Int) (wrap64 (x26_1 + 1)) a0_0 a0_1 a0_2 a0_3) = some r := H
                        have A35 := Aside0.mk A350
                        clear A350
                        have H' := Aside0.mk H
                        clear H
                        have hnb36 := NB401_392.out
                        have hnc36 := NB392_401.out
                        have hcz37_0 : wr.cell? ⟨gb401, 0, none⟩ = some (.int .i64 ((rd_T26 t394 x26_1).f0)) := (blk_cell BK401.out 0).trans rfl
                        have hcz37_1 : wr.cell? ⟨gb401, 1, none⟩ = some (.int .i64 ((rd_T26 t394 x26_1).f1)) := (blk_cell BK401.out 1).trans rfl
                        have hcz37_2 : wr.cell? ⟨gb401, 2, none⟩ = some (.int .i64 ((rd_T26 t394 x26_1).f2)) := (blk_cell BK401.out 2).trans rfl
                        have hcz37_3 : wr.cell? ⟨gb401, 3, none⟩ = some (.int .i64 ((rd_T26 t394 x26_1).f3)) := (blk_cell BK401.out 3).trans rfl
                        have hfz37_0 := blk_frozen BK401.out 0
                        have hfz37_1 := blk_frozen BK401.out 1
                        have hfz37_2 := blk_frozen BK401.out 2
                        have hfz37_3 := blk_frozen BK401.out 3
                        go_wp2_with (first | ((with_reducible refine gate_callee (f := 22) rfl ?_); refine goesL_ (some 51) rfl rfl Try.func22 (by kernel_rfl) rfl #[.agg #[.int .i64 ((rd_T26 t394 x26_1).f0), .int .i64 ((rd_T26 t394 x26_1).f1), .int .i64 ((rd_T26 t394 x26_1).f2), .int .i64 ((rd_T26 t394 x26_1).f3)], .int .i64 a3, .int .i64 a4] rfl (by (try simp only [List.map_toArray, List.map_cons, List.map_nil]); first | done | rfl | (simp only [List.length_drop, List.length_take]; rfl)) ?_; (with_reducible refine (rect_Has.calls ((rd_T26 t394 x26_1).f0) ((rd_T26 t394 x26_1).f1) ((rd_T26 t394 x26_1).f2) ((rd_T26 t394 x26_1).f3) a3 a4 true _ A33.out).mono ?_); rintro e w38 ⟨rfl, hb⟩; refine ⟨_, rfl, ?_⟩; have n0_ := Aside0.mk (Kd.R_below (by (with_reducible repeat (first | apply Kd.R_alloc | apply Kd.R_drewN | apply Kd.R_drew)); exact HO_11.out) hb); have n1_ := Aside0.mk (Kd.R_below (by (with_reducible repeat (first | apply Kd.R_alloc | apply Kd.R_drewN | apply Kd.R_drew)); exact HO_24.out) hb); have n2_ := Aside0.mk (blk_below (g := gb392) (o := .cells #[.int .i64 a0_0, .int .i64 a0_1, .int .i64 a0_2, .int .i64 a0_3] 26 (0, 0)) (by (with_reducible repeat (first | refine blk_drewN ?_ _ | refine blk_drew ?_ | refine blk_alloc ?_ _)); exact BK392.out) hb); have n3_ := Aside0.mk (blk_below (g := gb401) (o := .cells #[.int .i64 ((rd_T26 t394 x26_1).f0), .int .i64 ((rd_T26 t394 x26_1).f1), .int .i64 ((rd_T26 t394 x26_1).f2), .int .i64 ((rd_T26 t394 x26_1).f3)] 26 (0, 0)) (by (with_reducible repeat (first | refine blk_drewN ?_ _ | refine blk_drew ?_ | refine blk_alloc ?_ _)); exact BK401.out) hb); have n4_ := Aside0.mk (below_step (by repeat (first | (with_reducible first | exact HB.out | apply below_alloc | apply pw_below_drewN | apply below_drew1 | refine below_set ?_ GE392.out | refine below_set ?_ GE401.out) | exact HB.out)) hb); clear HO_11; clear HO_24; clear BK392; clear BK401; clear HB; have HO_11 := n0_; have HO_24 := n1_; have BK392 := n2_; have BK401 := n3_; have HB := n4_; clear n0_ n1_ n2_ n3_ n4_; (try clear hb); (try clear hb2); (try clear hk); (try clear hi); have hcz39_0 : w38.cell? ⟨gb401, 0, none⟩ = some (.int .i64 ((rd_T26 t394 x26_1).f0)) := (blk_cell BK401.out 0).trans rfl; have hcz39_1 : w38.cell? ⟨gb401, 1, none⟩ = some (.int .i64 ((rd_T26 t394 x26_1).f1)) := (blk_cell BK401.out 1).trans rfl; have hcz39_2 : w38.cell? ⟨gb401, 2, none⟩ = some (.int .i64 ((rd_T26 t394 x26_1).f2)) := (blk_cell BK401.out 2).trans rfl; have hcz39_3 : w38.cell? ⟨gb401, 3, none⟩ = some (.int .i64 ((rd_T26 t394 x26_1).f3)) := (blk_cell BK401.out 3).trans rfl; have hfz39_0 := blk_frozen BK401.out 0; have hfz39_1 := blk_frozen BK401.out 1; have hfz39_2 := blk_frozen BK401.out 2; have hfz39_3 := blk_frozen BK401.out 3) | ((with_reducible refine gate_callee (f := 13) rfl ?_); refine goesL_ (some 56) rfl rfl Try.func13 (by kernel_rfl) rfl #[.agg #[.int .i64 ((rd_T26 t394 x26_1).f0), .int .i64 ((rd_T26 t394 x26_1).f1), .int .i64 ((rd_T26 t394 x26_1).f2), .int .i64 ((rd_T26 t394 x26_1).f3)]] rfl (by (try simp only [List.map_toArray, List.map_cons, List.map_nil]); first | done | rfl | (simp only [List.length_drop, List.length_take]; rfl)) ?_; (with_reducible refine (rect_Area.calls ((rd_T26 t394 x26_1).f0) ((rd_T26 t394 x26_1).f1) ((rd_T26 t394 x26_1).f2) ((rd_T26 t394 x26_1).f3) t410 _ A35.out).mono ?_); rintro e w40 ⟨rfl, hb⟩; refine ⟨_, rfl, ?_⟩; have n0_ := Aside0.mk (Kd.R_below (by (with_reducible repeat (first | apply Kd.R_alloc | apply Kd.R_drewN | apply Kd.R_drew)); exact HO_11.out) hb); have n1_ := Aside0.mk (Kd.R_below (by (with_reducible repeat (first | apply Kd.R_alloc | apply Kd.R_drewN | apply Kd.R_drew)); exact HO_24.out) hb); have n2_ := Aside0.mk (blk_below (g := gb392) (o := .cells #[.int .i64 a0_0, .int .i64 a0_1, .int .i64 a0_2, .int .i64 a0_3] 26 (0, 0)) (by (with_reducible repeat (first | refine blk_drewN ?_ _ | refine blk_drew ?_ | refine blk_alloc ?_ _)); exact BK392.out) hb); have n3_ := Aside0.mk (blk_below (g := gb401) (o := .cells #[.int .i64 ((rd_T26 t394 x26_1).f0), .int .i64 ((rd_T26 t394 x26_1).f1), .int .i64 ((rd_T26 t394 x26_1).f2), .int .i64 ((rd_T26 t394 x26_1).f3)] 26 (0, 0)) (by (with_reducible repeat (first | refine blk_drewN ?_ _ | refine blk_drew ?_ | refine blk_alloc ?_ _)); exact BK401.out) hb); have n4_ := Aside0.mk (below_step (by repeat (first | (with_reducible first | exact HB.out | apply below_alloc | apply pw_below_drewN | apply below_drew1 | refine below_set ?_ GE392.out | refine below_set ?_ GE401.out) | exact HB.out)) hb); clear HO_11; clear HO_24; clear BK392; clear BK401; clear HB; have HO_11 := n0_; have HO_24 := n1_; have BK392 := n2_; have BK401 := n3_; have HB := n4_; clear n0_ n1_ n2_ n3_ n4_; (try clear hb); (try clear hb2); (try clear hk); (try clear hi)))
                        go_roundg k2
                        case measure => have := HK1.out; have := HK2.out; omega
                        case rel => exact ⟨(wrap64 (x12_1 + 1)), (wrap64 (x13_1 + t410)), (wrap64 (x26_1 + 1)), (by first | rfl | (simp; done) | (simp [*]; done)), (by first | rfl | (simp; done) | (simp [*]; done)), (by first | rfl | (simp; done) | (simp [*]; done)), H', ⟨by have := HK1.out; have := HK2.out; omega⟩, ⟨by (with_reducible repeat (first | apply Kd.R_alloc | apply Kd.R_drewN | apply Kd.R_drew)); exact Kd.R_mono HO_11.out (fun _ hk => hk.1)⟩, ⟨by (with_reducible repeat (first | apply Kd.R_alloc | apply Kd.R_drewN | apply Kd.R_drew)); exact Kd.R_mono HO_24.out (fun _ hk => hk.1)⟩, ⟨by (with_reducible repeat (first | refine blk_drewN ?_ _ | refine blk_drew ?_ | refine blk_alloc ?_ _)); exact BK392.out⟩, ⟨by repeat (first | (with_reducible first | exact HB.out | apply below_alloc | apply pw_below_drewN | apply below_drew1 | refine below_set ?_ GE392.out | refine below_set ?_ GE401.out) | exact HB.out)⟩⟩
                      · replace c34 := Bool.eq_false_iff.mpr c34
                        subst c34
                        have H1 : ((rect_Area.f ((rd_T26 t394 x26_1).f0) ((rd_T26 t394 x26_1).f1) ((rd_T26 t394 x26_1).f2) ((rd_T26 t394 x26_1).f3)).bind fun t411 => (casementlaw02_RectParts.l0 k2 l1 a3 a4 t394 x12_1 (wrap64 (x13_1 + t411)) t394 (t394.length : Int) (wrap64 (x26_1 + 1)) a0_0 a0_1 a0_2 a0_3)) = some r := by rw [if_neg (show ¬ (false = true) by decide)] at H; exact H
                        clear H
                        have H := H1
                        clear H1
                        replace H := Option.bind_eq_some_iff.mp H
                        obtain ⟨t411, A410, H⟩ := H
                        replace H : (casementlaw02_RectParts.l0 k2 l1 a3 a4 t394 x12_1 (wrap64 (x13_1 + t411)) t394 (t394.length : Int) (wrap64 (x26_1 + 1)) a0_0 a0_1 a0_2 a0_3) = some r := H
                        have A41 := Aside0.mk A410
                        clear A410
                        have H' := Aside0.mk H
                        clear H
                        have hnb42 := NB401_392.out
                        have hnc42 := NB392_401.out
                        have hcz43_0 : wr.cell? ⟨gb401, 0, none⟩ = some (.int .i64 ((rd_T26 t394 x26_1).f0)) := (blk_cell BK401.out 0).trans rfl
                        have hcz43_1 : wr.cell? ⟨gb401, 1, none⟩ = some (.int .i64 ((rd_T26 t394 x26_1).f1)) := (blk_cell BK401.out 1).trans rfl
                        have hcz43_2 : wr.cell? ⟨gb401, 2, none⟩ = some (.int .i64 ((rd_T26 t394 x26_1).f2)) := (blk_cell BK401.out 2).trans rfl
                        have hcz43_3 : wr.cell? ⟨gb401, 3, none⟩ = some (.int .i64 ((rd_T26 t394 x26_1).f3)) := (blk_cell BK401.out 3).trans rfl
                        have hfz43_0 := blk_frozen BK401.out 0
                        have hfz43_1 := blk_frozen BK401.out 1
                        have hfz43_2 := blk_frozen BK401.out 2
                        have hfz43_3 := blk_frozen BK401.out 3
                        go_wp2_with (first | ((with_reducible refine gate_callee (f := 22) rfl ?_); refine goesL_ (some 51) rfl rfl Try.func22 (by kernel_rfl) rfl #[.agg #[.int .i64 ((rd_T26 t394 x26_1).f0), .int .i64 ((rd_T26 t394 x26_1).f1), .int .i64 ((rd_T26 t394 x26_1).f2), .int .i64 ((rd_T26 t394 x26_1).f3)], .int .i64 a3, .int .i64 a4] rfl (by (try simp only [List.map_toArray, List.map_cons, List.map_nil]); first | done | rfl | (simp only [List.length_drop, List.length_take]; rfl)) ?_; (with_reducible refine (rect_Has.calls ((rd_T26 t394 x26_1).f0) ((rd_T26 t394 x26_1).f1) ((rd_T26 t394 x26_1).f2) ((rd_T26 t394 x26_1).f3) a3 a4 false _ A33.out).mono ?_); rintro e w44 ⟨rfl, hb⟩; refine ⟨_, rfl, ?_⟩; have n0_ := Aside0.mk (Kd.R_below (by (with_reducible repeat (first | apply Kd.R_alloc | apply Kd.R_drewN | apply Kd.R_drew)); exact HO_11.out) hb); have n1_ := Aside0.mk (Kd.R_below (by (with_reducible repeat (first | apply Kd.R_alloc | apply Kd.R_drewN | apply Kd.R_drew)); exact HO_24.out) hb); have n2_ := Aside0.mk (blk_below (g := gb392) (o := .cells #[.int .i64 a0_0, .int .i64 a0_1, .int .i64 a0_2, .int .i64 a0_3] 26 (0, 0)) (by (with_reducible repeat (first | refine blk_drewN ?_ _ | refine blk_drew ?_ | refine blk_alloc ?_ _)); exact BK392.out) hb); have n3_ := Aside0.mk (blk_below (g := gb401) (o := .cells #[.int .i64 ((rd_T26 t394 x26_1).f0), .int .i64 ((rd_T26 t394 x26_1).f1), .int .i64 ((rd_T26 t394 x26_1).f2), .int .i64 ((rd_T26 t394 x26_1).f3)] 26 (0, 0)) (by (with_reducible repeat (first | refine blk_drewN ?_ _ | refine blk_drew ?_ | refine blk_alloc ?_ _)); exact BK401.out) hb); have n4_ := Aside0.mk (below_step (by repeat (first | (with_reducible first | exact HB.out | apply below_alloc | apply pw_below_drewN | apply below_drew1 | refine below_set ?_ GE392.out | refine below_set ?_ GE401.out) | exact HB.out)) hb); clear HO_11; clear HO_24; clear BK392; clear BK401; clear HB; have HO_11 := n0_; have HO_24 := n1_; have BK392 := n2_; have BK401 := n3_; have HB := n4_; clear n0_ n1_ n2_ n3_ n4_; (try clear hb); (try clear hb2); (try clear hk); (try clear hi); have hcz45_0 : w44.cell? ⟨gb401, 0, none⟩ = some (.int .i64 ((rd_T26 t394 x26_1).f0)) := (blk_cell BK401.out 0).trans rfl; have hcz45_1 : w44.cell? ⟨gb401, 1, none⟩ = some (.int .i64 ((rd_T26 t394 x26_1).f1)) := (blk_cell BK401.out 1).trans rfl; have hcz45_2 : w44.cell? ⟨gb401, 2, none⟩ = some (.int .i64 ((rd_T26 t394 x26_1).f2)) := (blk_cell BK401.out 2).trans rfl; have hcz45_3 : w44.cell? ⟨gb401, 3, none⟩ = some (.int .i64 ((rd_T26 t394 x26_1).f3)) := (blk_cell BK401.out 3).trans rfl; have hfz45_0 := blk_frozen BK401.out 0; have hfz45_1 := blk_frozen BK401.out 1; have hfz45_2 := blk_frozen BK401.out 2; have hfz45_3 := blk_frozen BK401.out 3) | ((with_reducible refine gate_callee (f := 13) rfl ?_); refine goesL_ (some 56) rfl rfl Try.func13 (by kernel_rfl) rfl #[.agg #[.int .i64 ((rd_T26 t394 x26_1).f0), .int .i64 ((rd_T26 t394 x26_1).f1), .int .i64 ((rd_T26 t394 x26_1).f2), .int .i64 ((rd_T26 t394 x26_1).f3)]] rfl (by (try simp only [List.map_toArray, List.map_cons, List.map_nil]); first | done | rfl | (simp only [List.length_drop, List.length_take]; rfl)) ?_; (with_reducible refine (rect_Area.calls ((rd_T26 t394 x26_1).f0) ((rd_T26 t394 x26_1).f1) ((rd_T26 t394 x26_1).f2) ((rd_T26 t394 x26_1).f3) t411 _ A41.out).mono ?_); rintro e w46 ⟨rfl, hb⟩; refine ⟨_, rfl, ?_⟩; have n0_ := Aside0.mk (Kd.R_below (by (with_reducible repeat (first | apply Kd.R_alloc | apply Kd.R_drewN | apply Kd.R_drew)); exact HO_11.out) hb); have n1_ := Aside0.mk (Kd.R_below (by (with_reducible repeat (first | apply Kd.R_alloc | apply Kd.R_drewN | apply Kd.R_drew)); exact HO_24.out) hb); have n2_ := Aside0.mk (blk_below (g := gb392) (o := .cells #[.int .i64 a0_0, .int .i64 a0_1, .int .i64 a0_2, .int .i64 a0_3] 26 (0, 0)) (by (with_reducible repeat (first | refine blk_drewN ?_ _ | refine blk_drew ?_ | refine blk_alloc ?_ _)); exact BK392.out) hb); have n3_ := Aside0.mk (blk_below (g := gb401) (o := .cells #[.int .i64 ((rd_T26 t394 x26_1).f0), .int .i64 ((rd_T26 t394 x26_1).f1), .int .i64 ((rd_T26 t394 x26_1).f2), .int .i64 ((rd_T26 t394 x26_1).f3)] 26 (0, 0)) (by (with_reducible repeat (first | refine blk_drewN ?_ _ | refine blk_drew ?_ | refine blk_alloc ?_ _)); exact BK401.out) hb); have n4_ := Aside0.mk (below_step (by repeat (first | (with_reducible first | exact HB.out | apply below_alloc | apply pw_below_drewN | apply below_drew1 | refine below_set ?_ GE392.out | refine below_set ?_ GE401.out) | exact HB.out)) hb); clear HO_11; clear HO_24; clear BK392; clear BK401; clear HB; have HO_11 := n0_; have HO_24 := n1_; have BK392 := n2_; have BK401 := n3_; have HB := n4_; clear n0_ n1_ n2_ n3_ n4_; (try clear hb); (try clear hb2); (try clear hk); (try clear hi)))
                        go_roundg k2
                        case measure => have := HK1.out; have := HK2.out; omega
                        case rel => exact ⟨(x12_1), (wrap64 (x13_1 + t411)), (wrap64 (x26_1 + 1)), (by first | rfl | (simp; done) | (simp [*]; done)), (by first | rfl | (simp; done) | (simp [*]; done)), (by first | rfl | (simp; done) | (simp [*]; done)), H', ⟨by have := HK1.out; have := HK2.out; omega⟩, ⟨by (with_reducible repeat (first | apply Kd.R_alloc | apply Kd.R_drewN | apply Kd.R_drew)); exact Kd.R_mono HO_11.out (fun _ hk => hk.1)⟩, ⟨by (with_reducible repeat (first | apply Kd.R_alloc | apply Kd.R_drewN | apply Kd.R_drew)); exact Kd.R_mono HO_24.out (fun _ hk => hk.1)⟩, ⟨by (with_reducible repeat (first | refine blk_drewN ?_ _ | refine blk_drew ?_ | refine blk_alloc ?_ _)); exact BK392.out⟩, ⟨by repeat (first | (with_reducible first | exact HB.out | apply below_alloc | apply pw_below_drewN | apply below_drew1 | refine below_set ?_ GE392.out | refine below_set ?_ GE401.out) | exact HB.out)⟩⟩
              · replace c18 := Bool.eq_false_iff.mpr c18
                subst c18
                have H1 : (some false) = some r := by rw [if_neg (show ¬ (false = true) by decide)] at H; exact H
                clear H
                have H := H1
                clear H1
                exact absurd ((Option.some.inj H).trans HRT.out) (by decide)
            · rw [if_neg c16] at H
              exact absurd H (by simp)
          · rw [if_neg c15] at H
            exact absurd H (by simp)
        · rw [if_neg c14] at H
          have c14b0 : decide (x26_1 < (t394.length : Int)) = false := decide_eq_false c14
          clear c14
          replace H := Option.bind_eq_some_iff.mp H
          obtain ⟨t397, A470, H⟩ := H
          replace H : (if (t394.length : Int) = (mn (l1.length : Int) 16) then ((rect_Area.f a0_0 a0_1 a0_2 a0_3).bind fun t398 => (if x13_1 ≤ t398 then (if x13_1 = t397 then ((rect_Has.f a0_0 a0_1 a0_2 a0_3 a3 a4).bind fun t399 => (if ((x12_1 == 1) == t399) = true then (some (decide (x12_1 ≤ 1))) else (some false))) else (some (decide (x12_1 ≤ 1)))) else (some false))) else (some false)) = some r := H
          have A47 := Aside0.mk A470
          clear A470
          obtain ⟨ji48, hji48⟩ : ∃ j_ : Int, (mn (l1.length : Int) 16) = j_ := ⟨_, rfl⟩
          replace H : (if (t394.length : Int) = (ji48) then ((rect_Area.f a0_0 a0_1 a0_2 a0_3).bind fun t398 => (if x13_1 ≤ t398 then (if x13_1 = t397 then ((rect_Has.f a0_0 a0_1 a0_2 a0_3 a3 a4).bind fun t399 => (if ((x12_1 == 1) == t399) = true then (some (decide (x12_1 ≤ 1))) else (some false))) else (some (decide (x12_1 ≤ 1)))) else (some false))) else (some false)) = some r := by first | (rw [hji48] at H; exact H) | (simp only [hji48] at H ⊢; exact H)
          (try rw [hji48] at A47)
          (try (have hji48h : ji48 ≤ 16 := by (rw [← hji48]; unfold mn; (repeat' split) <;> omega)))
          (try (have hji48g : ji48 ≤ 64 := by omega))
          (try (have hji48l : 0 ≤ ji48 := by (rw [← hji48]; unfold mn; (repeat' split) <;> omega)))
          (try (have hji48m : 0 ≤ ji48 := by omega))
          (try (have hji48mx : max ji48 0 = ji48 := by omega))
          have hji48_ : (if 16 < (l1.length : Int) then 16 else (l1.length : Int)) = ji48 := hji48
          by_cases c49 : (t394.length : Int) = (ji48)
          · rw [if_pos c49] at H
            have c49b0 : ((t394.length : Int) == (ji48)) = true := beq_iff_eq.mpr c49
            have c49b1 : ((t394.length : Int) != (ji48)) = false := bne_eq_false_iff_eq.mpr c49
            clear c49
            replace H := Option.bind_eq_some_iff.mp H
            obtain ⟨t398, A500, H⟩ := H
            replace H : (if x13_1 ≤ t398 then (if x13_1 = t397 then ((rect_Has.f a0_0 a0_1 a0_2 a0_3 a3 a4).bind fun t399 => (if ((x12_1 == 1) == t399) = true then (some (decide (x12_1 ≤ 1))) else (some false))) else (some (decide (x12_1 ≤ 1)))) else (some false)) = some r := H
            have A50 := Aside0.mk A500
            clear A500
            by_cases c51 : x13_1 ≤ t398
            · rw [if_pos c51] at H
              have c51b0 : decide (x13_1 ≤ t398) = true := decide_eq_true c51
              clear c51
              by_cases c52 : x13_1 = t397
              · rw [if_pos c52] at H
                have c52b0 : (x13_1 == t397) = true := beq_iff_eq.mpr c52
                have c52b1 : (x13_1 != t397) = false := bne_eq_false_iff_eq.mpr c52
                clear c52
                replace H := Option.bind_eq_some_iff.mp H
                obtain ⟨t399, A530, H⟩ := H
                replace H : (if ((x12_1 == 1) == t399) = true then (some (decide (x12_1 ≤ 1))) else (some false)) = some r := H
                have A53 := Aside0.mk A530
                clear A530
                by_cases c54 : ((x12_1 == 1) == t399) = true
                · rw [if_pos c54] at H
                  have c54b0 : ((x12_1 == 1) == t399) = true := c54
                  (try (have c54b1 : decide ((x12_1 == 1) = t399) = true := by simpa using c54))
                  (try (have c54b2 : ((x12_1 == 1) == t399) = true := by simpa using c54))
                  (try (have c54b3 : (((x12_1 == 1)) = (t399)) = True := eq_true ((fun (a_ b_ : Bool) (h_ : ((a_ == b_) = true)) => (show (a_ = b_) from by revert h_; cases a_ <;> cases b_ <;> decide)) ((x12_1 == 1)) (t399) c54)))
                  clear c54
                  obtain rfl := Option.some.inj H
                  have hcz55_0 : wr.cell? ⟨gb392, 0, none⟩ = some (.int .i64 a0_0) := (blk_cell BK392.out 0).trans rfl
                  have hcz55_1 : wr.cell? ⟨gb392, 1, none⟩ = some (.int .i64 a0_1) := (blk_cell BK392.out 1).trans rfl
                  have hcz55_2 : wr.cell? ⟨gb392, 2, none⟩ = some (.int .i64 a0_2) := (blk_cell BK392.out 2).trans rfl
                  have hcz55_3 : wr.cell? ⟨gb392, 3, none⟩ = some (.int .i64 a0_3) := (blk_cell BK392.out 3).trans rfl
                  have hfz55_0 := blk_frozen BK392.out 0
                  have hfz55_1 := blk_frozen BK392.out 1
                  have hfz55_2 := blk_frozen BK392.out 2
                  have hfz55_3 := blk_frozen BK392.out 3
                  go_wp2_with (first | ((with_reducible refine gate_callee (f := 13) rfl ?_); refine goesL_ (some 61) rfl rfl Try.func13 (by kernel_rfl) rfl #[.agg #[.int .i64 a0_0, .int .i64 a0_1, .int .i64 a0_2, .int .i64 a0_3]] rfl (by (try simp only [List.map_toArray, List.map_cons, List.map_nil]); first | done | rfl | (simp only [List.length_drop, List.length_take]; rfl)) ?_; (with_reducible refine (rect_Area.calls a0_0 a0_1 a0_2 a0_3 t397 _ A47.out).mono ?_); rintro e w56 ⟨rfl, hb⟩; refine ⟨_, rfl, ?_⟩; have n0_ := Aside0.mk (Kd.R_below (by (with_reducible repeat (first | apply Kd.R_alloc | apply Kd.R_drewN | apply Kd.R_drew)); exact HO_11.out) hb); have n1_ := Aside0.mk (Kd.R_below (by (with_reducible repeat (first | apply Kd.R_alloc | apply Kd.R_drewN | apply Kd.R_drew)); exact HO_24.out) hb); have n2_ := Aside0.mk (blk_below (g := gb392) (o := .cells #[.int .i64 a0_0, .int .i64 a0_1, .int .i64 a0_2, .int .i64 a0_3] 26 (0, 0)) (by (with_reducible repeat (first | refine blk_drewN ?_ _ | refine blk_drew ?_ | refine blk_alloc ?_ _)); exact BK392.out) hb); have n3_ := Aside0.mk (below_step (by repeat (first | (with_reducible first | exact HB.out | apply below_alloc | apply pw_below_drewN | apply below_drew1 | refine below_set ?_ GE392.out) | exact HB.out)) hb); clear HO_11; clear HO_24; clear BK392; clear HB; have HO_11 := n0_; have HO_24 := n1_; have BK392 := n2_; have HB := n3_; clear n0_ n1_ n2_ n3_; (try clear hb); (try clear hb2); (try clear hk); (try clear hi); have hcz57_0 : w56.cell? ⟨gb392, 0, none⟩ = some (.int .i64 a0_0) := (blk_cell BK392.out 0).trans rfl; have hcz57_1 : w56.cell? ⟨gb392, 1, none⟩ = some (.int .i64 a0_1) := (blk_cell BK392.out 1).trans rfl; have hcz57_2 : w56.cell? ⟨gb392, 2, none⟩ = some (.int .i64 a0_2) := (blk_cell BK392.out 2).trans rfl; have hcz57_3 : w56.cell? ⟨gb392, 3, none⟩ = some (.int .i64 a0_3) := (blk_cell BK392.out 3).trans rfl; have hfz57_0 := blk_frozen BK392.out 0; have hfz57_1 := blk_frozen BK392.out 1; have hfz57_2 := blk_frozen BK392.out 2; have hfz57_3 := blk_frozen BK392.out 3) | (go_at_call 13; (with_reducible refine (rect_Area.calls a0_0 a0_1 a0_2 a0_3 t398 _ A50.out).mono ?_); rintro e w58 ⟨rfl, hb⟩; have n0_ := Aside0.mk (Kd.R_below (by (with_reducible repeat (first | apply Kd.R_alloc | apply Kd.R_drewN | apply Kd.R_drew)); exact HO_11.out) hb); have n1_ := Aside0.mk (Kd.R_below (by (with_reducible repeat (first | apply Kd.R_alloc | apply Kd.R_drewN | apply Kd.R_drew)); exact HO_24.out) hb); have n2_ := Aside0.mk (blk_below (g := gb392) (o := .cells #[.int .i64 a0_0, .int .i64 a0_1, .int .i64 a0_2, .int .i64 a0_3] 26 (0, 0)) (by (with_reducible repeat (first | refine blk_drewN ?_ _ | refine blk_drew ?_ | refine blk_alloc ?_ _)); exact BK392.out) hb); have n3_ := Aside0.mk (below_step (by repeat (first | (with_reducible first | exact HB.out | apply below_alloc | apply pw_below_drewN | apply below_drew1 | refine below_set ?_ GE392.out) | exact HB.out)) hb); clear HO_11; clear HO_24; clear BK392; clear HB; have HO_11 := n0_; have HO_24 := n1_; have BK392 := n2_; have HB := n3_; clear n0_ n1_ n2_ n3_; (try clear hb); (try clear hb2); (try clear hk); (try clear hi); have hcz59_0 : w58.cell? ⟨gb392, 0, none⟩ = some (.int .i64 a0_0) := (blk_cell BK392.out 0).trans rfl; have hcz59_1 : w58.cell? ⟨gb392, 1, none⟩ = some (.int .i64 a0_1) := (blk_cell BK392.out 1).trans rfl; have hcz59_2 : w58.cell? ⟨gb392, 2, none⟩ = some (.int .i64 a0_2) := (blk_cell BK392.out 2).trans rfl; have hcz59_3 : w58.cell? ⟨gb392, 3, none⟩ = some (.int .i64 a0_3) := (blk_cell BK392.out 3).trans rfl; have hfz59_0 := blk_frozen BK392.out 0; have hfz59_1 := blk_frozen BK392.out 1; have hfz59_2 := blk_frozen BK392.out 2; have hfz59_3 := blk_frozen BK392.out 3) | (go_at_call 22; (with_reducible refine (rect_Has.calls a0_0 a0_1 a0_2 a0_3 a3 a4 t399 _ A53.out).mono ?_); rintro e w60 ⟨rfl, hb⟩; have n0_ := Aside0.mk (Kd.R_below (by (with_reducible repeat (first | apply Kd.R_alloc | apply Kd.R_drewN | apply Kd.R_drew)); exact HO_11.out) hb); have n1_ := Aside0.mk (Kd.R_below (by (with_reducible repeat (first | apply Kd.R_alloc | apply Kd.R_drewN | apply Kd.R_drew)); exact HO_24.out) hb); have n2_ := Aside0.mk (blk_below (g := gb392) (o := .cells #[.int .i64 a0_0, .int .i64 a0_1, .int .i64 a0_2, .int .i64 a0_3] 26 (0, 0)) (by (with_reducible repeat (first | refine blk_drewN ?_ _ | refine blk_drew ?_ | refine blk_alloc ?_ _)); exact BK392.out) hb); have n3_ := Aside0.mk (below_step (by repeat (first | (with_reducible first | exact HB.out | apply below_alloc | apply pw_below_drewN | apply below_drew1 | refine below_set ?_ GE392.out) | exact HB.out)) hb); clear HO_11; clear HO_24; clear BK392; clear HB; have HO_11 := n0_; have HO_24 := n1_; have BK392 := n2_; have HB := n3_; clear n0_ n1_ n2_ n3_; (try clear hb); (try clear hb2); (try clear hk); (try clear hi)))
                  go_ret
                  exact ⟨by first | rfl | (simp [errW_none, errW_some] <;> rfl) | (simp only [← hji48]; first | rfl | (simp [errW_none, errW_some] <;> rfl)) | (simp [*, errW_none, errW_some] <;> rfl), by repeat (first | (with_reducible first | exact HB.out | apply below_alloc | apply pw_below_drewN | apply below_drew1 | refine below_set ?_ GE392.out) | exact HB.out)⟩
                · rw [if_neg c54] at H
                  have c54b0 : ((x12_1 == 1) == t399) = false := by simpa using c54
                  (try (have c54b1 : decide ((x12_1 == 1) = t399) = false := by simpa using c54))
                  (try (have c54b2 : ((x12_1 == 1) == t399) = false := by simpa using c54))
                  (try (have c54b3 : ¬ ((x12_1 == 1) = t399) := by simpa using c54))
                  (try (have c54b4 : (((x12_1 == 1)) = (t399)) = False := eq_false ((fun (a_ b_ : Bool) (h_ : ¬ ((a_ == b_) = true)) => (show ¬ (a_ = b_) from by revert h_; cases a_ <;> cases b_ <;> decide)) ((x12_1 == 1)) (t399) c54)))
                  clear c54
                  exact absurd ((Option.some.inj H).trans HRT.out) (by decide)
              · rw [if_neg c52] at H
                have c52b0 : (x13_1 == t397) = false := beq_eq_false_iff_ne.mpr c52
                have c52b1 : (x13_1 != t397) = true := bne_iff_ne.mpr c52
                obtain rfl := Option.some.inj H
                have hcz61_0 : wr.cell? ⟨gb392, 0, none⟩ = some (.int .i64 a0_0) := (blk_cell BK392.out 0).trans rfl
                have hcz61_1 : wr.cell? ⟨gb392, 1, none⟩ = some (.int .i64 a0_1) := (blk_cell BK392.out 1).trans rfl
                have hcz61_2 : wr.cell? ⟨gb392, 2, none⟩ = some (.int .i64 a0_2) := (blk_cell BK392.out 2).trans rfl
                have hcz61_3 : wr.cell? ⟨gb392, 3, none⟩ = some (.int .i64 a0_3) := (blk_cell BK392.out 3).trans rfl
                have hfz61_0 := blk_frozen BK392.out 0
                have hfz61_1 := blk_frozen BK392.out 1
                have hfz61_2 := blk_frozen BK392.out 2
                have hfz61_3 := blk_frozen BK392.out 3
                go_wp2_with (first | ((with_reducible refine gate_callee (f := 13) rfl ?_); refine goesL_ (some 61) rfl rfl Try.func13 (by kernel_rfl) rfl #[.agg #[.int .i64 a0_0, .int .i64 a0_1, .int .i64 a0_2, .int .i64 a0_3]] rfl (by (try simp only [List.map_toArray, List.map_cons, List.map_nil]); first | done | rfl | (simp only [List.length_drop, List.length_take]; rfl)) ?_; (with_reducible refine (rect_Area.calls a0_0 a0_1 a0_2 a0_3 t397 _ A47.out).mono ?_); rintro e w62 ⟨rfl, hb⟩; refine ⟨_, rfl, ?_⟩; have n0_ := Aside0.mk (Kd.R_below (by (with_reducible repeat (first | apply Kd.R_alloc | apply Kd.R_drewN | apply Kd.R_drew)); exact HO_11.out) hb); have n1_ := Aside0.mk (Kd.R_below (by (with_reducible repeat (first | apply Kd.R_alloc | apply Kd.R_drewN | apply Kd.R_drew)); exact HO_24.out) hb); have n2_ := Aside0.mk (blk_below (g := gb392) (o := .cells #[.int .i64 a0_0, .int .i64 a0_1, .int .i64 a0_2, .int .i64 a0_3] 26 (0, 0)) (by (with_reducible repeat (first | refine blk_drewN ?_ _ | refine blk_drew ?_ | refine blk_alloc ?_ _)); exact BK392.out) hb); have n3_ := Aside0.mk (below_step (by repeat (first | (with_reducible first | exact HB.out | apply below_alloc | apply pw_below_drewN | apply below_drew1 | refine below_set ?_ GE392.out) | exact HB.out)) hb); clear HO_11; clear HO_24; clear BK392; clear HB; have HO_11 := n0_; have HO_24 := n1_; have BK392 := n2_; have HB := n3_; clear n0_ n1_ n2_ n3_; (try clear hb); (try clear hb2); (try clear hk); (try clear hi); have hcz63_0 : w62.cell? ⟨gb392, 0, none⟩ = some (.int .i64 a0_0) := (blk_cell BK392.out 0).trans rfl; have hcz63_1 : w62.cell? ⟨gb392, 1, none⟩ = some (.int .i64 a0_1) := (blk_cell BK392.out 1).trans rfl; have hcz63_2 : w62.cell? ⟨gb392, 2, none⟩ = some (.int .i64 a0_2) := (blk_cell BK392.out 2).trans rfl; have hcz63_3 : w62.cell? ⟨gb392, 3, none⟩ = some (.int .i64 a0_3) := (blk_cell BK392.out 3).trans rfl; have hfz63_0 := blk_frozen BK392.out 0; have hfz63_1 := blk_frozen BK392.out 1; have hfz63_2 := blk_frozen BK392.out 2; have hfz63_3 := blk_frozen BK392.out 3) | (go_at_call 13; (with_reducible refine (rect_Area.calls a0_0 a0_1 a0_2 a0_3 t398 _ A50.out).mono ?_); rintro e w64 ⟨rfl, hb⟩; have n0_ := Aside0.mk (Kd.R_below (by (with_reducible repeat (first | apply Kd.R_alloc | apply Kd.R_drewN | apply Kd.R_drew)); exact HO_11.out) hb); have n1_ := Aside0.mk (Kd.R_below (by (with_reducible repeat (first | apply Kd.R_alloc | apply Kd.R_drewN | apply Kd.R_drew)); exact HO_24.out) hb); have n2_ := Aside0.mk (blk_below (g := gb392) (o := .cells #[.int .i64 a0_0, .int .i64 a0_1, .int .i64 a0_2, .int .i64 a0_3] 26 (0, 0)) (by (with_reducible repeat (first | refine blk_drewN ?_ _ | refine blk_drew ?_ | refine blk_alloc ?_ _)); exact BK392.out) hb); have n3_ := Aside0.mk (below_step (by repeat (first | (with_reducible first | exact HB.out | apply below_alloc | apply pw_below_drewN | apply below_drew1 | refine below_set ?_ GE392.out) | exact HB.out)) hb); clear HO_11; clear HO_24; clear BK392; clear HB; have HO_11 := n0_; have HO_24 := n1_; have BK392 := n2_; have HB := n3_; clear n0_ n1_ n2_ n3_; (try clear hb); (try clear hb2); (try clear hk); (try clear hi)))
                go_ret
                exact ⟨by first | rfl | (simp [errW_none, errW_some] <;> rfl) | (simp only [← hji48]; first | rfl | (simp [errW_none, errW_some] <;> rfl)) | (simp [*, errW_none, errW_some] <;> rfl), by repeat (first | (with_reducible first | exact HB.out | apply below_alloc | apply pw_below_drewN | apply below_drew1 | refine below_set ?_ GE392.out) | exact HB.out)⟩
            · rw [if_neg c51] at H
              have c51b0 : decide (x13_1 ≤ t398) = false := decide_eq_false c51
              clear c51
              exact absurd ((Option.some.inj H).trans HRT.out) (by decide)
          · rw [if_neg c49] at H
            have c49b0 : ((t394.length : Int) == (ji48)) = false := beq_eq_false_iff_ne.mpr c49
            have c49b1 : ((t394.length : Int) != (ji48)) = true := bne_iff_ne.mpr c49
            exact absurd ((Option.some.inj H).trans HRT.out) (by decide)
  · replace c7 := Bool.eq_false_iff.mpr c7
    subst c7
    have H1 : (some false) = some r := by rw [if_neg (show ¬ (false = true) by decide)] at H; exact H
    clear H
    have H := H1
    clear H1
    exact absurd ((Option.some.inj H).trans HRT.out) (by decide)

def casementlaw02_RectParts.Pure : Prop := ∀ (a0_0 : Int) (a0_1 : Int) (a0_2 : Int) (a0_3 : Int) (l1 : List Int) (a2 : Bool) (a3 : Int) (a4 : Int), ((Lit.int .i64 a0_0).wf = true) → ((Lit.int .i64 a0_1).wf = true) → ((Lit.int .i64 a0_2).wf = true) → ((Lit.int .i64 a0_3).wf = true) → l1.length ≤ maxLen → l1.length * 8 ≤ 140737488351232 → (∀ y_ ∈ l1, (Lit.int .i64 y_).wf = true) → ((Lit.int .i64 a3).wf = true) → ((Lit.int .i64 a4).wf = true) → ∃ k, casementlaw02_RectParts.f k a0_0 a0_1 a0_2 a0_3 l1 a2 a3 a4 = some true
theorem casementlaw02_RectParts.walk (P : casementlaw02_RectParts.Pure) (a0_0 : Int) (a0_1 : Int) (a0_2 : Int) (a0_3 : Int) (A1 : Option Addr) (c1 : Nat) (l1 : List Int) (a2 : Bool) (a3 : Int) (a4 : Int) (w : World) (wl0 : ((Lit.int .i64 a0_0).wf = true)) (wl1 : ((Lit.int .i64 a0_1).wf = true)) (wl2 : ((Lit.int .i64 a0_2).wf = true)) (wl3 : ((Lit.int .i64 a0_3).wf = true)) (wl4 : l1.length ≤ maxLen) (wl5 : l1.length * 8 ≤ 140737488351232) (wl6 : (∀ y_ ∈ l1, (Lit.int .i64 y_).wf = true)) (wl7 : ((Lit.int .i64 a3).wf = true)) (wl8 : ((Lit.int .i64 a4).wf = true)) (hr1 : Kd.C (Kd.int .i64) w A1 l1.length l1) (hc1 : l1.length ≤ c1) :
    Calls Try.prog 6 #[.agg #[.int .i64 a0_0, .int .i64 a0_1, .int .i64 a0_2, .int .i64 a0_3], .slice A1 l1.length c1, .bool a2, .int .i64 a3, .int .i64 a4] w fun e w' => e = .returned (.bool true) ∧ Below w.heap.size w w' := by
  obtain ⟨k, h⟩ := P a0_0 a0_1 a0_2 a0_3 l1 a2 a3 a4 wl0 wl1 wl2 wl3 wl4 wl5 wl6 wl7 wl8
  refine (casementlaw02_RectParts.calls k a0_0 a0_1 a0_2 a0_3 _ _ l1 a2 a3 a4 true w hr1 hc1 h rfl).mono ?_
  rintro e w' ⟨rfl, hd⟩
  exact ⟨rfl, hd⟩

end Go.Proofs.Ytmokmkaipcojkaa.Q
