-- written by a program of this session after the way of the kit's print; not the kit's own print. Lean checks it.
import Derived.Test.YtmokmkaipcojkaaQx0
import Derived.Test.YtmokmkaipcojkaaQx7
import Derived.Test.YtmokmkaipcojkaaQx8
import Derived.Test.YtmokmkaipcojkaaQx14
import Derived.Test.YtmokmkaipcojkaaQx22
import Derived.Test.YtmokmkaipcojkaaQx39
namespace Go.Proofs.Ytmokmkaipcojkaa.Q
open Go.RowKit Go.Proofs.YtmokmkaipcojkaaW.PrintWords Go.Proofs.YtmokmkaipcojkaaW.PrintLast Go.Proofs.YtmokmkaipcojkaaW.PrintMore
attribute [local go_sem] max2_int min2_int max_two min_two max_three min_three max_four min_four   -- for this text's walks alone
set_option linter.unusedVariables false
set_option linter.unusedSimpArgs false

/-! ### casementlaw02_RectCells: function 11 -/
mutual
def casementlaw02_RectCells.l0 : Nat → Int → Int → Bool → Bool → Int → List (S26) → Int → Int → Int → Int → Int → Int → Int → Int → Int → Int → Option (Bool)
  | 0, _, _, _, _, _, _, _, _, _, _, _, _, _, _, _, _ => none
  | k + 1, x2, x3, x9, x10, x11, x27, x28, x29, x636000, x636001, x636002, x636003, x637000, x637001, x637002, x637003 => if x29 < x28 then (if 0 ≤ x29 then (if x29 < (x27.length : Int) then ((rect_Has.f ((rd_T26 x27 x29).f0) ((rd_T26 x27 x29).f1) ((rd_T26 x27 x29).f2) ((rd_T26 x27 x29).f3) x2 x3).bind fun t645 => (if t645 = true then (casementlaw02_RectCells.l0 k x2 x3 x9 x10 (wrap64 (x11 + 1)) x27 x28 (wrap64 (x29 + 1)) x636000 x636001 x636002 x636003 x637000 x637001 x637002 x637003) else (casementlaw02_RectCells.l0 k x2 x3 x9 x10 x11 x27 x28 (wrap64 (x29 + 1)) x636000 x636001 x636002 x636003 x637000 x637001 x637002 x637003))) else (none)) else (none)) else ((rect_Meet.f x636000 x636001 x636002 x636003 x637000 x637001 x637002 x637003).bind fun bt646 => ((rect_Has.f bt646.1 bt646.2.1 bt646.2.2.1 bt646.2.2.2 x2 x3).bind fun t650 => (if x9 = true then (if (t650 != x10) = true then (casementlaw02_RectCells.j1 k x2 x3 x9 x10 true x636000 x636001 x636002 x636003 x637000 x637001 x637002 x637003) else (if ((x11 == 1) != (!x10)) = true then (casementlaw02_RectCells.j1 k x2 x3 x9 x10 true x636000 x636001 x636002 x636003 x637000 x637001 x637002 x637003) else (casementlaw02_RectCells.j1 k x2 x3 x9 x10 (decide (x11 > 1)) x636000 x636001 x636002 x636003 x637000 x637001 x637002 x637003))) else (if (t650 != false) = true then (casementlaw02_RectCells.j1 k x2 x3 x9 x10 true x636000 x636001 x636002 x636003 x637000 x637001 x637002 x637003) else (if ((x11 == 1) != false) = true then (casementlaw02_RectCells.j1 k x2 x3 x9 x10 true x636000 x636001 x636002 x636003 x637000 x637001 x637002 x637003) else (casementlaw02_RectCells.j1 k x2 x3 x9 x10 (decide (x11 > 1)) x636000 x636001 x636002 x636003 x637000 x637001 x637002 x637003))))))
def casementlaw02_RectCells.j1 : Nat → Int → Int → Bool → Bool → Bool → Int → Int → Int → Int → Int → Int → Int → Int → Option (Bool)
  | 0, _, _, _, _, _, _, _, _, _, _, _, _, _ => none
  | k + 1, x2, x3, x9, x10, x64, x636000, x636001, x636002, x636003, x637000, x637001, x637002, x637003 => if x64 = true then (some false) else ((rect_Hull.f x636000 x636001 x636002 x636003 x637000 x637001 x637002 x637003).bind fun bt651 => (if bt651.2.2.1 = 200 then (some true) else (if bt651.2.2.2 = 200 then (some true) else ((rect_Has.f bt651.1 bt651.2.1 bt651.2.2.1 bt651.2.2.2 x2 x3).bind fun t656 => (if t656 = true then (some true) else (if x9 = true then (some false) else (some (!x10))))))))
end
def casementlaw02_RectCells.f (k : Nat) (a0_0 : Int) (a0_1 : Int) (a0_2 : Int) (a0_3 : Int) (a1_0 : Int) (a1_1 : Int) (a1_2 : Int) (a1_3 : Int) (a2 : Int) (a3 : Int) : Option (Bool) := (casementlaw02_alive.f k).bind fun t637 => (if t637 = true then ((rect_Has.f a0_0 a0_1 a0_2 a0_3 a2 a3).bind fun t638 => ((rect_Has.f a1_0 a1_1 a1_2 a1_3 a2 a3).bind fun t639 => ((rect_Minus.f k a0_0 a0_1 a0_2 a0_3 a1_0 a1_1 a1_2 a1_3).bind fun t640 => (casementlaw02_RectCells.l0 k a2 a3 t638 t639 0 t640 (t640.length : Int) 0 a0_0 a0_1 a0_2 a0_3 a1_0 a1_1 a1_2 a1_3)))) else (some false))
theorem casementlaw02_RectCells.mono_l : ∀ k, (∀ y0 y1 y2 y3 y4 y5 y6 y7 y8 y9 y10 y11 y12 y13 y14 y15, LeO (casementlaw02_RectCells.l0 k y0 y1 y2 y3 y4 y5 y6 y7 y8 y9 y10 y11 y12 y13 y14 y15) (casementlaw02_RectCells.l0 (k + 1) y0 y1 y2 y3 y4 y5 y6 y7 y8 y9 y10 y11 y12 y13 y14 y15)) ∧ (∀ y0 y1 y2 y3 y4 y5 y6 y7 y8 y9 y10 y11 y12, LeO (casementlaw02_RectCells.j1 k y0 y1 y2 y3 y4 y5 y6 y7 y8 y9 y10 y11 y12) (casementlaw02_RectCells.j1 (k + 1) y0 y1 y2 y3 y4 y5 y6 y7 y8 y9 y10 y11 y12))
  | 0 => ⟨fun _ _ _ _ _ _ _ _ _ _ _ _ _ _ _ _ r h => by simp [casementlaw02_RectCells.l0] at h, fun _ _ _ _ _ _ _ _ _ _ _ _ _ r h => by simp [casementlaw02_RectCells.j1] at h⟩
  | k + 1 => by
    obtain ⟨ih0, ih1⟩ := casementlaw02_RectCells.mono_l k
    refine ⟨?_, ?_⟩
    · intro y0 y1 y2 y3 y4 y5 y6 y7 y8 y9 y10 y11 y12 y13 y14 y15
      unfold casementlaw02_RectCells.l0
      repeat' first
      | (with_reducible exact ih0 _ _ _ _ _ _ _ _ _ _ _ _ _ _ _ _)
      | (with_reducible exact ih1 _ _ _ _ _ _ _ _ _ _ _ _ _)
      | (with_reducible exact casementlaw02_alive.mono _)
      | (with_reducible exact rect_Minus.mono _ _ _ _ _ _ _ _ _)
      | (with_reducible exact LeO.refl _)
      | (with_reducible exact LeO.none _)
      | (with_reducible refine LeO.ite ?_ ?_)
      | (with_reducible refine LeO.bind ?_ (fun _ => ?_))
      | exact ih0 _ _ _ _ _ _ _ _ _ _ _ _ _ _ _ _
      | exact ih1 _ _ _ _ _ _ _ _ _ _ _ _ _
      | exact casementlaw02_alive.mono _
      | exact rect_Minus.mono _ _ _ _ _ _ _ _ _
      | exact LeO.none _
      | refine LeO.ite ?_ ?_
      | refine LeO.bind ?_ (fun _ => ?_)
    · intro y0 y1 y2 y3 y4 y5 y6 y7 y8 y9 y10 y11 y12
      unfold casementlaw02_RectCells.j1
      repeat' first
      | (with_reducible exact ih0 _ _ _ _ _ _ _ _ _ _ _ _ _ _ _ _)
      | (with_reducible exact ih1 _ _ _ _ _ _ _ _ _ _ _ _ _)
      | (with_reducible exact casementlaw02_alive.mono _)
      | (with_reducible exact rect_Minus.mono _ _ _ _ _ _ _ _ _)
      | (with_reducible exact LeO.refl _)
      | (with_reducible exact LeO.none _)
      | (with_reducible refine LeO.ite ?_ ?_)
      | (with_reducible refine LeO.bind ?_ (fun _ => ?_))
      | exact ih0 _ _ _ _ _ _ _ _ _ _ _ _ _ _ _ _
      | exact ih1 _ _ _ _ _ _ _ _ _ _ _ _ _
      | exact casementlaw02_alive.mono _
      | exact rect_Minus.mono _ _ _ _ _ _ _ _ _
      | exact LeO.none _
      | refine LeO.ite ?_ ?_
      | refine LeO.bind ?_ (fun _ => ?_)
theorem casementlaw02_RectCells.mono : ∀ a0 a1 a2 a3 a4 a5 a6 a7 a8 a9 k, LeO (casementlaw02_RectCells.f k a0 a1 a2 a3 a4 a5 a6 a7 a8 a9) (casementlaw02_RectCells.f (k + 1) a0 a1 a2 a3 a4 a5 a6 a7 a8 a9) := by
  intro a0 a1 a2 a3 a4 a5 a6 a7 a8 a9 k
  obtain ⟨ih0, ih1⟩ := casementlaw02_RectCells.mono_l k
  unfold casementlaw02_RectCells.f
  repeat' first
      | (with_reducible exact ih0 _ _ _ _ _ _ _ _ _ _ _ _ _ _ _ _)
      | (with_reducible exact ih1 _ _ _ _ _ _ _ _ _ _ _ _ _)
      | (with_reducible exact casementlaw02_alive.mono _)
      | (with_reducible exact rect_Minus.mono _ _ _ _ _ _ _ _ _)
      | (with_reducible exact LeO.refl _)
      | (with_reducible exact LeO.none _)
      | (with_reducible refine LeO.ite ?_ ?_)
      | (with_reducible refine LeO.bind ?_ (fun _ => ?_))
      | exact ih0 _ _ _ _ _ _ _ _ _ _ _ _ _ _ _ _
      | exact ih1 _ _ _ _ _ _ _ _ _ _ _ _ _
      | exact casementlaw02_alive.mono _
      | exact rect_Minus.mono _ _ _ _ _ _ _ _ _
      | exact LeO.none _
      | refine LeO.ite ?_ ?_
      | refine LeO.bind ?_ (fun _ => ?_)
def casementlaw02_RectCells.T3 : Bool × List (List Nat × List Nat) := (true, [([], []), ([], []), ([], []), ([0, 1, 2], [0, 1, 2]), ([], []), ([], []), ([], []), ([4, 5, 6, 3], [4, 5, 6]), ([3, 7, 0, 1, 2, 3], [3]), ([7, 8, 0, 1, 2, 3, 4, 5, 6, 7, 8], [7])])
def casementlaw02_RectCells.B3 : List Nat := [0, 0, 0, 7, 0, 0, 0, 127, 255, 511]
theorem casementlaw02_RectCells.tab3 : rtab .any (opsOf Try.f11 3) = casementlaw02_RectCells.T3 := by kernel_rfl
theorem casementlaw02_RectCells.bits3 : waitsOk casementlaw02_RectCells.T3.2 casementlaw02_RectCells.B3 = true := by kernel_rfl
set_option maxHeartbeats 8000000 in
set_option maxRecDepth 100000 in
theorem casementlaw02_RectCells.calls (k : Nat) (a0_0 : Int) (a0_1 : Int) (a0_2 : Int) (a0_3 : Int) (a1_0 : Int) (a1_1 : Int) (a1_2 : Int) (a1_3 : Int) (a2 : Int) (a3 : Int) (r : Bool) (w : World) (h : casementlaw02_RectCells.f k a0_0 a0_1 a0_2 a0_3 a1_0 a1_1 a1_2 a1_3 a2 a3 = some r) (hr : r = true) :
    Calls Try.prog 11 #[.agg #[.int .i64 a0_0, .int .i64 a0_1, .int .i64 a0_2, .int .i64 a0_3], .agg #[.int .i64 a1_0, .int .i64 a1_1, .int .i64 a1_2, .int .i64 a1_3], .int .i64 a2, .int .i64 a3] w fun e w' => e = .returned (.bool r) ∧ Below w.heap.size w w' := by
  have hu26 := Try.underlying26
  have HRT := Aside0.mk hr
  clear hr
  have HB := Aside0.mk (Below.refl w.heap.size w)
  have H : ((casementlaw02_alive.f k).bind fun t637 => (if t637 = true then ((rect_Has.f a0_0 a0_1 a0_2 a0_3 a2 a3).bind fun t638 => ((rect_Has.f a1_0 a1_1 a1_2 a1_3 a2 a3).bind fun t639 => ((rect_Minus.f k a0_0 a0_1 a0_2 a0_3 a1_0 a1_1 a1_2 a1_3).bind fun t640 => (casementlaw02_RectCells.l0 k a2 a3 t638 t639 0 t640 (t640.length : Int) 0 a0_0 a0_1 a0_2 a0_3 a1_0 a1_1 a1_2 a1_3)))) else (some false))) = some r := h
  clear h
  replace H := Option.bind_eq_some_iff.mp H
  obtain ⟨t637, A50, H⟩ := H
  replace H : (if t637 = true then ((rect_Has.f a0_0 a0_1 a0_2 a0_3 a2 a3).bind fun t638 => ((rect_Has.f a1_0 a1_1 a1_2 a1_3 a2 a3).bind fun t639 => ((rect_Minus.f k a0_0 a0_1 a0_2 a0_3 a1_0 a1_1 a1_2 a1_3).bind fun t640 => (casementlaw02_RectCells.l0 k a2 a3 t638 t639 0 t640 (t640.length : Int) 0 a0_0 a0_1 a0_2 a0_3 a1_0 a1_1 a1_2 a1_3)))) else (some false)) = some r := H
  have A5 := Aside0.mk A50
  clear A50
  by_cases c6 : t637 = true
  · subst c6
    have H1 : ((rect_Has.f a0_0 a0_1 a0_2 a0_3 a2 a3).bind fun t638 => ((rect_Has.f a1_0 a1_1 a1_2 a1_3 a2 a3).bind fun t639 => ((rect_Minus.f k a0_0 a0_1 a0_2 a0_3 a1_0 a1_1 a1_2 a1_3).bind fun t640 => (casementlaw02_RectCells.l0 k a2 a3 t638 t639 0 t640 (t640.length : Int) 0 a0_0 a0_1 a0_2 a0_3 a1_0 a1_1 a1_2 a1_3)))) = some r := by rw [if_pos rfl] at H; exact H
    clear H
    have H := H1
    clear H1
    replace H := Option.bind_eq_some_iff.mp H
    obtain ⟨t638, A70, H⟩ := H
    replace H : ((rect_Has.f a1_0 a1_1 a1_2 a1_3 a2 a3).bind fun t639 => ((rect_Minus.f k a0_0 a0_1 a0_2 a0_3 a1_0 a1_1 a1_2 a1_3).bind fun t640 => (casementlaw02_RectCells.l0 k a2 a3 t638 t639 0 t640 (t640.length : Int) 0 a0_0 a0_1 a0_2 a0_3 a1_0 a1_1 a1_2 a1_3))) = some r := H
    have A7 := Aside0.mk A70
    clear A70
    replace H := Option.bind_eq_some_iff.mp H
    obtain ⟨t639, A80, H⟩ := H
    replace H : ((rect_Minus.f k a0_0 a0_1 a0_2 a0_3 a1_0 a1_1 a1_2 a1_3).bind fun t640 => (casementlaw02_RectCells.l0 k a2 a3 t638 t639 0 t640 (t640.length : Int) 0 a0_0 a0_1 a0_2 a0_3 a1_0 a1_1 a1_2 a1_3)) = some r := H
    have A8 := Aside0.mk A80
    clear A80
    replace H := Option.bind_eq_some_iff.mp H
    obtain ⟨t640, A90, H⟩ := H
    replace H : (casementlaw02_RectCells.l0 k a2 a3 t638 t639 0 t640 (t640.length : Int) 0 a0_0 a0_1 a0_2 a0_3 a1_0 a1_1 a1_2 a1_3) = some r := H
    have A9 := Aside0.mk A90
    clear A90
    have H' := Aside0.mk H
    clear H
    go_enter Try.func11, Try.ntmps11
    try go_wp2_with (first | ((with_reducible refine gate_dst (N := 4) rfl ?_); refine box_event ?hg (N := 4) ?hd (cs := #[.int .i64 a0_0, .int .i64 a0_1, .int .i64 a0_2, .int .i64 a0_3]) (t := 26) ?hr ?_; (case hd => rfl); (case hg => rfl); (case hr => first | (go_simp; done) | (go_simp; rfl)); intro gb635 hg w10 hbox hb; have n0_ := Aside0.mk (below_step (by repeat (first | (with_reducible first | exact HB.out | apply below_alloc | apply pw_below_drewN | apply below_drew1) | exact HB.out)) hb); have n1_ := Aside0.mk (hbox); have n2_ := Aside0.mk ((by rw [hg]; exact (below_size (by repeat (first | (with_reducible first | exact HB.out | apply below_alloc | apply pw_below_drewN | apply below_drew1) | exact HB.out))) : w.heap.size ≤ gb635)); have n3_ := Aside0.mk ((by rw [hg]; exact (below_size (by repeat (first | (with_reducible first | exact HB.out | apply below_alloc | apply pw_below_drewN | apply below_drew1) | exact HB.out))) : w.heap.size ≤ gb635)); clear HB; have HB := n0_; have BK635 := n1_; have GW635 := n2_; have GE635 := n3_; clear n0_ n1_ n2_ n3_; clear hb hbox hg) | ((with_reducible refine gate_dst (N := 5) rfl ?_); refine box_event ?hg (N := 5) ?hd (cs := #[.int .i64 a1_0, .int .i64 a1_1, .int .i64 a1_2, .int .i64 a1_3]) (t := 26) ?hr ?_; (case hd => rfl); (case hg => rfl); (case hr => first | (go_simp; done) | (go_simp; rfl)); intro gb636 hg w11 hbox hb; have n0_ := Aside0.mk (blk_below (g := gb635) (o := .cells #[.int .i64 a0_0, .int .i64 a0_1, .int .i64 a0_2, .int .i64 a0_3] 26 (0, 0)) (by (with_reducible repeat (first | refine blk_drewN ?_ _ | refine blk_drew ?_ | refine blk_alloc ?_ _)); exact BK635.out) hb); have n1_ := Aside0.mk (below_step (by repeat (first | (with_reducible first | exact HB.out | apply below_alloc | apply pw_below_drewN | apply below_drew1 | refine below_set ?_ GE635.out) | exact HB.out)) hb); have n2_ := Aside0.mk (hbox); have n3_ := Aside0.mk ((by rw [hg]; exact (below_size (by repeat (first | (with_reducible first | exact HB.out | apply below_alloc | apply pw_below_drewN | apply below_drew1 | refine below_set ?_ GE635.out) | exact HB.out))) : w.heap.size ≤ gb636)); have n4_ := Aside0.mk ((by rw [hg]; exact (below_size (by repeat (first | (with_reducible first | exact HB.out | apply below_alloc | apply pw_below_drewN | apply below_drew1 | refine below_set ?_ GE635.out) | exact HB.out))) : w.heap.size ≤ gb636)); have n5_ := Aside0.mk ((by rw [hg]; exact Nat.ne_of_lt (blk_lt (g := gb635) (o := .cells #[.int .i64 a0_0, .int .i64 a0_1, .int .i64 a0_2, .int .i64 a0_3] 26 (0, 0)) (by (with_reducible repeat (first | refine blk_drewN ?_ _ | refine blk_drew ?_ | refine blk_alloc ?_ _)); exact BK635.out)) : gb635 ≠ gb636)); have n6_ := Aside0.mk ((by rw [hg]; exact Nat.ne_of_gt (blk_lt (g := gb635) (o := .cells #[.int .i64 a0_0, .int .i64 a0_1, .int .i64 a0_2, .int .i64 a0_3] 26 (0, 0)) (by (with_reducible repeat (first | refine blk_drewN ?_ _ | refine blk_drew ?_ | refine blk_alloc ?_ _)); exact BK635.out)) : gb636 ≠ gb635)); clear BK635; clear HB; have BK635 := n0_; have HB := n1_; have BK636 := n2_; have GW636 := n3_; have GE636 := n4_; have NB635_636 := n5_; have NB636_635 := n6_; clear n0_ n1_ n2_ n3_ n4_ n5_ n6_; clear hb hbox hg) | ((with_reducible refine gate_callee (f := 12) rfl ?_); refine goesL_ (some 15) rfl rfl Try.func12 (by kernel_rfl) rfl #[] rfl (by (try simp only [List.map_toArray, List.map_cons, List.map_nil]); first | done | rfl | (simp only [List.length_drop, List.length_take]; rfl)) ?_; (with_reducible refine (casementlaw02_alive.calls k  true _ A5.out (by first | rfl | assumption)).mono ?_); rintro e w12 ⟨rfl, hb⟩; refine ⟨_, rfl, ?_⟩; have n0_ := Aside0.mk (blk_below (g := gb635) (o := .cells #[.int .i64 a0_0, .int .i64 a0_1, .int .i64 a0_2, .int .i64 a0_3] 26 (0, 0)) (by (with_reducible repeat (first | refine blk_drewN ?_ _ | refine blk_drew ?_ | refine blk_alloc ?_ _)); exact BK635.out) hb); have n1_ := Aside0.mk (blk_below (g := gb636) (o := .cells #[.int .i64 a1_0, .int .i64 a1_1, .int .i64 a1_2, .int .i64 a1_3] 26 (0, 0)) (by (with_reducible repeat (first | refine blk_drewN ?_ _ | refine blk_drew ?_ | refine blk_alloc ?_ _)); exact BK636.out) hb); have n2_ := Aside0.mk (below_step (by repeat (first | (with_reducible first | exact HB.out | apply below_alloc | apply pw_below_drewN | apply below_drew1 | refine below_set ?_ GE635.out | refine below_set ?_ GE636.out) | exact HB.out)) hb); clear BK635; clear BK636; clear HB; have BK635 := n0_; have BK636 := n1_; have HB := n2_; clear n0_ n1_ n2_; (try clear hb); (try clear hb2); (try clear hk); (try clear hi)))
    have n0_ := Aside0.mk (blk_drew BK635.out)
    have n1_ := Aside0.mk (blk_drew BK636.out)
    have n2_ := Aside0.mk (below_drew1 HB.out)
    clear BK635
    clear BK636
    clear HB
    have BK635 := n0_
    have BK636 := n1_
    have HB := n2_
    clear n0_ n1_ n2_
    refine start_ (n := 10) (S := fun w' => w'.cell? ⟨gb635, 0, none⟩ = some (.int .i64 a0_0) ∧ w'.cell? ⟨gb635, 1, none⟩ = some (.int .i64 a0_1) ∧ w'.cell? ⟨gb635, 2, none⟩ = some (.int .i64 a0_2) ∧ w'.cell? ⟨gb635, 3, none⟩ = some (.int .i64 a0_3) ∧ w'.cell? ⟨gb636, 0, none⟩ = some (.int .i64 a1_0) ∧ w'.cell? ⟨gb636, 1, none⟩ = some (.int .i64 a1_1) ∧ w'.cell? ⟨gb636, 2, none⟩ = some (.int .i64 a1_2) ∧ w'.cell? ⟨gb636, 3, none⟩ = some (.int .i64 a1_3)) (ds := []) #[false, false, false, false, false, false, false, false, false, false] (by kernel_rfl) rfl rfl ⟨(blk_cell BK635.out 0).trans rfl, (blk_cell BK635.out 1).trans rfl, (blk_cell BK635.out 2).trans rfl, (blk_cell BK635.out 3).trans rfl, (blk_cell BK636.out 0).trans rfl, (blk_cell BK636.out 1).trans rfl, (blk_cell BK636.out 2).trans rfl, (blk_cell BK636.out 3).trans rfl⟩ (fun hHeld => ?_); refine with_tabW casementlaw02_RectCells.tab3 casementlaw02_RectCells.bits3 (fun HT_ HW_ => ?_)
    generalize w12.drew = w13 at BK635 BK636 HB hHeld ⊢
    refine pure_ (i := 1) (N := some 18) (v := ?_) (a' := ?_) #[false, true, false, false, false, false, false, false, false, false] rfl rfl (any_of HT_.out (by kernel_rfl)) (fun _ _ _ h => h) (Or.inl ⟨by rfl, ?_⟩) ?_ ?_
    rotate_left
    · intro w'
      go_simp
      with_reducible rfl
    rotate_left
    · simp only [Act.put, List.setIfInBounds_toArray, List.set_cons_zero, List.set_cons_succ, i64_w, i32_w]
      rfl
    refine pure_ (i := 2) (N := some 19) (v := ?_) (a' := ?_) #[false, true, true, false, false, false, false, false, false, false] rfl rfl (any_of HT_.out (by kernel_rfl)) (fun _ _ _ h => h) (Or.inl ⟨by rfl, ?_⟩) ?_ ?_
    rotate_left
    · intro w'
      go_simp
      with_reducible rfl
    rotate_left
    · simp only [Act.put, List.setIfInBounds_toArray, List.set_cons_zero, List.set_cons_succ, i64_w, i32_w]
      rfl
    refine pure_ (i := 5) (N := some 22) (v := ?_) (a' := ?_) #[false, true, true, false, false, true, false, false, false, false] rfl rfl (any_of HT_.out (by kernel_rfl)) (fun _ _ _ h => h) (Or.inl ⟨by rfl, ?_⟩) ?_ ?_
    rotate_left
    · intro w'
      go_simp
      with_reducible rfl
    rotate_left
    · simp only [Act.put, List.setIfInBounds_toArray, List.set_cons_zero, List.set_cons_succ, i64_w, i32_w]
      rfl
    refine pure_ (i := 6) (N := some 23) (v := ?_) (a' := ?_) #[false, true, true, false, false, true, true, false, false, false] rfl rfl (any_of HT_.out (by kernel_rfl)) (fun _ _ _ h => h) (Or.inl ⟨by rfl, ?_⟩) ?_ ?_
    rotate_left
    · intro w'
      go_simp
      with_reducible rfl
    rotate_left
    · simp only [Act.put, List.setIfInBounds_toArray, List.set_cons_zero, List.set_cons_succ, i64_w, i32_w]
      rfl
    refine take_ (i := 0) (N := some 17) (v := ?_) (a' := ?_) #[true, true, true, false, false, true, true, false, false, false] rfl rfl (take_ofW HT_.out HW_.out (by kernel_rfl)) (fun _ _ _ h => h) (Or.inl ⟨by rfl, ?_⟩) hHeld ?_ ?_
    rotate_left
    · rintro w' ⟨s0, s1, s2, s3, s4, s5, s6, s7⟩
      go_simp
      with_reducible rfl
    rotate_left
    · simp only [Act.put, List.setIfInBounds_toArray, List.set_cons_zero, List.set_cons_succ, i64_w, i32_w]
      rfl
    refine take_ (i := 4) (N := some 21) (v := ?_) (a' := ?_) #[true, true, true, false, true, true, true, false, false, false] rfl rfl (take_ofW HT_.out HW_.out (by kernel_rfl)) (fun _ _ _ h => h) (Or.inl ⟨by rfl, ?_⟩) hHeld ?_ ?_
    rotate_left
    · rintro w' ⟨s0, s1, s2, s3, s4, s5, s6, s7⟩
      go_simp
      with_reducible rfl
    rotate_left
    · simp only [Act.put, List.setIfInBounds_toArray, List.set_cons_zero, List.set_cons_succ, i64_w, i32_w]
      rfl
    refine one_ (i := 3) (N := some 20) #[true, true, true, true, true, true, true, false, false, false] rfl rfl (one_of HT_.out (by kernel_rfl)) (by decide) (fun K hK => ?_)
    refine goes_ Try.func22 (by kernel_rfl) rfl #[.agg #[.int .i64 a0_0, .int .i64 a0_1, .int .i64 a0_2, .int .i64 a0_3], .int .i64 a2, .int .i64 a3] (by rfl) rfl rfl (by (try simp only [List.map_toArray, List.map_cons, List.map_nil]); first | done | rfl | (simp only [List.length_drop, List.length_take]; rfl)) ?_
    with_reducible refine (rect_Has.calls a0_0 a0_1 a0_2 a0_3 a2 a3 t638 _ A7.out).mono ?_
    rintro e w14 ⟨rfl, hb⟩
    refine ⟨_, rfl, ?_⟩
    have n0_ := Aside0.mk (blk_below (g := gb635) (o := .cells #[.int .i64 a0_0, .int .i64 a0_1, .int .i64 a0_2, .int .i64 a0_3] 26 (0, 0)) (by (with_reducible repeat (first | refine blk_drewN ?_ _ | refine blk_drew ?_ | refine blk_alloc ?_ _)); exact BK635.out) hb)
    have n1_ := Aside0.mk (blk_below (g := gb636) (o := .cells #[.int .i64 a1_0, .int .i64 a1_1, .int .i64 a1_2, .int .i64 a1_3] 26 (0, 0)) (by (with_reducible repeat (first | refine blk_drewN ?_ _ | refine blk_drew ?_ | refine blk_alloc ?_ _)); exact BK636.out) hb)
    have n2_ := Aside0.mk (below_step (by repeat (first | (with_reducible first | exact HB.out | apply below_alloc | apply pw_below_drewN | apply below_drew1 | refine below_set ?_ GE635.out | refine below_set ?_ GE636.out) | exact HB.out)) hb)
    clear BK635
    clear BK636
    clear HB
    have BK635 := n0_
    have BK636 := n1_
    have HB := n2_
    clear n0_ n1_ n2_
    (try clear hb)
    (try clear hb2)
    (try clear hk)
    (try clear hi)
    refine hK.out _ _ ⟨(blk_cell BK635.out 0).trans rfl, (blk_cell BK635.out 1).trans rfl, (blk_cell BK635.out 2).trans rfl, (blk_cell BK635.out 3).trans rfl, (blk_cell BK636.out 0).trans rfl, (blk_cell BK636.out 1).trans rfl, (blk_cell BK636.out 2).trans rfl, (blk_cell BK636.out 3).trans rfl⟩ (fun hHeld => ?_)
    clear hK K
    refine norm_ (a' := ?_) ?_ ?_
    rotate_left
    · show Act.put _ (some 20) _ = _
      simp only [Act.put, List.setIfInBounds_toArray, List.set_cons_zero, List.set_cons_succ, i64_w, i32_w]
      rfl
    refine one_ (i := 7) (N := some 24) #[true, true, true, true, true, true, true, true, false, false] rfl rfl (one_of HT_.out (by kernel_rfl)) (by decide) (fun K hK => ?_)
    refine goes_ Try.func22 (by kernel_rfl) rfl #[.agg #[.int .i64 a1_0, .int .i64 a1_1, .int .i64 a1_2, .int .i64 a1_3], .int .i64 a2, .int .i64 a3] (by rfl) rfl rfl (by (try simp only [List.map_toArray, List.map_cons, List.map_nil]); first | done | rfl | (simp only [List.length_drop, List.length_take]; rfl)) ?_
    with_reducible refine (rect_Has.calls a1_0 a1_1 a1_2 a1_3 a2 a3 t639 _ A8.out).mono ?_
    rintro e w15 ⟨rfl, hb⟩
    refine ⟨_, rfl, ?_⟩
    have n0_ := Aside0.mk (blk_below (g := gb635) (o := .cells #[.int .i64 a0_0, .int .i64 a0_1, .int .i64 a0_2, .int .i64 a0_3] 26 (0, 0)) (by (with_reducible repeat (first | refine blk_drewN ?_ _ | refine blk_drew ?_ | refine blk_alloc ?_ _)); exact BK635.out) hb)
    have n1_ := Aside0.mk (blk_below (g := gb636) (o := .cells #[.int .i64 a1_0, .int .i64 a1_1, .int .i64 a1_2, .int .i64 a1_3] 26 (0, 0)) (by (with_reducible repeat (first | refine blk_drewN ?_ _ | refine blk_drew ?_ | refine blk_alloc ?_ _)); exact BK636.out) hb)
    have n2_ := Aside0.mk (below_step (by repeat (first | (with_reducible first | exact HB.out | apply below_alloc | apply pw_below_drewN | apply below_drew1 | refine below_set ?_ GE635.out | refine below_set ?_ GE636.out) | exact HB.out)) hb)
    clear BK635
    clear BK636
    clear HB
    have BK635 := n0_
    have BK636 := n1_
    have HB := n2_
    clear n0_ n1_ n2_
    (try clear hb)
    (try clear hb2)
    (try clear hk)
    (try clear hi)
    refine hK.out _ _ ⟨(blk_cell BK635.out 0).trans rfl, (blk_cell BK635.out 1).trans rfl, (blk_cell BK635.out 2).trans rfl, (blk_cell BK635.out 3).trans rfl, (blk_cell BK636.out 0).trans rfl, (blk_cell BK636.out 1).trans rfl, (blk_cell BK636.out 2).trans rfl, (blk_cell BK636.out 3).trans rfl⟩ (fun hHeld => ?_)
    clear hK K
    refine norm_ (a' := ?_) ?_ ?_
    rotate_left
    · show Act.put _ (some 24) _ = _
      simp only [Act.put, List.setIfInBounds_toArray, List.set_cons_zero, List.set_cons_succ, i64_w, i32_w]
      rfl
    refine pure_ (i := 8) (N := some 9) (v := ?_) (a' := ?_) #[true, true, true, true, true, true, true, true, true, false] rfl rfl (any_of HT_.out (by kernel_rfl)) (fun _ _ _ h => h) (Or.inl ⟨by rfl, ?_⟩) ?_ ?_
    rotate_left
    · intro w'
      go_simp
      with_reducible rfl
    rotate_left
    · simp only [Act.put, List.setIfInBounds_toArray, List.set_cons_zero, List.set_cons_succ, i64_w, i32_w]
      rfl
    refine pure_ (i := 9) (N := some 10) (v := ?_) (a' := ?_) #[true, true, true, true, true, true, true, true, true, true] rfl rfl (any_of HT_.out (by kernel_rfl)) (fun _ _ _ h => h) (Or.inl ⟨by rfl, ?_⟩) ?_ ?_
    rotate_left
    · intro w'
      go_simp
      with_reducible rfl
    rotate_left
    · simp only [Act.put, List.setIfInBounds_toArray, List.set_cons_zero, List.set_cons_succ, i64_w, i32_w]
      rfl
    refine done_ (done_of HT_.out (by kernel_rfl)) ?_
    have hnb16 := NB635_636.out
    have hnc16 := NB636_635.out
    have hcz17_0 : w15.cell? ⟨gb635, 0, none⟩ = some (.int .i64 a0_0) := (blk_cell BK635.out 0).trans rfl
    have hcz17_1 : w15.cell? ⟨gb635, 1, none⟩ = some (.int .i64 a0_1) := (blk_cell BK635.out 1).trans rfl
    have hcz17_2 : w15.cell? ⟨gb635, 2, none⟩ = some (.int .i64 a0_2) := (blk_cell BK635.out 2).trans rfl
    have hcz17_3 : w15.cell? ⟨gb635, 3, none⟩ = some (.int .i64 a0_3) := (blk_cell BK635.out 3).trans rfl
    have hfz17_0 := blk_frozen BK635.out 0
    have hfz17_1 := blk_frozen BK635.out 1
    have hfz17_2 := blk_frozen BK635.out 2
    have hfz17_3 := blk_frozen BK635.out 3
    have hcz18_0 : w15.cell? ⟨gb636, 0, none⟩ = some (.int .i64 a1_0) := (blk_cell BK636.out 0).trans rfl
    have hcz18_1 : w15.cell? ⟨gb636, 1, none⟩ = some (.int .i64 a1_1) := (blk_cell BK636.out 1).trans rfl
    have hcz18_2 : w15.cell? ⟨gb636, 2, none⟩ = some (.int .i64 a1_2) := (blk_cell BK636.out 2).trans rfl
    have hcz18_3 : w15.cell? ⟨gb636, 3, none⟩ = some (.int .i64 a1_3) := (blk_cell BK636.out 3).trans rfl
    have hfz18_0 := blk_frozen BK636.out 0
    have hfz18_1 := blk_frozen BK636.out 1
    have hfz18_2 := blk_frozen BK636.out 2
    have hfz18_3 := blk_frozen BK636.out 3
    try go_wp2_with (first | ((with_reducible refine gate_callee (f := 36) rfl ?_); refine goesL_ (some 27) rfl rfl Try.func36 (by kernel_rfl) rfl #[.agg #[.int .i64 a0_0, .int .i64 a0_1, .int .i64 a0_2, .int .i64 a0_3], .agg #[.int .i64 a1_0, .int .i64 a1_1, .int .i64 a1_2, .int .i64 a1_3]] rfl (by (try simp only [List.map_toArray, List.map_cons, List.map_nil]); first | done | rfl | (simp only [List.length_drop, List.length_take]; rfl)) ?_; (with_reducible refine (rect_Minus.calls k a0_0 a0_1 a0_2 a0_3 a1_0 a1_1 a1_2 a1_3 t640 _ A9.out).mono ?_); rintro e w19 ⟨v641, rfl, ho0, hb⟩; refine ⟨_, rfl, ?_⟩; have n0_ := Aside0.mk (Kd.R_lower (Kd.R_newB (Kd.R_newB ho0 (g := gb635) (o := .cells #[.int .i64 a0_0, .int .i64 a0_1, .int .i64 a0_2, .int .i64 a0_3] 26 (0, 0)) (by (with_reducible repeat (first | refine blk_drewN ?_ _ | refine blk_drew ?_ | refine blk_alloc ?_ _)); exact BK635.out)) (g := gb636) (o := .cells #[.int .i64 a1_0, .int .i64 a1_1, .int .i64 a1_2, .int .i64 a1_3] 26 (0, 0)) (by (with_reducible repeat (first | refine blk_drewN ?_ _ | refine blk_drew ?_ | refine blk_alloc ?_ _)); exact BK636.out)) (below_size (by repeat (first | (with_reducible first | exact HB.out | apply below_alloc | apply pw_below_drewN | apply below_drew1 | refine below_set ?_ GE635.out | refine below_set ?_ GE636.out) | exact HB.out)))); have n1_ := Aside0.mk (blk_below (g := gb635) (o := .cells #[.int .i64 a0_0, .int .i64 a0_1, .int .i64 a0_2, .int .i64 a0_3] 26 (0, 0)) (by (with_reducible repeat (first | refine blk_drewN ?_ _ | refine blk_drew ?_ | refine blk_alloc ?_ _)); exact BK635.out) hb); have n2_ := Aside0.mk (blk_below (g := gb636) (o := .cells #[.int .i64 a1_0, .int .i64 a1_1, .int .i64 a1_2, .int .i64 a1_3] 26 (0, 0)) (by (with_reducible repeat (first | refine blk_drewN ?_ _ | refine blk_drew ?_ | refine blk_alloc ?_ _)); exact BK636.out) hb); have n3_ := Aside0.mk (below_step (by repeat (first | (with_reducible first | exact HB.out | apply below_alloc | apply pw_below_drewN | apply below_drew1 | refine below_set ?_ GE635.out | refine below_set ?_ GE636.out) | exact HB.out)) hb); clear BK635; clear BK636; clear HB; have HO642 := n0_; have BK635 := n1_; have BK636 := n2_; have HB := n3_; clear n0_ n1_ n2_ n3_; (try clear hb); (try clear hb2); (try clear hk); (try clear hi); (try clear ho0); obtain ⟨Ao20, co20, eo20⟩ := Kd.R_slice HO642.out; subst eo20))
    go_loopg [11, 29] k (fun kq v11 v29 w' => ∃ (x11_1 : Int) (x29_1 : Int), v11 = .int .i64 x11_1 ∧ v29 = .int .i64 x29_1 ∧ Aside0 (casementlaw02_RectCells.l0 kq a2 a3 t638 t639 x11_1 t640 (t640.length : Int) x29_1 a0_0 a0_1 a0_2 a0_3 a1_0 a1_1 a1_2 a1_3 = some r) ∧ Aside0 (kq ≤ k) ∧ Aside0 (Kd.R k26 26 w' w.heap.size (fun k_ => k_ ≠ gb635 ∧ k_ ≠ gb636) (.slice Ao20 t640.length co20) t640) ∧ Aside0 (w'.heap[gb635]? = some (.cells #[.int .i64 a0_0, .int .i64 a0_1, .int .i64 a0_2, .int .i64 a0_3] 26 (0, 0))) ∧ Aside0 (w'.heap[gb636]? = some (.cells #[.int .i64 a1_0, .int .i64 a1_1, .int .i64 a1_2, .int .i64 a1_3] 26 (0, 0))) ∧ Aside0 (Below w.heap.size w w'))
    case atStart => exact ⟨(0), (0), (by first | rfl | (simp; done) | (simp [*]; done)), (by first | rfl | (simp; done) | (simp [*]; done)), H', ⟨Nat.le_refl _⟩, ⟨by (with_reducible repeat (first | apply Kd.R_alloc | apply Kd.R_drewN | apply Kd.R_drew)); exact Kd.R_mono HO642.out (fun _ hk => ⟨hk.1.2, hk.2⟩)⟩, ⟨by (with_reducible repeat (first | refine blk_drewN ?_ _ | refine blk_drew ?_ | refine blk_alloc ?_ _)); exact BK635.out⟩, ⟨by (with_reducible repeat (first | refine blk_drewN ?_ _ | refine blk_drew ?_ | refine blk_alloc ?_ _)); exact BK636.out⟩, ⟨by repeat (first | (with_reducible first | exact HB.out | apply below_alloc | apply pw_below_drewN | apply below_drew1 | refine below_set ?_ GE635.out | refine below_set ?_ GE636.out) | exact HB.out)⟩⟩
    case round =>
      clear H'
      try clear c1
      try clear c2
      try clear p2
      try clear c3
      try clear c6
      try clear c11
      try clear c12
      try clear c16
      try clear hcz17_0
      try clear hcz17_1
      try clear hcz17_2
      try clear hcz17_3
      try clear hcz18_0
      try clear hcz18_1
      try clear hcz18_2
      try clear hcz18_3
      try clear hfz17_0
      try clear hfz17_1
      try clear hfz17_2
      try clear hfz17_3
      try clear hfz18_0
      try clear hfz18_1
      try clear hfz18_2
      try clear hfz18_3
      obtain ⟨x11_1, x29_1, rfl, rfl, HA, HK1, HO_27, BK635, BK636, HB⟩ := hrel
      cases gk with
      | zero => exact absurd HA.out (by simp [casementlaw02_RectCells.l0])
      | succ k1 =>
        have H := HA.out
        clear HA
        simp only [casementlaw02_RectCells.l0] at H
        by_cases c21 : x29_1 < (t640.length : Int)
        · rw [if_pos c21] at H
          have c21b0 : decide (x29_1 < (t640.length : Int)) = true := decide_eq_true c21
          clear c21
          by_cases c22 : 0 ≤ x29_1
          · rw [if_pos c22] at H
            have c22b0 : decide (0 ≤ x29_1) = true := decide_eq_true c22
            clear c22
            by_cases c23 : x29_1 < (t640.length : Int)
            · rw [if_pos c23] at H
              have c23b0 : decide (x29_1 < (t640.length : Int)) = true := decide_eq_true c23
              clear c23
              replace H := Option.bind_eq_some_iff.mp H
              obtain ⟨t645, A240, H⟩ := H
              replace H : (if t645 = true then (casementlaw02_RectCells.l0 k1 a2 a3 t638 t639 (wrap64 (x11_1 + 1)) t640 (t640.length : Int) (wrap64 (x29_1 + 1)) a0_0 a0_1 a0_2 a0_3 a1_0 a1_1 a1_2 a1_3) else (casementlaw02_RectCells.l0 k1 a2 a3 t638 t639 x11_1 t640 (t640.length : Int) (wrap64 (x29_1 + 1)) a0_0 a0_1 a0_2 a0_3 a1_0 a1_1 a1_2 a1_3)) = some r := H
              have A24 := Aside0.mk A240
              clear A240
              by_cases c25 : t645 = true
              · subst c25
                have H1 : (casementlaw02_RectCells.l0 k1 a2 a3 t638 t639 (wrap64 (x11_1 + 1)) t640 (t640.length : Int) (wrap64 (x29_1 + 1)) a0_0 a0_1 a0_2 a0_3 a1_0 a1_1 a1_2 a1_3) = some r := by rw [if_pos rfl] at H; exact H
                clear H
                have H := H1
                clear H1
                have H' := Aside0.mk H
                clear H
                have p643 : 0 ≤ (x29_1 : Int) := of_decide_eq_true (by first | (with_reducible assumption) | assumption)
                have q643 : x29_1 < (t640.length : Int) := of_decide_eq_true (by first | (with_reducible assumption) | assumption)
                obtain ⟨ad643, e643, hx643_0, hx643_1, hx643_2, hx643_3⟩ := at_T26 (Kd.R_reads' HO_27.out).2.2 x29_1 p643 q643
                cases e643
                replace p643 := eq_true p643
                replace q643 := eq_true q643
                go_wp2_with (first | ((with_reducible refine gate_dst (N := 13) rfl ?_); refine box_event ?hg (N := 13) ?hd (cs := #[.int .i64 0, .int .i64 0, .int .i64 0, .int .i64 0]) (t := 26) ?hr ?_; (case hd => rfl); (case hg => rfl); (case hr => first | (go_simp; done) | (go_simp; rfl)); intro gb644 hg w26 hbox hb; have n0_ := Aside0.mk (Kd.R_below (Kd.R_elderB (by (with_reducible repeat (first | apply Kd.R_alloc | apply Kd.R_drewN | apply Kd.R_drew)); exact HO_27.out) gb644 (Nat.le_of_eq hg.symm)) hb); have n1_ := Aside0.mk (blk_below (g := gb635) (o := .cells #[.int .i64 a0_0, .int .i64 a0_1, .int .i64 a0_2, .int .i64 a0_3] 26 (0, 0)) (by (with_reducible repeat (first | refine blk_drewN ?_ _ | refine blk_drew ?_ | refine blk_alloc ?_ _)); exact BK635.out) hb); have n2_ := Aside0.mk (blk_below (g := gb636) (o := .cells #[.int .i64 a1_0, .int .i64 a1_1, .int .i64 a1_2, .int .i64 a1_3] 26 (0, 0)) (by (with_reducible repeat (first | refine blk_drewN ?_ _ | refine blk_drew ?_ | refine blk_alloc ?_ _)); exact BK636.out) hb); have n3_ := Aside0.mk (below_step (by repeat (first | (with_reducible first | exact HB.out | apply below_alloc | apply pw_below_drewN | apply below_drew1 | refine below_set ?_ GE635.out | refine below_set ?_ GE636.out) | exact HB.out)) hb); have n4_ := Aside0.mk (hbox); have n5_ := Aside0.mk ((by rw [hg]; exact (below_size (by repeat (first | (with_reducible first | exact HB.out | apply below_alloc | apply pw_below_drewN | apply below_drew1 | refine below_set ?_ GE635.out | refine below_set ?_ GE636.out) | exact HB.out))) : w.heap.size ≤ gb644)); have n6_ := Aside0.mk ((by rw [hg]; exact (below_size (by repeat (first | (with_reducible first | exact HB.out | apply below_alloc | apply pw_below_drewN | apply below_drew1 | refine below_set ?_ GE635.out | refine below_set ?_ GE636.out) | exact HB.out))) : w.heap.size ≤ gb644)); have n7_ := Aside0.mk ((by rw [hg]; exact Nat.ne_of_lt (blk_lt (g := gb635) (o := .cells #[.int .i64 a0_0, .int .i64 a0_1, .int .i64 a0_2, .int .i64 a0_3] 26 (0, 0)) (by (with_reducible repeat (first | refine blk_drewN ?_ _ | refine blk_drew ?_ | refine blk_alloc ?_ _)); exact BK635.out)) : gb635 ≠ gb644)); have n8_ := Aside0.mk ((by rw [hg]; exact Nat.ne_of_gt (blk_lt (g := gb635) (o := .cells #[.int .i64 a0_0, .int .i64 a0_1, .int .i64 a0_2, .int .i64 a0_3] 26 (0, 0)) (by (with_reducible repeat (first | refine blk_drewN ?_ _ | refine blk_drew ?_ | refine blk_alloc ?_ _)); exact BK635.out)) : gb644 ≠ gb635)); have n9_ := Aside0.mk ((by rw [hg]; exact Nat.ne_of_lt (blk_lt (g := gb636) (o := .cells #[.int .i64 a1_0, .int .i64 a1_1, .int .i64 a1_2, .int .i64 a1_3] 26 (0, 0)) (by (with_reducible repeat (first | refine blk_drewN ?_ _ | refine blk_drew ?_ | refine blk_alloc ?_ _)); exact BK636.out)) : gb636 ≠ gb644)); have n10_ := Aside0.mk ((by rw [hg]; exact Nat.ne_of_gt (blk_lt (g := gb636) (o := .cells #[.int .i64 a1_0, .int .i64 a1_1, .int .i64 a1_2, .int .i64 a1_3] 26 (0, 0)) (by (with_reducible repeat (first | refine blk_drewN ?_ _ | refine blk_drew ?_ | refine blk_alloc ?_ _)); exact BK636.out)) : gb644 ≠ gb636)); clear HO_27; clear BK635; clear BK636; clear HB; have HO_27 := n0_; have BK635 := n1_; have BK636 := n2_; have HB := n3_; have BK644 := n4_; have GW644 := n5_; have GE644 := n6_; have NB635_644 := n7_; have NB644_635 := n8_; have NB636_644 := n9_; have NB644_636 := n10_; clear n0_ n1_ n2_ n3_ n4_ n5_ n6_ n7_ n8_ n9_ n10_; clear hb hbox hg; have hnb27 := NB644_635.out; have hnc27 := NB635_644.out; have hnb28 := NB644_636.out; have hnc28 := NB636_644.out; have hcz29_0 : w26.cell? ⟨gb644, 0, none⟩ = some (.int .i64 0) := (blk_cell BK644.out 0).trans rfl; have hcz29_1 : w26.cell? ⟨gb644, 1, none⟩ = some (.int .i64 0) := (blk_cell BK644.out 1).trans rfl; have hcz29_2 : w26.cell? ⟨gb644, 2, none⟩ = some (.int .i64 0) := (blk_cell BK644.out 2).trans rfl; have hcz29_3 : w26.cell? ⟨gb644, 3, none⟩ = some (.int .i64 0) := (blk_cell BK644.out 3).trans rfl; have hfz29_0 := blk_frozen BK644.out 0; have hfz29_1 := blk_frozen BK644.out 1; have hfz29_2 := blk_frozen BK644.out 2; have hfz29_3 := blk_frozen BK644.out 3) | ((with_reducible refine gate_callee (f := 22) rfl ?_); refine goesL_ (some 36) rfl rfl Try.func22 (by kernel_rfl) rfl #[.agg #[.int .i64 ((rd_T26 t640 x29_1).f0), .int .i64 ((rd_T26 t640 x29_1).f1), .int .i64 ((rd_T26 t640 x29_1).f2), .int .i64 ((rd_T26 t640 x29_1).f3)], .int .i64 a2, .int .i64 a3] rfl (by (try simp only [List.map_toArray, List.map_cons, List.map_nil]); first | done | rfl | (simp only [List.length_drop, List.length_take]; rfl)) ?_; (with_reducible refine (rect_Has.calls ((rd_T26 t640 x29_1).f0) ((rd_T26 t640 x29_1).f1) ((rd_T26 t640 x29_1).f2) ((rd_T26 t640 x29_1).f3) a2 a3 true _ A24.out).mono ?_); rintro e w30 ⟨rfl, hb⟩; refine ⟨_, rfl, ?_⟩; have n0_ := Aside0.mk (Kd.R_below (by (with_reducible repeat (first | apply Kd.R_alloc | apply Kd.R_drewN | apply Kd.R_drew)); exact (Kd.R_mono (Kd.R_far (p := ⟨gb644, 3, none⟩) (Kd.R_far (p := ⟨gb644, 2, none⟩) (Kd.R_far (p := ⟨gb644, 1, none⟩) (Kd.R_far (p := ⟨gb644, 0, none⟩) (Kd.R_mono HO_27.out (fun k_ hk => (⟨hk, hk.2⟩ : _ ∧ k_ ≠ gb644))) (fun _ hk => hk.2) (.int .i64 ((rd_T26 t640 x29_1).f0))) (fun _ hk => hk.2) (.int .i64 ((rd_T26 t640 x29_1).f1))) (fun _ hk => hk.2) (.int .i64 ((rd_T26 t640 x29_1).f2))) (fun _ hk => hk.2) (.int .i64 ((rd_T26 t640 x29_1).f3))) (fun _ h_ => h_.1))) hb); have n1_ := Aside0.mk (blk_below (g := gb635) (o := .cells #[.int .i64 a0_0, .int .i64 a0_1, .int .i64 a0_2, .int .i64 a0_3] 26 (0, 0)) (by (with_reducible repeat (first | refine blk_drewN ?_ _ | refine blk_drew ?_ | refine blk_alloc ?_ _)); refine blk_far ?_ NB635_644.out _; (with_reducible repeat (first | refine blk_drewN ?_ _ | refine blk_drew ?_ | refine blk_alloc ?_ _)); refine blk_far ?_ NB635_644.out _; (with_reducible repeat (first | refine blk_drewN ?_ _ | refine blk_drew ?_ | refine blk_alloc ?_ _)); refine blk_far ?_ NB635_644.out _; (with_reducible repeat (first | refine blk_drewN ?_ _ | refine blk_drew ?_ | refine blk_alloc ?_ _)); refine blk_far ?_ NB635_644.out _; (with_reducible repeat (first | refine blk_drewN ?_ _ | refine blk_drew ?_ | refine blk_alloc ?_ _)); exact BK635.out) hb); have n2_ := Aside0.mk (blk_below (g := gb636) (o := .cells #[.int .i64 a1_0, .int .i64 a1_1, .int .i64 a1_2, .int .i64 a1_3] 26 (0, 0)) (by (with_reducible repeat (first | refine blk_drewN ?_ _ | refine blk_drew ?_ | refine blk_alloc ?_ _)); refine blk_far ?_ NB636_644.out _; (with_reducible repeat (first | refine blk_drewN ?_ _ | refine blk_drew ?_ | refine blk_alloc ?_ _)); refine blk_far ?_ NB636_644.out _; (with_reducible repeat (first | refine blk_drewN ?_ _ | refine blk_drew ?_ | refine blk_alloc ?_ _)); refine blk_far ?_ NB636_644.out _; (with_reducible repeat (first | refine blk_drewN ?_ _ | refine blk_drew ?_ | refine blk_alloc ?_ _)); refine blk_far ?_ NB636_644.out _; (with_reducible repeat (first | refine blk_drewN ?_ _ | refine blk_drew ?_ | refine blk_alloc ?_ _)); exact BK636.out) hb); have n3_ := Aside0.mk (blk_below (g := gb644) (o := .cells #[.int .i64 ((rd_T26 t640 x29_1).f0), .int .i64 ((rd_T26 t640 x29_1).f1), .int .i64 ((rd_T26 t640 x29_1).f2), .int .i64 ((rd_T26 t640 x29_1).f3)] 26 (0, 0)) (by (with_reducible repeat (first | refine blk_drewN ?_ _ | refine blk_drew ?_ | refine blk_alloc ?_ _)); refine blk_put (cs := #[.int .i64 ((rd_T26 t640 x29_1).f0), .int .i64 ((rd_T26 t640 x29_1).f1), .int .i64 ((rd_T26 t640 x29_1).f2), .int .i64 0]) ?_ 3 _ rfl; (with_reducible repeat (first | refine blk_drewN ?_ _ | refine blk_drew ?_ | refine blk_alloc ?_ _)); refine blk_put (cs := #[.int .i64 ((rd_T26 t640 x29_1).f0), .int .i64 ((rd_T26 t640 x29_1).f1), .int .i64 0, .int .i64 0]) ?_ 2 _ rfl; (with_reducible repeat (first | refine blk_drewN ?_ _ | refine blk_drew ?_ | refine blk_alloc ?_ _)); refine blk_put (cs := #[.int .i64 ((rd_T26 t640 x29_1).f0), .int .i64 0, .int .i64 0, .int .i64 0]) ?_ 1 _ rfl; (with_reducible repeat (first | refine blk_drewN ?_ _ | refine blk_drew ?_ | refine blk_alloc ?_ _)); refine blk_put (cs := #[.int .i64 0, .int .i64 0, .int .i64 0, .int .i64 0]) ?_ 0 _ rfl; (with_reducible repeat (first | refine blk_drewN ?_ _ | refine blk_drew ?_ | refine blk_alloc ?_ _)); exact BK644.out) hb); have n4_ := Aside0.mk (below_step (by repeat (first | (with_reducible first | exact HB.out | apply below_alloc | apply pw_below_drewN | apply below_drew1 | refine below_set ?_ GE635.out | refine below_set ?_ GE636.out | refine below_set ?_ GE644.out) | exact HB.out)) hb); clear HO_27; clear BK635; clear BK636; clear BK644; clear HB; have HO_27 := n0_; have BK635 := n1_; have BK636 := n2_; have BK644 := n3_; have HB := n4_; clear n0_ n1_ n2_ n3_ n4_; (try clear hb); (try clear hb2); (try clear hk); (try clear hi)))
                go_roundg k1
                case measure => have := HK1.out; omega
                case rel => exact ⟨(wrap64 (x11_1 + 1)), (wrap64 (x29_1 + 1)), (by first | rfl | (simp; done) | (simp [*]; done)), (by first | rfl | (simp; done) | (simp [*]; done)), H', ⟨by have := HK1.out; omega⟩, ⟨by (with_reducible repeat (first | apply Kd.R_alloc | apply Kd.R_drewN | apply Kd.R_drew)); exact Kd.R_mono HO_27.out (fun _ hk => ⟨hk.1.1, hk.1.2⟩)⟩, ⟨by (with_reducible repeat (first | refine blk_drewN ?_ _ | refine blk_drew ?_ | refine blk_alloc ?_ _)); exact BK635.out⟩, ⟨by (with_reducible repeat (first | refine blk_drewN ?_ _ | refine blk_drew ?_ | refine blk_alloc ?_ _)); exact BK636.out⟩, ⟨by repeat (first | (with_reducible first | exact HB.out | apply below_alloc | apply pw_below_drewN | apply below_drew1 | refine below_set ?_ GE635.out | refine below_set ?_ GE636.out | refine below_set ?_ GE644.out) | exact HB.out)⟩⟩
              · replace c25 := Bool.eq_false_iff.mpr c25
                subst c25
                have H1 : (casementlaw02_RectCells.l0 k1 a2 a3 t638 t639 x11_1 t640 (t640.length : Int) (wrap64 (x29_1 + 1)) a0_0 a0_1 a0_2 a0_3 a1_0 a1_1 a1_2 a1_3) = some r := by rw [if_neg (show ¬ (false = true) by decide)] at H; exact H
                clear H
                have H := H1
                clear H1
                have H' := Aside0.mk H
                clear H
                have p643 : 0 ≤ (x29_1 : Int) := of_decide_eq_true (by first | (with_reducible assumption) | assumption)
                have q643 : x29_1 < (t640.length : Int) := of_decide_eq_true (by first | (with_reducible assumption) | assumption)
                obtain ⟨ad643, e643, hx643_0, hx643_1, hx643_2, hx643_3⟩ := at_T26 (Kd.R_reads' HO_27.out).2.2 x29_1 p643 q643
                cases e643
                replace p643 := eq_true p643
                replace q643 := eq_true q643
                go_wp2_with (first | ((with_reducible refine gate_dst (N := 13) rfl ?_); refine box_event ?hg (N := 13) ?hd (cs := #[.int .i64 0, .int .i64 0, .int .i64 0, .int .i64 0]) (t := 26) ?hr ?_; (case hd => rfl); (case hg => rfl); (case hr => first | (go_simp; done) | (go_simp; rfl)); intro gb644 hg w31 hbox hb; have n0_ := Aside0.mk (Kd.R_below (Kd.R_elderB (by (with_reducible repeat (first | apply Kd.R_alloc | apply Kd.R_drewN | apply Kd.R_drew)); exact HO_27.out) gb644 (Nat.le_of_eq hg.symm)) hb); have n1_ := Aside0.mk (blk_below (g := gb635) (o := .cells #[.int .i64 a0_0, .int .i64 a0_1, .int .i64 a0_2, .int .i64 a0_3] 26 (0, 0)) (by (with_reducible repeat (first | refine blk_drewN ?_ _ | refine blk_drew ?_ | refine blk_alloc ?_ _)); exact BK635.out) hb); have n2_ := Aside0.mk (blk_below (g := gb636) (o := .cells #[.int .i64 a1_0, .int .i64 a1_1, .int .i64 a1_2, .int .i64 a1_3] 26 (0, 0)) (by (with_reducible repeat (first | refine blk_drewN ?_ _ | refine blk_drew ?_ | refine blk_alloc ?_ _)); exact BK636.out) hb); have n3_ := Aside0.mk (below_step (by repeat (first | (with_reducible first | exact HB.out | apply below_alloc | apply pw_below_drewN | apply below_drew1 | refine below_set ?_ GE635.out | refine below_set ?_ GE636.out) | exact HB.out)) hb); have n4_ := Aside0.mk (hbox); have n5_ := Aside0.mk ((by rw [hg]; exact (below_size (by repeat (first | (with_reducible first | exact HB.out | apply below_alloc | apply pw_below_drewN | apply below_drew1 | refine below_set ?_ GE635.out | refine below_set ?_ GE636.out) | exact HB.out))) : w.heap.size ≤ gb644)); have n6_ := Aside0.mk ((by rw [hg]; exact (below_size (by repeat (first | (with_reducible first | exact HB.out | apply below_alloc | apply pw_below_drewN | apply below_drew1 | refine below_set ?_ GE635.out | refine below_set ?_ GE636.out) | exact HB.out))) : w.heap.size ≤ gb644)); have n7_ := Aside0.mk ((by rw [hg]; exact Nat.ne_of_lt (blk_lt (g := gb635) (o := .cells #[.int .i64 a0_0, .int .i64 a0_1, .int .i64 a0_2, .int .i64 a0_3] 26 (0, 0)) (by (with_reducible repeat (first | refine blk_drewN ?_ _ | refine blk_drew ?_ | refine blk_alloc ?_ _)); exact BK635.out)) : gb635 ≠ gb644)); have n8_ := Aside0.mk ((by rw [hg]; exact Nat.ne_of_gt (blk_lt (g := gb635) (o := .cells #[.int .i64 a0_0, .int .i64 a0_1, .int .i64 a0_2, .int .i64 a0_3] 26 (0, 0)) (by (with_reducible repeat (first | refine blk_drewN ?_ _ | refine blk_drew ?_ | refine blk_alloc ?_ _)); exact BK635.out)) : gb644 ≠ gb635)); have n9_ := Aside0.mk ((by rw [hg]; exact Nat.ne_of_lt (blk_lt (g := gb636) (o := .cells #[.int .i64 a1_0, .int .i64 a1_1, .int .i64 a1_2, .int .i64 a1_3] 26 (0, 0)) (by (with_reducible repeat (first | refine blk_drewN ?_ _ | refine blk_drew ?_ | refine blk_alloc ?_ _)); exact BK636.out)) : gb636 ≠ gb644)); have n10_ := Aside0.mk ((by rw [hg]; exact Nat.ne_of_gt (blk_lt (g := gb636) (o := .cells #[.int .i64 a1_0, .int .i64 a1_1, .int .i64 a1_2, .int .i64 a1_3] 26 (0, 0)) (by (with_reducible repeat (first | refine blk_drewN ?_ _ | refine blk_drew ?_ | refine blk_alloc ?_ _)); exact BK636.out)) : gb644 ≠ gb636)); clear HO_27; clear BK635; clear BK636; clear HB; have HO_27 := n0_; have BK635 := n1_; have BK636 := n2_; have HB := n3_; have BK644 := n4_; have GW644 := n5_; have GE644 := n6_; have NB635_644 := n7_; have NB644_635 := n8_; have NB636_644 := n9_; have NB644_636 := n10_; clear n0_ n1_ n2_ n3_ n4_ n5_ n6_ n7_ n8_ n9_ n10_; clear hb hbox hg; have hnb32 := NB644_635.out; have hnc32 := NB635_644.out; have hnb33 := NB644_636.out; have hnc33 := NB636_644.out; have hcz34_0 : w31.cell? ⟨gb644, 0, none⟩ = some (.int .i64 0) := (blk_cell BK644.out 0).trans rfl; have hcz34_1 : w31.cell? ⟨gb644, 1, none⟩ = some (.int .i64 0) := (blk_cell BK644.out 1).trans rfl; have hcz34_2 : w31.cell? ⟨gb644, 2, none⟩ = some (.int .i64 0) := (blk_cell BK644.out 2).trans rfl; have hcz34_3 : w31.cell? ⟨gb644, 3, none⟩ = some (.int .i64 0) := (blk_cell BK644.out 3).trans rfl; have hfz34_0 := blk_frozen BK644.out 0; have hfz34_1 := blk_frozen BK644.out 1; have hfz34_2 := blk_frozen BK644.out 2; have hfz34_3 := blk_frozen BK644.out 3) | ((with_reducible refine gate_callee (f := 22) rfl ?_); refine goesL_ (some 36) rfl rfl Try.func22 (by kernel_rfl) rfl #[.agg #[.int .i64 ((rd_T26 t640 x29_1).f0), .int .i64 ((rd_T26 t640 x29_1).f1), .int .i64 ((rd_T26 t640 x29_1).f2), .int .i64 ((rd_T26 t640 x29_1).f3)], .int .i64 a2, .int .i64 a3] rfl (by (try simp only [List.map_toArray, List.map_cons, List.map_nil]); first | done | rfl | (simp only [List.length_drop, List.length_take]; rfl)) ?_; (with_reducible refine (rect_Has.calls ((rd_T26 t640 x29_1).f0) ((rd_T26 t640 x29_1).f1) ((rd_T26 t640 x29_1).f2) ((rd_T26 t640 x29_1).f3) a2 a3 false _ A24.out).mono ?_); rintro e w35 ⟨rfl, hb⟩; refine ⟨_, rfl, ?_⟩; have n0_ := Aside0.mk (Kd.R_below (by (with_reducible repeat (first | apply Kd.R_alloc | apply Kd.R_drewN | apply Kd.R_drew)); exact (Kd.R_mono (Kd.R_far (p := ⟨gb644, 3, none⟩) (Kd.R_far (p := ⟨gb644, 2, none⟩) (Kd.R_far (p := ⟨gb644, 1, none⟩) (Kd.R_far (p := ⟨gb644, 0, none⟩) (Kd.R_mono HO_27.out (fun k_ hk => (⟨hk, hk.2⟩ : _ ∧ k_ ≠ gb644))) (fun _ hk => hk.2) (.int .i64 ((rd_T26 t640 x29_1).f0))) (fun _ hk => hk.2) (.int .i64 ((rd_T26 t640 x29_1).f1))) (fun _ hk => hk.2) (.int .i64 ((rd_T26 t640 x29_1).f2))) (fun _ hk => hk.2) (.int .i64 ((rd_T26 t640 x29_1).f3))) (fun _ h_ => h_.1))) hb); have n1_ := Aside0.mk (blk_below (g := gb635) (o := .cells #[.int .i64 a0_0, .int .i64 a0_1, .int .i64 a0_2, .int .i64 a0_3] 26 (0, 0)) (by (with_reducible repeat (first | refine blk_drewN ?_ _ | refine blk_drew ?_ | refine blk_alloc ?_ _)); refine blk_far ?_ NB635_644.out _; (with_reducible repeat (first | refine blk_drewN ?_ _ | refine blk_drew ?_ | refine blk_alloc ?_ _)); refine blk_far ?_ NB635_644.out _; (with_reducible repeat (first | refine blk_drewN ?_ _ | refine blk_drew ?_ | refine blk_alloc ?_ _)); refine blk_far ?_ NB635_644.out _; (with_reducible repeat (first | refine blk_drewN ?_ _ | refine blk_drew ?_ | refine blk_alloc ?_ _)); refine blk_far ?_ NB635_644.out _; (with_reducible repeat (first | refine blk_drewN ?_ _ | refine blk_drew ?_ | refine blk_alloc ?_ _)); exact BK635.out) hb); have n2_ := Aside0.mk (blk_below (g := gb636) (o := .cells #[.int .i64 a1_0, .int .i64 a1_1, .int .i64 a1_2, .int .i64 a1_3] 26 (0, 0)) (by (with_reducible repeat (first | refine blk_drewN ?_ _ | refine blk_drew ?_ | refine blk_alloc ?_ _)); refine blk_far ?_ NB636_644.out _; (with_reducible repeat (first | refine blk_drewN ?_ _ | refine blk_drew ?_ | refine blk_alloc ?_ _)); refine blk_far ?_ NB636_644.out _; (with_reducible repeat (first | refine blk_drewN ?_ _ | refine blk_drew ?_ | refine blk_alloc ?_ _)); refine blk_far ?_ NB636_644.out _; (with_reducible repeat (first | refine blk_drewN ?_ _ | refine blk_drew ?_ | refine blk_alloc ?_ _)); refine blk_far ?_ NB636_644.out _; (with_reducible repeat (first | refine blk_drewN ?_ _ | refine blk_drew ?_ | refine blk_alloc ?_ _)); exact BK636.out) hb); have n3_ := Aside0.mk (blk_below (g := gb644) (o := .cells #[.int .i64 ((rd_T26 t640 x29_1).f0), .int .i64 ((rd_T26 t640 x29_1).f1), .int .i64 ((rd_T26 t640 x29_1).f2), .int .i64 ((rd_T26 t640 x29_1).f3)] 26 (0, 0)) (by (with_reducible repeat (first | refine blk_drewN ?_ _ | refine blk_drew ?_ | refine blk_alloc ?_ _)); refine blk_put (cs := #[.int .i64 ((rd_T26 t640 x29_1).f0), .int .i64 ((rd_T26 t640 x29_1).f1), .int .i64 ((rd_T26 t640 x29_1).f2), .int .i64 0]) ?_ 3 _ rfl; (with_reducible repeat (first | refine blk_drewN ?_ _ | refine blk_drew ?_ | refine blk_alloc ?_ _)); refine blk_put (cs := #[.int .i64 ((rd_T26 t640 x29_1).f0), .int .i64 ((rd_T26 t640 x29_1).f1), .int .i64 0, .int .i64 0]) ?_ 2 _ rfl; (with_reducible repeat (first | refine blk_drewN ?_ _ | refine blk_drew ?_ | refine blk_alloc ?_ _)); refine blk_put (cs := #[.int .i64 ((rd_T26 t640 x29_1).f0), .int .i64 0, .int .i64 0, .int .i64 0]) ?_ 1 _ rfl; (with_reducible repeat (first | refine blk_drewN ?_ _ | refine blk_drew ?_ | refine blk_alloc ?_ _)); refine blk_put (cs := #[.int .i64 0, .int .i64 0, .int .i64 0, .int .i64 0]) ?_ 0 _ rfl; (with_reducible repeat (first | refine blk_drewN ?_ _ | refine blk_drew ?_ | refine blk_alloc ?_ _)); exact BK644.out) hb); have n4_ := Aside0.mk (below_step (by repeat (first | (with_reducible first | exact HB.out | apply below_alloc | apply pw_below_drewN | apply below_drew1 | refine below_set ?_ GE635.out | refine below_set ?_ GE636.out | refine below_set ?_ GE644.out) | exact HB.out)) hb); clear HO_27; clear BK635; clear BK636; clear BK644; clear HB; have HO_27 := n0_; have BK635 := n1_; have BK636 := n2_; have BK644 := n3_; have HB := n4_; clear n0_ n1_ n2_ n3_ n4_; (try clear hb); (try clear hb2); (try clear hk); (try clear hi)))
                go_roundg k1
                case measure => have := HK1.out; omega
                case rel => exact ⟨(x11_1), (wrap64 (x29_1 + 1)), (by first | rfl | (simp; done) | (simp [*]; done)), (by first | rfl | (simp; done) | (simp [*]; done)), H', ⟨by have := HK1.out; omega⟩, ⟨by (with_reducible repeat (first | apply Kd.R_alloc | apply Kd.R_drewN | apply Kd.R_drew)); exact Kd.R_mono HO_27.out (fun _ hk => ⟨hk.1.1, hk.1.2⟩)⟩, ⟨by (with_reducible repeat (first | refine blk_drewN ?_ _ | refine blk_drew ?_ | refine blk_alloc ?_ _)); exact BK635.out⟩, ⟨by (with_reducible repeat (first | refine blk_drewN ?_ _ | refine blk_drew ?_ | refine blk_alloc ?_ _)); exact BK636.out⟩, ⟨by repeat (first | (with_reducible first | exact HB.out | apply below_alloc | apply pw_below_drewN | apply below_drew1 | refine below_set ?_ GE635.out | refine below_set ?_ GE636.out | refine below_set ?_ GE644.out) | exact HB.out)⟩⟩
            · rw [if_neg c23] at H
              exact absurd H (by simp)
          · rw [if_neg c22] at H
            exact absurd H (by simp)
        · rw [if_neg c21] at H
          have c21b0 : decide (x29_1 < (t640.length : Int)) = false := decide_eq_false c21
          clear c21
          have HC36 := Aside0.mk H
          clear H
          go_upto_region 11 with (fail)
          go_cut [64] (fun v64 wc => ∃ (kq : Nat) (x64_35 : Bool), v64 = .bool x64_35 ∧ Aside0 (casementlaw02_RectCells.j1 kq a2 a3 t638 t639 x64_35 a0_0 a0_1 a0_2 a0_3 a1_0 a1_1 a1_2 a1_3 = some r) ∧ Aside0 (kq ≤ k1) ∧ Aside0 (wc.heap[gb635]? = some (.cells #[.int .i64 a0_0, .int .i64 a0_1, .int .i64 a0_2, .int .i64 a0_3] 26 (0, 0))) ∧ Aside0 (wc.heap[gb636]? = some (.cells #[.int .i64 a1_0, .int .i64 a1_1, .int .i64 a1_2, .int .i64 a1_3] 26 (0, 0))) ∧ Aside0 (Below w.heap.size w wc))
          case first =>
            have H := HC36.out
            clear HC36
            replace H := Option.bind_eq_some_iff.mp H
            obtain ⟨⟨t646, t647, t648, t649⟩, A370, H⟩ := H
            replace H : ((rect_Has.f t646 t647 t648 t649 a2 a3).bind fun t650 => (if t638 = true then (if (t650 != t639) = true then (casementlaw02_RectCells.j1 k1 a2 a3 t638 t639 true a0_0 a0_1 a0_2 a0_3 a1_0 a1_1 a1_2 a1_3) else (if ((x11_1 == 1) != (!t639)) = true then (casementlaw02_RectCells.j1 k1 a2 a3 t638 t639 true a0_0 a0_1 a0_2 a0_3 a1_0 a1_1 a1_2 a1_3) else (casementlaw02_RectCells.j1 k1 a2 a3 t638 t639 (decide (x11_1 > 1)) a0_0 a0_1 a0_2 a0_3 a1_0 a1_1 a1_2 a1_3))) else (if (t650 != false) = true then (casementlaw02_RectCells.j1 k1 a2 a3 t638 t639 true a0_0 a0_1 a0_2 a0_3 a1_0 a1_1 a1_2 a1_3) else (if ((x11_1 == 1) != false) = true then (casementlaw02_RectCells.j1 k1 a2 a3 t638 t639 true a0_0 a0_1 a0_2 a0_3 a1_0 a1_1 a1_2 a1_3) else (casementlaw02_RectCells.j1 k1 a2 a3 t638 t639 (decide (x11_1 > 1)) a0_0 a0_1 a0_2 a0_3 a1_0 a1_1 a1_2 a1_3))))) = some r := H
            have A37 := Aside0.mk A370
            clear A370
            replace H := Option.bind_eq_some_iff.mp H
            obtain ⟨t650, A380, H⟩ := H
            replace H : (if t638 = true then (if (t650 != t639) = true then (casementlaw02_RectCells.j1 k1 a2 a3 t638 t639 true a0_0 a0_1 a0_2 a0_3 a1_0 a1_1 a1_2 a1_3) else (if ((x11_1 == 1) != (!t639)) = true then (casementlaw02_RectCells.j1 k1 a2 a3 t638 t639 true a0_0 a0_1 a0_2 a0_3 a1_0 a1_1 a1_2 a1_3) else (casementlaw02_RectCells.j1 k1 a2 a3 t638 t639 (decide (x11_1 > 1)) a0_0 a0_1 a0_2 a0_3 a1_0 a1_1 a1_2 a1_3))) else (if (t650 != false) = true then (casementlaw02_RectCells.j1 k1 a2 a3 t638 t639 true a0_0 a0_1 a0_2 a0_3 a1_0 a1_1 a1_2 a1_3) else (if ((x11_1 == 1) != false) = true then (casementlaw02_RectCells.j1 k1 a2 a3 t638 t639 true a0_0 a0_1 a0_2 a0_3 a1_0 a1_1 a1_2 a1_3) else (casementlaw02_RectCells.j1 k1 a2 a3 t638 t639 (decide (x11_1 > 1)) a0_0 a0_1 a0_2 a0_3 a1_0 a1_1 a1_2 a1_3)))) = some r := H
            have A38 := Aside0.mk A380
            clear A380
            by_cases c39 : t638 = true
            · subst c39
              have H1 : (if (t650 != t639) = true then (casementlaw02_RectCells.j1 k1 a2 a3 true t639 true a0_0 a0_1 a0_2 a0_3 a1_0 a1_1 a1_2 a1_3) else (if ((x11_1 == 1) != (!t639)) = true then (casementlaw02_RectCells.j1 k1 a2 a3 true t639 true a0_0 a0_1 a0_2 a0_3 a1_0 a1_1 a1_2 a1_3) else (casementlaw02_RectCells.j1 k1 a2 a3 true t639 (decide (x11_1 > 1)) a0_0 a0_1 a0_2 a0_3 a1_0 a1_1 a1_2 a1_3))) = some r := by rw [if_pos rfl] at H; exact H
              clear H
              have H := H1
              clear H1
              by_cases c40 : (t650 != t639) = true
              · rw [if_pos c40] at H
                have c40b0 : (t650 != t639) = true := c40
                (try (have c40b1 : decide (t650 = t639) = false := by simpa using c40))
                (try (have c40b2 : (t650 == t639) = false := by simpa using c40))
                (try (have c40b3 : ¬ (t650 = t639) := by simpa using c40))
                (try (have c40b4 : ((t650) = (t639)) = False := eq_false ((fun (a_ b_ : Bool) (h_ : ((a_ != b_) = true)) => (show ¬ (a_ = b_) from by revert h_; cases a_ <;> cases b_ <;> decide)) (t650) (t639) c40)))
                clear c40
                (first | rw [c40b0] | (simp only [i64_w, i32_w]; rw [c40b0]) | skip)
                have H' := Aside0.mk H
                clear H
                have hnb41 := NB635_636.out
                have hnc41 := NB636_635.out
                have hcz42_0 : wr.cell? ⟨gb635, 0, none⟩ = some (.int .i64 a0_0) := (blk_cell BK635.out 0).trans rfl
                have hcz42_1 : wr.cell? ⟨gb635, 1, none⟩ = some (.int .i64 a0_1) := (blk_cell BK635.out 1).trans rfl
                have hcz42_2 : wr.cell? ⟨gb635, 2, none⟩ = some (.int .i64 a0_2) := (blk_cell BK635.out 2).trans rfl
                have hcz42_3 : wr.cell? ⟨gb635, 3, none⟩ = some (.int .i64 a0_3) := (blk_cell BK635.out 3).trans rfl
                have hfz42_0 := blk_frozen BK635.out 0
                have hfz42_1 := blk_frozen BK635.out 1
                have hfz42_2 := blk_frozen BK635.out 2
                have hfz42_3 := blk_frozen BK635.out 3
                have hcz43_0 : wr.cell? ⟨gb636, 0, none⟩ = some (.int .i64 a1_0) := (blk_cell BK636.out 0).trans rfl
                have hcz43_1 : wr.cell? ⟨gb636, 1, none⟩ = some (.int .i64 a1_1) := (blk_cell BK636.out 1).trans rfl
                have hcz43_2 : wr.cell? ⟨gb636, 2, none⟩ = some (.int .i64 a1_2) := (blk_cell BK636.out 2).trans rfl
                have hcz43_3 : wr.cell? ⟨gb636, 3, none⟩ = some (.int .i64 a1_3) := (blk_cell BK636.out 3).trans rfl
                have hfz43_0 := blk_frozen BK636.out 0
                have hfz43_1 := blk_frozen BK636.out 1
                have hfz43_2 := blk_frozen BK636.out 2
                have hfz43_3 := blk_frozen BK636.out 3
                go_wp2_with (first | ((with_reducible refine gate_callee (f := 26) rfl ?_); refine goesL_ (some 42) rfl rfl Try.func26 (by kernel_rfl) rfl #[.agg #[.int .i64 a0_0, .int .i64 a0_1, .int .i64 a0_2, .int .i64 a0_3], .agg #[.int .i64 a1_0, .int .i64 a1_1, .int .i64 a1_2, .int .i64 a1_3]] rfl (by (try simp only [List.map_toArray, List.map_cons, List.map_nil]); first | done | rfl | (simp only [List.length_drop, List.length_take]; rfl)) ?_; (with_reducible refine (rect_Meet.calls a0_0 a0_1 a0_2 a0_3 a1_0 a1_1 a1_2 a1_3 t646 t647 t648 t649 _ A37.out).mono ?_); rintro e w44 ⟨rfl, hb⟩; refine ⟨_, rfl, ?_⟩; have n0_ := Aside0.mk (Kd.R_below (by (with_reducible repeat (first | apply Kd.R_alloc | apply Kd.R_drewN | apply Kd.R_drew)); exact HO_27.out) hb); have n1_ := Aside0.mk (blk_below (g := gb635) (o := .cells #[.int .i64 a0_0, .int .i64 a0_1, .int .i64 a0_2, .int .i64 a0_3] 26 (0, 0)) (by (with_reducible repeat (first | refine blk_drewN ?_ _ | refine blk_drew ?_ | refine blk_alloc ?_ _)); exact BK635.out) hb); have n2_ := Aside0.mk (blk_below (g := gb636) (o := .cells #[.int .i64 a1_0, .int .i64 a1_1, .int .i64 a1_2, .int .i64 a1_3] 26 (0, 0)) (by (with_reducible repeat (first | refine blk_drewN ?_ _ | refine blk_drew ?_ | refine blk_alloc ?_ _)); exact BK636.out) hb); have n3_ := Aside0.mk (below_step (by repeat (first | (with_reducible first | exact HB.out | apply below_alloc | apply pw_below_drewN | apply below_drew1 | refine below_set ?_ GE635.out | refine below_set ?_ GE636.out) | exact HB.out)) hb); clear HO_27; clear BK635; clear BK636; clear HB; have HO_27 := n0_; have BK635 := n1_; have BK636 := n2_; have HB := n3_; clear n0_ n1_ n2_ n3_; (try clear hb); (try clear hb2); (try clear hk); (try clear hi)) | ((with_reducible refine gate_callee (f := 22) rfl ?_); refine goesL_ (some 45) rfl rfl Try.func22 (by kernel_rfl) rfl #[.agg #[.int .i64 t646, .int .i64 t647, .int .i64 t648, .int .i64 t649], .int .i64 a2, .int .i64 a3] rfl (by (try simp only [List.map_toArray, List.map_cons, List.map_nil]); first | done | rfl | (simp only [List.length_drop, List.length_take]; rfl)) ?_; (with_reducible refine (rect_Has.calls t646 t647 t648 t649 a2 a3 t650 _ A38.out).mono ?_); rintro e w45 ⟨rfl, hb⟩; refine ⟨_, rfl, ?_⟩; have n0_ := Aside0.mk (Kd.R_below (by (with_reducible repeat (first | apply Kd.R_alloc | apply Kd.R_drewN | apply Kd.R_drew)); exact HO_27.out) hb); have n1_ := Aside0.mk (blk_below (g := gb635) (o := .cells #[.int .i64 a0_0, .int .i64 a0_1, .int .i64 a0_2, .int .i64 a0_3] 26 (0, 0)) (by (with_reducible repeat (first | refine blk_drewN ?_ _ | refine blk_drew ?_ | refine blk_alloc ?_ _)); exact BK635.out) hb); have n2_ := Aside0.mk (blk_below (g := gb636) (o := .cells #[.int .i64 a1_0, .int .i64 a1_1, .int .i64 a1_2, .int .i64 a1_3] 26 (0, 0)) (by (with_reducible repeat (first | refine blk_drewN ?_ _ | refine blk_drew ?_ | refine blk_alloc ?_ _)); exact BK636.out) hb); have n3_ := Aside0.mk (below_step (by repeat (first | (with_reducible first | exact HB.out | apply below_alloc | apply pw_below_drewN | apply below_drew1 | refine below_set ?_ GE635.out | refine below_set ?_ GE636.out) | exact HB.out)) hb); clear HO_27; clear BK635; clear BK636; clear HB; have HO_27 := n0_; have BK635 := n1_; have BK636 := n2_; have HB := n3_; clear n0_ n1_ n2_ n3_; (try clear hb); (try clear hb2); (try clear hk); (try clear hi)))
                go_meet
                case rel => exact ⟨_, (true), (by first | rfl | (simp; done) | (simp [*]; done)), H', ⟨by have := HK1.out; first | omega | exact Nat.le_refl _⟩, ⟨by (with_reducible repeat (first | refine blk_drewN ?_ _ | refine blk_drew ?_ | refine blk_alloc ?_ _)); exact BK635.out⟩, ⟨by (with_reducible repeat (first | refine blk_drewN ?_ _ | refine blk_drew ?_ | refine blk_alloc ?_ _)); exact BK636.out⟩, ⟨by repeat (first | (with_reducible first | exact HB.out | apply below_alloc | apply pw_below_drewN | apply below_drew1 | refine below_set ?_ GE635.out | refine below_set ?_ GE636.out) | exact HB.out)⟩⟩
              · rw [if_neg c40] at H
                have c40b0 : (t650 != t639) = false := by simpa using c40
                (try (have c40b1 : decide (t650 = t639) = true := by simpa using c40))
                (try (have c40b2 : (t650 == t639) = true := by simpa using c40))
                (try (have c40b3 : ((t650) = (t639)) = True := eq_true ((fun (a_ b_ : Bool) (h_ : ¬ ((a_ != b_) = true)) => (show (a_ = b_) from by revert h_; cases a_ <;> cases b_ <;> decide)) (t650) (t639) c40)))
                clear c40
                (first | rw [c40b0] | (simp only [i64_w, i32_w]; rw [c40b0]) | skip)
                by_cases c46 : ((x11_1 == 1) != (!t639)) = true
                · rw [if_pos c46] at H
                  have c46b0 : ((x11_1 == 1) != (!t639)) = true := c46
                  (try (have c46b1 : decide ((x11_1 == 1) = (!t639)) = false := by simpa using c46))
                  (try (have c46b2 : ((x11_1 == 1) == (!t639)) = false := by simpa using c46))
                  (try (have c46b3 : ¬ ((x11_1 == 1) = (!t639)) := by simpa using c46))
                  (try (have c46b4 : (((x11_1 == 1)) = ((!t639))) = False := eq_false ((fun (a_ b_ : Bool) (h_ : ((a_ != b_) = true)) => (show ¬ (a_ = b_) from by revert h_; cases a_ <;> cases b_ <;> decide)) ((x11_1 == 1)) ((!t639)) c46)))
                  clear c46
                  have H' := Aside0.mk H
                  clear H
                  have hnb47 := NB635_636.out
                  have hnc47 := NB636_635.out
                  have hcz48_0 : wr.cell? ⟨gb635, 0, none⟩ = some (.int .i64 a0_0) := (blk_cell BK635.out 0).trans rfl
                  have hcz48_1 : wr.cell? ⟨gb635, 1, none⟩ = some (.int .i64 a0_1) := (blk_cell BK635.out 1).trans rfl
                  have hcz48_2 : wr.cell? ⟨gb635, 2, none⟩ = some (.int .i64 a0_2) := (blk_cell BK635.out 2).trans rfl
                  have hcz48_3 : wr.cell? ⟨gb635, 3, none⟩ = some (.int .i64 a0_3) := (blk_cell BK635.out 3).trans rfl
                  have hfz48_0 := blk_frozen BK635.out 0
                  have hfz48_1 := blk_frozen BK635.out 1
                  have hfz48_2 := blk_frozen BK635.out 2
                  have hfz48_3 := blk_frozen BK635.out 3
                  have hcz49_0 : wr.cell? ⟨gb636, 0, none⟩ = some (.int .i64 a1_0) := (blk_cell BK636.out 0).trans rfl
                  have hcz49_1 : wr.cell? ⟨gb636, 1, none⟩ = some (.int .i64 a1_1) := (blk_cell BK636.out 1).trans rfl
                  have hcz49_2 : wr.cell? ⟨gb636, 2, none⟩ = some (.int .i64 a1_2) := (blk_cell BK636.out 2).trans rfl
                  have hcz49_3 : wr.cell? ⟨gb636, 3, none⟩ = some (.int .i64 a1_3) := (blk_cell BK636.out 3).trans rfl
                  have hfz49_0 := blk_frozen BK636.out 0
                  have hfz49_1 := blk_frozen BK636.out 1
                  have hfz49_2 := blk_frozen BK636.out 2
                  have hfz49_3 := blk_frozen BK636.out 3
                  go_wp2_with (first | ((with_reducible refine gate_callee (f := 26) rfl ?_); refine goesL_ (some 42) rfl rfl Try.func26 (by kernel_rfl) rfl #[.agg #[.int .i64 a0_0, .int .i64 a0_1, .int .i64 a0_2, .int .i64 a0_3], .agg #[.int .i64 a1_0, .int .i64 a1_1, .int .i64 a1_2, .int .i64 a1_3]] rfl (by (try simp only [List.map_toArray, List.map_cons, List.map_nil]); first | done | rfl | (simp only [List.length_drop, List.length_take]; rfl)) ?_; (with_reducible refine (rect_Meet.calls a0_0 a0_1 a0_2 a0_3 a1_0 a1_1 a1_2 a1_3 t646 t647 t648 t649 _ A37.out).mono ?_); rintro e w50 ⟨rfl, hb⟩; refine ⟨_, rfl, ?_⟩; have n0_ := Aside0.mk (Kd.R_below (by (with_reducible repeat (first | apply Kd.R_alloc | apply Kd.R_drewN | apply Kd.R_drew)); exact HO_27.out) hb); have n1_ := Aside0.mk (blk_below (g := gb635) (o := .cells #[.int .i64 a0_0, .int .i64 a0_1, .int .i64 a0_2, .int .i64 a0_3] 26 (0, 0)) (by (with_reducible repeat (first | refine blk_drewN ?_ _ | refine blk_drew ?_ | refine blk_alloc ?_ _)); exact BK635.out) hb); have n2_ := Aside0.mk (blk_below (g := gb636) (o := .cells #[.int .i64 a1_0, .int .i64 a1_1, .int .i64 a1_2, .int .i64 a1_3] 26 (0, 0)) (by (with_reducible repeat (first | refine blk_drewN ?_ _ | refine blk_drew ?_ | refine blk_alloc ?_ _)); exact BK636.out) hb); have n3_ := Aside0.mk (below_step (by repeat (first | (with_reducible first | exact HB.out | apply below_alloc | apply pw_below_drewN | apply below_drew1 | refine below_set ?_ GE635.out | refine below_set ?_ GE636.out) | exact HB.out)) hb); clear HO_27; clear BK635; clear BK636; clear HB; have HO_27 := n0_; have BK635 := n1_; have BK636 := n2_; have HB := n3_; clear n0_ n1_ n2_ n3_; (try clear hb); (try clear hb2); (try clear hk); (try clear hi)) | ((with_reducible refine gate_callee (f := 22) rfl ?_); refine goesL_ (some 45) rfl rfl Try.func22 (by kernel_rfl) rfl #[.agg #[.int .i64 t646, .int .i64 t647, .int .i64 t648, .int .i64 t649], .int .i64 a2, .int .i64 a3] rfl (by (try simp only [List.map_toArray, List.map_cons, List.map_nil]); first | done | rfl | (simp only [List.length_drop, List.length_take]; rfl)) ?_; (with_reducible refine (rect_Has.calls t646 t647 t648 t649 a2 a3 t650 _ A38.out).mono ?_); rintro e w51 ⟨rfl, hb⟩; refine ⟨_, rfl, ?_⟩; have n0_ := Aside0.mk (Kd.R_below (by (with_reducible repeat (first | apply Kd.R_alloc | apply Kd.R_drewN | apply Kd.R_drew)); exact HO_27.out) hb); have n1_ := Aside0.mk (blk_below (g := gb635) (o := .cells #[.int .i64 a0_0, .int .i64 a0_1, .int .i64 a0_2, .int .i64 a0_3] 26 (0, 0)) (by (with_reducible repeat (first | refine blk_drewN ?_ _ | refine blk_drew ?_ | refine blk_alloc ?_ _)); exact BK635.out) hb); have n2_ := Aside0.mk (blk_below (g := gb636) (o := .cells #[.int .i64 a1_0, .int .i64 a1_1, .int .i64 a1_2, .int .i64 a1_3] 26 (0, 0)) (by (with_reducible repeat (first | refine blk_drewN ?_ _ | refine blk_drew ?_ | refine blk_alloc ?_ _)); exact BK636.out) hb); have n3_ := Aside0.mk (below_step (by repeat (first | (with_reducible first | exact HB.out | apply below_alloc | apply pw_below_drewN | apply below_drew1 | refine below_set ?_ GE635.out | refine below_set ?_ GE636.out) | exact HB.out)) hb); clear HO_27; clear BK635; clear BK636; clear HB; have HO_27 := n0_; have BK635 := n1_; have BK636 := n2_; have HB := n3_; clear n0_ n1_ n2_ n3_; (try clear hb); (try clear hb2); (try clear hk); (try clear hi)))
                  go_meet
                  case rel => exact ⟨_, (true), (by first | rfl | (simp; done) | (simp [*]; done)), H', ⟨by have := HK1.out; first | omega | exact Nat.le_refl _⟩, ⟨by (with_reducible repeat (first | refine blk_drewN ?_ _ | refine blk_drew ?_ | refine blk_alloc ?_ _)); exact BK635.out⟩, ⟨by (with_reducible repeat (first | refine blk_drewN ?_ _ | refine blk_drew ?_ | refine blk_alloc ?_ _)); exact BK636.out⟩, ⟨by repeat (first | (with_reducible first | exact HB.out | apply below_alloc | apply pw_below_drewN | apply below_drew1 | refine below_set ?_ GE635.out | refine below_set ?_ GE636.out) | exact HB.out)⟩⟩
                · rw [if_neg c46] at H
                  have c46b0 : ((x11_1 == 1) != (!t639)) = false := by simpa using c46
                  (try (have c46b1 : decide ((x11_1 == 1) = (!t639)) = true := by simpa using c46))
                  (try (have c46b2 : ((x11_1 == 1) == (!t639)) = true := by simpa using c46))
                  (try (have c46b3 : (((x11_1 == 1)) = ((!t639))) = True := eq_true ((fun (a_ b_ : Bool) (h_ : ¬ ((a_ != b_) = true)) => (show (a_ = b_) from by revert h_; cases a_ <;> cases b_ <;> decide)) ((x11_1 == 1)) ((!t639)) c46)))
                  clear c46
                  have H' := Aside0.mk H
                  clear H
                  have hnb52 := NB635_636.out
                  have hnc52 := NB636_635.out
                  have hcz53_0 : wr.cell? ⟨gb635, 0, none⟩ = some (.int .i64 a0_0) := (blk_cell BK635.out 0).trans rfl
                  have hcz53_1 : wr.cell? ⟨gb635, 1, none⟩ = some (.int .i64 a0_1) := (blk_cell BK635.out 1).trans rfl
                  have hcz53_2 : wr.cell? ⟨gb635, 2, none⟩ = some (.int .i64 a0_2) := (blk_cell BK635.out 2).trans rfl
                  have hcz53_3 : wr.cell? ⟨gb635, 3, none⟩ = some (.int .i64 a0_3) := (blk_cell BK635.out 3).trans rfl
                  have hfz53_0 := blk_frozen BK635.out 0
                  have hfz53_1 := blk_frozen BK635.out 1
                  have hfz53_2 := blk_frozen BK635.out 2
                  have hfz53_3 := blk_frozen BK635.out 3
                  have hcz54_0 : wr.cell? ⟨gb636, 0, none⟩ = some (.int .i64 a1_0) := (blk_cell BK636.out 0).trans rfl
                  have hcz54_1 : wr.cell? ⟨gb636, 1, none⟩ = some (.int .i64 a1_1) := (blk_cell BK636.out 1).trans rfl
                  have hcz54_2 : wr.cell? ⟨gb636, 2, none⟩ = some (.int .i64 a1_2) := (blk_cell BK636.out 2).trans rfl
                  have hcz54_3 : wr.cell? ⟨gb636, 3, none⟩ = some (.int .i64 a1_3) := (blk_cell BK636.out 3).trans rfl
                  have hfz54_0 := blk_frozen BK636.out 0
                  have hfz54_1 := blk_frozen BK636.out 1
                  have hfz54_2 := blk_frozen BK636.out 2
                  have hfz54_3 := blk_frozen BK636.out 3
                  go_wp2_with (first | ((with_reducible refine gate_callee (f := 26) rfl ?_); refine goesL_ (some 42) rfl rfl Try.func26 (by kernel_rfl) rfl #[.agg #[.int .i64 a0_0, .int .i64 a0_1, .int .i64 a0_2, .int .i64 a0_3], .agg #[.int .i64 a1_0, .int .i64 a1_1, .int .i64 a1_2, .int .i64 a1_3]] rfl (by (try simp only [List.map_toArray, List.map_cons, List.map_nil]); first | done | rfl | (simp only [List.length_drop, List.length_take]; rfl)) ?_; (with_reducible refine (rect_Meet.calls a0_0 a0_1 a0_2 a0_3 a1_0 a1_1 a1_2 a1_3 t646 t647 t648 t649 _ A37.out).mono ?_); rintro e w55 ⟨rfl, hb⟩; refine ⟨_, rfl, ?_⟩; have n0_ := Aside0.mk (Kd.R_below (by (with_reducible repeat (first | apply Kd.R_alloc | apply Kd.R_drewN | apply Kd.R_drew)); exact HO_27.out) hb); have n1_ := Aside0.mk (blk_below (g := gb635) (o := .cells #[.int .i64 a0_0, .int .i64 a0_1, .int .i64 a0_2, .int .i64 a0_3] 26 (0, 0)) (by (with_reducible repeat (first | refine blk_drewN ?_ _ | refine blk_drew ?_ | refine blk_alloc ?_ _)); exact BK635.out) hb); have n2_ := Aside0.mk (blk_below (g := gb636) (o := .cells #[.int .i64 a1_0, .int .i64 a1_1, .int .i64 a1_2, .int .i64 a1_3] 26 (0, 0)) (by (with_reducible repeat (first | refine blk_drewN ?_ _ | refine blk_drew ?_ | refine blk_alloc ?_ _)); exact BK636.out) hb); have n3_ := Aside0.mk (below_step (by repeat (first | (with_reducible first | exact HB.out | apply below_alloc | apply pw_below_drewN | apply below_drew1 | refine below_set ?_ GE635.out | refine below_set ?_ GE636.out) | exact HB.out)) hb); clear HO_27; clear BK635; clear BK636; clear HB; have HO_27 := n0_; have BK635 := n1_; have BK636 := n2_; have HB := n3_; clear n0_ n1_ n2_ n3_; (try clear hb); (try clear hb2); (try clear hk); (try clear hi)) | ((with_reducible refine gate_callee (f := 22) rfl ?_); refine goesL_ (some 45) rfl rfl Try.func22 (by kernel_rfl) rfl #[.agg #[.int .i64 t646, .int .i64 t647, .int .i64 t648, .int .i64 t649], .int .i64 a2, .int .i64 a3] rfl (by (try simp only [List.map_toArray, List.map_cons, List.map_nil]); first | done | rfl | (simp only [List.length_drop, List.length_take]; rfl)) ?_; (with_reducible refine (rect_Has.calls t646 t647 t648 t649 a2 a3 t650 _ A38.out).mono ?_); rintro e w56 ⟨rfl, hb⟩; refine ⟨_, rfl, ?_⟩; have n0_ := Aside0.mk (Kd.R_below (by (with_reducible repeat (first | apply Kd.R_alloc | apply Kd.R_drewN | apply Kd.R_drew)); exact HO_27.out) hb); have n1_ := Aside0.mk (blk_below (g := gb635) (o := .cells #[.int .i64 a0_0, .int .i64 a0_1, .int .i64 a0_2, .int .i64 a0_3] 26 (0, 0)) (by (with_reducible repeat (first | refine blk_drewN ?_ _ | refine blk_drew ?_ | refine blk_alloc ?_ _)); exact BK635.out) hb); have n2_ := Aside0.mk (blk_below (g := gb636) (o := .cells #[.int .i64 a1_0, .int .i64 a1_1, .int .i64 a1_2, .int .i64 a1_3] 26 (0, 0)) (by (with_reducible repeat (first | refine blk_drewN ?_ _ | refine blk_drew ?_ | refine blk_alloc ?_ _)); exact BK636.out) hb); have n3_ := Aside0.mk (below_step (by repeat (first | (with_reducible first | exact HB.out | apply below_alloc | apply pw_below_drewN | apply below_drew1 | refine below_set ?_ GE635.out | refine below_set ?_ GE636.out) | exact HB.out)) hb); clear HO_27; clear BK635; clear BK636; clear HB; have HO_27 := n0_; have BK635 := n1_; have BK636 := n2_; have HB := n3_; clear n0_ n1_ n2_ n3_; (try clear hb); (try clear hb2); (try clear hk); (try clear hi)))
                  go_meet
                  case rel => exact ⟨_, (decide (x11_1 > 1)), (by first | rfl | (simp; done) | (simp [*]; done)), H', ⟨by have := HK1.out; first | omega | exact Nat.le_refl _⟩, ⟨by (with_reducible repeat (first | refine blk_drewN ?_ _ | refine blk_drew ?_ | refine blk_alloc ?_ _)); exact BK635.out⟩, ⟨by (with_reducible repeat (first | refine blk_drewN ?_ _ | refine blk_drew ?_ | refine blk_alloc ?_ _)); exact BK636.out⟩, ⟨by repeat (first | (with_reducible first | exact HB.out | apply below_alloc | apply pw_below_drewN | apply below_drew1 | refine below_set ?_ GE635.out | refine below_set ?_ GE636.out) | exact HB.out)⟩⟩
            · replace c39 := Bool.eq_false_iff.mpr c39
              subst c39
              have H1 : (if (t650 != false) = true then (casementlaw02_RectCells.j1 k1 a2 a3 false t639 true a0_0 a0_1 a0_2 a0_3 a1_0 a1_1 a1_2 a1_3) else (if ((x11_1 == 1) != false) = true then (casementlaw02_RectCells.j1 k1 a2 a3 false t639 true a0_0 a0_1 a0_2 a0_3 a1_0 a1_1 a1_2 a1_3) else (casementlaw02_RectCells.j1 k1 a2 a3 false t639 (decide (x11_1 > 1)) a0_0 a0_1 a0_2 a0_3 a1_0 a1_1 a1_2 a1_3))) = some r := by rw [if_neg (show ¬ (false = true) by decide)] at H; exact H
              clear H
              have H := H1
              clear H1
              by_cases c57 : (t650 != false) = true
              · rw [if_pos c57] at H
                have c57b0 : (t650 != false) = true := c57
                (try (have c57b1 : decide (t650 = false) = false := by simpa using c57))
                (try (have c57b2 : (t650 == false) = false := by simpa using c57))
                (try (have c57b3 : ¬ (t650 = false) := by simpa using c57))
                (try (have c57b4 : ((t650) = (false)) = False := eq_false ((fun (a_ b_ : Bool) (h_ : ((a_ != b_) = true)) => (show ¬ (a_ = b_) from by revert h_; cases a_ <;> cases b_ <;> decide)) (t650) (false) c57)))
                clear c57
                have H' := Aside0.mk H
                clear H
                have hnb58 := NB635_636.out
                have hnc58 := NB636_635.out
                have hcz59_0 : wr.cell? ⟨gb635, 0, none⟩ = some (.int .i64 a0_0) := (blk_cell BK635.out 0).trans rfl
                have hcz59_1 : wr.cell? ⟨gb635, 1, none⟩ = some (.int .i64 a0_1) := (blk_cell BK635.out 1).trans rfl
                have hcz59_2 : wr.cell? ⟨gb635, 2, none⟩ = some (.int .i64 a0_2) := (blk_cell BK635.out 2).trans rfl
                have hcz59_3 : wr.cell? ⟨gb635, 3, none⟩ = some (.int .i64 a0_3) := (blk_cell BK635.out 3).trans rfl
                have hfz59_0 := blk_frozen BK635.out 0
                have hfz59_1 := blk_frozen BK635.out 1
                have hfz59_2 := blk_frozen BK635.out 2
                have hfz59_3 := blk_frozen BK635.out 3
                have hcz60_0 : wr.cell? ⟨gb636, 0, none⟩ = some (.int .i64 a1_0) := (blk_cell BK636.out 0).trans rfl
                have hcz60_1 : wr.cell? ⟨gb636, 1, none⟩ = some (.int .i64 a1_1) := (blk_cell BK636.out 1).trans rfl
                have hcz60_2 : wr.cell? ⟨gb636, 2, none⟩ = some (.int .i64 a1_2) := (blk_cell BK636.out 2).trans rfl
                have hcz60_3 : wr.cell? ⟨gb636, 3, none⟩ = some (.int .i64 a1_3) := (blk_cell BK636.out 3).trans rfl
                have hfz60_0 := blk_frozen BK636.out 0
                have hfz60_1 := blk_frozen BK636.out 1
                have hfz60_2 := blk_frozen BK636.out 2
                have hfz60_3 := blk_frozen BK636.out 3
                go_wp2_with (first | ((with_reducible refine gate_callee (f := 26) rfl ?_); refine goesL_ (some 42) rfl rfl Try.func26 (by kernel_rfl) rfl #[.agg #[.int .i64 a0_0, .int .i64 a0_1, .int .i64 a0_2, .int .i64 a0_3], .agg #[.int .i64 a1_0, .int .i64 a1_1, .int .i64 a1_2, .int .i64 a1_3]] rfl (by (try simp only [List.map_toArray, List.map_cons, List.map_nil]); first | done | rfl | (simp only [List.length_drop, List.length_take]; rfl)) ?_; (with_reducible refine (rect_Meet.calls a0_0 a0_1 a0_2 a0_3 a1_0 a1_1 a1_2 a1_3 t646 t647 t648 t649 _ A37.out).mono ?_); rintro e w61 ⟨rfl, hb⟩; refine ⟨_, rfl, ?_⟩; have n0_ := Aside0.mk (Kd.R_below (by (with_reducible repeat (first | apply Kd.R_alloc | apply Kd.R_drewN | apply Kd.R_drew)); exact HO_27.out) hb); have n1_ := Aside0.mk (blk_below (g := gb635) (o := .cells #[.int .i64 a0_0, .int .i64 a0_1, .int .i64 a0_2, .int .i64 a0_3] 26 (0, 0)) (by (with_reducible repeat (first | refine blk_drewN ?_ _ | refine blk_drew ?_ | refine blk_alloc ?_ _)); exact BK635.out) hb); have n2_ := Aside0.mk (blk_below (g := gb636) (o := .cells #[.int .i64 a1_0, .int .i64 a1_1, .int .i64 a1_2, .int .i64 a1_3] 26 (0, 0)) (by (with_reducible repeat (first | refine blk_drewN ?_ _ | refine blk_drew ?_ | refine blk_alloc ?_ _)); exact BK636.out) hb); have n3_ := Aside0.mk (below_step (by repeat (first | (with_reducible first | exact HB.out | apply below_alloc | apply pw_below_drewN | apply below_drew1 | refine below_set ?_ GE635.out | refine below_set ?_ GE636.out) | exact HB.out)) hb); clear HO_27; clear BK635; clear BK636; clear HB; have HO_27 := n0_; have BK635 := n1_; have BK636 := n2_; have HB := n3_; clear n0_ n1_ n2_ n3_; (try clear hb); (try clear hb2); (try clear hk); (try clear hi)) | ((with_reducible refine gate_callee (f := 22) rfl ?_); refine goesL_ (some 45) rfl rfl Try.func22 (by kernel_rfl) rfl #[.agg #[.int .i64 t646, .int .i64 t647, .int .i64 t648, .int .i64 t649], .int .i64 a2, .int .i64 a3] rfl (by (try simp only [List.map_toArray, List.map_cons, List.map_nil]); first | done | rfl | (simp only [List.length_drop, List.length_take]; rfl)) ?_; (with_reducible refine (rect_Has.calls t646 t647 t648 t649 a2 a3 t650 _ A38.out).mono ?_); rintro e w62 ⟨rfl, hb⟩; refine ⟨_, rfl, ?_⟩; have n0_ := Aside0.mk (Kd.R_below (by (with_reducible repeat (first | apply Kd.R_alloc | apply Kd.R_drewN | apply Kd.R_drew)); exact HO_27.out) hb); have n1_ := Aside0.mk (blk_below (g := gb635) (o := .cells #[.int .i64 a0_0, .int .i64 a0_1, .int .i64 a0_2, .int .i64 a0_3] 26 (0, 0)) (by (with_reducible repeat (first | refine blk_drewN ?_ _ | refine blk_drew ?_ | refine blk_alloc ?_ _)); exact BK635.out) hb); have n2_ := Aside0.mk (blk_below (g := gb636) (o := .cells #[.int .i64 a1_0, .int .i64 a1_1, .int .i64 a1_2, .int .i64 a1_3] 26 (0, 0)) (by (with_reducible repeat (first | refine blk_drewN ?_ _ | refine blk_drew ?_ | refine blk_alloc ?_ _)); exact BK636.out) hb); have n3_ := Aside0.mk (below_step (by repeat (first | (with_reducible first | exact HB.out | apply below_alloc | apply pw_below_drewN | apply below_drew1 | refine below_set ?_ GE635.out | refine below_set ?_ GE636.out) | exact HB.out)) hb); clear HO_27; clear BK635; clear BK636; clear HB; have HO_27 := n0_; have BK635 := n1_; have BK636 := n2_; have HB := n3_; clear n0_ n1_ n2_ n3_; (try clear hb); (try clear hb2); (try clear hk); (try clear hi)))
                go_meet
                case rel => exact ⟨_, (true), (by first | rfl | (simp; done) | (simp [*]; done)), H', ⟨by have := HK1.out; first | omega | exact Nat.le_refl _⟩, ⟨by (with_reducible repeat (first | refine blk_drewN ?_ _ | refine blk_drew ?_ | refine blk_alloc ?_ _)); exact BK635.out⟩, ⟨by (with_reducible repeat (first | refine blk_drewN ?_ _ | refine blk_drew ?_ | refine blk_alloc ?_ _)); exact BK636.out⟩, ⟨by repeat (first | (with_reducible first | exact HB.out | apply below_alloc | apply pw_below_drewN | apply below_drew1 | refine below_set ?_ GE635.out | refine below_set ?_ GE636.out) | exact HB.out)⟩⟩
              · rw [if_neg c57] at H
                have c57b0 : (t650 != false) = false := by simpa using c57
                (try (have c57b1 : decide (t650 = false) = true := by simpa using c57))
                (try (have c57b2 : (t650 == false) = true := by simpa using c57))
                (try (have c57b3 : ((t650) = (false)) = True := eq_true ((fun (a_ b_ : Bool) (h_ : ¬ ((a_ != b_) = true)) => (show (a_ = b_) from by revert h_; cases a_ <;> cases b_ <;> decide)) (t650) (false) c57)))
                clear c57
                by_cases c63 : ((x11_1 == 1) != false) = true
                · rw [if_pos c63] at H
                  have c63b0 : ((x11_1 == 1) != false) = true := c63
                  (try (have c63b1 : decide ((x11_1 == 1) = false) = false := by simpa using c63))
                  (try (have c63b2 : ((x11_1 == 1) == false) = false := by simpa using c63))
                  (try (have c63b3 : ¬ ((x11_1 == 1) = false) := by simpa using c63))
                  (try (have c63b4 : (((x11_1 == 1)) = (false)) = False := eq_false ((fun (a_ b_ : Bool) (h_ : ((a_ != b_) = true)) => (show ¬ (a_ = b_) from by revert h_; cases a_ <;> cases b_ <;> decide)) ((x11_1 == 1)) (false) c63)))
                  clear c63
                  have H' := Aside0.mk H
                  clear H
                  have hnb64 := NB635_636.out
                  have hnc64 := NB636_635.out
                  have hcz65_0 : wr.cell? ⟨gb635, 0, none⟩ = some (.int .i64 a0_0) := (blk_cell BK635.out 0).trans rfl
                  have hcz65_1 : wr.cell? ⟨gb635, 1, none⟩ = some (.int .i64 a0_1) := (blk_cell BK635.out 1).trans rfl
                  have hcz65_2 : wr.cell? ⟨gb635, 2, none⟩ = some (.int .i64 a0_2) := (blk_cell BK635.out 2).trans rfl
                  have hcz65_3 : wr.cell? ⟨gb635, 3, none⟩ = some (.int .i64 a0_3) := (blk_cell BK635.out 3).trans rfl
                  have hfz65_0 := blk_frozen BK635.out 0
                  have hfz65_1 := blk_frozen BK635.out 1
                  have hfz65_2 := blk_frozen BK635.out 2
                  have hfz65_3 := blk_frozen BK635.out 3
                  have hcz66_0 : wr.cell? ⟨gb636, 0, none⟩ = some (.int .i64 a1_0) := (blk_cell BK636.out 0).trans rfl
                  have hcz66_1 : wr.cell? ⟨gb636, 1, none⟩ = some (.int .i64 a1_1) := (blk_cell BK636.out 1).trans rfl
                  have hcz66_2 : wr.cell? ⟨gb636, 2, none⟩ = some (.int .i64 a1_2) := (blk_cell BK636.out 2).trans rfl
                  have hcz66_3 : wr.cell? ⟨gb636, 3, none⟩ = some (.int .i64 a1_3) := (blk_cell BK636.out 3).trans rfl
                  have hfz66_0 := blk_frozen BK636.out 0
                  have hfz66_1 := blk_frozen BK636.out 1
                  have hfz66_2 := blk_frozen BK636.out 2
                  have hfz66_3 := blk_frozen BK636.out 3
                  go_wp2_with (first | ((with_reducible refine gate_callee (f := 26) rfl ?_); refine goesL_ (some 42) rfl rfl Try.func26 (by kernel_rfl) rfl #[.agg #[.int .i64 a0_0, .int .i64 a0_1, .int .i64 a0_2, .int .i64 a0_3], .agg #[.int .i64 a1_0, .int .i64 a1_1, .int .i64 a1_2, .int .i64 a1_3]] rfl (by (try simp only [List.map_toArray, List.map_cons, List.map_nil]); first | done | rfl | (simp only [List.length_drop, List.length_take]; rfl)) ?_; (with_reducible refine (rect_Meet.calls a0_0 a0_1 a0_2 a0_3 a1_0 a1_1 a1_2 a1_3 t646 t647 t648 t649 _ A37.out).mono ?_); rintro e w67 ⟨rfl, hb⟩; refine ⟨_, rfl, ?_⟩; have n0_ := Aside0.mk (Kd.R_below (by (with_reducible repeat (first | apply Kd.R_alloc | apply Kd.R_drewN | apply Kd.R_drew)); exact HO_27.out) hb); have n1_ := Aside0.mk (blk_below (g := gb635) (o := .cells #[.int .i64 a0_0, .int .i64 a0_1, .int .i64 a0_2, .int .i64 a0_3] 26 (0, 0)) (by (with_reducible repeat (first | refine blk_drewN ?_ _ | refine blk_drew ?_ | refine blk_alloc ?_ _)); exact BK635.out) hb); have n2_ := Aside0.mk (blk_below (g := gb636) (o := .cells #[.int .i64 a1_0, .int .i64 a1_1, .int .i64 a1_2, .int .i64 a1_3] 26 (0, 0)) (by (with_reducible repeat (first | refine blk_drewN ?_ _ | refine blk_drew ?_ | refine blk_alloc ?_ _)); exact BK636.out) hb); have n3_ := Aside0.mk (below_step (by repeat (first | (with_reducible first | exact HB.out | apply below_alloc | apply pw_below_drewN | apply below_drew1 | refine below_set ?_ GE635.out | refine below_set ?_ GE636.out) | exact HB.out)) hb); clear HO_27; clear BK635; clear BK636; clear HB; have HO_27 := n0_; have BK635 := n1_; have BK636 := n2_; have HB := n3_; clear n0_ n1_ n2_ n3_; (try clear hb); (try clear hb2); (try clear hk); (try clear hi)) | ((with_reducible refine gate_callee (f := 22) rfl ?_); refine goesL_ (some 45) rfl rfl Try.func22 (by kernel_rfl) rfl #[.agg #[.int .i64 t646, .int .i64 t647, .int .i64 t648, .int .i64 t649], .int .i64 a2, .int .i64 a3] rfl (by (try simp only [List.map_toArray, List.map_cons, List.map_nil]); first | done | rfl | (simp only [List.length_drop, List.length_take]; rfl)) ?_; (with_reducible refine (rect_Has.calls t646 t647 t648 t649 a2 a3 t650 _ A38.out).mono ?_); rintro e w68 ⟨rfl, hb⟩; refine ⟨_, rfl, ?_⟩; have n0_ := Aside0.mk (Kd.R_below (by (with_reducible repeat (first | apply Kd.R_alloc | apply Kd.R_drewN | apply Kd.R_drew)); exact HO_27.out) hb); have n1_ := Aside0.mk (blk_below (g := gb635) (o := .cells #[.int .i64 a0_0, .int .i64 a0_1, .int .i64 a0_2, .int .i64 a0_3] 26 (0, 0)) (by (with_reducible repeat (first | refine blk_drewN ?_ _ | refine blk_drew ?_ | refine blk_alloc ?_ _)); exact BK635.out) hb); have n2_ := Aside0.mk (blk_below (g := gb636) (o := .cells #[.int .i64 a1_0, .int .i64 a1_1, .int .i64 a1_2, .int .i64 a1_3] 26 (0, 0)) (by (with_reducible repeat (first | refine blk_drewN ?_ _ | refine blk_drew ?_ | refine blk_alloc ?_ _)); exact BK636.out) hb); have n3_ := Aside0.mk (below_step (by repeat (first | (with_reducible first | exact HB.out | apply below_alloc | apply pw_below_drewN | apply below_drew1 | refine below_set ?_ GE635.out | refine below_set ?_ GE636.out) | exact HB.out)) hb); clear HO_27; clear BK635; clear BK636; clear HB; have HO_27 := n0_; have BK635 := n1_; have BK636 := n2_; have HB := n3_; clear n0_ n1_ n2_ n3_; (try clear hb); (try clear hb2); (try clear hk); (try clear hi)))
                  go_meet
                  case rel => exact ⟨_, (true), (by first | rfl | (simp; done) | (simp [*]; done)), H', ⟨by have := HK1.out; first | omega | exact Nat.le_refl _⟩, ⟨by (with_reducible repeat (first | refine blk_drewN ?_ _ | refine blk_drew ?_ | refine blk_alloc ?_ _)); exact BK635.out⟩, ⟨by (with_reducible repeat (first | refine blk_drewN ?_ _ | refine blk_drew ?_ | refine blk_alloc ?_ _)); exact BK636.out⟩, ⟨by repeat (first | (with_reducible first | exact HB.out | apply below_alloc | apply pw_below_drewN | apply below_drew1 | refine below_set ?_ GE635.out | refine below_set ?_ GE636.out) | exact HB.out)⟩⟩
                · rw [if_neg c63] at H
                  have c63b0 : ((x11_1 == 1) != false) = false := by simpa using c63
                  (try (have c63b1 : decide ((x11_1 == 1) = false) = true := by simpa using c63))
                  (try (have c63b2 : ((x11_1 == 1) == false) = true := by simpa using c63))
                  (try (have c63b3 : (((x11_1 == 1)) = (false)) = True := eq_true ((fun (a_ b_ : Bool) (h_ : ¬ ((a_ != b_) = true)) => (show (a_ = b_) from by revert h_; cases a_ <;> cases b_ <;> decide)) ((x11_1 == 1)) (false) c63)))
                  clear c63
                  have H' := Aside0.mk H
                  clear H
                  have hnb69 := NB635_636.out
                  have hnc69 := NB636_635.out
                  have hcz70_0 : wr.cell? ⟨gb635, 0, none⟩ = some (.int .i64 a0_0) := (blk_cell BK635.out 0).trans rfl
                  have hcz70_1 : wr.cell? ⟨gb635, 1, none⟩ = some (.int .i64 a0_1) := (blk_cell BK635.out 1).trans rfl
                  have hcz70_2 : wr.cell? ⟨gb635, 2, none⟩ = some (.int .i64 a0_2) := (blk_cell BK635.out 2).trans rfl
                  have hcz70_3 : wr.cell? ⟨gb635, 3, none⟩ = some (.int .i64 a0_3) := (blk_cell BK635.out 3).trans rfl
                  have hfz70_0 := blk_frozen BK635.out 0
                  have hfz70_1 := blk_frozen BK635.out 1
                  have hfz70_2 := blk_frozen BK635.out 2
                  have hfz70_3 := blk_frozen BK635.out 3
                  have hcz71_0 : wr.cell? ⟨gb636, 0, none⟩ = some (.int .i64 a1_0) := (blk_cell BK636.out 0).trans rfl
                  have hcz71_1 : wr.cell? ⟨gb636, 1, none⟩ = some (.int .i64 a1_1) := (blk_cell BK636.out 1).trans rfl
                  have hcz71_2 : wr.cell? ⟨gb636, 2, none⟩ = some (.int .i64 a1_2) := (blk_cell BK636.out 2).trans rfl
                  have hcz71_3 : wr.cell? ⟨gb636, 3, none⟩ = some (.int .i64 a1_3) := (blk_cell BK636.out 3).trans rfl
                  have hfz71_0 := blk_frozen BK636.out 0
                  have hfz71_1 := blk_frozen BK636.out 1
                  have hfz71_2 := blk_frozen BK636.out 2
                  have hfz71_3 := blk_frozen BK636.out 3
                  go_wp2_with (first | ((with_reducible refine gate_callee (f := 26) rfl ?_); refine goesL_ (some 42) rfl rfl Try.func26 (by kernel_rfl) rfl #[.agg #[.int .i64 a0_0, .int .i64 a0_1, .int .i64 a0_2, .int .i64 a0_3], .agg #[.int .i64 a1_0, .int .i64 a1_1, .int .i64 a1_2, .int .i64 a1_3]] rfl (by (try simp only [List.map_toArray, List.map_cons, List.map_nil]); first | done | rfl | (simp only [List.length_drop, List.length_take]; rfl)) ?_; (with_reducible refine (rect_Meet.calls a0_0 a0_1 a0_2 a0_3 a1_0 a1_1 a1_2 a1_3 t646 t647 t648 t649 _ A37.out).mono ?_); rintro e w72 ⟨rfl, hb⟩; refine ⟨_, rfl, ?_⟩; have n0_ := Aside0.mk (Kd.R_below (by (with_reducible repeat (first | apply Kd.R_alloc | apply Kd.R_drewN | apply Kd.R_drew)); exact HO_27.out) hb); have n1_ := Aside0.mk (blk_below (g := gb635) (o := .cells #[.int .i64 a0_0, .int .i64 a0_1, .int .i64 a0_2, .int .i64 a0_3] 26 (0, 0)) (by (with_reducible repeat (first | refine blk_drewN ?_ _ | refine blk_drew ?_ | refine blk_alloc ?_ _)); exact BK635.out) hb); have n2_ := Aside0.mk (blk_below (g := gb636) (o := .cells #[.int .i64 a1_0, .int .i64 a1_1, .int .i64 a1_2, .int .i64 a1_3] 26 (0, 0)) (by (with_reducible repeat (first | refine blk_drewN ?_ _ | refine blk_drew ?_ | refine blk_alloc ?_ _)); exact BK636.out) hb); have n3_ := Aside0.mk (below_step (by repeat (first | (with_reducible first | exact HB.out | apply below_alloc | apply pw_below_drewN | apply below_drew1 | refine below_set ?_ GE635.out | refine below_set ?_ GE636.out) | exact HB.out)) hb); clear HO_27; clear BK635; clear BK636; clear HB; have HO_27 := n0_; have BK635 := n1_; have BK636 := n2_; have HB := n3_; clear n0_ n1_ n2_ n3_; (try clear hb); (try clear hb2); (try clear hk); (try clear hi)) | ((with_reducible refine gate_callee (f := 22) rfl ?_); refine goesL_ (some 45) rfl rfl Try.func22 (by kernel_rfl) rfl #[.agg #[.int .i64 t646, .int .i64 t647, .int .i64 t648, .int .i64 t649], .int .i64 a2, .int .i64 a3] rfl (by (try simp only [List.map_toArray, List.map_cons, List.map_nil]); first | done | rfl | (simp only [List.length_drop, List.length_take]; rfl)) ?_; (with_reducible refine (rect_Has.calls t646 t647 t648 t649 a2 a3 t650 _ A38.out).mono ?_); rintro e w73 ⟨rfl, hb⟩; refine ⟨_, rfl, ?_⟩; have n0_ := Aside0.mk (Kd.R_below (by (with_reducible repeat (first | apply Kd.R_alloc | apply Kd.R_drewN | apply Kd.R_drew)); exact HO_27.out) hb); have n1_ := Aside0.mk (blk_below (g := gb635) (o := .cells #[.int .i64 a0_0, .int .i64 a0_1, .int .i64 a0_2, .int .i64 a0_3] 26 (0, 0)) (by (with_reducible repeat (first | refine blk_drewN ?_ _ | refine blk_drew ?_ | refine blk_alloc ?_ _)); exact BK635.out) hb); have n2_ := Aside0.mk (blk_below (g := gb636) (o := .cells #[.int .i64 a1_0, .int .i64 a1_1, .int .i64 a1_2, .int .i64 a1_3] 26 (0, 0)) (by (with_reducible repeat (first | refine blk_drewN ?_ _ | refine blk_drew ?_ | refine blk_alloc ?_ _)); exact BK636.out) hb); have n3_ := Aside0.mk (below_step (by repeat (first | (with_reducible first | exact HB.out | apply below_alloc | apply pw_below_drewN | apply below_drew1 | refine below_set ?_ GE635.out | refine below_set ?_ GE636.out) | exact HB.out)) hb); clear HO_27; clear BK635; clear BK636; clear HB; have HO_27 := n0_; have BK635 := n1_; have BK636 := n2_; have HB := n3_; clear n0_ n1_ n2_ n3_; (try clear hb); (try clear hb2); (try clear hk); (try clear hi)))
                  go_meet
                  case rel => exact ⟨_, (decide (x11_1 > 1)), (by first | rfl | (simp; done) | (simp [*]; done)), H', ⟨by have := HK1.out; first | omega | exact Nat.le_refl _⟩, ⟨by (with_reducible repeat (first | refine blk_drewN ?_ _ | refine blk_drew ?_ | refine blk_alloc ?_ _)); exact BK635.out⟩, ⟨by (with_reducible repeat (first | refine blk_drewN ?_ _ | refine blk_drew ?_ | refine blk_alloc ?_ _)); exact BK636.out⟩, ⟨by repeat (first | (with_reducible first | exact HB.out | apply below_alloc | apply pw_below_drewN | apply below_drew1 | refine below_set ?_ GE635.out | refine below_set ?_ GE636.out) | exact HB.out)⟩⟩
          case rest =>
            clear HC36
            try clear c1
            try clear c2
            try clear p2
            try clear c3
            try clear c4
            try clear c5
            try clear c6
            try clear p6
            try clear q6
            try clear hx6
            try clear c11
            try clear c12
            try clear c16
            try clear c21
            try clear c21b0
            try clear c22
            try clear c22b0
            try clear c23
            try clear c23b0
            try clear c25
            try clear c26
            try clear c27
            try clear c28
            try clear c32
            try clear c33
            try clear c36
            try clear c39
            try clear c40
            try clear c40b0
            try clear c40b1
            try clear c40b2
            try clear c41
            try clear c46
            try clear c46b0
            try clear c46b1
            try clear c46b2
            try clear c47
            try clear c52
            try clear c57
            try clear c57b0
            try clear c57b1
            try clear c57b2
            try clear c58
            try clear c63
            try clear c63b0
            try clear c63b1
            try clear c63b2
            try clear c64
            try clear p64
            try clear q64
            try clear hx64
            try clear c69
            try clear hcz17_0
            try clear hcz17_1
            try clear hcz17_2
            try clear hcz17_3
            try clear hcz18_0
            try clear hcz18_1
            try clear hcz18_2
            try clear hcz18_3
            try clear hcz29_0
            try clear hcz29_1
            try clear hcz29_2
            try clear hcz29_3
            try clear hcz34_0
            try clear hcz34_1
            try clear hcz34_2
            try clear hcz34_3
            try clear hcz42_0
            try clear hcz42_1
            try clear hcz42_2
            try clear hcz42_3
            try clear hcz43_0
            try clear hcz43_1
            try clear hcz43_2
            try clear hcz43_3
            try clear hcz48_0
            try clear hcz48_1
            try clear hcz48_2
            try clear hcz48_3
            try clear hcz49_0
            try clear hcz49_1
            try clear hcz49_2
            try clear hcz49_3
            try clear hcz53_0
            try clear hcz53_1
            try clear hcz53_2
            try clear hcz53_3
            try clear hcz54_0
            try clear hcz54_1
            try clear hcz54_2
            try clear hcz54_3
            try clear hcz59_0
            try clear hcz59_1
            try clear hcz59_2
            try clear hcz59_3
            try clear hcz60_0
            try clear hcz60_1
            try clear hcz60_2
            try clear hcz60_3
            try clear hcz65_0
            try clear hcz65_1
            try clear hcz65_2
            try clear hcz65_3
            try clear hcz66_0
            try clear hcz66_1
            try clear hcz66_2
            try clear hcz66_3
            try clear hcz70_0
            try clear hcz70_1
            try clear hcz70_2
            try clear hcz70_3
            try clear hcz71_0
            try clear hcz71_1
            try clear hcz71_2
            try clear hcz71_3
            try clear hfz17_0
            try clear hfz17_1
            try clear hfz17_2
            try clear hfz17_3
            try clear hfz18_0
            try clear hfz18_1
            try clear hfz18_2
            try clear hfz18_3
            try clear hfz29_0
            try clear hfz29_1
            try clear hfz29_2
            try clear hfz29_3
            try clear hfz34_0
            try clear hfz34_1
            try clear hfz34_2
            try clear hfz34_3
            try clear hfz42_0
            try clear hfz42_1
            try clear hfz42_2
            try clear hfz42_3
            try clear hfz43_0
            try clear hfz43_1
            try clear hfz43_2
            try clear hfz43_3
            try clear hfz48_0
            try clear hfz48_1
            try clear hfz48_2
            try clear hfz48_3
            try clear hfz49_0
            try clear hfz49_1
            try clear hfz49_2
            try clear hfz49_3
            try clear hfz53_0
            try clear hfz53_1
            try clear hfz53_2
            try clear hfz53_3
            try clear hfz54_0
            try clear hfz54_1
            try clear hfz54_2
            try clear hfz54_3
            try clear hfz59_0
            try clear hfz59_1
            try clear hfz59_2
            try clear hfz59_3
            try clear hfz60_0
            try clear hfz60_1
            try clear hfz60_2
            try clear hfz60_3
            try clear hfz65_0
            try clear hfz65_1
            try clear hfz65_2
            try clear hfz65_3
            try clear hfz66_0
            try clear hfz66_1
            try clear hfz66_2
            try clear hfz66_3
            try clear hfz70_0
            try clear hfz70_1
            try clear hfz70_2
            try clear hfz70_3
            try clear hfz71_0
            try clear hfz71_1
            try clear hfz71_2
            try clear hfz71_3
            try clear hx643_0
            try clear hx643_1
            try clear hx643_2
            try clear hx643_3
            try clear p2
            try clear p643
            try clear q643
            obtain ⟨kq, x64_35, rfl, HA, HJ35, BK635, BK636, HB⟩ := hcut
            cases kq with
            | zero => exact absurd HA.out (by simp [casementlaw02_RectCells.j1])
            | succ kj35 =>
              have H := HA.out
              clear HA
              simp only [casementlaw02_RectCells.j1] at H
              by_cases c74 : x64_35 = true
              · subst c74
                have H1 : (some false) = some r := by rw [if_pos rfl] at H; exact H
                clear H
                have H := H1
                clear H1
                exact absurd ((Option.some.inj H).trans HRT.out) (by decide)
              · replace c74 := Bool.eq_false_iff.mpr c74
                subst c74
                have H1 : ((rect_Hull.f a0_0 a0_1 a0_2 a0_3 a1_0 a1_1 a1_2 a1_3).bind fun bt651 => (if bt651.2.2.1 = 200 then (some true) else (if bt651.2.2.2 = 200 then (some true) else ((rect_Has.f bt651.1 bt651.2.1 bt651.2.2.1 bt651.2.2.2 a2 a3).bind fun t656 => (if t656 = true then (some true) else (if t638 = true then (some false) else (some (!t639)))))))) = some r := by rw [if_neg (show ¬ (false = true) by decide)] at H; exact H
                clear H
                have H := H1
                clear H1
                replace H := Option.bind_eq_some_iff.mp H
                obtain ⟨⟨t651, t652, t653, t654⟩, A750, H⟩ := H
                replace H : (if t653 = 200 then (some true) else (if t654 = 200 then (some true) else ((rect_Has.f t651 t652 t653 t654 a2 a3).bind fun t656 => (if t656 = true then (some true) else (if t638 = true then (some false) else (some (!t639))))))) = some r := H
                have A75 := Aside0.mk A750
                clear A750
                by_cases c76 : t653 = 200
                · rw [if_pos c76] at H
                  have c76b0 : (t653 == 200) = true := beq_iff_eq.mpr c76
                  have c76b1 : (t653 != 200) = false := bne_eq_false_iff_eq.mpr c76
                  clear c76
                  obtain rfl := Option.some.inj H
                  have hnb77 := NB635_636.out
                  have hnc77 := NB636_635.out
                  have hcz78_0 : wc.cell? ⟨gb635, 0, none⟩ = some (.int .i64 a0_0) := (blk_cell BK635.out 0).trans rfl
                  have hcz78_1 : wc.cell? ⟨gb635, 1, none⟩ = some (.int .i64 a0_1) := (blk_cell BK635.out 1).trans rfl
                  have hcz78_2 : wc.cell? ⟨gb635, 2, none⟩ = some (.int .i64 a0_2) := (blk_cell BK635.out 2).trans rfl
                  have hcz78_3 : wc.cell? ⟨gb635, 3, none⟩ = some (.int .i64 a0_3) := (blk_cell BK635.out 3).trans rfl
                  have hfz78_0 := blk_frozen BK635.out 0
                  have hfz78_1 := blk_frozen BK635.out 1
                  have hfz78_2 := blk_frozen BK635.out 2
                  have hfz78_3 := blk_frozen BK635.out 3
                  have hcz79_0 : wc.cell? ⟨gb636, 0, none⟩ = some (.int .i64 a1_0) := (blk_cell BK636.out 0).trans rfl
                  have hcz79_1 : wc.cell? ⟨gb636, 1, none⟩ = some (.int .i64 a1_1) := (blk_cell BK636.out 1).trans rfl
                  have hcz79_2 : wc.cell? ⟨gb636, 2, none⟩ = some (.int .i64 a1_2) := (blk_cell BK636.out 2).trans rfl
                  have hcz79_3 : wc.cell? ⟨gb636, 3, none⟩ = some (.int .i64 a1_3) := (blk_cell BK636.out 3).trans rfl
                  have hfz79_0 := blk_frozen BK636.out 0
                  have hfz79_1 := blk_frozen BK636.out 1
                  have hfz79_2 := blk_frozen BK636.out 2
                  have hfz79_3 := blk_frozen BK636.out 3
                  go_wp2_with (first | ((with_reducible refine gate_callee (f := 35) rfl ?_); refine goesL_ (some 67) rfl rfl Try.func35 (by kernel_rfl) rfl #[.agg #[.int .i64 a0_0, .int .i64 a0_1, .int .i64 a0_2, .int .i64 a0_3], .agg #[.int .i64 a1_0, .int .i64 a1_1, .int .i64 a1_2, .int .i64 a1_3]] rfl (by (try simp only [List.map_toArray, List.map_cons, List.map_nil]); first | done | rfl | (simp only [List.length_drop, List.length_take]; rfl)) ?_; (with_reducible refine (rect_Hull.calls a0_0 a0_1 a0_2 a0_3 a1_0 a1_1 a1_2 a1_3 t651 t652 t653 t654 _ A75.out).mono ?_); rintro e w80 ⟨rfl, hb⟩; refine ⟨_, rfl, ?_⟩; have n0_ := Aside0.mk (blk_below (g := gb635) (o := .cells #[.int .i64 a0_0, .int .i64 a0_1, .int .i64 a0_2, .int .i64 a0_3] 26 (0, 0)) (by (with_reducible repeat (first | refine blk_drewN ?_ _ | refine blk_drew ?_ | refine blk_alloc ?_ _)); exact BK635.out) hb); have n1_ := Aside0.mk (blk_below (g := gb636) (o := .cells #[.int .i64 a1_0, .int .i64 a1_1, .int .i64 a1_2, .int .i64 a1_3] 26 (0, 0)) (by (with_reducible repeat (first | refine blk_drewN ?_ _ | refine blk_drew ?_ | refine blk_alloc ?_ _)); exact BK636.out) hb); have n2_ := Aside0.mk (below_step (by repeat (first | (with_reducible first | exact HB.out | apply below_alloc | apply pw_below_drewN | apply below_drew1 | refine below_set ?_ GE635.out | refine below_set ?_ GE636.out) | exact HB.out)) hb); clear BK635; clear BK636; clear HB; have BK635 := n0_; have BK636 := n1_; have HB := n2_; clear n0_ n1_ n2_; (try clear hb); (try clear hb2); (try clear hk); (try clear hi)) | ((with_reducible refine gate_dst (N := 14) rfl ?_); refine box_event ?hg (N := 14) ?hd (cs := #[.int .i64 0, .int .i64 0, .int .i64 0, .int .i64 0]) (t := 26) ?hr ?_; (case hd => rfl); (case hg => rfl); (case hr => first | (go_simp; done) | (go_simp; rfl)); intro gb655 hg w81 hbox hb; have n0_ := Aside0.mk (blk_below (g := gb635) (o := .cells #[.int .i64 a0_0, .int .i64 a0_1, .int .i64 a0_2, .int .i64 a0_3] 26 (0, 0)) (by (with_reducible repeat (first | refine blk_drewN ?_ _ | refine blk_drew ?_ | refine blk_alloc ?_ _)); exact BK635.out) hb); have n1_ := Aside0.mk (blk_below (g := gb636) (o := .cells #[.int .i64 a1_0, .int .i64 a1_1, .int .i64 a1_2, .int .i64 a1_3] 26 (0, 0)) (by (with_reducible repeat (first | refine blk_drewN ?_ _ | refine blk_drew ?_ | refine blk_alloc ?_ _)); exact BK636.out) hb); have n2_ := Aside0.mk (below_step (by repeat (first | (with_reducible first | exact HB.out | apply below_alloc | apply pw_below_drewN | apply below_drew1 | refine below_set ?_ GE635.out | refine below_set ?_ GE636.out) | exact HB.out)) hb); have n3_ := Aside0.mk (hbox); have n4_ := Aside0.mk ((by rw [hg]; exact (below_size (by repeat (first | (with_reducible first | exact HB.out | apply below_alloc | apply pw_below_drewN | apply below_drew1 | refine below_set ?_ GE635.out | refine below_set ?_ GE636.out) | exact HB.out))) : w.heap.size ≤ gb655)); have n5_ := Aside0.mk ((by rw [hg]; exact (below_size (by repeat (first | (with_reducible first | exact HB.out | apply below_alloc | apply pw_below_drewN | apply below_drew1 | refine below_set ?_ GE635.out | refine below_set ?_ GE636.out) | exact HB.out))) : w.heap.size ≤ gb655)); have n6_ := Aside0.mk ((by rw [hg]; exact Nat.ne_of_lt (blk_lt (g := gb635) (o := .cells #[.int .i64 a0_0, .int .i64 a0_1, .int .i64 a0_2, .int .i64 a0_3] 26 (0, 0)) (by (with_reducible repeat (first | refine blk_drewN ?_ _ | refine blk_drew ?_ | refine blk_alloc ?_ _)); exact BK635.out)) : gb635 ≠ gb655)); have n7_ := Aside0.mk ((by rw [hg]; exact Nat.ne_of_gt (blk_lt (g := gb635) (o := .cells #[.int .i64 a0_0, .int .i64 a0_1, .int .i64 a0_2, .int .i64 a0_3] 26 (0, 0)) (by (with_reducible repeat (first | refine blk_drewN ?_ _ | refine blk_drew ?_ | refine blk_alloc ?_ _)); exact BK635.out)) : gb655 ≠ gb635)); have n8_ := Aside0.mk ((by rw [hg]; exact Nat.ne_of_lt (blk_lt (g := gb636) (o := .cells #[.int .i64 a1_0, .int .i64 a1_1, .int .i64 a1_2, .int .i64 a1_3] 26 (0, 0)) (by (with_reducible repeat (first | refine blk_drewN ?_ _ | refine blk_drew ?_ | refine blk_alloc ?_ _)); exact BK636.out)) : gb636 ≠ gb655)); have n9_ := Aside0.mk ((by rw [hg]; exact Nat.ne_of_gt (blk_lt (g := gb636) (o := .cells #[.int .i64 a1_0, .int .i64 a1_1, .int .i64 a1_2, .int .i64 a1_3] 26 (0, 0)) (by (with_reducible repeat (first | refine blk_drewN ?_ _ | refine blk_drew ?_ | refine blk_alloc ?_ _)); exact BK636.out)) : gb655 ≠ gb636)); clear BK635; clear BK636; clear HB; have BK635 := n0_; have BK636 := n1_; have HB := n2_; have BK655 := n3_; have GW655 := n4_; have GE655 := n5_; have NB635_655 := n6_; have NB655_635 := n7_; have NB636_655 := n8_; have NB655_636 := n9_; clear n0_ n1_ n2_ n3_ n4_ n5_ n6_ n7_ n8_ n9_; clear hb hbox hg; have hnb82 := NB655_635.out; have hnc82 := NB635_655.out; have hnb83 := NB655_636.out; have hnc83 := NB636_655.out; have hcz84_0 : w81.cell? ⟨gb655, 0, none⟩ = some (.int .i64 0) := (blk_cell BK655.out 0).trans rfl; have hcz84_1 : w81.cell? ⟨gb655, 1, none⟩ = some (.int .i64 0) := (blk_cell BK655.out 1).trans rfl; have hcz84_2 : w81.cell? ⟨gb655, 2, none⟩ = some (.int .i64 0) := (blk_cell BK655.out 2).trans rfl; have hcz84_3 : w81.cell? ⟨gb655, 3, none⟩ = some (.int .i64 0) := (blk_cell BK655.out 3).trans rfl; have hfz84_0 := blk_frozen BK655.out 0; have hfz84_1 := blk_frozen BK655.out 1; have hfz84_2 := blk_frozen BK655.out 2; have hfz84_3 := blk_frozen BK655.out 3))
                  go_ret
                  exact ⟨by first | rfl | (simp [errW_none, errW_some] <;> rfl) | (simp [*, errW_none, errW_some] <;> rfl), by repeat (first | (with_reducible first | exact HB.out | apply below_alloc | apply pw_below_drewN | apply below_drew1 | refine below_set ?_ GE635.out | refine below_set ?_ GE636.out | refine below_set ?_ GE655.out) | exact HB.out)⟩
                · rw [if_neg c76] at H
                  have c76b0 : (t653 == 200) = false := beq_eq_false_iff_ne.mpr c76
                  have c76b1 : (t653 != 200) = true := bne_iff_ne.mpr c76
                  by_cases c85 : t654 = 200
                  · rw [if_pos c85] at H
                    have c85b0 : (t654 == 200) = true := beq_iff_eq.mpr c85
                    have c85b1 : (t654 != 200) = false := bne_eq_false_iff_eq.mpr c85
                    clear c85
                    obtain rfl := Option.some.inj H
                    have hnb86 := NB635_636.out
                    have hnc86 := NB636_635.out
                    have hcz87_0 : wc.cell? ⟨gb635, 0, none⟩ = some (.int .i64 a0_0) := (blk_cell BK635.out 0).trans rfl
                    have hcz87_1 : wc.cell? ⟨gb635, 1, none⟩ = some (.int .i64 a0_1) := (blk_cell BK635.out 1).trans rfl
                    have hcz87_2 : wc.cell? ⟨gb635, 2, none⟩ = some (.int .i64 a0_2) := (blk_cell BK635.out 2).trans rfl
                    have hcz87_3 : wc.cell? ⟨gb635, 3, none⟩ = some (.int .i64 a0_3) := (blk_cell BK635.out 3).trans rfl
                    have hfz87_0 := blk_frozen BK635.out 0
                    have hfz87_1 := blk_frozen BK635.out 1
                    have hfz87_2 := blk_frozen BK635.out 2
                    have hfz87_3 := blk_frozen BK635.out 3
                    have hcz88_0 : wc.cell? ⟨gb636, 0, none⟩ = some (.int .i64 a1_0) := (blk_cell BK636.out 0).trans rfl
                    have hcz88_1 : wc.cell? ⟨gb636, 1, none⟩ = some (.int .i64 a1_1) := (blk_cell BK636.out 1).trans rfl
                    have hcz88_2 : wc.cell? ⟨gb636, 2, none⟩ = some (.int .i64 a1_2) := (blk_cell BK636.out 2).trans rfl
                    have hcz88_3 : wc.cell? ⟨gb636, 3, none⟩ = some (.int .i64 a1_3) := (blk_cell BK636.out 3).trans rfl
                    have hfz88_0 := blk_frozen BK636.out 0
                    have hfz88_1 := blk_frozen BK636.out 1
                    have hfz88_2 := blk_frozen BK636.out 2
                    have hfz88_3 := blk_frozen BK636.out 3
                    go_wp2_with (first | ((with_reducible refine gate_callee (f := 35) rfl ?_); refine goesL_ (some 67) rfl rfl Try.func35 (by kernel_rfl) rfl #[.agg #[.int .i64 a0_0, .int .i64 a0_1, .int .i64 a0_2, .int .i64 a0_3], .agg #[.int .i64 a1_0, .int .i64 a1_1, .int .i64 a1_2, .int .i64 a1_3]] rfl (by (try simp only [List.map_toArray, List.map_cons, List.map_nil]); first | done | rfl | (simp only [List.length_drop, List.length_take]; rfl)) ?_; (with_reducible refine (rect_Hull.calls a0_0 a0_1 a0_2 a0_3 a1_0 a1_1 a1_2 a1_3 t651 t652 t653 t654 _ A75.out).mono ?_); rintro e w89 ⟨rfl, hb⟩; refine ⟨_, rfl, ?_⟩; have n0_ := Aside0.mk (blk_below (g := gb635) (o := .cells #[.int .i64 a0_0, .int .i64 a0_1, .int .i64 a0_2, .int .i64 a0_3] 26 (0, 0)) (by (with_reducible repeat (first | refine blk_drewN ?_ _ | refine blk_drew ?_ | refine blk_alloc ?_ _)); exact BK635.out) hb); have n1_ := Aside0.mk (blk_below (g := gb636) (o := .cells #[.int .i64 a1_0, .int .i64 a1_1, .int .i64 a1_2, .int .i64 a1_3] 26 (0, 0)) (by (with_reducible repeat (first | refine blk_drewN ?_ _ | refine blk_drew ?_ | refine blk_alloc ?_ _)); exact BK636.out) hb); have n2_ := Aside0.mk (below_step (by repeat (first | (with_reducible first | exact HB.out | apply below_alloc | apply pw_below_drewN | apply below_drew1 | refine below_set ?_ GE635.out | refine below_set ?_ GE636.out) | exact HB.out)) hb); clear BK635; clear BK636; clear HB; have BK635 := n0_; have BK636 := n1_; have HB := n2_; clear n0_ n1_ n2_; (try clear hb); (try clear hb2); (try clear hk); (try clear hi)) | ((with_reducible refine gate_dst (N := 14) rfl ?_); refine box_event ?hg (N := 14) ?hd (cs := #[.int .i64 0, .int .i64 0, .int .i64 0, .int .i64 0]) (t := 26) ?hr ?_; (case hd => rfl); (case hg => rfl); (case hr => first | (go_simp; done) | (go_simp; rfl)); intro gb655 hg w90 hbox hb; have n0_ := Aside0.mk (blk_below (g := gb635) (o := .cells #[.int .i64 a0_0, .int .i64 a0_1, .int .i64 a0_2, .int .i64 a0_3] 26 (0, 0)) (by (with_reducible repeat (first | refine blk_drewN ?_ _ | refine blk_drew ?_ | refine blk_alloc ?_ _)); exact BK635.out) hb); have n1_ := Aside0.mk (blk_below (g := gb636) (o := .cells #[.int .i64 a1_0, .int .i64 a1_1, .int .i64 a1_2, .int .i64 a1_3] 26 (0, 0)) (by (with_reducible repeat (first | refine blk_drewN ?_ _ | refine blk_drew ?_ | refine blk_alloc ?_ _)); exact BK636.out) hb); have n2_ := Aside0.mk (below_step (by repeat (first | (with_reducible first | exact HB.out | apply below_alloc | apply pw_below_drewN | apply below_drew1 | refine below_set ?_ GE635.out | refine below_set ?_ GE636.out) | exact HB.out)) hb); have n3_ := Aside0.mk (hbox); have n4_ := Aside0.mk ((by rw [hg]; exact (below_size (by repeat (first | (with_reducible first | exact HB.out | apply below_alloc | apply pw_below_drewN | apply below_drew1 | refine below_set ?_ GE635.out | refine below_set ?_ GE636.out) | exact HB.out))) : w.heap.size ≤ gb655)); have n5_ := Aside0.mk ((by rw [hg]; exact (below_size (by repeat (first | (with_reducible first | exact HB.out | apply below_alloc | apply pw_below_drewN | apply below_drew1 | refine below_set ?_ GE635.out | refine below_set ?_ GE636.out) | exact HB.out))) : w.heap.size ≤ gb655)); have n6_ := Aside0.mk ((by rw [hg]; exact Nat.ne_of_lt (blk_lt (g := gb635) (o := .cells #[.int .i64 a0_0, .int .i64 a0_1, .int .i64 a0_2, .int .i64 a0_3] 26 (0, 0)) (by (with_reducible repeat (first | refine blk_drewN ?_ _ | refine blk_drew ?_ | refine blk_alloc ?_ _)); exact BK635.out)) : gb635 ≠ gb655)); have n7_ := Aside0.mk ((by rw [hg]; exact Nat.ne_of_gt (blk_lt (g := gb635) (o := .cells #[.int .i64 a0_0, .int .i64 a0_1, .int .i64 a0_2, .int .i64 a0_3] 26 (0, 0)) (by (with_reducible repeat (first | refine blk_drewN ?_ _ | refine blk_drew ?_ | refine blk_alloc ?_ _)); exact BK635.out)) : gb655 ≠ gb635)); have n8_ := Aside0.mk ((by rw [hg]; exact Nat.ne_of_lt (blk_lt (g := gb636) (o := .cells #[.int .i64 a1_0, .int .i64 a1_1, .int .i64 a1_2, .int .i64 a1_3] 26 (0, 0)) (by (with_reducible repeat (first | refine blk_drewN ?_ _ | refine blk_drew ?_ | refine blk_alloc ?_ _)); exact BK636.out)) : gb636 ≠ gb655)); have n9_ := Aside0.mk ((by rw [hg]; exact Nat.ne_of_gt (blk_lt (g := gb636) (o := .cells #[.int .i64 a1_0, .int .i64 a1_1, .int .i64 a1_2, .int .i64 a1_3] 26 (0, 0)) (by (with_reducible repeat (first | refine blk_drewN ?_ _ | refine blk_drew ?_ | refine blk_alloc ?_ _)); exact BK636.out)) : gb655 ≠ gb636)); clear BK635; clear BK636; clear HB; have BK635 := n0_; have BK636 := n1_; have HB := n2_; have BK655 := n3_; have GW655 := n4_; have GE655 := n5_; have NB635_655 := n6_; have NB655_635 := n7_; have NB636_655 := n8_; have NB655_636 := n9_; clear n0_ n1_ n2_ n3_ n4_ n5_ n6_ n7_ n8_ n9_; clear hb hbox hg; have hnb91 := NB655_635.out; have hnc91 := NB635_655.out; have hnb92 := NB655_636.out; have hnc92 := NB636_655.out; have hcz93_0 : w90.cell? ⟨gb655, 0, none⟩ = some (.int .i64 0) := (blk_cell BK655.out 0).trans rfl; have hcz93_1 : w90.cell? ⟨gb655, 1, none⟩ = some (.int .i64 0) := (blk_cell BK655.out 1).trans rfl; have hcz93_2 : w90.cell? ⟨gb655, 2, none⟩ = some (.int .i64 0) := (blk_cell BK655.out 2).trans rfl; have hcz93_3 : w90.cell? ⟨gb655, 3, none⟩ = some (.int .i64 0) := (blk_cell BK655.out 3).trans rfl; have hfz93_0 := blk_frozen BK655.out 0; have hfz93_1 := blk_frozen BK655.out 1; have hfz93_2 := blk_frozen BK655.out 2; have hfz93_3 := blk_frozen BK655.out 3))
                    go_ret
                    exact ⟨by first | rfl | (simp [errW_none, errW_some] <;> rfl) | (simp [*, errW_none, errW_some] <;> rfl), by repeat (first | (with_reducible first | exact HB.out | apply below_alloc | apply pw_below_drewN | apply below_drew1 | refine below_set ?_ GE635.out | refine below_set ?_ GE636.out | refine below_set ?_ GE655.out) | exact HB.out)⟩
                  · rw [if_neg c85] at H
                    have c85b0 : (t654 == 200) = false := beq_eq_false_iff_ne.mpr c85
                    have c85b1 : (t654 != 200) = true := bne_iff_ne.mpr c85
                    replace H := Option.bind_eq_some_iff.mp H
                    obtain ⟨t656, A940, H⟩ := H
                    replace H : (if t656 = true then (some true) else (if t638 = true then (some false) else (some (!t639)))) = some r := H
                    have A94 := Aside0.mk A940
                    clear A940
                    by_cases c95 : t656 = true
                    · subst c95
                      have H1 : (some true) = some r := by rw [if_pos rfl] at H; exact H
                      clear H
                      have H := H1
                      clear H1
                      obtain rfl := Option.some.inj H
                      have hnb96 := NB635_636.out
                      have hnc96 := NB636_635.out
                      have hcz97_0 : wc.cell? ⟨gb635, 0, none⟩ = some (.int .i64 a0_0) := (blk_cell BK635.out 0).trans rfl
                      have hcz97_1 : wc.cell? ⟨gb635, 1, none⟩ = some (.int .i64 a0_1) := (blk_cell BK635.out 1).trans rfl
                      have hcz97_2 : wc.cell? ⟨gb635, 2, none⟩ = some (.int .i64 a0_2) := (blk_cell BK635.out 2).trans rfl
                      have hcz97_3 : wc.cell? ⟨gb635, 3, none⟩ = some (.int .i64 a0_3) := (blk_cell BK635.out 3).trans rfl
                      have hfz97_0 := blk_frozen BK635.out 0
                      have hfz97_1 := blk_frozen BK635.out 1
                      have hfz97_2 := blk_frozen BK635.out 2
                      have hfz97_3 := blk_frozen BK635.out 3
                      have hcz98_0 : wc.cell? ⟨gb636, 0, none⟩ = some (.int .i64 a1_0) := (blk_cell BK636.out 0).trans rfl
                      have hcz98_1 : wc.cell? ⟨gb636, 1, none⟩ = some (.int .i64 a1_1) := (blk_cell BK636.out 1).trans rfl
                      have hcz98_2 : wc.cell? ⟨gb636, 2, none⟩ = some (.int .i64 a1_2) := (blk_cell BK636.out 2).trans rfl
                      have hcz98_3 : wc.cell? ⟨gb636, 3, none⟩ = some (.int .i64 a1_3) := (blk_cell BK636.out 3).trans rfl
                      have hfz98_0 := blk_frozen BK636.out 0
                      have hfz98_1 := blk_frozen BK636.out 1
                      have hfz98_2 := blk_frozen BK636.out 2
                      have hfz98_3 := blk_frozen BK636.out 3
                      go_wp2_with (first | ((with_reducible refine gate_callee (f := 35) rfl ?_); refine goesL_ (some 67) rfl rfl Try.func35 (by kernel_rfl) rfl #[.agg #[.int .i64 a0_0, .int .i64 a0_1, .int .i64 a0_2, .int .i64 a0_3], .agg #[.int .i64 a1_0, .int .i64 a1_1, .int .i64 a1_2, .int .i64 a1_3]] rfl (by (try simp only [List.map_toArray, List.map_cons, List.map_nil]); first | done | rfl | (simp only [List.length_drop, List.length_take]; rfl)) ?_; (with_reducible refine (rect_Hull.calls a0_0 a0_1 a0_2 a0_3 a1_0 a1_1 a1_2 a1_3 t651 t652 t653 t654 _ A75.out).mono ?_); rintro e w99 ⟨rfl, hb⟩; refine ⟨_, rfl, ?_⟩; have n0_ := Aside0.mk (blk_below (g := gb635) (o := .cells #[.int .i64 a0_0, .int .i64 a0_1, .int .i64 a0_2, .int .i64 a0_3] 26 (0, 0)) (by (with_reducible repeat (first | refine blk_drewN ?_ _ | refine blk_drew ?_ | refine blk_alloc ?_ _)); exact BK635.out) hb); have n1_ := Aside0.mk (blk_below (g := gb636) (o := .cells #[.int .i64 a1_0, .int .i64 a1_1, .int .i64 a1_2, .int .i64 a1_3] 26 (0, 0)) (by (with_reducible repeat (first | refine blk_drewN ?_ _ | refine blk_drew ?_ | refine blk_alloc ?_ _)); exact BK636.out) hb); have n2_ := Aside0.mk (below_step (by repeat (first | (with_reducible first | exact HB.out | apply below_alloc | apply pw_below_drewN | apply below_drew1 | refine below_set ?_ GE635.out | refine below_set ?_ GE636.out) | exact HB.out)) hb); clear BK635; clear BK636; clear HB; have BK635 := n0_; have BK636 := n1_; have HB := n2_; clear n0_ n1_ n2_; (try clear hb); (try clear hb2); (try clear hk); (try clear hi)) | ((with_reducible refine gate_dst (N := 14) rfl ?_); refine box_event ?hg (N := 14) ?hd (cs := #[.int .i64 0, .int .i64 0, .int .i64 0, .int .i64 0]) (t := 26) ?hr ?_; (case hd => rfl); (case hg => rfl); (case hr => first | (go_simp; done) | (go_simp; rfl)); intro gb655 hg w100 hbox hb; have n0_ := Aside0.mk (blk_below (g := gb635) (o := .cells #[.int .i64 a0_0, .int .i64 a0_1, .int .i64 a0_2, .int .i64 a0_3] 26 (0, 0)) (by (with_reducible repeat (first | refine blk_drewN ?_ _ | refine blk_drew ?_ | refine blk_alloc ?_ _)); exact BK635.out) hb); have n1_ := Aside0.mk (blk_below (g := gb636) (o := .cells #[.int .i64 a1_0, .int .i64 a1_1, .int .i64 a1_2, .int .i64 a1_3] 26 (0, 0)) (by (with_reducible repeat (first | refine blk_drewN ?_ _ | refine blk_drew ?_ | refine blk_alloc ?_ _)); exact BK636.out) hb); have n2_ := Aside0.mk (below_step (by repeat (first | (with_reducible first | exact HB.out | apply below_alloc | apply pw_below_drewN | apply below_drew1 | refine below_set ?_ GE635.out | refine below_set ?_ GE636.out) | exact HB.out)) hb); have n3_ := Aside0.mk (hbox); have n4_ := Aside0.mk ((by rw [hg]; exact (below_size (by repeat (first | (with_reducible first | exact HB.out | apply below_alloc | apply pw_below_drewN | apply below_drew1 | refine below_set ?_ GE635.out | refine below_set ?_ GE636.out) | exact HB.out))) : w.heap.size ≤ gb655)); have n5_ := Aside0.mk ((by rw [hg]; exact (below_size (by repeat (first | (with_reducible first | exact HB.out | apply below_alloc | apply pw_below_drewN | apply below_drew1 | refine below_set ?_ GE635.out | refine below_set ?_ GE636.out) | exact HB.out))) : w.heap.size ≤ gb655)); have n6_ := Aside0.mk ((by rw [hg]; exact Nat.ne_of_lt (blk_lt (g := gb635) (o := .cells #[.int .i64 a0_0, .int .i64 a0_1, .int .i64 a0_2, .int .i64 a0_3] 26 (0, 0)) (by (with_reducible repeat (first | refine blk_drewN ?_ _ | refine blk_drew ?_ | refine blk_alloc ?_ _)); exact BK635.out)) : gb635 ≠ gb655)); have n7_ := Aside0.mk ((by rw [hg]; exact Nat.ne_of_gt (blk_lt (g := gb635) (o := .cells #[.int .i64 a0_0, .int .i64 a0_1, .int .i64 a0_2, .int .i64 a0_3] 26 (0, 0)) (by (with_reducible repeat (first | refine blk_drewN ?_ _ | refine blk_drew ?_ | refine blk_alloc ?_ _)); exact BK635.out)) : gb655 ≠ gb635)); have n8_ := Aside0.mk ((by rw [hg]; exact Nat.ne_of_lt (blk_lt (g := gb636) (o := .cells #[.int .i64 a1_0, .int .i64 a1_1, .int .i64 a1_2, .int .i64 a1_3] 26 (0, 0)) (by (with_reducible repeat (first | refine blk_drewN ?_ _ | refine blk_drew ?_ | refine blk_alloc ?_ _)); exact BK636.out)) : gb636 ≠ gb655)); have n9_ := Aside0.mk ((by rw [hg]; exact Nat.ne_of_gt (blk_lt (g := gb636) (o := .cells #[.int .i64 a1_0, .int .i64 a1_1, .int .i64 a1_2, .int .i64 a1_3] 26 (0, 0)) (by (with_reducible repeat (first | refine blk_drewN ?_ _ | refine blk_drew ?_ | refine blk_alloc ?_ _)); exact BK636.out)) : gb655 ≠ gb636)); clear BK635; clear BK636; clear HB; have BK635 := n0_; have BK636 := n1_; have HB := n2_; have BK655 := n3_; have GW655 := n4_; have GE655 := n5_; have NB635_655 := n6_; have NB655_635 := n7_; have NB636_655 := n8_; have NB655_636 := n9_; clear n0_ n1_ n2_ n3_ n4_ n5_ n6_ n7_ n8_ n9_; clear hb hbox hg; have hnb101 := NB655_635.out; have hnc101 := NB635_655.out; have hnb102 := NB655_636.out; have hnc102 := NB636_655.out; have hcz103_0 : w100.cell? ⟨gb655, 0, none⟩ = some (.int .i64 0) := (blk_cell BK655.out 0).trans rfl; have hcz103_1 : w100.cell? ⟨gb655, 1, none⟩ = some (.int .i64 0) := (blk_cell BK655.out 1).trans rfl; have hcz103_2 : w100.cell? ⟨gb655, 2, none⟩ = some (.int .i64 0) := (blk_cell BK655.out 2).trans rfl; have hcz103_3 : w100.cell? ⟨gb655, 3, none⟩ = some (.int .i64 0) := (blk_cell BK655.out 3).trans rfl; have hfz103_0 := blk_frozen BK655.out 0; have hfz103_1 := blk_frozen BK655.out 1; have hfz103_2 := blk_frozen BK655.out 2; have hfz103_3 := blk_frozen BK655.out 3) | (go_at_call 22; (with_reducible refine (rect_Has.calls t651 t652 t653 t654 a2 a3 true _ A94.out).mono ?_); rintro e w104 ⟨rfl, hb⟩; have n0_ := Aside0.mk (blk_below (g := gb635) (o := .cells #[.int .i64 a0_0, .int .i64 a0_1, .int .i64 a0_2, .int .i64 a0_3] 26 (0, 0)) (by (with_reducible repeat (first | refine blk_drewN ?_ _ | refine blk_drew ?_ | refine blk_alloc ?_ _)); refine blk_far ?_ NB635_655.out _; (with_reducible repeat (first | refine blk_drewN ?_ _ | refine blk_drew ?_ | refine blk_alloc ?_ _)); refine blk_far ?_ NB635_655.out _; (with_reducible repeat (first | refine blk_drewN ?_ _ | refine blk_drew ?_ | refine blk_alloc ?_ _)); refine blk_far ?_ NB635_655.out _; (with_reducible repeat (first | refine blk_drewN ?_ _ | refine blk_drew ?_ | refine blk_alloc ?_ _)); refine blk_far ?_ NB635_655.out _; (with_reducible repeat (first | refine blk_drewN ?_ _ | refine blk_drew ?_ | refine blk_alloc ?_ _)); exact BK635.out) hb); have n1_ := Aside0.mk (blk_below (g := gb636) (o := .cells #[.int .i64 a1_0, .int .i64 a1_1, .int .i64 a1_2, .int .i64 a1_3] 26 (0, 0)) (by (with_reducible repeat (first | refine blk_drewN ?_ _ | refine blk_drew ?_ | refine blk_alloc ?_ _)); refine blk_far ?_ NB636_655.out _; (with_reducible repeat (first | refine blk_drewN ?_ _ | refine blk_drew ?_ | refine blk_alloc ?_ _)); refine blk_far ?_ NB636_655.out _; (with_reducible repeat (first | refine blk_drewN ?_ _ | refine blk_drew ?_ | refine blk_alloc ?_ _)); refine blk_far ?_ NB636_655.out _; (with_reducible repeat (first | refine blk_drewN ?_ _ | refine blk_drew ?_ | refine blk_alloc ?_ _)); refine blk_far ?_ NB636_655.out _; (with_reducible repeat (first | refine blk_drewN ?_ _ | refine blk_drew ?_ | refine blk_alloc ?_ _)); exact BK636.out) hb); have n2_ := Aside0.mk (blk_below (g := gb655) (o := .cells #[.int .i64 t651, .int .i64 t652, .int .i64 t653, .int .i64 t654] 26 (0, 0)) (by (with_reducible repeat (first | refine blk_drewN ?_ _ | refine blk_drew ?_ | refine blk_alloc ?_ _)); refine blk_put (cs := #[.int .i64 t651, .int .i64 t652, .int .i64 t653, .int .i64 0]) ?_ 3 _ rfl; (with_reducible repeat (first | refine blk_drewN ?_ _ | refine blk_drew ?_ | refine blk_alloc ?_ _)); refine blk_put (cs := #[.int .i64 t651, .int .i64 t652, .int .i64 0, .int .i64 0]) ?_ 2 _ rfl; (with_reducible repeat (first | refine blk_drewN ?_ _ | refine blk_drew ?_ | refine blk_alloc ?_ _)); refine blk_put (cs := #[.int .i64 t651, .int .i64 0, .int .i64 0, .int .i64 0]) ?_ 1 _ rfl; (with_reducible repeat (first | refine blk_drewN ?_ _ | refine blk_drew ?_ | refine blk_alloc ?_ _)); refine blk_put (cs := #[.int .i64 0, .int .i64 0, .int .i64 0, .int .i64 0]) ?_ 0 _ rfl; (with_reducible repeat (first | refine blk_drewN ?_ _ | refine blk_drew ?_ | refine blk_alloc ?_ _)); exact BK655.out) hb); have n3_ := Aside0.mk (below_step (by repeat (first | (with_reducible first | exact HB.out | apply below_alloc | apply pw_below_drewN | apply below_drew1 | refine below_set ?_ GE635.out | refine below_set ?_ GE636.out | refine below_set ?_ GE655.out) | exact HB.out)) hb); clear BK635; clear BK636; clear BK655; clear HB; have BK635 := n0_; have BK636 := n1_; have BK655 := n2_; have HB := n3_; clear n0_ n1_ n2_ n3_; (try clear hb); (try clear hb2); (try clear hk); (try clear hi)))
                      go_ret
                      exact ⟨by first | rfl | (simp [errW_none, errW_some] <;> rfl) | (simp [*, errW_none, errW_some] <;> rfl), by repeat (first | (with_reducible first | exact HB.out | apply below_alloc | apply pw_below_drewN | apply below_drew1 | refine below_set ?_ GE635.out | refine below_set ?_ GE636.out | refine below_set ?_ GE655.out) | exact HB.out)⟩
                    · replace c95 := Bool.eq_false_iff.mpr c95
                      subst c95
                      have H1 : (if t638 = true then (some false) else (some (!t639))) = some r := by rw [if_neg (show ¬ (false = true) by decide)] at H; exact H
                      clear H
                      have H := H1
                      clear H1
                      by_cases c105 : t638 = true
                      · subst c105
                        have H1 : (some false) = some r := by rw [if_pos rfl] at H; exact H
                        clear H
                        have H := H1
                        clear H1
                        exact absurd ((Option.some.inj H).trans HRT.out) (by decide)
                      · replace c105 := Bool.eq_false_iff.mpr c105
                        subst c105
                        have H1 : (some (!t639)) = some r := by rw [if_neg (show ¬ (false = true) by decide)] at H; exact H
                        clear H
                        have H := H1
                        clear H1
                        obtain rfl := Option.some.inj H
                        have hnb106 := NB635_636.out
                        have hnc106 := NB636_635.out
                        have hcz107_0 : wc.cell? ⟨gb635, 0, none⟩ = some (.int .i64 a0_0) := (blk_cell BK635.out 0).trans rfl
                        have hcz107_1 : wc.cell? ⟨gb635, 1, none⟩ = some (.int .i64 a0_1) := (blk_cell BK635.out 1).trans rfl
                        have hcz107_2 : wc.cell? ⟨gb635, 2, none⟩ = some (.int .i64 a0_2) := (blk_cell BK635.out 2).trans rfl
                        have hcz107_3 : wc.cell? ⟨gb635, 3, none⟩ = some (.int .i64 a0_3) := (blk_cell BK635.out 3).trans rfl
                        have hfz107_0 := blk_frozen BK635.out 0
                        have hfz107_1 := blk_frozen BK635.out 1
                        have hfz107_2 := blk_frozen BK635.out 2
                        have hfz107_3 := blk_frozen BK635.out 3
                        have hcz108_0 : wc.cell? ⟨gb636, 0, none⟩ = some (.int .i64 a1_0) := (blk_cell BK636.out 0).trans rfl
                        have hcz108_1 : wc.cell? ⟨gb636, 1, none⟩ = some (.int .i64 a1_1) := (blk_cell BK636.out 1).trans rfl
                        have hcz108_2 : wc.cell? ⟨gb636, 2, none⟩ = some (.int .i64 a1_2) := (blk_cell BK636.out 2).trans rfl
                        have hcz108_3 : wc.cell? ⟨gb636, 3, none⟩ = some (.int .i64 a1_3) := (blk_cell BK636.out 3).trans rfl
                        have hfz108_0 := blk_frozen BK636.out 0
                        have hfz108_1 := blk_frozen BK636.out 1
                        have hfz108_2 := blk_frozen BK636.out 2
                        have hfz108_3 := blk_frozen BK636.out 3
                        go_wp2_with (first | ((with_reducible refine gate_callee (f := 35) rfl ?_); refine goesL_ (some 67) rfl rfl Try.func35 (by kernel_rfl) rfl #[.agg #[.int .i64 a0_0, .int .i64 a0_1, .int .i64 a0_2, .int .i64 a0_3], .agg #[.int .i64 a1_0, .int .i64 a1_1, .int .i64 a1_2, .int .i64 a1_3]] rfl (by (try simp only [List.map_toArray, List.map_cons, List.map_nil]); first | done | rfl | (simp only [List.length_drop, List.length_take]; rfl)) ?_; (with_reducible refine (rect_Hull.calls a0_0 a0_1 a0_2 a0_3 a1_0 a1_1 a1_2 a1_3 t651 t652 t653 t654 _ A75.out).mono ?_); rintro e w109 ⟨rfl, hb⟩; refine ⟨_, rfl, ?_⟩; have n0_ := Aside0.mk (blk_below (g := gb635) (o := .cells #[.int .i64 a0_0, .int .i64 a0_1, .int .i64 a0_2, .int .i64 a0_3] 26 (0, 0)) (by (with_reducible repeat (first | refine blk_drewN ?_ _ | refine blk_drew ?_ | refine blk_alloc ?_ _)); exact BK635.out) hb); have n1_ := Aside0.mk (blk_below (g := gb636) (o := .cells #[.int .i64 a1_0, .int .i64 a1_1, .int .i64 a1_2, .int .i64 a1_3] 26 (0, 0)) (by (with_reducible repeat (first | refine blk_drewN ?_ _ | refine blk_drew ?_ | refine blk_alloc ?_ _)); exact BK636.out) hb); have n2_ := Aside0.mk (below_step (by repeat (first | (with_reducible first | exact HB.out | apply below_alloc | apply pw_below_drewN | apply below_drew1 | refine below_set ?_ GE635.out | refine below_set ?_ GE636.out) | exact HB.out)) hb); clear BK635; clear BK636; clear HB; have BK635 := n0_; have BK636 := n1_; have HB := n2_; clear n0_ n1_ n2_; (try clear hb); (try clear hb2); (try clear hk); (try clear hi)) | ((with_reducible refine gate_dst (N := 14) rfl ?_); refine box_event ?hg (N := 14) ?hd (cs := #[.int .i64 0, .int .i64 0, .int .i64 0, .int .i64 0]) (t := 26) ?hr ?_; (case hd => rfl); (case hg => rfl); (case hr => first | (go_simp; done) | (go_simp; rfl)); intro gb655 hg w110 hbox hb; have n0_ := Aside0.mk (blk_below (g := gb635) (o := .cells #[.int .i64 a0_0, .int .i64 a0_1, .int .i64 a0_2, .int .i64 a0_3] 26 (0, 0)) (by (with_reducible repeat (first | refine blk_drewN ?_ _ | refine blk_drew ?_ | refine blk_alloc ?_ _)); exact BK635.out) hb); have n1_ := Aside0.mk (blk_below (g := gb636) (o := .cells #[.int .i64 a1_0, .int .i64 a1_1, .int .i64 a1_2, .int .i64 a1_3] 26 (0, 0)) (by (with_reducible repeat (first | refine blk_drewN ?_ _ | refine blk_drew ?_ | refine blk_alloc ?_ _)); exact BK636.out) hb); have n2_ := Aside0.mk (below_step (by repeat (first | (with_reducible first | exact HB.out | apply below_alloc | apply pw_below_drewN | apply below_drew1 | refine below_set ?_ GE635.out | refine below_set ?_ GE636.out) | exact HB.out)) hb); have n3_ := Aside0.mk (hbox); have n4_ := Aside0.mk ((by rw [hg]; exact (below_size (by repeat (first | (with_reducible first | exact HB.out | apply below_alloc | apply pw_below_drewN | apply below_drew1 | refine below_set ?_ GE635.out | refine below_set ?_ GE636.out) | exact HB.out))) : w.heap.size ≤ gb655)); have n5_ := Aside0.mk ((by rw [hg]; exact (below_size (by repeat (first | (with_reducible first | exact HB.out | apply below_alloc | apply pw_below_drewN | apply below_drew1 | refine below_set ?_ GE635.out | refine below_set ?_ GE636.out) | exact HB.out))) : w.heap.size ≤ gb655)); have n6_ := Aside0.mk ((by rw [hg]; exact Nat.ne_of_lt (blk_lt (g := gb635) (o := .cells #[.int .i64 a0_0, .int .i64 a0_1, .int .i64 a0_2, .int .i64 a0_3] 26 (0, 0)) (by (with_reducible repeat (first | refine blk_drewN ?_ _ | refine blk_drew ?_ | refine blk_alloc ?_ _)); exact BK635.out)) : gb635 ≠ gb655)); have n7_ := Aside0.mk ((by rw [hg]; exact Nat.ne_of_gt (blk_lt (g := gb635) (o := .cells #[.int .i64 a0_0, .int .i64 a0_1, .int .i64 a0_2, .int .i64 a0_3] 26 (0, 0)) (by (with_reducible repeat (first | refine blk_drewN ?_ _ | refine blk_drew ?_ | refine blk_alloc ?_ _)); exact BK635.out)) : gb655 ≠ gb635)); have n8_ := Aside0.mk ((by rw [hg]; exact Nat.ne_of_lt (blk_lt (g := gb636) (o := .cells #[.int .i64 a1_0, .int .i64 a1_1, .int .i64 a1_2, .int .i64 a1_3] 26 (0, 0)) (by (with_reducible repeat (first | refine blk_drewN ?_ _ | refine blk_drew ?_ | refine blk_alloc ?_ _)); exact BK636.out)) : gb636 ≠ gb655)); have n9_ := Aside0.mk ((by rw [hg]; exact Nat.ne_of_gt (blk_lt (g := gb636) (o := .cells #[.int .i64 a1_0, .int .i64 a1_1, .int .i64 a1_2, .int .i64 a1_3] 26 (0, 0)) (by (with_reducible repeat (first | refine blk_drewN ?_ _ | refine blk_drew ?_ | refine blk_alloc ?_ _)); exact BK636.out)) : gb655 ≠ gb636)); clear BK635; clear BK636; clear HB; have BK635 := n0_; have BK636 := n1_; have HB := n2_; have BK655 := n3_; have GW655 := n4_; have GE655 := n5_; have NB635_655 := n6_; have NB655_635 := n7_; have NB636_655 := n8_; have NB655_636 := n9_; clear n0_ n1_ n2_ n3_ n4_ n5_ n6_ n7_ n8_ n9_; clear hb hbox hg; have hnb111 := NB655_635.out; have hnc111 := NB635_655.out; have hnb112 := NB655_636.out; have hnc112 := NB636_655.out; have hcz113_0 : w110.cell? ⟨gb655, 0, none⟩ = some (.int .i64 0) := (blk_cell BK655.out 0).trans rfl; have hcz113_1 : w110.cell? ⟨gb655, 1, none⟩ = some (.int .i64 0) := (blk_cell BK655.out 1).trans rfl; have hcz113_2 : w110.cell? ⟨gb655, 2, none⟩ = some (.int .i64 0) := (blk_cell BK655.out 2).trans rfl; have hcz113_3 : w110.cell? ⟨gb655, 3, none⟩ = some (.int .i64 0) := (blk_cell BK655.out 3).trans rfl; have hfz113_0 := blk_frozen BK655.out 0; have hfz113_1 := blk_frozen BK655.out 1; have hfz113_2 := blk_frozen BK655.out 2; have hfz113_3 := blk_frozen BK655.out 3) | (go_at_call 22; (with_reducible refine (rect_Has.calls t651 t652 t653 t654 a2 a3 false _ A94.out).mono ?_); rintro e w114 ⟨rfl, hb⟩; have n0_ := Aside0.mk (blk_below (g := gb635) (o := .cells #[.int .i64 a0_0, .int .i64 a0_1, .int .i64 a0_2, .int .i64 a0_3] 26 (0, 0)) (by (with_reducible repeat (first | refine blk_drewN ?_ _ | refine blk_drew ?_ | refine blk_alloc ?_ _)); refine blk_far ?_ NB635_655.out _; (with_reducible repeat (first | refine blk_drewN ?_ _ | refine blk_drew ?_ | refine blk_alloc ?_ _)); refine blk_far ?_ NB635_655.out _; (with_reducible repeat (first | refine blk_drewN ?_ _ | refine blk_drew ?_ | refine blk_alloc ?_ _)); refine blk_far ?_ NB635_655.out _; (with_reducible repeat (first | refine blk_drewN ?_ _ | refine blk_drew ?_ | refine blk_alloc ?_ _)); refine blk_far ?_ NB635_655.out _; (with_reducible repeat (first | refine blk_drewN ?_ _ | refine blk_drew ?_ | refine blk_alloc ?_ _)); exact BK635.out) hb); have n1_ := Aside0.mk (blk_below (g := gb636) (o := .cells #[.int .i64 a1_0, .int .i64 a1_1, .int .i64 a1_2, .int .i64 a1_3] 26 (0, 0)) (by (with_reducible repeat (first | refine blk_drewN ?_ _ | refine blk_drew ?_ | refine blk_alloc ?_ _)); refine blk_far ?_ NB636_655.out _; (with_reducible repeat (first | refine blk_drewN ?_ _ | refine blk_drew ?_ | refine blk_alloc ?_ _)); refine blk_far ?_ NB636_655.out _; (with_reducible repeat (first | refine blk_drewN ?_ _ | refine blk_drew ?_ | refine blk_alloc ?_ _)); refine blk_far ?_ NB636_655.out _; (with_reducible repeat (first | refine blk_drewN ?_ _ | refine blk_drew ?_ | refine blk_alloc ?_ _)); refine blk_far ?_ NB636_655.out _; (with_reducible repeat (first | refine blk_drewN ?_ _ | refine blk_drew ?_ | refine blk_alloc ?_ _)); exact BK636.out) hb); have n2_ := Aside0.mk (blk_below (g := gb655) (o := .cells #[.int .i64 t651, .int .i64 t652, .int .i64 t653, .int .i64 t654] 26 (0, 0)) (by (with_reducible repeat (first | refine blk_drewN ?_ _ | refine blk_drew ?_ | refine blk_alloc ?_ _)); refine blk_put (cs := #[.int .i64 t651, .int .i64 t652, .int .i64 t653, .int .i64 0]) ?_ 3 _ rfl; (with_reducible repeat (first | refine blk_drewN ?_ _ | refine blk_drew ?_ | refine blk_alloc ?_ _)); refine blk_put (cs := #[.int .i64 t651, .int .i64 t652, .int .i64 0, .int .i64 0]) ?_ 2 _ rfl; (with_reducible repeat (first | refine blk_drewN ?_ _ | refine blk_drew ?_ | refine blk_alloc ?_ _)); refine blk_put (cs := #[.int .i64 t651, .int .i64 0, .int .i64 0, .int .i64 0]) ?_ 1 _ rfl; (with_reducible repeat (first | refine blk_drewN ?_ _ | refine blk_drew ?_ | refine blk_alloc ?_ _)); refine blk_put (cs := #[.int .i64 0, .int .i64 0, .int .i64 0, .int .i64 0]) ?_ 0 _ rfl; (with_reducible repeat (first | refine blk_drewN ?_ _ | refine blk_drew ?_ | refine blk_alloc ?_ _)); exact BK655.out) hb); have n3_ := Aside0.mk (below_step (by repeat (first | (with_reducible first | exact HB.out | apply below_alloc | apply pw_below_drewN | apply below_drew1 | refine below_set ?_ GE635.out | refine below_set ?_ GE636.out | refine below_set ?_ GE655.out) | exact HB.out)) hb); clear BK635; clear BK636; clear BK655; clear HB; have BK635 := n0_; have BK636 := n1_; have BK655 := n2_; have HB := n3_; clear n0_ n1_ n2_ n3_; (try clear hb); (try clear hb2); (try clear hk); (try clear hi)))
                        go_ret
                        exact ⟨by first | rfl | (simp [errW_none, errW_some] <;> rfl) | (simp [*, errW_none, errW_some] <;> rfl), by repeat (first | (with_reducible first | exact HB.out | apply below_alloc | apply pw_below_drewN | apply below_drew1 | refine below_set ?_ GE635.out | refine below_set ?_ GE636.out | refine below_set ?_ GE655.out) | exact HB.out)⟩
  · replace c6 := Bool.eq_false_iff.mpr c6
    subst c6
    have H1 : (some false) = some r := by rw [if_neg (show ¬ (false = true) by decide)] at H; exact H
    clear H
    have H := H1
    clear H1
    exact absurd ((Option.some.inj H).trans HRT.out) (by decide)

def casementlaw02_RectCells.Pure : Prop := ∀ (a0_0 : Int) (a0_1 : Int) (a0_2 : Int) (a0_3 : Int) (a1_0 : Int) (a1_1 : Int) (a1_2 : Int) (a1_3 : Int) (a2 : Int) (a3 : Int), ((Lit.int .i64 a0_0).wf = true) → ((Lit.int .i64 a0_1).wf = true) → ((Lit.int .i64 a0_2).wf = true) → ((Lit.int .i64 a0_3).wf = true) → ((Lit.int .i64 a1_0).wf = true) → ((Lit.int .i64 a1_1).wf = true) → ((Lit.int .i64 a1_2).wf = true) → ((Lit.int .i64 a1_3).wf = true) → ((Lit.int .i64 a2).wf = true) → ((Lit.int .i64 a3).wf = true) → ∃ k, casementlaw02_RectCells.f k a0_0 a0_1 a0_2 a0_3 a1_0 a1_1 a1_2 a1_3 a2 a3 = some true
theorem casementlaw02_RectCells.walk (P : casementlaw02_RectCells.Pure) (a0_0 : Int) (a0_1 : Int) (a0_2 : Int) (a0_3 : Int) (a1_0 : Int) (a1_1 : Int) (a1_2 : Int) (a1_3 : Int) (a2 : Int) (a3 : Int) (w : World) (wl0 : ((Lit.int .i64 a0_0).wf = true)) (wl1 : ((Lit.int .i64 a0_1).wf = true)) (wl2 : ((Lit.int .i64 a0_2).wf = true)) (wl3 : ((Lit.int .i64 a0_3).wf = true)) (wl4 : ((Lit.int .i64 a1_0).wf = true)) (wl5 : ((Lit.int .i64 a1_1).wf = true)) (wl6 : ((Lit.int .i64 a1_2).wf = true)) (wl7 : ((Lit.int .i64 a1_3).wf = true)) (wl8 : ((Lit.int .i64 a2).wf = true)) (wl9 : ((Lit.int .i64 a3).wf = true))  :
    Calls Try.prog 11 #[.agg #[.int .i64 a0_0, .int .i64 a0_1, .int .i64 a0_2, .int .i64 a0_3], .agg #[.int .i64 a1_0, .int .i64 a1_1, .int .i64 a1_2, .int .i64 a1_3], .int .i64 a2, .int .i64 a3] w fun e w' => e = .returned (.bool true) ∧ Below w.heap.size w w' := by
  obtain ⟨k, h⟩ := P a0_0 a0_1 a0_2 a0_3 a1_0 a1_1 a1_2 a1_3 a2 a3 wl0 wl1 wl2 wl3 wl4 wl5 wl6 wl7 wl8 wl9
  refine (casementlaw02_RectCells.calls k a0_0 a0_1 a0_2 a0_3 a1_0 a1_1 a1_2 a1_3 a2 a3 true w  h rfl).mono ?_
  rintro e w' ⟨rfl, hd⟩
  exact ⟨rfl, hd⟩

end Go.Proofs.Ytmokmkaipcojkaa.Q
