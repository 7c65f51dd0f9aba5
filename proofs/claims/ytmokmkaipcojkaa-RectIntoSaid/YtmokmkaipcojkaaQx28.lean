-- written by a program of this session after the way of the kit's print; not the kit's own print. Lean checks it.
import Derived.Test.YtmokmkaipcojkaaQx0
import Derived.Test.YtmokmkaipcojkaaQx3
import Derived.Test.YtmokmkaipcojkaaQx10
namespace Go.Proofs.Ytmokmkaipcojkaa.Q
open Go.RowKit Go.Proofs.YtmokmkaipcojkaaW.PrintWords Go.Proofs.YtmokmkaipcojkaaW.PrintLast Go.Proofs.YtmokmkaipcojkaaW.PrintMore
attribute [local go_sem] max2_int min2_int max_two min_two max_three min_three max_four min_four   -- for this text's walks alone
set_option linter.unusedVariables false
set_option linter.unusedSimpArgs false

/-! ### rect_Shift: function 28 -/
def rect_Shift.f (k : Nat) (a0_0 : Int) (a0_1 : Int) (a0_2 : Int) (a0_3 : Int) (a1 : Int) (a2 : Int) : Option (Int × Int × Int × Int) := (rect_Clean.f a0_0 a0_1 a0_2 a0_3).bind fun bt460 => ((rect_Sum.f k bt460.1 a1).bind fun t464 => ((rect_Sum.f k bt460.2.1 a2).bind fun t465 => ((rect_Clean.f t464 t465 bt460.2.2.1 bt460.2.2.2).bind fun bt466 => (some (bt466.1, bt466.2.1, bt466.2.2.1, bt466.2.2.2)))))
theorem rect_Shift.mono : ∀ a0 a1 a2 a3 a4 a5 k, LeO (rect_Shift.f k a0 a1 a2 a3 a4 a5) (rect_Shift.f (k + 1) a0 a1 a2 a3 a4 a5) := by
  intro a0 a1 a2 a3 a4 a5 k
  unfold rect_Shift.f
  repeat' first
      | (with_reducible exact rect_Sum.mono _ _ _)
      | (with_reducible exact LeO.refl _)
      | (with_reducible exact LeO.none _)
      | (with_reducible refine LeO.ite ?_ ?_)
      | (with_reducible refine LeO.bind ?_ (fun _ => ?_))
      | exact rect_Sum.mono _ _ _
      | exact LeO.none _
      | refine LeO.ite ?_ ?_
      | refine LeO.bind ?_ (fun _ => ?_)
def rect_Shift.T2 : Bool × List (List Nat × List Nat) := (true, [([], []), ([0], [0]), ([], []), ([1, 2], [1, 2]), ([], []), ([4], [4]), ([], []), ([5, 6, 3], [5, 6]), ([0, 1, 2, 3, 4, 5], []), ([8, 3, 7, 0, 1, 2, 3, 4, 5], [3, 8]), ([0, 1, 2, 3, 4, 5, 6, 7, 8, 9], []), ([10, 7, 9, 0, 1, 2, 3, 4, 5, 6, 7, 8, 9], [7, 10])])
def rect_Shift.B2 : List Nat := [0, 1, 0, 7, 0, 16, 0, 127, 63, 511, 1023, 2047]
theorem rect_Shift.tab2 : rtab .any (opsOf Try.f28 2) = rect_Shift.T2 := by kernel_rfl
theorem rect_Shift.bits2 : waitsOk rect_Shift.T2.2 rect_Shift.B2 = true := by kernel_rfl
set_option maxHeartbeats 8000000 in
set_option maxRecDepth 100000 in
theorem rect_Shift.calls (k : Nat) (a0_0 : Int) (a0_1 : Int) (a0_2 : Int) (a0_3 : Int) (a1 : Int) (a2 : Int) (r1 : Int) (r2 : Int) (r3 : Int) (r4 : Int) (w : World) (h : rect_Shift.f k a0_0 a0_1 a0_2 a0_3 a1 a2 = some (r1, r2, r3, r4)) :
    Calls Try.prog 28 #[.agg #[.int .i64 a0_0, .int .i64 a0_1, .int .i64 a0_2, .int .i64 a0_3], .int .i64 a1, .int .i64 a2] w fun e w' => e = .returned (.agg #[.int .i64 r1, .int .i64 r2, .int .i64 r3, .int .i64 r4]) ∧ Below w.heap.size w w' := by
  have hu26 := Try.underlying26
  have HB := Aside0.mk (Below.refl w.heap.size w)
  have H : ((rect_Clean.f a0_0 a0_1 a0_2 a0_3).bind fun bt460 => ((rect_Sum.f k bt460.1 a1).bind fun t464 => ((rect_Sum.f k bt460.2.1 a2).bind fun t465 => ((rect_Clean.f t464 t465 bt460.2.2.1 bt460.2.2.2).bind fun bt466 => (some (bt466.1, bt466.2.1, bt466.2.2.1, bt466.2.2.2)))))) = some (r1, r2, r3, r4) := h
  clear h
  replace H := Option.bind_eq_some_iff.mp H
  obtain ⟨⟨t460, t461, t462, t463⟩, A40, H⟩ := H
  replace H : ((rect_Sum.f k t460 a1).bind fun t464 => ((rect_Sum.f k t461 a2).bind fun t465 => ((rect_Clean.f t464 t465 t462 t463).bind fun bt466 => (some (bt466.1, bt466.2.1, bt466.2.2.1, bt466.2.2.2))))) = some (r1, r2, r3, r4) := H
  have A4 := Aside0.mk A40
  clear A40
  replace H := Option.bind_eq_some_iff.mp H
  obtain ⟨t464, A50, H⟩ := H
  replace H : ((rect_Sum.f k t461 a2).bind fun t465 => ((rect_Clean.f t464 t465 t462 t463).bind fun bt466 => (some (bt466.1, bt466.2.1, bt466.2.2.1, bt466.2.2.2)))) = some (r1, r2, r3, r4) := H
  have A5 := Aside0.mk A50
  clear A50
  replace H := Option.bind_eq_some_iff.mp H
  obtain ⟨t465, A60, H⟩ := H
  replace H : ((rect_Clean.f t464 t465 t462 t463).bind fun bt466 => (some (bt466.1, bt466.2.1, bt466.2.2.1, bt466.2.2.2))) = some (r1, r2, r3, r4) := H
  have A6 := Aside0.mk A60
  clear A60
  replace H := Option.bind_eq_some_iff.mp H
  obtain ⟨⟨t466, t467, t468, t469⟩, A70, H⟩ := H
  replace H : (some (t466, t467, t468, t469)) = some (r1, r2, r3, r4) := H
  have A7 := Aside0.mk A70
  clear A70
  simp only [Option.some.injEq, Prod.mk.injEq] at H
  obtain ⟨rfl, rfl, rfl, rfl⟩ := H
  go_enter Try.func28, Try.ntmps28
  try go_wp2_with (first | ((with_reducible refine gate_dst (N := 3) rfl ?_); refine box_event ?hg (N := 3) ?hd (cs := #[.int .i64 a0_0, .int .i64 a0_1, .int .i64 a0_2, .int .i64 a0_3]) (t := 26) ?hr ?_; (case hd => rfl); (case hg => rfl); (case hr => first | (go_simp; done) | (go_simp; rfl)); intro gb458 hg w8 hbox hb; have n0_ := Aside0.mk (below_step (by repeat (first | (with_reducible first | exact HB.out | apply below_alloc | apply pw_below_drewN | apply below_drew1) | exact HB.out)) hb); have n1_ := Aside0.mk (hbox); have n2_ := Aside0.mk ((by rw [hg]; exact (below_size (by repeat (first | (with_reducible first | exact HB.out | apply below_alloc | apply pw_below_drewN | apply below_drew1) | exact HB.out))) : w.heap.size ≤ gb458)); have n3_ := Aside0.mk ((by rw [hg]; exact (below_size (by repeat (first | (with_reducible first | exact HB.out | apply below_alloc | apply pw_below_drewN | apply below_drew1) | exact HB.out))) : w.heap.size ≤ gb458)); clear HB; have HB := n0_; have BK458 := n1_; have GW458 := n2_; have GE458 := n3_; clear n0_ n1_ n2_ n3_; clear hb hbox hg) | ((with_reducible refine gate_dst (N := 6) rfl ?_); refine box_event ?hg (N := 6) ?hd (cs := #[.int .i64 0, .int .i64 0, .int .i64 0, .int .i64 0]) (t := 26) ?hr ?_; (case hd => rfl); (case hg => rfl); (case hr => first | (go_simp; done) | (go_simp; rfl)); intro gb459 hg w9 hbox hb; have n0_ := Aside0.mk (blk_below (g := gb458) (o := .cells #[.int .i64 a0_0, .int .i64 a0_1, .int .i64 a0_2, .int .i64 a0_3] 26 (0, 0)) (by (with_reducible repeat (first | refine blk_drewN ?_ _ | refine blk_drew ?_ | refine blk_alloc ?_ _)); exact BK458.out) hb); have n1_ := Aside0.mk (below_step (by repeat (first | (with_reducible first | exact HB.out | apply below_alloc | apply pw_below_drewN | apply below_drew1 | refine below_set ?_ GE458.out) | exact HB.out)) hb); have n2_ := Aside0.mk (hbox); have n3_ := Aside0.mk ((by rw [hg]; exact (below_size (by repeat (first | (with_reducible first | exact HB.out | apply below_alloc | apply pw_below_drewN | apply below_drew1 | refine below_set ?_ GE458.out) | exact HB.out))) : w.heap.size ≤ gb459)); have n4_ := Aside0.mk ((by rw [hg]; exact (below_size (by repeat (first | (with_reducible first | exact HB.out | apply below_alloc | apply pw_below_drewN | apply below_drew1 | refine below_set ?_ GE458.out) | exact HB.out))) : w.heap.size ≤ gb459)); have n5_ := Aside0.mk ((by rw [hg]; exact Nat.ne_of_lt (blk_lt (g := gb458) (o := .cells #[.int .i64 a0_0, .int .i64 a0_1, .int .i64 a0_2, .int .i64 a0_3] 26 (0, 0)) (by (with_reducible repeat (first | refine blk_drewN ?_ _ | refine blk_drew ?_ | refine blk_alloc ?_ _)); exact BK458.out)) : gb458 ≠ gb459)); have n6_ := Aside0.mk ((by rw [hg]; exact Nat.ne_of_gt (blk_lt (g := gb458) (o := .cells #[.int .i64 a0_0, .int .i64 a0_1, .int .i64 a0_2, .int .i64 a0_3] 26 (0, 0)) (by (with_reducible repeat (first | refine blk_drewN ?_ _ | refine blk_drew ?_ | refine blk_alloc ?_ _)); exact BK458.out)) : gb459 ≠ gb458)); clear BK458; clear HB; have BK458 := n0_; have HB := n1_; have BK459 := n2_; have GW459 := n3_; have GE459 := n4_; have NB458_459 := n5_; have NB459_458 := n6_; clear n0_ n1_ n2_ n3_ n4_ n5_ n6_; clear hb hbox hg; have hnb10 := NB458_459.out; have hnc10 := NB459_458.out; have hcz11_0 : w9.cell? ⟨gb458, 0, none⟩ = some (.int .i64 a0_0) := (blk_cell BK458.out 0).trans rfl; have hcz11_1 : w9.cell? ⟨gb458, 1, none⟩ = some (.int .i64 a0_1) := (blk_cell BK458.out 1).trans rfl; have hcz11_2 : w9.cell? ⟨gb458, 2, none⟩ = some (.int .i64 a0_2) := (blk_cell BK458.out 2).trans rfl; have hcz11_3 : w9.cell? ⟨gb458, 3, none⟩ = some (.int .i64 a0_3) := (blk_cell BK458.out 3).trans rfl; have hfz11_0 := blk_frozen BK458.out 0; have hfz11_1 := blk_frozen BK458.out 1; have hfz11_2 := blk_frozen BK458.out 2; have hfz11_3 := blk_frozen BK458.out 3) | ((with_reducible refine gate_callee (f := 20) rfl ?_); refine goesL_ (some 8) rfl rfl Try.func20 (by kernel_rfl) rfl #[.agg #[.int .i64 a0_0, .int .i64 a0_1, .int .i64 a0_2, .int .i64 a0_3]] rfl (by (try simp only [List.map_toArray, List.map_cons, List.map_nil]); first | done | rfl | (simp only [List.length_drop, List.length_take]; rfl)) ?_; (with_reducible refine (rect_Clean.calls a0_0 a0_1 a0_2 a0_3 t460 t461 t462 t463 _ A4.out).mono ?_); rintro e w12 ⟨rfl, hb⟩; refine ⟨_, rfl, ?_⟩; have n0_ := Aside0.mk (blk_below (g := gb458) (o := .cells #[.int .i64 a0_0, .int .i64 a0_1, .int .i64 a0_2, .int .i64 a0_3] 26 (0, 0)) (by (with_reducible repeat (first | refine blk_drewN ?_ _ | refine blk_drew ?_ | refine blk_alloc ?_ _)); exact BK458.out) hb); have n1_ := Aside0.mk (blk_below (g := gb459) (o := .cells #[.int .i64 0, .int .i64 0, .int .i64 0, .int .i64 0] 26 (0, 0)) (by (with_reducible repeat (first | refine blk_drewN ?_ _ | refine blk_drew ?_ | refine blk_alloc ?_ _)); exact BK459.out) hb); have n2_ := Aside0.mk (below_step (by repeat (first | (with_reducible first | exact HB.out | apply below_alloc | apply pw_below_drewN | apply below_drew1 | refine below_set ?_ GE458.out | refine below_set ?_ GE459.out) | exact HB.out)) hb); clear BK458; clear BK459; clear HB; have BK458 := n0_; have BK459 := n1_; have HB := n2_; clear n0_ n1_ n2_; (try clear hb); (try clear hb2); (try clear hk); (try clear hi); have hcz13_0 : w12.cell? ⟨gb458, 0, none⟩ = some (.int .i64 a0_0) := (blk_cell BK458.out 0).trans rfl; have hcz13_1 : w12.cell? ⟨gb458, 1, none⟩ = some (.int .i64 a0_1) := (blk_cell BK458.out 1).trans rfl; have hcz13_2 : w12.cell? ⟨gb458, 2, none⟩ = some (.int .i64 a0_2) := (blk_cell BK458.out 2).trans rfl; have hcz13_3 : w12.cell? ⟨gb458, 3, none⟩ = some (.int .i64 a0_3) := (blk_cell BK458.out 3).trans rfl; have hfz13_0 := blk_frozen BK458.out 0; have hfz13_1 := blk_frozen BK458.out 1; have hfz13_2 := blk_frozen BK458.out 2; have hfz13_3 := blk_frozen BK458.out 3))
  have n0_ : Aside0 (((((w12.setCell ⟨gb458, 0, none⟩ (.int .i64 t460)).setCell ⟨gb458, 1, none⟩ (.int .i64 t461)).setCell ⟨gb458, 2, none⟩ (.int .i64 t462)).setCell ⟨gb458, 3, none⟩ (.int .i64 t463)).heap[gb458]? = some (.cells #[.int .i64 t460, .int .i64 t461, .int .i64 t462, .int .i64 t463] 26 (0, 0))) := ⟨by (with_reducible repeat (first | refine blk_drewN ?_ _ | refine blk_drew ?_ | refine blk_alloc ?_ _)); refine blk_put (cs := #[.int .i64 t460, .int .i64 t461, .int .i64 t462, .int .i64 a0_3]) ?_ 3 _ rfl; (with_reducible repeat (first | refine blk_drewN ?_ _ | refine blk_drew ?_ | refine blk_alloc ?_ _)); refine blk_put (cs := #[.int .i64 t460, .int .i64 t461, .int .i64 a0_2, .int .i64 a0_3]) ?_ 2 _ rfl; (with_reducible repeat (first | refine blk_drewN ?_ _ | refine blk_drew ?_ | refine blk_alloc ?_ _)); refine blk_put (cs := #[.int .i64 t460, .int .i64 a0_1, .int .i64 a0_2, .int .i64 a0_3]) ?_ 1 _ rfl; (with_reducible repeat (first | refine blk_drewN ?_ _ | refine blk_drew ?_ | refine blk_alloc ?_ _)); refine blk_put (cs := #[.int .i64 a0_0, .int .i64 a0_1, .int .i64 a0_2, .int .i64 a0_3]) ?_ 0 _ rfl; (with_reducible repeat (first | refine blk_drewN ?_ _ | refine blk_drew ?_ | refine blk_alloc ?_ _)); exact BK458.out⟩
  have n1_ : Aside0 (((((w12.setCell ⟨gb458, 0, none⟩ (.int .i64 t460)).setCell ⟨gb458, 1, none⟩ (.int .i64 t461)).setCell ⟨gb458, 2, none⟩ (.int .i64 t462)).setCell ⟨gb458, 3, none⟩ (.int .i64 t463)).heap[gb459]? = some (.cells #[.int .i64 0, .int .i64 0, .int .i64 0, .int .i64 0] 26 (0, 0))) := ⟨by (with_reducible repeat (first | refine blk_drewN ?_ _ | refine blk_drew ?_ | refine blk_alloc ?_ _)); refine blk_far ?_ NB459_458.out _; (with_reducible repeat (first | refine blk_drewN ?_ _ | refine blk_drew ?_ | refine blk_alloc ?_ _)); refine blk_far ?_ NB459_458.out _; (with_reducible repeat (first | refine blk_drewN ?_ _ | refine blk_drew ?_ | refine blk_alloc ?_ _)); refine blk_far ?_ NB459_458.out _; (with_reducible repeat (first | refine blk_drewN ?_ _ | refine blk_drew ?_ | refine blk_alloc ?_ _)); refine blk_far ?_ NB459_458.out _; (with_reducible repeat (first | refine blk_drewN ?_ _ | refine blk_drew ?_ | refine blk_alloc ?_ _)); exact BK459.out⟩
  have n2_ : Aside0 (Below w.heap.size w ((((w12.setCell ⟨gb458, 0, none⟩ (.int .i64 t460)).setCell ⟨gb458, 1, none⟩ (.int .i64 t461)).setCell ⟨gb458, 2, none⟩ (.int .i64 t462)).setCell ⟨gb458, 3, none⟩ (.int .i64 t463))) := ⟨by repeat (first | (with_reducible first | exact HB.out | apply below_alloc | apply pw_below_drewN | apply below_drew1 | refine below_set ?_ GE458.out | refine below_set ?_ GE459.out) | exact HB.out)⟩
  (try clear BK458)
  (try clear BK459)
  (try clear HB)
  generalize ((((w12.setCell ⟨gb458, 0, none⟩ (.int .i64 t460)).setCell ⟨gb458, 1, none⟩ (.int .i64 t461)).setCell ⟨gb458, 2, none⟩ (.int .i64 t462)).setCell ⟨gb458, 3, none⟩ (.int .i64 t463)) = w14 at n0_ n1_ n2_ ⊢
  have BK458 := n0_
  have BK459 := n1_
  have HB := n2_
  clear n0_ n1_ n2_
  have n0_ := Aside0.mk (blk_drew BK458.out)
  have n1_ := Aside0.mk (blk_drew BK459.out)
  have n2_ := Aside0.mk (below_drew1 HB.out)
  clear BK458
  clear BK459
  clear HB
  have BK458 := n0_
  have BK459 := n1_
  have HB := n2_
  clear n0_ n1_ n2_
  refine start_ (n := 12) (S := fun w' => w'.cell? ⟨gb458, 0, none⟩ = some (.int .i64 t460) ∧ w'.cell? ⟨gb458, 1, none⟩ = some (.int .i64 t461) ∧ w'.cell? ⟨gb458, 2, none⟩ = some (.int .i64 t462) ∧ w'.cell? ⟨gb458, 3, none⟩ = some (.int .i64 t463)) (ds := [9, 11]) #[false, false, false, false, false, false, false, false, false, false, false, false] (by kernel_rfl) rfl rfl ⟨(blk_cell BK458.out 0).trans rfl, (blk_cell BK458.out 1).trans rfl, (blk_cell BK458.out 2).trans rfl, (blk_cell BK458.out 3).trans rfl⟩ (fun hHeld => ?_); refine with_tabW rect_Shift.tab2 rect_Shift.bits2 (fun HT_ HW_ => ?_)
  generalize w14.drew = w15 at BK458 BK459 HB hHeld ⊢
  refine pure_ (i := 0) (N := some 9) (v := ?_) (a' := ?_) #[true, false, false, false, false, false, false, false, false, false, false, false] rfl rfl (any_of HT_.out (by kernel_rfl)) (fun _ _ _ h => h) (Or.inl ⟨by rfl, ?_⟩) ?_ ?_
  rotate_left
  · intro w'
    go_simp
    with_reducible rfl
  rotate_left
  · simp only [Act.put, List.setIfInBounds_toArray, List.set_cons_zero, List.set_cons_succ, i64_w, i32_w]
    rfl
  refine pure_ (i := 2) (N := some 11) (v := ?_) (a' := ?_) #[true, false, true, false, false, false, false, false, false, false, false, false] rfl rfl (any_of HT_.out (by kernel_rfl)) (fun _ _ _ h => h) (Or.inl ⟨by rfl, ?_⟩) ?_ ?_
  rotate_left
  · intro w'
    go_simp
    with_reducible rfl
  rotate_left
  · simp only [Act.put, List.setIfInBounds_toArray, List.set_cons_zero, List.set_cons_succ, i64_w, i32_w]
    rfl
  refine pure_ (i := 4) (N := some 13) (v := ?_) (a' := ?_) #[true, false, true, false, true, false, false, false, false, false, false, false] rfl rfl (any_of HT_.out (by kernel_rfl)) (fun _ _ _ h => h) (Or.inl ⟨by rfl, ?_⟩) ?_ ?_
  rotate_left
  · intro w'
    go_simp
    with_reducible rfl
  rotate_left
  · simp only [Act.put, List.setIfInBounds_toArray, List.set_cons_zero, List.set_cons_succ, i64_w, i32_w]
    rfl
  refine pure_ (i := 6) (N := some 15) (v := ?_) (a' := ?_) #[true, false, true, false, true, false, true, false, false, false, false, false] rfl rfl (any_of HT_.out (by kernel_rfl)) (fun _ _ _ h => h) (Or.inl ⟨by rfl, ?_⟩) ?_ ?_
  rotate_left
  · intro w'
    go_simp
    with_reducible rfl
  rotate_left
  · simp only [Act.put, List.setIfInBounds_toArray, List.set_cons_zero, List.set_cons_succ, i64_w, i32_w]
    rfl
  refine take_ (i := 1) (N := some 10) (v := ?_) (a' := ?_) #[true, true, true, false, true, false, true, false, false, false, false, false] rfl rfl (take_ofW HT_.out HW_.out (by kernel_rfl)) (fun _ _ _ h => h) (Or.inl ⟨by rfl, ?_⟩) hHeld ?_ ?_
  rotate_left
  · rintro w' ⟨s0, s1, s2, s3⟩
    go_simp
    with_reducible rfl
  rotate_left
  · simp only [Act.put, List.setIfInBounds_toArray, List.set_cons_zero, List.set_cons_succ, i64_w, i32_w]
    rfl
  refine take_ (i := 5) (N := some 14) (v := ?_) (a' := ?_) #[true, true, true, false, true, true, true, false, false, false, false, false] rfl rfl (take_ofW HT_.out HW_.out (by kernel_rfl)) (fun _ _ _ h => h) (Or.inl ⟨by rfl, ?_⟩) hHeld ?_ ?_
  rotate_left
  · rintro w' ⟨s0, s1, s2, s3⟩
    go_simp
    with_reducible rfl
  rotate_left
  · simp only [Act.put, List.setIfInBounds_toArray, List.set_cons_zero, List.set_cons_succ, i64_w, i32_w]
    rfl
  refine one_ (i := 3) (N := some 12) #[true, true, true, true, true, true, true, false, false, false, false, false] rfl rfl (one_of HT_.out (by kernel_rfl)) (by decide) (fun K hK => ?_)
  refine goes_ Try.func16 (by kernel_rfl) rfl #[.int .i64 t460, .int .i64 a1] (by rfl) rfl rfl (by (try simp only [List.map_toArray, List.map_cons, List.map_nil]); first | done | rfl | (simp only [List.length_drop, List.length_take]; rfl)) ?_
  with_reducible refine (rect_Sum.calls k t460 a1 t464 _ A5.out).mono ?_
  rintro e w' ⟨rfl, ⟨nd, rfl⟩⟩
  refine ⟨_, rfl, ?_⟩
  refine hK.out _ _ ⟨(blk_cell BK458.out 0).trans rfl, (blk_cell BK458.out 1).trans rfl, (blk_cell BK458.out 2).trans rfl, (blk_cell BK458.out 3).trans rfl⟩ (fun hHeld => ?_)
  clear hK K
  refine norm_ (a' := ?_) ?_ ?_
  rotate_left
  · show Act.put _ (some 12) _ = _
    simp only [Act.put, List.setIfInBounds_toArray, List.set_cons_zero, List.set_cons_succ, i64_w, i32_w]
    rfl
  refine pure_ (i := 8) (N := some 17) (v := ?_) (a' := ?_) #[true, true, true, true, true, true, true, false, true, false, false, false] rfl rfl (any_of HT_.out (by kernel_rfl)) (fun _ _ _ h => h) (Or.inl ⟨by rfl, ?_⟩) ?_ ?_
  rotate_left
  · intro w'
    go_simp
    with_reducible rfl
  rotate_left
  · simp only [Act.put, List.setIfInBounds_toArray, List.set_cons_zero, List.set_cons_succ, i64_w, i32_w]
    rfl
  refine one_ (i := 7) (N := some 16) #[true, true, true, true, true, true, true, true, true, false, false, false] rfl rfl (one_of HT_.out (by kernel_rfl)) (by decide) (fun K hK => ?_)
  refine goes_ Try.func16 (by kernel_rfl) rfl #[.int .i64 t461, .int .i64 a2] (by rfl) rfl rfl (by (try simp only [List.map_toArray, List.map_cons, List.map_nil]); first | done | rfl | (simp only [List.length_drop, List.length_take]; rfl)) ?_
  with_reducible refine (rect_Sum.calls k t461 a2 t465 _ A6.out).mono ?_
  rintro e w' ⟨rfl, ⟨nd, rfl⟩⟩
  refine ⟨_, rfl, ?_⟩
  refine hK.out _ _ ⟨(blk_cell BK458.out 0).trans rfl, (blk_cell BK458.out 1).trans rfl, (blk_cell BK458.out 2).trans rfl, (blk_cell BK458.out 3).trans rfl⟩ (fun hHeld => ?_)
  clear hK K
  refine norm_ (a' := ?_) ?_ ?_
  rotate_left
  · show Act.put _ (some 16) _ = _
    simp only [Act.put, List.setIfInBounds_toArray, List.set_cons_zero, List.set_cons_succ, i64_w, i32_w]
    rfl
  refine last_ (i := 9) (N := none) #[true, true, true, true, true, true, true, true, true, true, false, false] rfl rfl (one_of HT_.out (by kernel_rfl)) (by decide) (fun K hK => ?_)
  have hs16 : w15.cell? ⟨gb458, 0, none⟩ = some (.int .i64 t460) := (blk_cell BK458.out 0).trans rfl
  have hfs16 := blk_frozen BK458.out 0
  have hns16_1 := NB459_458.out
  have hms16_1 := NB458_459.out
  refine skip_ (w1 := ?_) (by rfl) rfl ?_ ?_
  rotate_left
  · go_simp
    rfl
  refine hK.out _ _ ?_
  clear hK K
  refine pure_ (i := 10) (N := some 18) (v := ?_) (a' := ?_) #[true, true, true, true, true, true, true, true, true, true, true, false] rfl rfl (any_of HT_.out (by kernel_rfl)) (fun _ _ _ h => h) (Or.inl ⟨by rfl, ?_⟩) ?_ ?_
  rotate_left
  · intro w'
    go_simp
    with_reducible rfl
  rotate_left
  · simp only [Act.put, List.setIfInBounds_toArray, List.set_cons_zero, List.set_cons_succ, i64_w, i32_w]
    rfl
  refine last_ (i := 11) (N := none) #[true, true, true, true, true, true, true, true, true, true, true, true] rfl rfl (one_of HT_.out (by kernel_rfl)) (by decide) (fun K hK => ?_)
  have hs17 : w15.cell? ⟨gb458, 1, none⟩ = some (.int .i64 t461) := (blk_cell BK458.out 1).trans rfl
  have hfs17 := blk_frozen BK458.out 1
  have hns17_1 := NB459_458.out
  have hms17_1 := NB458_459.out
  refine skip_ (w1 := ?_) (by rfl) rfl ?_ ?_
  rotate_left
  · go_simp
    rfl
  refine hK.out _ _ ?_
  clear hK K
  refine done_ (done_of HT_.out (by kernel_rfl)) ?_
  have hcz18_0 : w15.cell? ⟨gb458, 0, none⟩ = some (.int .i64 t460) := (blk_cell BK458.out 0).trans rfl
  have hcz18_1 : w15.cell? ⟨gb458, 1, none⟩ = some (.int .i64 t461) := (blk_cell BK458.out 1).trans rfl
  have hcz18_2 : w15.cell? ⟨gb458, 2, none⟩ = some (.int .i64 t462) := (blk_cell BK458.out 2).trans rfl
  have hcz18_3 : w15.cell? ⟨gb458, 3, none⟩ = some (.int .i64 t463) := (blk_cell BK458.out 3).trans rfl
  have hfz18_0 := blk_frozen BK458.out 0
  have hfz18_1 := blk_frozen BK458.out 1
  have hfz18_2 := blk_frozen BK458.out 2
  have hfz18_3 := blk_frozen BK458.out 3
  try go_wp2_with (first | ((with_reducible refine gate_callee (f := 20) rfl ?_); refine goesL_ (some 20) rfl rfl Try.func20 (by kernel_rfl) rfl #[.agg #[.int .i64 t464, .int .i64 t465, .int .i64 t462, .int .i64 t463]] rfl (by (try simp only [List.map_toArray, List.map_cons, List.map_nil]); first | done | rfl | (simp only [List.length_drop, List.length_take]; rfl)) ?_; (with_reducible refine (rect_Clean.calls t464 t465 t462 t463 t466 t467 t468 t469 _ A7.out).mono ?_); rintro e w19 ⟨rfl, hb⟩; refine ⟨_, rfl, ?_⟩; have n0_ := Aside0.mk (blk_below (g := gb458) (o := .cells #[.int .i64 t464, .int .i64 t465, .int .i64 t462, .int .i64 t463] 26 (0, 0)) (by (with_reducible repeat (first | refine blk_drewN ?_ _ | refine blk_drew ?_ | refine blk_alloc ?_ _)); refine blk_put (cs := #[.int .i64 t464, .int .i64 t461, .int .i64 t462, .int .i64 t463]) ?_ 1 _ rfl; (with_reducible repeat (first | refine blk_drewN ?_ _ | refine blk_drew ?_ | refine blk_alloc ?_ _)); refine blk_put (cs := #[.int .i64 t460, .int .i64 t461, .int .i64 t462, .int .i64 t463]) ?_ 0 _ rfl; (with_reducible repeat (first | refine blk_drewN ?_ _ | refine blk_drew ?_ | refine blk_alloc ?_ _)); exact BK458.out) hb); have n1_ := Aside0.mk (blk_below (g := gb459) (o := .cells #[.int .i64 0, .int .i64 0, .int .i64 0, .int .i64 0] 26 (0, 0)) (by (with_reducible repeat (first | refine blk_drewN ?_ _ | refine blk_drew ?_ | refine blk_alloc ?_ _)); refine blk_far ?_ NB459_458.out _; (with_reducible repeat (first | refine blk_drewN ?_ _ | refine blk_drew ?_ | refine blk_alloc ?_ _)); refine blk_far ?_ NB459_458.out _; (with_reducible repeat (first | refine blk_drewN ?_ _ | refine blk_drew ?_ | refine blk_alloc ?_ _)); exact BK459.out) hb); have n2_ := Aside0.mk (below_step (by repeat (first | (with_reducible first | exact HB.out | apply below_alloc | apply pw_below_drewN | apply below_drew1 | refine below_set ?_ GE458.out | refine below_set ?_ GE459.out) | exact HB.out)) hb); clear BK458; clear BK459; clear HB; have BK458 := n0_; have BK459 := n1_; have HB := n2_; clear n0_ n1_ n2_; (try clear hb); (try clear hb2); (try clear hk); (try clear hi); have hcz20_0 : w19.cell? ⟨gb459, 0, none⟩ = some (.int .i64 0) := (blk_cell BK459.out 0).trans rfl; have hcz20_1 : w19.cell? ⟨gb459, 1, none⟩ = some (.int .i64 0) := (blk_cell BK459.out 1).trans rfl; have hcz20_2 : w19.cell? ⟨gb459, 2, none⟩ = some (.int .i64 0) := (blk_cell BK459.out 2).trans rfl; have hcz20_3 : w19.cell? ⟨gb459, 3, none⟩ = some (.int .i64 0) := (blk_cell BK459.out 3).trans rfl; have hfz20_0 := blk_frozen BK459.out 0; have hfz20_1 := blk_frozen BK459.out 1; have hfz20_2 := blk_frozen BK459.out 2; have hfz20_3 := blk_frozen BK459.out 3))
  refine bodyPost_ret (results_cell_row rfl _ _ gb459 26 #[.int .i64 t466, .int .i64 t467, .int .i64 t468, .int .i64 t469] (0, 0) _ rfl (by (with_reducible repeat (first | refine blk_drewN ?_ _ | refine blk_drew ?_ | refine blk_alloc ?_ _)); refine blk_put (cs := #[.int .i64 t466, .int .i64 t467, .int .i64 t468, .int .i64 0]) ?_ 3 _ rfl; (with_reducible repeat (first | refine blk_drewN ?_ _ | refine blk_drew ?_ | refine blk_alloc ?_ _)); refine blk_put (cs := #[.int .i64 t466, .int .i64 t467, .int .i64 0, .int .i64 0]) ?_ 2 _ rfl; (with_reducible repeat (first | refine blk_drewN ?_ _ | refine blk_drew ?_ | refine blk_alloc ?_ _)); refine blk_put (cs := #[.int .i64 t466, .int .i64 0, .int .i64 0, .int .i64 0]) ?_ 1 _ rfl; (with_reducible repeat (first | refine blk_drewN ?_ _ | refine blk_drew ?_ | refine blk_alloc ?_ _)); refine blk_put (cs := #[.int .i64 0, .int .i64 0, .int .i64 0, .int .i64 0]) ?_ 0 _ rfl; (with_reducible repeat (first | refine blk_drewN ?_ _ | refine blk_drew ?_ | refine blk_alloc ?_ _)); exact BK459.out) Try.underlying26 rfl (by kernel_rfl)) rfl ?_
  exact ⟨by first | rfl | (simp [errW_none, errW_some] <;> rfl) | (simp [*, errW_none, errW_some] <;> rfl), by repeat (first | (with_reducible first | exact HB.out | apply below_alloc | apply pw_below_drewN | apply below_drew1 | refine below_set ?_ GE458.out | refine below_set ?_ GE459.out) | exact HB.out)⟩

end Go.Proofs.Ytmokmkaipcojkaa.Q
