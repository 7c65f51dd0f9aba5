-- written by a program of this session after the way of the kit's print; not the kit's own print. Lean checks it.
import Derived.Test.YtmokmkaipcojkaaQx0
import Derived.Test.YtmokmkaipcojkaaQx3
import Derived.Test.YtmokmkaipcojkaaQx6
namespace Go.Proofs.Ytmokmkaipcojkaa.Q
open Go.RowKit Go.Proofs.YtmokmkaipcojkaaW.PrintWords Go.Proofs.YtmokmkaipcojkaaW.PrintLast Go.Proofs.YtmokmkaipcojkaaW.PrintMore
attribute [local go_sem] max2_int min2_int max_two min_two max_three min_three max_four min_four   -- for this text's walks alone
set_option linter.unusedVariables false
set_option linter.unusedSimpArgs false

/-! ### rect_Hull: function 35 -/
def rect_Hull.f (a0_0 : Int) (a0_1 : Int) (a0_2 : Int) (a0_3 : Int) (a1_0 : Int) (a1_1 : Int) (a1_2 : Int) (a1_3 : Int) : Option (Int × Int × Int × Int) := (rect_Clean.f a0_0 a0_1 a0_2 a0_3).bind fun bt591 => ((rect_Clean.f a1_0 a1_1 a1_2 a1_3).bind fun bt595 => (if bt591.2.2.1 = 0 then (some (bt595.1, bt595.2.1, bt595.2.2.1, bt595.2.2.2)) else (if bt595.2.2.1 = 0 then (some (bt591.1, bt591.2.1, bt591.2.2.1, bt591.2.2.2)) else ((rect_between.f (mn bt591.1 bt595.1) (mn bt591.2.1 bt595.2.1) (mx (wrap64 (bt591.1 + bt591.2.2.1)) (wrap64 (bt595.1 + bt595.2.2.1))) (mx (wrap64 (bt591.2.1 + bt591.2.2.2)) (wrap64 (bt595.2.1 + bt595.2.2.2)))).bind fun bt599 => (some (bt599.1, bt599.2.1, bt599.2.2.1, bt599.2.2.2))))))
set_option maxHeartbeats 8000000 in
set_option maxRecDepth 100000 in
theorem rect_Hull.calls (a0_0 : Int) (a0_1 : Int) (a0_2 : Int) (a0_3 : Int) (a1_0 : Int) (a1_1 : Int) (a1_2 : Int) (a1_3 : Int) (r1 : Int) (r2 : Int) (r3 : Int) (r4 : Int) (w : World) (h : rect_Hull.f a0_0 a0_1 a0_2 a0_3 a1_0 a1_1 a1_2 a1_3 = some (r1, r2, r3, r4)) :
    Calls Try.prog 35 #[.agg #[.int .i64 a0_0, .int .i64 a0_1, .int .i64 a0_2, .int .i64 a0_3], .agg #[.int .i64 a1_0, .int .i64 a1_1, .int .i64 a1_2, .int .i64 a1_3]] w fun e w' => e = .returned (.agg #[.int .i64 r1, .int .i64 r2, .int .i64 r3, .int .i64 r4]) ∧ Below w.heap.size w w' := by
  have hu26 := Try.underlying26
  have HB := Aside0.mk (Below.refl w.heap.size w)
  have H : ((rect_Clean.f a0_0 a0_1 a0_2 a0_3).bind fun bt591 => ((rect_Clean.f a1_0 a1_1 a1_2 a1_3).bind fun bt595 => (if bt591.2.2.1 = 0 then (some (bt595.1, bt595.2.1, bt595.2.2.1, bt595.2.2.2)) else (if bt595.2.2.1 = 0 then (some (bt591.1, bt591.2.1, bt591.2.2.1, bt591.2.2.2)) else ((rect_between.f (mn bt591.1 bt595.1) (mn bt591.2.1 bt595.2.1) (mx (wrap64 (bt591.1 + bt591.2.2.1)) (wrap64 (bt595.1 + bt595.2.2.1))) (mx (wrap64 (bt591.2.1 + bt591.2.2.2)) (wrap64 (bt595.2.1 + bt595.2.2.2)))).bind fun bt599 => (some (bt599.1, bt599.2.1, bt599.2.2.1, bt599.2.2.2))))))) = some (r1, r2, r3, r4) := h
  clear h
  replace H := Option.bind_eq_some_iff.mp H
  obtain ⟨⟨t591, t592, t593, t594⟩, A30, H⟩ := H
  replace H : ((rect_Clean.f a1_0 a1_1 a1_2 a1_3).bind fun bt595 => (if t593 = 0 then (some (bt595.1, bt595.2.1, bt595.2.2.1, bt595.2.2.2)) else (if bt595.2.2.1 = 0 then (some (t591, t592, t593, t594)) else ((rect_between.f (mn t591 bt595.1) (mn t592 bt595.2.1) (mx (wrap64 (t591 + t593)) (wrap64 (bt595.1 + bt595.2.2.1))) (mx (wrap64 (t592 + t594)) (wrap64 (bt595.2.1 + bt595.2.2.2)))).bind fun bt599 => (some (bt599.1, bt599.2.1, bt599.2.2.1, bt599.2.2.2)))))) = some (r1, r2, r3, r4) := H
  have A3 := Aside0.mk A30
  clear A30
  replace H := Option.bind_eq_some_iff.mp H
  obtain ⟨⟨t595, t596, t597, t598⟩, A40, H⟩ := H
  replace H : (if t593 = 0 then (some (t595, t596, t597, t598)) else (if t597 = 0 then (some (t591, t592, t593, t594)) else ((rect_between.f (mn t591 t595) (mn t592 t596) (mx (wrap64 (t591 + t593)) (wrap64 (t595 + t597))) (mx (wrap64 (t592 + t594)) (wrap64 (t596 + t598)))).bind fun bt599 => (some (bt599.1, bt599.2.1, bt599.2.2.1, bt599.2.2.2))))) = some (r1, r2, r3, r4) := H
  have A4 := Aside0.mk A40
  clear A40
  by_cases c5 : t593 = 0
  · rw [if_pos c5] at H
    have c5b0 : (t593 == 0) = true := beq_iff_eq.mpr c5
    have c5b1 : (t593 != 0) = false := bne_eq_false_iff_eq.mpr c5
    clear c5
    simp only [Option.some.injEq, Prod.mk.injEq] at H
    obtain ⟨rfl, rfl, rfl, rfl⟩ := H
    go_enter Try.func35, Try.ntmps35
    try go_wp2_with (first | ((with_reducible refine gate_dst (N := 2) rfl ?_); refine box_event ?hg (N := 2) ?hd (cs := #[.int .i64 a0_0, .int .i64 a0_1, .int .i64 a0_2, .int .i64 a0_3]) (t := 26) ?hr ?_; (case hd => rfl); (case hg => rfl); (case hr => first | (go_simp; done) | (go_simp; rfl)); intro gb588 hg w6 hbox hb; have n0_ := Aside0.mk (below_step (by repeat (first | (with_reducible first | exact HB.out | apply below_alloc | apply pw_below_drewN | apply below_drew1) | exact HB.out)) hb); have n1_ := Aside0.mk (hbox); have n2_ := Aside0.mk ((by rw [hg]; exact (below_size (by repeat (first | (with_reducible first | exact HB.out | apply below_alloc | apply pw_below_drewN | apply below_drew1) | exact HB.out))) : w.heap.size ≤ gb588)); have n3_ := Aside0.mk ((by rw [hg]; exact (below_size (by repeat (first | (with_reducible first | exact HB.out | apply below_alloc | apply pw_below_drewN | apply below_drew1) | exact HB.out))) : w.heap.size ≤ gb588)); clear HB; have HB := n0_; have BK588 := n1_; have GW588 := n2_; have GE588 := n3_; clear n0_ n1_ n2_ n3_; clear hb hbox hg) | ((with_reducible refine gate_dst (N := 3) rfl ?_); refine box_event ?hg (N := 3) ?hd (cs := #[.int .i64 a1_0, .int .i64 a1_1, .int .i64 a1_2, .int .i64 a1_3]) (t := 26) ?hr ?_; (case hd => rfl); (case hg => rfl); (case hr => first | (go_simp; done) | (go_simp; rfl)); intro gb589 hg w7 hbox hb; have n0_ := Aside0.mk (blk_below (g := gb588) (o := .cells #[.int .i64 a0_0, .int .i64 a0_1, .int .i64 a0_2, .int .i64 a0_3] 26 (0, 0)) (by (with_reducible repeat (first | refine blk_drewN ?_ _ | refine blk_drew ?_ | refine blk_alloc ?_ _)); exact BK588.out) hb); have n1_ := Aside0.mk (below_step (by repeat (first | (with_reducible first | exact HB.out | apply below_alloc | apply pw_below_drewN | apply below_drew1 | refine below_set ?_ GE588.out) | exact HB.out)) hb); have n2_ := Aside0.mk (hbox); have n3_ := Aside0.mk ((by rw [hg]; exact (below_size (by repeat (first | (with_reducible first | exact HB.out | apply below_alloc | apply pw_below_drewN | apply below_drew1 | refine below_set ?_ GE588.out) | exact HB.out))) : w.heap.size ≤ gb589)); have n4_ := Aside0.mk ((by rw [hg]; exact (below_size (by repeat (first | (with_reducible first | exact HB.out | apply below_alloc | apply pw_below_drewN | apply below_drew1 | refine below_set ?_ GE588.out) | exact HB.out))) : w.heap.size ≤ gb589)); have n5_ := Aside0.mk ((by rw [hg]; exact Nat.ne_of_lt (blk_lt (g := gb588) (o := .cells #[.int .i64 a0_0, .int .i64 a0_1, .int .i64 a0_2, .int .i64 a0_3] 26 (0, 0)) (by (with_reducible repeat (first | refine blk_drewN ?_ _ | refine blk_drew ?_ | refine blk_alloc ?_ _)); exact BK588.out)) : gb588 ≠ gb589)); have n6_ := Aside0.mk ((by rw [hg]; exact Nat.ne_of_gt (blk_lt (g := gb588) (o := .cells #[.int .i64 a0_0, .int .i64 a0_1, .int .i64 a0_2, .int .i64 a0_3] 26 (0, 0)) (by (with_reducible repeat (first | refine blk_drewN ?_ _ | refine blk_drew ?_ | refine blk_alloc ?_ _)); exact BK588.out)) : gb589 ≠ gb588)); clear BK588; clear HB; have BK588 := n0_; have HB := n1_; have BK589 := n2_; have GW589 := n3_; have GE589 := n4_; have NB588_589 := n5_; have NB589_588 := n6_; clear n0_ n1_ n2_ n3_ n4_ n5_ n6_; clear hb hbox hg) | ((with_reducible refine gate_dst (N := 4) rfl ?_); refine box_event ?hg (N := 4) ?hd (cs := #[.int .i64 0, .int .i64 0, .int .i64 0, .int .i64 0]) (t := 26) ?hr ?_; (case hd => rfl); (case hg => rfl); (case hr => first | (go_simp; done) | (go_simp; rfl)); intro gb590 hg w8 hbox hb; have n0_ := Aside0.mk (blk_below (g := gb588) (o := .cells #[.int .i64 a0_0, .int .i64 a0_1, .int .i64 a0_2, .int .i64 a0_3] 26 (0, 0)) (by (with_reducible repeat (first | refine blk_drewN ?_ _ | refine blk_drew ?_ | refine blk_alloc ?_ _)); exact BK588.out) hb); have n1_ := Aside0.mk (blk_below (g := gb589) (o := .cells #[.int .i64 a1_0, .int .i64 a1_1, .int .i64 a1_2, .int .i64 a1_3] 26 (0, 0)) (by (with_reducible repeat (first | refine blk_drewN ?_ _ | refine blk_drew ?_ | refine blk_alloc ?_ _)); exact BK589.out) hb); have n2_ := Aside0.mk (below_step (by repeat (first | (with_reducible first | exact HB.out | apply below_alloc | apply pw_below_drewN | apply below_drew1 | refine below_set ?_ GE588.out | refine below_set ?_ GE589.out) | exact HB.out)) hb); have n3_ := Aside0.mk (hbox); have n4_ := Aside0.mk ((by rw [hg]; exact (below_size (by repeat (first | (with_reducible first | exact HB.out | apply below_alloc | apply pw_below_drewN | apply below_drew1 | refine below_set ?_ GE588.out | refine below_set ?_ GE589.out) | exact HB.out))) : w.heap.size ≤ gb590)); have n5_ := Aside0.mk ((by rw [hg]; exact (below_size (by repeat (first | (with_reducible first | exact HB.out | apply below_alloc | apply pw_below_drewN | apply below_drew1 | refine below_set ?_ GE588.out | refine below_set ?_ GE589.out) | exact HB.out))) : w.heap.size ≤ gb590)); have n6_ := Aside0.mk ((by rw [hg]; exact Nat.ne_of_lt (blk_lt (g := gb588) (o := .cells #[.int .i64 a0_0, .int .i64 a0_1, .int .i64 a0_2, .int .i64 a0_3] 26 (0, 0)) (by (with_reducible repeat (first | refine blk_drewN ?_ _ | refine blk_drew ?_ | refine blk_alloc ?_ _)); exact BK588.out)) : gb588 ≠ gb590)); have n7_ := Aside0.mk ((by rw [hg]; exact Nat.ne_of_gt (blk_lt (g := gb588) (o := .cells #[.int .i64 a0_0, .int .i64 a0_1, .int .i64 a0_2, .int .i64 a0_3] 26 (0, 0)) (by (with_reducible repeat (first | refine blk_drewN ?_ _ | refine blk_drew ?_ | refine blk_alloc ?_ _)); exact BK588.out)) : gb590 ≠ gb588)); have n8_ := Aside0.mk ((by rw [hg]; exact Nat.ne_of_lt (blk_lt (g := gb589) (o := .cells #[.int .i64 a1_0, .int .i64 a1_1, .int .i64 a1_2, .int .i64 a1_3] 26 (0, 0)) (by (with_reducible repeat (first | refine blk_drewN ?_ _ | refine blk_drew ?_ | refine blk_alloc ?_ _)); exact BK589.out)) : gb589 ≠ gb590)); have n9_ := Aside0.mk ((by rw [hg]; exact Nat.ne_of_gt (blk_lt (g := gb589) (o := .cells #[.int .i64 a1_0, .int .i64 a1_1, .int .i64 a1_2, .int .i64 a1_3] 26 (0, 0)) (by (with_reducible repeat (first | refine blk_drewN ?_ _ | refine blk_drew ?_ | refine blk_alloc ?_ _)); exact BK589.out)) : gb590 ≠ gb589)); clear BK588; clear BK589; clear HB; have BK588 := n0_; have BK589 := n1_; have HB := n2_; have BK590 := n3_; have GW590 := n4_; have GE590 := n5_; have NB588_590 := n6_; have NB590_588 := n7_; have NB589_590 := n8_; have NB590_589 := n9_; clear n0_ n1_ n2_ n3_ n4_ n5_ n6_ n7_ n8_ n9_; clear hb hbox hg))
    have n0_ := Aside0.mk (blk_drew BK588.out)
    have n1_ := Aside0.mk (blk_drew BK589.out)
    have n2_ := Aside0.mk (blk_drew BK590.out)
    have n3_ := Aside0.mk (below_drew1 HB.out)
    clear BK588
    clear BK589
    clear BK590
    clear HB
    have BK588 := n0_
    have BK589 := n1_
    have BK590 := n2_
    have HB := n3_
    clear n0_ n1_ n2_ n3_
    refine start_ (n := 6) (S := fun w' => w'.cell? ⟨gb588, 0, none⟩ = some (.int .i64 a0_0) ∧ w'.cell? ⟨gb588, 1, none⟩ = some (.int .i64 a0_1) ∧ w'.cell? ⟨gb588, 2, none⟩ = some (.int .i64 a0_2) ∧ w'.cell? ⟨gb588, 3, none⟩ = some (.int .i64 a0_3) ∧ w'.cell? ⟨gb589, 0, none⟩ = some (.int .i64 a1_0) ∧ w'.cell? ⟨gb589, 1, none⟩ = some (.int .i64 a1_1) ∧ w'.cell? ⟨gb589, 2, none⟩ = some (.int .i64 a1_2) ∧ w'.cell? ⟨gb589, 3, none⟩ = some (.int .i64 a1_3)) (ds := [4, 5]) #[false, false, false, false, false, false] (by kernel_rfl) rfl rfl ⟨(blk_cell BK588.out 0).trans rfl, (blk_cell BK588.out 1).trans rfl, (blk_cell BK588.out 2).trans rfl, (blk_cell BK588.out 3).trans rfl, (blk_cell BK589.out 0).trans rfl, (blk_cell BK589.out 1).trans rfl, (blk_cell BK589.out 2).trans rfl, (blk_cell BK589.out 3).trans rfl⟩ (fun hHeld => ?_)
    generalize w8.drew = w9 at BK588 BK589 BK590 HB hHeld ⊢
    refine take_ (i := 0) (N := some 5) (v := ?_) (a' := ?_) #[true, false, false, false, false, false] rfl rfl (by kernel_rfl) (fun _ _ _ h => h) (Or.inl ⟨by rfl, ?_⟩) hHeld ?_ ?_
    rotate_left
    · rintro w' ⟨s0, s1, s2, s3, s4, s5, s6, s7⟩
      go_simp
      with_reducible rfl
    rotate_left
    · simp only [Act.put, List.setIfInBounds_toArray, List.set_cons_zero, List.set_cons_succ, i64_w, i32_w]
      rfl
    refine take_ (i := 2) (N := some 7) (v := ?_) (a' := ?_) #[true, false, true, false, false, false] rfl rfl (by kernel_rfl) (fun _ _ _ h => h) (Or.inl ⟨by rfl, ?_⟩) hHeld ?_ ?_
    rotate_left
    · rintro w' ⟨s0, s1, s2, s3, s4, s5, s6, s7⟩
      go_simp
      with_reducible rfl
    rotate_left
    · simp only [Act.put, List.setIfInBounds_toArray, List.set_cons_zero, List.set_cons_succ, i64_w, i32_w]
      rfl
    refine one_ (i := 1) (N := some 6) #[true, true, true, false, false, false] rfl rfl (by kernel_rfl) (by decide) (fun K hK => ?_)
    refine goes_ Try.func20 (by kernel_rfl) rfl #[.agg #[.int .i64 a0_0, .int .i64 a0_1, .int .i64 a0_2, .int .i64 a0_3]] (by rfl) rfl rfl (by (try simp only [List.map_toArray, List.map_cons, List.map_nil]); first | done | rfl | (simp only [List.length_drop, List.length_take]; rfl)) ?_
    with_reducible refine (rect_Clean.calls a0_0 a0_1 a0_2 a0_3 t591 t592 t593 t594 _ A3.out).mono ?_
    rintro e w10 ⟨rfl, hb⟩
    refine ⟨_, rfl, ?_⟩
    have n0_ := Aside0.mk (blk_below (g := gb588) (o := .cells #[.int .i64 a0_0, .int .i64 a0_1, .int .i64 a0_2, .int .i64 a0_3] 26 (0, 0)) (by (with_reducible repeat (first | refine blk_drewN ?_ _ | refine blk_drew ?_ | refine blk_alloc ?_ _)); exact BK588.out) hb)
    have n1_ := Aside0.mk (blk_below (g := gb589) (o := .cells #[.int .i64 a1_0, .int .i64 a1_1, .int .i64 a1_2, .int .i64 a1_3] 26 (0, 0)) (by (with_reducible repeat (first | refine blk_drewN ?_ _ | refine blk_drew ?_ | refine blk_alloc ?_ _)); exact BK589.out) hb)
    have n2_ := Aside0.mk (blk_below (g := gb590) (o := .cells #[.int .i64 0, .int .i64 0, .int .i64 0, .int .i64 0] 26 (0, 0)) (by (with_reducible repeat (first | refine blk_drewN ?_ _ | refine blk_drew ?_ | refine blk_alloc ?_ _)); exact BK590.out) hb)
    have n3_ := Aside0.mk (below_step (by repeat (first | (with_reducible first | exact HB.out | apply below_alloc | apply pw_below_drewN | apply below_drew1 | refine below_set ?_ GE588.out | refine below_set ?_ GE589.out | refine below_set ?_ GE590.out) | exact HB.out)) hb)
    clear BK588
    clear BK589
    clear BK590
    clear HB
    have BK588 := n0_
    have BK589 := n1_
    have BK590 := n2_
    have HB := n3_
    clear n0_ n1_ n2_ n3_
    (try clear hb)
    (try clear hb2)
    (try clear hk)
    (try clear hi)
    refine hK.out _ _ ⟨(blk_cell BK588.out 0).trans rfl, (blk_cell BK588.out 1).trans rfl, (blk_cell BK588.out 2).trans rfl, (blk_cell BK588.out 3).trans rfl, (blk_cell BK589.out 0).trans rfl, (blk_cell BK589.out 1).trans rfl, (blk_cell BK589.out 2).trans rfl, (blk_cell BK589.out 3).trans rfl⟩ (fun hHeld => ?_)
    clear hK K
    refine norm_ (a' := ?_) ?_ ?_
    rotate_left
    · show Act.put _ (some 6) _ = _
      simp only [Act.put, List.setIfInBounds_toArray, List.set_cons_zero, List.set_cons_succ, i64_w, i32_w]
      rfl
    refine one_ (i := 3) (N := some 8) #[true, true, true, true, false, false] rfl rfl (by kernel_rfl) (by decide) (fun K hK => ?_)
    refine goes_ Try.func20 (by kernel_rfl) rfl #[.agg #[.int .i64 a1_0, .int .i64 a1_1, .int .i64 a1_2, .int .i64 a1_3]] (by rfl) rfl rfl (by (try simp only [List.map_toArray, List.map_cons, List.map_nil]); first | done | rfl | (simp only [List.length_drop, List.length_take]; rfl)) ?_
    with_reducible refine (rect_Clean.calls a1_0 a1_1 a1_2 a1_3 t595 t596 t597 t598 _ A4.out).mono ?_
    rintro e w11 ⟨rfl, hb⟩
    refine ⟨_, rfl, ?_⟩
    have n0_ := Aside0.mk (blk_below (g := gb588) (o := .cells #[.int .i64 a0_0, .int .i64 a0_1, .int .i64 a0_2, .int .i64 a0_3] 26 (0, 0)) (by (with_reducible repeat (first | refine blk_drewN ?_ _ | refine blk_drew ?_ | refine blk_alloc ?_ _)); exact BK588.out) hb)
    have n1_ := Aside0.mk (blk_below (g := gb589) (o := .cells #[.int .i64 a1_0, .int .i64 a1_1, .int .i64 a1_2, .int .i64 a1_3] 26 (0, 0)) (by (with_reducible repeat (first | refine blk_drewN ?_ _ | refine blk_drew ?_ | refine blk_alloc ?_ _)); exact BK589.out) hb)
    have n2_ := Aside0.mk (blk_below (g := gb590) (o := .cells #[.int .i64 0, .int .i64 0, .int .i64 0, .int .i64 0] 26 (0, 0)) (by (with_reducible repeat (first | refine blk_drewN ?_ _ | refine blk_drew ?_ | refine blk_alloc ?_ _)); exact BK590.out) hb)
    have n3_ := Aside0.mk (below_step (by repeat (first | (with_reducible first | exact HB.out | apply below_alloc | apply pw_below_drewN | apply below_drew1 | refine below_set ?_ GE588.out | refine below_set ?_ GE589.out | refine below_set ?_ GE590.out) | exact HB.out)) hb)
    clear BK588
    clear BK589
    clear BK590
    clear HB
    have BK588 := n0_
    have BK589 := n1_
    have BK590 := n2_
    have HB := n3_
    clear n0_ n1_ n2_ n3_
    (try clear hb)
    (try clear hb2)
    (try clear hk)
    (try clear hi)
    refine hK.out _ _ ⟨(blk_cell BK588.out 0).trans rfl, (blk_cell BK588.out 1).trans rfl, (blk_cell BK588.out 2).trans rfl, (blk_cell BK588.out 3).trans rfl, (blk_cell BK589.out 0).trans rfl, (blk_cell BK589.out 1).trans rfl, (blk_cell BK589.out 2).trans rfl, (blk_cell BK589.out 3).trans rfl⟩ (fun hHeld => ?_)
    clear hK K
    refine norm_ (a' := ?_) ?_ ?_
    rotate_left
    · show Act.put _ (some 8) _ = _
      simp only [Act.put, List.setIfInBounds_toArray, List.set_cons_zero, List.set_cons_succ, i64_w, i32_w]
      rfl
    refine last_ (i := 4) (N := none) #[true, true, true, true, true, false] rfl rfl (by kernel_rfl) (by decide) (fun K hK => ?_)
    have hs12 : w11.cell? ⟨gb588, 0, none⟩ = some (.int .i64 a0_0) := (blk_cell BK588.out 0).trans rfl
    have hfs12 := blk_frozen BK588.out 0
    have hns12_1 := NB589_588.out
    have hns12_2 := NB590_588.out
    have hms12_1 := NB588_589.out
    have hms12_2 := NB588_590.out
    have hs13 : w11.cell? ⟨gb588, 1, none⟩ = some (.int .i64 a0_1) := (blk_cell BK588.out 1).trans rfl
    have hfs13 := blk_frozen BK588.out 1
    have hns13_1 := NB589_588.out
    have hns13_2 := NB590_588.out
    have hms13_1 := NB588_589.out
    have hms13_2 := NB588_590.out
    have hs14 : w11.cell? ⟨gb588, 2, none⟩ = some (.int .i64 a0_2) := (blk_cell BK588.out 2).trans rfl
    have hfs14 := blk_frozen BK588.out 2
    have hns14_1 := NB589_588.out
    have hns14_2 := NB590_588.out
    have hms14_1 := NB588_589.out
    have hms14_2 := NB588_590.out
    have hs15 : w11.cell? ⟨gb588, 3, none⟩ = some (.int .i64 a0_3) := (blk_cell BK588.out 3).trans rfl
    have hfs15 := blk_frozen BK588.out 3
    have hns15_1 := NB589_588.out
    have hns15_2 := NB590_588.out
    have hms15_1 := NB588_589.out
    have hms15_2 := NB588_590.out
    refine skip_ (w1 := ?_) (by rfl) rfl ?_ ?_
    rotate_left
    · go_simp
      rfl
    refine hK.out _ _ ?_
    clear hK K
    refine last_ (i := 5) (N := none) #[true, true, true, true, true, true] rfl rfl (by kernel_rfl) (by decide) (fun K hK => ?_)
    have hs16 : w11.cell? ⟨gb589, 0, none⟩ = some (.int .i64 a1_0) := (blk_cell BK589.out 0).trans rfl
    have hfs16 := blk_frozen BK589.out 0
    have hns16_0 := NB588_589.out
    have hns16_2 := NB590_589.out
    have hms16_0 := NB589_588.out
    have hms16_2 := NB589_590.out
    have hs17 : w11.cell? ⟨gb589, 1, none⟩ = some (.int .i64 a1_1) := (blk_cell BK589.out 1).trans rfl
    have hfs17 := blk_frozen BK589.out 1
    have hns17_0 := NB588_589.out
    have hns17_2 := NB590_589.out
    have hms17_0 := NB589_588.out
    have hms17_2 := NB589_590.out
    have hs18 : w11.cell? ⟨gb589, 2, none⟩ = some (.int .i64 a1_2) := (blk_cell BK589.out 2).trans rfl
    have hfs18 := blk_frozen BK589.out 2
    have hns18_0 := NB588_589.out
    have hns18_2 := NB590_589.out
    have hms18_0 := NB589_588.out
    have hms18_2 := NB589_590.out
    have hs19 : w11.cell? ⟨gb589, 3, none⟩ = some (.int .i64 a1_3) := (blk_cell BK589.out 3).trans rfl
    have hfs19 := blk_frozen BK589.out 3
    have hns19_0 := NB588_589.out
    have hns19_2 := NB590_589.out
    have hms19_0 := NB589_588.out
    have hms19_2 := NB589_590.out
    refine skip_ (w1 := ?_) (by rfl) rfl ?_ ?_
    rotate_left
    · go_simp
      rfl
    refine hK.out _ _ ?_
    clear hK K
    refine done_ (by kernel_rfl) ?_
    have hnb20 := NB588_589.out
    have hnc20 := NB589_588.out
    have hnb21 := NB588_590.out
    have hnc21 := NB590_588.out
    have hcz22_0 : w11.cell? ⟨gb588, 0, none⟩ = some (.int .i64 a0_0) := (blk_cell BK588.out 0).trans rfl
    have hcz22_1 : w11.cell? ⟨gb588, 1, none⟩ = some (.int .i64 a0_1) := (blk_cell BK588.out 1).trans rfl
    have hcz22_2 : w11.cell? ⟨gb588, 2, none⟩ = some (.int .i64 a0_2) := (blk_cell BK588.out 2).trans rfl
    have hcz22_3 : w11.cell? ⟨gb588, 3, none⟩ = some (.int .i64 a0_3) := (blk_cell BK588.out 3).trans rfl
    have hfz22_0 := blk_frozen BK588.out 0
    have hfz22_1 := blk_frozen BK588.out 1
    have hfz22_2 := blk_frozen BK588.out 2
    have hfz22_3 := blk_frozen BK588.out 3
    have hnb23 := NB589_590.out
    have hnc23 := NB590_589.out
    have hcz24_0 : w11.cell? ⟨gb589, 0, none⟩ = some (.int .i64 a1_0) := (blk_cell BK589.out 0).trans rfl
    have hcz24_1 : w11.cell? ⟨gb589, 1, none⟩ = some (.int .i64 a1_1) := (blk_cell BK589.out 1).trans rfl
    have hcz24_2 : w11.cell? ⟨gb589, 2, none⟩ = some (.int .i64 a1_2) := (blk_cell BK589.out 2).trans rfl
    have hcz24_3 : w11.cell? ⟨gb589, 3, none⟩ = some (.int .i64 a1_3) := (blk_cell BK589.out 3).trans rfl
    have hfz24_0 := blk_frozen BK589.out 0
    have hfz24_1 := blk_frozen BK589.out 1
    have hfz24_2 := blk_frozen BK589.out 2
    have hfz24_3 := blk_frozen BK589.out 3
    have hcz25_0 : w11.cell? ⟨gb590, 0, none⟩ = some (.int .i64 0) := (blk_cell BK590.out 0).trans rfl
    have hcz25_1 : w11.cell? ⟨gb590, 1, none⟩ = some (.int .i64 0) := (blk_cell BK590.out 1).trans rfl
    have hcz25_2 : w11.cell? ⟨gb590, 2, none⟩ = some (.int .i64 0) := (blk_cell BK590.out 2).trans rfl
    have hcz25_3 : w11.cell? ⟨gb590, 3, none⟩ = some (.int .i64 0) := (blk_cell BK590.out 3).trans rfl
    have hfz25_0 := blk_frozen BK590.out 0
    have hfz25_1 := blk_frozen BK590.out 1
    have hfz25_2 := blk_frozen BK590.out 2
    have hfz25_3 := blk_frozen BK590.out 3
    try go_wp2
    refine bodyPost_ret (results_cell_row rfl _ _ gb590 26 #[.int .i64 t595, .int .i64 t596, .int .i64 t597, .int .i64 t598] (0, 0) _ rfl (by (with_reducible repeat (first | refine blk_drewN ?_ _ | refine blk_drew ?_ | refine blk_alloc ?_ _)); refine blk_put (cs := #[.int .i64 t595, .int .i64 t596, .int .i64 t597, .int .i64 0]) ?_ 3 _ rfl; (with_reducible repeat (first | refine blk_drewN ?_ _ | refine blk_drew ?_ | refine blk_alloc ?_ _)); refine blk_put (cs := #[.int .i64 t595, .int .i64 t596, .int .i64 0, .int .i64 0]) ?_ 2 _ rfl; (with_reducible repeat (first | refine blk_drewN ?_ _ | refine blk_drew ?_ | refine blk_alloc ?_ _)); refine blk_put (cs := #[.int .i64 t595, .int .i64 0, .int .i64 0, .int .i64 0]) ?_ 1 _ rfl; (with_reducible repeat (first | refine blk_drewN ?_ _ | refine blk_drew ?_ | refine blk_alloc ?_ _)); refine blk_put (cs := #[.int .i64 0, .int .i64 0, .int .i64 0, .int .i64 0]) ?_ 0 _ rfl; (with_reducible repeat (first | refine blk_drewN ?_ _ | refine blk_drew ?_ | refine blk_alloc ?_ _)); refine blk_far ?_ NB590_589.out _; (with_reducible repeat (first | refine blk_drewN ?_ _ | refine blk_drew ?_ | refine blk_alloc ?_ _)); refine blk_far ?_ NB590_589.out _; (with_reducible repeat (first | refine blk_drewN ?_ _ | refine blk_drew ?_ | refine blk_alloc ?_ _)); refine blk_far ?_ NB590_589.out _; (with_reducible repeat (first | refine blk_drewN ?_ _ | refine blk_drew ?_ | refine blk_alloc ?_ _)); refine blk_far ?_ NB590_589.out _; (with_reducible repeat (first | refine blk_drewN ?_ _ | refine blk_drew ?_ | refine blk_alloc ?_ _)); refine blk_far ?_ NB590_588.out _; (with_reducible repeat (first | refine blk_drewN ?_ _ | refine blk_drew ?_ | refine blk_alloc ?_ _)); refine blk_far ?_ NB590_588.out _; (with_reducible repeat (first | refine blk_drewN ?_ _ | refine blk_drew ?_ | refine blk_alloc ?_ _)); refine blk_far ?_ NB590_588.out _; (with_reducible repeat (first | refine blk_drewN ?_ _ | refine blk_drew ?_ | refine blk_alloc ?_ _)); refine blk_far ?_ NB590_588.out _; (with_reducible repeat (first | refine blk_drewN ?_ _ | refine blk_drew ?_ | refine blk_alloc ?_ _)); exact BK590.out) Try.underlying26 rfl (by kernel_rfl)) rfl ?_
    exact ⟨by first | rfl | (simp [errW_none, errW_some] <;> rfl) | (simp [*, errW_none, errW_some] <;> rfl), by repeat (first | (with_reducible first | exact HB.out | apply below_alloc | apply pw_below_drewN | apply below_drew1 | refine below_set ?_ GE588.out | refine below_set ?_ GE589.out | refine below_set ?_ GE590.out) | exact HB.out)⟩
  · rw [if_neg c5] at H
    have c5b0 : (t593 == 0) = false := beq_eq_false_iff_ne.mpr c5
    have c5b1 : (t593 != 0) = true := bne_iff_ne.mpr c5
    by_cases c26 : t597 = 0
    · rw [if_pos c26] at H
      have c26b0 : (t597 == 0) = true := beq_iff_eq.mpr c26
      have c26b1 : (t597 != 0) = false := bne_eq_false_iff_eq.mpr c26
      clear c26
      simp only [Option.some.injEq, Prod.mk.injEq] at H
      obtain ⟨rfl, rfl, rfl, rfl⟩ := H
      go_enter Try.func35, Try.ntmps35
      try go_wp2_with (first | ((with_reducible refine gate_dst (N := 2) rfl ?_); refine box_event ?hg (N := 2) ?hd (cs := #[.int .i64 a0_0, .int .i64 a0_1, .int .i64 a0_2, .int .i64 a0_3]) (t := 26) ?hr ?_; (case hd => rfl); (case hg => rfl); (case hr => first | (go_simp; done) | (go_simp; rfl)); intro gb588 hg w27 hbox hb; have n0_ := Aside0.mk (below_step (by repeat (first | (with_reducible first | exact HB.out | apply below_alloc | apply pw_below_drewN | apply below_drew1) | exact HB.out)) hb); have n1_ := Aside0.mk (hbox); have n2_ := Aside0.mk ((by rw [hg]; exact (below_size (by repeat (first | (with_reducible first | exact HB.out | apply below_alloc | apply pw_below_drewN | apply below_drew1) | exact HB.out))) : w.heap.size ≤ gb588)); have n3_ := Aside0.mk ((by rw [hg]; exact (below_size (by repeat (first | (with_reducible first | exact HB.out | apply below_alloc | apply pw_below_drewN | apply below_drew1) | exact HB.out))) : w.heap.size ≤ gb588)); clear HB; have HB := n0_; have BK588 := n1_; have GW588 := n2_; have GE588 := n3_; clear n0_ n1_ n2_ n3_; clear hb hbox hg) | ((with_reducible refine gate_dst (N := 3) rfl ?_); refine box_event ?hg (N := 3) ?hd (cs := #[.int .i64 a1_0, .int .i64 a1_1, .int .i64 a1_2, .int .i64 a1_3]) (t := 26) ?hr ?_; (case hd => rfl); (case hg => rfl); (case hr => first | (go_simp; done) | (go_simp; rfl)); intro gb589 hg w28 hbox hb; have n0_ := Aside0.mk (blk_below (g := gb588) (o := .cells #[.int .i64 a0_0, .int .i64 a0_1, .int .i64 a0_2, .int .i64 a0_3] 26 (0, 0)) (by (with_reducible repeat (first | refine blk_drewN ?_ _ | refine blk_drew ?_ | refine blk_alloc ?_ _)); exact BK588.out) hb); have n1_ := Aside0.mk (below_step (by repeat (first | (with_reducible first | exact HB.out | apply below_alloc | apply pw_below_drewN | apply below_drew1 | refine below_set ?_ GE588.out) | exact HB.out)) hb); have n2_ := Aside0.mk (hbox); have n3_ := Aside0.mk ((by rw [hg]; exact (below_size (by repeat (first | (with_reducible first | exact HB.out | apply below_alloc | apply pw_below_drewN | apply below_drew1 | refine below_set ?_ GE588.out) | exact HB.out))) : w.heap.size ≤ gb589)); have n4_ := Aside0.mk ((by rw [hg]; exact (below_size (by repeat (first | (with_reducible first | exact HB.out | apply below_alloc | apply pw_below_drewN | apply below_drew1 | refine below_set ?_ GE588.out) | exact HB.out))) : w.heap.size ≤ gb589)); have n5_ := Aside0.mk ((by rw [hg]; exact Nat.ne_of_lt (blk_lt (g := gb588) (o := .cells #[.int .i64 a0_0, .int .i64 a0_1, .int .i64 a0_2, .int .i64 a0_3] 26 (0, 0)) (by (with_reducible repeat (first | refine blk_drewN ?_ _ | refine blk_drew ?_ | refine blk_alloc ?_ _)); exact BK588.out)) : gb588 ≠ gb589)); have n6_ := Aside0.mk ((by rw [hg]; exact Nat.ne_of_gt (blk_lt (g := gb588) (o := .cells #[.int .i64 a0_0, .int .i64 a0_1, .int .i64 a0_2, .int .i64 a0_3] 26 (0, 0)) (by (with_reducible repeat (first | refine blk_drewN ?_ _ | refine blk_drew ?_ | refine blk_alloc ?_ _)); exact BK588.out)) : gb589 ≠ gb588)); clear BK588; clear HB; have BK588 := n0_; have HB := n1_; have BK589 := n2_; have GW589 := n3_; have GE589 := n4_; have NB588_589 := n5_; have NB589_588 := n6_; clear n0_ n1_ n2_ n3_ n4_ n5_ n6_; clear hb hbox hg) | ((with_reducible refine gate_dst (N := 4) rfl ?_); refine box_event ?hg (N := 4) ?hd (cs := #[.int .i64 0, .int .i64 0, .int .i64 0, .int .i64 0]) (t := 26) ?hr ?_; (case hd => rfl); (case hg => rfl); (case hr => first | (go_simp; done) | (go_simp; rfl)); intro gb590 hg w29 hbox hb; have n0_ := Aside0.mk (blk_below (g := gb588) (o := .cells #[.int .i64 a0_0, .int .i64 a0_1, .int .i64 a0_2, .int .i64 a0_3] 26 (0, 0)) (by (with_reducible repeat (first | refine blk_drewN ?_ _ | refine blk_drew ?_ | refine blk_alloc ?_ _)); exact BK588.out) hb); have n1_ := Aside0.mk (blk_below (g := gb589) (o := .cells #[.int .i64 a1_0, .int .i64 a1_1, .int .i64 a1_2, .int .i64 a1_3] 26 (0, 0)) (by (with_reducible repeat (first | refine blk_drewN ?_ _ | refine blk_drew ?_ | refine blk_alloc ?_ _)); exact BK589.out) hb); have n2_ := Aside0.mk (below_step (by repeat (first | (with_reducible first | exact HB.out | apply below_alloc | apply pw_below_drewN | apply below_drew1 | refine below_set ?_ GE588.out | refine below_set ?_ GE589.out) | exact HB.out)) hb); have n3_ := Aside0.mk (hbox); have n4_ := Aside0.mk ((by rw [hg]; exact (below_size (by repeat (first | (with_reducible first | exact HB.out | apply below_alloc | apply pw_below_drewN | apply below_drew1 | refine below_set ?_ GE588.out | refine below_set ?_ GE589.out) | exact HB.out))) : w.heap.size ≤ gb590)); have n5_ := Aside0.mk ((by rw [hg]; exact (below_size (by repeat (first | (with_reducible first | exact HB.out | apply below_alloc | apply pw_below_drewN | apply below_drew1 | refine below_set ?_ GE588.out | refine below_set ?_ GE589.out) | exact HB.out))) : w.heap.size ≤ gb590)); have n6_ := Aside0.mk ((by rw [hg]; exact Nat.ne_of_lt (blk_lt (g := gb588) (o := .cells #[.int .i64 a0_0, .int .i64 a0_1, .int .i64 a0_2, .int .i64 a0_3] 26 (0, 0)) (by (with_reducible repeat (first | refine blk_drewN ?_ _ | refine blk_drew ?_ | refine blk_alloc ?_ _)); exact BK588.out)) : gb588 ≠ gb590)); have n7_ := Aside0.mk ((by rw [hg]; exact Nat.ne_of_gt (blk_lt (g := gb588) (o := .cells #[.int .i64 a0_0, .int .i64 a0_1, .int .i64 a0_2, .int .i64 a0_3] 26 (0, 0)) (by (with_reducible repeat (first | refine blk_drewN ?_ _ | refine blk_drew ?_ | refine blk_alloc ?_ _)); exact BK588.out)) : gb590 ≠ gb588)); have n8_ := Aside0.mk ((by rw [hg]; exact Nat.ne_of_lt (blk_lt (g := gb589) (o := .cells #[.int .i64 a1_0, .int .i64 a1_1, .int .i64 a1_2, .int .i64 a1_3] 26 (0, 0)) (by (with_reducible repeat (first | refine blk_drewN ?_ _ | refine blk_drew ?_ | refine blk_alloc ?_ _)); exact BK589.out)) : gb589 ≠ gb590)); have n9_ := Aside0.mk ((by rw [hg]; exact Nat.ne_of_gt (blk_lt (g := gb589) (o := .cells #[.int .i64 a1_0, .int .i64 a1_1, .int .i64 a1_2, .int .i64 a1_3] 26 (0, 0)) (by (with_reducible repeat (first | refine blk_drewN ?_ _ | refine blk_drew ?_ | refine blk_alloc ?_ _)); exact BK589.out)) : gb590 ≠ gb589)); clear BK588; clear BK589; clear HB; have BK588 := n0_; have BK589 := n1_; have HB := n2_; have BK590 := n3_; have GW590 := n4_; have GE590 := n5_; have NB588_590 := n6_; have NB590_588 := n7_; have NB589_590 := n8_; have NB590_589 := n9_; clear n0_ n1_ n2_ n3_ n4_ n5_ n6_ n7_ n8_ n9_; clear hb hbox hg))
      have n0_ := Aside0.mk (blk_drew BK588.out)
      have n1_ := Aside0.mk (blk_drew BK589.out)
      have n2_ := Aside0.mk (blk_drew BK590.out)
      have n3_ := Aside0.mk (below_drew1 HB.out)
      clear BK588
      clear BK589
      clear BK590
      clear HB
      have BK588 := n0_
      have BK589 := n1_
      have BK590 := n2_
      have HB := n3_
      clear n0_ n1_ n2_ n3_
      refine start_ (n := 6) (S := fun w' => w'.cell? ⟨gb588, 0, none⟩ = some (.int .i64 a0_0) ∧ w'.cell? ⟨gb588, 1, none⟩ = some (.int .i64 a0_1) ∧ w'.cell? ⟨gb588, 2, none⟩ = some (.int .i64 a0_2) ∧ w'.cell? ⟨gb588, 3, none⟩ = some (.int .i64 a0_3) ∧ w'.cell? ⟨gb589, 0, none⟩ = some (.int .i64 a1_0) ∧ w'.cell? ⟨gb589, 1, none⟩ = some (.int .i64 a1_1) ∧ w'.cell? ⟨gb589, 2, none⟩ = some (.int .i64 a1_2) ∧ w'.cell? ⟨gb589, 3, none⟩ = some (.int .i64 a1_3)) (ds := [4, 5]) #[false, false, false, false, false, false] (by kernel_rfl) rfl rfl ⟨(blk_cell BK588.out 0).trans rfl, (blk_cell BK588.out 1).trans rfl, (blk_cell BK588.out 2).trans rfl, (blk_cell BK588.out 3).trans rfl, (blk_cell BK589.out 0).trans rfl, (blk_cell BK589.out 1).trans rfl, (blk_cell BK589.out 2).trans rfl, (blk_cell BK589.out 3).trans rfl⟩ (fun hHeld => ?_)
      generalize w29.drew = w30 at BK588 BK589 BK590 HB hHeld ⊢
      refine take_ (i := 0) (N := some 5) (v := ?_) (a' := ?_) #[true, false, false, false, false, false] rfl rfl (by kernel_rfl) (fun _ _ _ h => h) (Or.inl ⟨by rfl, ?_⟩) hHeld ?_ ?_
      rotate_left
      · rintro w' ⟨s0, s1, s2, s3, s4, s5, s6, s7⟩
        go_simp
        with_reducible rfl
      rotate_left
      · simp only [Act.put, List.setIfInBounds_toArray, List.set_cons_zero, List.set_cons_succ, i64_w, i32_w]
        rfl
      refine take_ (i := 2) (N := some 7) (v := ?_) (a' := ?_) #[true, false, true, false, false, false] rfl rfl (by kernel_rfl) (fun _ _ _ h => h) (Or.inl ⟨by rfl, ?_⟩) hHeld ?_ ?_
      rotate_left
      · rintro w' ⟨s0, s1, s2, s3, s4, s5, s6, s7⟩
        go_simp
        with_reducible rfl
      rotate_left
      · simp only [Act.put, List.setIfInBounds_toArray, List.set_cons_zero, List.set_cons_succ, i64_w, i32_w]
        rfl
      refine one_ (i := 1) (N := some 6) #[true, true, true, false, false, false] rfl rfl (by kernel_rfl) (by decide) (fun K hK => ?_)
      refine goes_ Try.func20 (by kernel_rfl) rfl #[.agg #[.int .i64 a0_0, .int .i64 a0_1, .int .i64 a0_2, .int .i64 a0_3]] (by rfl) rfl rfl (by (try simp only [List.map_toArray, List.map_cons, List.map_nil]); first | done | rfl | (simp only [List.length_drop, List.length_take]; rfl)) ?_
      with_reducible refine (rect_Clean.calls a0_0 a0_1 a0_2 a0_3 t591 t592 t593 t594 _ A3.out).mono ?_
      rintro e w31 ⟨rfl, hb⟩
      refine ⟨_, rfl, ?_⟩
      have n0_ := Aside0.mk (blk_below (g := gb588) (o := .cells #[.int .i64 a0_0, .int .i64 a0_1, .int .i64 a0_2, .int .i64 a0_3] 26 (0, 0)) (by (with_reducible repeat (first | refine blk_drewN ?_ _ | refine blk_drew ?_ | refine blk_alloc ?_ _)); exact BK588.out) hb)
      have n1_ := Aside0.mk (blk_below (g := gb589) (o := .cells #[.int .i64 a1_0, .int .i64 a1_1, .int .i64 a1_2, .int .i64 a1_3] 26 (0, 0)) (by (with_reducible repeat (first | refine blk_drewN ?_ _ | refine blk_drew ?_ | refine blk_alloc ?_ _)); exact BK589.out) hb)
      have n2_ := Aside0.mk (blk_below (g := gb590) (o := .cells #[.int .i64 0, .int .i64 0, .int .i64 0, .int .i64 0] 26 (0, 0)) (by (with_reducible repeat (first | refine blk_drewN ?_ _ | refine blk_drew ?_ | refine blk_alloc ?_ _)); exact BK590.out) hb)
      have n3_ := Aside0.mk (below_step (by repeat (first | (with_reducible first | exact HB.out | apply below_alloc | apply pw_below_drewN | apply below_drew1 | refine below_set ?_ GE588.out | refine below_set ?_ GE589.out | refine below_set ?_ GE590.out) | exact HB.out)) hb)
      clear BK588
      clear BK589
      clear BK590
      clear HB
      have BK588 := n0_
      have BK589 := n1_
      have BK590 := n2_
      have HB := n3_
      clear n0_ n1_ n2_ n3_
      (try clear hb)
      (try clear hb2)
      (try clear hk)
      (try clear hi)
      refine hK.out _ _ ⟨(blk_cell BK588.out 0).trans rfl, (blk_cell BK588.out 1).trans rfl, (blk_cell BK588.out 2).trans rfl, (blk_cell BK588.out 3).trans rfl, (blk_cell BK589.out 0).trans rfl, (blk_cell BK589.out 1).trans rfl, (blk_cell BK589.out 2).trans rfl, (blk_cell BK589.out 3).trans rfl⟩ (fun hHeld => ?_)
      clear hK K
      refine norm_ (a' := ?_) ?_ ?_
      rotate_left
      · show Act.put _ (some 6) _ = _
        simp only [Act.put, List.setIfInBounds_toArray, List.set_cons_zero, List.set_cons_succ, i64_w, i32_w]
        rfl
      refine one_ (i := 3) (N := some 8) #[true, true, true, true, false, false] rfl rfl (by kernel_rfl) (by decide) (fun K hK => ?_)
      refine goes_ Try.func20 (by kernel_rfl) rfl #[.agg #[.int .i64 a1_0, .int .i64 a1_1, .int .i64 a1_2, .int .i64 a1_3]] (by rfl) rfl rfl (by (try simp only [List.map_toArray, List.map_cons, List.map_nil]); first | done | rfl | (simp only [List.length_drop, List.length_take]; rfl)) ?_
      with_reducible refine (rect_Clean.calls a1_0 a1_1 a1_2 a1_3 t595 t596 t597 t598 _ A4.out).mono ?_
      rintro e w32 ⟨rfl, hb⟩
      refine ⟨_, rfl, ?_⟩
      have n0_ := Aside0.mk (blk_below (g := gb588) (o := .cells #[.int .i64 a0_0, .int .i64 a0_1, .int .i64 a0_2, .int .i64 a0_3] 26 (0, 0)) (by (with_reducible repeat (first | refine blk_drewN ?_ _ | refine blk_drew ?_ | refine blk_alloc ?_ _)); exact BK588.out) hb)
      have n1_ := Aside0.mk (blk_below (g := gb589) (o := .cells #[.int .i64 a1_0, .int .i64 a1_1, .int .i64 a1_2, .int .i64 a1_3] 26 (0, 0)) (by (with_reducible repeat (first | refine blk_drewN ?_ _ | refine blk_drew ?_ | refine blk_alloc ?_ _)); exact BK589.out) hb)
      have n2_ := Aside0.mk (blk_below (g := gb590) (o := .cells #[.int .i64 0, .int .i64 0, .int .i64 0, .int .i64 0] 26 (0, 0)) (by (with_reducible repeat (first | refine blk_drewN ?_ _ | refine blk_drew ?_ | refine blk_alloc ?_ _)); exact BK590.out) hb)
      have n3_ := Aside0.mk (below_step (by repeat (first | (with_reducible first | exact HB.out | apply below_alloc | apply pw_below_drewN | apply below_drew1 | refine below_set ?_ GE588.out | refine below_set ?_ GE589.out | refine below_set ?_ GE590.out) | exact HB.out)) hb)
      clear BK588
      clear BK589
      clear BK590
      clear HB
      have BK588 := n0_
      have BK589 := n1_
      have BK590 := n2_
      have HB := n3_
      clear n0_ n1_ n2_ n3_
      (try clear hb)
      (try clear hb2)
      (try clear hk)
      (try clear hi)
      refine hK.out _ _ ⟨(blk_cell BK588.out 0).trans rfl, (blk_cell BK588.out 1).trans rfl, (blk_cell BK588.out 2).trans rfl, (blk_cell BK588.out 3).trans rfl, (blk_cell BK589.out 0).trans rfl, (blk_cell BK589.out 1).trans rfl, (blk_cell BK589.out 2).trans rfl, (blk_cell BK589.out 3).trans rfl⟩ (fun hHeld => ?_)
      clear hK K
      refine norm_ (a' := ?_) ?_ ?_
      rotate_left
      · show Act.put _ (some 8) _ = _
        simp only [Act.put, List.setIfInBounds_toArray, List.set_cons_zero, List.set_cons_succ, i64_w, i32_w]
        rfl
      refine last_ (i := 4) (N := none) #[true, true, true, true, true, false] rfl rfl (by kernel_rfl) (by decide) (fun K hK => ?_)
      have hs33 : w32.cell? ⟨gb588, 0, none⟩ = some (.int .i64 a0_0) := (blk_cell BK588.out 0).trans rfl
      have hfs33 := blk_frozen BK588.out 0
      have hns33_1 := NB589_588.out
      have hns33_2 := NB590_588.out
      have hms33_1 := NB588_589.out
      have hms33_2 := NB588_590.out
      have hs34 : w32.cell? ⟨gb588, 1, none⟩ = some (.int .i64 a0_1) := (blk_cell BK588.out 1).trans rfl
      have hfs34 := blk_frozen BK588.out 1
      have hns34_1 := NB589_588.out
      have hns34_2 := NB590_588.out
      have hms34_1 := NB588_589.out
      have hms34_2 := NB588_590.out
      have hs35 : w32.cell? ⟨gb588, 2, none⟩ = some (.int .i64 a0_2) := (blk_cell BK588.out 2).trans rfl
      have hfs35 := blk_frozen BK588.out 2
      have hns35_1 := NB589_588.out
      have hns35_2 := NB590_588.out
      have hms35_1 := NB588_589.out
      have hms35_2 := NB588_590.out
      have hs36 : w32.cell? ⟨gb588, 3, none⟩ = some (.int .i64 a0_3) := (blk_cell BK588.out 3).trans rfl
      have hfs36 := blk_frozen BK588.out 3
      have hns36_1 := NB589_588.out
      have hns36_2 := NB590_588.out
      have hms36_1 := NB588_589.out
      have hms36_2 := NB588_590.out
      refine skip_ (w1 := ?_) (by rfl) rfl ?_ ?_
      rotate_left
      · go_simp
        rfl
      refine hK.out _ _ ?_
      clear hK K
      refine last_ (i := 5) (N := none) #[true, true, true, true, true, true] rfl rfl (by kernel_rfl) (by decide) (fun K hK => ?_)
      have hs37 : w32.cell? ⟨gb589, 0, none⟩ = some (.int .i64 a1_0) := (blk_cell BK589.out 0).trans rfl
      have hfs37 := blk_frozen BK589.out 0
      have hns37_0 := NB588_589.out
      have hns37_2 := NB590_589.out
      have hms37_0 := NB589_588.out
      have hms37_2 := NB589_590.out
      have hs38 : w32.cell? ⟨gb589, 1, none⟩ = some (.int .i64 a1_1) := (blk_cell BK589.out 1).trans rfl
      have hfs38 := blk_frozen BK589.out 1
      have hns38_0 := NB588_589.out
      have hns38_2 := NB590_589.out
      have hms38_0 := NB589_588.out
      have hms38_2 := NB589_590.out
      have hs39 : w32.cell? ⟨gb589, 2, none⟩ = some (.int .i64 a1_2) := (blk_cell BK589.out 2).trans rfl
      have hfs39 := blk_frozen BK589.out 2
      have hns39_0 := NB588_589.out
      have hns39_2 := NB590_589.out
      have hms39_0 := NB589_588.out
      have hms39_2 := NB589_590.out
      have hs40 : w32.cell? ⟨gb589, 3, none⟩ = some (.int .i64 a1_3) := (blk_cell BK589.out 3).trans rfl
      have hfs40 := blk_frozen BK589.out 3
      have hns40_0 := NB588_589.out
      have hns40_2 := NB590_589.out
      have hms40_0 := NB589_588.out
      have hms40_2 := NB589_590.out
      refine skip_ (w1 := ?_) (by rfl) rfl ?_ ?_
      rotate_left
      · go_simp
        rfl
      refine hK.out _ _ ?_
      clear hK K
      refine done_ (by kernel_rfl) ?_
      have hnb41 := NB588_589.out
      have hnc41 := NB589_588.out
      have hnb42 := NB588_590.out
      have hnc42 := NB590_588.out
      have hcz43_0 : w32.cell? ⟨gb588, 0, none⟩ = some (.int .i64 a0_0) := (blk_cell BK588.out 0).trans rfl
      have hcz43_1 : w32.cell? ⟨gb588, 1, none⟩ = some (.int .i64 a0_1) := (blk_cell BK588.out 1).trans rfl
      have hcz43_2 : w32.cell? ⟨gb588, 2, none⟩ = some (.int .i64 a0_2) := (blk_cell BK588.out 2).trans rfl
      have hcz43_3 : w32.cell? ⟨gb588, 3, none⟩ = some (.int .i64 a0_3) := (blk_cell BK588.out 3).trans rfl
      have hfz43_0 := blk_frozen BK588.out 0
      have hfz43_1 := blk_frozen BK588.out 1
      have hfz43_2 := blk_frozen BK588.out 2
      have hfz43_3 := blk_frozen BK588.out 3
      have hnb44 := NB589_590.out
      have hnc44 := NB590_589.out
      have hcz45_0 : w32.cell? ⟨gb589, 0, none⟩ = some (.int .i64 a1_0) := (blk_cell BK589.out 0).trans rfl
      have hcz45_1 : w32.cell? ⟨gb589, 1, none⟩ = some (.int .i64 a1_1) := (blk_cell BK589.out 1).trans rfl
      have hcz45_2 : w32.cell? ⟨gb589, 2, none⟩ = some (.int .i64 a1_2) := (blk_cell BK589.out 2).trans rfl
      have hcz45_3 : w32.cell? ⟨gb589, 3, none⟩ = some (.int .i64 a1_3) := (blk_cell BK589.out 3).trans rfl
      have hfz45_0 := blk_frozen BK589.out 0
      have hfz45_1 := blk_frozen BK589.out 1
      have hfz45_2 := blk_frozen BK589.out 2
      have hfz45_3 := blk_frozen BK589.out 3
      have hcz46_0 : w32.cell? ⟨gb590, 0, none⟩ = some (.int .i64 0) := (blk_cell BK590.out 0).trans rfl
      have hcz46_1 : w32.cell? ⟨gb590, 1, none⟩ = some (.int .i64 0) := (blk_cell BK590.out 1).trans rfl
      have hcz46_2 : w32.cell? ⟨gb590, 2, none⟩ = some (.int .i64 0) := (blk_cell BK590.out 2).trans rfl
      have hcz46_3 : w32.cell? ⟨gb590, 3, none⟩ = some (.int .i64 0) := (blk_cell BK590.out 3).trans rfl
      have hfz46_0 := blk_frozen BK590.out 0
      have hfz46_1 := blk_frozen BK590.out 1
      have hfz46_2 := blk_frozen BK590.out 2
      have hfz46_3 := blk_frozen BK590.out 3
      try go_wp2
      refine bodyPost_ret (results_cell_row rfl _ _ gb590 26 #[.int .i64 t591, .int .i64 t592, .int .i64 t593, .int .i64 t594] (0, 0) _ rfl (by (with_reducible repeat (first | refine blk_drewN ?_ _ | refine blk_drew ?_ | refine blk_alloc ?_ _)); refine blk_put (cs := #[.int .i64 t591, .int .i64 t592, .int .i64 t593, .int .i64 0]) ?_ 3 _ rfl; (with_reducible repeat (first | refine blk_drewN ?_ _ | refine blk_drew ?_ | refine blk_alloc ?_ _)); refine blk_put (cs := #[.int .i64 t591, .int .i64 t592, .int .i64 0, .int .i64 0]) ?_ 2 _ rfl; (with_reducible repeat (first | refine blk_drewN ?_ _ | refine blk_drew ?_ | refine blk_alloc ?_ _)); refine blk_put (cs := #[.int .i64 t591, .int .i64 0, .int .i64 0, .int .i64 0]) ?_ 1 _ rfl; (with_reducible repeat (first | refine blk_drewN ?_ _ | refine blk_drew ?_ | refine blk_alloc ?_ _)); refine blk_put (cs := #[.int .i64 0, .int .i64 0, .int .i64 0, .int .i64 0]) ?_ 0 _ rfl; (with_reducible repeat (first | refine blk_drewN ?_ _ | refine blk_drew ?_ | refine blk_alloc ?_ _)); refine blk_far ?_ NB590_589.out _; (with_reducible repeat (first | refine blk_drewN ?_ _ | refine blk_drew ?_ | refine blk_alloc ?_ _)); refine blk_far ?_ NB590_589.out _; (with_reducible repeat (first | refine blk_drewN ?_ _ | refine blk_drew ?_ | refine blk_alloc ?_ _)); refine blk_far ?_ NB590_589.out _; (with_reducible repeat (first | refine blk_drewN ?_ _ | refine blk_drew ?_ | refine blk_alloc ?_ _)); refine blk_far ?_ NB590_589.out _; (with_reducible repeat (first | refine blk_drewN ?_ _ | refine blk_drew ?_ | refine blk_alloc ?_ _)); refine blk_far ?_ NB590_588.out _; (with_reducible repeat (first | refine blk_drewN ?_ _ | refine blk_drew ?_ | refine blk_alloc ?_ _)); refine blk_far ?_ NB590_588.out _; (with_reducible repeat (first | refine blk_drewN ?_ _ | refine blk_drew ?_ | refine blk_alloc ?_ _)); refine blk_far ?_ NB590_588.out _; (with_reducible repeat (first | refine blk_drewN ?_ _ | refine blk_drew ?_ | refine blk_alloc ?_ _)); refine blk_far ?_ NB590_588.out _; (with_reducible repeat (first | refine blk_drewN ?_ _ | refine blk_drew ?_ | refine blk_alloc ?_ _)); exact BK590.out) Try.underlying26 rfl (by kernel_rfl)) rfl ?_
      exact ⟨by first | rfl | (simp [errW_none, errW_some] <;> rfl) | (simp [*, errW_none, errW_some] <;> rfl), by repeat (first | (with_reducible first | exact HB.out | apply below_alloc | apply pw_below_drewN | apply below_drew1 | refine below_set ?_ GE588.out | refine below_set ?_ GE589.out | refine below_set ?_ GE590.out) | exact HB.out)⟩
    · rw [if_neg c26] at H
      have c26b0 : (t597 == 0) = false := beq_eq_false_iff_ne.mpr c26
      have c26b1 : (t597 != 0) = true := bne_iff_ne.mpr c26
      obtain ⟨ji47, hji47⟩ : ∃ j_ : Int, (mn t591 t595) = j_ := ⟨_, rfl⟩
      replace H : ((rect_between.f (ji47) (mn t592 t596) (mx (wrap64 (t591 + t593)) (wrap64 (t595 + t597))) (mx (wrap64 (t592 + t594)) (wrap64 (t596 + t598)))).bind fun bt599 => (some (bt599.1, bt599.2.1, bt599.2.2.1, bt599.2.2.2))) = some (r1, r2, r3, r4) := by first | (rw [hji47] at H; exact H) | (simp only [hji47] at H ⊢; exact H)
      (try rw [hji47] at A3)
      (try rw [hji47] at A4)
      have hji47_ : (if t595 < t591 then t595 else t591) = ji47 := hji47
      obtain ⟨ji48, hji48⟩ : ∃ j_ : Int, (mn t592 t596) = j_ := ⟨_, rfl⟩
      replace H : ((rect_between.f (ji47) (ji48) (mx (wrap64 (t591 + t593)) (wrap64 (t595 + t597))) (mx (wrap64 (t592 + t594)) (wrap64 (t596 + t598)))).bind fun bt599 => (some (bt599.1, bt599.2.1, bt599.2.2.1, bt599.2.2.2))) = some (r1, r2, r3, r4) := by first | (rw [hji48] at H; exact H) | (simp only [hji48] at H ⊢; exact H)
      (try rw [hji48] at A3)
      (try rw [hji48] at A4)
      have hji48_ : (if t596 < t592 then t596 else t592) = ji48 := hji48
      obtain ⟨ji49, hji49⟩ : ∃ j_ : Int, (mx (wrap64 (t591 + t593)) (wrap64 (t595 + t597))) = j_ := ⟨_, rfl⟩
      replace H : ((rect_between.f (ji47) (ji48) (ji49) (mx (wrap64 (t592 + t594)) (wrap64 (t596 + t598)))).bind fun bt599 => (some (bt599.1, bt599.2.1, bt599.2.2.1, bt599.2.2.2))) = some (r1, r2, r3, r4) := by first | (rw [hji49] at H; exact H) | (simp only [hji49] at H ⊢; exact H)
      (try rw [hji49] at A3)
      (try rw [hji49] at A4)
      have hji49_ : (if (wrap64 (t591 + t593)) < (wrap64 (t595 + t597)) then (wrap64 (t595 + t597)) else (wrap64 (t591 + t593))) = ji49 := hji49
      obtain ⟨ji50, hji50⟩ : ∃ j_ : Int, (mx (wrap64 (t592 + t594)) (wrap64 (t596 + t598))) = j_ := ⟨_, rfl⟩
      replace H : ((rect_between.f (ji47) (ji48) (ji49) (ji50)).bind fun bt599 => (some (bt599.1, bt599.2.1, bt599.2.2.1, bt599.2.2.2))) = some (r1, r2, r3, r4) := by first | (rw [hji50] at H; exact H) | (simp only [hji50] at H ⊢; exact H)
      (try rw [hji50] at A3)
      (try rw [hji50] at A4)
      have hji50_ : (if (wrap64 (t592 + t594)) < (wrap64 (t596 + t598)) then (wrap64 (t596 + t598)) else (wrap64 (t592 + t594))) = ji50 := hji50
      replace H := Option.bind_eq_some_iff.mp H
      obtain ⟨⟨t599, t600, t601, t602⟩, A510, H⟩ := H
      replace H : (some (t599, t600, t601, t602)) = some (r1, r2, r3, r4) := H
      have A51 := Aside0.mk A510
      clear A510
      simp only [Option.some.injEq, Prod.mk.injEq] at H
      obtain ⟨rfl, rfl, rfl, rfl⟩ := H
      go_enter Try.func35, Try.ntmps35
      try go_wp2_with (first | ((with_reducible refine gate_dst (N := 2) rfl ?_); refine box_event ?hg (N := 2) ?hd (cs := #[.int .i64 a0_0, .int .i64 a0_1, .int .i64 a0_2, .int .i64 a0_3]) (t := 26) ?hr ?_; (case hd => rfl); (case hg => rfl); (case hr => first | (go_simp; done) | (go_simp; rfl)); intro gb588 hg w52 hbox hb; have n0_ := Aside0.mk (below_step (by repeat (first | (with_reducible first | exact HB.out | apply below_alloc | apply pw_below_drewN | apply below_drew1) | exact HB.out)) hb); have n1_ := Aside0.mk (hbox); have n2_ := Aside0.mk ((by rw [hg]; exact (below_size (by repeat (first | (with_reducible first | exact HB.out | apply below_alloc | apply pw_below_drewN | apply below_drew1) | exact HB.out))) : w.heap.size ≤ gb588)); have n3_ := Aside0.mk ((by rw [hg]; exact (below_size (by repeat (first | (with_reducible first | exact HB.out | apply below_alloc | apply pw_below_drewN | apply below_drew1) | exact HB.out))) : w.heap.size ≤ gb588)); clear HB; have HB := n0_; have BK588 := n1_; have GW588 := n2_; have GE588 := n3_; clear n0_ n1_ n2_ n3_; clear hb hbox hg) | ((with_reducible refine gate_dst (N := 3) rfl ?_); refine box_event ?hg (N := 3) ?hd (cs := #[.int .i64 a1_0, .int .i64 a1_1, .int .i64 a1_2, .int .i64 a1_3]) (t := 26) ?hr ?_; (case hd => rfl); (case hg => rfl); (case hr => first | (go_simp; done) | (go_simp; rfl)); intro gb589 hg w53 hbox hb; have n0_ := Aside0.mk (blk_below (g := gb588) (o := .cells #[.int .i64 a0_0, .int .i64 a0_1, .int .i64 a0_2, .int .i64 a0_3] 26 (0, 0)) (by (with_reducible repeat (first | refine blk_drewN ?_ _ | refine blk_drew ?_ | refine blk_alloc ?_ _)); exact BK588.out) hb); have n1_ := Aside0.mk (below_step (by repeat (first | (with_reducible first | exact HB.out | apply below_alloc | apply pw_below_drewN | apply below_drew1 | refine below_set ?_ GE588.out) | exact HB.out)) hb); have n2_ := Aside0.mk (hbox); have n3_ := Aside0.mk ((by rw [hg]; exact (below_size (by repeat (first | (with_reducible first | exact HB.out | apply below_alloc | apply pw_below_drewN | apply below_drew1 | refine below_set ?_ GE588.out) | exact HB.out))) : w.heap.size ≤ gb589)); have n4_ := Aside0.mk ((by rw [hg]; exact (below_size (by repeat (first | (with_reducible first | exact HB.out | apply below_alloc | apply pw_below_drewN | apply below_drew1 | refine below_set ?_ GE588.out) | exact HB.out))) : w.heap.size ≤ gb589)); have n5_ := Aside0.mk ((by rw [hg]; exact Nat.ne_of_lt (blk_lt (g := gb588) (o := .cells #[.int .i64 a0_0, .int .i64 a0_1, .int .i64 a0_2, .int .i64 a0_3] 26 (0, 0)) (by (with_reducible repeat (first | refine blk_drewN ?_ _ | refine blk_drew ?_ | refine blk_alloc ?_ _)); exact BK588.out)) : gb588 ≠ gb589)); have n6_ := Aside0.mk ((by rw [hg]; exact Nat.ne_of_gt (blk_lt (g := gb588) (o := .cells #[.int .i64 a0_0, .int .i64 a0_1, .int .i64 a0_2, .int .i64 a0_3] 26 (0, 0)) (by (with_reducible repeat (first | refine blk_drewN ?_ _ | refine blk_drew ?_ | refine blk_alloc ?_ _)); exact BK588.out)) : gb589 ≠ gb588)); clear BK588; clear HB; have BK588 := n0_; have HB := n1_; have BK589 := n2_; have GW589 := n3_; have GE589 := n4_; have NB588_589 := n5_; have NB589_588 := n6_; clear n0_ n1_ n2_ n3_ n4_ n5_ n6_; clear hb hbox hg) | ((with_reducible refine gate_dst (N := 4) rfl ?_); refine box_event ?hg (N := 4) ?hd (cs := #[.int .i64 0, .int .i64 0, .int .i64 0, .int .i64 0]) (t := 26) ?hr ?_; (case hd => rfl); (case hg => rfl); (case hr => first | (go_simp; done) | (go_simp; rfl)); intro gb590 hg w54 hbox hb; have n0_ := Aside0.mk (blk_below (g := gb588) (o := .cells #[.int .i64 a0_0, .int .i64 a0_1, .int .i64 a0_2, .int .i64 a0_3] 26 (0, 0)) (by (with_reducible repeat (first | refine blk_drewN ?_ _ | refine blk_drew ?_ | refine blk_alloc ?_ _)); exact BK588.out) hb); have n1_ := Aside0.mk (blk_below (g := gb589) (o := .cells #[.int .i64 a1_0, .int .i64 a1_1, .int .i64 a1_2, .int .i64 a1_3] 26 (0, 0)) (by (with_reducible repeat (first | refine blk_drewN ?_ _ | refine blk_drew ?_ | refine blk_alloc ?_ _)); exact BK589.out) hb); have n2_ := Aside0.mk (below_step (by repeat (first | (with_reducible first | exact HB.out | apply below_alloc | apply pw_below_drewN | apply below_drew1 | refine below_set ?_ GE588.out | refine below_set ?_ GE589.out) | exact HB.out)) hb); have n3_ := Aside0.mk (hbox); have n4_ := Aside0.mk ((by rw [hg]; exact (below_size (by repeat (first | (with_reducible first | exact HB.out | apply below_alloc | apply pw_below_drewN | apply below_drew1 | refine below_set ?_ GE588.out | refine below_set ?_ GE589.out) | exact HB.out))) : w.heap.size ≤ gb590)); have n5_ := Aside0.mk ((by rw [hg]; exact (below_size (by repeat (first | (with_reducible first | exact HB.out | apply below_alloc | apply pw_below_drewN | apply below_drew1 | refine below_set ?_ GE588.out | refine below_set ?_ GE589.out) | exact HB.out))) : w.heap.size ≤ gb590)); have n6_ := Aside0.mk ((by rw [hg]; exact Nat.ne_of_lt (blk_lt (g := gb588) (o := .cells #[.int .i64 a0_0, .int .i64 a0_1, .int .i64 a0_2, .int .i64 a0_3] 26 (0, 0)) (by (with_reducible repeat (first | refine blk_drewN ?_ _ | refine blk_drew ?_ | refine blk_alloc ?_ _)); exact BK588.out)) : gb588 ≠ gb590)); have n7_ := Aside0.mk ((by rw [hg]; exact Nat.ne_of_gt (blk_lt (g := gb588) (o := .cells #[.int .i64 a0_0, .int .i64 a0_1, .int .i64 a0_2, .int .i64 a0_3] 26 (0, 0)) (by (with_reducible repeat (first | refine blk_drewN ?_ _ | refine blk_drew ?_ | refine blk_alloc ?_ _)); exact BK588.out)) : gb590 ≠ gb588)); have n8_ := Aside0.mk ((by rw [hg]; exact Nat.ne_of_lt (blk_lt (g := gb589) (o := .cells #[.int .i64 a1_0, .int .i64 a1_1, .int .i64 a1_2, .int .i64 a1_3] 26 (0, 0)) (by (with_reducible repeat (first | refine blk_drewN ?_ _ | refine blk_drew ?_ | refine blk_alloc ?_ _)); exact BK589.out)) : gb589 ≠ gb590)); have n9_ := Aside0.mk ((by rw [hg]; exact Nat.ne_of_gt (blk_lt (g := gb589) (o := .cells #[.int .i64 a1_0, .int .i64 a1_1, .int .i64 a1_2, .int .i64 a1_3] 26 (0, 0)) (by (with_reducible repeat (first | refine blk_drewN ?_ _ | refine blk_drew ?_ | refine blk_alloc ?_ _)); exact BK589.out)) : gb590 ≠ gb589)); clear BK588; clear BK589; clear HB; have BK588 := n0_; have BK589 := n1_; have HB := n2_; have BK590 := n3_; have GW590 := n4_; have GE590 := n5_; have NB588_590 := n6_; have NB590_588 := n7_; have NB589_590 := n8_; have NB590_589 := n9_; clear n0_ n1_ n2_ n3_ n4_ n5_ n6_ n7_ n8_ n9_; clear hb hbox hg))
      have n0_ := Aside0.mk (blk_drew BK588.out)
      have n1_ := Aside0.mk (blk_drew BK589.out)
      have n2_ := Aside0.mk (blk_drew BK590.out)
      have n3_ := Aside0.mk (below_drew1 HB.out)
      clear BK588
      clear BK589
      clear BK590
      clear HB
      have BK588 := n0_
      have BK589 := n1_
      have BK590 := n2_
      have HB := n3_
      clear n0_ n1_ n2_ n3_
      refine start_ (n := 6) (S := fun w' => w'.cell? ⟨gb588, 0, none⟩ = some (.int .i64 a0_0) ∧ w'.cell? ⟨gb588, 1, none⟩ = some (.int .i64 a0_1) ∧ w'.cell? ⟨gb588, 2, none⟩ = some (.int .i64 a0_2) ∧ w'.cell? ⟨gb588, 3, none⟩ = some (.int .i64 a0_3) ∧ w'.cell? ⟨gb589, 0, none⟩ = some (.int .i64 a1_0) ∧ w'.cell? ⟨gb589, 1, none⟩ = some (.int .i64 a1_1) ∧ w'.cell? ⟨gb589, 2, none⟩ = some (.int .i64 a1_2) ∧ w'.cell? ⟨gb589, 3, none⟩ = some (.int .i64 a1_3)) (ds := [4, 5]) #[false, false, false, false, false, false] (by kernel_rfl) rfl rfl ⟨(blk_cell BK588.out 0).trans rfl, (blk_cell BK588.out 1).trans rfl, (blk_cell BK588.out 2).trans rfl, (blk_cell BK588.out 3).trans rfl, (blk_cell BK589.out 0).trans rfl, (blk_cell BK589.out 1).trans rfl, (blk_cell BK589.out 2).trans rfl, (blk_cell BK589.out 3).trans rfl⟩ (fun hHeld => ?_)
      generalize w54.drew = w55 at BK588 BK589 BK590 HB hHeld ⊢
      refine take_ (i := 0) (N := some 5) (v := ?_) (a' := ?_) #[true, false, false, false, false, false] rfl rfl (by kernel_rfl) (fun _ _ _ h => h) (Or.inl ⟨by rfl, ?_⟩) hHeld ?_ ?_
      rotate_left
      · rintro w' ⟨s0, s1, s2, s3, s4, s5, s6, s7⟩
        go_simp
        with_reducible rfl
      rotate_left
      · simp only [Act.put, List.setIfInBounds_toArray, List.set_cons_zero, List.set_cons_succ, i64_w, i32_w]
        rfl
      refine take_ (i := 2) (N := some 7) (v := ?_) (a' := ?_) #[true, false, true, false, false, false] rfl rfl (by kernel_rfl) (fun _ _ _ h => h) (Or.inl ⟨by rfl, ?_⟩) hHeld ?_ ?_
      rotate_left
      · rintro w' ⟨s0, s1, s2, s3, s4, s5, s6, s7⟩
        go_simp
        with_reducible rfl
      rotate_left
      · simp only [Act.put, List.setIfInBounds_toArray, List.set_cons_zero, List.set_cons_succ, i64_w, i32_w]
        rfl
      refine one_ (i := 1) (N := some 6) #[true, true, true, false, false, false] rfl rfl (by kernel_rfl) (by decide) (fun K hK => ?_)
      refine goes_ Try.func20 (by kernel_rfl) rfl #[.agg #[.int .i64 a0_0, .int .i64 a0_1, .int .i64 a0_2, .int .i64 a0_3]] (by rfl) rfl rfl (by (try simp only [List.map_toArray, List.map_cons, List.map_nil]); first | done | rfl | (simp only [List.length_drop, List.length_take]; rfl)) ?_
      with_reducible refine (rect_Clean.calls a0_0 a0_1 a0_2 a0_3 t591 t592 t593 t594 _ A3.out).mono ?_
      rintro e w56 ⟨rfl, hb⟩
      refine ⟨_, rfl, ?_⟩
      have n0_ := Aside0.mk (blk_below (g := gb588) (o := .cells #[.int .i64 a0_0, .int .i64 a0_1, .int .i64 a0_2, .int .i64 a0_3] 26 (0, 0)) (by (with_reducible repeat (first | refine blk_drewN ?_ _ | refine blk_drew ?_ | refine blk_alloc ?_ _)); exact BK588.out) hb)
      have n1_ := Aside0.mk (blk_below (g := gb589) (o := .cells #[.int .i64 a1_0, .int .i64 a1_1, .int .i64 a1_2, .int .i64 a1_3] 26 (0, 0)) (by (with_reducible repeat (first | refine blk_drewN ?_ _ | refine blk_drew ?_ | refine blk_alloc ?_ _)); exact BK589.out) hb)
      have n2_ := Aside0.mk (blk_below (g := gb590) (o := .cells #[.int .i64 0, .int .i64 0, .int .i64 0, .int .i64 0] 26 (0, 0)) (by (with_reducible repeat (first | refine blk_drewN ?_ _ | refine blk_drew ?_ | refine blk_alloc ?_ _)); exact BK590.out) hb)
      have n3_ := Aside0.mk (below_step (by repeat (first | (with_reducible first | exact HB.out | apply below_alloc | apply pw_below_drewN | apply below_drew1 | refine below_set ?_ GE588.out | refine below_set ?_ GE589.out | refine below_set ?_ GE590.out) | exact HB.out)) hb)
      clear BK588
      clear BK589
      clear BK590
      clear HB
      have BK588 := n0_
      have BK589 := n1_
      have BK590 := n2_
      have HB := n3_
      clear n0_ n1_ n2_ n3_
      (try clear hb)
      (try clear hb2)
      (try clear hk)
      (try clear hi)
      refine hK.out _ _ ⟨(blk_cell BK588.out 0).trans rfl, (blk_cell BK588.out 1).trans rfl, (blk_cell BK588.out 2).trans rfl, (blk_cell BK588.out 3).trans rfl, (blk_cell BK589.out 0).trans rfl, (blk_cell BK589.out 1).trans rfl, (blk_cell BK589.out 2).trans rfl, (blk_cell BK589.out 3).trans rfl⟩ (fun hHeld => ?_)
      clear hK K
      refine norm_ (a' := ?_) ?_ ?_
      rotate_left
      · show Act.put _ (some 6) _ = _
        simp only [Act.put, List.setIfInBounds_toArray, List.set_cons_zero, List.set_cons_succ, i64_w, i32_w]
        rfl
      refine one_ (i := 3) (N := some 8) #[true, true, true, true, false, false] rfl rfl (by kernel_rfl) (by decide) (fun K hK => ?_)
      refine goes_ Try.func20 (by kernel_rfl) rfl #[.agg #[.int .i64 a1_0, .int .i64 a1_1, .int .i64 a1_2, .int .i64 a1_3]] (by rfl) rfl rfl (by (try simp only [List.map_toArray, List.map_cons, List.map_nil]); first | done | rfl | (simp only [List.length_drop, List.length_take]; rfl)) ?_
      with_reducible refine (rect_Clean.calls a1_0 a1_1 a1_2 a1_3 t595 t596 t597 t598 _ A4.out).mono ?_
      rintro e w57 ⟨rfl, hb⟩
      refine ⟨_, rfl, ?_⟩
      have n0_ := Aside0.mk (blk_below (g := gb588) (o := .cells #[.int .i64 a0_0, .int .i64 a0_1, .int .i64 a0_2, .int .i64 a0_3] 26 (0, 0)) (by (with_reducible repeat (first | refine blk_drewN ?_ _ | refine blk_drew ?_ | refine blk_alloc ?_ _)); exact BK588.out) hb)
      have n1_ := Aside0.mk (blk_below (g := gb589) (o := .cells #[.int .i64 a1_0, .int .i64 a1_1, .int .i64 a1_2, .int .i64 a1_3] 26 (0, 0)) (by (with_reducible repeat (first | refine blk_drewN ?_ _ | refine blk_drew ?_ | refine blk_alloc ?_ _)); exact BK589.out) hb)
      have n2_ := Aside0.mk (blk_below (g := gb590) (o := .cells #[.int .i64 0, .int .i64 0, .int .i64 0, .int .i64 0] 26 (0, 0)) (by (with_reducible repeat (first | refine blk_drewN ?_ _ | refine blk_drew ?_ | refine blk_alloc ?_ _)); exact BK590.out) hb)
      have n3_ := Aside0.mk (below_step (by repeat (first | (with_reducible first | exact HB.out | apply below_alloc | apply pw_below_drewN | apply below_drew1 | refine below_set ?_ GE588.out | refine below_set ?_ GE589.out | refine below_set ?_ GE590.out) | exact HB.out)) hb)
      clear BK588
      clear BK589
      clear BK590
      clear HB
      have BK588 := n0_
      have BK589 := n1_
      have BK590 := n2_
      have HB := n3_
      clear n0_ n1_ n2_ n3_
      (try clear hb)
      (try clear hb2)
      (try clear hk)
      (try clear hi)
      refine hK.out _ _ ⟨(blk_cell BK588.out 0).trans rfl, (blk_cell BK588.out 1).trans rfl, (blk_cell BK588.out 2).trans rfl, (blk_cell BK588.out 3).trans rfl, (blk_cell BK589.out 0).trans rfl, (blk_cell BK589.out 1).trans rfl, (blk_cell BK589.out 2).trans rfl, (blk_cell BK589.out 3).trans rfl⟩ (fun hHeld => ?_)
      clear hK K
      refine norm_ (a' := ?_) ?_ ?_
      rotate_left
      · show Act.put _ (some 8) _ = _
        simp only [Act.put, List.setIfInBounds_toArray, List.set_cons_zero, List.set_cons_succ, i64_w, i32_w]
        rfl
      refine last_ (i := 4) (N := none) #[true, true, true, true, true, false] rfl rfl (by kernel_rfl) (by decide) (fun K hK => ?_)
      have hs58 : w57.cell? ⟨gb588, 0, none⟩ = some (.int .i64 a0_0) := (blk_cell BK588.out 0).trans rfl
      have hfs58 := blk_frozen BK588.out 0
      have hns58_1 := NB589_588.out
      have hns58_2 := NB590_588.out
      have hms58_1 := NB588_589.out
      have hms58_2 := NB588_590.out
      have hs59 : w57.cell? ⟨gb588, 1, none⟩ = some (.int .i64 a0_1) := (blk_cell BK588.out 1).trans rfl
      have hfs59 := blk_frozen BK588.out 1
      have hns59_1 := NB589_588.out
      have hns59_2 := NB590_588.out
      have hms59_1 := NB588_589.out
      have hms59_2 := NB588_590.out
      have hs60 : w57.cell? ⟨gb588, 2, none⟩ = some (.int .i64 a0_2) := (blk_cell BK588.out 2).trans rfl
      have hfs60 := blk_frozen BK588.out 2
      have hns60_1 := NB589_588.out
      have hns60_2 := NB590_588.out
      have hms60_1 := NB588_589.out
      have hms60_2 := NB588_590.out
      have hs61 : w57.cell? ⟨gb588, 3, none⟩ = some (.int .i64 a0_3) := (blk_cell BK588.out 3).trans rfl
      have hfs61 := blk_frozen BK588.out 3
      have hns61_1 := NB589_588.out
      have hns61_2 := NB590_588.out
      have hms61_1 := NB588_589.out
      have hms61_2 := NB588_590.out
      refine skip_ (w1 := ?_) (by rfl) rfl ?_ ?_
      rotate_left
      · go_simp
        rfl
      refine hK.out _ _ ?_
      clear hK K
      refine last_ (i := 5) (N := none) #[true, true, true, true, true, true] rfl rfl (by kernel_rfl) (by decide) (fun K hK => ?_)
      have hs62 : w57.cell? ⟨gb589, 0, none⟩ = some (.int .i64 a1_0) := (blk_cell BK589.out 0).trans rfl
      have hfs62 := blk_frozen BK589.out 0
      have hns62_0 := NB588_589.out
      have hns62_2 := NB590_589.out
      have hms62_0 := NB589_588.out
      have hms62_2 := NB589_590.out
      have hs63 : w57.cell? ⟨gb589, 1, none⟩ = some (.int .i64 a1_1) := (blk_cell BK589.out 1).trans rfl
      have hfs63 := blk_frozen BK589.out 1
      have hns63_0 := NB588_589.out
      have hns63_2 := NB590_589.out
      have hms63_0 := NB589_588.out
      have hms63_2 := NB589_590.out
      have hs64 : w57.cell? ⟨gb589, 2, none⟩ = some (.int .i64 a1_2) := (blk_cell BK589.out 2).trans rfl
      have hfs64 := blk_frozen BK589.out 2
      have hns64_0 := NB588_589.out
      have hns64_2 := NB590_589.out
      have hms64_0 := NB589_588.out
      have hms64_2 := NB589_590.out
      have hs65 : w57.cell? ⟨gb589, 3, none⟩ = some (.int .i64 a1_3) := (blk_cell BK589.out 3).trans rfl
      have hfs65 := blk_frozen BK589.out 3
      have hns65_0 := NB588_589.out
      have hns65_2 := NB590_589.out
      have hms65_0 := NB589_588.out
      have hms65_2 := NB589_590.out
      refine skip_ (w1 := ?_) (by rfl) rfl ?_ ?_
      rotate_left
      · go_simp
        rfl
      refine hK.out _ _ ?_
      clear hK K
      refine done_ (by kernel_rfl) ?_
      have hnb66 := NB588_589.out
      have hnc66 := NB589_588.out
      have hnb67 := NB588_590.out
      have hnc67 := NB590_588.out
      have hcz68_0 : w57.cell? ⟨gb588, 0, none⟩ = some (.int .i64 a0_0) := (blk_cell BK588.out 0).trans rfl
      have hcz68_1 : w57.cell? ⟨gb588, 1, none⟩ = some (.int .i64 a0_1) := (blk_cell BK588.out 1).trans rfl
      have hcz68_2 : w57.cell? ⟨gb588, 2, none⟩ = some (.int .i64 a0_2) := (blk_cell BK588.out 2).trans rfl
      have hcz68_3 : w57.cell? ⟨gb588, 3, none⟩ = some (.int .i64 a0_3) := (blk_cell BK588.out 3).trans rfl
      have hfz68_0 := blk_frozen BK588.out 0
      have hfz68_1 := blk_frozen BK588.out 1
      have hfz68_2 := blk_frozen BK588.out 2
      have hfz68_3 := blk_frozen BK588.out 3
      have hnb69 := NB589_590.out
      have hnc69 := NB590_589.out
      have hcz70_0 : w57.cell? ⟨gb589, 0, none⟩ = some (.int .i64 a1_0) := (blk_cell BK589.out 0).trans rfl
      have hcz70_1 : w57.cell? ⟨gb589, 1, none⟩ = some (.int .i64 a1_1) := (blk_cell BK589.out 1).trans rfl
      have hcz70_2 : w57.cell? ⟨gb589, 2, none⟩ = some (.int .i64 a1_2) := (blk_cell BK589.out 2).trans rfl
      have hcz70_3 : w57.cell? ⟨gb589, 3, none⟩ = some (.int .i64 a1_3) := (blk_cell BK589.out 3).trans rfl
      have hfz70_0 := blk_frozen BK589.out 0
      have hfz70_1 := blk_frozen BK589.out 1
      have hfz70_2 := blk_frozen BK589.out 2
      have hfz70_3 := blk_frozen BK589.out 3
      try go_wp2_with (first | ((with_reducible refine gate_callee (f := 39) rfl ?_); refine goesL_ (some 51) rfl rfl Try.func39 (by kernel_rfl) rfl #[.int .i64 ji47, .int .i64 ji48, .int .i64 ji49, .int .i64 ji50] rfl (by (try simp only [List.map_toArray, List.map_cons, List.map_nil]); first | done | (simp only [hji47, hji48, hji49, hji50]; rfl) | rfl | (simp only [List.length_drop, List.length_take]; rfl)) ?_; (with_reducible refine (rect_between.calls ji47 ji48 ji49 ji50 t599 t600 t601 t602 _ A51.out).mono ?_); rintro e w71 ⟨rfl, hb⟩; refine ⟨_, rfl, ?_⟩; have n0_ := Aside0.mk (blk_below (g := gb588) (o := .cells #[.int .i64 t591, .int .i64 t592, .int .i64 t593, .int .i64 t594] 26 (0, 0)) (by (with_reducible repeat (first | refine blk_drewN ?_ _ | refine blk_drew ?_ | refine blk_alloc ?_ _)); refine blk_far ?_ NB588_589.out _; (with_reducible repeat (first | refine blk_drewN ?_ _ | refine blk_drew ?_ | refine blk_alloc ?_ _)); refine blk_far ?_ NB588_589.out _; (with_reducible repeat (first | refine blk_drewN ?_ _ | refine blk_drew ?_ | refine blk_alloc ?_ _)); refine blk_far ?_ NB588_589.out _; (with_reducible repeat (first | refine blk_drewN ?_ _ | refine blk_drew ?_ | refine blk_alloc ?_ _)); refine blk_far ?_ NB588_589.out _; (with_reducible repeat (first | refine blk_drewN ?_ _ | refine blk_drew ?_ | refine blk_alloc ?_ _)); refine blk_put (cs := #[.int .i64 t591, .int .i64 t592, .int .i64 t593, .int .i64 a0_3]) ?_ 3 _ rfl; (with_reducible repeat (first | refine blk_drewN ?_ _ | refine blk_drew ?_ | refine blk_alloc ?_ _)); refine blk_put (cs := #[.int .i64 t591, .int .i64 t592, .int .i64 a0_2, .int .i64 a0_3]) ?_ 2 _ rfl; (with_reducible repeat (first | refine blk_drewN ?_ _ | refine blk_drew ?_ | refine blk_alloc ?_ _)); refine blk_put (cs := #[.int .i64 t591, .int .i64 a0_1, .int .i64 a0_2, .int .i64 a0_3]) ?_ 1 _ rfl; (with_reducible repeat (first | refine blk_drewN ?_ _ | refine blk_drew ?_ | refine blk_alloc ?_ _)); refine blk_put (cs := #[.int .i64 a0_0, .int .i64 a0_1, .int .i64 a0_2, .int .i64 a0_3]) ?_ 0 _ rfl; (with_reducible repeat (first | refine blk_drewN ?_ _ | refine blk_drew ?_ | refine blk_alloc ?_ _)); exact BK588.out) hb); have n1_ := Aside0.mk (blk_below (g := gb589) (o := .cells #[.int .i64 t595, .int .i64 t596, .int .i64 t597, .int .i64 t598] 26 (0, 0)) (by (with_reducible repeat (first | refine blk_drewN ?_ _ | refine blk_drew ?_ | refine blk_alloc ?_ _)); refine blk_put (cs := #[.int .i64 t595, .int .i64 t596, .int .i64 t597, .int .i64 a1_3]) ?_ 3 _ rfl; (with_reducible repeat (first | refine blk_drewN ?_ _ | refine blk_drew ?_ | refine blk_alloc ?_ _)); refine blk_put (cs := #[.int .i64 t595, .int .i64 t596, .int .i64 a1_2, .int .i64 a1_3]) ?_ 2 _ rfl; (with_reducible repeat (first | refine blk_drewN ?_ _ | refine blk_drew ?_ | refine blk_alloc ?_ _)); refine blk_put (cs := #[.int .i64 t595, .int .i64 a1_1, .int .i64 a1_2, .int .i64 a1_3]) ?_ 1 _ rfl; (with_reducible repeat (first | refine blk_drewN ?_ _ | refine blk_drew ?_ | refine blk_alloc ?_ _)); refine blk_put (cs := #[.int .i64 a1_0, .int .i64 a1_1, .int .i64 a1_2, .int .i64 a1_3]) ?_ 0 _ rfl; (with_reducible repeat (first | refine blk_drewN ?_ _ | refine blk_drew ?_ | refine blk_alloc ?_ _)); refine blk_far ?_ NB589_588.out _; (with_reducible repeat (first | refine blk_drewN ?_ _ | refine blk_drew ?_ | refine blk_alloc ?_ _)); refine blk_far ?_ NB589_588.out _; (with_reducible repeat (first | refine blk_drewN ?_ _ | refine blk_drew ?_ | refine blk_alloc ?_ _)); refine blk_far ?_ NB589_588.out _; (with_reducible repeat (first | refine blk_drewN ?_ _ | refine blk_drew ?_ | refine blk_alloc ?_ _)); refine blk_far ?_ NB589_588.out _; (with_reducible repeat (first | refine blk_drewN ?_ _ | refine blk_drew ?_ | refine blk_alloc ?_ _)); exact BK589.out) hb); have n2_ := Aside0.mk (blk_below (g := gb590) (o := .cells #[.int .i64 0, .int .i64 0, .int .i64 0, .int .i64 0] 26 (0, 0)) (by (with_reducible repeat (first | refine blk_drewN ?_ _ | refine blk_drew ?_ | refine blk_alloc ?_ _)); refine blk_far ?_ NB590_589.out _; (with_reducible repeat (first | refine blk_drewN ?_ _ | refine blk_drew ?_ | refine blk_alloc ?_ _)); refine blk_far ?_ NB590_589.out _; (with_reducible repeat (first | refine blk_drewN ?_ _ | refine blk_drew ?_ | refine blk_alloc ?_ _)); refine blk_far ?_ NB590_589.out _; (with_reducible repeat (first | refine blk_drewN ?_ _ | refine blk_drew ?_ | refine blk_alloc ?_ _)); refine blk_far ?_ NB590_589.out _; (with_reducible repeat (first | refine blk_drewN ?_ _ | refine blk_drew ?_ | refine blk_alloc ?_ _)); refine blk_far ?_ NB590_588.out _; (with_reducible repeat (first | refine blk_drewN ?_ _ | refine blk_drew ?_ | refine blk_alloc ?_ _)); refine blk_far ?_ NB590_588.out _; (with_reducible repeat (first | refine blk_drewN ?_ _ | refine blk_drew ?_ | refine blk_alloc ?_ _)); refine blk_far ?_ NB590_588.out _; (with_reducible repeat (first | refine blk_drewN ?_ _ | refine blk_drew ?_ | refine blk_alloc ?_ _)); refine blk_far ?_ NB590_588.out _; (with_reducible repeat (first | refine blk_drewN ?_ _ | refine blk_drew ?_ | refine blk_alloc ?_ _)); exact BK590.out) hb); have n3_ := Aside0.mk (below_step (by repeat (first | (with_reducible first | exact HB.out | apply below_alloc | apply pw_below_drewN | apply below_drew1 | refine below_set ?_ GE588.out | refine below_set ?_ GE589.out | refine below_set ?_ GE590.out) | exact HB.out)) hb); clear BK588; clear BK589; clear BK590; clear HB; have BK588 := n0_; have BK589 := n1_; have BK590 := n2_; have HB := n3_; clear n0_ n1_ n2_ n3_; (try clear hb); (try clear hb2); (try clear hk); (try clear hi); have hcz72_0 : w71.cell? ⟨gb590, 0, none⟩ = some (.int .i64 0) := (blk_cell BK590.out 0).trans rfl; have hcz72_1 : w71.cell? ⟨gb590, 1, none⟩ = some (.int .i64 0) := (blk_cell BK590.out 1).trans rfl; have hcz72_2 : w71.cell? ⟨gb590, 2, none⟩ = some (.int .i64 0) := (blk_cell BK590.out 2).trans rfl; have hcz72_3 : w71.cell? ⟨gb590, 3, none⟩ = some (.int .i64 0) := (blk_cell BK590.out 3).trans rfl; have hfz72_0 := blk_frozen BK590.out 0; have hfz72_1 := blk_frozen BK590.out 1; have hfz72_2 := blk_frozen BK590.out 2; have hfz72_3 := blk_frozen BK590.out 3))
      refine bodyPost_ret (results_cell_row rfl _ _ gb590 26 #[.int .i64 t599, .int .i64 t600, .int .i64 t601, .int .i64 t602] (0, 0) _ rfl (by (with_reducible repeat (first | refine blk_drewN ?_ _ | refine blk_drew ?_ | refine blk_alloc ?_ _)); refine blk_put (cs := #[.int .i64 t599, .int .i64 t600, .int .i64 t601, .int .i64 0]) ?_ 3 _ rfl; (with_reducible repeat (first | refine blk_drewN ?_ _ | refine blk_drew ?_ | refine blk_alloc ?_ _)); refine blk_put (cs := #[.int .i64 t599, .int .i64 t600, .int .i64 0, .int .i64 0]) ?_ 2 _ rfl; (with_reducible repeat (first | refine blk_drewN ?_ _ | refine blk_drew ?_ | refine blk_alloc ?_ _)); refine blk_put (cs := #[.int .i64 t599, .int .i64 0, .int .i64 0, .int .i64 0]) ?_ 1 _ rfl; (with_reducible repeat (first | refine blk_drewN ?_ _ | refine blk_drew ?_ | refine blk_alloc ?_ _)); refine blk_put (cs := #[.int .i64 0, .int .i64 0, .int .i64 0, .int .i64 0]) ?_ 0 _ rfl; (with_reducible repeat (first | refine blk_drewN ?_ _ | refine blk_drew ?_ | refine blk_alloc ?_ _)); exact BK590.out) Try.underlying26 rfl (by kernel_rfl)) rfl ?_
      exact ⟨by first | rfl | (simp [errW_none, errW_some] <;> rfl) | (simp only [← hji47, ← hji48, ← hji49, ← hji50]; first | rfl | (simp [errW_none, errW_some] <;> rfl)) | (simp [*, errW_none, errW_some] <;> rfl), by repeat (first | (with_reducible first | exact HB.out | apply below_alloc | apply pw_below_drewN | apply below_drew1 | refine below_set ?_ GE588.out | refine below_set ?_ GE589.out | refine below_set ?_ GE590.out) | exact HB.out)⟩

end Go.Proofs.Ytmokmkaipcojkaa.Q
