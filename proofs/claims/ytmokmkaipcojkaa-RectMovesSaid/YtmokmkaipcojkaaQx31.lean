-- written by a program of this session after the way of the kit's print; not the kit's own print. Lean checks it.
import Derived.Test.YtmokmkaipcojkaaQx0
import Derived.Test.YtmokmkaipcojkaaQx30
namespace Go.Proofs.Ytmokmkaipcojkaa.Q
open Go.RowKit Go.Proofs.YtmokmkaipcojkaaW.PrintWords Go.Proofs.YtmokmkaipcojkaaW.PrintLast Go.Proofs.YtmokmkaipcojkaaW.PrintMore
attribute [local go_sem] max2_int min2_int max_two min_two max_three min_three max_four min_four   -- for this text's walks alone
set_option linter.unusedVariables false
set_option linter.unusedSimpArgs false

/-! ### casementref02_Inset: function 30 -/
def casementref02_Inset.l0 : Nat → Int → Int → Int → Int → Int → Int → Option (Int × Int × Int × Int)
  | 0, _, _, _, _, _, _ => none
  | k + 1, x1, x5, x484000, x484001, x484002, x484003 => if x5 < x1 then (if x484002 > 0 then ((casementref02_box.f k (wrap64 (x484000 + 1)) (wrap64 (x484001 + 1)) (wrap64 ((wrap64 (x484000 + x484002)) - 1)) (wrap64 ((wrap64 (x484001 + x484003)) - 1))).bind fun bt485 => (casementref02_Inset.l0 k x1 (wrap64 (x5 + 1)) bt485.1 bt485.2.1 bt485.2.2.1 bt485.2.2.2)) else (some (x484000, x484001, x484002, x484003))) else (some (x484000, x484001, x484002, x484003))
def casementref02_Inset.f (k : Nat) (a0_0 : Int) (a0_1 : Int) (a0_2 : Int) (a0_3 : Int) (a1 : Int) : Option (Int × Int × Int × Int) := casementref02_Inset.l0 k a1 0 a0_0 a0_1 a0_2 a0_3
theorem casementref02_Inset.mono_l : ∀ k, (∀ y0 y1 y2 y3 y4 y5, LeO (casementref02_Inset.l0 k y0 y1 y2 y3 y4 y5) (casementref02_Inset.l0 (k + 1) y0 y1 y2 y3 y4 y5))
  | 0 => fun _ _ _ _ _ _ r h => by simp [casementref02_Inset.l0] at h
  | k + 1 => by
    have ih0 := casementref02_Inset.mono_l k
    · intro y0 y1 y2 y3 y4 y5
      unfold casementref02_Inset.l0
      repeat' first
      | (with_reducible exact ih0 _ _ _ _ _ _)
      | (with_reducible exact casementref02_box.mono _ _ _ _ _)
      | (with_reducible exact LeO.refl _)
      | (with_reducible exact LeO.none _)
      | (with_reducible refine LeO.ite ?_ ?_)
      | (with_reducible refine LeO.bind ?_ (fun _ => ?_))
      | exact ih0 _ _ _ _ _ _
      | exact casementref02_box.mono _ _ _ _ _
      | exact LeO.none _
      | refine LeO.ite ?_ ?_
      | refine LeO.bind ?_ (fun _ => ?_)
theorem casementref02_Inset.mono : ∀ a0 a1 a2 a3 a4 k, LeO (casementref02_Inset.f k a0 a1 a2 a3 a4) (casementref02_Inset.f (k + 1) a0 a1 a2 a3 a4) := by
  intro a0 a1 a2 a3 a4 k
  have ih0 := casementref02_Inset.mono_l k
  unfold casementref02_Inset.f
  repeat' first
      | (with_reducible exact ih0 _ _ _ _ _ _)
      | (with_reducible exact casementref02_box.mono _ _ _ _ _)
      | (with_reducible exact LeO.refl _)
      | (with_reducible exact LeO.none _)
      | (with_reducible refine LeO.ite ?_ ?_)
      | (with_reducible refine LeO.bind ?_ (fun _ => ?_))
      | exact ih0 _ _ _ _ _ _
      | exact casementref02_box.mono _ _ _ _ _
      | exact LeO.none _
      | refine LeO.ite ?_ ?_
      | refine LeO.bind ?_ (fun _ => ?_)
set_option maxHeartbeats 8000000 in
set_option maxRecDepth 100000 in
theorem casementref02_Inset.calls (k : Nat) (a0_0 : Int) (a0_1 : Int) (a0_2 : Int) (a0_3 : Int) (a1 : Int) (r1 : Int) (r2 : Int) (r3 : Int) (r4 : Int) (w : World) (h : casementref02_Inset.f k a0_0 a0_1 a0_2 a0_3 a1 = some (r1, r2, r3, r4)) :
    Calls Try.prog 30 #[.agg #[.int .i64 a0_0, .int .i64 a0_1, .int .i64 a0_2, .int .i64 a0_3], .int .i64 a1] w fun e w' => e = .returned (.agg #[.int .i64 r1, .int .i64 r2, .int .i64 r3, .int .i64 r4]) ∧ Below w.heap.size w w' := by
  have hu26 := Try.underlying26
  have HB := Aside0.mk (Below.refl w.heap.size w)
  have H : (casementref02_Inset.l0 k a1 0 a0_0 a0_1 a0_2 a0_3) = some (r1, r2, r3, r4) := h
  clear h
  have H' := Aside0.mk H
  clear H
  go_enter Try.func30, Try.ntmps30
  go_wp2_with (first | ((with_reducible refine gate_dst (N := 2) rfl ?_); refine box_event ?hg (N := 2) ?hd (cs := #[.int .i64 a0_0, .int .i64 a0_1, .int .i64 a0_2, .int .i64 a0_3]) (t := 26) ?hr ?_; (case hd => rfl); (case hg => rfl); (case hr => first | (go_simp; done) | (go_simp; rfl)); intro gb483 hg w3 hbox hb; have n0_ := Aside0.mk (below_step (by repeat (first | (with_reducible first | exact HB.out | apply below_alloc | apply pw_below_drewN | apply below_drew1) | exact HB.out)) hb); have n1_ := Aside0.mk (hbox); have n2_ := Aside0.mk ((by rw [hg]; exact (below_size (by repeat (first | (with_reducible first | exact HB.out | apply below_alloc | apply pw_below_drewN | apply below_drew1) | exact HB.out))) : w.heap.size ≤ gb483)); have n3_ := Aside0.mk ((by rw [hg]; exact (below_size (by repeat (first | (with_reducible first | exact HB.out | apply below_alloc | apply pw_below_drewN | apply below_drew1) | exact HB.out))) : w.heap.size ≤ gb483)); clear HB; have HB := n0_; have BK483 := n1_; have GW483 := n2_; have GE483 := n3_; clear n0_ n1_ n2_ n3_; clear hb hbox hg) | ((with_reducible refine gate_dst (N := 4) rfl ?_); refine box_event ?hg (N := 4) ?hd (cs := #[.int .i64 0, .int .i64 0, .int .i64 0, .int .i64 0]) (t := 26) ?hr ?_; (case hd => rfl); (case hg => rfl); (case hr => first | (go_simp; done) | (go_simp; rfl)); intro gb484 hg w4 hbox hb; have n0_ := Aside0.mk (blk_below (g := gb483) (o := .cells #[.int .i64 a0_0, .int .i64 a0_1, .int .i64 a0_2, .int .i64 a0_3] 26 (0, 0)) (by (with_reducible repeat (first | refine blk_drewN ?_ _ | refine blk_drew ?_ | refine blk_alloc ?_ _)); exact BK483.out) hb); have n1_ := Aside0.mk (below_step (by repeat (first | (with_reducible first | exact HB.out | apply below_alloc | apply pw_below_drewN | apply below_drew1 | refine below_set ?_ GE483.out) | exact HB.out)) hb); have n2_ := Aside0.mk (hbox); have n3_ := Aside0.mk ((by rw [hg]; exact (below_size (by repeat (first | (with_reducible first | exact HB.out | apply below_alloc | apply pw_below_drewN | apply below_drew1 | refine below_set ?_ GE483.out) | exact HB.out))) : w.heap.size ≤ gb484)); have n4_ := Aside0.mk ((by rw [hg]; exact (below_size (by repeat (first | (with_reducible first | exact HB.out | apply below_alloc | apply pw_below_drewN | apply below_drew1 | refine below_set ?_ GE483.out) | exact HB.out))) : w.heap.size ≤ gb484)); have n5_ := Aside0.mk ((by rw [hg]; exact Nat.ne_of_lt (blk_lt (g := gb483) (o := .cells #[.int .i64 a0_0, .int .i64 a0_1, .int .i64 a0_2, .int .i64 a0_3] 26 (0, 0)) (by (with_reducible repeat (first | refine blk_drewN ?_ _ | refine blk_drew ?_ | refine blk_alloc ?_ _)); exact BK483.out)) : gb483 ≠ gb484)); have n6_ := Aside0.mk ((by rw [hg]; exact Nat.ne_of_gt (blk_lt (g := gb483) (o := .cells #[.int .i64 a0_0, .int .i64 a0_1, .int .i64 a0_2, .int .i64 a0_3] 26 (0, 0)) (by (with_reducible repeat (first | refine blk_drewN ?_ _ | refine blk_drew ?_ | refine blk_alloc ?_ _)); exact BK483.out)) : gb484 ≠ gb483)); clear BK483; clear HB; have BK483 := n0_; have HB := n1_; have BK484 := n2_; have GW484 := n3_; have GE484 := n4_; have NB483_484 := n5_; have NB484_483 := n6_; clear n0_ n1_ n2_ n3_ n4_ n5_ n6_; clear hb hbox hg))
  go_loopg [5] k (fun kq v5 w' => ∃ (x5_1 : Int) (x484000_1 : Int) (x484001_1 : Int) (x484002_1 : Int) (x484003_1 : Int), v5 = .int .i64 x5_1 ∧ Aside0 (casementref02_Inset.l0 kq a1 x5_1 x484000_1 x484001_1 x484002_1 x484003_1 = some (r1, r2, r3, r4)) ∧ Aside0 (kq ≤ k) ∧ Aside0 (w'.heap[gb483]? = some (.cells #[.int .i64 x484000_1, .int .i64 x484001_1, .int .i64 x484002_1, .int .i64 x484003_1] 26 (0, 0))) ∧ Aside0 (w'.heap[gb484]? = some (.cells #[.int .i64 0, .int .i64 0, .int .i64 0, .int .i64 0] 26 (0, 0))) ∧ Aside0 (Below w.heap.size w w'))
  case atStart => exact ⟨(0), (a0_0), (a0_1), (a0_2), (a0_3), (by first | rfl | (simp; done) | (simp [*]; done)), H', ⟨Nat.le_refl _⟩, ⟨by (with_reducible repeat (first | refine blk_drewN ?_ _ | refine blk_drew ?_ | refine blk_alloc ?_ _)); exact BK483.out⟩, ⟨by (with_reducible repeat (first | refine blk_drewN ?_ _ | refine blk_drew ?_ | refine blk_alloc ?_ _)); exact BK484.out⟩, ⟨by repeat (first | (with_reducible first | exact HB.out | apply below_alloc | apply pw_below_drewN | apply below_drew1 | refine below_set ?_ GE483.out | refine below_set ?_ GE484.out) | exact HB.out)⟩⟩
  case round =>
    clear H'
    try clear p2
    try clear c3
    obtain ⟨x5_1, x484000_1, x484001_1, x484002_1, x484003_1, rfl, HA, HK1, BK483, BK484, HB⟩ := hrel
    cases gk with
    | zero => exact absurd HA.out (by simp [casementref02_Inset.l0])
    | succ k1 =>
      have H := HA.out
      clear HA
      simp only [casementref02_Inset.l0] at H
      by_cases c5 : x5_1 < a1
      · rw [if_pos c5] at H
        have c5b0 : decide (x5_1 < a1) = true := decide_eq_true c5
        clear c5
        by_cases c6 : x484002_1 > 0
        · rw [if_pos c6] at H
          have c6b0 : decide (0 < x484002_1) = true := decide_eq_true c6
          clear c6
          replace H := Option.bind_eq_some_iff.mp H
          obtain ⟨⟨t485, t486, t487, t488⟩, A70, H⟩ := H
          replace H : (casementref02_Inset.l0 k1 a1 (wrap64 (x5_1 + 1)) t485 t486 t487 t488) = some (r1, r2, r3, r4) := H
          have A7 := Aside0.mk A70
          clear A70
          have H' := Aside0.mk H
          clear H
          have hnb8 := NB483_484.out
          have hnc8 := NB484_483.out
          have hcz9_0 : wr.cell? ⟨gb483, 0, none⟩ = some (.int .i64 x484000_1) := (blk_cell BK483.out 0).trans rfl
          have hcz9_1 : wr.cell? ⟨gb483, 1, none⟩ = some (.int .i64 x484001_1) := (blk_cell BK483.out 1).trans rfl
          have hcz9_2 : wr.cell? ⟨gb483, 2, none⟩ = some (.int .i64 x484002_1) := (blk_cell BK483.out 2).trans rfl
          have hcz9_3 : wr.cell? ⟨gb483, 3, none⟩ = some (.int .i64 x484003_1) := (blk_cell BK483.out 3).trans rfl
          have hfz9_0 := blk_frozen BK483.out 0
          have hfz9_1 := blk_frozen BK483.out 1
          have hfz9_2 := blk_frozen BK483.out 2
          have hfz9_3 := blk_frozen BK483.out 3
          go_wp2_with (first | ((with_reducible refine gate_callee (f := 40) rfl ?_); refine goesL_ (some 34) rfl rfl Try.func40 (by kernel_rfl) rfl #[.int .i64 (wrap64 (x484000_1 + 1)), .int .i64 (wrap64 (x484001_1 + 1)), .int .i64 (wrap64 ((wrap64 (x484000_1 + x484002_1)) - 1)), .int .i64 (wrap64 ((wrap64 (x484001_1 + x484003_1)) - 1))] rfl (by (try simp only [List.map_toArray, List.map_cons, List.map_nil]); first | done | rfl | (simp only [List.length_drop, List.length_take]; rfl)) ?_; (with_reducible refine (casementref02_box.calls k1 (wrap64 (x484000_1 + 1)) (wrap64 (x484001_1 + 1)) (wrap64 ((wrap64 (x484000_1 + x484002_1)) - 1)) (wrap64 ((wrap64 (x484001_1 + x484003_1)) - 1)) t485 t486 t487 t488 _ A7.out).mono ?_); rintro e w10 ⟨rfl, hb⟩; refine ⟨_, rfl, ?_⟩; have n0_ := Aside0.mk (blk_below (g := gb483) (o := .cells #[.int .i64 x484000_1, .int .i64 x484001_1, .int .i64 x484002_1, .int .i64 x484003_1] 26 (0, 0)) (by (with_reducible repeat (first | refine blk_drewN ?_ _ | refine blk_drew ?_ | refine blk_alloc ?_ _)); exact BK483.out) hb); have n1_ := Aside0.mk (blk_below (g := gb484) (o := .cells #[.int .i64 0, .int .i64 0, .int .i64 0, .int .i64 0] 26 (0, 0)) (by (with_reducible repeat (first | refine blk_drewN ?_ _ | refine blk_drew ?_ | refine blk_alloc ?_ _)); exact BK484.out) hb); have n2_ := Aside0.mk (below_step (by repeat (first | (with_reducible first | exact HB.out | apply below_alloc | apply pw_below_drewN | apply below_drew1 | refine below_set ?_ GE483.out | refine below_set ?_ GE484.out) | exact HB.out)) hb); clear BK483; clear BK484; clear HB; have BK483 := n0_; have BK484 := n1_; have HB := n2_; clear n0_ n1_ n2_; (try clear hb); (try clear hb2); (try clear hk); (try clear hi); have hcz11_0 : w10.cell? ⟨gb483, 0, none⟩ = some (.int .i64 x484000_1) := (blk_cell BK483.out 0).trans rfl; have hcz11_1 : w10.cell? ⟨gb483, 1, none⟩ = some (.int .i64 x484001_1) := (blk_cell BK483.out 1).trans rfl; have hcz11_2 : w10.cell? ⟨gb483, 2, none⟩ = some (.int .i64 x484002_1) := (blk_cell BK483.out 2).trans rfl; have hcz11_3 : w10.cell? ⟨gb483, 3, none⟩ = some (.int .i64 x484003_1) := (blk_cell BK483.out 3).trans rfl; have hfz11_0 := blk_frozen BK483.out 0; have hfz11_1 := blk_frozen BK483.out 1; have hfz11_2 := blk_frozen BK483.out 2; have hfz11_3 := blk_frozen BK483.out 3))
          go_roundg k1
          case measure => have := HK1.out; omega
          case rel => exact ⟨(wrap64 (x5_1 + 1)), (t485), (t486), (t487), (t488), (by first | rfl | (simp; done) | (simp [*]; done)), H', ⟨by have := HK1.out; omega⟩, ⟨by (with_reducible repeat (first | refine blk_drewN ?_ _ | refine blk_drew ?_ | refine blk_alloc ?_ _)); refine blk_put (cs := #[.int .i64 t485, .int .i64 t486, .int .i64 t487, .int .i64 x484003_1]) ?_ 3 _ rfl; (with_reducible repeat (first | refine blk_drewN ?_ _ | refine blk_drew ?_ | refine blk_alloc ?_ _)); refine blk_put (cs := #[.int .i64 t485, .int .i64 t486, .int .i64 x484002_1, .int .i64 x484003_1]) ?_ 2 _ rfl; (with_reducible repeat (first | refine blk_drewN ?_ _ | refine blk_drew ?_ | refine blk_alloc ?_ _)); refine blk_put (cs := #[.int .i64 t485, .int .i64 x484001_1, .int .i64 x484002_1, .int .i64 x484003_1]) ?_ 1 _ rfl; (with_reducible repeat (first | refine blk_drewN ?_ _ | refine blk_drew ?_ | refine blk_alloc ?_ _)); refine blk_put (cs := #[.int .i64 x484000_1, .int .i64 x484001_1, .int .i64 x484002_1, .int .i64 x484003_1]) ?_ 0 _ rfl; (with_reducible repeat (first | refine blk_drewN ?_ _ | refine blk_drew ?_ | refine blk_alloc ?_ _)); exact BK483.out⟩, ⟨by (with_reducible repeat (first | refine blk_drewN ?_ _ | refine blk_drew ?_ | refine blk_alloc ?_ _)); refine blk_far ?_ NB484_483.out _; (with_reducible repeat (first | refine blk_drewN ?_ _ | refine blk_drew ?_ | refine blk_alloc ?_ _)); refine blk_far ?_ NB484_483.out _; (with_reducible repeat (first | refine blk_drewN ?_ _ | refine blk_drew ?_ | refine blk_alloc ?_ _)); refine blk_far ?_ NB484_483.out _; (with_reducible repeat (first | refine blk_drewN ?_ _ | refine blk_drew ?_ | refine blk_alloc ?_ _)); refine blk_far ?_ NB484_483.out _; (with_reducible repeat (first | refine blk_drewN ?_ _ | refine blk_drew ?_ | refine blk_alloc ?_ _)); exact BK484.out⟩, ⟨by repeat (first | (with_reducible first | exact HB.out | apply below_alloc | apply pw_below_drewN | apply below_drew1 | refine below_set ?_ GE483.out | refine below_set ?_ GE484.out) | exact HB.out)⟩⟩
        · rw [if_neg c6] at H
          have c6b0 : decide (0 < x484002_1) = false := decide_eq_false c6
          clear c6
          simp only [Option.some.injEq, Prod.mk.injEq] at H
          obtain ⟨rfl, rfl, rfl, rfl⟩ := H
          have hnb12 := NB483_484.out
          have hnc12 := NB484_483.out
          have hcz13_0 : wr.cell? ⟨gb483, 0, none⟩ = some (.int .i64 x484000_1) := (blk_cell BK483.out 0).trans rfl
          have hcz13_1 : wr.cell? ⟨gb483, 1, none⟩ = some (.int .i64 x484001_1) := (blk_cell BK483.out 1).trans rfl
          have hcz13_2 : wr.cell? ⟨gb483, 2, none⟩ = some (.int .i64 x484002_1) := (blk_cell BK483.out 2).trans rfl
          have hcz13_3 : wr.cell? ⟨gb483, 3, none⟩ = some (.int .i64 x484003_1) := (blk_cell BK483.out 3).trans rfl
          have hfz13_0 := blk_frozen BK483.out 0
          have hfz13_1 := blk_frozen BK483.out 1
          have hfz13_2 := blk_frozen BK483.out 2
          have hfz13_3 := blk_frozen BK483.out 3
          have hcz14_0 : wr.cell? ⟨gb484, 0, none⟩ = some (.int .i64 0) := (blk_cell BK484.out 0).trans rfl
          have hcz14_1 : wr.cell? ⟨gb484, 1, none⟩ = some (.int .i64 0) := (blk_cell BK484.out 1).trans rfl
          have hcz14_2 : wr.cell? ⟨gb484, 2, none⟩ = some (.int .i64 0) := (blk_cell BK484.out 2).trans rfl
          have hcz14_3 : wr.cell? ⟨gb484, 3, none⟩ = some (.int .i64 0) := (blk_cell BK484.out 3).trans rfl
          have hfz14_0 := blk_frozen BK484.out 0
          have hfz14_1 := blk_frozen BK484.out 1
          have hfz14_2 := blk_frozen BK484.out 2
          have hfz14_3 := blk_frozen BK484.out 3
          go_wp2
          refine bodyPost_ret (results_cell_row rfl _ _ gb484 26 #[.int .i64 x484000_1, .int .i64 x484001_1, .int .i64 x484002_1, .int .i64 x484003_1] (0, 0) _ rfl (by (with_reducible repeat (first | refine blk_drewN ?_ _ | refine blk_drew ?_ | refine blk_alloc ?_ _)); refine blk_put (cs := #[.int .i64 x484000_1, .int .i64 x484001_1, .int .i64 x484002_1, .int .i64 0]) ?_ 3 _ rfl; (with_reducible repeat (first | refine blk_drewN ?_ _ | refine blk_drew ?_ | refine blk_alloc ?_ _)); refine blk_put (cs := #[.int .i64 x484000_1, .int .i64 x484001_1, .int .i64 0, .int .i64 0]) ?_ 2 _ rfl; (with_reducible repeat (first | refine blk_drewN ?_ _ | refine blk_drew ?_ | refine blk_alloc ?_ _)); refine blk_put (cs := #[.int .i64 x484000_1, .int .i64 0, .int .i64 0, .int .i64 0]) ?_ 1 _ rfl; (with_reducible repeat (first | refine blk_drewN ?_ _ | refine blk_drew ?_ | refine blk_alloc ?_ _)); refine blk_put (cs := #[.int .i64 0, .int .i64 0, .int .i64 0, .int .i64 0]) ?_ 0 _ rfl; (with_reducible repeat (first | refine blk_drewN ?_ _ | refine blk_drew ?_ | refine blk_alloc ?_ _)); exact BK484.out) Try.underlying26 rfl (by kernel_rfl)) rfl ?_
          exact ⟨by first | rfl | (simp [errW_none, errW_some] <;> rfl) | (simp [*, errW_none, errW_some] <;> rfl), by repeat (first | (with_reducible first | exact HB.out | apply below_alloc | apply pw_below_drewN | apply below_drew1 | refine below_set ?_ GE483.out | refine below_set ?_ GE484.out) | exact HB.out)⟩
      · rw [if_neg c5] at H
        have c5b0 : decide (x5_1 < a1) = false := decide_eq_false c5
        clear c5
        simp only [Option.some.injEq, Prod.mk.injEq] at H
        obtain ⟨rfl, rfl, rfl, rfl⟩ := H
        have hnb15 := NB483_484.out
        have hnc15 := NB484_483.out
        have hcz16_0 : wr.cell? ⟨gb483, 0, none⟩ = some (.int .i64 x484000_1) := (blk_cell BK483.out 0).trans rfl
        have hcz16_1 : wr.cell? ⟨gb483, 1, none⟩ = some (.int .i64 x484001_1) := (blk_cell BK483.out 1).trans rfl
        have hcz16_2 : wr.cell? ⟨gb483, 2, none⟩ = some (.int .i64 x484002_1) := (blk_cell BK483.out 2).trans rfl
        have hcz16_3 : wr.cell? ⟨gb483, 3, none⟩ = some (.int .i64 x484003_1) := (blk_cell BK483.out 3).trans rfl
        have hfz16_0 := blk_frozen BK483.out 0
        have hfz16_1 := blk_frozen BK483.out 1
        have hfz16_2 := blk_frozen BK483.out 2
        have hfz16_3 := blk_frozen BK483.out 3
        have hcz17_0 : wr.cell? ⟨gb484, 0, none⟩ = some (.int .i64 0) := (blk_cell BK484.out 0).trans rfl
        have hcz17_1 : wr.cell? ⟨gb484, 1, none⟩ = some (.int .i64 0) := (blk_cell BK484.out 1).trans rfl
        have hcz17_2 : wr.cell? ⟨gb484, 2, none⟩ = some (.int .i64 0) := (blk_cell BK484.out 2).trans rfl
        have hcz17_3 : wr.cell? ⟨gb484, 3, none⟩ = some (.int .i64 0) := (blk_cell BK484.out 3).trans rfl
        have hfz17_0 := blk_frozen BK484.out 0
        have hfz17_1 := blk_frozen BK484.out 1
        have hfz17_2 := blk_frozen BK484.out 2
        have hfz17_3 := blk_frozen BK484.out 3
        go_wp2
        refine bodyPost_ret (results_cell_row rfl _ _ gb484 26 #[.int .i64 x484000_1, .int .i64 x484001_1, .int .i64 x484002_1, .int .i64 x484003_1] (0, 0) _ rfl (by (with_reducible repeat (first | refine blk_drewN ?_ _ | refine blk_drew ?_ | refine blk_alloc ?_ _)); refine blk_put (cs := #[.int .i64 x484000_1, .int .i64 x484001_1, .int .i64 x484002_1, .int .i64 0]) ?_ 3 _ rfl; (with_reducible repeat (first | refine blk_drewN ?_ _ | refine blk_drew ?_ | refine blk_alloc ?_ _)); refine blk_put (cs := #[.int .i64 x484000_1, .int .i64 x484001_1, .int .i64 0, .int .i64 0]) ?_ 2 _ rfl; (with_reducible repeat (first | refine blk_drewN ?_ _ | refine blk_drew ?_ | refine blk_alloc ?_ _)); refine blk_put (cs := #[.int .i64 x484000_1, .int .i64 0, .int .i64 0, .int .i64 0]) ?_ 1 _ rfl; (with_reducible repeat (first | refine blk_drewN ?_ _ | refine blk_drew ?_ | refine blk_alloc ?_ _)); refine blk_put (cs := #[.int .i64 0, .int .i64 0, .int .i64 0, .int .i64 0]) ?_ 0 _ rfl; (with_reducible repeat (first | refine blk_drewN ?_ _ | refine blk_drew ?_ | refine blk_alloc ?_ _)); exact BK484.out) Try.underlying26 rfl (by kernel_rfl)) rfl ?_
        exact ⟨by first | rfl | (simp [errW_none, errW_some] <;> rfl) | (simp [*, errW_none, errW_some] <;> rfl), by repeat (first | (with_reducible first | exact HB.out | apply below_alloc | apply pw_below_drewN | apply below_drew1 | refine below_set ?_ GE483.out | refine below_set ?_ GE484.out) | exact HB.out)⟩

end Go.Proofs.Ytmokmkaipcojkaa.Q
