-- written by a program of this session after the way of the kit's print; not the kit's own print. Lean checks it.
import Derived.Test.YtgngbbkaghmnpaaQx0
import Derived.Test.YtgngbbkaghmnpaaQx10
import Derived.Test.YtgngbbkaghmnpaaQx17
import Derived.Test.YtgngbbkaghmnpaaQx19
import Derived.Test.YtgngbbkaghmnpaaQx21
namespace Go.Proofs.Ytgngbbkaghmnpaa.Q
open Go.RowKit Go.Proofs.YtgngbbkaghmnpaaW.PrintWords Go.Proofs.YtgngbbkaghmnpaaW.PrintLast Go.Proofs.YtgngbbkaghmnpaaW.PrintMore
attribute [local go_sem] max2_int min2_int max_two min_two max_three min_three max_four min_four   -- for this text's walks alone
set_option linter.unusedVariables false
set_option linter.unusedSimpArgs false

/-! ### casementlaw13_CheckEffects: function 4 -/
def casementlaw13_CheckEffects.l0 : Nat → Int → Int → Int → List (S42) → Int → Int → Int → List Int → List (S42) → Option (Bool)
  | 0, _, _, _, _, _, _, _, _, _ => none
  | k + 1, x1, x2, x3, x20, x21, x22, x554000, x554001, x554002 => if x22 < x21 then (if 0 ≤ x22 then (if x22 < (x20.length : Int) then (if x22 < 16 then (if ((rd_T42 x20 x22).f0) < 0 then (some true) else (if ((rd_T42 x20 x22).f1) < 0 then (some true) else (casementlaw13_CheckEffects.l0 k x1 x2 x3 x20 x21 (wrap64 (x22 + 1)) x554000 x554001 x554002))) else (casementlaw13_CheckEffects.l0 k x1 x2 x3 x20 x21 (wrap64 (x22 + 1)) x554000 x554001 x554002)) else (none)) else (none)) else ((casementlaw13_ins.f x2 x3).bind fun bt557 => ((check_Effect.f k x554000 x554001 x554002 x1 bt557.1 bt557.2).bind fun bt559 => ((casementlaw13_ins.f x2 x3).bind fun bt562 => ((casementref13_Effect.f k x554000 x554001 x554002 x1 bt562.1 bt562.2).bind fun bt564 => (if bt559.1 = bt564.1 then (if bt559.2.1 = bt564.2.1 then (some (bt559.2.2 == bt564.2.2)) else (some false)) else (some false))))))
def casementlaw13_CheckEffects.f (k : Nat) (a0_0 : Int) (l0_1 : List Int) (l0_2 : List (S42)) (a1 : Int) (a2 : Int) (a3 : Int) : Option (Bool) := (casementlaw13_alive.f k).bind fun t554 => (if t554 = true then (casementlaw13_CheckEffects.l0 k a1 a2 a3 l0_2 (l0_2.length : Int) 0 a0_0 l0_1 l0_2) else (some false))
theorem casementlaw13_CheckEffects.mono_l : ∀ k, (∀ y0 y1 y2 y3 y4 y5 y6 y7 y8, LeO (casementlaw13_CheckEffects.l0 k y0 y1 y2 y3 y4 y5 y6 y7 y8) (casementlaw13_CheckEffects.l0 (k + 1) y0 y1 y2 y3 y4 y5 y6 y7 y8))
  | 0 => fun _ _ _ _ _ _ _ _ _ r h => by simp [casementlaw13_CheckEffects.l0] at h
  | k + 1 => by
    have ih0 := casementlaw13_CheckEffects.mono_l k
    · intro y0 y1 y2 y3 y4 y5 y6 y7 y8
      unfold casementlaw13_CheckEffects.l0
      repeat' first
      | (with_reducible exact ih0 _ _ _ _ _ _ _ _ _)
      | (with_reducible exact casementlaw13_alive.mono _)
      | (with_reducible exact casementref13_Effect.mono _ _ _ _ _ _ _)
      | (with_reducible exact check_Effect.mono _ _ _ _ _ _ _)
      | (with_reducible exact LeO.refl _)
      | (with_reducible exact LeO.none _)
      | (with_reducible refine LeO.ite ?_ ?_)
      | (with_reducible refine LeO.bind ?_ (fun _ => ?_))
      | exact ih0 _ _ _ _ _ _ _ _ _
      | exact casementlaw13_alive.mono _
      | exact casementref13_Effect.mono _ _ _ _ _ _ _
      | exact check_Effect.mono _ _ _ _ _ _ _
      | exact LeO.none _
      | refine LeO.ite ?_ ?_
      | refine LeO.bind ?_ (fun _ => ?_)
theorem casementlaw13_CheckEffects.mono : ∀ a0 a1 a2 a3 a4 a5 k, LeO (casementlaw13_CheckEffects.f k a0 a1 a2 a3 a4 a5) (casementlaw13_CheckEffects.f (k + 1) a0 a1 a2 a3 a4 a5) := by
  intro a0 a1 a2 a3 a4 a5 k
  have ih0 := casementlaw13_CheckEffects.mono_l k
  unfold casementlaw13_CheckEffects.f
  repeat' first
      | (with_reducible exact ih0 _ _ _ _ _ _ _ _ _)
      | (with_reducible exact casementlaw13_alive.mono _)
      | (with_reducible exact casementref13_Effect.mono _ _ _ _ _ _ _)
      | (with_reducible exact check_Effect.mono _ _ _ _ _ _ _)
      | (with_reducible exact LeO.refl _)
      | (with_reducible exact LeO.none _)
      | (with_reducible refine LeO.ite ?_ ?_)
      | (with_reducible refine LeO.bind ?_ (fun _ => ?_))
      | exact ih0 _ _ _ _ _ _ _ _ _
      | exact casementlaw13_alive.mono _
      | exact casementref13_Effect.mono _ _ _ _ _ _ _
      | exact check_Effect.mono _ _ _ _ _ _ _
      | exact LeO.none _
      | refine LeO.ite ?_ ?_
      | refine LeO.bind ?_ (fun _ => ?_)
def casementlaw13_CheckEffects.T9 : Bool × List (List Nat × List Nat) := (true, [([], []), ([], []), ([], []), ([], []), ([2, 3], [2, 3]), ([0, 1, 4, 4], [0, 1, 4]), ([5], [5]), ([6], [6]), ([6], [6]), ([6], [6]), ([7, 5, 0, 1, 2, 3, 4, 5, 6, 7], [7]), ([8, 10, 0, 1, 2, 3, 4, 5, 6, 7, 8, 10], [8]), ([9, 11, 0, 1, 2, 3, 4, 5, 6, 7, 8, 9, 10, 11], [9])])
def casementlaw13_CheckEffects.B9 : List Nat := [0, 0, 0, 0, 12, 31, 63, 127, 127, 127, 255, 1535, 4095]
theorem casementlaw13_CheckEffects.tab9 : rtab .any (opsOf Try.f4 9) = casementlaw13_CheckEffects.T9 := by kernel_rfl
theorem casementlaw13_CheckEffects.bits9 : waitsOk casementlaw13_CheckEffects.T9.2 casementlaw13_CheckEffects.B9 = true := by kernel_rfl
def casementlaw13_CheckEffects.T10 : Bool × List (List Nat × List Nat) := (true, [([], []), ([], []), ([], []), ([], []), ([2, 3], [2, 3]), ([0, 1, 4, 4], [0, 1, 4]), ([5], [5]), ([6], [6]), ([6], [6]), ([6], [6]), ([7, 5, 0, 1, 2, 3, 4, 5, 6, 7], [7]), ([8, 10, 0, 1, 2, 3, 4, 5, 6, 7, 8, 10], [8]), ([9, 11, 0, 1, 2, 3, 4, 5, 6, 7, 8, 9, 10, 11], [9])])
def casementlaw13_CheckEffects.B10 : List Nat := [0, 0, 0, 0, 12, 31, 63, 127, 127, 127, 255, 1535, 4095]
theorem casementlaw13_CheckEffects.tab10 : rtab .any (opsOf Try.f4 10) = casementlaw13_CheckEffects.T10 := by kernel_rfl
theorem casementlaw13_CheckEffects.bits10 : waitsOk casementlaw13_CheckEffects.T10.2 casementlaw13_CheckEffects.B10 = true := by kernel_rfl
set_option maxHeartbeats 8000000 in
set_option maxRecDepth 100000 in
theorem casementlaw13_CheckEffects.calls (k : Nat) (a0_0 : Int) (A0_1 : Option Addr) (c0_1 : Nat) (l0_1 : List Int) (A0_2 : Option Addr) (c0_2 : Nat) (l0_2 : List (S42)) (a1 : Int) (a2 : Int) (a3 : Int) (r : Bool) (w : World) (hr0_1 : Kd.C (Kd.int .u8) w A0_1 l0_1.length l0_1) (hc0_1 : l0_1.length ≤ c0_1) (hr0_2 : Kd.C k42 w A0_2 l0_2.length l0_2) (hc0_2 : l0_2.length ≤ c0_2) (h : casementlaw13_CheckEffects.f k a0_0 l0_1 l0_2 a1 a2 a3 = some r) (hr : r = true) :
    Calls Try.prog 4 #[.agg #[.int .i64 a0_0, .slice A0_1 l0_1.length c0_1, .slice A0_2 l0_2.length c0_2], .int .i64 a1, .int .i64 a2, .int .i64 a3] w fun e w' => e = .returned (.bool r) ∧ Below w.heap.size w w' := by
  have hu25 := Try.underlying25
  have hu42 := Try.underlying42
  have HRT := Aside0.mk hr
  clear hr
  have HR0_1 := Aside0.mk hr0_1
  have HC0_1 := Aside0.mk hc0_1
  clear hr0_1 hc0_1
  have HR0_2 := Aside0.mk hr0_2
  have HC0_2 := Aside0.mk hc0_2
  clear hr0_2 hc0_2
  have HB := Aside0.mk (Below.refl w.heap.size w)
  have H : ((casementlaw13_alive.f k).bind fun t554 => (if t554 = true then (casementlaw13_CheckEffects.l0 k a1 a2 a3 l0_2 (l0_2.length : Int) 0 a0_0 l0_1 l0_2) else (some false))) = some r := h
  clear h
  replace H := Option.bind_eq_some_iff.mp H
  obtain ⟨t554, A50, H⟩ := H
  replace H : (if t554 = true then (casementlaw13_CheckEffects.l0 k a1 a2 a3 l0_2 (l0_2.length : Int) 0 a0_0 l0_1 l0_2) else (some false)) = some r := H
  have A5 := Aside0.mk A50
  clear A50
  by_cases c6 : t554 = true
  · subst c6
    have H1 : (casementlaw13_CheckEffects.l0 k a1 a2 a3 l0_2 (l0_2.length : Int) 0 a0_0 l0_1 l0_2) = some r := by rw [if_pos rfl] at H; exact H
    clear H
    have H := H1
    clear H1
    have H' := Aside0.mk H
    clear H
    go_enter Try.func4, Try.ntmps4
    go_wp2_with (first | ((with_reducible refine gate_dst (N := 4) rfl ?_); refine box_event ?hg (N := 4) ?hd (cs := #[.int .i64 a0_0, .slice A0_1 l0_1.length c0_1, .slice A0_2 l0_2.length c0_2]) (t := 25) ?hr ?_; (case hd => rfl); (case hg => rfl); (case hr => first | (go_simp; done) | (go_simp; rfl)); intro gb553 hg w7 hbox hb; have n0_ := Aside0.mk (below_step (by repeat (first | (with_reducible first | exact HB.out | apply below_alloc | apply pw_below_drewN | apply below_drew1) | exact HB.out)) hb); have n1_ := Aside0.mk (hbox); have n2_ := Aside0.mk ((by rw [hg]; exact (below_size (by repeat (first | (with_reducible first | exact HB.out | apply below_alloc | apply pw_below_drewN | apply below_drew1) | exact HB.out))) : w.heap.size ≤ gb553)); have n3_ := Aside0.mk ((by rw [hg]; exact (below_size (by repeat (first | (with_reducible first | exact HB.out | apply below_alloc | apply pw_below_drewN | apply below_drew1) | exact HB.out))) : w.heap.size ≤ gb553)); clear HB; have HB := n0_; have BK553 := n1_; have GW553 := n2_; have GE553 := n3_; clear n0_ n1_ n2_ n3_; clear hb hbox hg) | ((with_reducible refine gate_callee (f := 8) rfl ?_); refine goesL_ (some 17) rfl rfl Try.func8 (by kernel_rfl) rfl #[] rfl (by (try simp only [List.map_toArray, List.map_cons, List.map_nil]); first | done | rfl | (simp only [List.length_drop, List.length_take]; rfl)) ?_; (with_reducible refine (casementlaw13_alive.calls k  true _ A5.out (by first | rfl | assumption)).mono ?_); rintro e w8 ⟨rfl, hb⟩; refine ⟨_, rfl, ?_⟩; have n0_ := Aside0.mk (blk_below (g := gb553) (o := .cells #[.int .i64 a0_0, .slice A0_1 l0_1.length c0_1, .slice A0_2 l0_2.length c0_2] 25 (0, 0)) (by (with_reducible repeat (first | refine blk_drewN ?_ _ | refine blk_drew ?_ | refine blk_alloc ?_ _)); exact BK553.out) hb); have n1_ := Aside0.mk (below_step (by repeat (first | (with_reducible first | exact HB.out | apply below_alloc | apply pw_below_drewN | apply below_drew1 | refine below_set ?_ GE553.out) | exact HB.out)) hb); clear BK553; clear HB; have BK553 := n0_; have HB := n1_; clear n0_ n1_; (try clear hb); (try clear hb2); (try clear hk); (try clear hi); have hcz9_0 : w8.cell? ⟨gb553, 0, none⟩ = some (.int .i64 a0_0) := (blk_cell BK553.out 0).trans rfl; have hcz9_1 : w8.cell? ⟨gb553, 1, none⟩ = some (.slice A0_1 l0_1.length c0_1) := (blk_cell BK553.out 1).trans rfl; have hcz9_2 : w8.cell? ⟨gb553, 2, none⟩ = some (.slice A0_2 l0_2.length c0_2) := (blk_cell BK553.out 2).trans rfl; have hfz9_0 := blk_frozen BK553.out 0; have hfz9_1 := blk_frozen BK553.out 1; have hfz9_2 := blk_frozen BK553.out 2))
    go_loopg [22] k (fun kq v22 w' => ∃ (x22_1 : Int), v22 = .int .i64 x22_1 ∧ Aside0 (casementlaw13_CheckEffects.l0 kq a1 a2 a3 l0_2 (l0_2.length : Int) x22_1 a0_0 l0_1 l0_2 = some r) ∧ Aside0 (kq ≤ k) ∧ Aside0 (w'.heap[gb553]? = some (.cells #[.int .i64 a0_0, (.slice A0_1 l0_1.length c0_1), (.slice A0_2 l0_2.length c0_2)] 25 (0, 0))) ∧ Aside0 (Below w.heap.size w w'))
    case atStart => exact ⟨(0), (by first | rfl | (simp; done) | (simp [*]; done)), H', ⟨Nat.le_refl _⟩, ⟨by (with_reducible repeat (first | refine blk_drewN ?_ _ | refine blk_drew ?_ | refine blk_alloc ?_ _)); exact BK553.out⟩, ⟨by repeat (first | (with_reducible first | exact HB.out | apply below_alloc | apply pw_below_drewN | apply below_drew1 | refine below_set ?_ GE553.out) | exact HB.out)⟩⟩
    case round =>
      clear H'
      try clear p2
      try clear c4
      try clear c6
      try clear c8
      try clear hcz9_0
      try clear hcz9_1
      try clear hcz9_2
      try clear hfz9_0
      try clear hfz9_1
      try clear hfz9_2
      obtain ⟨x22_1, rfl, HA, HK1, BK553, HB⟩ := hrel
      cases gk with
      | zero => exact absurd HA.out (by simp [casementlaw13_CheckEffects.l0])
      | succ k1 =>
        have H := HA.out
        clear HA
        simp only [casementlaw13_CheckEffects.l0] at H
        by_cases c10 : x22_1 < (l0_2.length : Int)
        · rw [if_pos c10] at H
          have c10b0 : decide (x22_1 < (l0_2.length : Int)) = true := decide_eq_true c10
          clear c10
          by_cases c11 : 0 ≤ x22_1
          · rw [if_pos c11] at H
            have c11b0 : decide (0 ≤ x22_1) = true := decide_eq_true c11
            clear c11
            by_cases c12 : x22_1 < (l0_2.length : Int)
            · rw [if_pos c12] at H
              have c12b0 : decide (x22_1 < (l0_2.length : Int)) = true := decide_eq_true c12
              clear c12
              by_cases c13 : x22_1 < 16
              · rw [if_pos c13] at H
                have c13b0 : decide (x22_1 < 16) = true := decide_eq_true c13
                clear c13
                by_cases c14 : ((rd_T42 l0_2 x22_1).f0) < 0
                · rw [if_pos c14] at H
                  have c14b0 : decide (((rd_T42 l0_2 x22_1).f0) < 0) = true := decide_eq_true c14
                  clear c14
                  obtain rfl := Option.some.inj H
                  have p555 : 0 ≤ (x22_1 : Int) := of_decide_eq_true (by first | (with_reducible assumption) | assumption)
                  have q555 : x22_1 < (l0_2.length : Int) := of_decide_eq_true (by first | (with_reducible assumption) | assumption)
                  obtain ⟨ad555, A555_3, c555_3, e555, hx555_0, hx555_1, hx555_2, hx555_3, hl555_3, hi555_3⟩ := at_T42 HR0_2.out x22_1 p555 q555
                  cases e555
                  replace hx555_0 := (HB.out.cell (World.block_lt_of_cell? w _ hx555_0)).trans hx555_0
                  replace hx555_1 := (HB.out.cell (World.block_lt_of_cell? w _ hx555_1)).trans hx555_1
                  replace hx555_2 := (HB.out.cell (World.block_lt_of_cell? w _ hx555_2)).trans hx555_2
                  replace hx555_3 := (HB.out.cell (World.block_lt_of_cell? w _ hx555_3)).trans hx555_3
                  have HR555_3 := Aside0.mk hi555_3
                  have HC555_3 := Aside0.mk hl555_3
                  clear hi555_3 hl555_3
                  replace p555 := eq_true p555
                  replace q555 := eq_true q555
                  go_wp2_with (first | ((with_reducible refine gate_dst (N := 10) rfl ?_); refine box_event ?hg (N := 10) ?hd (cs := #[.int .i64 0, .int .i64 0, .int .i64 0, .slice none 0 0]) (t := 42) ?hr ?_; (case hd => rfl); (case hg => rfl); (case hr => first | (go_simp; done) | (go_simp; rfl)); intro gb556 hg w15 hbox hb; have n0_ := Aside0.mk (blk_below (g := gb553) (o := .cells #[.int .i64 a0_0, .slice A0_1 l0_1.length c0_1, .slice (some ad555) l0_2.length c0_2] 25 (0, 0)) (by (with_reducible repeat (first | refine blk_drewN ?_ _ | refine blk_drew ?_ | refine blk_alloc ?_ _)); exact BK553.out) hb); have n1_ := Aside0.mk (below_step (by repeat (first | (with_reducible first | exact HB.out | apply below_alloc | apply pw_below_drewN | apply below_drew1 | refine below_set ?_ GE553.out) | exact HB.out)) hb); have n2_ := Aside0.mk (hbox); have n3_ := Aside0.mk ((by rw [hg]; exact (below_size (by repeat (first | (with_reducible first | exact HB.out | apply below_alloc | apply pw_below_drewN | apply below_drew1 | refine below_set ?_ GE553.out) | exact HB.out))) : w.heap.size ≤ gb556)); have n4_ := Aside0.mk ((by rw [hg]; exact (below_size (by repeat (first | (with_reducible first | exact HB.out | apply below_alloc | apply pw_below_drewN | apply below_drew1 | refine below_set ?_ GE553.out) | exact HB.out))) : w.heap.size ≤ gb556)); have n5_ := Aside0.mk ((by rw [hg]; exact Nat.ne_of_lt (blk_lt (g := gb553) (o := .cells #[.int .i64 a0_0, .slice A0_1 l0_1.length c0_1, .slice (some ad555) l0_2.length c0_2] 25 (0, 0)) (by (with_reducible repeat (first | refine blk_drewN ?_ _ | refine blk_drew ?_ | refine blk_alloc ?_ _)); exact BK553.out)) : gb553 ≠ gb556)); have n6_ := Aside0.mk ((by rw [hg]; exact Nat.ne_of_gt (blk_lt (g := gb553) (o := .cells #[.int .i64 a0_0, .slice A0_1 l0_1.length c0_1, .slice (some ad555) l0_2.length c0_2] 25 (0, 0)) (by (with_reducible repeat (first | refine blk_drewN ?_ _ | refine blk_drew ?_ | refine blk_alloc ?_ _)); exact BK553.out)) : gb556 ≠ gb553)); clear BK553; clear HB; have BK553 := n0_; have HB := n1_; have BK556 := n2_; have GW556 := n3_; have GE556 := n4_; have NB553_556 := n5_; have NB556_553 := n6_; clear n0_ n1_ n2_ n3_ n4_ n5_ n6_; clear hb hbox hg; have hnb16 := NB556_553.out; have hnc16 := NB553_556.out; have hcz17_0 : w15.cell? ⟨gb556, 0, none⟩ = some (.int .i64 0) := (blk_cell BK556.out 0).trans rfl; have hcz17_1 : w15.cell? ⟨gb556, 1, none⟩ = some (.int .i64 0) := (blk_cell BK556.out 1).trans rfl; have hcz17_2 : w15.cell? ⟨gb556, 2, none⟩ = some (.int .i64 0) := (blk_cell BK556.out 2).trans rfl; have hcz17_3 : w15.cell? ⟨gb556, 3, none⟩ = some (.slice none 0 0) := (blk_cell BK556.out 3).trans rfl; have hfz17_0 := blk_frozen BK556.out 0; have hfz17_1 := blk_frozen BK556.out 1; have hfz17_2 := blk_frozen BK556.out 2; have hfz17_3 := blk_frozen BK556.out 3))
                  go_ret
                  exact ⟨by first | rfl | (simp [errW_none, errW_some] <;> rfl) | (simp [*, errW_none, errW_some] <;> rfl), by repeat (first | (with_reducible first | exact HB.out | apply below_alloc | apply pw_below_drewN | apply below_drew1 | refine below_set ?_ GE553.out | refine below_set ?_ GE556.out) | exact HB.out)⟩
                · rw [if_neg c14] at H
                  have c14b0 : decide (((rd_T42 l0_2 x22_1).f0) < 0) = false := decide_eq_false c14
                  clear c14
                  by_cases c18 : ((rd_T42 l0_2 x22_1).f1) < 0
                  · rw [if_pos c18] at H
                    have c18b0 : decide (((rd_T42 l0_2 x22_1).f1) < 0) = true := decide_eq_true c18
                    clear c18
                    obtain rfl := Option.some.inj H
                    have p555 : 0 ≤ (x22_1 : Int) := of_decide_eq_true (by first | (with_reducible assumption) | assumption)
                    have q555 : x22_1 < (l0_2.length : Int) := of_decide_eq_true (by first | (with_reducible assumption) | assumption)
                    obtain ⟨ad555, A555_3, c555_3, e555, hx555_0, hx555_1, hx555_2, hx555_3, hl555_3, hi555_3⟩ := at_T42 HR0_2.out x22_1 p555 q555
                    cases e555
                    replace hx555_0 := (HB.out.cell (World.block_lt_of_cell? w _ hx555_0)).trans hx555_0
                    replace hx555_1 := (HB.out.cell (World.block_lt_of_cell? w _ hx555_1)).trans hx555_1
                    replace hx555_2 := (HB.out.cell (World.block_lt_of_cell? w _ hx555_2)).trans hx555_2
                    replace hx555_3 := (HB.out.cell (World.block_lt_of_cell? w _ hx555_3)).trans hx555_3
                    have HR555_3 := Aside0.mk hi555_3
                    have HC555_3 := Aside0.mk hl555_3
                    clear hi555_3 hl555_3
                    replace p555 := eq_true p555
                    replace q555 := eq_true q555
                    go_wp2_with (first | ((with_reducible refine gate_dst (N := 10) rfl ?_); refine box_event ?hg (N := 10) ?hd (cs := #[.int .i64 0, .int .i64 0, .int .i64 0, .slice none 0 0]) (t := 42) ?hr ?_; (case hd => rfl); (case hg => rfl); (case hr => first | (go_simp; done) | (go_simp; rfl)); intro gb556 hg w19 hbox hb; have n0_ := Aside0.mk (blk_below (g := gb553) (o := .cells #[.int .i64 a0_0, .slice A0_1 l0_1.length c0_1, .slice (some ad555) l0_2.length c0_2] 25 (0, 0)) (by (with_reducible repeat (first | refine blk_drewN ?_ _ | refine blk_drew ?_ | refine blk_alloc ?_ _)); exact BK553.out) hb); have n1_ := Aside0.mk (below_step (by repeat (first | (with_reducible first | exact HB.out | apply below_alloc | apply pw_below_drewN | apply below_drew1 | refine below_set ?_ GE553.out) | exact HB.out)) hb); have n2_ := Aside0.mk (hbox); have n3_ := Aside0.mk ((by rw [hg]; exact (below_size (by repeat (first | (with_reducible first | exact HB.out | apply below_alloc | apply pw_below_drewN | apply below_drew1 | refine below_set ?_ GE553.out) | exact HB.out))) : w.heap.size ≤ gb556)); have n4_ := Aside0.mk ((by rw [hg]; exact (below_size (by repeat (first | (with_reducible first | exact HB.out | apply below_alloc | apply pw_below_drewN | apply below_drew1 | refine below_set ?_ GE553.out) | exact HB.out))) : w.heap.size ≤ gb556)); have n5_ := Aside0.mk ((by rw [hg]; exact Nat.ne_of_lt (blk_lt (g := gb553) (o := .cells #[.int .i64 a0_0, .slice A0_1 l0_1.length c0_1, .slice (some ad555) l0_2.length c0_2] 25 (0, 0)) (by (with_reducible repeat (first | refine blk_drewN ?_ _ | refine blk_drew ?_ | refine blk_alloc ?_ _)); exact BK553.out)) : gb553 ≠ gb556)); have n6_ := Aside0.mk ((by rw [hg]; exact Nat.ne_of_gt (blk_lt (g := gb553) (o := .cells #[.int .i64 a0_0, .slice A0_1 l0_1.length c0_1, .slice (some ad555) l0_2.length c0_2] 25 (0, 0)) (by (with_reducible repeat (first | refine blk_drewN ?_ _ | refine blk_drew ?_ | refine blk_alloc ?_ _)); exact BK553.out)) : gb556 ≠ gb553)); clear BK553; clear HB; have BK553 := n0_; have HB := n1_; have BK556 := n2_; have GW556 := n3_; have GE556 := n4_; have NB553_556 := n5_; have NB556_553 := n6_; clear n0_ n1_ n2_ n3_ n4_ n5_ n6_; clear hb hbox hg; have hnb20 := NB556_553.out; have hnc20 := NB553_556.out; have hcz21_0 : w19.cell? ⟨gb556, 0, none⟩ = some (.int .i64 0) := (blk_cell BK556.out 0).trans rfl; have hcz21_1 : w19.cell? ⟨gb556, 1, none⟩ = some (.int .i64 0) := (blk_cell BK556.out 1).trans rfl; have hcz21_2 : w19.cell? ⟨gb556, 2, none⟩ = some (.int .i64 0) := (blk_cell BK556.out 2).trans rfl; have hcz21_3 : w19.cell? ⟨gb556, 3, none⟩ = some (.slice none 0 0) := (blk_cell BK556.out 3).trans rfl; have hfz21_0 := blk_frozen BK556.out 0; have hfz21_1 := blk_frozen BK556.out 1; have hfz21_2 := blk_frozen BK556.out 2; have hfz21_3 := blk_frozen BK556.out 3))
                    go_ret
                    exact ⟨by first | rfl | (simp [errW_none, errW_some] <;> rfl) | (simp [*, errW_none, errW_some] <;> rfl), by repeat (first | (with_reducible first | exact HB.out | apply below_alloc | apply pw_below_drewN | apply below_drew1 | refine below_set ?_ GE553.out | refine below_set ?_ GE556.out) | exact HB.out)⟩
                  · rw [if_neg c18] at H
                    have c18b0 : decide (((rd_T42 l0_2 x22_1).f1) < 0) = false := decide_eq_false c18
                    clear c18
                    have H' := Aside0.mk H
                    clear H
                    have p555 : 0 ≤ (x22_1 : Int) := of_decide_eq_true (by first | (with_reducible assumption) | assumption)
                    have q555 : x22_1 < (l0_2.length : Int) := of_decide_eq_true (by first | (with_reducible assumption) | assumption)
                    obtain ⟨ad555, A555_3, c555_3, e555, hx555_0, hx555_1, hx555_2, hx555_3, hl555_3, hi555_3⟩ := at_T42 HR0_2.out x22_1 p555 q555
                    cases e555
                    replace hx555_0 := (HB.out.cell (World.block_lt_of_cell? w _ hx555_0)).trans hx555_0
                    replace hx555_1 := (HB.out.cell (World.block_lt_of_cell? w _ hx555_1)).trans hx555_1
                    replace hx555_2 := (HB.out.cell (World.block_lt_of_cell? w _ hx555_2)).trans hx555_2
                    replace hx555_3 := (HB.out.cell (World.block_lt_of_cell? w _ hx555_3)).trans hx555_3
                    have HR555_3 := Aside0.mk hi555_3
                    have HC555_3 := Aside0.mk hl555_3
                    clear hi555_3 hl555_3
                    replace p555 := eq_true p555
                    replace q555 := eq_true q555
                    go_wp2_with (first | ((with_reducible refine gate_dst (N := 10) rfl ?_); refine box_event ?hg (N := 10) ?hd (cs := #[.int .i64 0, .int .i64 0, .int .i64 0, .slice none 0 0]) (t := 42) ?hr ?_; (case hd => rfl); (case hg => rfl); (case hr => first | (go_simp; done) | (go_simp; rfl)); intro gb556 hg w22 hbox hb; have n0_ := Aside0.mk (blk_below (g := gb553) (o := .cells #[.int .i64 a0_0, .slice A0_1 l0_1.length c0_1, .slice (some ad555) l0_2.length c0_2] 25 (0, 0)) (by (with_reducible repeat (first | refine blk_drewN ?_ _ | refine blk_drew ?_ | refine blk_alloc ?_ _)); exact BK553.out) hb); have n1_ := Aside0.mk (below_step (by repeat (first | (with_reducible first | exact HB.out | apply below_alloc | apply pw_below_drewN | apply below_drew1 | refine below_set ?_ GE553.out) | exact HB.out)) hb); have n2_ := Aside0.mk (hbox); have n3_ := Aside0.mk ((by rw [hg]; exact (below_size (by repeat (first | (with_reducible first | exact HB.out | apply below_alloc | apply pw_below_drewN | apply below_drew1 | refine below_set ?_ GE553.out) | exact HB.out))) : w.heap.size ≤ gb556)); have n4_ := Aside0.mk ((by rw [hg]; exact (below_size (by repeat (first | (with_reducible first | exact HB.out | apply below_alloc | apply pw_below_drewN | apply below_drew1 | refine below_set ?_ GE553.out) | exact HB.out))) : w.heap.size ≤ gb556)); have n5_ := Aside0.mk ((by rw [hg]; exact Nat.ne_of_lt (blk_lt (g := gb553) (o := .cells #[.int .i64 a0_0, .slice A0_1 l0_1.length c0_1, .slice (some ad555) l0_2.length c0_2] 25 (0, 0)) (by (with_reducible repeat (first | refine blk_drewN ?_ _ | refine blk_drew ?_ | refine blk_alloc ?_ _)); exact BK553.out)) : gb553 ≠ gb556)); have n6_ := Aside0.mk ((by rw [hg]; exact Nat.ne_of_gt (blk_lt (g := gb553) (o := .cells #[.int .i64 a0_0, .slice A0_1 l0_1.length c0_1, .slice (some ad555) l0_2.length c0_2] 25 (0, 0)) (by (with_reducible repeat (first | refine blk_drewN ?_ _ | refine blk_drew ?_ | refine blk_alloc ?_ _)); exact BK553.out)) : gb556 ≠ gb553)); clear BK553; clear HB; have BK553 := n0_; have HB := n1_; have BK556 := n2_; have GW556 := n3_; have GE556 := n4_; have NB553_556 := n5_; have NB556_553 := n6_; clear n0_ n1_ n2_ n3_ n4_ n5_ n6_; clear hb hbox hg; have hnb23 := NB556_553.out; have hnc23 := NB553_556.out; have hcz24_0 : w22.cell? ⟨gb556, 0, none⟩ = some (.int .i64 0) := (blk_cell BK556.out 0).trans rfl; have hcz24_1 : w22.cell? ⟨gb556, 1, none⟩ = some (.int .i64 0) := (blk_cell BK556.out 1).trans rfl; have hcz24_2 : w22.cell? ⟨gb556, 2, none⟩ = some (.int .i64 0) := (blk_cell BK556.out 2).trans rfl; have hcz24_3 : w22.cell? ⟨gb556, 3, none⟩ = some (.slice none 0 0) := (blk_cell BK556.out 3).trans rfl; have hfz24_0 := blk_frozen BK556.out 0; have hfz24_1 := blk_frozen BK556.out 1; have hfz24_2 := blk_frozen BK556.out 2; have hfz24_3 := blk_frozen BK556.out 3))
                    go_roundg k1
                    case measure => have := HK1.out; omega
                    case rel => exact ⟨(wrap64 (x22_1 + 1)), (by first | rfl | (simp; done) | (simp [*]; done)), H', ⟨by have := HK1.out; omega⟩, ⟨by (with_reducible repeat (first | refine blk_drewN ?_ _ | refine blk_drew ?_ | refine blk_alloc ?_ _)); refine blk_far ?_ NB553_556.out _; (with_reducible repeat (first | refine blk_drewN ?_ _ | refine blk_drew ?_ | refine blk_alloc ?_ _)); refine blk_far ?_ NB553_556.out _; (with_reducible repeat (first | refine blk_drewN ?_ _ | refine blk_drew ?_ | refine blk_alloc ?_ _)); refine blk_far ?_ NB553_556.out _; (with_reducible repeat (first | refine blk_drewN ?_ _ | refine blk_drew ?_ | refine blk_alloc ?_ _)); refine blk_far ?_ NB553_556.out _; (with_reducible repeat (first | refine blk_drewN ?_ _ | refine blk_drew ?_ | refine blk_alloc ?_ _)); exact BK553.out⟩, ⟨by repeat (first | (with_reducible first | exact HB.out | apply below_alloc | apply pw_below_drewN | apply below_drew1 | refine below_set ?_ GE553.out | refine below_set ?_ GE556.out) | exact HB.out)⟩⟩
              · rw [if_neg c13] at H
                have c13b0 : decide (x22_1 < 16) = false := decide_eq_false c13
                clear c13
                have H' := Aside0.mk H
                clear H
                have p555 : 0 ≤ (x22_1 : Int) := of_decide_eq_true (by first | (with_reducible assumption) | assumption)
                have q555 : x22_1 < (l0_2.length : Int) := of_decide_eq_true (by first | (with_reducible assumption) | assumption)
                obtain ⟨ad555, A555_3, c555_3, e555, hx555_0, hx555_1, hx555_2, hx555_3, hl555_3, hi555_3⟩ := at_T42 HR0_2.out x22_1 p555 q555
                cases e555
                replace hx555_0 := (HB.out.cell (World.block_lt_of_cell? w _ hx555_0)).trans hx555_0
                replace hx555_1 := (HB.out.cell (World.block_lt_of_cell? w _ hx555_1)).trans hx555_1
                replace hx555_2 := (HB.out.cell (World.block_lt_of_cell? w _ hx555_2)).trans hx555_2
                replace hx555_3 := (HB.out.cell (World.block_lt_of_cell? w _ hx555_3)).trans hx555_3
                have HR555_3 := Aside0.mk hi555_3
                have HC555_3 := Aside0.mk hl555_3
                clear hi555_3 hl555_3
                replace p555 := eq_true p555
                replace q555 := eq_true q555
                go_wp2_with (first | ((with_reducible refine gate_dst (N := 10) rfl ?_); refine box_event ?hg (N := 10) ?hd (cs := #[.int .i64 0, .int .i64 0, .int .i64 0, .slice none 0 0]) (t := 42) ?hr ?_; (case hd => rfl); (case hg => rfl); (case hr => first | (go_simp; done) | (go_simp; rfl)); intro gb556 hg w25 hbox hb; have n0_ := Aside0.mk (blk_below (g := gb553) (o := .cells #[.int .i64 a0_0, .slice A0_1 l0_1.length c0_1, .slice (some ad555) l0_2.length c0_2] 25 (0, 0)) (by (with_reducible repeat (first | refine blk_drewN ?_ _ | refine blk_drew ?_ | refine blk_alloc ?_ _)); exact BK553.out) hb); have n1_ := Aside0.mk (below_step (by repeat (first | (with_reducible first | exact HB.out | apply below_alloc | apply pw_below_drewN | apply below_drew1 | refine below_set ?_ GE553.out) | exact HB.out)) hb); have n2_ := Aside0.mk (hbox); have n3_ := Aside0.mk ((by rw [hg]; exact (below_size (by repeat (first | (with_reducible first | exact HB.out | apply below_alloc | apply pw_below_drewN | apply below_drew1 | refine below_set ?_ GE553.out) | exact HB.out))) : w.heap.size ≤ gb556)); have n4_ := Aside0.mk ((by rw [hg]; exact (below_size (by repeat (first | (with_reducible first | exact HB.out | apply below_alloc | apply pw_below_drewN | apply below_drew1 | refine below_set ?_ GE553.out) | exact HB.out))) : w.heap.size ≤ gb556)); have n5_ := Aside0.mk ((by rw [hg]; exact Nat.ne_of_lt (blk_lt (g := gb553) (o := .cells #[.int .i64 a0_0, .slice A0_1 l0_1.length c0_1, .slice (some ad555) l0_2.length c0_2] 25 (0, 0)) (by (with_reducible repeat (first | refine blk_drewN ?_ _ | refine blk_drew ?_ | refine blk_alloc ?_ _)); exact BK553.out)) : gb553 ≠ gb556)); have n6_ := Aside0.mk ((by rw [hg]; exact Nat.ne_of_gt (blk_lt (g := gb553) (o := .cells #[.int .i64 a0_0, .slice A0_1 l0_1.length c0_1, .slice (some ad555) l0_2.length c0_2] 25 (0, 0)) (by (with_reducible repeat (first | refine blk_drewN ?_ _ | refine blk_drew ?_ | refine blk_alloc ?_ _)); exact BK553.out)) : gb556 ≠ gb553)); clear BK553; clear HB; have BK553 := n0_; have HB := n1_; have BK556 := n2_; have GW556 := n3_; have GE556 := n4_; have NB553_556 := n5_; have NB556_553 := n6_; clear n0_ n1_ n2_ n3_ n4_ n5_ n6_; clear hb hbox hg; have hnb26 := NB556_553.out; have hnc26 := NB553_556.out; have hcz27_0 : w25.cell? ⟨gb556, 0, none⟩ = some (.int .i64 0) := (blk_cell BK556.out 0).trans rfl; have hcz27_1 : w25.cell? ⟨gb556, 1, none⟩ = some (.int .i64 0) := (blk_cell BK556.out 1).trans rfl; have hcz27_2 : w25.cell? ⟨gb556, 2, none⟩ = some (.int .i64 0) := (blk_cell BK556.out 2).trans rfl; have hcz27_3 : w25.cell? ⟨gb556, 3, none⟩ = some (.slice none 0 0) := (blk_cell BK556.out 3).trans rfl; have hfz27_0 := blk_frozen BK556.out 0; have hfz27_1 := blk_frozen BK556.out 1; have hfz27_2 := blk_frozen BK556.out 2; have hfz27_3 := blk_frozen BK556.out 3))
                go_roundg k1
                case measure => have := HK1.out; omega
                case rel => exact ⟨(wrap64 (x22_1 + 1)), (by first | rfl | (simp; done) | (simp [*]; done)), H', ⟨by have := HK1.out; omega⟩, ⟨by (with_reducible repeat (first | refine blk_drewN ?_ _ | refine blk_drew ?_ | refine blk_alloc ?_ _)); refine blk_far ?_ NB553_556.out _; (with_reducible repeat (first | refine blk_drewN ?_ _ | refine blk_drew ?_ | refine blk_alloc ?_ _)); refine blk_far ?_ NB553_556.out _; (with_reducible repeat (first | refine blk_drewN ?_ _ | refine blk_drew ?_ | refine blk_alloc ?_ _)); refine blk_far ?_ NB553_556.out _; (with_reducible repeat (first | refine blk_drewN ?_ _ | refine blk_drew ?_ | refine blk_alloc ?_ _)); refine blk_far ?_ NB553_556.out _; (with_reducible repeat (first | refine blk_drewN ?_ _ | refine blk_drew ?_ | refine blk_alloc ?_ _)); exact BK553.out⟩, ⟨by repeat (first | (with_reducible first | exact HB.out | apply below_alloc | apply pw_below_drewN | apply below_drew1 | refine below_set ?_ GE553.out | refine below_set ?_ GE556.out) | exact HB.out)⟩⟩
            · rw [if_neg c12] at H
              exact absurd H (by simp)
          · rw [if_neg c11] at H
            exact absurd H (by simp)
        · rw [if_neg c10] at H
          have c10b0 : decide (x22_1 < (l0_2.length : Int)) = false := decide_eq_false c10
          clear c10
          replace H := Option.bind_eq_some_iff.mp H
          obtain ⟨⟨t557, t558⟩, A280, H⟩ := H
          replace H : ((check_Effect.f k1 a0_0 l0_1 l0_2 a1 t557 t558).bind fun bt559 => ((casementlaw13_ins.f a2 a3).bind fun bt562 => ((casementref13_Effect.f k1 a0_0 l0_1 l0_2 a1 bt562.1 bt562.2).bind fun bt564 => (if bt559.1 = bt564.1 then (if bt559.2.1 = bt564.2.1 then (some (bt559.2.2 == bt564.2.2)) else (some false)) else (some false))))) = some r := H
          have A28 := Aside0.mk A280
          clear A280
          replace H := Option.bind_eq_some_iff.mp H
          obtain ⟨⟨t559, t560, t561⟩, A290, H⟩ := H
          replace H : ((casementlaw13_ins.f a2 a3).bind fun bt562 => ((casementref13_Effect.f k1 a0_0 l0_1 l0_2 a1 bt562.1 bt562.2).bind fun bt564 => (if t559 = bt564.1 then (if t560 = bt564.2.1 then (some (t561 == bt564.2.2)) else (some false)) else (some false)))) = some r := H
          have A29 := Aside0.mk A290
          clear A290
          replace H := Option.bind_eq_some_iff.mp H
          obtain ⟨⟨t562, t563⟩, A300, H⟩ := H
          replace H : ((casementref13_Effect.f k1 a0_0 l0_1 l0_2 a1 t562 t563).bind fun bt564 => (if t559 = bt564.1 then (if t560 = bt564.2.1 then (some (t561 == bt564.2.2)) else (some false)) else (some false))) = some r := H
          have A30 := Aside0.mk A300
          clear A300
          replace H := Option.bind_eq_some_iff.mp H
          obtain ⟨⟨t564, t565, t566⟩, A310, H⟩ := H
          replace H : (if t559 = t564 then (if t560 = t565 then (some (t561 == t566)) else (some false)) else (some false)) = some r := H
          have A31 := Aside0.mk A310
          clear A310
          by_cases c32 : t559 = t564
          · rw [if_pos c32] at H
            have c32b0 : (t559 == t564) = true := beq_iff_eq.mpr c32
            have c32b1 : (t559 != t564) = false := bne_eq_false_iff_eq.mpr c32
            clear c32
            by_cases c33 : t560 = t565
            · rw [if_pos c33] at H
              have c33b0 : (t560 == t565) = true := beq_iff_eq.mpr c33
              have c33b1 : (t560 != t565) = false := bne_eq_false_iff_eq.mpr c33
              clear c33
              obtain rfl := Option.some.inj H
              try go_wp2
              have n0_ := Aside0.mk (blk_drew BK553.out)
              have n1_ := Aside0.mk (below_drew1 HB.out)
              clear BK553
              clear HB
              have BK553 := n0_
              have HB := n1_
              clear n0_ n1_
              refine start_ (n := 13) (S := fun w' => w'.cell? ⟨gb553, 0, none⟩ = some (.int .i64 a0_0) ∧ w'.cell? ⟨gb553, 1, none⟩ = some (.slice A0_1 l0_1.length c0_1) ∧ w'.cell? ⟨gb553, 2, none⟩ = some (.slice A0_2 l0_2.length c0_2)) (ds := []) #[false, false, false, false, false, false, false, false, false, false, false, false, false] (by kernel_rfl) rfl rfl ⟨(blk_cell BK553.out 0).trans rfl, (blk_cell BK553.out 1).trans rfl, (blk_cell BK553.out 2).trans rfl⟩ (fun hHeld => ?_); refine with_tabW casementlaw13_CheckEffects.tab9 casementlaw13_CheckEffects.bits9 (fun HT_ HW_ => ?_)
              generalize wr.drew = w34 at BK553 HB hHeld ⊢
              refine pure_ (i := 1) (N := some 42) (v := ?_) (a' := ?_) #[false, true, false, false, false, false, false, false, false, false, false, false, false] rfl rfl (any_of HT_.out (by kernel_rfl)) (fun _ _ _ h => h) (Or.inl ⟨by rfl, ?_⟩) ?_ ?_
              rotate_left
              · intro w'
                go_simp
                with_reducible rfl
              rotate_left
              · simp only [Act.put, List.setIfInBounds_toArray, List.set_cons_zero, List.set_cons_succ, i64_w, i32_w]
                rfl
              refine pure_ (i := 2) (N := some 43) (v := ?_) (a' := ?_) #[false, true, true, false, false, false, false, false, false, false, false, false, false] rfl rfl (any_of HT_.out (by kernel_rfl)) (fun _ _ _ h => h) (Or.inl ⟨by rfl, ?_⟩) ?_ ?_
              rotate_left
              · intro w'
                go_simp
                with_reducible rfl
              rotate_left
              · simp only [Act.put, List.setIfInBounds_toArray, List.set_cons_zero, List.set_cons_succ, i64_w, i32_w]
                rfl
              refine pure_ (i := 3) (N := some 44) (v := ?_) (a' := ?_) #[false, true, true, true, false, false, false, false, false, false, false, false, false] rfl rfl (any_of HT_.out (by kernel_rfl)) (fun _ _ _ h => h) (Or.inl ⟨by rfl, ?_⟩) ?_ ?_
              rotate_left
              · intro w'
                go_simp
                with_reducible rfl
              rotate_left
              · simp only [Act.put, List.setIfInBounds_toArray, List.set_cons_zero, List.set_cons_succ, i64_w, i32_w]
                rfl
              refine take_ (i := 0) (N := some 41) (v := ?_) (a' := ?_) #[true, true, true, true, false, false, false, false, false, false, false, false, false] rfl rfl (take_ofW HT_.out HW_.out (by kernel_rfl)) (fun _ _ _ h => h) (Or.inl ⟨by rfl, ?_⟩) hHeld ?_ ?_
              rotate_left
              · rintro w' ⟨s0, s1, s2⟩
                go_simp
                with_reducible rfl
              rotate_left
              · simp only [Act.put, List.setIfInBounds_toArray, List.set_cons_zero, List.set_cons_succ, i64_w, i32_w]
                rfl
              refine one_ (i := 4) (N := some 45) #[true, true, true, true, true, false, false, false, false, false, false, false, false] rfl rfl (one_of HT_.out (by kernel_rfl)) (by decide) (fun K hK => ?_)
              refine goes_ Try.func15 (by kernel_rfl) rfl #[.int .i64 a2, .int .i64 a3] (by rfl) rfl rfl (by (try simp only [List.map_toArray, List.map_cons, List.map_nil]); first | done | rfl | (simp only [List.length_drop, List.length_take]; rfl)) ?_
              with_reducible refine (casementlaw13_ins.calls a2 a3 t557 t558 _ A28.out).mono ?_
              rintro e w35 ⟨rfl, hb⟩
              refine ⟨_, rfl, ?_⟩
              have n0_ := Aside0.mk (blk_below (g := gb553) (o := .cells #[.int .i64 a0_0, .slice A0_1 l0_1.length c0_1, .slice A0_2 l0_2.length c0_2] 25 (0, 0)) (by (with_reducible repeat (first | refine blk_drewN ?_ _ | refine blk_drew ?_ | refine blk_alloc ?_ _)); exact BK553.out) hb)
              have n1_ := Aside0.mk (below_step (by repeat (first | (with_reducible first | exact HB.out | apply below_alloc | apply pw_below_drewN | apply below_drew1 | refine below_set ?_ GE553.out) | exact HB.out)) hb)
              clear BK553
              clear HB
              have BK553 := n0_
              have HB := n1_
              clear n0_ n1_
              (try clear hb)
              (try clear hb2)
              (try clear hk)
              (try clear hi)
              refine hK.out _ _ ⟨(blk_cell BK553.out 0).trans rfl, (blk_cell BK553.out 1).trans rfl, (blk_cell BK553.out 2).trans rfl⟩ (fun hHeld => ?_)
              clear hK K
              refine norm_ (a' := ?_) ?_ ?_
              rotate_left
              · show Act.put _ (some 45) _ = _
                simp only [Act.put, List.setIfInBounds_toArray, List.set_cons_zero, List.set_cons_succ, i64_w, i32_w]
                rfl
              refine one_ (i := 5) (N := some 46) #[true, true, true, true, true, true, false, false, false, false, false, false, false] rfl rfl (one_of HT_.out (by kernel_rfl)) (by decide) (fun K hK => ?_)
              refine goes_ Try.func14 (by kernel_rfl) rfl #[.agg #[.int .i64 a0_0, .slice A0_1 l0_1.length c0_1, .slice A0_2 l0_2.length c0_2], .int .i64 a1, .agg #[.int .i64 t557, .int .i64 t558]] (by rfl) rfl rfl (by (try simp only [List.map_toArray, List.map_cons, List.map_nil]); first | done | rfl | (simp only [List.length_drop, List.length_take]; rfl)) ?_
              with_reducible refine (check_Effect.calls k1 a0_0 _ _ l0_1 _ _ l0_2 a1 t557 t558 t559 t560 t561 _ ?side1 ?side2 ?side3 ?side4 A29.out).mono ?_
              (case side1 => repeat (first | exact (Kd.C_below HR0_1.out HB.out) | (with_reducible refine Kd.C_alloc ?_ _) | (with_reducible refine Kd.C_drewN ?_ _) | (with_reducible refine Kd.C_drew ?_)))
              (case side2 => exact HC0_1.out)
              (case side3 => repeat (first | exact (Kd.C_below HR0_2.out HB.out) | (with_reducible refine Kd.C_alloc ?_ _) | (with_reducible refine Kd.C_drewN ?_ _) | (with_reducible refine Kd.C_drew ?_)))
              (case side4 => exact HC0_2.out)
              rintro e w36 ⟨rfl, hb⟩
              refine ⟨_, rfl, ?_⟩
              have n0_ := Aside0.mk (blk_below (g := gb553) (o := .cells #[.int .i64 a0_0, .slice A0_1 l0_1.length c0_1, .slice A0_2 l0_2.length c0_2] 25 (0, 0)) (by (with_reducible repeat (first | refine blk_drewN ?_ _ | refine blk_drew ?_ | refine blk_alloc ?_ _)); exact BK553.out) hb)
              have n1_ := Aside0.mk (below_step (by repeat (first | (with_reducible first | exact HB.out | apply below_alloc | apply pw_below_drewN | apply below_drew1 | refine below_set ?_ GE553.out) | exact HB.out)) hb)
              clear BK553
              clear HB
              have BK553 := n0_
              have HB := n1_
              clear n0_ n1_
              (try clear hb)
              (try clear hb2)
              (try clear hk)
              (try clear hi)
              refine hK.out _ _ ⟨(blk_cell BK553.out 0).trans rfl, (blk_cell BK553.out 1).trans rfl, (blk_cell BK553.out 2).trans rfl⟩ (fun hHeld => ?_)
              clear hK K
              refine norm_ (a' := ?_) ?_ ?_
              rotate_left
              · show Act.put _ (some 46) _ = _
                simp only [Act.put, List.setIfInBounds_toArray, List.set_cons_zero, List.set_cons_succ, i64_w, i32_w]
                rfl
              refine pure_ (i := 6) (N := some 40) (v := ?_) (a' := ?_) #[true, true, true, true, true, true, true, false, false, false, false, false, false] rfl rfl (any_of HT_.out (by kernel_rfl)) (fun _ _ _ h => h) (Or.inl ⟨by rfl, ?_⟩) ?_ ?_
              rotate_left
              · intro w'
                go_simp
                with_reducible rfl
              rotate_left
              · simp only [Act.put, List.setIfInBounds_toArray, List.set_cons_zero, List.set_cons_succ, i64_w, i32_w]
                rfl
              refine pure_ (i := 7) (N := some 47) (v := ?_) (a' := ?_) #[true, true, true, true, true, true, true, true, false, false, false, false, false] rfl rfl (any_of HT_.out (by kernel_rfl)) (fun _ _ _ h => h) (Or.inl ⟨by rfl, ?_⟩) ?_ ?_
              rotate_left
              · intro w'
                go_simp
                with_reducible rfl
              rotate_left
              · simp only [Act.put, List.setIfInBounds_toArray, List.set_cons_zero, List.set_cons_succ, i64_w, i32_w]
                rfl
              refine pure_ (i := 8) (N := some 48) (v := ?_) (a' := ?_) #[true, true, true, true, true, true, true, true, true, false, false, false, false] rfl rfl (any_of HT_.out (by kernel_rfl)) (fun _ _ _ h => h) (Or.inl ⟨by rfl, ?_⟩) ?_ ?_
              rotate_left
              · intro w'
                go_simp
                with_reducible rfl
              rotate_left
              · simp only [Act.put, List.setIfInBounds_toArray, List.set_cons_zero, List.set_cons_succ, i64_w, i32_w]
                rfl
              refine pure_ (i := 9) (N := some 49) (v := ?_) (a' := ?_) #[true, true, true, true, true, true, true, true, true, true, false, false, false] rfl rfl (any_of HT_.out (by kernel_rfl)) (fun _ _ _ h => h) (Or.inl ⟨by rfl, ?_⟩) ?_ ?_
              rotate_left
              · intro w'
                go_simp
                with_reducible rfl
              rotate_left
              · simp only [Act.put, List.setIfInBounds_toArray, List.set_cons_zero, List.set_cons_succ, i64_w, i32_w]
                rfl
              refine pure_ (i := 10) (N := some 11) (v := ?_) (a' := ?_) #[true, true, true, true, true, true, true, true, true, true, true, false, false] rfl rfl (any_of HT_.out (by kernel_rfl)) (fun _ _ _ h => h) (Or.inl ⟨by rfl, ?_⟩) ?_ ?_
              rotate_left
              · intro w'
                go_simp
                with_reducible rfl
              rotate_left
              · simp only [Act.put, List.setIfInBounds_toArray, List.set_cons_zero, List.set_cons_succ, i64_w, i32_w]
                rfl
              refine pure_ (i := 11) (N := some 12) (v := ?_) (a' := ?_) #[true, true, true, true, true, true, true, true, true, true, true, true, false] rfl rfl (any_of HT_.out (by kernel_rfl)) (fun _ _ _ h => h) (Or.inl ⟨by rfl, ?_⟩) ?_ ?_
              rotate_left
              · intro w'
                go_simp
                with_reducible rfl
              rotate_left
              · simp only [Act.put, List.setIfInBounds_toArray, List.set_cons_zero, List.set_cons_succ, i64_w, i32_w]
                rfl
              refine pure_ (i := 12) (N := some 13) (v := ?_) (a' := ?_) #[true, true, true, true, true, true, true, true, true, true, true, true, true] rfl rfl (any_of HT_.out (by kernel_rfl)) (fun _ _ _ h => h) (Or.inl ⟨by rfl, ?_⟩) ?_ ?_
              rotate_left
              · intro w'
                go_simp
                with_reducible rfl
              rotate_left
              · simp only [Act.put, List.setIfInBounds_toArray, List.set_cons_zero, List.set_cons_succ, i64_w, i32_w]
                rfl
              refine done_ (done_of HT_.out (by kernel_rfl)) ?_
              try go_wp2
              have n0_ := Aside0.mk (blk_drew BK553.out)
              have n1_ := Aside0.mk (below_drew1 HB.out)
              clear BK553
              clear HB
              have BK553 := n0_
              have HB := n1_
              clear n0_ n1_
              refine start_ (n := 13) (S := fun w' => w'.cell? ⟨gb553, 0, none⟩ = some (.int .i64 a0_0) ∧ w'.cell? ⟨gb553, 1, none⟩ = some (.slice A0_1 l0_1.length c0_1) ∧ w'.cell? ⟨gb553, 2, none⟩ = some (.slice A0_2 l0_2.length c0_2)) (ds := []) #[false, false, false, false, false, false, false, false, false, false, false, false, false] (by kernel_rfl) rfl rfl ⟨(blk_cell BK553.out 0).trans rfl, (blk_cell BK553.out 1).trans rfl, (blk_cell BK553.out 2).trans rfl⟩ (fun hHeld => ?_); refine with_tabW casementlaw13_CheckEffects.tab10 casementlaw13_CheckEffects.bits10 (fun HT_ HW_ => ?_)
              generalize w36.drew = w37 at BK553 HB hHeld ⊢
              refine pure_ (i := 1) (N := some 52) (v := ?_) (a' := ?_) #[false, true, false, false, false, false, false, false, false, false, false, false, false] rfl rfl (any_of HT_.out (by kernel_rfl)) (fun _ _ _ h => h) (Or.inl ⟨by rfl, ?_⟩) ?_ ?_
              rotate_left
              · intro w'
                go_simp
                with_reducible rfl
              rotate_left
              · simp only [Act.put, List.setIfInBounds_toArray, List.set_cons_zero, List.set_cons_succ, i64_w, i32_w]
                rfl
              refine pure_ (i := 2) (N := some 53) (v := ?_) (a' := ?_) #[false, true, true, false, false, false, false, false, false, false, false, false, false] rfl rfl (any_of HT_.out (by kernel_rfl)) (fun _ _ _ h => h) (Or.inl ⟨by rfl, ?_⟩) ?_ ?_
              rotate_left
              · intro w'
                go_simp
                with_reducible rfl
              rotate_left
              · simp only [Act.put, List.setIfInBounds_toArray, List.set_cons_zero, List.set_cons_succ, i64_w, i32_w]
                rfl
              refine pure_ (i := 3) (N := some 54) (v := ?_) (a' := ?_) #[false, true, true, true, false, false, false, false, false, false, false, false, false] rfl rfl (any_of HT_.out (by kernel_rfl)) (fun _ _ _ h => h) (Or.inl ⟨by rfl, ?_⟩) ?_ ?_
              rotate_left
              · intro w'
                go_simp
                with_reducible rfl
              rotate_left
              · simp only [Act.put, List.setIfInBounds_toArray, List.set_cons_zero, List.set_cons_succ, i64_w, i32_w]
                rfl
              refine take_ (i := 0) (N := some 51) (v := ?_) (a' := ?_) #[true, true, true, true, false, false, false, false, false, false, false, false, false] rfl rfl (take_ofW HT_.out HW_.out (by kernel_rfl)) (fun _ _ _ h => h) (Or.inl ⟨by rfl, ?_⟩) hHeld ?_ ?_
              rotate_left
              · rintro w' ⟨s0, s1, s2⟩
                go_simp
                with_reducible rfl
              rotate_left
              · simp only [Act.put, List.setIfInBounds_toArray, List.set_cons_zero, List.set_cons_succ, i64_w, i32_w]
                rfl
              refine one_ (i := 4) (N := some 55) #[true, true, true, true, true, false, false, false, false, false, false, false, false] rfl rfl (one_of HT_.out (by kernel_rfl)) (by decide) (fun K hK => ?_)
              refine goes_ Try.func15 (by kernel_rfl) rfl #[.int .i64 a2, .int .i64 a3] (by rfl) rfl rfl (by (try simp only [List.map_toArray, List.map_cons, List.map_nil]); first | done | rfl | (simp only [List.length_drop, List.length_take]; rfl)) ?_
              with_reducible refine (casementlaw13_ins.calls a2 a3 t562 t563 _ A30.out).mono ?_
              rintro e w38 ⟨rfl, hb⟩
              refine ⟨_, rfl, ?_⟩
              have n0_ := Aside0.mk (blk_below (g := gb553) (o := .cells #[.int .i64 a0_0, .slice A0_1 l0_1.length c0_1, .slice A0_2 l0_2.length c0_2] 25 (0, 0)) (by (with_reducible repeat (first | refine blk_drewN ?_ _ | refine blk_drew ?_ | refine blk_alloc ?_ _)); exact BK553.out) hb)
              have n1_ := Aside0.mk (below_step (by repeat (first | (with_reducible first | exact HB.out | apply below_alloc | apply pw_below_drewN | apply below_drew1 | refine below_set ?_ GE553.out) | exact HB.out)) hb)
              clear BK553
              clear HB
              have BK553 := n0_
              have HB := n1_
              clear n0_ n1_
              (try clear hb)
              (try clear hb2)
              (try clear hk)
              (try clear hi)
              refine hK.out _ _ ⟨(blk_cell BK553.out 0).trans rfl, (blk_cell BK553.out 1).trans rfl, (blk_cell BK553.out 2).trans rfl⟩ (fun hHeld => ?_)
              clear hK K
              refine norm_ (a' := ?_) ?_ ?_
              rotate_left
              · show Act.put _ (some 55) _ = _
                simp only [Act.put, List.setIfInBounds_toArray, List.set_cons_zero, List.set_cons_succ, i64_w, i32_w]
                rfl
              refine one_ (i := 5) (N := some 56) #[true, true, true, true, true, true, false, false, false, false, false, false, false] rfl rfl (one_of HT_.out (by kernel_rfl)) (by decide) (fun K hK => ?_)
              refine goes_ Try.func16 (by kernel_rfl) rfl #[.agg #[.int .i64 a0_0, .slice A0_1 l0_1.length c0_1, .slice A0_2 l0_2.length c0_2], .int .i64 a1, .agg #[.int .i64 t562, .int .i64 t563]] (by rfl) rfl rfl (by (try simp only [List.map_toArray, List.map_cons, List.map_nil]); first | done | rfl | (simp only [List.length_drop, List.length_take]; rfl)) ?_
              with_reducible refine (casementref13_Effect.calls k1 a0_0 _ _ l0_1 _ _ l0_2 a1 t562 t563 t564 t565 t566 _ ?side1 ?side2 ?side3 ?side4 A31.out).mono ?_
              (case side1 => repeat (first | exact (Kd.C_below HR0_1.out HB.out) | (with_reducible refine Kd.C_alloc ?_ _) | (with_reducible refine Kd.C_drewN ?_ _) | (with_reducible refine Kd.C_drew ?_)))
              (case side2 => exact HC0_1.out)
              (case side3 => repeat (first | exact (Kd.C_below HR0_2.out HB.out) | (with_reducible refine Kd.C_alloc ?_ _) | (with_reducible refine Kd.C_drewN ?_ _) | (with_reducible refine Kd.C_drew ?_)))
              (case side4 => exact HC0_2.out)
              rintro e w39 ⟨rfl, hb⟩
              refine ⟨_, rfl, ?_⟩
              have n0_ := Aside0.mk (blk_below (g := gb553) (o := .cells #[.int .i64 a0_0, .slice A0_1 l0_1.length c0_1, .slice A0_2 l0_2.length c0_2] 25 (0, 0)) (by (with_reducible repeat (first | refine blk_drewN ?_ _ | refine blk_drew ?_ | refine blk_alloc ?_ _)); exact BK553.out) hb)
              have n1_ := Aside0.mk (below_step (by repeat (first | (with_reducible first | exact HB.out | apply below_alloc | apply pw_below_drewN | apply below_drew1 | refine below_set ?_ GE553.out) | exact HB.out)) hb)
              clear BK553
              clear HB
              have BK553 := n0_
              have HB := n1_
              clear n0_ n1_
              (try clear hb)
              (try clear hb2)
              (try clear hk)
              (try clear hi)
              refine hK.out _ _ ⟨(blk_cell BK553.out 0).trans rfl, (blk_cell BK553.out 1).trans rfl, (blk_cell BK553.out 2).trans rfl⟩ (fun hHeld => ?_)
              clear hK K
              refine norm_ (a' := ?_) ?_ ?_
              rotate_left
              · show Act.put _ (some 56) _ = _
                simp only [Act.put, List.setIfInBounds_toArray, List.set_cons_zero, List.set_cons_succ, i64_w, i32_w]
                rfl
              refine pure_ (i := 6) (N := some 50) (v := ?_) (a' := ?_) #[true, true, true, true, true, true, true, false, false, false, false, false, false] rfl rfl (any_of HT_.out (by kernel_rfl)) (fun _ _ _ h => h) (Or.inl ⟨by rfl, ?_⟩) ?_ ?_
              rotate_left
              · intro w'
                go_simp
                with_reducible rfl
              rotate_left
              · simp only [Act.put, List.setIfInBounds_toArray, List.set_cons_zero, List.set_cons_succ, i64_w, i32_w]
                rfl
              refine pure_ (i := 7) (N := some 57) (v := ?_) (a' := ?_) #[true, true, true, true, true, true, true, true, false, false, false, false, false] rfl rfl (any_of HT_.out (by kernel_rfl)) (fun _ _ _ h => h) (Or.inl ⟨by rfl, ?_⟩) ?_ ?_
              rotate_left
              · intro w'
                go_simp
                with_reducible rfl
              rotate_left
              · simp only [Act.put, List.setIfInBounds_toArray, List.set_cons_zero, List.set_cons_succ, i64_w, i32_w]
                rfl
              refine pure_ (i := 8) (N := some 58) (v := ?_) (a' := ?_) #[true, true, true, true, true, true, true, true, true, false, false, false, false] rfl rfl (any_of HT_.out (by kernel_rfl)) (fun _ _ _ h => h) (Or.inl ⟨by rfl, ?_⟩) ?_ ?_
              rotate_left
              · intro w'
                go_simp
                with_reducible rfl
              rotate_left
              · simp only [Act.put, List.setIfInBounds_toArray, List.set_cons_zero, List.set_cons_succ, i64_w, i32_w]
                rfl
              refine pure_ (i := 9) (N := some 59) (v := ?_) (a' := ?_) #[true, true, true, true, true, true, true, true, true, true, false, false, false] rfl rfl (any_of HT_.out (by kernel_rfl)) (fun _ _ _ h => h) (Or.inl ⟨by rfl, ?_⟩) ?_ ?_
              rotate_left
              · intro w'
                go_simp
                with_reducible rfl
              rotate_left
              · simp only [Act.put, List.setIfInBounds_toArray, List.set_cons_zero, List.set_cons_succ, i64_w, i32_w]
                rfl
              refine pure_ (i := 10) (N := some 14) (v := ?_) (a' := ?_) #[true, true, true, true, true, true, true, true, true, true, true, false, false] rfl rfl (any_of HT_.out (by kernel_rfl)) (fun _ _ _ h => h) (Or.inl ⟨by rfl, ?_⟩) ?_ ?_
              rotate_left
              · intro w'
                go_simp
                with_reducible rfl
              rotate_left
              · simp only [Act.put, List.setIfInBounds_toArray, List.set_cons_zero, List.set_cons_succ, i64_w, i32_w]
                rfl
              refine pure_ (i := 11) (N := some 15) (v := ?_) (a' := ?_) #[true, true, true, true, true, true, true, true, true, true, true, true, false] rfl rfl (any_of HT_.out (by kernel_rfl)) (fun _ _ _ h => h) (Or.inl ⟨by rfl, ?_⟩) ?_ ?_
              rotate_left
              · intro w'
                go_simp
                with_reducible rfl
              rotate_left
              · simp only [Act.put, List.setIfInBounds_toArray, List.set_cons_zero, List.set_cons_succ, i64_w, i32_w]
                rfl
              refine pure_ (i := 12) (N := some 16) (v := ?_) (a' := ?_) #[true, true, true, true, true, true, true, true, true, true, true, true, true] rfl rfl (any_of HT_.out (by kernel_rfl)) (fun _ _ _ h => h) (Or.inl ⟨by rfl, ?_⟩) ?_ ?_
              rotate_left
              · intro w'
                go_simp
                with_reducible rfl
              rotate_left
              · simp only [Act.put, List.setIfInBounds_toArray, List.set_cons_zero, List.set_cons_succ, i64_w, i32_w]
                rfl
              refine done_ (done_of HT_.out (by kernel_rfl)) ?_
              try go_wp2
              go_ret
              exact ⟨by first | rfl | (simp [errW_none, errW_some] <;> rfl) | (simp [*, errW_none, errW_some] <;> rfl), by repeat (first | (with_reducible first | exact HB.out | apply below_alloc | apply pw_below_drewN | apply below_drew1 | refine below_set ?_ GE553.out) | exact HB.out)⟩
            · rw [if_neg c33] at H
              have c33b0 : (t560 == t565) = false := beq_eq_false_iff_ne.mpr c33
              have c33b1 : (t560 != t565) = true := bne_iff_ne.mpr c33
              exact absurd ((Option.some.inj H).trans HRT.out) (by decide)
          · rw [if_neg c32] at H
            have c32b0 : (t559 == t564) = false := beq_eq_false_iff_ne.mpr c32
            have c32b1 : (t559 != t564) = true := bne_iff_ne.mpr c32
            exact absurd ((Option.some.inj H).trans HRT.out) (by decide)
  · replace c6 := Bool.eq_false_iff.mpr c6
    subst c6
    have H1 : (some false) = some r := by rw [if_neg (show ¬ (false = true) by decide)] at H; exact H
    clear H
    have H := H1
    clear H1
    exact absurd ((Option.some.inj H).trans HRT.out) (by decide)

def casementlaw13_CheckEffects.Pure : Prop := ∀ (a0_0 : Int) (l0_1 : List Int) (l0_2 : List (S42)) (a1 : Int) (a2 : Int) (a3 : Int), ((Lit.int .i64 a0_0).wf = true) → l0_1.length ≤ maxLen → l0_1.length * 1 ≤ 140737488351232 → (∀ y_ ∈ l0_1, (Lit.int .u8 y_).wf = true) → l0_2.length ≤ maxLen → l0_2.length * 48 ≤ 140737488351232 → (∀ y_ ∈ l0_2, okS42 y_) → ((Lit.int .i64 a1).wf = true) → ((Lit.int .i64 a2).wf = true) → ((Lit.int .i64 a3).wf = true) → ∃ k, casementlaw13_CheckEffects.f k a0_0 l0_1 l0_2 a1 a2 a3 = some true
theorem casementlaw13_CheckEffects.walk (P : casementlaw13_CheckEffects.Pure) (a0_0 : Int) (A0_1 : Option Addr) (c0_1 : Nat) (l0_1 : List Int) (A0_2 : Option Addr) (c0_2 : Nat) (l0_2 : List (S42)) (a1 : Int) (a2 : Int) (a3 : Int) (w : World) (wl0 : ((Lit.int .i64 a0_0).wf = true)) (wl1 : l0_1.length ≤ maxLen) (wl2 : l0_1.length * 1 ≤ 140737488351232) (wl3 : (∀ y_ ∈ l0_1, (Lit.int .u8 y_).wf = true)) (wl4 : l0_2.length ≤ maxLen) (wl5 : l0_2.length * 48 ≤ 140737488351232) (wl6 : (∀ y_ ∈ l0_2, okS42 y_)) (wl7 : ((Lit.int .i64 a1).wf = true)) (wl8 : ((Lit.int .i64 a2).wf = true)) (wl9 : ((Lit.int .i64 a3).wf = true)) (hr0_1 : Kd.C (Kd.int .u8) w A0_1 l0_1.length l0_1) (hc0_1 : l0_1.length ≤ c0_1) (hr0_2 : Kd.C k42 w A0_2 l0_2.length l0_2) (hc0_2 : l0_2.length ≤ c0_2) :
    Calls Try.prog 4 #[.agg #[.int .i64 a0_0, .slice A0_1 l0_1.length c0_1, .slice A0_2 l0_2.length c0_2], .int .i64 a1, .int .i64 a2, .int .i64 a3] w fun e w' => e = .returned (.bool true) ∧ Below w.heap.size w w' := by
  obtain ⟨k, h⟩ := P a0_0 l0_1 l0_2 a1 a2 a3 wl0 wl1 wl2 wl3 wl4 wl5 wl6 wl7 wl8 wl9
  refine (casementlaw13_CheckEffects.calls k a0_0 _ _ l0_1 _ _ l0_2 a1 a2 a3 true w hr0_1 hc0_1 hr0_2 hc0_2 h rfl).mono ?_
  rintro e w' ⟨rfl, hd⟩
  exact ⟨rfl, hd⟩

end Go.Proofs.Ytgngbbkaghmnpaa.Q
