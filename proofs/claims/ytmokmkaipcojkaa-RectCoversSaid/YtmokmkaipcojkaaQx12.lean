-- written by a program of this session after the way of the kit's print; not the kit's own print. Lean checks it.
import Derived.Test.YtmokmkaipcojkaaQx0
import Derived.Test.YtmokmkaipcojkaaQx2
import Derived.Test.YtmokmkaipcojkaaQx3
namespace Go.Proofs.Ytmokmkaipcojkaa.Q
open Go.RowKit Go.Proofs.YtmokmkaipcojkaaW.PrintWords Go.Proofs.YtmokmkaipcojkaaW.PrintLast Go.Proofs.YtmokmkaipcojkaaW.PrintMore
attribute [local go_sem] max2_int min2_int max_two min_two max_three min_three max_four min_four   -- for this text's walks alone
set_option linter.unusedVariables false
set_option linter.unusedSimpArgs false

/-! ### rect_Into: function 33 -/
def rect_Into.f (a0_0 : Int) (a0_1 : Int) (a0_2 : Int) (a0_3 : Int) (a1_0 : Int) (a1_1 : Int) (a1_2 : Int) (a1_3 : Int) : Option (Int × Int × Int × Int) := (rect_Clean.f a0_0 a0_1 a0_2 a0_3).bind fun bt229 => ((rect_Clean.f a1_0 a1_1 a1_2 a1_3).bind fun bt233 => ((rect_Clamp.f bt229.1 bt233.1 (wrap64 ((wrap64 (bt233.1 + bt233.2.2.1)) - (mn bt229.2.2.1 bt233.2.2.1)))).bind fun t237 => ((rect_Clamp.f bt229.2.1 bt233.2.1 (wrap64 ((wrap64 (bt233.2.1 + bt233.2.2.2)) - (mn bt229.2.2.2 bt233.2.2.2)))).bind fun t238 => ((rect_Clean.f t237 t238 (mn bt229.2.2.1 bt233.2.2.1) (mn bt229.2.2.2 bt233.2.2.2)).bind fun bt239 => (some (bt239.1, bt239.2.1, bt239.2.2.1, bt239.2.2.2))))))
def rect_Into.T2 : Bool × List (List Nat × List Nat) := (true, [([], []), ([0], [0]), ([], []), ([2], [2]), ([1, 3], [1, 3]), ([], []), ([5], [5]), ([], []), ([7], [7]), ([6, 8], [6, 8]), ([0, 1, 2, 3, 4, 5, 6], []), ([10, 4, 0, 1, 2, 3, 4, 5, 6], [4, 10]), ([0, 1, 2, 3, 4, 5, 6, 7, 8, 9, 10, 11], []), ([12, 9, 11, 0, 1, 2, 3, 4, 5, 6, 7, 8, 9, 10, 11], [9, 12])])
def rect_Into.B2 : List Nat := [0, 1, 0, 4, 15, 0, 32, 0, 128, 480, 127, 1151, 4095, 8191]
theorem rect_Into.tab2 : rtab .any (opsOf Try.f33 2) = rect_Into.T2 := by kernel_rfl
theorem rect_Into.bits2 : waitsOk rect_Into.T2.2 rect_Into.B2 = true := by kernel_rfl
set_option maxHeartbeats 8000000 in
set_option maxRecDepth 100000 in
theorem rect_Into.calls (a0_0 : Int) (a0_1 : Int) (a0_2 : Int) (a0_3 : Int) (a1_0 : Int) (a1_1 : Int) (a1_2 : Int) (a1_3 : Int) (r1 : Int) (r2 : Int) (r3 : Int) (r4 : Int) (w : World) (h : rect_Into.f a0_0 a0_1 a0_2 a0_3 a1_0 a1_1 a1_2 a1_3 = some (r1, r2, r3, r4)) :
    Calls Try.prog 33 #[.agg #[.int .i64 a0_0, .int .i64 a0_1, .int .i64 a0_2, .int .i64 a0_3], .agg #[.int .i64 a1_0, .int .i64 a1_1, .int .i64 a1_2, .int .i64 a1_3]] w fun e w' => e = .returned (.agg #[.int .i64 r1, .int .i64 r2, .int .i64 r3, .int .i64 r4]) ∧ Below w.heap.size w w' := by
  have hu26 := Try.underlying26
  have HB := Aside0.mk (Below.refl w.heap.size w)
  have H : ((rect_Clean.f a0_0 a0_1 a0_2 a0_3).bind fun bt229 => ((rect_Clean.f a1_0 a1_1 a1_2 a1_3).bind fun bt233 => ((rect_Clamp.f bt229.1 bt233.1 (wrap64 ((wrap64 (bt233.1 + bt233.2.2.1)) - (mn bt229.2.2.1 bt233.2.2.1)))).bind fun t237 => ((rect_Clamp.f bt229.2.1 bt233.2.1 (wrap64 ((wrap64 (bt233.2.1 + bt233.2.2.2)) - (mn bt229.2.2.2 bt233.2.2.2)))).bind fun t238 => ((rect_Clean.f t237 t238 (mn bt229.2.2.1 bt233.2.2.1) (mn bt229.2.2.2 bt233.2.2.2)).bind fun bt239 => (some (bt239.1, bt239.2.1, bt239.2.2.1, bt239.2.2.2))))))) = some (r1, r2, r3, r4) := h
  clear h
  replace H := Option.bind_eq_some_iff.mp H
  obtain ⟨⟨t229, t230, t231, t232⟩, A30, H⟩ := H
  replace H : ((rect_Clean.f a1_0 a1_1 a1_2 a1_3).bind fun bt233 => ((rect_Clamp.f t229 bt233.1 (wrap64 ((wrap64 (bt233.1 + bt233.2.2.1)) - (mn t231 bt233.2.2.1)))).bind fun t237 => ((rect_Clamp.f t230 bt233.2.1 (wrap64 ((wrap64 (bt233.2.1 + bt233.2.2.2)) - (mn t232 bt233.2.2.2)))).bind fun t238 => ((rect_Clean.f t237 t238 (mn t231 bt233.2.2.1) (mn t232 bt233.2.2.2)).bind fun bt239 => (some (bt239.1, bt239.2.1, bt239.2.2.1, bt239.2.2.2)))))) = some (r1, r2, r3, r4) := H
  have A3 := Aside0.mk A30
  clear A30
  replace H := Option.bind_eq_some_iff.mp H
  obtain ⟨⟨t233, t234, t235, t236⟩, A40, H⟩ := H
  replace H : ((rect_Clamp.f t229 t233 (wrap64 ((wrap64 (t233 + t235)) - (mn t231 t235)))).bind fun t237 => ((rect_Clamp.f t230 t234 (wrap64 ((wrap64 (t234 + t236)) - (mn t232 t236)))).bind fun t238 => ((rect_Clean.f t237 t238 (mn t231 t235) (mn t232 t236)).bind fun bt239 => (some (bt239.1, bt239.2.1, bt239.2.2.1, bt239.2.2.2))))) = some (r1, r2, r3, r4) := H
  have A4 := Aside0.mk A40
  clear A40
  obtain ⟨ji5, hji5⟩ : ∃ j_ : Int, (mn t231 t235) = j_ := ⟨_, rfl⟩
  replace H : ((rect_Clamp.f t229 t233 (wrap64 ((wrap64 (t233 + t235)) - (ji5)))).bind fun t237 => ((rect_Clamp.f t230 t234 (wrap64 ((wrap64 (t234 + t236)) - (mn t232 t236)))).bind fun t238 => ((rect_Clean.f t237 t238 (ji5) (mn t232 t236)).bind fun bt239 => (some (bt239.1, bt239.2.1, bt239.2.2.1, bt239.2.2.2))))) = some (r1, r2, r3, r4) := by first | (rw [hji5] at H; exact H) | (simp only [hji5] at H ⊢; exact H)
  (try rw [hji5] at A3)
  (try rw [hji5] at A4)
  have hji5_ : (if t235 < t231 then t235 else t231) = ji5 := hji5
  obtain ⟨ji6, hji6⟩ : ∃ j_ : Int, (mn t232 t236) = j_ := ⟨_, rfl⟩
  replace H : ((rect_Clamp.f t229 t233 (wrap64 ((wrap64 (t233 + t235)) - (ji5)))).bind fun t237 => ((rect_Clamp.f t230 t234 (wrap64 ((wrap64 (t234 + t236)) - (ji6)))).bind fun t238 => ((rect_Clean.f t237 t238 (ji5) (ji6)).bind fun bt239 => (some (bt239.1, bt239.2.1, bt239.2.2.1, bt239.2.2.2))))) = some (r1, r2, r3, r4) := by first | (rw [hji6] at H; exact H) | (simp only [hji6] at H ⊢; exact H)
  (try rw [hji6] at A3)
  (try rw [hji6] at A4)
  have hji6_ : (if t236 < t232 then t236 else t232) = ji6 := hji6
  replace H := Option.bind_eq_some_iff.mp H
  obtain ⟨t237, A70, H⟩ := H
  replace H : ((rect_Clamp.f t230 t234 (wrap64 ((wrap64 (t234 + t236)) - (ji6)))).bind fun t238 => ((rect_Clean.f t237 t238 (ji5) (ji6)).bind fun bt239 => (some (bt239.1, bt239.2.1, bt239.2.2.1, bt239.2.2.2)))) = some (r1, r2, r3, r4) := H
  have A7 := Aside0.mk A70
  clear A70
  replace H := Option.bind_eq_some_iff.mp H
  obtain ⟨t238, A80, H⟩ := H
  replace H : ((rect_Clean.f t237 t238 (ji5) (ji6)).bind fun bt239 => (some (bt239.1, bt239.2.1, bt239.2.2.1, bt239.2.2.2))) = some (r1, r2, r3, r4) := H
  have A8 := Aside0.mk A80
  clear A80
  replace H := Option.bind_eq_some_iff.mp H
  obtain ⟨⟨t239, t240, t241, t242⟩, A90, H⟩ := H
  replace H : (some (t239, t240, t241, t242)) = some (r1, r2, r3, r4) := H
  have A9 := Aside0.mk A90
  clear A90
  simp only [Option.some.injEq, Prod.mk.injEq] at H
  obtain ⟨rfl, rfl, rfl, rfl⟩ := H
  go_enter Try.func33, Try.ntmps33
  try go_wp2_with (first | ((with_reducible refine gate_dst (N := 2) rfl ?_); refine box_event ?hg (N := 2) ?hd (cs := #[.int .i64 a0_0, .int .i64 a0_1, .int .i64 a0_2, .int .i64 a0_3]) (t := 26) ?hr ?_; (case hd => rfl); (case hg => rfl); (case hr => first | (go_simp; done) | (go_simp; rfl)); intro gb226 hg w10 hbox hb; have n0_ := Aside0.mk (below_step (by repeat (first | (with_reducible first | exact HB.out | apply below_alloc | apply pw_below_drewN | apply below_drew1) | exact HB.out)) hb); have n1_ := Aside0.mk (hbox); have n2_ := Aside0.mk ((by rw [hg]; exact (below_size (by repeat (first | (with_reducible first | exact HB.out | apply below_alloc | apply pw_below_drewN | apply below_drew1) | exact HB.out))) : w.heap.size ≤ gb226)); have n3_ := Aside0.mk ((by rw [hg]; exact (below_size (by repeat (first | (with_reducible first | exact HB.out | apply below_alloc | apply pw_below_drewN | apply below_drew1) | exact HB.out))) : w.heap.size ≤ gb226)); clear HB; have HB := n0_; have BK226 := n1_; have GW226 := n2_; have GE226 := n3_; clear n0_ n1_ n2_ n3_; clear hb hbox hg) | ((with_reducible refine gate_dst (N := 3) rfl ?_); refine box_event ?hg (N := 3) ?hd (cs := #[.int .i64 a1_0, .int .i64 a1_1, .int .i64 a1_2, .int .i64 a1_3]) (t := 26) ?hr ?_; (case hd => rfl); (case hg => rfl); (case hr => first | (go_simp; done) | (go_simp; rfl)); intro gb227 hg w11 hbox hb; have n0_ := Aside0.mk (blk_below (g := gb226) (o := .cells #[.int .i64 a0_0, .int .i64 a0_1, .int .i64 a0_2, .int .i64 a0_3] 26 (0, 0)) (by (with_reducible repeat (first | refine blk_drewN ?_ _ | refine blk_drew ?_ | refine blk_alloc ?_ _)); exact BK226.out) hb); have n1_ := Aside0.mk (below_step (by repeat (first | (with_reducible first | exact HB.out | apply below_alloc | apply pw_below_drewN | apply below_drew1 | refine below_set ?_ GE226.out) | exact HB.out)) hb); have n2_ := Aside0.mk (hbox); have n3_ := Aside0.mk ((by rw [hg]; exact (below_size (by repeat (first | (with_reducible first | exact HB.out | apply below_alloc | apply pw_below_drewN | apply below_drew1 | refine below_set ?_ GE226.out) | exact HB.out))) : w.heap.size ≤ gb227)); have n4_ := Aside0.mk ((by rw [hg]; exact (below_size (by repeat (first | (with_reducible first | exact HB.out | apply below_alloc | apply pw_below_drewN | apply below_drew1 | refine below_set ?_ GE226.out) | exact HB.out))) : w.heap.size ≤ gb227)); have n5_ := Aside0.mk ((by rw [hg]; exact Nat.ne_of_lt (blk_lt (g := gb226) (o := .cells #[.int .i64 a0_0, .int .i64 a0_1, .int .i64 a0_2, .int .i64 a0_3] 26 (0, 0)) (by (with_reducible repeat (first | refine blk_drewN ?_ _ | refine blk_drew ?_ | refine blk_alloc ?_ _)); exact BK226.out)) : gb226 ≠ gb227)); have n6_ := Aside0.mk ((by rw [hg]; exact Nat.ne_of_gt (blk_lt (g := gb226) (o := .cells #[.int .i64 a0_0, .int .i64 a0_1, .int .i64 a0_2, .int .i64 a0_3] 26 (0, 0)) (by (with_reducible repeat (first | refine blk_drewN ?_ _ | refine blk_drew ?_ | refine blk_alloc ?_ _)); exact BK226.out)) : gb227 ≠ gb226)); clear BK226; clear HB; have BK226 := n0_; have HB := n1_; have BK227 := n2_; have GW227 := n3_; have GE227 := n4_; have NB226_227 := n5_; have NB227_226 := n6_; clear n0_ n1_ n2_ n3_ n4_ n5_ n6_; clear hb hbox hg) | ((with_reducible refine gate_dst (N := 4) rfl ?_); refine box_event ?hg (N := 4) ?hd (cs := #[.int .i64 0, .int .i64 0, .int .i64 0, .int .i64 0]) (t := 26) ?hr ?_; (case hd => rfl); (case hg => rfl); (case hr => first | (go_simp; done) | (go_simp; rfl)); intro gb228 hg w12 hbox hb; have n0_ := Aside0.mk (blk_below (g := gb226) (o := .cells #[.int .i64 a0_0, .int .i64 a0_1, .int .i64 a0_2, .int .i64 a0_3] 26 (0, 0)) (by (with_reducible repeat (first | refine blk_drewN ?_ _ | refine blk_drew ?_ | refine blk_alloc ?_ _)); exact BK226.out) hb); have n1_ := Aside0.mk (blk_below (g := gb227) (o := .cells #[.int .i64 a1_0, .int .i64 a1_1, .int .i64 a1_2, .int .i64 a1_3] 26 (0, 0)) (by (with_reducible repeat (first | refine blk_drewN ?_ _ | refine blk_drew ?_ | refine blk_alloc ?_ _)); exact BK227.out) hb); have n2_ := Aside0.mk (below_step (by repeat (first | (with_reducible first | exact HB.out | apply below_alloc | apply pw_below_drewN | apply below_drew1 | refine below_set ?_ GE226.out | refine below_set ?_ GE227.out) | exact HB.out)) hb); have n3_ := Aside0.mk (hbox); have n4_ := Aside0.mk ((by rw [hg]; exact (below_size (by repeat (first | (with_reducible first | exact HB.out | apply below_alloc | apply pw_below_drewN | apply below_drew1 | refine below_set ?_ GE226.out | refine below_set ?_ GE227.out) | exact HB.out))) : w.heap.size ≤ gb228)); have n5_ := Aside0.mk ((by rw [hg]; exact (below_size (by repeat (first | (with_reducible first | exact HB.out | apply below_alloc | apply pw_below_drewN | apply below_drew1 | refine below_set ?_ GE226.out | refine below_set ?_ GE227.out) | exact HB.out))) : w.heap.size ≤ gb228)); have n6_ := Aside0.mk ((by rw [hg]; exact Nat.ne_of_lt (blk_lt (g := gb226) (o := .cells #[.int .i64 a0_0, .int .i64 a0_1, .int .i64 a0_2, .int .i64 a0_3] 26 (0, 0)) (by (with_reducible repeat (first | refine blk_drewN ?_ _ | refine blk_drew ?_ | refine blk_alloc ?_ _)); exact BK226.out)) : gb226 ≠ gb228)); have n7_ := Aside0.mk ((by rw [hg]; exact Nat.ne_of_gt (blk_lt (g := gb226) (o := .cells #[.int .i64 a0_0, .int .i64 a0_1, .int .i64 a0_2, .int .i64 a0_3] 26 (0, 0)) (by (with_reducible repeat (first | refine blk_drewN ?_ _ | refine blk_drew ?_ | refine blk_alloc ?_ _)); exact BK226.out)) : gb228 ≠ gb226)); have n8_ := Aside0.mk ((by rw [hg]; exact Nat.ne_of_lt (blk_lt (g := gb227) (o := .cells #[.int .i64 a1_0, .int .i64 a1_1, .int .i64 a1_2, .int .i64 a1_3] 26 (0, 0)) (by (with_reducible repeat (first | refine blk_drewN ?_ _ | refine blk_drew ?_ | refine blk_alloc ?_ _)); exact BK227.out)) : gb227 ≠ gb228)); have n9_ := Aside0.mk ((by rw [hg]; exact Nat.ne_of_gt (blk_lt (g := gb227) (o := .cells #[.int .i64 a1_0, .int .i64 a1_1, .int .i64 a1_2, .int .i64 a1_3] 26 (0, 0)) (by (with_reducible repeat (first | refine blk_drewN ?_ _ | refine blk_drew ?_ | refine blk_alloc ?_ _)); exact BK227.out)) : gb228 ≠ gb227)); clear BK226; clear BK227; clear HB; have BK226 := n0_; have BK227 := n1_; have HB := n2_; have BK228 := n3_; have GW228 := n4_; have GE228 := n5_; have NB226_228 := n6_; have NB228_226 := n7_; have NB227_228 := n8_; have NB228_227 := n9_; clear n0_ n1_ n2_ n3_ n4_ n5_ n6_ n7_ n8_ n9_; clear hb hbox hg))
  have n0_ := Aside0.mk (blk_drew BK226.out)
  have n1_ := Aside0.mk (blk_drew BK227.out)
  have n2_ := Aside0.mk (blk_drew BK228.out)
  have n3_ := Aside0.mk (below_drew1 HB.out)
  clear BK226
  clear BK227
  clear BK228
  clear HB
  have BK226 := n0_
  have BK227 := n1_
  have BK228 := n2_
  have HB := n3_
  clear n0_ n1_ n2_ n3_
  refine start_ (n := 6) (S := fun w' => w'.cell? ⟨gb226, 0, none⟩ = some (.int .i64 a0_0) ∧ w'.cell? ⟨gb226, 1, none⟩ = some (.int .i64 a0_1) ∧ w'.cell? ⟨gb226, 2, none⟩ = some (.int .i64 a0_2) ∧ w'.cell? ⟨gb226, 3, none⟩ = some (.int .i64 a0_3) ∧ w'.cell? ⟨gb227, 0, none⟩ = some (.int .i64 a1_0) ∧ w'.cell? ⟨gb227, 1, none⟩ = some (.int .i64 a1_1) ∧ w'.cell? ⟨gb227, 2, none⟩ = some (.int .i64 a1_2) ∧ w'.cell? ⟨gb227, 3, none⟩ = some (.int .i64 a1_3)) (ds := [4, 5]) #[false, false, false, false, false, false] (by kernel_rfl) rfl rfl ⟨(blk_cell BK226.out 0).trans rfl, (blk_cell BK226.out 1).trans rfl, (blk_cell BK226.out 2).trans rfl, (blk_cell BK226.out 3).trans rfl, (blk_cell BK227.out 0).trans rfl, (blk_cell BK227.out 1).trans rfl, (blk_cell BK227.out 2).trans rfl, (blk_cell BK227.out 3).trans rfl⟩ (fun hHeld => ?_)
  generalize w12.drew = w13 at BK226 BK227 BK228 HB hHeld ⊢
  refine take_ (i := 0) (N := some 5) (v := ?_) (a' := ?_) #[true, false, false, false, false, false] rfl rfl (by kernel_rfl) (fun _ _ _ h => h) (Or.inl ⟨by rfl, ?_⟩) hHeld ?_ ?_
  rotate_left
  · rintro w' ⟨s0, s1, s2, s3, s4, s5, s6, s7⟩
    go_simp
    with_reducible rfl
  rotate_left
  · simp only [Act.put, List.setIfInBounds_toArray, List.set_cons_zero, List.set_cons_succ, i64_w, i32_w]
    rfl
  refine take_ (i := 2) (N := some 7) (v := ?_) (a' := ?_) #[true, false, true, false, false, false] rfl rfl (by kernel_rfl) (fun _ _ _ h => h) (Or.inl ⟨by rfl, ?_⟩) hHeld ?_ ?_
  rotate_left
  · rintro w' ⟨s0, s1, s2, s3, s4, s5, s6, s7⟩
    go_simp
    with_reducible rfl
  rotate_left
  · simp only [Act.put, List.setIfInBounds_toArray, List.set_cons_zero, List.set_cons_succ, i64_w, i32_w]
    rfl
  refine one_ (i := 1) (N := some 6) #[true, true, true, false, false, false] rfl rfl (by kernel_rfl) (by decide) (fun K hK => ?_)
  refine goes_ Try.func20 (by kernel_rfl) rfl #[.agg #[.int .i64 a0_0, .int .i64 a0_1, .int .i64 a0_2, .int .i64 a0_3]] (by rfl) rfl rfl (by (try simp only [List.map_toArray, List.map_cons, List.map_nil]); first | done | rfl | (simp only [List.length_drop, List.length_take]; rfl)) ?_
  with_reducible refine (rect_Clean.calls a0_0 a0_1 a0_2 a0_3 t229 t230 t231 t232 _ A3.out).mono ?_
  rintro e w14 ⟨rfl, hb⟩
  refine ⟨_, rfl, ?_⟩
  have n0_ := Aside0.mk (blk_below (g := gb226) (o := .cells #[.int .i64 a0_0, .int .i64 a0_1, .int .i64 a0_2, .int .i64 a0_3] 26 (0, 0)) (by (with_reducible repeat (first | refine blk_drewN ?_ _ | refine blk_drew ?_ | refine blk_alloc ?_ _)); exact BK226.out) hb)
  have n1_ := Aside0.mk (blk_below (g := gb227) (o := .cells #[.int .i64 a1_0, .int .i64 a1_1, .int .i64 a1_2, .int .i64 a1_3] 26 (0, 0)) (by (with_reducible repeat (first | refine blk_drewN ?_ _ | refine blk_drew ?_ | refine blk_alloc ?_ _)); exact BK227.out) hb)
  have n2_ := Aside0.mk (blk_below (g := gb228) (o := .cells #[.int .i64 0, .int .i64 0, .int .i64 0, .int .i64 0] 26 (0, 0)) (by (with_reducible repeat (first | refine blk_drewN ?_ _ | refine blk_drew ?_ | refine blk_alloc ?_ _)); exact BK228.out) hb)
  have n3_ := Aside0.mk (below_step (by repeat (first | (with_reducible first | exact HB.out | apply below_alloc | apply pw_below_drewN | apply below_drew1 | refine below_set ?_ GE226.out | refine below_set ?_ GE227.out | refine below_set ?_ GE228.out) | exact HB.out)) hb)
  clear BK226
  clear BK227
  clear BK228
  clear HB
  have BK226 := n0_
  have BK227 := n1_
  have BK228 := n2_
  have HB := n3_
  clear n0_ n1_ n2_ n3_
  (try clear hb)
  (try clear hb2)
  (try clear hk)
  (try clear hi)
  refine hK.out _ _ ⟨(blk_cell BK226.out 0).trans rfl, (blk_cell BK226.out 1).trans rfl, (blk_cell BK226.out 2).trans rfl, (blk_cell BK226.out 3).trans rfl, (blk_cell BK227.out 0).trans rfl, (blk_cell BK227.out 1).trans rfl, (blk_cell BK227.out 2).trans rfl, (blk_cell BK227.out 3).trans rfl⟩ (fun hHeld => ?_)
  clear hK K
  refine norm_ (a' := ?_) ?_ ?_
  rotate_left
  · show Act.put _ (some 6) _ = _
    simp only [Act.put, List.setIfInBounds_toArray, List.set_cons_zero, List.set_cons_succ, i64_w, i32_w]
    rfl
  refine one_ (i := 3) (N := some 8) #[true, true, true, true, false, false] rfl rfl (by kernel_rfl) (by decide) (fun K hK => ?_)
  refine goes_ Try.func20 (by kernel_rfl) rfl #[.agg #[.int .i64 a1_0, .int .i64 a1_1, .int .i64 a1_2, .int .i64 a1_3]] (by rfl) rfl rfl (by (try simp only [List.map_toArray, List.map_cons, List.map_nil]); first | done | rfl | (simp only [List.length_drop, List.length_take]; rfl)) ?_
  with_reducible refine (rect_Clean.calls a1_0 a1_1 a1_2 a1_3 t233 t234 t235 t236 _ A4.out).mono ?_
  rintro e w15 ⟨rfl, hb⟩
  refine ⟨_, rfl, ?_⟩
  have n0_ := Aside0.mk (blk_below (g := gb226) (o := .cells #[.int .i64 a0_0, .int .i64 a0_1, .int .i64 a0_2, .int .i64 a0_3] 26 (0, 0)) (by (with_reducible repeat (first | refine blk_drewN ?_ _ | refine blk_drew ?_ | refine blk_alloc ?_ _)); exact BK226.out) hb)
  have n1_ := Aside0.mk (blk_below (g := gb227) (o := .cells #[.int .i64 a1_0, .int .i64 a1_1, .int .i64 a1_2, .int .i64 a1_3] 26 (0, 0)) (by (with_reducible repeat (first | refine blk_drewN ?_ _ | refine blk_drew ?_ | refine blk_alloc ?_ _)); exact BK227.out) hb)
  have n2_ := Aside0.mk (blk_below (g := gb228) (o := .cells #[.int .i64 0, .int .i64 0, .int .i64 0, .int .i64 0] 26 (0, 0)) (by (with_reducible repeat (first | refine blk_drewN ?_ _ | refine blk_drew ?_ | refine blk_alloc ?_ _)); exact BK228.out) hb)
  have n3_ := Aside0.mk (below_step (by repeat (first | (with_reducible first | exact HB.out | apply below_alloc | apply pw_below_drewN | apply below_drew1 | refine below_set ?_ GE226.out | refine below_set ?_ GE227.out | refine below_set ?_ GE228.out) | exact HB.out)) hb)
  clear BK226
  clear BK227
  clear BK228
  clear HB
  have BK226 := n0_
  have BK227 := n1_
  have BK228 := n2_
  have HB := n3_
  clear n0_ n1_ n2_ n3_
  (try clear hb)
  (try clear hb2)
  (try clear hk)
  (try clear hi)
  refine hK.out _ _ ⟨(blk_cell BK226.out 0).trans rfl, (blk_cell BK226.out 1).trans rfl, (blk_cell BK226.out 2).trans rfl, (blk_cell BK226.out 3).trans rfl, (blk_cell BK227.out 0).trans rfl, (blk_cell BK227.out 1).trans rfl, (blk_cell BK227.out 2).trans rfl, (blk_cell BK227.out 3).trans rfl⟩ (fun hHeld => ?_)
  clear hK K
  refine norm_ (a' := ?_) ?_ ?_
  rotate_left
  · show Act.put _ (some 8) _ = _
    simp only [Act.put, List.setIfInBounds_toArray, List.set_cons_zero, List.set_cons_succ, i64_w, i32_w]
    rfl
  refine last_ (i := 4) (N := none) #[true, true, true, true, true, false] rfl rfl (by kernel_rfl) (by decide) (fun K hK => ?_)
  have hs16 : w15.cell? ⟨gb226, 0, none⟩ = some (.int .i64 a0_0) := (blk_cell BK226.out 0).trans rfl
  have hfs16 := blk_frozen BK226.out 0
  have hns16_1 := NB227_226.out
  have hns16_2 := NB228_226.out
  have hms16_1 := NB226_227.out
  have hms16_2 := NB226_228.out
  have hs17 : w15.cell? ⟨gb226, 1, none⟩ = some (.int .i64 a0_1) := (blk_cell BK226.out 1).trans rfl
  have hfs17 := blk_frozen BK226.out 1
  have hns17_1 := NB227_226.out
  have hns17_2 := NB228_226.out
  have hms17_1 := NB226_227.out
  have hms17_2 := NB226_228.out
  have hs18 : w15.cell? ⟨gb226, 2, none⟩ = some (.int .i64 a0_2) := (blk_cell BK226.out 2).trans rfl
  have hfs18 := blk_frozen BK226.out 2
  have hns18_1 := NB227_226.out
  have hns18_2 := NB228_226.out
  have hms18_1 := NB226_227.out
  have hms18_2 := NB226_228.out
  have hs19 : w15.cell? ⟨gb226, 3, none⟩ = some (.int .i64 a0_3) := (blk_cell BK226.out 3).trans rfl
  have hfs19 := blk_frozen BK226.out 3
  have hns19_1 := NB227_226.out
  have hns19_2 := NB228_226.out
  have hms19_1 := NB226_227.out
  have hms19_2 := NB226_228.out
  refine skip_ (w1 := ?_) (by rfl) rfl ?_ ?_
  rotate_left
  · go_simp
    rfl
  refine hK.out _ _ ?_
  clear hK K
  refine last_ (i := 5) (N := none) #[true, true, true, true, true, true] rfl rfl (by kernel_rfl) (by decide) (fun K hK => ?_)
  have hs20 : w15.cell? ⟨gb227, 0, none⟩ = some (.int .i64 a1_0) := (blk_cell BK227.out 0).trans rfl
  have hfs20 := blk_frozen BK227.out 0
  have hns20_0 := NB226_227.out
  have hns20_2 := NB228_227.out
  have hms20_0 := NB227_226.out
  have hms20_2 := NB227_228.out
  have hs21 : w15.cell? ⟨gb227, 1, none⟩ = some (.int .i64 a1_1) := (blk_cell BK227.out 1).trans rfl
  have hfs21 := blk_frozen BK227.out 1
  have hns21_0 := NB226_227.out
  have hns21_2 := NB228_227.out
  have hms21_0 := NB227_226.out
  have hms21_2 := NB227_228.out
  have hs22 : w15.cell? ⟨gb227, 2, none⟩ = some (.int .i64 a1_2) := (blk_cell BK227.out 2).trans rfl
  have hfs22 := blk_frozen BK227.out 2
  have hns22_0 := NB226_227.out
  have hns22_2 := NB228_227.out
  have hms22_0 := NB227_226.out
  have hms22_2 := NB227_228.out
  have hs23 : w15.cell? ⟨gb227, 3, none⟩ = some (.int .i64 a1_3) := (blk_cell BK227.out 3).trans rfl
  have hfs23 := blk_frozen BK227.out 3
  have hns23_0 := NB226_227.out
  have hns23_2 := NB228_227.out
  have hms23_0 := NB227_226.out
  have hms23_2 := NB227_228.out
  refine skip_ (w1 := ?_) (by rfl) rfl ?_ ?_
  rotate_left
  · go_simp
    rfl
  refine hK.out _ _ ?_
  clear hK K
  refine done_ (by kernel_rfl) ?_
  try go_wp2
  have n0_ : Aside0 (((((((((w15.setCell ⟨gb226, 0, none⟩ (.int .i64 t229)).setCell ⟨gb226, 1, none⟩ (.int .i64 t230)).setCell ⟨gb226, 2, none⟩ (.int .i64 t231)).setCell ⟨gb226, 3, none⟩ (.int .i64 t232)).setCell ⟨gb227, 0, none⟩ (.int .i64 t233)).setCell ⟨gb227, 1, none⟩ (.int .i64 t234)).setCell ⟨gb227, 2, none⟩ (.int .i64 t235)).setCell ⟨gb227, 3, none⟩ (.int .i64 t236)).heap[gb226]? = some (.cells #[.int .i64 t229, .int .i64 t230, .int .i64 t231, .int .i64 t232] 26 (0, 0))) := ⟨by (with_reducible repeat (first | refine blk_drewN ?_ _ | refine blk_drew ?_ | refine blk_alloc ?_ _)); refine blk_far ?_ NB226_227.out _; (with_reducible repeat (first | refine blk_drewN ?_ _ | refine blk_drew ?_ | refine blk_alloc ?_ _)); refine blk_far ?_ NB226_227.out _; (with_reducible repeat (first | refine blk_drewN ?_ _ | refine blk_drew ?_ | refine blk_alloc ?_ _)); refine blk_far ?_ NB226_227.out _; (with_reducible repeat (first | refine blk_drewN ?_ _ | refine blk_drew ?_ | refine blk_alloc ?_ _)); refine blk_far ?_ NB226_227.out _; (with_reducible repeat (first | refine blk_drewN ?_ _ | refine blk_drew ?_ | refine blk_alloc ?_ _)); refine blk_put (cs := #[.int .i64 t229, .int .i64 t230, .int .i64 t231, .int .i64 a0_3]) ?_ 3 _ rfl; (with_reducible repeat (first | refine blk_drewN ?_ _ | refine blk_drew ?_ | refine blk_alloc ?_ _)); refine blk_put (cs := #[.int .i64 t229, .int .i64 t230, .int .i64 a0_2, .int .i64 a0_3]) ?_ 2 _ rfl; (with_reducible repeat (first | refine blk_drewN ?_ _ | refine blk_drew ?_ | refine blk_alloc ?_ _)); refine blk_put (cs := #[.int .i64 t229, .int .i64 a0_1, .int .i64 a0_2, .int .i64 a0_3]) ?_ 1 _ rfl; (with_reducible repeat (first | refine blk_drewN ?_ _ | refine blk_drew ?_ | refine blk_alloc ?_ _)); refine blk_put (cs := #[.int .i64 a0_0, .int .i64 a0_1, .int .i64 a0_2, .int .i64 a0_3]) ?_ 0 _ rfl; (with_reducible repeat (first | refine blk_drewN ?_ _ | refine blk_drew ?_ | refine blk_alloc ?_ _)); exact BK226.out⟩
  have n1_ : Aside0 (((((((((w15.setCell ⟨gb226, 0, none⟩ (.int .i64 t229)).setCell ⟨gb226, 1, none⟩ (.int .i64 t230)).setCell ⟨gb226, 2, none⟩ (.int .i64 t231)).setCell ⟨gb226, 3, none⟩ (.int .i64 t232)).setCell ⟨gb227, 0, none⟩ (.int .i64 t233)).setCell ⟨gb227, 1, none⟩ (.int .i64 t234)).setCell ⟨gb227, 2, none⟩ (.int .i64 t235)).setCell ⟨gb227, 3, none⟩ (.int .i64 t236)).heap[gb227]? = some (.cells #[.int .i64 t233, .int .i64 t234, .int .i64 t235, .int .i64 t236] 26 (0, 0))) := ⟨by (with_reducible repeat (first | refine blk_drewN ?_ _ | refine blk_drew ?_ | refine blk_alloc ?_ _)); refine blk_put (cs := #[.int .i64 t233, .int .i64 t234, .int .i64 t235, .int .i64 a1_3]) ?_ 3 _ rfl; (with_reducible repeat (first | refine blk_drewN ?_ _ | refine blk_drew ?_ | refine blk_alloc ?_ _)); refine blk_put (cs := #[.int .i64 t233, .int .i64 t234, .int .i64 a1_2, .int .i64 a1_3]) ?_ 2 _ rfl; (with_reducible repeat (first | refine blk_drewN ?_ _ | refine blk_drew ?_ | refine blk_alloc ?_ _)); refine blk_put (cs := #[.int .i64 t233, .int .i64 a1_1, .int .i64 a1_2, .int .i64 a1_3]) ?_ 1 _ rfl; (with_reducible repeat (first | refine blk_drewN ?_ _ | refine blk_drew ?_ | refine blk_alloc ?_ _)); refine blk_put (cs := #[.int .i64 a1_0, .int .i64 a1_1, .int .i64 a1_2, .int .i64 a1_3]) ?_ 0 _ rfl; (with_reducible repeat (first | refine blk_drewN ?_ _ | refine blk_drew ?_ | refine blk_alloc ?_ _)); refine blk_far ?_ NB227_226.out _; (with_reducible repeat (first | refine blk_drewN ?_ _ | refine blk_drew ?_ | refine blk_alloc ?_ _)); refine blk_far ?_ NB227_226.out _; (with_reducible repeat (first | refine blk_drewN ?_ _ | refine blk_drew ?_ | refine blk_alloc ?_ _)); refine blk_far ?_ NB227_226.out _; (with_reducible repeat (first | refine blk_drewN ?_ _ | refine blk_drew ?_ | refine blk_alloc ?_ _)); refine blk_far ?_ NB227_226.out _; (with_reducible repeat (first | refine blk_drewN ?_ _ | refine blk_drew ?_ | refine blk_alloc ?_ _)); exact BK227.out⟩
  have n2_ : Aside0 (((((((((w15.setCell ⟨gb226, 0, none⟩ (.int .i64 t229)).setCell ⟨gb226, 1, none⟩ (.int .i64 t230)).setCell ⟨gb226, 2, none⟩ (.int .i64 t231)).setCell ⟨gb226, 3, none⟩ (.int .i64 t232)).setCell ⟨gb227, 0, none⟩ (.int .i64 t233)).setCell ⟨gb227, 1, none⟩ (.int .i64 t234)).setCell ⟨gb227, 2, none⟩ (.int .i64 t235)).setCell ⟨gb227, 3, none⟩ (.int .i64 t236)).heap[gb228]? = some (.cells #[.int .i64 0, .int .i64 0, .int .i64 0, .int .i64 0] 26 (0, 0))) := ⟨by (with_reducible repeat (first | refine blk_drewN ?_ _ | refine blk_drew ?_ | refine blk_alloc ?_ _)); refine blk_far ?_ NB228_227.out _; (with_reducible repeat (first | refine blk_drewN ?_ _ | refine blk_drew ?_ | refine blk_alloc ?_ _)); refine blk_far ?_ NB228_227.out _; (with_reducible repeat (first | refine blk_drewN ?_ _ | refine blk_drew ?_ | refine blk_alloc ?_ _)); refine blk_far ?_ NB228_227.out _; (with_reducible repeat (first | refine blk_drewN ?_ _ | refine blk_drew ?_ | refine blk_alloc ?_ _)); refine blk_far ?_ NB228_227.out _; (with_reducible repeat (first | refine blk_drewN ?_ _ | refine blk_drew ?_ | refine blk_alloc ?_ _)); refine blk_far ?_ NB228_226.out _; (with_reducible repeat (first | refine blk_drewN ?_ _ | refine blk_drew ?_ | refine blk_alloc ?_ _)); refine blk_far ?_ NB228_226.out _; (with_reducible repeat (first | refine blk_drewN ?_ _ | refine blk_drew ?_ | refine blk_alloc ?_ _)); refine blk_far ?_ NB228_226.out _; (with_reducible repeat (first | refine blk_drewN ?_ _ | refine blk_drew ?_ | refine blk_alloc ?_ _)); refine blk_far ?_ NB228_226.out _; (with_reducible repeat (first | refine blk_drewN ?_ _ | refine blk_drew ?_ | refine blk_alloc ?_ _)); exact BK228.out⟩
  have n3_ : Aside0 (Below w.heap.size w ((((((((w15.setCell ⟨gb226, 0, none⟩ (.int .i64 t229)).setCell ⟨gb226, 1, none⟩ (.int .i64 t230)).setCell ⟨gb226, 2, none⟩ (.int .i64 t231)).setCell ⟨gb226, 3, none⟩ (.int .i64 t232)).setCell ⟨gb227, 0, none⟩ (.int .i64 t233)).setCell ⟨gb227, 1, none⟩ (.int .i64 t234)).setCell ⟨gb227, 2, none⟩ (.int .i64 t235)).setCell ⟨gb227, 3, none⟩ (.int .i64 t236))) := ⟨by repeat (first | (with_reducible first | exact HB.out | apply below_alloc | apply pw_below_drewN | apply below_drew1 | refine below_set ?_ GE226.out | refine below_set ?_ GE227.out | refine below_set ?_ GE228.out) | exact HB.out)⟩
  (try clear BK226)
  (try clear BK227)
  (try clear BK228)
  (try clear HB)
  generalize ((((((((w15.setCell ⟨gb226, 0, none⟩ (.int .i64 t229)).setCell ⟨gb226, 1, none⟩ (.int .i64 t230)).setCell ⟨gb226, 2, none⟩ (.int .i64 t231)).setCell ⟨gb226, 3, none⟩ (.int .i64 t232)).setCell ⟨gb227, 0, none⟩ (.int .i64 t233)).setCell ⟨gb227, 1, none⟩ (.int .i64 t234)).setCell ⟨gb227, 2, none⟩ (.int .i64 t235)).setCell ⟨gb227, 3, none⟩ (.int .i64 t236)) = w24 at n0_ n1_ n2_ n3_ ⊢
  have BK226 := n0_
  have BK227 := n1_
  have BK228 := n2_
  have HB := n3_
  clear n0_ n1_ n2_ n3_
  have n0_ := Aside0.mk (blk_drew BK226.out)
  have n1_ := Aside0.mk (blk_drew BK227.out)
  have n2_ := Aside0.mk (blk_drew BK228.out)
  have n3_ := Aside0.mk (below_drew1 HB.out)
  clear BK226
  clear BK227
  clear BK228
  clear HB
  have BK226 := n0_
  have BK227 := n1_
  have BK228 := n2_
  have HB := n3_
  clear n0_ n1_ n2_ n3_
  refine start_ (n := 14) (S := fun w' => w'.cell? ⟨gb226, 0, none⟩ = some (.int .i64 t229) ∧ w'.cell? ⟨gb226, 1, none⟩ = some (.int .i64 t230) ∧ w'.cell? ⟨gb226, 3, none⟩ = some (.int .i64 t232) ∧ w'.cell? ⟨gb227, 0, none⟩ = some (.int .i64 t233) ∧ w'.cell? ⟨gb227, 1, none⟩ = some (.int .i64 t234) ∧ w'.cell? ⟨gb227, 2, none⟩ = some (.int .i64 t235) ∧ w'.cell? ⟨gb227, 3, none⟩ = some (.int .i64 t236)) (ds := [13]) #[false, false, false, false, false, false, false, false, false, false, false, false, false, false] (by kernel_rfl) rfl rfl ⟨(blk_cell BK226.out 0).trans rfl, (blk_cell BK226.out 1).trans rfl, (blk_cell BK226.out 3).trans rfl, (blk_cell BK227.out 0).trans rfl, (blk_cell BK227.out 1).trans rfl, (blk_cell BK227.out 2).trans rfl, (blk_cell BK227.out 3).trans rfl⟩ (fun hHeld => ?_); refine with_tabW rect_Into.tab2 rect_Into.bits2 (fun HT_ HW_ => ?_)
  generalize w24.drew = w25 at BK226 BK227 BK228 HB hHeld ⊢
  refine pure_ (i := 0) (N := some 9) (v := ?_) (a' := ?_) #[true, false, false, false, false, false, false, false, false, false, false, false, false, false] rfl rfl (any_of HT_.out (by kernel_rfl)) (fun _ _ _ h => h) (Or.inl ⟨by rfl, ?_⟩) ?_ ?_
  rotate_left
  · intro w'
    go_simp
    with_reducible rfl
  rotate_left
  · simp only [Act.put, List.setIfInBounds_toArray, List.set_cons_zero, List.set_cons_succ, i64_w, i32_w]
    rfl
  refine pure_ (i := 2) (N := some 11) (v := ?_) (a' := ?_) #[true, false, true, false, false, false, false, false, false, false, false, false, false, false] rfl rfl (any_of HT_.out (by kernel_rfl)) (fun _ _ _ h => h) (Or.inl ⟨by rfl, ?_⟩) ?_ ?_
  rotate_left
  · intro w'
    go_simp
    with_reducible rfl
  rotate_left
  · simp only [Act.put, List.setIfInBounds_toArray, List.set_cons_zero, List.set_cons_succ, i64_w, i32_w]
    rfl
  refine pure_ (i := 5) (N := some 14) (v := ?_) (a' := ?_) #[true, false, true, false, false, true, false, false, false, false, false, false, false, false] rfl rfl (any_of HT_.out (by kernel_rfl)) (fun _ _ _ h => h) (Or.inl ⟨by rfl, ?_⟩) ?_ ?_
  rotate_left
  · intro w'
    go_simp
    with_reducible rfl
  rotate_left
  · simp only [Act.put, List.setIfInBounds_toArray, List.set_cons_zero, List.set_cons_succ, i64_w, i32_w]
    rfl
  refine pure_ (i := 7) (N := some 16) (v := ?_) (a' := ?_) #[true, false, true, false, false, true, false, true, false, false, false, false, false, false] rfl rfl (any_of HT_.out (by kernel_rfl)) (fun _ _ _ h => h) (Or.inl ⟨by rfl, ?_⟩) ?_ ?_
  rotate_left
  · intro w'
    go_simp
    with_reducible rfl
  rotate_left
  · simp only [Act.put, List.setIfInBounds_toArray, List.set_cons_zero, List.set_cons_succ, i64_w, i32_w]
    rfl
  refine take_ (i := 3) (N := some 12) (v := ?_) (a' := ?_) #[true, false, true, true, false, true, false, true, false, false, false, false, false, false] rfl rfl (take_ofW HT_.out HW_.out (by kernel_rfl)) (fun _ _ _ h => h) (Or.inl ⟨by rfl, ?_⟩) hHeld ?_ ?_
  rotate_left
  · rintro w' ⟨s0, s1, s2, s3, s4, s5, s6⟩
    go_simp
    with_reducible rfl
  rotate_left
  · simp only [Act.put, List.setIfInBounds_toArray, List.set_cons_zero, List.set_cons_succ, i64_w, i32_w]
    rfl
  refine take_ (i := 6) (N := some 15) (v := ?_) (a' := ?_) #[true, false, true, true, false, true, true, true, false, false, false, false, false, false] rfl rfl (take_ofW HT_.out HW_.out (by kernel_rfl)) (fun _ _ _ h => h) (Or.inl ⟨by rfl, ?_⟩) hHeld ?_ ?_
  rotate_left
  · rintro w' ⟨s0, s1, s2, s3, s4, s5, s6⟩
    go_simp
    with_reducible rfl
  rotate_left
  · simp only [Act.put, List.setIfInBounds_toArray, List.set_cons_zero, List.set_cons_succ, i64_w, i32_w]
    rfl
  refine take_ (i := 8) (N := some 17) (v := ?_) (a' := ?_) #[true, false, true, true, false, true, true, true, true, false, false, false, false, false] rfl rfl (take_ofW HT_.out HW_.out (by kernel_rfl)) (fun _ _ _ h => h) (Or.inl ⟨by rfl, ?_⟩) hHeld ?_ ?_
  rotate_left
  · rintro w' ⟨s0, s1, s2, s3, s4, s5, s6⟩
    go_simp
    with_reducible rfl
  rotate_left
  · simp only [Act.put, List.setIfInBounds_toArray, List.set_cons_zero, List.set_cons_succ, i64_w, i32_w]
    rfl
  refine pure_ (i := 9) (N := some 18) (v := ?_) (a' := ?_) #[true, false, true, true, false, true, true, true, true, true, false, false, false, false] rfl rfl (any_of HT_.out (by kernel_rfl)) (fun _ _ _ h => h) (Or.inl ⟨by rfl, ?_⟩) ?_ ?_
  rotate_left
  · intro w'
    go_simp
    with_reducible rfl
  rotate_left
  · simp only [Act.put, List.setIfInBounds_toArray, List.set_cons_zero, List.set_cons_succ, i64_w, i32_w]
    rfl
  refine one_ (i := 1) (N := some 10) #[true, true, true, true, false, true, true, true, true, true, false, false, false, false] rfl rfl (one_of HT_.out (by kernel_rfl)) (by decide) (fun K hK => ?_)
  have hxl2_ : World.cell? _ ⟨gb226, 2, none⟩ = some (.int .i64 t231) := (blk_cell BK226.out 2).trans rfl
  refine value_ (w1 := ?_) (v := ?_) (by rfl) rfl ?_ ?_
  rotate_left 2
  · go_simp
    constructor
    · rfl
    · rfl
  clear hxl2_
  refine hK.out _ _ ⟨hHeld.1, hHeld.2.1, hHeld.2.2.1, hHeld.2.2.2.1, hHeld.2.2.2.2.1, hHeld.2.2.2.2.2.1, hHeld.2.2.2.2.2.2⟩ (fun hHeld => ?_)
  clear hK K
  refine norm_ (a' := ?_) ?_ ?_
  rotate_left
  · show Act.put _ (some 10) _ = _
    simp only [Act.put, List.setIfInBounds_toArray, List.set_cons_zero, List.set_cons_succ, i64_w, i32_w]
    rfl
  refine pure_ (i := 4) (N := some 13) (v := ?_) (a' := ?_) #[true, true, true, true, true, true, true, true, true, true, false, false, false, false] rfl rfl (any_of HT_.out (by kernel_rfl)) (fun _ _ _ h => h) (Or.inl ⟨by rfl, ?_⟩) ?_ ?_
  rotate_left
  · intro w'
    go_simp
    with_reducible rfl
  rotate_left
  · simp only [Act.put, List.setIfInBounds_toArray, List.set_cons_zero, List.set_cons_succ, i64_w, i32_w]
    rfl
  refine pure_ (i := 10) (N := some 19) (v := ?_) (a' := ?_) #[true, true, true, true, true, true, true, true, true, true, true, false, false, false] rfl rfl (any_of HT_.out (by kernel_rfl)) (fun _ _ _ h => h) (Or.inl ⟨by rfl, ?_⟩) ?_ ?_
  rotate_left
  · intro w'
    go_simp
    with_reducible rfl
  rotate_left
  · simp only [Act.put, List.setIfInBounds_toArray, List.set_cons_zero, List.set_cons_succ, i64_w, i32_w]
    rfl
  refine one_ (i := 11) (N := none) #[true, true, true, true, true, true, true, true, true, true, true, true, false, false] rfl rfl (one_of HT_.out (by kernel_rfl)) (by decide) (fun K hK => ?_)
  have hs26 : w25.cell? ⟨gb226, 2, none⟩ = some (.int .i64 t231) := (blk_cell BK226.out 2).trans rfl
  have hfs26 := blk_frozen BK226.out 2
  have hns26_1 := NB227_226.out
  have hns26_2 := NB228_226.out
  have hms26_1 := NB226_227.out
  have hms26_2 := NB226_228.out
  refine skip_ (w1 := ?_) (by rfl) rfl ?_ ?_
  rotate_left
  · go_simp
    rfl
  refine hK.out _ _ ⟨((World.cell?_setCell_other _ ⟨gb226, 2, none⟩ _ _ (by simp)).trans (hHeld.1)), ((World.cell?_setCell_other _ ⟨gb226, 2, none⟩ _ _ (by simp)).trans (hHeld.2.1)), ((World.cell?_setCell_other _ ⟨gb226, 2, none⟩ _ _ (by simp)).trans (hHeld.2.2.1)), ((cell_far (p := ⟨gb226, _, none⟩) NB227_226.out _).trans (hHeld.2.2.2.1)), ((cell_far (p := ⟨gb226, _, none⟩) NB227_226.out _).trans (hHeld.2.2.2.2.1)), ((cell_far (p := ⟨gb226, _, none⟩) NB227_226.out _).trans (hHeld.2.2.2.2.2.1)), ((cell_far (p := ⟨gb226, _, none⟩) NB227_226.out _).trans (hHeld.2.2.2.2.2.2))⟩ (fun hHeld => ?_)
  clear hK K
  refine pure_ (i := 12) (N := some 20) (v := ?_) (a' := ?_) #[true, true, true, true, true, true, true, true, true, true, true, true, true, false] rfl rfl (any_of HT_.out (by kernel_rfl)) (fun _ _ _ h => h) (Or.inl ⟨by rfl, ?_⟩) ?_ ?_
  rotate_left
  · intro w'
    go_simp
    with_reducible rfl
  rotate_left
  · simp only [Act.put, List.setIfInBounds_toArray, List.set_cons_zero, List.set_cons_succ, i64_w, i32_w]
    rfl
  refine last_ (i := 13) (N := none) #[true, true, true, true, true, true, true, true, true, true, true, true, true, true] rfl rfl (one_of HT_.out (by kernel_rfl)) (by decide) (fun K hK => ?_)
  have hs27 : w25.cell? ⟨gb226, 3, none⟩ = some (.int .i64 t232) := (blk_cell BK226.out 3).trans rfl
  have hfs27 := blk_frozen BK226.out 3
  have hns27_1 := NB227_226.out
  have hns27_2 := NB228_226.out
  have hms27_1 := NB226_227.out
  have hms27_2 := NB226_228.out
  refine skip_ (w1 := ?_) (by rfl) rfl ?_ ?_
  rotate_left
  · go_simp
    rfl
  refine hK.out _ _ ?_
  clear hK K
  refine done_ (done_of HT_.out (by kernel_rfl)) ?_
  have hnb28 := NB226_227.out
  have hnc28 := NB227_226.out
  have hnb29 := NB226_228.out
  have hnc29 := NB228_226.out
  have hcz30_0 : w25.cell? ⟨gb226, 0, none⟩ = some (.int .i64 t229) := (blk_cell BK226.out 0).trans rfl
  have hcz30_1 : w25.cell? ⟨gb226, 1, none⟩ = some (.int .i64 t230) := (blk_cell BK226.out 1).trans rfl
  have hcz30_2 : w25.cell? ⟨gb226, 2, none⟩ = some (.int .i64 t231) := (blk_cell BK226.out 2).trans rfl
  have hcz30_3 : w25.cell? ⟨gb226, 3, none⟩ = some (.int .i64 t232) := (blk_cell BK226.out 3).trans rfl
  have hfz30_0 := blk_frozen BK226.out 0
  have hfz30_1 := blk_frozen BK226.out 1
  have hfz30_2 := blk_frozen BK226.out 2
  have hfz30_3 := blk_frozen BK226.out 3
  have hnb31 := NB227_228.out
  have hnc31 := NB228_227.out
  have hcz32_0 : w25.cell? ⟨gb227, 0, none⟩ = some (.int .i64 t233) := (blk_cell BK227.out 0).trans rfl
  have hcz32_1 : w25.cell? ⟨gb227, 1, none⟩ = some (.int .i64 t234) := (blk_cell BK227.out 1).trans rfl
  have hcz32_2 : w25.cell? ⟨gb227, 2, none⟩ = some (.int .i64 t235) := (blk_cell BK227.out 2).trans rfl
  have hcz32_3 : w25.cell? ⟨gb227, 3, none⟩ = some (.int .i64 t236) := (blk_cell BK227.out 3).trans rfl
  have hfz32_0 := blk_frozen BK227.out 0
  have hfz32_1 := blk_frozen BK227.out 1
  have hfz32_2 := blk_frozen BK227.out 2
  have hfz32_3 := blk_frozen BK227.out 3
  try go_wp2_with (first | ((with_reducible refine gate_callee (f := 17) rfl ?_); refine goesL_ (some 33) rfl rfl Try.func17 (by kernel_rfl) rfl #[.int .i64 t229, .int .i64 t233, .int .i64 (wrap64 ((wrap64 (t233 + t235)) - (ji5)))] rfl (by (try simp only [List.map_toArray, List.map_cons, List.map_nil]); first | done | (simp only [hji5]; rfl) | (apply Array.ext'; repeat' (first | rfl | refine List.cons_eq_cons.mpr ⟨?_, ?_⟩ | (refine congrArg (Value.int _) ?_; unfold wrap64; omega))) | rfl | (simp only [List.length_drop, List.length_take]; rfl)) ?_; (with_reducible refine (rect_Clamp.calls t229 t233 (wrap64 ((wrap64 (t233 + t235)) - (ji5))) t237 _ A7.out).mono ?_); rintro e w33 ⟨rfl, hb⟩; refine ⟨_, rfl, ?_⟩; have n0_ := Aside0.mk (blk_below (g := gb226) (o := .cells #[.int .i64 t229, .int .i64 t230, .int .i64 ji5, .int .i64 ji6] 26 (0, 0)) (by (with_reducible repeat (first | refine blk_drewN ?_ _ | refine blk_drew ?_ | refine blk_alloc ?_ _)); refine blk_put (cs := #[.int .i64 t229, .int .i64 t230, .int .i64 ji5, .int .i64 t232]) ?_ 3 _ rfl; (with_reducible repeat (first | refine blk_drewN ?_ _ | refine blk_drew ?_ | refine blk_alloc ?_ _)); refine blk_put (cs := #[.int .i64 t229, .int .i64 t230, .int .i64 t231, .int .i64 t232]) ?_ 2 _ rfl; (with_reducible repeat (first | refine blk_drewN ?_ _ | refine blk_drew ?_ | refine blk_alloc ?_ _)); exact BK226.out) hb); have n1_ := Aside0.mk (blk_below (g := gb227) (o := .cells #[.int .i64 t233, .int .i64 t234, .int .i64 t235, .int .i64 t236] 26 (0, 0)) (by (with_reducible repeat (first | refine blk_drewN ?_ _ | refine blk_drew ?_ | refine blk_alloc ?_ _)); refine blk_far ?_ NB227_226.out _; (with_reducible repeat (first | refine blk_drewN ?_ _ | refine blk_drew ?_ | refine blk_alloc ?_ _)); refine blk_far ?_ NB227_226.out _; (with_reducible repeat (first | refine blk_drewN ?_ _ | refine blk_drew ?_ | refine blk_alloc ?_ _)); exact BK227.out) hb); have n2_ := Aside0.mk (blk_below (g := gb228) (o := .cells #[.int .i64 0, .int .i64 0, .int .i64 0, .int .i64 0] 26 (0, 0)) (by (with_reducible repeat (first | refine blk_drewN ?_ _ | refine blk_drew ?_ | refine blk_alloc ?_ _)); refine blk_far ?_ NB228_226.out _; (with_reducible repeat (first | refine blk_drewN ?_ _ | refine blk_drew ?_ | refine blk_alloc ?_ _)); refine blk_far ?_ NB228_226.out _; (with_reducible repeat (first | refine blk_drewN ?_ _ | refine blk_drew ?_ | refine blk_alloc ?_ _)); exact BK228.out) hb); have n3_ := Aside0.mk (below_step (by repeat (first | (with_reducible first | exact HB.out | apply below_alloc | apply pw_below_drewN | apply below_drew1 | refine below_set ?_ GE226.out | refine below_set ?_ GE227.out | refine below_set ?_ GE228.out) | exact HB.out)) hb); clear BK226; clear BK227; clear BK228; clear HB; have BK226 := n0_; have BK227 := n1_; have BK228 := n2_; have HB := n3_; clear n0_ n1_ n2_ n3_; (try clear hb); (try clear hb2); (try clear hk); (try clear hi); have hcz34_0 : w33.cell? ⟨gb226, 0, none⟩ = some (.int .i64 t229) := (blk_cell BK226.out 0).trans rfl; have hcz34_1 : w33.cell? ⟨gb226, 1, none⟩ = some (.int .i64 t230) := (blk_cell BK226.out 1).trans rfl; have hcz34_2 : w33.cell? ⟨gb226, 2, none⟩ = some (.int .i64 ji5) := (blk_cell BK226.out 2).trans rfl; have hcz34_3 : w33.cell? ⟨gb226, 3, none⟩ = some (.int .i64 ji6) := (blk_cell BK226.out 3).trans rfl; have hfz34_0 := blk_frozen BK226.out 0; have hfz34_1 := blk_frozen BK226.out 1; have hfz34_2 := blk_frozen BK226.out 2; have hfz34_3 := blk_frozen BK226.out 3; have hcz35_0 : w33.cell? ⟨gb227, 0, none⟩ = some (.int .i64 t233) := (blk_cell BK227.out 0).trans rfl; have hcz35_1 : w33.cell? ⟨gb227, 1, none⟩ = some (.int .i64 t234) := (blk_cell BK227.out 1).trans rfl; have hcz35_2 : w33.cell? ⟨gb227, 2, none⟩ = some (.int .i64 t235) := (blk_cell BK227.out 2).trans rfl; have hcz35_3 : w33.cell? ⟨gb227, 3, none⟩ = some (.int .i64 t236) := (blk_cell BK227.out 3).trans rfl; have hfz35_0 := blk_frozen BK227.out 0; have hfz35_1 := blk_frozen BK227.out 1; have hfz35_2 := blk_frozen BK227.out 2; have hfz35_3 := blk_frozen BK227.out 3) | ((with_reducible refine gate_callee (f := 17) rfl ?_); refine goesL_ (some 47) rfl rfl Try.func17 (by kernel_rfl) rfl #[.int .i64 t230, .int .i64 t234, .int .i64 (wrap64 ((wrap64 (t234 + t236)) - (ji6)))] rfl (by (try simp only [List.map_toArray, List.map_cons, List.map_nil]); first | done | (simp only [hji6]; rfl) | (apply Array.ext'; repeat' (first | rfl | refine List.cons_eq_cons.mpr ⟨?_, ?_⟩ | (refine congrArg (Value.int _) ?_; unfold wrap64; omega))) | rfl | (simp only [List.length_drop, List.length_take]; rfl)) ?_; (with_reducible refine (rect_Clamp.calls t230 t234 (wrap64 ((wrap64 (t234 + t236)) - (ji6))) t238 _ A8.out).mono ?_); rintro e w36 ⟨rfl, hb⟩; refine ⟨_, rfl, ?_⟩; have n0_ := Aside0.mk (blk_below (g := gb226) (o := .cells #[.int .i64 t237, .int .i64 t230, .int .i64 ji5, .int .i64 ji6] 26 (0, 0)) (by (with_reducible repeat (first | refine blk_drewN ?_ _ | refine blk_drew ?_ | refine blk_alloc ?_ _)); refine blk_put (cs := #[.int .i64 t229, .int .i64 t230, .int .i64 ji5, .int .i64 ji6]) ?_ 0 _ rfl; (with_reducible repeat (first | refine blk_drewN ?_ _ | refine blk_drew ?_ | refine blk_alloc ?_ _)); exact BK226.out) hb); have n1_ := Aside0.mk (blk_below (g := gb227) (o := .cells #[.int .i64 t233, .int .i64 t234, .int .i64 t235, .int .i64 t236] 26 (0, 0)) (by (with_reducible repeat (first | refine blk_drewN ?_ _ | refine blk_drew ?_ | refine blk_alloc ?_ _)); refine blk_far ?_ NB227_226.out _; (with_reducible repeat (first | refine blk_drewN ?_ _ | refine blk_drew ?_ | refine blk_alloc ?_ _)); exact BK227.out) hb); have n2_ := Aside0.mk (blk_below (g := gb228) (o := .cells #[.int .i64 0, .int .i64 0, .int .i64 0, .int .i64 0] 26 (0, 0)) (by (with_reducible repeat (first | refine blk_drewN ?_ _ | refine blk_drew ?_ | refine blk_alloc ?_ _)); refine blk_far ?_ NB228_226.out _; (with_reducible repeat (first | refine blk_drewN ?_ _ | refine blk_drew ?_ | refine blk_alloc ?_ _)); exact BK228.out) hb); have n3_ := Aside0.mk (below_step (by repeat (first | (with_reducible first | exact HB.out | apply below_alloc | apply pw_below_drewN | apply below_drew1 | refine below_set ?_ GE226.out | refine below_set ?_ GE227.out | refine below_set ?_ GE228.out) | exact HB.out)) hb); clear BK226; clear BK227; clear BK228; clear HB; have BK226 := n0_; have BK227 := n1_; have BK228 := n2_; have HB := n3_; clear n0_ n1_ n2_ n3_; (try clear hb); (try clear hb2); (try clear hk); (try clear hi); have hcz37_0 : w36.cell? ⟨gb226, 0, none⟩ = some (.int .i64 t237) := (blk_cell BK226.out 0).trans rfl; have hcz37_1 : w36.cell? ⟨gb226, 1, none⟩ = some (.int .i64 t230) := (blk_cell BK226.out 1).trans rfl; have hcz37_2 : w36.cell? ⟨gb226, 2, none⟩ = some (.int .i64 ji5) := (blk_cell BK226.out 2).trans rfl; have hcz37_3 : w36.cell? ⟨gb226, 3, none⟩ = some (.int .i64 ji6) := (blk_cell BK226.out 3).trans rfl; have hfz37_0 := blk_frozen BK226.out 0; have hfz37_1 := blk_frozen BK226.out 1; have hfz37_2 := blk_frozen BK226.out 2; have hfz37_3 := blk_frozen BK226.out 3) | ((with_reducible refine gate_callee (f := 20) rfl ?_); refine goesL_ (some 50) rfl rfl Try.func20 (by kernel_rfl) rfl #[.agg #[.int .i64 t237, .int .i64 t238, .int .i64 ji5, .int .i64 ji6]] rfl (by (try simp only [List.map_toArray, List.map_cons, List.map_nil]); first | done | (simp only [hji5, hji6]; rfl) | rfl | (simp only [List.length_drop, List.length_take]; rfl)) ?_; (with_reducible refine (rect_Clean.calls t237 t238 ji5 ji6 t239 t240 t241 t242 _ A9.out).mono ?_); rintro e w38 ⟨rfl, hb⟩; refine ⟨_, rfl, ?_⟩; have n0_ := Aside0.mk (blk_below (g := gb226) (o := .cells #[.int .i64 t237, .int .i64 t238, .int .i64 ji5, .int .i64 ji6] 26 (0, 0)) (by (with_reducible repeat (first | refine blk_drewN ?_ _ | refine blk_drew ?_ | refine blk_alloc ?_ _)); refine blk_put (cs := #[.int .i64 t237, .int .i64 t230, .int .i64 ji5, .int .i64 ji6]) ?_ 1 _ rfl; (with_reducible repeat (first | refine blk_drewN ?_ _ | refine blk_drew ?_ | refine blk_alloc ?_ _)); exact BK226.out) hb); have n1_ := Aside0.mk (blk_below (g := gb227) (o := .cells #[.int .i64 t233, .int .i64 t234, .int .i64 t235, .int .i64 t236] 26 (0, 0)) (by (with_reducible repeat (first | refine blk_drewN ?_ _ | refine blk_drew ?_ | refine blk_alloc ?_ _)); refine blk_far ?_ NB227_226.out _; (with_reducible repeat (first | refine blk_drewN ?_ _ | refine blk_drew ?_ | refine blk_alloc ?_ _)); exact BK227.out) hb); have n2_ := Aside0.mk (blk_below (g := gb228) (o := .cells #[.int .i64 0, .int .i64 0, .int .i64 0, .int .i64 0] 26 (0, 0)) (by (with_reducible repeat (first | refine blk_drewN ?_ _ | refine blk_drew ?_ | refine blk_alloc ?_ _)); refine blk_far ?_ NB228_226.out _; (with_reducible repeat (first | refine blk_drewN ?_ _ | refine blk_drew ?_ | refine blk_alloc ?_ _)); exact BK228.out) hb); have n3_ := Aside0.mk (below_step (by repeat (first | (with_reducible first | exact HB.out | apply below_alloc | apply pw_below_drewN | apply below_drew1 | refine below_set ?_ GE226.out | refine below_set ?_ GE227.out | refine below_set ?_ GE228.out) | exact HB.out)) hb); clear BK226; clear BK227; clear BK228; clear HB; have BK226 := n0_; have BK227 := n1_; have BK228 := n2_; have HB := n3_; clear n0_ n1_ n2_ n3_; (try clear hb); (try clear hb2); (try clear hk); (try clear hi); have hcz39_0 : w38.cell? ⟨gb228, 0, none⟩ = some (.int .i64 0) := (blk_cell BK228.out 0).trans rfl; have hcz39_1 : w38.cell? ⟨gb228, 1, none⟩ = some (.int .i64 0) := (blk_cell BK228.out 1).trans rfl; have hcz39_2 : w38.cell? ⟨gb228, 2, none⟩ = some (.int .i64 0) := (blk_cell BK228.out 2).trans rfl; have hcz39_3 : w38.cell? ⟨gb228, 3, none⟩ = some (.int .i64 0) := (blk_cell BK228.out 3).trans rfl; have hfz39_0 := blk_frozen BK228.out 0; have hfz39_1 := blk_frozen BK228.out 1; have hfz39_2 := blk_frozen BK228.out 2; have hfz39_3 := blk_frozen BK228.out 3))
  refine bodyPost_ret (results_cell_row rfl _ _ gb228 26 #[.int .i64 t239, .int .i64 t240, .int .i64 t241, .int .i64 t242] (0, 0) _ rfl (by (with_reducible repeat (first | refine blk_drewN ?_ _ | refine blk_drew ?_ | refine blk_alloc ?_ _)); refine blk_put (cs := #[.int .i64 t239, .int .i64 t240, .int .i64 t241, .int .i64 0]) ?_ 3 _ rfl; (with_reducible repeat (first | refine blk_drewN ?_ _ | refine blk_drew ?_ | refine blk_alloc ?_ _)); refine blk_put (cs := #[.int .i64 t239, .int .i64 t240, .int .i64 0, .int .i64 0]) ?_ 2 _ rfl; (with_reducible repeat (first | refine blk_drewN ?_ _ | refine blk_drew ?_ | refine blk_alloc ?_ _)); refine blk_put (cs := #[.int .i64 t239, .int .i64 0, .int .i64 0, .int .i64 0]) ?_ 1 _ rfl; (with_reducible repeat (first | refine blk_drewN ?_ _ | refine blk_drew ?_ | refine blk_alloc ?_ _)); refine blk_put (cs := #[.int .i64 0, .int .i64 0, .int .i64 0, .int .i64 0]) ?_ 0 _ rfl; (with_reducible repeat (first | refine blk_drewN ?_ _ | refine blk_drew ?_ | refine blk_alloc ?_ _)); exact BK228.out) Try.underlying26 rfl (by kernel_rfl)) rfl ?_
  exact ⟨by first | rfl | (simp [errW_none, errW_some] <;> rfl) | (simp only [← hji5, ← hji6]; first | rfl | (simp [errW_none, errW_some] <;> rfl)) | (simp [*, errW_none, errW_some] <;> rfl), by repeat (first | (with_reducible first | exact HB.out | apply below_alloc | apply pw_below_drewN | apply below_drew1 | refine below_set ?_ GE226.out | refine below_set ?_ GE227.out | refine below_set ?_ GE228.out) | exact HB.out)⟩

end Go.Proofs.Ytmokmkaipcojkaa.Q
