-- written by a program of this session after the way of the kit's print; not the kit's own print. Lean checks it.
import Derived.Test.YtbdkphjpdoajpaaQx0
import Derived.Test.YtbdkphjpdoajpaaQx2
import Derived.Test.YtbdkphjpdoajpaaQx3
import Derived.Test.YtbdkphjpdoajpaaQx8
namespace Go.Proofs.Ytbdkphjpdoajpaa.Q
open Go.RowKit Go.Proofs.YtbdkphjpdoajpaaW.PrintWords Go.Proofs.YtbdkphjpdoajpaaW.PrintLast Go.Proofs.YtbdkphjpdoajpaaW.PrintMore
attribute [local go_sem] max2_int min2_int max_two min_two max_three min_three max_four min_four   -- for this text's walks alone
set_option linter.unusedVariables false
set_option linter.unusedSimpArgs false

/-! ### module_Decode: function 10 -/
mutual
def module_Decode.l0 : Nat → List Int → List Int → Int → Int → List Int → Int → Bool → Option (Int × List Int × (List (S44)) × Int × Int)
  | 0, _, _, _, _, _, _, _ => none
  | k + 1, x0, x18, x19, x20, x153000, x153001, x153002 => if x20 < x19 then (if 0 ≤ x20 then (if x20 < (x18.length : Int) then ((module_reader_next.f x153000 x153001 x153002 (rd x18 x20) (rd x18 x20)).bind fun bt157 => (module_Decode.l0 k x0 x18 x19 (wrap64 (x20 + 1)) x153000 bt157.2.1 bt157.2.2)) else (none)) else (none)) else ((module_reader_two.f x153000 x153001 x153002 0 1024).bind fun bt160 => ((module_reader_two.f x153000 bt160.2.1 bt160.2.2 0 bt160.1).bind fun bt164 => (module_Decode.l1 k x0 bt164.1 x153000 bt164.2.1 bt164.2.2 bt160.1 ([] : List Int))))
def module_Decode.j2 : Nat → List Int → List Int → Int → Bool → Int → List Int → Option (Int × List Int × (List (S44)) × Int × Int)
  | 0, _, _, _, _, _, _ => none
  | k + 1, x0, x153000, x153001, x153002, x164000, x164001 => (module_reader_next.f x153000 x153001 x153002 1 16).bind fun bt173 => (module_Decode.l2 k x0 bt173.1 x153000 bt173.2.1 bt173.2.2 x164000 x164001 ([] : List (S44)))
def module_Decode.l2 : Nat → List Int → Int → List Int → Int → Bool → Int → List Int → List (S44) → Option (Int × List Int × (List (S44)) × Int × Int)
  | 0, _, _, _, _, _, _, _, _ => none
  | k + 1, x0, x9, x153000, x153001, x153002, x164000, x164001, x164002 => if x9 > 0 then (if x153002 = true then (some (0, ([] : List Int), ([] : List (S44)), 120, x153001)) else ((module_reader_function.f k x153000 x153001 x153002).bind fun bt176 => (if x164002.length < 2932031007402 then (module_Decode.l2 k x0 (wrap64 (x9 - 1)) x153000 bt176.2.2.2.2.1 bt176.2.2.2.2.2 x164000 x164001 (x164002 ++ [(⟨bt176.1, bt176.2.1, bt176.2.2.1, bt176.2.2.2.1⟩ : S44)])) else (none)))) else (if x153002 = true then (some (0, ([] : List Int), ([] : List (S44)), 120, x153001)) else (if x153001 < (x0.length : Int) then (some (0, ([] : List Int), ([] : List (S44)), 120, x153001)) else (some (x164000, x164001, x164002, 0, 0))))
def module_Decode.l1 : Nat → List Int → Int → List Int → Int → Bool → Int → List Int → Option (Int × List Int × (List (S44)) × Int × Int)
  | 0, _, _, _, _, _, _, _ => none
  | k + 1, x0, x8, x153000, x153001, x153002, x164000, x164001 => if x8 > 0 then (if x153002 = true then (module_Decode.j2 k x0 x153000 x153001 x153002 x164000 x164001) else ((module_reader_next.f x153000 x153001 x153002 0 255).bind fun bt167 => (if x164001.length < 140737488355328 then (module_Decode.l1 k x0 (wrap64 (x8 - 1)) x153000 bt167.2.1 bt167.2.2 x164000 (x164001 ++ [(bt167.1) % 256])) else (none)))) else (module_Decode.j2 k x0 x153000 x153001 x153002 x164000 x164001)
end
def module_Decode.f (k : Nat) (l0 : List Int) : Option (Int × List Int × (List (S44)) × Int × Int) := if (l0.length : Int) > 4096 then (some (0, ([] : List Int), ([] : List (S44)), 2, 0)) else ((some (([67, 83, 77, 1] : List Int) : List Int)).bind fun y153 => (module_Decode.l0 k l0 y153 (y153.length : Int) 0 l0 0 false))
theorem module_Decode.mono_l : ∀ k, (∀ y0 y1 y2 y3 y4 y5 y6, LeO (module_Decode.l0 k y0 y1 y2 y3 y4 y5 y6) (module_Decode.l0 (k + 1) y0 y1 y2 y3 y4 y5 y6)) ∧ (∀ y0 y1 y2 y3 y4 y5, LeO (module_Decode.j2 k y0 y1 y2 y3 y4 y5) (module_Decode.j2 (k + 1) y0 y1 y2 y3 y4 y5)) ∧ (∀ y0 y1 y2 y3 y4 y5 y6 y7, LeO (module_Decode.l2 k y0 y1 y2 y3 y4 y5 y6 y7) (module_Decode.l2 (k + 1) y0 y1 y2 y3 y4 y5 y6 y7)) ∧ (∀ y0 y1 y2 y3 y4 y5 y6, LeO (module_Decode.l1 k y0 y1 y2 y3 y4 y5 y6) (module_Decode.l1 (k + 1) y0 y1 y2 y3 y4 y5 y6))
  | 0 => ⟨fun _ _ _ _ _ _ _ r h => by simp [module_Decode.l0] at h, fun _ _ _ _ _ _ r h => by simp [module_Decode.j2] at h, fun _ _ _ _ _ _ _ _ r h => by simp [module_Decode.l2] at h, fun _ _ _ _ _ _ _ r h => by simp [module_Decode.l1] at h⟩
  | k + 1 => by
    obtain ⟨ih0, ih1, ih2, ih3⟩ := module_Decode.mono_l k
    refine ⟨?_, ?_, ?_, ?_⟩
    · intro y0 y1 y2 y3 y4 y5 y6
      unfold module_Decode.l0
      repeat' first
      | (with_reducible exact ih0 _ _ _ _ _ _ _)
      | (with_reducible exact ih1 _ _ _ _ _ _)
      | (with_reducible exact ih2 _ _ _ _ _ _ _ _)
      | (with_reducible exact ih3 _ _ _ _ _ _ _)
      | (with_reducible exact module_reader_function.mono _ _ _ _)
      | (with_reducible exact LeO.refl _)
      | (with_reducible exact LeO.none _)
      | (with_reducible refine LeO.ite ?_ ?_)
      | (with_reducible refine LeO.bind ?_ (fun _ => ?_))
      | exact ih0 _ _ _ _ _ _ _
      | exact ih1 _ _ _ _ _ _
      | exact ih2 _ _ _ _ _ _ _ _
      | exact ih3 _ _ _ _ _ _ _
      | exact module_reader_function.mono _ _ _ _
      | exact LeO.none _
      | refine LeO.ite ?_ ?_
      | refine LeO.bind ?_ (fun _ => ?_)
    · intro y0 y1 y2 y3 y4 y5
      unfold module_Decode.j2
      repeat' first
      | (with_reducible exact ih0 _ _ _ _ _ _ _)
      | (with_reducible exact ih1 _ _ _ _ _ _)
      | (with_reducible exact ih2 _ _ _ _ _ _ _ _)
      | (with_reducible exact ih3 _ _ _ _ _ _ _)
      | (with_reducible exact module_reader_function.mono _ _ _ _)
      | (with_reducible exact LeO.refl _)
      | (with_reducible exact LeO.none _)
      | (with_reducible refine LeO.ite ?_ ?_)
      | (with_reducible refine LeO.bind ?_ (fun _ => ?_))
      | exact ih0 _ _ _ _ _ _ _
      | exact ih1 _ _ _ _ _ _
      | exact ih2 _ _ _ _ _ _ _ _
      | exact ih3 _ _ _ _ _ _ _
      | exact module_reader_function.mono _ _ _ _
      | exact LeO.none _
      | refine LeO.ite ?_ ?_
      | refine LeO.bind ?_ (fun _ => ?_)
    · intro y0 y1 y2 y3 y4 y5 y6 y7
      unfold module_Decode.l2
      repeat' first
      | (with_reducible exact ih0 _ _ _ _ _ _ _)
      | (with_reducible exact ih1 _ _ _ _ _ _)
      | (with_reducible exact ih2 _ _ _ _ _ _ _ _)
      | (with_reducible exact ih3 _ _ _ _ _ _ _)
      | (with_reducible exact module_reader_function.mono _ _ _ _)
      | (with_reducible exact LeO.refl _)
      | (with_reducible exact LeO.none _)
      | (with_reducible refine LeO.ite ?_ ?_)
      | (with_reducible refine LeO.bind ?_ (fun _ => ?_))
      | exact ih0 _ _ _ _ _ _ _
      | exact ih1 _ _ _ _ _ _
      | exact ih2 _ _ _ _ _ _ _ _
      | exact ih3 _ _ _ _ _ _ _
      | exact module_reader_function.mono _ _ _ _
      | exact LeO.none _
      | refine LeO.ite ?_ ?_
      | refine LeO.bind ?_ (fun _ => ?_)
    · intro y0 y1 y2 y3 y4 y5 y6
      unfold module_Decode.l1
      repeat' first
      | (with_reducible exact ih0 _ _ _ _ _ _ _)
      | (with_reducible exact ih1 _ _ _ _ _ _)
      | (with_reducible exact ih2 _ _ _ _ _ _ _ _)
      | (with_reducible exact ih3 _ _ _ _ _ _ _)
      | (with_reducible exact module_reader_function.mono _ _ _ _)
      | (with_reducible exact LeO.refl _)
      | (with_reducible exact LeO.none _)
      | (with_reducible refine LeO.ite ?_ ?_)
      | (with_reducible refine LeO.bind ?_ (fun _ => ?_))
      | exact ih0 _ _ _ _ _ _ _
      | exact ih1 _ _ _ _ _ _
      | exact ih2 _ _ _ _ _ _ _ _
      | exact ih3 _ _ _ _ _ _ _
      | exact module_reader_function.mono _ _ _ _
      | exact LeO.none _
      | refine LeO.ite ?_ ?_
      | refine LeO.bind ?_ (fun _ => ?_)
theorem module_Decode.mono : ∀ a0 k, LeO (module_Decode.f k a0) (module_Decode.f (k + 1) a0) := by
  intro a0 k
  obtain ⟨ih0, ih1, ih2, ih3⟩ := module_Decode.mono_l k
  unfold module_Decode.f
  repeat' first
      | (with_reducible exact ih0 _ _ _ _ _ _ _)
      | (with_reducible exact ih1 _ _ _ _ _ _)
      | (with_reducible exact ih2 _ _ _ _ _ _ _ _)
      | (with_reducible exact ih3 _ _ _ _ _ _ _)
      | (with_reducible exact module_reader_function.mono _ _ _ _)
      | (with_reducible exact LeO.refl _)
      | (with_reducible exact LeO.none _)
      | (with_reducible refine LeO.ite ?_ ?_)
      | (with_reducible refine LeO.bind ?_ (fun _ => ?_))
      | exact ih0 _ _ _ _ _ _ _
      | exact ih1 _ _ _ _ _ _
      | exact ih2 _ _ _ _ _ _ _ _
      | exact ih3 _ _ _ _ _ _ _
      | exact module_reader_function.mono _ _ _ _
      | exact LeO.none _
      | refine LeO.ite ?_ ?_
      | refine LeO.bind ?_ (fun _ => ?_)
def module_Decode.T13 : Bool × List (List Nat × List Nat) := (true, [([], []), ([0], [0]), ([], []), ([2], [2]), ([3], [3]), ([4], [4]), ([1, 5, 3], [1, 5]), ([0, 1, 2, 3, 4, 5, 6], []), ([7, 6, 6, 0, 1, 2, 3, 4, 5, 6], [6, 7])])
def module_Decode.B13 : List Nat := [0, 1, 0, 4, 12, 28, 63, 127, 255]
theorem module_Decode.tab13 : rtab .any (opsOf Try.f10 13) = module_Decode.T13 := by kernel_rfl
theorem module_Decode.bits13 : waitsOk module_Decode.T13.2 module_Decode.B13 = true := by kernel_rfl
def module_Decode.T17 : Bool × List (List Nat × List Nat) := (true, [([], []), ([0], [0]), ([], []), ([2], [2]), ([3], [3]), ([1, 4, 3], [1, 4]), ([0, 1, 2, 3, 4, 5], []), ([6, 5, 5, 0, 1, 2, 3, 4, 5], [5, 6])])
def module_Decode.B17 : List Nat := [0, 1, 0, 4, 12, 31, 63, 127]
theorem module_Decode.tab17 : rtab .any (opsOf Try.f10 17) = module_Decode.T17 := by kernel_rfl
theorem module_Decode.bits17 : waitsOk module_Decode.T17.2 module_Decode.B17 = true := by kernel_rfl
def module_Decode.T19 : Bool × List (List Nat × List Nat) := (true, [([], []), ([], []), ([1], [1]), ([2], [2]), ([3], [3]), ([4], [4]), ([0, 0], [0]), ([5, 6, 0, 1, 2, 3, 4, 5, 6], [5])])
def module_Decode.B19 : List Nat := [0, 0, 2, 6, 14, 30, 1, 127]
theorem module_Decode.tab19 : rtab .any (opsOf Try.f10 19) = module_Decode.T19 := by kernel_rfl
theorem module_Decode.bits19 : waitsOk module_Decode.T19.2 module_Decode.B19 = true := by kernel_rfl
set_option maxHeartbeats 8000000 in
set_option maxRecDepth 100000 in
theorem module_Decode.calls (k : Nat) (A0 : Option Addr) (c0 : Nat) (l0 : List Int) (r1 : Int) (r2 : List Int) (r3 : List (S44)) (r4 : Int) (r5 : Int) (w : World) (hr0 : Kd.C (Kd.int .u8) w A0 l0.length l0) (hc0 : l0.length ≤ c0) (h : module_Decode.f k l0 = some (r1, r2, r3, r4, r5)) :
    Calls Try.prog 10 #[.slice A0 l0.length c0] w fun e w' => ∃ v1_ v2_ : Value, e = .returned (.tuple #[.agg #[.int .i64 r1, v1_, v2_], .agg #[.int .i64 r4, .int .i64 r5]]) ∧ Kd.R (Kd.int .u8) 5 w' w.heap.size (fun _ => True) v1_ r2 ∧ Kd.S k44 44 w' w.heap.size (fun _ => True) v2_ r3 ∧ Below w.heap.size w w' := by
  have hu26 := Try.underlying26
  have hu29 := Try.underlying29
  have hu52 := Try.underlying52
  have HR0 := Aside0.mk hr0
  have HC0 := Aside0.mk hc0
  clear hr0 hc0
  have HB := Aside0.mk (Below.refl w.heap.size w)
  have H : (if (l0.length : Int) > 4096 then (some (0, ([] : List Int), ([] : List (S44)), 2, 0)) else ((some (([67, 83, 77, 1] : List Int) : List Int)).bind fun y153 => (module_Decode.l0 k l0 y153 (y153.length : Int) 0 l0 0 false))) = some (r1, r2, r3, r4, r5) := h
  clear h
  by_cases c2 : (l0.length : Int) > 4096
  · rw [if_pos c2] at H
    have c2b0 : decide (4096 < (l0.length : Int)) = true := decide_eq_true c2
    have c2b1 : decide (4096 < l0.length) = true := decide_eq_true (by omega)
    clear c2
    simp only [Option.some.injEq, Prod.mk.injEq] at H
    obtain ⟨rfl, rfl, rfl, rfl, rfl⟩ := H
    go_enter Try.func10, Try.ntmps10
    go_wp2_with (first | ((with_reducible refine gate_dst (N := 2) rfl ?_); (try (refine gate_guard (by rfl) ?_; dsimp only)); refine box_event ?hg (N := 2) ?hd (cs := #[.int .i64 0, .slice none 0 0, .slice none 0 0]) (t := 26) ?hr ?_; (case hd => rfl); (case hg => rfl); (case hr => first | (go_simp; done) | (go_simp; rfl)); intro gb150 hg w3 hbox hb; have n0_ := Aside0.mk (below_step (by repeat (first | (with_reducible first | exact HB.out | apply below_alloc | apply pw_below_drewN | apply below_drew1) | exact HB.out)) hb); have n1_ := Aside0.mk (hbox); have n2_ := Aside0.mk ((by rw [hg]; exact (below_size (by repeat (first | (with_reducible first | exact HB.out | apply below_alloc | apply pw_below_drewN | apply below_drew1) | exact HB.out))) : w.heap.size ≤ gb150)); have n3_ := Aside0.mk ((by rw [hg]; exact (below_size (by repeat (first | (with_reducible first | exact HB.out | apply below_alloc | apply pw_below_drewN | apply below_drew1) | exact HB.out))) : w.heap.size ≤ gb150)); clear HB; have HB := n0_; have BK150 := n1_; have GW150 := n2_; have GE150 := n3_; clear n0_ n1_ n2_ n3_; clear hb hbox hg) | ((with_reducible refine gate_dst (N := 3) rfl ?_); (try (refine gate_guard (by rfl) ?_; dsimp only)); refine box_event ?hg (N := 3) ?hd (cs := #[.int .i64 0, .int .i64 0]) (t := 29) ?hr ?_; (case hd => rfl); (case hg => rfl); (case hr => first | (go_simp; done) | (go_simp; rfl)); intro gb151 hg w4 hbox hb; have n0_ := Aside0.mk (blk_below (g := gb150) (o := .cells #[.int .i64 0, .slice none 0 0, .slice none 0 0] 26 (0, 0)) (by (with_reducible repeat (first | refine blk_drewN ?_ _ | refine blk_drew ?_ | refine blk_alloc ?_ _)); exact BK150.out) hb); have n1_ := Aside0.mk (below_step (by repeat (first | (with_reducible first | exact HB.out | apply below_alloc | apply pw_below_drewN | apply below_drew1 | refine below_set ?_ GE150.out) | exact HB.out)) hb); have n2_ := Aside0.mk (hbox); have n3_ := Aside0.mk ((by rw [hg]; exact (below_size (by repeat (first | (with_reducible first | exact HB.out | apply below_alloc | apply pw_below_drewN | apply below_drew1 | refine below_set ?_ GE150.out) | exact HB.out))) : w.heap.size ≤ gb151)); have n4_ := Aside0.mk ((by rw [hg]; exact (below_size (by repeat (first | (with_reducible first | exact HB.out | apply below_alloc | apply pw_below_drewN | apply below_drew1 | refine below_set ?_ GE150.out) | exact HB.out))) : w.heap.size ≤ gb151)); have n5_ := Aside0.mk ((by rw [hg]; exact Nat.ne_of_lt (blk_lt (g := gb150) (o := .cells #[.int .i64 0, .slice none 0 0, .slice none 0 0] 26 (0, 0)) (by (with_reducible repeat (first | refine blk_drewN ?_ _ | refine blk_drew ?_ | refine blk_alloc ?_ _)); exact BK150.out)) : gb150 ≠ gb151)); have n6_ := Aside0.mk ((by rw [hg]; exact Nat.ne_of_gt (blk_lt (g := gb150) (o := .cells #[.int .i64 0, .slice none 0 0, .slice none 0 0] 26 (0, 0)) (by (with_reducible repeat (first | refine blk_drewN ?_ _ | refine blk_drew ?_ | refine blk_alloc ?_ _)); exact BK150.out)) : gb151 ≠ gb150)); clear BK150; clear HB; have BK150 := n0_; have HB := n1_; have BK151 := n2_; have GW151 := n3_; have GE151 := n4_; have NB150_151 := n5_; have NB151_150 := n6_; clear n0_ n1_ n2_ n3_ n4_ n5_ n6_; clear hb hbox hg; have hnb5 := NB150_151.out; have hnc5 := NB151_150.out; have hcz6_0 : w4.cell? ⟨gb150, 0, none⟩ = some (.int .i64 0) := (blk_cell BK150.out 0).trans rfl; have hcz6_1 : w4.cell? ⟨gb150, 1, none⟩ = some (.slice none 0 0) := (blk_cell BK150.out 1).trans rfl; have hcz6_2 : w4.cell? ⟨gb150, 2, none⟩ = some (.slice none 0 0) := (blk_cell BK150.out 2).trans rfl; have hfz6_0 := blk_frozen BK150.out 0; have hfz6_1 := blk_frozen BK150.out 1; have hfz6_2 := blk_frozen BK150.out 2; have hcz7_0 : w4.cell? ⟨gb151, 0, none⟩ = some (.int .i64 0) := (blk_cell BK151.out 0).trans rfl; have hcz7_1 : w4.cell? ⟨gb151, 1, none⟩ = some (.int .i64 0) := (blk_cell BK151.out 1).trans rfl; have hfz7_0 := blk_frozen BK151.out 0; have hfz7_1 := blk_frozen BK151.out 1))
    refine bodyPost_ret (results_cc rfl _ _ gb150 gb151 26 29 #[.int .i64 0, .slice none 0 0, .slice none 0 0] #[.int .i64 2, .int .i64 0] (0, 0) (0, 0) _ _ rfl (by (with_reducible repeat (first | refine blk_drewN ?_ _ | refine blk_drew ?_ | refine blk_alloc ?_ _)); refine blk_far ?_ NB150_151.out _; (with_reducible repeat (first | refine blk_drewN ?_ _ | refine blk_drew ?_ | refine blk_alloc ?_ _)); refine blk_far ?_ NB150_151.out _; (with_reducible repeat (first | refine blk_drewN ?_ _ | refine blk_drew ?_ | refine blk_alloc ?_ _)); refine blk_put (cs := #[.int .i64 0, .slice none 0 0, .slice none 0 0]) ?_ 2 _ rfl; (with_reducible repeat (first | refine blk_drewN ?_ _ | refine blk_drew ?_ | refine blk_alloc ?_ _)); refine blk_put (cs := #[.int .i64 0, .slice none 0 0, .slice none 0 0]) ?_ 1 _ rfl; (with_reducible repeat (first | refine blk_drewN ?_ _ | refine blk_drew ?_ | refine blk_alloc ?_ _)); refine blk_put (cs := #[.int .i64 0, .slice none 0 0, .slice none 0 0]) ?_ 0 _ rfl; (with_reducible repeat (first | refine blk_drewN ?_ _ | refine blk_drew ?_ | refine blk_alloc ?_ _)); exact BK150.out) Try.underlying26 rfl (by kernel_rfl) rfl (by (with_reducible repeat (first | refine blk_drewN ?_ _ | refine blk_drew ?_ | refine blk_alloc ?_ _)); refine blk_put (cs := #[.int .i64 2, .int .i64 0]) ?_ 1 _ rfl; (with_reducible repeat (first | refine blk_drewN ?_ _ | refine blk_drew ?_ | refine blk_alloc ?_ _)); refine blk_put (cs := #[.int .i64 0, .int .i64 0]) ?_ 0 _ rfl; (with_reducible repeat (first | refine blk_drewN ?_ _ | refine blk_drew ?_ | refine blk_alloc ?_ _)); refine blk_far ?_ NB151_150.out _; (with_reducible repeat (first | refine blk_drewN ?_ _ | refine blk_drew ?_ | refine blk_alloc ?_ _)); refine blk_far ?_ NB151_150.out _; (with_reducible repeat (first | refine blk_drewN ?_ _ | refine blk_drew ?_ | refine blk_alloc ?_ _)); refine blk_far ?_ NB151_150.out _; (with_reducible repeat (first | refine blk_drewN ?_ _ | refine blk_drew ?_ | refine blk_alloc ?_ _)); exact BK151.out) Try.underlying29 rfl (by kernel_rfl)) rfl ?_
    exact ⟨_, _, by first | rfl | (simp [errW_none, errW_some] <;> rfl) | (simp [*, errW_none, errW_some] <;> rfl), by first | exact Kd.R_nil _ _ _ _ _ | exact Kd.N_nil _ _ _ _ _ | exact Kd.V_nil _ _ _ _ _ | exact Kd.Q_nil _ _ _ _ _ | exact Kd.S_nil _ _ _ _ _, by first | exact Kd.S_nil _ _ _ _ _ | exact Kd.N_nil _ _ _ _ _ | exact Kd.V_nil _ _ _ _ _ | exact Kd.Q_nil _ _ _ _ _ | exact Kd.R_nil _ _ _ _ _, by repeat (first | (with_reducible first | exact HB.out | apply below_alloc | apply pw_below_drewN | apply below_drew1 | refine below_set ?_ GE150.out | refine below_set ?_ GE151.out) | exact HB.out)⟩
  · rw [if_neg c2] at H
    have c2b0 : decide (4096 < (l0.length : Int)) = false := decide_eq_false c2
    have c2b1 : decide (4096 < l0.length) = false := decide_eq_false (by omega)
    clear c2
    obtain ⟨y153, hy153⟩ : ∃ y_ : List Int, y_ = (([67, 83, 77, 1] : List Int)) := ⟨_, rfl⟩
    replace H : (module_Decode.l0 k l0 y153 (y153.length : Int) 0 l0 0 false) = some (r1, r2, r3, r4, r5) := by first | (rw [hy153]; with_reducible exact H) | (have H2_ := (Option.bind_some _ _).symm.trans H; rw [hy153]; with_reducible exact H2_) | (have H2_ := (Option.bind_some _ _).symm.trans H; with_reducible exact H2_) | with_reducible exact H | (rw [hy153]; exact H) | exact H
    have Ny153 := Aside0.mk hy153
    clear hy153
    have H' := Aside0.mk H
    clear H
    go_enter Try.func10, Try.ntmps10
    go_wp2_with (first | ((with_reducible refine gate_dst (N := 2) rfl ?_); (try (refine gate_guard (by rfl) ?_; dsimp only)); refine box_event ?hg (N := 2) ?hd (cs := #[.int .i64 0, .slice none 0 0, .slice none 0 0]) (t := 26) ?hr ?_; (case hd => rfl); (case hg => rfl); (case hr => first | (go_simp; done) | (go_simp; rfl)); intro gb150 hg w8 hbox hb; have n0_ := Aside0.mk (below_step (by repeat (first | (with_reducible first | exact HB.out | apply below_alloc | apply pw_below_drewN | apply below_drew1) | exact HB.out)) hb); have n1_ := Aside0.mk (hbox); have n2_ := Aside0.mk ((by rw [hg]; exact (below_size (by repeat (first | (with_reducible first | exact HB.out | apply below_alloc | apply pw_below_drewN | apply below_drew1) | exact HB.out))) : w.heap.size ≤ gb150)); have n3_ := Aside0.mk ((by rw [hg]; exact (below_size (by repeat (first | (with_reducible first | exact HB.out | apply below_alloc | apply pw_below_drewN | apply below_drew1) | exact HB.out))) : w.heap.size ≤ gb150)); clear HB; have HB := n0_; have BK150 := n1_; have GW150 := n2_; have GE150 := n3_; clear n0_ n1_ n2_ n3_; clear hb hbox hg) | ((with_reducible refine gate_dst (N := 3) rfl ?_); (try (refine gate_guard (by rfl) ?_; dsimp only)); refine box_event ?hg (N := 3) ?hd (cs := #[.int .i64 0, .int .i64 0]) (t := 29) ?hr ?_; (case hd => rfl); (case hg => rfl); (case hr => first | (go_simp; done) | (go_simp; rfl)); intro gb151 hg w9 hbox hb; have n0_ := Aside0.mk (blk_below (g := gb150) (o := .cells #[.int .i64 0, .slice none 0 0, .slice none 0 0] 26 (0, 0)) (by (with_reducible repeat (first | refine blk_drewN ?_ _ | refine blk_drew ?_ | refine blk_alloc ?_ _)); exact BK150.out) hb); have n1_ := Aside0.mk (below_step (by repeat (first | (with_reducible first | exact HB.out | apply below_alloc | apply pw_below_drewN | apply below_drew1 | refine below_set ?_ GE150.out) | exact HB.out)) hb); have n2_ := Aside0.mk (hbox); have n3_ := Aside0.mk ((by rw [hg]; exact (below_size (by repeat (first | (with_reducible first | exact HB.out | apply below_alloc | apply pw_below_drewN | apply below_drew1 | refine below_set ?_ GE150.out) | exact HB.out))) : w.heap.size ≤ gb151)); have n4_ := Aside0.mk ((by rw [hg]; exact (below_size (by repeat (first | (with_reducible first | exact HB.out | apply below_alloc | apply pw_below_drewN | apply below_drew1 | refine below_set ?_ GE150.out) | exact HB.out))) : w.heap.size ≤ gb151)); have n5_ := Aside0.mk ((by rw [hg]; exact Nat.ne_of_lt (blk_lt (g := gb150) (o := .cells #[.int .i64 0, .slice none 0 0, .slice none 0 0] 26 (0, 0)) (by (with_reducible repeat (first | refine blk_drewN ?_ _ | refine blk_drew ?_ | refine blk_alloc ?_ _)); exact BK150.out)) : gb150 ≠ gb151)); have n6_ := Aside0.mk ((by rw [hg]; exact Nat.ne_of_gt (blk_lt (g := gb150) (o := .cells #[.int .i64 0, .slice none 0 0, .slice none 0 0] 26 (0, 0)) (by (with_reducible repeat (first | refine blk_drewN ?_ _ | refine blk_drew ?_ | refine blk_alloc ?_ _)); exact BK150.out)) : gb151 ≠ gb150)); clear BK150; clear HB; have BK150 := n0_; have HB := n1_; have BK151 := n2_; have GW151 := n3_; have GE151 := n4_; have NB150_151 := n5_; have NB151_150 := n6_; clear n0_ n1_ n2_ n3_ n4_ n5_ n6_; clear hb hbox hg) | ((with_reducible refine gate_dst (N := 17) rfl ?_); (try (refine gate_guard (by rfl) ?_; dsimp only)); refine box_event ?hg (N := 17) ?hd (cs := #[.slice A0 l0.length c0, .int .i64 0, .bool false]) (t := 52) ?hr ?_; (case hd => rfl); (case hg => rfl); (case hr => first | (go_simp; done) | (go_simp; rfl)); intro gb152 hg w10 hbox hb; have n0_ := Aside0.mk (blk_below (g := gb150) (o := .cells #[.int .i64 0, .slice none 0 0, .slice none 0 0] 26 (0, 0)) (by (with_reducible repeat (first | refine blk_drewN ?_ _ | refine blk_drew ?_ | refine blk_alloc ?_ _)); exact BK150.out) hb); have n1_ := Aside0.mk (blk_below (g := gb151) (o := .cells #[.int .i64 0, .int .i64 0] 29 (0, 0)) (by (with_reducible repeat (first | refine blk_drewN ?_ _ | refine blk_drew ?_ | refine blk_alloc ?_ _)); exact BK151.out) hb); have n2_ := Aside0.mk (below_step (by repeat (first | (with_reducible first | exact HB.out | apply below_alloc | apply pw_below_drewN | apply below_drew1 | refine below_set ?_ GE150.out | refine below_set ?_ GE151.out) | exact HB.out)) hb); have n3_ := Aside0.mk ((by rw [hg]; exact Nat.ne_of_lt (blk_lt (g := gb150) (o := .cells #[.int .i64 0, .slice none 0 0, .slice none 0 0] 26 (0, 0)) (by (with_reducible repeat (first | refine blk_drewN ?_ _ | refine blk_drew ?_ | refine blk_alloc ?_ _)); exact BK150.out)) : gb150 ≠ gb152)); have n4_ := Aside0.mk ((by rw [hg]; exact Nat.ne_of_gt (blk_lt (g := gb150) (o := .cells #[.int .i64 0, .slice none 0 0, .slice none 0 0] 26 (0, 0)) (by (with_reducible repeat (first | refine blk_drewN ?_ _ | refine blk_drew ?_ | refine blk_alloc ?_ _)); exact BK150.out)) : gb152 ≠ gb150)); have n5_ := Aside0.mk ((by rw [hg]; exact Nat.ne_of_lt (blk_lt (g := gb151) (o := .cells #[.int .i64 0, .int .i64 0] 29 (0, 0)) (by (with_reducible repeat (first | refine blk_drewN ?_ _ | refine blk_drew ?_ | refine blk_alloc ?_ _)); exact BK151.out)) : gb151 ≠ gb152)); have n6_ := Aside0.mk ((by rw [hg]; exact Nat.ne_of_gt (blk_lt (g := gb151) (o := .cells #[.int .i64 0, .int .i64 0] 29 (0, 0)) (by (with_reducible repeat (first | refine blk_drewN ?_ _ | refine blk_drew ?_ | refine blk_alloc ?_ _)); exact BK151.out)) : gb152 ≠ gb151)); have n7_ := Aside0.mk ((show IsS52 w w10 gb152 l0 0 false from ⟨_, _, hbox, ((by rw [hg]; exact (below_size (by repeat (first | (with_reducible first | exact HB.out | apply below_alloc | apply pw_below_drewN | apply below_drew1 | refine below_set ?_ GE150.out | refine below_set ?_ GE151.out) | exact HB.out))) : w.heap.size ≤ gb152)), HR0.out⟩)); clear BK150; clear BK151; clear HB; have BK150 := n0_; have BK151 := n1_; have HB := n2_; have NB150_152 := n3_; have NB152_150 := n4_; have NB151_152 := n5_; have NB152_151 := n6_; have HI152 := n7_; clear n0_ n1_ n2_ n3_ n4_ n5_ n6_ n7_; clear hb hbox hg) | ((with_reducible refine gate_dst (N := 18) rfl ?_); (try (refine gate_guard (by rfl) ?_; dsimp only)); refine Kd.R_lit (Kd.int .i64) _ 3 ?hg (N := 18) ?hd (xs := ([67, 83, 77, 1] : List Int)) (inner := [.int .i64 67, .int .i64 83, .int .i64 77, .int .i64 1]) (ok := fun _ => True) (okp := fun _ => True) ?hr ?hp (fun _ hk => hk) trivial (Below.refl _ _) (Nat.le_refl _) (by simp) ?_; (case hd => rfl); (case hg => rfl); (case hr => first | (go_simp; done) | (go_simp; rfl)); (case hp => exact (Reps.one (show Kd.M (Kd.int .i64) _ _ _ 67 [.int .i64 67] from rfl) (Reps.one (show Kd.M (Kd.int .i64) _ _ _ 83 [.int .i64 83] from rfl) (Reps.one (show Kd.M (Kd.int .i64) _ _ _ 77 [.int .i64 77] from rfl) (Reps.one (show Kd.M (Kd.int .i64) _ _ _ 1 [.int .i64 1] from rfl) (Reps.none _ _)))))); intro v154 w11 ho12 hb hg_ hnew_; clear hg_ hnew_; (first | rw [← Ny153.out] at ho12 | (simp only [Int.reduceToNat] at ho12; rw [← Ny153.out] at ho12)); have n0_ := Aside0.mk (Kd.R_lower ho12 (below_size (by repeat (first | (with_reducible first | exact HB.out | apply below_alloc | apply pw_below_drewN | apply below_drew1 | refine below_set ?_ (IsS52.ge HI152.out) | refine below_set ?_ GE150.out | refine below_set ?_ GE151.out) | exact HB.out)))); have n1_ := Aside0.mk (blk_below (g := gb150) (o := .cells #[.int .i64 0, .slice none 0 0, .slice none 0 0] 26 (0, 0)) (by (with_reducible repeat (first | refine blk_drewN ?_ _ | refine blk_drew ?_ | refine blk_alloc ?_ _)); exact BK150.out) hb); have n2_ := Aside0.mk (blk_below (g := gb151) (o := .cells #[.int .i64 0, .int .i64 0] 29 (0, 0)) (by (with_reducible repeat (first | refine blk_drewN ?_ _ | refine blk_drew ?_ | refine blk_alloc ?_ _)); exact BK151.out) hb); have n3_ := Aside0.mk (IsS52.below (by repeat (first | (with_reducible first | exact HI152.out | apply IsS52.alloc | apply IsS52.drewN | apply IsS52.drew | apply IsS52.set_1 | apply IsS52.set_2 | refine IsS52.far ?_ NB152_150.out _ | refine IsS52.far ?_ NB152_151.out _) | exact HI152.out)) hb); have n4_ := Aside0.mk (below_step (by repeat (first | (with_reducible first | exact HB.out | apply below_alloc | apply pw_below_drewN | apply below_drew1 | refine below_set ?_ (IsS52.ge HI152.out) | refine below_set ?_ GE150.out | refine below_set ?_ GE151.out) | exact HB.out)) hb); clear BK150; clear BK151; clear HI152; clear HB; have HO155 := n0_; have BK150 := n1_; have BK151 := n2_; have HI152 := n3_; have HB := n4_; clear n0_ n1_ n2_ n3_ n4_; clear hb ho12; obtain ⟨Ao13, co13, eo13⟩ := Kd.R_slice HO155.out; subst eo13))
    go_loopg [20] k (fun kq v20 w' => ∃ (x20_1 : Int) (x153001_1 : Int) (x153002_1 : Bool), v20 = .int .i64 x20_1 ∧ Aside0 (module_Decode.l0 kq l0 y153 (y153.length : Int) x20_1 l0 x153001_1 x153002_1 = some (r1, r2, r3, r4, r5)) ∧ Aside0 (kq ≤ k) ∧ Aside0 (Kd.R (Kd.int .i64) 3 w' w.heap.size (fun _ => True) (.slice Ao13 y153.length co13) y153) ∧ Aside0 (w'.heap[gb150]? = some (.cells #[.int .i64 0, (.slice none 0 0), (.slice none 0 0)] 26 (0, 0))) ∧ Aside0 (w'.heap[gb151]? = some (.cells #[.int .i64 0, .int .i64 0] 29 (0, 0))) ∧ Aside0 (IsS52 w w' gb152 l0 x153001_1 x153002_1) ∧ Aside0 (Below w.heap.size w w'))
    case atStart => exact ⟨(0), (0), (false), (by first | rfl | (simp; done) | (simp [*]; done)), H', ⟨Nat.le_refl _⟩, ⟨by (with_reducible repeat (first | apply Kd.R_alloc | apply Kd.R_drewN | apply Kd.R_drew)); exact HO155.out⟩, ⟨by (with_reducible repeat (first | refine blk_drewN ?_ _ | refine blk_drew ?_ | refine blk_alloc ?_ _)); exact BK150.out⟩, ⟨by (with_reducible repeat (first | refine blk_drewN ?_ _ | refine blk_drew ?_ | refine blk_alloc ?_ _)); exact BK151.out⟩, ⟨by repeat (first | (with_reducible first | exact HI152.out | apply IsS52.alloc | apply IsS52.drewN | apply IsS52.drew | apply IsS52.set_1 | apply IsS52.set_2 | refine IsS52.far ?_ NB152_150.out _ | refine IsS52.far ?_ NB152_151.out _) | exact HI152.out)⟩, ⟨by repeat (first | (with_reducible first | exact HB.out | apply below_alloc | apply pw_below_drewN | apply below_drew1 | refine below_set ?_ (IsS52.ge HI152.out) | refine below_set ?_ GE150.out | refine below_set ?_ GE151.out) | exact HB.out)⟩⟩
    case round =>
      clear H'
      try clear c1
      try clear c2
      try clear c2b0
      try clear c2b1
      try clear p2
      try clear c5
      try clear c10
      try clear hcz6_0
      try clear hcz6_1
      try clear hcz6_2
      try clear hcz7_0
      try clear hcz7_1
      try clear hfz6_0
      try clear hfz6_1
      try clear hfz6_2
      try clear hfz7_0
      try clear hfz7_1
      obtain ⟨x20_1, x153001_1, x153002_1, rfl, HA, HK1, HO_18, BK150, BK151, HI152, HB⟩ := hrel
      cases gk with
      | zero => exact absurd HA.out (by simp [module_Decode.l0])
      | succ k1 =>
        have H := HA.out
        clear HA
        simp only [module_Decode.l0] at H
        by_cases c14 : x20_1 < (y153.length : Int)
        · rw [if_pos c14] at H
          have c14b0 : decide (x20_1 < (y153.length : Int)) = true := decide_eq_true c14
          clear c14
          by_cases c15 : 0 ≤ x20_1
          · rw [if_pos c15] at H
            have c15b0 : decide (0 ≤ x20_1) = true := decide_eq_true c15
            clear c15
            by_cases c16 : x20_1 < (y153.length : Int)
            · rw [if_pos c16] at H
              have c16b0 : decide (x20_1 < (y153.length : Int)) = true := decide_eq_true c16
              clear c16
              replace H := Option.bind_eq_some_iff.mp H
              obtain ⟨⟨t157, t158, t159⟩, A170, H⟩ := H
              replace H : (module_Decode.l0 k1 l0 y153 (y153.length : Int) (wrap64 (x20_1 + 1)) l0 t158 t159) = some (r1, r2, r3, r4, r5) := H
              have A17 := Aside0.mk A170
              clear A170
              have H' := Aside0.mk H
              clear H
              have p156 : 0 ≤ (x20_1 : Int) := of_decide_eq_true (by first | (with_reducible assumption) | assumption)
              have q156 : x20_1 < (y153.length : Int) := of_decide_eq_true (by first | (with_reducible assumption) | assumption)
              obtain ⟨ad156, e156, hx156_0⟩ := Kd.at_int (Kd.R_reads' HO_18.out).2.2 x20_1 p156 q156
              cases e156
              replace p156 := eq_true p156
              replace q156 := eq_true q156
              go_wp2_with (first | ((with_reducible refine gate_callee (f := 17) rfl ?_); refine goesL_ (some 27) rfl rfl Try.func17 (by kernel_rfl) rfl #[.pointer (some ⟨gb152, 0, none⟩), .int .i64 (rd y153 x20_1), .int .i64 (rd y153 x20_1)] rfl (by (try simp only [List.map_toArray, List.map_cons, List.map_nil]); first | done | rfl | (simp only [List.length_drop, List.length_take]; rfl)) ?_; (with_reducible refine (module_reader_next.calls gb152 l0 x153001_1 x153002_1 (rd y153 x20_1) (rd y153 x20_1) t157 t158 t159 w _ ?side1 ?side2 A17.out).mono ?_); (case side1 => repeat (first | (with_reducible first | exact HI152.out | apply IsS52.alloc | apply IsS52.drewN | apply IsS52.drew | apply IsS52.set_1 | apply IsS52.set_2 | refine IsS52.far ?_ NB152_150.out _ | refine IsS52.far ?_ NB152_151.out _) | exact HI152.out)); (case side2 => repeat (first | (with_reducible first | exact HB.out | apply below_alloc | apply pw_below_drewN | apply below_drew1 | refine below_set ?_ (IsS52.ge HI152.out) | refine below_set ?_ GE150.out | refine below_set ?_ GE151.out) | exact HB.out)); rintro e w18 ⟨rfl, hi, hb, hk⟩; refine ⟨_, rfl, ?_⟩; have n0_ := Aside0.mk (Kd.R_mono (Kd.R_keep (IsS52.apart (show IsS52 w _ gb152 l0 x153001_1 x153002_1 from by repeat (first | (with_reducible first | exact HI152.out | apply IsS52.alloc | apply IsS52.drewN | apply IsS52.drew | apply IsS52.set_1 | apply IsS52.set_2 | refine IsS52.far ?_ NB152_150.out _ | refine IsS52.far ?_ NB152_151.out _) | exact HI152.out)) (by (with_reducible repeat (first | apply Kd.R_alloc | apply Kd.R_drewN | apply Kd.R_drew)); exact HO_18.out) (by decide)) hk (fun _ h => h.2)) (fun _ h => h.1)); have n1_ := Aside0.mk (KeepBut.blk hk (g' := gb150) (o := .cells #[.int .i64 0, .slice none 0 0, .slice none 0 0] 26 (0, 0)) (by (with_reducible repeat (first | refine blk_drewN ?_ _ | refine blk_drew ?_ | refine blk_alloc ?_ _)); exact BK150.out) NB150_152.out (by simp)); have n2_ := Aside0.mk (KeepBut.blk hk (g' := gb151) (o := .cells #[.int .i64 0, .int .i64 0] 29 (0, 0)) (by (with_reducible repeat (first | refine blk_drewN ?_ _ | refine blk_drew ?_ | refine blk_alloc ?_ _)); exact BK151.out) NB151_152.out (by simp)); have n3_ := Aside0.mk (hb); have n4_ := Aside0.mk (hi); clear HO_18; clear BK150; clear BK151; clear HB; clear HI152; have HO_18 := n0_; have BK150 := n1_; have BK151 := n2_; have HB := n3_; have HI152 := n4_; clear n0_ n1_ n2_ n3_ n4_; (try clear hb); (try clear hb2); (try clear hk); (try clear hi)))
              go_roundg k1
              case measure => have := HK1.out; omega
              case rel => exact ⟨(wrap64 (x20_1 + 1)), (t158), (t159), (by first | rfl | (simp; done) | (simp [*]; done)), H', ⟨by have := HK1.out; omega⟩, ⟨by (with_reducible repeat (first | apply Kd.R_alloc | apply Kd.R_drewN | apply Kd.R_drew)); exact HO_18.out⟩, ⟨by (with_reducible repeat (first | refine blk_drewN ?_ _ | refine blk_drew ?_ | refine blk_alloc ?_ _)); exact BK150.out⟩, ⟨by (with_reducible repeat (first | refine blk_drewN ?_ _ | refine blk_drew ?_ | refine blk_alloc ?_ _)); exact BK151.out⟩, ⟨by repeat (first | (with_reducible first | exact HI152.out | apply IsS52.alloc | apply IsS52.drewN | apply IsS52.drew | apply IsS52.set_1 | apply IsS52.set_2 | refine IsS52.far ?_ NB152_150.out _ | refine IsS52.far ?_ NB152_151.out _) | exact HI152.out)⟩, ⟨by repeat (first | (with_reducible first | exact HB.out | apply below_alloc | apply pw_below_drewN | apply below_drew1 | refine below_set ?_ (IsS52.ge HI152.out) | refine below_set ?_ GE150.out | refine below_set ?_ GE151.out) | exact HB.out)⟩⟩
            · rw [if_neg c16] at H
              exact absurd H (by simp)
          · rw [if_neg c15] at H
            exact absurd H (by simp)
        · rw [if_neg c14] at H
          have c14b0 : decide (x20_1 < (y153.length : Int)) = false := decide_eq_false c14
          clear c14
          replace H := Option.bind_eq_some_iff.mp H
          obtain ⟨⟨t160, t161, t162⟩, A190, H⟩ := H
          replace H : ((module_reader_two.f l0 t161 t162 0 t160).bind fun bt164 => (module_Decode.l1 k1 l0 bt164.1 l0 bt164.2.1 bt164.2.2 t160 ([] : List Int))) = some (r1, r2, r3, r4, r5) := H
          have A19 := Aside0.mk A190
          clear A190
          replace H := Option.bind_eq_some_iff.mp H
          obtain ⟨⟨t164, t165, t166⟩, A200, H⟩ := H
          replace H : (module_Decode.l1 k1 l0 t164 l0 t165 t166 t160 ([] : List Int)) = some (r1, r2, r3, r4, r5) := H
          have A20 := Aside0.mk A200
          clear A200
          have HC21 := Aside0.mk H
          clear H
          go_upto_block 2 with (first | ((with_reducible refine gate_callee (f := 18) rfl ?_); refine goesL_ (some 30) rfl rfl Try.func18 (by kernel_rfl) rfl #[.pointer (some ⟨gb152, 0, none⟩), .int .i64 0, .int .i64 1024] rfl (by (try simp only [List.map_toArray, List.map_cons, List.map_nil]); first | done | rfl | (simp only [List.length_drop, List.length_take]; rfl)) ?_; (with_reducible refine (module_reader_two.calls gb152 l0 x153001_1 x153002_1 0 1024 t160 t161 t162 w _ ?side1 ?side2 A19.out).mono ?_); (case side1 => repeat (first | (with_reducible first | exact HI152.out | apply IsS52.alloc | apply IsS52.drewN | apply IsS52.drew | apply IsS52.set_1 | apply IsS52.set_2 | refine IsS52.far ?_ NB152_150.out _ | refine IsS52.far ?_ NB152_151.out _) | exact HI152.out)); (case side2 => repeat (first | (with_reducible first | exact HB.out | apply below_alloc | apply pw_below_drewN | apply below_drew1 | refine below_set ?_ (IsS52.ge HI152.out) | refine below_set ?_ GE150.out | refine below_set ?_ GE151.out) | exact HB.out)); rintro e w22 ⟨rfl, hi, hb, hk⟩; refine ⟨_, rfl, ?_⟩; have n0_ := Aside0.mk (Kd.R_mono (Kd.R_keep (IsS52.apart (show IsS52 w _ gb152 l0 x153001_1 x153002_1 from by repeat (first | (with_reducible first | exact HI152.out | apply IsS52.alloc | apply IsS52.drewN | apply IsS52.drew | apply IsS52.set_1 | apply IsS52.set_2 | refine IsS52.far ?_ NB152_150.out _ | refine IsS52.far ?_ NB152_151.out _) | exact HI152.out)) (by (with_reducible repeat (first | apply Kd.R_alloc | apply Kd.R_drewN | apply Kd.R_drew)); exact HO_18.out) (by decide)) hk (fun _ h => h.2)) (fun _ h => h.1)); have n1_ := Aside0.mk (KeepBut.blk hk (g' := gb150) (o := .cells #[.int .i64 0, .slice none 0 0, .slice none 0 0] 26 (0, 0)) (by (with_reducible repeat (first | refine blk_drewN ?_ _ | refine blk_drew ?_ | refine blk_alloc ?_ _)); exact BK150.out) NB150_152.out (by simp)); have n2_ := Aside0.mk (KeepBut.blk hk (g' := gb151) (o := .cells #[.int .i64 0, .int .i64 0] 29 (0, 0)) (by (with_reducible repeat (first | refine blk_drewN ?_ _ | refine blk_drew ?_ | refine blk_alloc ?_ _)); exact BK151.out) NB151_152.out (by simp)); have n3_ := Aside0.mk (hb); have n4_ := Aside0.mk (hi); clear HO_18; clear BK150; clear BK151; clear HB; clear HI152; have HO_18 := n0_; have BK150 := n1_; have BK151 := n2_; have HB := n3_; have HI152 := n4_; clear n0_ n1_ n2_ n3_ n4_; (try clear hb); (try clear hb2); (try clear hk); (try clear hi)) | ((with_reducible refine gate_dst (N := 7) rfl ?_); (try (refine gate_guard (by rfl) ?_; dsimp only)); refine box_event ?hg (N := 7) ?hd (cs := #[.int .i64 0, .slice none 0 0, .slice none 0 0]) (t := 26) ?hr ?_; (case hd => rfl); (case hg => rfl); (case hr => first | (go_simp; done) | (go_simp; rfl)); intro gb163 hg w23 hbox hb; have n0_ := Aside0.mk (Kd.R_below (by (with_reducible repeat (first | apply Kd.R_alloc | apply Kd.R_drewN | apply Kd.R_drew)); exact HO_18.out) hb); have n1_ := Aside0.mk (blk_below (g := gb150) (o := .cells #[.int .i64 0, .slice none 0 0, .slice none 0 0] 26 (0, 0)) (by (with_reducible repeat (first | refine blk_drewN ?_ _ | refine blk_drew ?_ | refine blk_alloc ?_ _)); exact BK150.out) hb); have n2_ := Aside0.mk (blk_below (g := gb151) (o := .cells #[.int .i64 0, .int .i64 0] 29 (0, 0)) (by (with_reducible repeat (first | refine blk_drewN ?_ _ | refine blk_drew ?_ | refine blk_alloc ?_ _)); exact BK151.out) hb); have n3_ := Aside0.mk (IsS52.below (by repeat (first | (with_reducible first | exact HI152.out | apply IsS52.alloc | apply IsS52.drewN | apply IsS52.drew | apply IsS52.set_1 | apply IsS52.set_2 | refine IsS52.far ?_ NB152_150.out _ | refine IsS52.far ?_ NB152_151.out _) | exact HI152.out)) hb); have n4_ := Aside0.mk (below_step (by repeat (first | (with_reducible first | exact HB.out | apply below_alloc | apply pw_below_drewN | apply below_drew1 | refine below_set ?_ (IsS52.ge HI152.out) | refine below_set ?_ GE150.out | refine below_set ?_ GE151.out) | exact HB.out)) hb); have n5_ := Aside0.mk (hbox); have n6_ := Aside0.mk ((by rw [hg]; exact (below_size (by repeat (first | (with_reducible first | exact HB.out | apply below_alloc | apply pw_below_drewN | apply below_drew1 | refine below_set ?_ (IsS52.ge HI152.out) | refine below_set ?_ GE150.out | refine below_set ?_ GE151.out) | exact HB.out))) : w.heap.size ≤ gb163)); have n7_ := Aside0.mk ((by rw [hg]; exact (below_size (by repeat (first | (with_reducible first | exact HB.out | apply below_alloc | apply pw_below_drewN | apply below_drew1 | refine below_set ?_ (IsS52.ge HI152.out) | refine below_set ?_ GE150.out | refine below_set ?_ GE151.out) | exact HB.out))) : w.heap.size ≤ gb163)); have n8_ := Aside0.mk ((by rw [hg]; exact Nat.ne_of_lt (blk_lt (g := gb150) (o := .cells #[.int .i64 0, .slice none 0 0, .slice none 0 0] 26 (0, 0)) (by (with_reducible repeat (first | refine blk_drewN ?_ _ | refine blk_drew ?_ | refine blk_alloc ?_ _)); exact BK150.out)) : gb150 ≠ gb163)); have n9_ := Aside0.mk ((by rw [hg]; exact Nat.ne_of_gt (blk_lt (g := gb150) (o := .cells #[.int .i64 0, .slice none 0 0, .slice none 0 0] 26 (0, 0)) (by (with_reducible repeat (first | refine blk_drewN ?_ _ | refine blk_drew ?_ | refine blk_alloc ?_ _)); exact BK150.out)) : gb163 ≠ gb150)); have n10_ := Aside0.mk ((by rw [hg]; exact Nat.ne_of_lt (blk_lt (g := gb151) (o := .cells #[.int .i64 0, .int .i64 0] 29 (0, 0)) (by (with_reducible repeat (first | refine blk_drewN ?_ _ | refine blk_drew ?_ | refine blk_alloc ?_ _)); exact BK151.out)) : gb151 ≠ gb163)); have n11_ := Aside0.mk ((by rw [hg]; exact Nat.ne_of_gt (blk_lt (g := gb151) (o := .cells #[.int .i64 0, .int .i64 0] 29 (0, 0)) (by (with_reducible repeat (first | refine blk_drewN ?_ _ | refine blk_drew ?_ | refine blk_alloc ?_ _)); exact BK151.out)) : gb163 ≠ gb151)); have n12_ := Aside0.mk ((by rw [hg]; exact Nat.ne_of_lt (IsS52.lt (show IsS52 w _ gb152 l0 t161 t162 from by repeat (first | (with_reducible first | exact HI152.out | apply IsS52.alloc | apply IsS52.drewN | apply IsS52.drew | apply IsS52.set_1 | apply IsS52.set_2 | refine IsS52.far ?_ NB152_150.out _ | refine IsS52.far ?_ NB152_151.out _) | exact HI152.out))) : gb152 ≠ gb163)); have n13_ := Aside0.mk ((by rw [hg]; exact Nat.ne_of_gt (IsS52.lt (show IsS52 w _ gb152 l0 t161 t162 from by repeat (first | (with_reducible first | exact HI152.out | apply IsS52.alloc | apply IsS52.drewN | apply IsS52.drew | apply IsS52.set_1 | apply IsS52.set_2 | refine IsS52.far ?_ NB152_150.out _ | refine IsS52.far ?_ NB152_151.out _) | exact HI152.out))) : gb163 ≠ gb152)); clear HO_18; clear BK150; clear BK151; clear HI152; clear HB; have HO_18 := n0_; have BK150 := n1_; have BK151 := n2_; have HI152 := n3_; have HB := n4_; have BK163 := n5_; have GW163 := n6_; have GE163 := n7_; have NB150_163 := n8_; have NB163_150 := n9_; have NB151_163 := n10_; have NB163_151 := n11_; have NB152_163 := n12_; have NB163_152 := n13_; clear n0_ n1_ n2_ n3_ n4_ n5_ n6_ n7_ n8_ n9_ n10_ n11_ n12_ n13_; clear hb hbox hg; have hnb24 := NB163_150.out; have hnc24 := NB150_163.out; have hnb25 := NB163_151.out; have hnc25 := NB151_163.out; have hnb26 := NB163_152.out; have hnc26 := NB152_163.out; have hcz27_0 : w23.cell? ⟨gb163, 0, none⟩ = some (.int .i64 0) := (blk_cell BK163.out 0).trans rfl; have hcz27_1 : w23.cell? ⟨gb163, 1, none⟩ = some (.slice none 0 0) := (blk_cell BK163.out 1).trans rfl; have hcz27_2 : w23.cell? ⟨gb163, 2, none⟩ = some (.slice none 0 0) := (blk_cell BK163.out 2).trans rfl; have hfz27_0 := blk_frozen BK163.out 0; have hfz27_1 := blk_frozen BK163.out 1; have hfz27_2 := blk_frozen BK163.out 2) | ((with_reducible refine gate_callee (f := 18) rfl ?_); refine goesL_ (some 35) rfl rfl Try.func18 (by kernel_rfl) rfl #[.pointer (some ⟨gb152, 0, none⟩), .int .i64 0, .int .i64 t160] rfl (by (try simp only [List.map_toArray, List.map_cons, List.map_nil]); first | done | rfl | (simp only [List.length_drop, List.length_take]; rfl)) ?_; (with_reducible refine (module_reader_two.calls gb152 l0 t161 t162 0 t160 t164 t165 t166 w _ ?side1 ?side2 A20.out).mono ?_); (case side1 => repeat (first | (with_reducible first | exact HI152.out | apply IsS52.alloc | apply IsS52.drewN | apply IsS52.drew | apply IsS52.set_1 | apply IsS52.set_2 | refine IsS52.far ?_ NB152_150.out _ | refine IsS52.far ?_ NB152_151.out _ | refine IsS52.far ?_ NB152_163.out _) | exact HI152.out)); (case side2 => repeat (first | (with_reducible first | exact HB.out | apply below_alloc | apply pw_below_drewN | apply below_drew1 | refine below_set ?_ (IsS52.ge HI152.out) | refine below_set ?_ GE150.out | refine below_set ?_ GE151.out | refine below_set ?_ GE163.out) | exact HB.out)); rintro e w28 ⟨rfl, hi, hb, hk⟩; refine ⟨_, rfl, ?_⟩; have n0_ := Aside0.mk (Kd.R_mono (Kd.R_keep (IsS52.apart (show IsS52 w _ gb152 l0 t161 t162 from by repeat (first | (with_reducible first | exact HI152.out | apply IsS52.alloc | apply IsS52.drewN | apply IsS52.drew | apply IsS52.set_1 | apply IsS52.set_2 | refine IsS52.far ?_ NB152_150.out _ | refine IsS52.far ?_ NB152_151.out _ | refine IsS52.far ?_ NB152_163.out _) | exact HI152.out)) (by (with_reducible repeat (first | apply Kd.R_alloc | apply Kd.R_drewN | apply Kd.R_drew)); exact (Kd.R_mono (Kd.R_far (p := ⟨gb163, 2, none⟩) (Kd.R_far (p := ⟨gb163, 1, none⟩) (Kd.R_far (p := ⟨gb163, 0, none⟩) (Kd.R_types HO_18.out BK163.out (by decide)) (fun _ hk => hk.2) (.int .i64 t160)) (fun _ hk => hk.2) (.slice none 0 0)) (fun _ hk => hk.2) (.slice none 0 0)) (fun _ h_ => h_.1))) (by decide)) hk (fun _ h => h.2)) (fun _ h => h.1)); have n1_ := Aside0.mk (KeepBut.blk hk (g' := gb150) (o := .cells #[.int .i64 0, .slice none 0 0, .slice none 0 0] 26 (0, 0)) (by (with_reducible repeat (first | refine blk_drewN ?_ _ | refine blk_drew ?_ | refine blk_alloc ?_ _)); refine blk_far ?_ NB150_163.out _; (with_reducible repeat (first | refine blk_drewN ?_ _ | refine blk_drew ?_ | refine blk_alloc ?_ _)); refine blk_far ?_ NB150_163.out _; (with_reducible repeat (first | refine blk_drewN ?_ _ | refine blk_drew ?_ | refine blk_alloc ?_ _)); refine blk_far ?_ NB150_163.out _; (with_reducible repeat (first | refine blk_drewN ?_ _ | refine blk_drew ?_ | refine blk_alloc ?_ _)); exact BK150.out) NB150_152.out (by simp)); have n2_ := Aside0.mk (KeepBut.blk hk (g' := gb151) (o := .cells #[.int .i64 0, .int .i64 0] 29 (0, 0)) (by (with_reducible repeat (first | refine blk_drewN ?_ _ | refine blk_drew ?_ | refine blk_alloc ?_ _)); refine blk_far ?_ NB151_163.out _; (with_reducible repeat (first | refine blk_drewN ?_ _ | refine blk_drew ?_ | refine blk_alloc ?_ _)); refine blk_far ?_ NB151_163.out _; (with_reducible repeat (first | refine blk_drewN ?_ _ | refine blk_drew ?_ | refine blk_alloc ?_ _)); refine blk_far ?_ NB151_163.out _; (with_reducible repeat (first | refine blk_drewN ?_ _ | refine blk_drew ?_ | refine blk_alloc ?_ _)); exact BK151.out) NB151_152.out (by simp)); have n3_ := Aside0.mk (KeepBut.blk hk (g' := gb163) (o := .cells #[.int .i64 t160, .slice none 0 0, .slice none 0 0] 26 (0, 0)) (by (with_reducible repeat (first | refine blk_drewN ?_ _ | refine blk_drew ?_ | refine blk_alloc ?_ _)); refine blk_put (cs := #[.int .i64 t160, .slice none 0 0, .slice none 0 0]) ?_ 2 _ rfl; (with_reducible repeat (first | refine blk_drewN ?_ _ | refine blk_drew ?_ | refine blk_alloc ?_ _)); refine blk_put (cs := #[.int .i64 t160, .slice none 0 0, .slice none 0 0]) ?_ 1 _ rfl; (with_reducible repeat (first | refine blk_drewN ?_ _ | refine blk_drew ?_ | refine blk_alloc ?_ _)); refine blk_put (cs := #[.int .i64 0, .slice none 0 0, .slice none 0 0]) ?_ 0 _ rfl; (with_reducible repeat (first | refine blk_drewN ?_ _ | refine blk_drew ?_ | refine blk_alloc ?_ _)); exact BK163.out) NB163_152.out (by simp)); have n4_ := Aside0.mk (hb); have n5_ := Aside0.mk (hi); clear HO_18; clear BK150; clear BK151; clear BK163; clear HB; clear HI152; have HO_18 := n0_; have BK150 := n1_; have BK151 := n2_; have BK163 := n3_; have HB := n4_; have HI152 := n5_; clear n0_ n1_ n2_ n3_ n4_ n5_; (try clear hb); (try clear hb2); (try clear hk); (try clear hi)))
          (try simp only [Act.put, List.setIfInBounds_toArray, List.set_cons_zero, List.set_cons_succ])
          go_cut [] (fun wc => ∃ (kq : Nat) (x153001_20 : Int) (x153002_20 : Bool) (x164001_20 : List Int) (u164001 : Value), Aside0 (module_Decode.j2 kq l0 l0 x153001_20 x153002_20 t160 x164001_20 = some (r1, r2, r3, r4, r5)) ∧ Aside0 (kq ≤ k1) ∧ Aside0 (Kd.R (Kd.int .u8) 5 wc w.heap.size (fun _ => True) u164001 x164001_20) ∧ Aside0 (wc.heap[gb150]? = some (.cells #[.int .i64 0, (.slice none 0 0), (.slice none 0 0)] 26 (0, 0))) ∧ Aside0 (wc.heap[gb151]? = some (.cells #[.int .i64 0, .int .i64 0] 29 (0, 0))) ∧ Aside0 (wc.heap[gb163]? = some (.cells #[.int .i64 t160, u164001, (.slice none 0 0)] 26 (0, 0))) ∧ Aside0 (IsS52 w wc gb152 l0 x153001_20 x153002_20) ∧ Aside0 (Below w.heap.size w wc))
          case first =>
            have H := HC21.out
            clear HC21
            have H' := Aside0.mk H
            clear H
            go_wp2
            go_loopg [8] k1 (fun kq v8 w' => ∃ (x8_2 : Int) (x153001_2 : Int) (x153002_2 : Bool) (x164001_2 : List Int) (u164001 : Value), v8 = .int .i64 x8_2 ∧ Aside0 (module_Decode.l1 kq l0 x8_2 l0 x153001_2 x153002_2 t160 x164001_2 = some (r1, r2, r3, r4, r5)) ∧ Aside0 (kq ≤ k1) ∧ Aside0 (Kd.R (Kd.int .u8) 5 w' w.heap.size (fun _ => True) u164001 x164001_2) ∧ Aside0 (w'.heap[gb150]? = some (.cells #[.int .i64 0, (.slice none 0 0), (.slice none 0 0)] 26 (0, 0))) ∧ Aside0 (w'.heap[gb151]? = some (.cells #[.int .i64 0, .int .i64 0] 29 (0, 0))) ∧ Aside0 (w'.heap[gb163]? = some (.cells #[.int .i64 t160, u164001, (.slice none 0 0)] 26 (0, 0))) ∧ Aside0 (IsS52 w w' gb152 l0 x153001_2 x153002_2) ∧ Aside0 (Below w.heap.size w w'))
            case atStart => exact ⟨(t164), (t165), (t166), (([] : List Int)), (.slice none 0 0), (by first | rfl | (simp; done) | (simp [*]; done)), H', ⟨Nat.le_refl _⟩, ⟨by first | exact Kd.R_nil _ _ _ _ _ | exact Kd.N_nil _ _ _ _ _ | exact Kd.V_nil _ _ _ _ _ | exact Kd.Q_nil _ _ _ _ _ | exact Kd.S_nil _ _ _ _ _⟩, ⟨by (with_reducible repeat (first | refine blk_drewN ?_ _ | refine blk_drew ?_ | refine blk_alloc ?_ _)); exact BK150.out⟩, ⟨by (with_reducible repeat (first | refine blk_drewN ?_ _ | refine blk_drew ?_ | refine blk_alloc ?_ _)); exact BK151.out⟩, ⟨by (with_reducible repeat (first | refine blk_drewN ?_ _ | refine blk_drew ?_ | refine blk_alloc ?_ _)); exact BK163.out⟩, ⟨by repeat (first | (with_reducible first | exact HI152.out | apply IsS52.alloc | apply IsS52.drewN | apply IsS52.drew | apply IsS52.set_1 | apply IsS52.set_2 | refine IsS52.far ?_ NB152_150.out _ | refine IsS52.far ?_ NB152_151.out _ | refine IsS52.far ?_ NB152_163.out _) | exact HI152.out)⟩, ⟨by repeat (first | (with_reducible first | exact HB.out | apply below_alloc | apply pw_below_drewN | apply below_drew1 | refine below_set ?_ (IsS52.ge HI152.out) | refine below_set ?_ GE150.out | refine below_set ?_ GE151.out | refine below_set ?_ GE163.out) | exact HB.out)⟩⟩
            case round =>
              clear H'
              try clear c1
              try clear p1
              try clear q1
              try clear hx1
              try clear c2
              try clear c2b0
              try clear c2b1
              try clear p2
              try clear c5
              try clear p6
              try clear c10
              try clear c14
              try clear c14b0
              try clear c15
              try clear c15b0
              try clear p15
              try clear q15
              try clear hx15
              try clear c16
              try clear c16b0
              try clear c17
              try clear c18
              try clear c24
              try clear c25
              try clear c26
              try clear hcz27_0
              try clear hcz27_1
              try clear hcz27_2
              try clear hcz6_0
              try clear hcz6_1
              try clear hcz6_2
              try clear hcz7_0
              try clear hcz7_1
              try clear hfz27_0
              try clear hfz27_1
              try clear hfz27_2
              try clear hfz6_0
              try clear hfz6_1
              try clear hfz6_2
              try clear hfz7_0
              try clear hfz7_1
              try clear hx156_0
              try clear p156
              try clear p2
              try clear q156
              obtain ⟨x8_2, x153001_2, x153002_2, x164001_2, u164001, rfl, HA, HK2, HO_164001, BK150, BK151, BK163, HI152, HB⟩ := hrel
              cases gk with
              | zero => exact absurd HA.out (by simp [module_Decode.l1])
              | succ k2 =>
                have H := HA.out
                clear HA
                simp only [module_Decode.l1] at H
                by_cases c29 : x8_2 > 0
                · rw [if_pos c29] at H
                  have c29b0 : decide (0 < x8_2) = true := decide_eq_true c29
                  clear c29
                  (first | rw [c29b0] | (simp only [i64_w, i32_w]; rw [c29b0]) | skip)
                  by_cases c30 : x153002_2 = true
                  · subst c30
                    have H1 : (module_Decode.j2 k2 l0 l0 x153001_2 true t160 x164001_2) = some (r1, r2, r3, r4, r5) := by rw [if_pos rfl] at H; exact H
                    clear H
                    have H := H1
                    clear H1
                    have H' := Aside0.mk H
                    clear H
                    obtain ⟨ASz31_0, cSz31_0, HGz31, hgz31, HSz31_0⟩ := HI152.out
                    have hcz31_0 := cellS52_0 HGz31
                    have hcz31_1 := cellS52_1 HGz31
                    have hcz31_2 := cellS52_2 HGz31
                    have hfz31_1 := blk_frozen HGz31 1
                    have hfz31_2 := blk_frozen HGz31 2
                    clear HGz31 hgz31
                    go_wp2
                    go_meet
                    case rel => exact ⟨_, (x153001_2), (true), (x164001_2), (u164001), H', ⟨by have := HK1.out; have := HK2.out; first | omega | exact Nat.le_refl _⟩, ⟨by (with_reducible repeat (first | apply Kd.R_alloc | apply Kd.R_drewN | apply Kd.R_drew)); exact HO_164001.out⟩, ⟨by (with_reducible repeat (first | refine blk_drewN ?_ _ | refine blk_drew ?_ | refine blk_alloc ?_ _)); exact BK150.out⟩, ⟨by (with_reducible repeat (first | refine blk_drewN ?_ _ | refine blk_drew ?_ | refine blk_alloc ?_ _)); exact BK151.out⟩, ⟨by (with_reducible repeat (first | refine blk_drewN ?_ _ | refine blk_drew ?_ | refine blk_alloc ?_ _)); exact BK163.out⟩, ⟨by repeat (first | (with_reducible first | exact HI152.out | apply IsS52.alloc | apply IsS52.drewN | apply IsS52.drew | apply IsS52.set_1 | apply IsS52.set_2 | refine IsS52.far ?_ NB152_150.out _ | refine IsS52.far ?_ NB152_151.out _ | refine IsS52.far ?_ NB152_163.out _) | exact HI152.out)⟩, ⟨by repeat (first | (with_reducible first | exact HB.out | apply below_alloc | apply pw_below_drewN | apply below_drew1 | refine below_set ?_ (IsS52.ge HI152.out) | refine below_set ?_ GE150.out | refine below_set ?_ GE151.out | refine below_set ?_ GE163.out) | exact HB.out)⟩⟩
                  · replace c30 := Bool.eq_false_iff.mpr c30
                    subst c30
                    have H1 : ((module_reader_next.f l0 x153001_2 false 0 255).bind fun bt167 => (if x164001_2.length < 140737488355328 then (module_Decode.l1 k2 l0 (wrap64 (x8_2 - 1)) l0 bt167.2.1 bt167.2.2 t160 (x164001_2 ++ [(bt167.1) % 256])) else (none))) = some (r1, r2, r3, r4, r5) := by rw [if_neg (show ¬ (false = true) by decide)] at H; exact H
                    clear H
                    have H := H1
                    clear H1
                    replace H := Option.bind_eq_some_iff.mp H
                    obtain ⟨⟨t167, t168, t169⟩, A320, H⟩ := H
                    replace H : (if x164001_2.length < 140737488355328 then (module_Decode.l1 k2 l0 (wrap64 (x8_2 - 1)) l0 t168 t169 t160 (x164001_2 ++ [(t167) % 256])) else (none)) = some (r1, r2, r3, r4, r5) := H
                    have A32 := Aside0.mk A320
                    clear A320
                    by_cases c33 : x164001_2.length < 140737488355328
                    · rw [if_pos c33] at H
                      have LMc33 := Aside0.mk c33
                      clear c33
                      obtain ⟨y170, hy170⟩ : ∃ y_ : List Int, y_ = (x164001_2 ++ [(t167) % 256]) := ⟨_, rfl⟩
                      replace H : (module_Decode.l1 k2 l0 (wrap64 (x8_2 - 1)) l0 t168 t169 t160 y170) = some (r1, r2, r3, r4, r5) := by first | (rw [hy170]; with_reducible exact H) | (have H2_ := (Option.bind_some _ _).symm.trans H; rw [hy170]; with_reducible exact H2_) | (have H2_ := (Option.bind_some _ _).symm.trans H; with_reducible exact H2_) | with_reducible exact H | (rw [hy170]; exact H) | exact H
                      have Ny170 := Aside0.mk hy170
                      clear hy170
                      have H' := Aside0.mk H
                      clear H
                      obtain ⟨ASz34_0, cSz34_0, HGz34, hgz34, HSz34_0⟩ := HI152.out
                      have hcz34_0 := cellS52_0 HGz34
                      have hcz34_1 := cellS52_1 HGz34
                      have hcz34_2 := cellS52_2 HGz34
                      have hfz34_1 := blk_frozen HGz34 1
                      have hfz34_2 := blk_frozen HGz34 2
                      clear HGz34 hgz34
                      try go_wp2
                      have n0_ := Aside0.mk (Kd.R_drew HO_164001.out)
                      have n1_ := Aside0.mk (blk_drew BK150.out)
                      have n2_ := Aside0.mk (blk_drew BK151.out)
                      have n3_ := Aside0.mk (blk_drew BK163.out)
                      have n4_ := Aside0.mk (IsS52.drew HI152.out)
                      have n5_ := Aside0.mk (below_drew1 HB.out)
                      clear HO_164001
                      clear BK150
                      clear BK151
                      clear BK163
                      clear HI152
                      clear HB
                      have HO_164001 := n0_
                      have BK150 := n1_
                      have BK151 := n2_
                      have BK163 := n3_
                      have HI152 := n4_
                      have HB := n5_
                      clear n0_ n1_ n2_ n3_ n4_ n5_
                      refine start_ (n := 9) (S := fun w' => w'.cell? ⟨gb163, 0, none⟩ = some (.int .i64 t160) ∧ w'.cell? ⟨gb163, 1, none⟩ = some (u164001) ∧ w'.cell? ⟨gb163, 2, none⟩ = some (.slice none 0 0)) (ds := [8]) #[false, false, false, false, false, false, false, false, false] (by kernel_rfl) rfl rfl ⟨(blk_cell BK163.out 0).trans rfl, (blk_cell BK163.out 1).trans rfl, (blk_cell BK163.out 2).trans rfl⟩ (fun hHeld => ?_); refine with_tabW module_Decode.tab13 module_Decode.bits13 (fun HT_ HW_ => ?_)
                      generalize wr.drew = w35 at HO_164001 BK150 BK151 BK163 HI152 HB hHeld ⊢
                      refine pure_ (i := 0) (N := some 47) (v := ?_) (a' := ?_) #[true, false, false, false, false, false, false, false, false] rfl rfl (any_of HT_.out (by kernel_rfl)) (fun _ _ _ h => h) (Or.inl ⟨by rfl, ?_⟩) ?_ ?_
                      rotate_left
                      · intro w'
                        go_simp
                        with_reducible rfl
                      rotate_left
                      · simp only [Act.put, List.setIfInBounds_toArray, List.set_cons_zero, List.set_cons_succ, i64_w, i32_w]
                        rfl
                      refine pure_ (i := 2) (N := some 49) (v := ?_) (a' := ?_) #[true, false, true, false, false, false, false, false, false] rfl rfl (any_of HT_.out (by kernel_rfl)) (fun _ _ _ h => h) (Or.inl ⟨by rfl, ?_⟩) ?_ ?_
                      rotate_left
                      · intro w'
                        go_simp
                        with_reducible rfl
                      rotate_left
                      · simp only [Act.put, List.setIfInBounds_toArray, List.set_cons_zero, List.set_cons_succ, i64_w, i32_w]
                        rfl
                      refine take_ (i := 1) (N := some 48) (v := ?_) (a' := ?_) #[true, true, true, false, false, false, false, false, false] rfl rfl (take_ofW HT_.out HW_.out (by kernel_rfl)) (fun _ _ _ h => h) (Or.inl ⟨by rfl, ?_⟩) hHeld ?_ ?_
                      rotate_left
                      · rintro w' ⟨s0, s1, s2⟩
                        go_simp
                        with_reducible rfl
                      rotate_left
                      · simp only [Act.put, List.setIfInBounds_toArray, List.set_cons_zero, List.set_cons_succ, i64_w, i32_w]
                        rfl
                      refine one_ (i := 3) (N := some 50) #[true, true, true, true, false, false, false, false, false] rfl rfl (one_of HT_.out (by kernel_rfl)) (by decide) (fun K hK => ?_)
                      refine goes_ Try.func17 (by kernel_rfl) rfl #[.pointer (some ⟨gb152, 0, none⟩), .int .i64 0, .int .i64 255] (by rfl) rfl rfl (by (try simp only [List.map_toArray, List.map_cons, List.map_nil]); first | done | rfl | (simp only [List.length_drop, List.length_take]; rfl)) ?_
                      with_reducible refine (module_reader_next.calls gb152 l0 x153001_2 false 0 255 t167 t168 t169 w _ ?side1 ?side2 A32.out).mono ?_
                      (case side1 => repeat (first | (with_reducible first | exact HI152.out | apply IsS52.alloc | apply IsS52.drewN | apply IsS52.drew | apply IsS52.set_1 | apply IsS52.set_2 | refine IsS52.far ?_ NB152_150.out _ | refine IsS52.far ?_ NB152_151.out _ | refine IsS52.far ?_ NB152_163.out _) | exact HI152.out))
                      (case side2 => repeat (first | (with_reducible first | exact HB.out | apply below_alloc | apply pw_below_drewN | apply below_drew1 | refine below_set ?_ (IsS52.ge HI152.out) | refine below_set ?_ GE150.out | refine below_set ?_ GE151.out | refine below_set ?_ GE163.out) | exact HB.out))
                      rintro e w36 ⟨rfl, hi, hb, hk⟩
                      refine ⟨_, rfl, ?_⟩
                      have n0_ := Aside0.mk (Kd.R_mono (Kd.R_keep (IsS52.apart (show IsS52 w _ gb152 l0 x153001_2 false from by repeat (first | (with_reducible first | exact HI152.out | apply IsS52.alloc | apply IsS52.drewN | apply IsS52.drew | apply IsS52.set_1 | apply IsS52.set_2 | refine IsS52.far ?_ NB152_150.out _ | refine IsS52.far ?_ NB152_151.out _ | refine IsS52.far ?_ NB152_163.out _) | exact HI152.out)) (by (with_reducible repeat (first | apply Kd.R_alloc | apply Kd.R_drewN | apply Kd.R_drew)); exact HO_164001.out) (by decide)) hk (fun _ h => h.2)) (fun _ h => h.1))
                      have n1_ := Aside0.mk (KeepBut.blk hk (g' := gb150) (o := .cells #[.int .i64 0, .slice none 0 0, .slice none 0 0] 26 (0, 0)) (by (with_reducible repeat (first | refine blk_drewN ?_ _ | refine blk_drew ?_ | refine blk_alloc ?_ _)); exact BK150.out) NB150_152.out (by simp))
                      have n2_ := Aside0.mk (KeepBut.blk hk (g' := gb151) (o := .cells #[.int .i64 0, .int .i64 0] 29 (0, 0)) (by (with_reducible repeat (first | refine blk_drewN ?_ _ | refine blk_drew ?_ | refine blk_alloc ?_ _)); exact BK151.out) NB151_152.out (by simp))
                      have n3_ := Aside0.mk (KeepBut.blk hk (g' := gb163) (o := .cells #[.int .i64 t160, u164001, .slice none 0 0] 26 (0, 0)) (by (with_reducible repeat (first | refine blk_drewN ?_ _ | refine blk_drew ?_ | refine blk_alloc ?_ _)); exact BK163.out) NB163_152.out (by simp))
                      have n4_ := Aside0.mk (hb)
                      have n5_ := Aside0.mk (hi)
                      clear HO_164001
                      clear BK150
                      clear BK151
                      clear BK163
                      clear HB
                      clear HI152
                      have HO_164001 := n0_
                      have BK150 := n1_
                      have BK151 := n2_
                      have BK163 := n3_
                      have HB := n4_
                      have HI152 := n5_
                      clear n0_ n1_ n2_ n3_ n4_ n5_
                      (try clear hb)
                      (try clear hb2)
                      (try clear hk)
                      (try clear hi)
                      refine hK.out _ _ ⟨(blk_cell BK163.out 0).trans rfl, (blk_cell BK163.out 1).trans rfl, (blk_cell BK163.out 2).trans rfl⟩ (fun hHeld => ?_)
                      clear hK K
                      refine norm_ (a' := ?_) ?_ ?_
                      rotate_left
                      · show Act.put _ (some 50) _ = _
                        simp only [Act.put, List.setIfInBounds_toArray, List.set_cons_zero, List.set_cons_succ, i64_w, i32_w]
                        rfl
                      refine pure_ (i := 4) (N := some 51) (v := ?_) (a' := ?_) #[true, true, true, true, true, false, false, false, false] rfl rfl (any_of HT_.out (by kernel_rfl)) (fun _ _ _ h => h) (Or.inl ⟨by rfl, ?_⟩) ?_ ?_
                      rotate_left
                      · intro w'
                        go_simp
                        with_reducible rfl
                      rotate_left
                      · simp only [Act.put, List.setIfInBounds_toArray, List.set_cons_zero, List.set_cons_succ, i64_w, i32_w]
                        rfl
                      refine one_ (i := 5) (N := some 52) #[true, true, true, true, true, true, false, false, false] rfl rfl (one_of HT_.out (by kernel_rfl)) (by decide) (fun K hK => ?_)
                      refine value_ (w1 := ?_) (v := ?_) (by rfl) rfl ?_ ?_
                      rotate_left 2
                      · go_simp
                        constructor
                        · rfl
                        · rfl
                      refine hK.out _ _ ⟨(blk_cell (blk_alloc BK163.out _) 0).trans rfl, (blk_cell (blk_alloc BK163.out _) 1).trans rfl, (blk_cell (blk_alloc BK163.out _) 2).trans rfl⟩ (fun hHeld => ?_)
                      clear hK K
                      refine norm_ (a' := ?_) ?_ ?_
                      rotate_left
                      · show Act.put _ (some 52) _ = _
                        simp only [Act.put, List.setIfInBounds_toArray, List.set_cons_zero, List.set_cons_succ, i64_w, i32_w]
                        rfl
                      refine one_ (i := 6) (N := some 53) #[true, true, true, true, true, true, true, false, false] rfl rfl (one_of HT_.out (by kernel_rfl)) (by decide) (fun K hK => ?_)
                      refine Kd.R_append_step (Kd.int .u8) (w0 := w) w.heap.size (by rfl) (.tmp 48) (.tmp 52) 22 5 (.int .u8 0) 1 rfl Try.underlying22 info5 rfl (by decide) (by omega) u164001 x164001_2 ((t167) % 256) [.int .u8 ((t167) % 256)] (fun _ => True) (fun _ => False) rfl rfl ?aP (fun _ hk => hk.elim) ?aF ?aO ?aB ?aS ?aL ?_
                      (case aP => exact rfl)
                      (case aB => exact (by repeat (first | (with_reducible first | exact HB.out | apply below_alloc | apply pw_below_drewN | apply below_drew1 | refine below_set ?_ (IsS52.ge HI152.out) | refine below_set ?_ GE150.out | refine below_set ?_ GE151.out | refine below_set ?_ GE163.out) | exact HB.out)))
                      (case aF => exact (fun _ _ => trivial))
                      (case aO => exact (by (with_reducible repeat (first | apply Kd.R_alloc | apply Kd.R_drewN | apply Kd.R_drew)); exact HO_164001.out))
                      (case aS => exact (below_size (by repeat (first | (with_reducible first | exact HB.out | apply below_alloc | apply pw_below_drewN | apply below_drew1 | refine below_set ?_ (IsS52.ge HI152.out) | refine below_set ?_ GE150.out | refine below_set ?_ GE151.out | refine below_set ?_ GE163.out) | exact HB.out))))
                      (case aL => have := LMc33.out; omega)
                      intro v171 w37 ho hb hg hat
                      rw [← Ny170.out] at ho
                      have n0_ := Aside0.mk (blk_grown (g := gb150) (o := .cells #[.int .i64 0, .slice none 0 0, .slice none 0 0] 26 (0, 0)) (by (with_reducible repeat (first | refine blk_drewN ?_ _ | refine blk_drew ?_ | refine blk_alloc ?_ _)); exact BK150.out) hg (Kd.R_ne HO_164001.out BK150.out (by decide)))
                      have n1_ := Aside0.mk (blk_grown (g := gb151) (o := .cells #[.int .i64 0, .int .i64 0] 29 (0, 0)) (by (with_reducible repeat (first | refine blk_drewN ?_ _ | refine blk_drew ?_ | refine blk_alloc ?_ _)); exact BK151.out) hg (Kd.R_ne HO_164001.out BK151.out (by decide)))
                      have n2_ := Aside0.mk (blk_grown (g := gb163) (o := .cells #[.int .i64 t160, u164001, .slice none 0 0] 26 (0, 0)) (by (with_reducible repeat (first | refine blk_drewN ?_ _ | refine blk_drew ?_ | refine blk_alloc ?_ _)); exact BK163.out) hg (Kd.R_ne HO_164001.out BK163.out (by decide)))
                      have n3_ := Aside0.mk (IsS52.grown (show IsS52 w _ gb152 l0 t168 t169 from by repeat (first | (with_reducible first | exact HI152.out | apply IsS52.alloc | apply IsS52.drewN | apply IsS52.drew | apply IsS52.set_1 | apply IsS52.set_2 | refine IsS52.far ?_ NB152_150.out _ | refine IsS52.far ?_ NB152_151.out _ | refine IsS52.far ?_ NB152_163.out _) | exact HI152.out)) hg (IsS52.own_ne HI152.out HO_164001.out (by decide)))
                      have n4_ := Aside0.mk (hb)
                      have n5_ := Aside0.mk (ho)
                      clear BK150
                      clear BK151
                      clear BK163
                      clear HI152
                      clear HB
                      clear HO_164001
                      have BK150 := n0_
                      have BK151 := n1_
                      have BK163 := n2_
                      have HI152 := n3_
                      have HB := n4_
                      have HO172 := n5_
                      clear n0_ n1_ n2_ n3_ n4_ n5_
                      clear ho hb hg hat
                      obtain ⟨Ao38, co38, eo38⟩ := Kd.R_slice HO172.out
                      (first | subst eo38 | (injection eo38 with f1_ f2_ f3_; have f4_ := f1_.symm; have f5_ := f3_.symm; clear f1_ f2_ f3_; subst f4_; subst f5_))
                      refine hK.out _ _ ⟨(blk_cell BK163.out 0).trans rfl, (blk_cell BK163.out 1).trans rfl, (blk_cell BK163.out 2).trans rfl⟩ (fun hHeld => ?_)
                      clear hK K
                      refine norm_ (a' := ?_) ?_ ?_
                      rotate_left
                      · show Act.put _ (some 53) _ = _
                        simp only [Act.put, List.setIfInBounds_toArray, List.set_cons_zero, List.set_cons_succ, i64_w, i32_w]
                        rfl
                      refine pure_ (i := 7) (N := some 54) (v := ?_) (a' := ?_) #[true, true, true, true, true, true, true, true, false] rfl rfl (any_of HT_.out (by kernel_rfl)) (fun _ _ _ h => h) (Or.inl ⟨by rfl, ?_⟩) ?_ ?_
                      rotate_left
                      · intro w'
                        go_simp
                        with_reducible rfl
                      rotate_left
                      · simp only [Act.put, List.setIfInBounds_toArray, List.set_cons_zero, List.set_cons_succ, i64_w, i32_w]
                        rfl
                      refine last_ (i := 8) (N := none) #[true, true, true, true, true, true, true, true, true] rfl rfl (one_of HT_.out (by kernel_rfl)) (by decide) (fun K hK => ?_)
                      have hs39 : w37.cell? ⟨gb163, 1, none⟩ = some (u164001) := (blk_cell BK163.out 1).trans rfl
                      have hfs39 := blk_frozen BK163.out 1
                      have hns39_0 := NB150_163.out
                      have hns39_1 := NB151_163.out
                      have hms39_0 := NB163_150.out
                      have hms39_1 := NB163_151.out
                      refine skip_ (w1 := ?_) (by rfl) rfl ?_ ?_
                      rotate_left
                      · go_simp
                        rfl
                      refine hK.out _ _ ?_
                      clear hK K
                      refine done_ (done_of HT_.out (by kernel_rfl)) ?_
                      try go_wp2
                      go_roundg k2
                      case measure => have := HK1.out; have := HK2.out; omega
                      case rel => exact ⟨(wrap64 (x8_2 - 1)), (t168), (t169), (y170), (.slice Ao38 y170.length co38), (by first | rfl | (simp; done) | (simp [*]; done)), H', ⟨by have := HK1.out; have := HK2.out; omega⟩, ⟨by (with_reducible repeat (first | apply Kd.R_alloc | apply Kd.R_drewN | apply Kd.R_drew)); exact Kd.R_mono (Kd.R_far (p := ⟨gb163, 1, none⟩) (Kd.R_types HO172.out BK163.out (by decide)) (fun _ hk => hk.2) (.slice Ao38 y170.length co38)) (fun _ hk => trivial)⟩, ⟨by (with_reducible repeat (first | refine blk_drewN ?_ _ | refine blk_drew ?_ | refine blk_alloc ?_ _)); refine blk_far ?_ NB150_163.out _; (with_reducible repeat (first | refine blk_drewN ?_ _ | refine blk_drew ?_ | refine blk_alloc ?_ _)); exact BK150.out⟩, ⟨by (with_reducible repeat (first | refine blk_drewN ?_ _ | refine blk_drew ?_ | refine blk_alloc ?_ _)); refine blk_far ?_ NB151_163.out _; (with_reducible repeat (first | refine blk_drewN ?_ _ | refine blk_drew ?_ | refine blk_alloc ?_ _)); exact BK151.out⟩, ⟨by (with_reducible repeat (first | refine blk_drewN ?_ _ | refine blk_drew ?_ | refine blk_alloc ?_ _)); refine blk_put (cs := #[.int .i64 t160, u164001, .slice none 0 0]) ?_ 1 _ rfl; (with_reducible repeat (first | refine blk_drewN ?_ _ | refine blk_drew ?_ | refine blk_alloc ?_ _)); exact BK163.out⟩, ⟨by repeat (first | (with_reducible first | exact HI152.out | apply IsS52.alloc | apply IsS52.drewN | apply IsS52.drew | apply IsS52.set_1 | apply IsS52.set_2 | refine IsS52.far ?_ NB152_150.out _ | refine IsS52.far ?_ NB152_151.out _ | refine IsS52.far ?_ NB152_163.out _) | exact HI152.out)⟩, ⟨by repeat (first | (with_reducible first | exact HB.out | apply below_alloc | apply pw_below_drewN | apply below_drew1 | refine below_set ?_ (IsS52.ge HI152.out) | refine below_set ?_ GE150.out | refine below_set ?_ GE151.out | refine below_set ?_ GE163.out) | exact HB.out)⟩⟩
                    · rw [if_neg c33] at H
                      exact absurd H (by simp)
                · rw [if_neg c29] at H
                  have c29b0 : decide (0 < x8_2) = false := decide_eq_false c29
                  clear c29
                  (first | rw [c29b0] | (simp only [i64_w, i32_w]; rw [c29b0]) | skip)
                  have H' := Aside0.mk H
                  clear H
                  go_wp2
                  go_meet
                  case rel => exact ⟨_, (x153001_2), (x153002_2), (x164001_2), (u164001), H', ⟨by have := HK1.out; have := HK2.out; first | omega | exact Nat.le_refl _⟩, ⟨by (with_reducible repeat (first | apply Kd.R_alloc | apply Kd.R_drewN | apply Kd.R_drew)); exact HO_164001.out⟩, ⟨by (with_reducible repeat (first | refine blk_drewN ?_ _ | refine blk_drew ?_ | refine blk_alloc ?_ _)); exact BK150.out⟩, ⟨by (with_reducible repeat (first | refine blk_drewN ?_ _ | refine blk_drew ?_ | refine blk_alloc ?_ _)); exact BK151.out⟩, ⟨by (with_reducible repeat (first | refine blk_drewN ?_ _ | refine blk_drew ?_ | refine blk_alloc ?_ _)); exact BK163.out⟩, ⟨by repeat (first | (with_reducible first | exact HI152.out | apply IsS52.alloc | apply IsS52.drewN | apply IsS52.drew | apply IsS52.set_1 | apply IsS52.set_2 | refine IsS52.far ?_ NB152_150.out _ | refine IsS52.far ?_ NB152_151.out _ | refine IsS52.far ?_ NB152_163.out _) | exact HI152.out)⟩, ⟨by repeat (first | (with_reducible first | exact HB.out | apply below_alloc | apply pw_below_drewN | apply below_drew1 | refine below_set ?_ (IsS52.ge HI152.out) | refine below_set ?_ GE150.out | refine below_set ?_ GE151.out | refine below_set ?_ GE163.out) | exact HB.out)⟩⟩
          case rest =>
            clear HC21
            try clear c1
            try clear p1
            try clear q1
            try clear hx1
            try clear c2
            try clear c2b0
            try clear c2b1
            try clear p2
            try clear c3
            try clear c5
            try clear p6
            try clear c10
            try clear c14
            try clear c14b0
            try clear c15
            try clear c15b0
            try clear p15
            try clear q15
            try clear hx15
            try clear c16
            try clear c16b0
            try clear c17
            try clear c18
            try clear c24
            try clear c25
            try clear c26
            try clear c29
            try clear c29b0
            try clear c30
            try clear c33
            try clear hcz27_0
            try clear hcz27_1
            try clear hcz27_2
            try clear hcz31_0
            try clear hcz31_1
            try clear hcz31_2
            try clear hcz34_0
            try clear hcz34_1
            try clear hcz34_2
            try clear hcz6_0
            try clear hcz6_1
            try clear hcz6_2
            try clear hcz7_0
            try clear hcz7_1
            try clear hfz27_0
            try clear hfz27_1
            try clear hfz27_2
            try clear hfz31_1
            try clear hfz31_2
            try clear hfz34_1
            try clear hfz34_2
            try clear hfz6_0
            try clear hfz6_1
            try clear hfz6_2
            try clear hfz7_0
            try clear hfz7_1
            try clear hx156_0
            try clear p1
            try clear p15
            try clear p156
            try clear p2
            try clear p6
            try clear q1
            try clear q15
            try clear q156
            obtain ⟨kq, x153001_20, x153002_20, x164001_20, u164001, HA, HJ20, HO_164001, BK150, BK151, BK163, HI152, HB⟩ := hcut
            cases kq with
            | zero => exact absurd HA.out (by simp [module_Decode.j2])
            | succ kj20 =>
              have H := HA.out
              clear HA
              simp only [module_Decode.j2] at H
              replace H := Option.bind_eq_some_iff.mp H
              obtain ⟨⟨t173, t174, t175⟩, A400, H⟩ := H
              replace H : (module_Decode.l2 kj20 l0 t173 l0 t174 t175 t160 x164001_20 ([] : List (S44))) = some (r1, r2, r3, r4, r5) := H
              have A40 := Aside0.mk A400
              clear A400
              have H' := Aside0.mk H
              clear H
              go_wp2_with (first | ((with_reducible refine gate_callee (f := 17) rfl ?_); refine goesL_ (some 56) rfl rfl Try.func17 (by kernel_rfl) rfl #[.pointer (some ⟨gb152, 0, none⟩), .int .i64 1, .int .i64 16] rfl (by (try simp only [List.map_toArray, List.map_cons, List.map_nil]); first | done | rfl | (simp only [List.length_drop, List.length_take]; rfl)) ?_; (with_reducible refine (module_reader_next.calls gb152 l0 x153001_20 x153002_20 1 16 t173 t174 t175 w _ ?side1 ?side2 A40.out).mono ?_); (case side1 => repeat (first | (with_reducible first | exact HI152.out | apply IsS52.alloc | apply IsS52.drewN | apply IsS52.drew | apply IsS52.set_1 | apply IsS52.set_2 | refine IsS52.far ?_ NB152_150.out _ | refine IsS52.far ?_ NB152_151.out _ | refine IsS52.far ?_ NB152_163.out _) | exact HI152.out)); (case side2 => repeat (first | (with_reducible first | exact HB.out | apply below_alloc | apply pw_below_drewN | apply below_drew1 | refine below_set ?_ (IsS52.ge HI152.out) | refine below_set ?_ GE150.out | refine below_set ?_ GE151.out | refine below_set ?_ GE163.out) | exact HB.out)); rintro e w41 ⟨rfl, hi, hb, hk⟩; refine ⟨_, rfl, ?_⟩; have n0_ := Aside0.mk (Kd.R_mono (Kd.R_keep (IsS52.apart (show IsS52 w _ gb152 l0 x153001_20 x153002_20 from by repeat (first | (with_reducible first | exact HI152.out | apply IsS52.alloc | apply IsS52.drewN | apply IsS52.drew | apply IsS52.set_1 | apply IsS52.set_2 | refine IsS52.far ?_ NB152_150.out _ | refine IsS52.far ?_ NB152_151.out _ | refine IsS52.far ?_ NB152_163.out _) | exact HI152.out)) (by (with_reducible repeat (first | apply Kd.R_alloc | apply Kd.R_drewN | apply Kd.R_drew)); exact HO_164001.out) (by decide)) hk (fun _ h => h.2)) (fun _ h => h.1)); have n1_ := Aside0.mk (KeepBut.blk hk (g' := gb150) (o := .cells #[.int .i64 0, .slice none 0 0, .slice none 0 0] 26 (0, 0)) (by (with_reducible repeat (first | refine blk_drewN ?_ _ | refine blk_drew ?_ | refine blk_alloc ?_ _)); exact BK150.out) NB150_152.out (by simp)); have n2_ := Aside0.mk (KeepBut.blk hk (g' := gb151) (o := .cells #[.int .i64 0, .int .i64 0] 29 (0, 0)) (by (with_reducible repeat (first | refine blk_drewN ?_ _ | refine blk_drew ?_ | refine blk_alloc ?_ _)); exact BK151.out) NB151_152.out (by simp)); have n3_ := Aside0.mk (KeepBut.blk hk (g' := gb163) (o := .cells #[.int .i64 t160, u164001, .slice none 0 0] 26 (0, 0)) (by (with_reducible repeat (first | refine blk_drewN ?_ _ | refine blk_drew ?_ | refine blk_alloc ?_ _)); exact BK163.out) NB163_152.out (by simp)); have n4_ := Aside0.mk (hb); have n5_ := Aside0.mk (hi); clear HO_164001; clear BK150; clear BK151; clear BK163; clear HB; clear HI152; have HO_164001 := n0_; have BK150 := n1_; have BK151 := n2_; have BK163 := n3_; have HB := n4_; have HI152 := n5_; clear n0_ n1_ n2_ n3_ n4_ n5_; (try clear hb); (try clear hb2); (try clear hk); (try clear hi)))
              go_loopg [9] kj20 (fun kq v9 w' => ∃ (x9_3 : Int) (x153001_3 : Int) (x153002_3 : Bool) (x164002_3 : List (S44)) (u164002 : Value), v9 = .int .i64 x9_3 ∧ Aside0 (module_Decode.l2 kq l0 x9_3 l0 x153001_3 x153002_3 t160 x164001_20 x164002_3 = some (r1, r2, r3, r4, r5)) ∧ Aside0 (kq ≤ kj20) ∧ Aside0 (Kd.R (Kd.int .u8) 5 w' w.heap.size (fun _ => True) u164001 x164001_20) ∧ Aside0 (Kd.S k44 44 w' w.heap.size (fun _ => True) u164002 x164002_3) ∧ Aside0 (w'.heap[gb150]? = some (.cells #[.int .i64 0, (.slice none 0 0), (.slice none 0 0)] 26 (0, 0))) ∧ Aside0 (w'.heap[gb151]? = some (.cells #[.int .i64 0, .int .i64 0] 29 (0, 0))) ∧ Aside0 (w'.heap[gb163]? = some (.cells #[.int .i64 t160, u164001, u164002] 26 (0, 0))) ∧ Aside0 (IsS52 w w' gb152 l0 x153001_3 x153002_3) ∧ Aside0 (Below w.heap.size w w'))
              case atStart => exact ⟨(t173), (t174), (t175), (([] : List (S44))), (.slice none 0 0), (by first | rfl | (simp; done) | (simp [*]; done)), H', ⟨Nat.le_refl _⟩, ⟨by (with_reducible repeat (first | apply Kd.R_alloc | apply Kd.R_drewN | apply Kd.R_drew)); exact HO_164001.out⟩, ⟨by first | exact Kd.S_nil _ _ _ _ _ | exact Kd.N_nil _ _ _ _ _ | exact Kd.V_nil _ _ _ _ _ | exact Kd.Q_nil _ _ _ _ _ | exact Kd.R_nil _ _ _ _ _⟩, ⟨by (with_reducible repeat (first | refine blk_drewN ?_ _ | refine blk_drew ?_ | refine blk_alloc ?_ _)); exact BK150.out⟩, ⟨by (with_reducible repeat (first | refine blk_drewN ?_ _ | refine blk_drew ?_ | refine blk_alloc ?_ _)); exact BK151.out⟩, ⟨by (with_reducible repeat (first | refine blk_drewN ?_ _ | refine blk_drew ?_ | refine blk_alloc ?_ _)); exact BK163.out⟩, ⟨by repeat (first | (with_reducible first | exact HI152.out | apply IsS52.alloc | apply IsS52.drewN | apply IsS52.drew | apply IsS52.set_1 | apply IsS52.set_2 | refine IsS52.far ?_ NB152_150.out _ | refine IsS52.far ?_ NB152_151.out _ | refine IsS52.far ?_ NB152_163.out _) | exact HI152.out)⟩, ⟨by repeat (first | (with_reducible first | exact HB.out | apply below_alloc | apply pw_below_drewN | apply below_drew1 | refine below_set ?_ (IsS52.ge HI152.out) | refine below_set ?_ GE150.out | refine below_set ?_ GE151.out | refine below_set ?_ GE163.out) | exact HB.out)⟩⟩
              case round =>
                clear H'
                try clear c1
                try clear p1
                try clear q1
                try clear hx1
                try clear c2
                try clear c2b0
                try clear c2b1
                try clear p2
                try clear c3
                try clear c5
                try clear p6
                try clear c10
                try clear c14
                try clear c14b0
                try clear c15
                try clear c15b0
                try clear p15
                try clear q15
                try clear hx15
                try clear c16
                try clear c16b0
                try clear c17
                try clear c18
                try clear c24
                try clear c25
                try clear c26
                try clear c29
                try clear c29b0
                try clear c30
                try clear c33
                try clear hcz27_0
                try clear hcz27_1
                try clear hcz27_2
                try clear hcz31_0
                try clear hcz31_1
                try clear hcz31_2
                try clear hcz34_0
                try clear hcz34_1
                try clear hcz34_2
                try clear hcz6_0
                try clear hcz6_1
                try clear hcz6_2
                try clear hcz7_0
                try clear hcz7_1
                try clear hfz27_0
                try clear hfz27_1
                try clear hfz27_2
                try clear hfz31_1
                try clear hfz31_2
                try clear hfz34_1
                try clear hfz34_2
                try clear hfz6_0
                try clear hfz6_1
                try clear hfz6_2
                try clear hfz7_0
                try clear hfz7_1
                try clear hx156_0
                try clear p1
                try clear p15
                try clear p156
                try clear p2
                try clear p6
                try clear q1
                try clear q15
                try clear q156
                obtain ⟨x9_3, x153001_3, x153002_3, x164002_3, u164002, rfl, HA, HK3, HO_164001, HO_164002, BK150, BK151, BK163, HI152, HB⟩ := hrel
                cases gk with
                | zero => exact absurd HA.out (by simp [module_Decode.l2])
                | succ k3 =>
                  have H := HA.out
                  clear HA
                  simp only [module_Decode.l2] at H
                  by_cases c42 : x9_3 > 0
                  · rw [if_pos c42] at H
                    have c42b0 : decide (0 < x9_3) = true := decide_eq_true c42
                    clear c42
                    by_cases c43 : x153002_3 = true
                    · subst c43
                      have H1 : (some (0, ([] : List Int), ([] : List (S44)), 120, x153001_3)) = some (r1, r2, r3, r4, r5) := by rw [if_pos rfl] at H; exact H
                      clear H
                      have H := H1
                      clear H1
                      simp only [Option.some.injEq, Prod.mk.injEq] at H
                      obtain ⟨rfl, rfl, rfl, rfl, rfl⟩ := H
                      obtain ⟨ASz44_0, cSz44_0, HGz44, hgz44, HSz44_0⟩ := HI152.out
                      have hcz44_0 := cellS52_0 HGz44
                      have hcz44_1 := cellS52_1 HGz44
                      have hcz44_2 := cellS52_2 HGz44
                      have hfz44_1 := blk_frozen HGz44 1
                      have hfz44_2 := blk_frozen HGz44 2
                      clear HGz44 hgz44
                      try go_wp2
                      obtain ⟨BA152_0, Bc152_0, BG152, BH152, BS152_0⟩ := HI152.out
                      have BK152 := Aside0.mk BG152
                      have GE152 := Aside0.mk BH152
                      have GW152 := Aside0.mk BH152
                      clear BG152 BH152 HI152 BS152_0
                      have n0_ := Aside0.mk (Kd.R_drew HO_164001.out)
                      have n1_ := Aside0.mk (Kd.S_drew HO_164002.out)
                      have n2_ := Aside0.mk (blk_drew BK150.out)
                      have n3_ := Aside0.mk (blk_drew BK151.out)
                      have n4_ := Aside0.mk (blk_drew BK163.out)
                      have n5_ := Aside0.mk (blk_drew BK152.out)
                      have n6_ := Aside0.mk (below_drew1 HB.out)
                      clear HO_164001
                      clear HO_164002
                      clear BK150
                      clear BK151
                      clear BK163
                      clear BK152
                      clear HB
                      have HO_164001 := n0_
                      have HO_164002 := n1_
                      have BK150 := n2_
                      have BK151 := n3_
                      have BK163 := n4_
                      have BK152 := n5_
                      have HB := n6_
                      clear n0_ n1_ n2_ n3_ n4_ n5_ n6_
                      refine start_ (n := 8) (S := fun w' => w'.cell? ⟨gb152, 0, none⟩ = some (.slice BA152_0 l0.length Bc152_0) ∧ w'.cell? ⟨gb152, 1, none⟩ = some (.int .i64 x153001_3) ∧ w'.cell? ⟨gb152, 2, none⟩ = some (.bool true)) (ds := []) #[false, false, false, false, false, false, false, false] (by kernel_rfl) rfl rfl ⟨(blk_cell BK152.out 0).trans rfl, (blk_cell BK152.out 1).trans rfl, (blk_cell BK152.out 2).trans rfl⟩ (fun hHeld => ?_); refine with_tabW module_Decode.tab19 module_Decode.bits19 (fun HT_ HW_ => ?_)
                      generalize wr.drew = w45 at HO_164001 HO_164002 BK150 BK151 BK163 BK152 HB hHeld ⊢
                      refine pure_ (i := 0) (N := some 88) (v := ?_) (a' := ?_) #[true, false, false, false, false, false, false, false] rfl rfl (any_of HT_.out (by kernel_rfl)) (fun _ _ _ h => h) (Or.inl ⟨by rfl, ?_⟩) ?_ ?_
                      rotate_left
                      · intro w'
                        go_simp
                        with_reducible rfl
                      rotate_left
                      · simp only [Act.put, List.setIfInBounds_toArray, List.set_cons_zero, List.set_cons_succ, i64_w, i32_w]
                        rfl
                      refine pure_ (i := 1) (N := some 89) (v := ?_) (a' := ?_) #[true, true, false, false, false, false, false, false] rfl rfl (any_of HT_.out (by kernel_rfl)) (fun _ _ _ h => h) (Or.inl ⟨by rfl, ?_⟩) ?_ ?_
                      rotate_left
                      · intro w'
                        go_simp
                        with_reducible rfl
                      rotate_left
                      · simp only [Act.put, List.setIfInBounds_toArray, List.set_cons_zero, List.set_cons_succ, i64_w, i32_w]
                        rfl
                      refine pure_ (i := 2) (N := some 90) (v := ?_) (a' := ?_) #[true, true, true, false, false, false, false, false] rfl rfl (any_of HT_.out (by kernel_rfl)) (fun _ _ _ h => h) (Or.inl ⟨by rfl, ?_⟩) ?_ ?_
                      rotate_left
                      · intro w'
                        go_simp
                        with_reducible rfl
                      rotate_left
                      · simp only [Act.put, List.setIfInBounds_toArray, List.set_cons_zero, List.set_cons_succ, i64_w, i32_w]
                        rfl
                      refine pure_ (i := 3) (N := some 91) (v := ?_) (a' := ?_) #[true, true, true, true, false, false, false, false] rfl rfl (any_of HT_.out (by kernel_rfl)) (fun _ _ _ h => h) (Or.inl ⟨by rfl, ?_⟩) ?_ ?_
                      rotate_left
                      · intro w'
                        go_simp
                        with_reducible rfl
                      rotate_left
                      · simp only [Act.put, List.setIfInBounds_toArray, List.set_cons_zero, List.set_cons_succ, i64_w, i32_w]
                        rfl
                      refine take_ (i := 4) (N := some 92) (v := ?_) (a' := ?_) #[true, true, true, true, true, false, false, false] rfl rfl (take_ofW HT_.out HW_.out (by kernel_rfl)) (fun _ _ _ h => h) (Or.inl ⟨by rfl, ?_⟩) hHeld ?_ ?_
                      rotate_left
                      · rintro w' ⟨s0, s1, s2⟩
                        go_simp
                        with_reducible rfl
                      rotate_left
                      · simp only [Act.put, List.setIfInBounds_toArray, List.set_cons_zero, List.set_cons_succ, i64_w, i32_w]
                        rfl
                      refine pure_ (i := 5) (N := some 93) (v := ?_) (a' := ?_) #[true, true, true, true, true, true, false, false] rfl rfl (any_of HT_.out (by kernel_rfl)) (fun _ _ _ h => h) (Or.inl ⟨by rfl, ?_⟩) ?_ ?_
                      rotate_left
                      · intro w'
                        go_simp
                        with_reducible rfl
                      rotate_left
                      · simp only [Act.put, List.setIfInBounds_toArray, List.set_cons_zero, List.set_cons_succ, i64_w, i32_w]
                        rfl
                      refine one_ (i := 6) (N := none) #[true, true, true, true, true, true, true, false] rfl rfl (one_of HT_.out (by kernel_rfl)) (by decide) (fun K hK => ?_)
                      have hs46 : w45.cell? ⟨gb150, 0, none⟩ = some (.int .i64 0) := (blk_cell BK150.out 0).trans rfl
                      have hfs46 := blk_frozen BK150.out 0
                      have hns46_1 := NB151_150.out
                      have hns46_2 := NB163_150.out
                      have hns46_3 := NB152_150.out
                      have hms46_1 := NB150_151.out
                      have hms46_2 := NB150_163.out
                      have hms46_3 := NB150_152.out
                      have hs47 : w45.cell? ⟨gb150, 1, none⟩ = some (.slice none 0 0) := (blk_cell BK150.out 1).trans rfl
                      have hfs47 := blk_frozen BK150.out 1
                      have hns47_1 := NB151_150.out
                      have hns47_2 := NB163_150.out
                      have hns47_3 := NB152_150.out
                      have hms47_1 := NB150_151.out
                      have hms47_2 := NB150_163.out
                      have hms47_3 := NB150_152.out
                      have hs48 : w45.cell? ⟨gb150, 2, none⟩ = some (.slice none 0 0) := (blk_cell BK150.out 2).trans rfl
                      have hfs48 := blk_frozen BK150.out 2
                      have hns48_1 := NB151_150.out
                      have hns48_2 := NB163_150.out
                      have hns48_3 := NB152_150.out
                      have hms48_1 := NB150_151.out
                      have hms48_2 := NB150_163.out
                      have hms48_3 := NB150_152.out
                      refine skip_ (w1 := ?_) (by rfl) rfl ?_ ?_
                      rotate_left
                      · go_simp
                        rfl
                      refine hK.out _ _ ⟨((cell_far (p := ⟨gb150, _, none⟩) NB152_150.out _).trans (((cell_far (p := ⟨gb150, _, none⟩) NB152_150.out _).trans (((cell_far (p := ⟨gb150, _, none⟩) NB152_150.out _).trans (hHeld.1)))))), ((cell_far (p := ⟨gb150, _, none⟩) NB152_150.out _).trans (((cell_far (p := ⟨gb150, _, none⟩) NB152_150.out _).trans (((cell_far (p := ⟨gb150, _, none⟩) NB152_150.out _).trans (hHeld.2.1)))))), ((cell_far (p := ⟨gb150, _, none⟩) NB152_150.out _).trans (((cell_far (p := ⟨gb150, _, none⟩) NB152_150.out _).trans (((cell_far (p := ⟨gb150, _, none⟩) NB152_150.out _).trans (hHeld.2.2))))))⟩ (fun hHeld => ?_)
                      clear hK K
                      refine one_ (i := 7) (N := none) #[true, true, true, true, true, true, true, true] rfl rfl (one_of HT_.out (by kernel_rfl)) (by decide) (fun K hK => ?_)
                      have hs49 : w45.cell? ⟨gb151, 0, none⟩ = some (.int .i64 0) := (blk_cell BK151.out 0).trans rfl
                      have hfs49 := blk_frozen BK151.out 0
                      have hns49_0 := NB150_151.out
                      have hns49_2 := NB163_151.out
                      have hns49_3 := NB152_151.out
                      have hms49_0 := NB151_150.out
                      have hms49_2 := NB151_163.out
                      have hms49_3 := NB151_152.out
                      have hs50 : w45.cell? ⟨gb151, 1, none⟩ = some (.int .i64 0) := (blk_cell BK151.out 1).trans rfl
                      have hfs50 := blk_frozen BK151.out 1
                      have hns50_0 := NB150_151.out
                      have hns50_2 := NB163_151.out
                      have hns50_3 := NB152_151.out
                      have hms50_0 := NB151_150.out
                      have hms50_2 := NB151_163.out
                      have hms50_3 := NB151_152.out
                      refine skip_ (w1 := ?_) (by rfl) rfl ?_ ?_
                      rotate_left
                      · go_simp
                        rfl
                      refine hK.out _ _ ⟨((cell_far (p := ⟨gb151, _, none⟩) NB152_151.out _).trans (((cell_far (p := ⟨gb151, _, none⟩) NB152_151.out _).trans (hHeld.1)))), ((cell_far (p := ⟨gb151, _, none⟩) NB152_151.out _).trans (((cell_far (p := ⟨gb151, _, none⟩) NB152_151.out _).trans (hHeld.2.1)))), ((cell_far (p := ⟨gb151, _, none⟩) NB152_151.out _).trans (((cell_far (p := ⟨gb151, _, none⟩) NB152_151.out _).trans (hHeld.2.2))))⟩ (fun hHeld => ?_)
                      clear hK K
                      refine done_ (done_of HT_.out (by kernel_rfl)) ?_
                      try go_wp2
                      refine bodyPost_ret (results_cc rfl _ _ gb150 gb151 26 29 #[.int .i64 0, .slice none 0 0, .slice none 0 0] #[.int .i64 120, .int .i64 x153001_3] (0, 0) (0, 0) _ _ rfl (by (with_reducible repeat (first | refine blk_drewN ?_ _ | refine blk_drew ?_ | refine blk_alloc ?_ _)); refine blk_far ?_ NB150_151.out _; (with_reducible repeat (first | refine blk_drewN ?_ _ | refine blk_drew ?_ | refine blk_alloc ?_ _)); refine blk_far ?_ NB150_151.out _; (with_reducible repeat (first | refine blk_drewN ?_ _ | refine blk_drew ?_ | refine blk_alloc ?_ _)); refine blk_put (cs := #[.int .i64 0, .slice none 0 0, .slice none 0 0]) ?_ 2 _ rfl; (with_reducible repeat (first | refine blk_drewN ?_ _ | refine blk_drew ?_ | refine blk_alloc ?_ _)); refine blk_put (cs := #[.int .i64 0, .slice none 0 0, .slice none 0 0]) ?_ 1 _ rfl; (with_reducible repeat (first | refine blk_drewN ?_ _ | refine blk_drew ?_ | refine blk_alloc ?_ _)); refine blk_put (cs := #[.int .i64 0, .slice none 0 0, .slice none 0 0]) ?_ 0 _ rfl; (with_reducible repeat (first | refine blk_drewN ?_ _ | refine blk_drew ?_ | refine blk_alloc ?_ _)); exact BK150.out) Try.underlying26 rfl (by kernel_rfl) rfl (by (with_reducible repeat (first | refine blk_drewN ?_ _ | refine blk_drew ?_ | refine blk_alloc ?_ _)); refine blk_put (cs := #[.int .i64 120, .int .i64 0]) ?_ 1 _ rfl; (with_reducible repeat (first | refine blk_drewN ?_ _ | refine blk_drew ?_ | refine blk_alloc ?_ _)); refine blk_put (cs := #[.int .i64 0, .int .i64 0]) ?_ 0 _ rfl; (with_reducible repeat (first | refine blk_drewN ?_ _ | refine blk_drew ?_ | refine blk_alloc ?_ _)); refine blk_far ?_ NB151_150.out _; (with_reducible repeat (first | refine blk_drewN ?_ _ | refine blk_drew ?_ | refine blk_alloc ?_ _)); refine blk_far ?_ NB151_150.out _; (with_reducible repeat (first | refine blk_drewN ?_ _ | refine blk_drew ?_ | refine blk_alloc ?_ _)); refine blk_far ?_ NB151_150.out _; (with_reducible repeat (first | refine blk_drewN ?_ _ | refine blk_drew ?_ | refine blk_alloc ?_ _)); exact BK151.out) Try.underlying29 rfl (by kernel_rfl)) rfl ?_
                      exact ⟨_, _, by first | rfl | (simp [errW_none, errW_some] <;> rfl) | (simp [*, errW_none, errW_some] <;> rfl), by first | exact Kd.R_nil _ _ _ _ _ | exact Kd.N_nil _ _ _ _ _ | exact Kd.V_nil _ _ _ _ _ | exact Kd.Q_nil _ _ _ _ _ | exact Kd.S_nil _ _ _ _ _, by first | exact Kd.S_nil _ _ _ _ _ | exact Kd.N_nil _ _ _ _ _ | exact Kd.V_nil _ _ _ _ _ | exact Kd.Q_nil _ _ _ _ _ | exact Kd.R_nil _ _ _ _ _, by repeat (first | (with_reducible first | exact HB.out | apply below_alloc | apply pw_below_drewN | apply below_drew1 | refine below_set ?_ GE150.out | refine below_set ?_ GE151.out | refine below_set ?_ GE163.out | refine below_set ?_ GE152.out) | exact HB.out)⟩
                    · replace c43 := Bool.eq_false_iff.mpr c43
                      subst c43
                      have H1 : ((module_reader_function.f k3 l0 x153001_3 false).bind fun bt176 => (if x164002_3.length < 2932031007402 then (module_Decode.l2 k3 l0 (wrap64 (x9_3 - 1)) l0 bt176.2.2.2.2.1 bt176.2.2.2.2.2 t160 x164001_20 (x164002_3 ++ [(⟨bt176.1, bt176.2.1, bt176.2.2.1, bt176.2.2.2.1⟩ : S44)])) else (none))) = some (r1, r2, r3, r4, r5) := by rw [if_neg (show ¬ (false = true) by decide)] at H; exact H
                      clear H
                      have H := H1
                      clear H1
                      replace H := Option.bind_eq_some_iff.mp H
                      obtain ⟨⟨t176, t177, t178, t179, t182, t183⟩, A510, H⟩ := H
                      replace H : (if x164002_3.length < 2932031007402 then (module_Decode.l2 k3 l0 (wrap64 (x9_3 - 1)) l0 t182 t183 t160 x164001_20 (x164002_3 ++ [(⟨t176, t177, t178, t179⟩ : S44)])) else (none)) = some (r1, r2, r3, r4, r5) := H
                      have A51 := Aside0.mk A510
                      clear A510
                      by_cases c52 : x164002_3.length < 2932031007402
                      · rw [if_pos c52] at H
                        have LMc52 := Aside0.mk c52
                        clear c52
                        obtain ⟨y184, hy184⟩ : ∃ y_ : List (S44), y_ = (x164002_3 ++ [(⟨t176, t177, t178, t179⟩ : S44)]) := ⟨_, rfl⟩
                        replace H : (module_Decode.l2 k3 l0 (wrap64 (x9_3 - 1)) l0 t182 t183 t160 x164001_20 y184) = some (r1, r2, r3, r4, r5) := by first | (rw [hy184]; with_reducible exact H) | (have H2_ := (Option.bind_some _ _).symm.trans H; rw [hy184]; with_reducible exact H2_) | (have H2_ := (Option.bind_some _ _).symm.trans H; with_reducible exact H2_) | with_reducible exact H | (rw [hy184]; exact H) | exact H
                        have Ny184 := Aside0.mk hy184
                        clear hy184
                        have H' := Aside0.mk H
                        clear H
                        obtain ⟨ASz53_0, cSz53_0, HGz53, hgz53, HSz53_0⟩ := HI152.out
                        have hcz53_0 := cellS52_0 HGz53
                        have hcz53_1 := cellS52_1 HGz53
                        have hcz53_2 := cellS52_2 HGz53
                        have hfz53_1 := blk_frozen HGz53 1
                        have hfz53_2 := blk_frozen HGz53 2
                        clear HGz53 hgz53
                        try go_wp2
                        have n0_ := Aside0.mk (Kd.R_drew HO_164001.out)
                        have n1_ := Aside0.mk (Kd.S_drew HO_164002.out)
                        have n2_ := Aside0.mk (blk_drew BK150.out)
                        have n3_ := Aside0.mk (blk_drew BK151.out)
                        have n4_ := Aside0.mk (blk_drew BK163.out)
                        have n5_ := Aside0.mk (IsS52.drew HI152.out)
                        have n6_ := Aside0.mk (below_drew1 HB.out)
                        clear HO_164001
                        clear HO_164002
                        clear BK150
                        clear BK151
                        clear BK163
                        clear HI152
                        clear HB
                        have HO_164001 := n0_
                        have HO_164002 := n1_
                        have BK150 := n2_
                        have BK151 := n3_
                        have BK163 := n4_
                        have HI152 := n5_
                        have HB := n6_
                        clear n0_ n1_ n2_ n3_ n4_ n5_ n6_
                        refine start_ (n := 8) (S := fun w' => w'.cell? ⟨gb163, 0, none⟩ = some (.int .i64 t160) ∧ w'.cell? ⟨gb163, 1, none⟩ = some (u164001) ∧ w'.cell? ⟨gb163, 2, none⟩ = some (u164002)) (ds := [7]) #[false, false, false, false, false, false, false, false] (by kernel_rfl) rfl rfl ⟨(blk_cell BK163.out 0).trans rfl, (blk_cell BK163.out 1).trans rfl, (blk_cell BK163.out 2).trans rfl⟩ (fun hHeld => ?_); refine with_tabW module_Decode.tab17 module_Decode.bits17 (fun HT_ HW_ => ?_)
                        generalize wr.drew = w54 at HO_164001 HO_164002 BK150 BK151 BK163 HI152 HB hHeld ⊢
                        refine pure_ (i := 0) (N := some 68) (v := ?_) (a' := ?_) #[true, false, false, false, false, false, false, false] rfl rfl (any_of HT_.out (by kernel_rfl)) (fun _ _ _ h => h) (Or.inl ⟨by rfl, ?_⟩) ?_ ?_
                        rotate_left
                        · intro w'
                          go_simp
                          with_reducible rfl
                        rotate_left
                        · simp only [Act.put, List.setIfInBounds_toArray, List.set_cons_zero, List.set_cons_succ, i64_w, i32_w]
                          rfl
                        refine pure_ (i := 2) (N := some 70) (v := ?_) (a' := ?_) #[true, false, true, false, false, false, false, false] rfl rfl (any_of HT_.out (by kernel_rfl)) (fun _ _ _ h => h) (Or.inl ⟨by rfl, ?_⟩) ?_ ?_
                        rotate_left
                        · intro w'
                          go_simp
                          with_reducible rfl
                        rotate_left
                        · simp only [Act.put, List.setIfInBounds_toArray, List.set_cons_zero, List.set_cons_succ, i64_w, i32_w]
                          rfl
                        refine take_ (i := 1) (N := some 69) (v := ?_) (a' := ?_) #[true, true, true, false, false, false, false, false] rfl rfl (take_ofW HT_.out HW_.out (by kernel_rfl)) (fun _ _ _ h => h) (Or.inl ⟨by rfl, ?_⟩) hHeld ?_ ?_
                        rotate_left
                        · rintro w' ⟨s0, s1, s2⟩
                          go_simp
                          with_reducible rfl
                        rotate_left
                        · simp only [Act.put, List.setIfInBounds_toArray, List.set_cons_zero, List.set_cons_succ, i64_w, i32_w]
                          rfl
                        refine one_ (i := 3) (N := some 71) #[true, true, true, true, false, false, false, false] rfl rfl (one_of HT_.out (by kernel_rfl)) (by decide) (fun K hK => ?_)
                        refine goes_ Try.func19 (by kernel_rfl) rfl #[.pointer (some ⟨gb152, 0, none⟩)] (by rfl) rfl rfl (by (try simp only [List.map_toArray, List.map_cons, List.map_nil]); first | done | rfl | (simp only [List.length_drop, List.length_take]; rfl)) ?_
                        with_reducible refine (module_reader_function.calls k3 gb152 l0 x153001_3 false t176 t177 t178 t179 t182 t183 w _ ?side1 ?side2 A51.out).mono ?_
                        (case side1 => repeat (first | (with_reducible first | exact HI152.out | apply IsS52.alloc | apply IsS52.drewN | apply IsS52.drew | apply IsS52.set_1 | apply IsS52.set_2 | refine IsS52.far ?_ NB152_150.out _ | refine IsS52.far ?_ NB152_151.out _ | refine IsS52.far ?_ NB152_163.out _) | exact HI152.out))
                        (case side2 => repeat (first | (with_reducible first | exact HB.out | apply below_alloc | apply pw_below_drewN | apply below_drew1 | refine below_set ?_ (IsS52.ge HI152.out) | refine below_set ?_ GE150.out | refine below_set ?_ GE151.out | refine below_set ?_ GE163.out) | exact HB.out))
                        rintro e w55 ⟨v180, rfl, ho0, hi, hb, hk⟩
                        refine ⟨_, rfl, ?_⟩
                        have n0_ := Aside0.mk (Kd.R_mono (Kd.R_keep (IsS52.apart (show IsS52 w _ gb152 l0 x153001_3 false from by repeat (first | (with_reducible first | exact HI152.out | apply IsS52.alloc | apply IsS52.drewN | apply IsS52.drew | apply IsS52.set_1 | apply IsS52.set_2 | refine IsS52.far ?_ NB152_150.out _ | refine IsS52.far ?_ NB152_151.out _ | refine IsS52.far ?_ NB152_163.out _) | exact HI152.out)) (by (with_reducible repeat (first | apply Kd.R_alloc | apply Kd.R_drewN | apply Kd.R_drew)); exact HO_164001.out) (by decide)) hk (fun _ h => h.2)) (fun _ h => h.1))
                        have n1_ := Aside0.mk (Kd.S_mono (Kd.S_told (Kd.S_oldK (IsS52.apartS (show IsS52 w _ gb152 l0 x153001_3 false from by repeat (first | (with_reducible first | exact HI152.out | apply IsS52.alloc | apply IsS52.drewN | apply IsS52.drew | apply IsS52.set_1 | apply IsS52.set_2 | refine IsS52.far ?_ NB152_150.out _ | refine IsS52.far ?_ NB152_151.out _ | refine IsS52.far ?_ NB152_163.out _) | exact HI152.out)) (by (with_reducible repeat (first | apply Kd.S_alloc | apply Kd.S_drewN | apply Kd.S_drew)); exact HO_164002.out) (by decide)) hk) (Kd.R_base ho0)) (fun _ h_ => h_.1))
                        have n2_ := Aside0.mk (KeepBut.blk hk (g' := gb150) (o := .cells #[.int .i64 0, .slice none 0 0, .slice none 0 0] 26 (0, 0)) (by (with_reducible repeat (first | refine blk_drewN ?_ _ | refine blk_drew ?_ | refine blk_alloc ?_ _)); exact BK150.out) NB150_152.out (by simp))
                        have n3_ := Aside0.mk (KeepBut.blk hk (g' := gb151) (o := .cells #[.int .i64 0, .int .i64 0] 29 (0, 0)) (by (with_reducible repeat (first | refine blk_drewN ?_ _ | refine blk_drew ?_ | refine blk_alloc ?_ _)); exact BK151.out) NB151_152.out (by simp))
                        have n4_ := Aside0.mk (KeepBut.blk hk (g' := gb163) (o := .cells #[.int .i64 t160, u164001, u164002] 26 (0, 0)) (by (with_reducible repeat (first | refine blk_drewN ?_ _ | refine blk_drew ?_ | refine blk_alloc ?_ _)); exact BK163.out) NB163_152.out (by simp))
                        have n5_ := Aside0.mk (Kd.R_lower ho0 (below_size (by repeat (first | (with_reducible first | exact HB.out | apply below_alloc | apply pw_below_drewN | apply below_drew1 | refine below_set ?_ (IsS52.ge HI152.out) | refine below_set ?_ GE150.out | refine below_set ?_ GE151.out | refine below_set ?_ GE163.out) | exact HB.out))))
                        have n6_ := Aside0.mk (hb)
                        have n7_ := Aside0.mk (hi)
                        clear HO_164001
                        clear HO_164002
                        clear BK150
                        clear BK151
                        clear BK163
                        clear HB
                        clear HI152
                        have HO_164001 := n0_
                        have HO_164002 := n1_
                        have BK150 := n2_
                        have BK151 := n3_
                        have BK163 := n4_
                        have HO181 := n5_
                        have HB := n6_
                        have HI152 := n7_
                        clear n0_ n1_ n2_ n3_ n4_ n5_ n6_ n7_
                        (try clear hb)
                        (try clear hb2)
                        (try clear hk)
                        (try clear hi)
                        (try clear ho0)
                        obtain ⟨Ao57, co57, eo57⟩ := Kd.R_slice HO181.out
                        (first | subst eo57 | (injection eo57 with f1_ f2_ f3_; have f4_ := f1_.symm; have f5_ := f3_.symm; clear f1_ f2_ f3_; subst f4_; subst f5_))
                        refine hK.out _ _ ⟨(blk_cell BK163.out 0).trans rfl, (blk_cell BK163.out 1).trans rfl, (blk_cell BK163.out 2).trans rfl⟩ (fun hHeld => ?_)
                        clear hK K
                        refine norm_ (a' := ?_) ?_ ?_
                        rotate_left
                        · show Act.put _ (some 71) _ = _
                          simp only [Act.put, List.setIfInBounds_toArray, List.set_cons_zero, List.set_cons_succ, i64_w, i32_w]
                          rfl
                        refine one_ (i := 4) (N := some 72) #[true, true, true, true, true, false, false, false] rfl rfl (one_of HT_.out (by kernel_rfl)) (by decide) (fun K hK => ?_)
                        refine value_ (w1 := ?_) (v := ?_) (by rfl) rfl ?_ ?_
                        rotate_left 2
                        · go_simp
                          constructor
                          · rfl
                          · rfl
                        refine hK.out _ _ ⟨(blk_cell (blk_alloc BK163.out _) 0).trans rfl, (blk_cell (blk_alloc BK163.out _) 1).trans rfl, (blk_cell (blk_alloc BK163.out _) 2).trans rfl⟩ (fun hHeld => ?_)
                        clear hK K
                        refine norm_ (a' := ?_) ?_ ?_
                        rotate_left
                        · show Act.put _ (some 72) _ = _
                          simp only [Act.put, List.setIfInBounds_toArray, List.set_cons_zero, List.set_cons_succ, i64_w, i32_w]
                          rfl
                        refine one_ (i := 5) (N := some 73) #[true, true, true, true, true, true, false, false] rfl rfl (one_of HT_.out (by kernel_rfl)) (by decide) (fun K hK => ?_)
                        refine Kd.S_append_step k44 (w0 := w) w.heap.size (by rfl) (.tmp 69) (.tmp 72) 24 44 (.agg #[(.int .i64 0), (.int .i64 0), (.int .i64 0), (.slice none 0 0)]) 48 rfl Try.underlying24 info44 rfl (by decide) (by omega) u164002 x164002_3 (⟨t176, t177, t178, t179⟩ : S44) [.int .i64 t176, .int .i64 t177, .int .i64 t178, .slice Ao57 t179.length co57] (fun _ => True) (fun k_ => some k_ = (.slice Ao57 t179.length co57 : Value).ownBlock) rfl rfl ?aP (fun k_ hk_ => ((Kd.R_mono (ok' := fun k_ => ((fun _ => True)) k_ ∧ some k_ ≠ (u164002 : Value).ownBlock) (Kd.R_apart' (HO181.out) (Kd.S_typed HO_164002.out) (by decide)) (fun k_ hk => ⟨trivial, hk.2⟩))).1 k_ hk_.symm) ?aF ?aO ?aB ?aS ?aL ?_
                        (case aP => exact k44_mkM _ _ _ (⟨t176, t177, t178, t179⟩ : S44) (Kd.R_mono (Kd.R_tight rfl (Kd.R_mono (ok' := fun k_ => ((fun _ => True)) k_ ∧ some k_ ≠ (u164002 : Value).ownBlock) (Kd.R_apart' (HO181.out) (Kd.S_typed HO_164002.out) (by decide)) (fun k_ hk => ⟨trivial, hk.2⟩))) (fun _ h_ => h_)))
                        (case aB => exact (by repeat (first | (with_reducible first | exact HB.out | apply below_alloc | apply pw_below_drewN | apply below_drew1 | refine below_set ?_ (IsS52.ge HI152.out) | refine below_set ?_ GE150.out | refine below_set ?_ GE151.out | refine below_set ?_ GE163.out) | exact HB.out)))
                        (case aF => exact (fun _ _ => trivial))
                        (case aO => exact (by (with_reducible repeat (first | apply Kd.S_alloc | apply Kd.S_drewN | apply Kd.S_drew)); exact Kd.S_mono HO_164002.out (fun k_ hk => ⟨trivial, fun e_ => hk.2 e_⟩)))
                        (case aS => exact (below_size (by repeat (first | (with_reducible first | exact HB.out | apply below_alloc | apply pw_below_drewN | apply below_drew1 | refine below_set ?_ (IsS52.ge HI152.out) | refine below_set ?_ GE150.out | refine below_set ?_ GE151.out | refine below_set ?_ GE163.out) | exact HB.out))))
                        (case aL => have := LMc52.out; omega)
                        intro v185 w56 ho hb hg hat
                        rw [← Ny184.out] at ho
                        have n0_ := Aside0.mk (Kd.R_over' (by (with_reducible repeat (first | apply Kd.R_alloc | apply Kd.R_drewN | apply Kd.R_drew)); exact HO_164001.out) (Kd.S_typed (by (with_reducible repeat (first | apply Kd.S_alloc | apply Kd.S_drewN | apply Kd.S_drew)); exact HO_164002.out)) (by decide) hg)
                        have n1_ := Aside0.mk (blk_grown (g := gb150) (o := .cells #[.int .i64 0, .slice none 0 0, .slice none 0 0] 26 (0, 0)) (by (with_reducible repeat (first | refine blk_drewN ?_ _ | refine blk_drew ?_ | refine blk_alloc ?_ _)); exact BK150.out) hg (Kd.S_ne HO_164002.out BK150.out (by decide)))
                        have n2_ := Aside0.mk (blk_grown (g := gb151) (o := .cells #[.int .i64 0, .int .i64 0] 29 (0, 0)) (by (with_reducible repeat (first | refine blk_drewN ?_ _ | refine blk_drew ?_ | refine blk_alloc ?_ _)); exact BK151.out) hg (Kd.S_ne HO_164002.out BK151.out (by decide)))
                        have n3_ := Aside0.mk (blk_grown (g := gb163) (o := .cells #[.int .i64 t160, u164001, u164002] 26 (0, 0)) (by (with_reducible repeat (first | refine blk_drewN ?_ _ | refine blk_drew ?_ | refine blk_alloc ?_ _)); exact BK163.out) hg (Kd.S_ne HO_164002.out BK163.out (by decide)))
                        have n4_ := Aside0.mk (IsS52.grown (show IsS52 w _ gb152 l0 t182 t183 from by repeat (first | (with_reducible first | exact HI152.out | apply IsS52.alloc | apply IsS52.drewN | apply IsS52.drew | apply IsS52.set_1 | apply IsS52.set_2 | refine IsS52.far ?_ NB152_150.out _ | refine IsS52.far ?_ NB152_151.out _ | refine IsS52.far ?_ NB152_163.out _) | exact HI152.out)) hg (IsS52.own_neS HI152.out HO_164002.out (by decide)))
                        have n5_ := Aside0.mk (hb)
                        have n6_ := Aside0.mk (ho)
                        clear HO_164001
                        clear BK150
                        clear BK151
                        clear BK163
                        clear HI152
                        clear HB
                        clear HO_164002
                        clear HO181
                        have HO_164001 := n0_
                        have BK150 := n1_
                        have BK151 := n2_
                        have BK163 := n3_
                        have HI152 := n4_
                        have HB := n5_
                        have HO186 := n6_
                        clear n0_ n1_ n2_ n3_ n4_ n5_ n6_
                        clear ho hb hg hat
                        obtain ⟨Ao58, co58, eo58⟩ := Kd.S_slice HO186.out
                        (first | subst eo58 | (injection eo58 with f1_ f2_ f3_; have f4_ := f1_.symm; have f5_ := f3_.symm; clear f1_ f2_ f3_; subst f4_; subst f5_))
                        refine hK.out _ _ ⟨(blk_cell BK163.out 0).trans rfl, (blk_cell BK163.out 1).trans rfl, (blk_cell BK163.out 2).trans rfl⟩ (fun hHeld => ?_)
                        clear hK K
                        refine norm_ (a' := ?_) ?_ ?_
                        rotate_left
                        · show Act.put _ (some 73) _ = _
                          simp only [Act.put, List.setIfInBounds_toArray, List.set_cons_zero, List.set_cons_succ, i64_w, i32_w]
                          rfl
                        refine pure_ (i := 6) (N := some 74) (v := ?_) (a' := ?_) #[true, true, true, true, true, true, true, false] rfl rfl (any_of HT_.out (by kernel_rfl)) (fun _ _ _ h => h) (Or.inl ⟨by rfl, ?_⟩) ?_ ?_
                        rotate_left
                        · intro w'
                          go_simp
                          with_reducible rfl
                        rotate_left
                        · simp only [Act.put, List.setIfInBounds_toArray, List.set_cons_zero, List.set_cons_succ, i64_w, i32_w]
                          rfl
                        refine last_ (i := 7) (N := none) #[true, true, true, true, true, true, true, true] rfl rfl (one_of HT_.out (by kernel_rfl)) (by decide) (fun K hK => ?_)
                        have hs59 : w56.cell? ⟨gb163, 2, none⟩ = some (u164002) := (blk_cell BK163.out 2).trans rfl
                        have hfs59 := blk_frozen BK163.out 2
                        have hns59_0 := NB150_163.out
                        have hns59_1 := NB151_163.out
                        have hms59_0 := NB163_150.out
                        have hms59_1 := NB163_151.out
                        refine skip_ (w1 := ?_) (by rfl) rfl ?_ ?_
                        rotate_left
                        · go_simp
                          rfl
                        refine hK.out _ _ ?_
                        clear hK K
                        refine done_ (done_of HT_.out (by kernel_rfl)) ?_
                        try go_wp2
                        go_roundg k3
                        case measure => have := HK1.out; have := HJ20.out; have := HK3.out; omega
                        case rel => exact ⟨(wrap64 (x9_3 - 1)), (t182), (t183), (y184), (.slice Ao58 y184.length co58), (by first | rfl | (simp; done) | (simp [*]; done)), H', ⟨by have := HK1.out; have := HJ20.out; have := HK3.out; omega⟩, ⟨by (with_reducible repeat (first | apply Kd.R_alloc | apply Kd.R_drewN | apply Kd.R_drew)); exact Kd.R_mono (Kd.R_far (p := ⟨gb163, 2, none⟩) (Kd.R_types HO_164001.out BK163.out (by decide)) (fun _ hk => hk.2) (.slice Ao58 y184.length co58)) (fun _ hk => trivial)⟩, ⟨by (with_reducible repeat (first | apply Kd.S_alloc | apply Kd.S_drewN | apply Kd.S_drew)); exact Kd.S_mono (Kd.S_far (p := ⟨gb163, 2, none⟩) (Kd.S_types HO186.out BK163.out (by decide)) (fun _ hk => hk.2) (.slice Ao58 y184.length co58)) (fun _ hk => trivial)⟩, ⟨by (with_reducible repeat (first | refine blk_drewN ?_ _ | refine blk_drew ?_ | refine blk_alloc ?_ _)); refine blk_far ?_ NB150_163.out _; (with_reducible repeat (first | refine blk_drewN ?_ _ | refine blk_drew ?_ | refine blk_alloc ?_ _)); exact BK150.out⟩, ⟨by (with_reducible repeat (first | refine blk_drewN ?_ _ | refine blk_drew ?_ | refine blk_alloc ?_ _)); refine blk_far ?_ NB151_163.out _; (with_reducible repeat (first | refine blk_drewN ?_ _ | refine blk_drew ?_ | refine blk_alloc ?_ _)); exact BK151.out⟩, ⟨by (with_reducible repeat (first | refine blk_drewN ?_ _ | refine blk_drew ?_ | refine blk_alloc ?_ _)); refine blk_put (cs := #[.int .i64 t160, u164001, u164002]) ?_ 2 _ rfl; (with_reducible repeat (first | refine blk_drewN ?_ _ | refine blk_drew ?_ | refine blk_alloc ?_ _)); exact BK163.out⟩, ⟨by repeat (first | (with_reducible first | exact HI152.out | apply IsS52.alloc | apply IsS52.drewN | apply IsS52.drew | apply IsS52.set_1 | apply IsS52.set_2 | refine IsS52.far ?_ NB152_150.out _ | refine IsS52.far ?_ NB152_151.out _ | refine IsS52.far ?_ NB152_163.out _) | exact HI152.out)⟩, ⟨by repeat (first | (with_reducible first | exact HB.out | apply below_alloc | apply pw_below_drewN | apply below_drew1 | refine below_set ?_ (IsS52.ge HI152.out) | refine below_set ?_ GE150.out | refine below_set ?_ GE151.out | refine below_set ?_ GE163.out) | exact HB.out)⟩⟩
                      · rw [if_neg c52] at H
                        exact absurd H (by simp)
                  · rw [if_neg c42] at H
                    have c42b0 : decide (0 < x9_3) = false := decide_eq_false c42
                    clear c42
                    by_cases c60 : x153002_3 = true
                    · subst c60
                      have H1 : (some (0, ([] : List Int), ([] : List (S44)), 120, x153001_3)) = some (r1, r2, r3, r4, r5) := by rw [if_pos rfl] at H; exact H
                      clear H
                      have H := H1
                      clear H1
                      simp only [Option.some.injEq, Prod.mk.injEq] at H
                      obtain ⟨rfl, rfl, rfl, rfl, rfl⟩ := H
                      obtain ⟨ASz61_0, cSz61_0, HGz61, hgz61, HSz61_0⟩ := HI152.out
                      have hcz61_0 := cellS52_0 HGz61
                      have hcz61_1 := cellS52_1 HGz61
                      have hcz61_2 := cellS52_2 HGz61
                      have hfz61_1 := blk_frozen HGz61 1
                      have hfz61_2 := blk_frozen HGz61 2
                      clear HGz61 hgz61
                      try go_wp2
                      obtain ⟨BA152_0, Bc152_0, BG152, BH152, BS152_0⟩ := HI152.out
                      have BK152 := Aside0.mk BG152
                      have GE152 := Aside0.mk BH152
                      have GW152 := Aside0.mk BH152
                      clear BG152 BH152 HI152 BS152_0
                      have n0_ := Aside0.mk (Kd.R_drew HO_164001.out)
                      have n1_ := Aside0.mk (Kd.S_drew HO_164002.out)
                      have n2_ := Aside0.mk (blk_drew BK150.out)
                      have n3_ := Aside0.mk (blk_drew BK151.out)
                      have n4_ := Aside0.mk (blk_drew BK163.out)
                      have n5_ := Aside0.mk (blk_drew BK152.out)
                      have n6_ := Aside0.mk (below_drew1 HB.out)
                      clear HO_164001
                      clear HO_164002
                      clear BK150
                      clear BK151
                      clear BK163
                      clear BK152
                      clear HB
                      have HO_164001 := n0_
                      have HO_164002 := n1_
                      have BK150 := n2_
                      have BK151 := n3_
                      have BK163 := n4_
                      have BK152 := n5_
                      have HB := n6_
                      clear n0_ n1_ n2_ n3_ n4_ n5_ n6_
                      refine start_ (n := 8) (S := fun w' => w'.cell? ⟨gb152, 0, none⟩ = some (.slice BA152_0 l0.length Bc152_0) ∧ w'.cell? ⟨gb152, 1, none⟩ = some (.int .i64 x153001_3) ∧ w'.cell? ⟨gb152, 2, none⟩ = some (.bool true)) (ds := []) #[false, false, false, false, false, false, false, false] (by kernel_rfl) rfl rfl ⟨(blk_cell BK152.out 0).trans rfl, (blk_cell BK152.out 1).trans rfl, (blk_cell BK152.out 2).trans rfl⟩ (fun hHeld => ?_); refine with_tabW module_Decode.tab19 module_Decode.bits19 (fun HT_ HW_ => ?_)
                      generalize wr.drew = w62 at HO_164001 HO_164002 BK150 BK151 BK163 BK152 HB hHeld ⊢
                      refine pure_ (i := 0) (N := some 88) (v := ?_) (a' := ?_) #[true, false, false, false, false, false, false, false] rfl rfl (any_of HT_.out (by kernel_rfl)) (fun _ _ _ h => h) (Or.inl ⟨by rfl, ?_⟩) ?_ ?_
                      rotate_left
                      · intro w'
                        go_simp
                        with_reducible rfl
                      rotate_left
                      · simp only [Act.put, List.setIfInBounds_toArray, List.set_cons_zero, List.set_cons_succ, i64_w, i32_w]
                        rfl
                      refine pure_ (i := 1) (N := some 89) (v := ?_) (a' := ?_) #[true, true, false, false, false, false, false, false] rfl rfl (any_of HT_.out (by kernel_rfl)) (fun _ _ _ h => h) (Or.inl ⟨by rfl, ?_⟩) ?_ ?_
                      rotate_left
                      · intro w'
                        go_simp
                        with_reducible rfl
                      rotate_left
                      · simp only [Act.put, List.setIfInBounds_toArray, List.set_cons_zero, List.set_cons_succ, i64_w, i32_w]
                        rfl
                      refine pure_ (i := 2) (N := some 90) (v := ?_) (a' := ?_) #[true, true, true, false, false, false, false, false] rfl rfl (any_of HT_.out (by kernel_rfl)) (fun _ _ _ h => h) (Or.inl ⟨by rfl, ?_⟩) ?_ ?_
                      rotate_left
                      · intro w'
                        go_simp
                        with_reducible rfl
                      rotate_left
                      · simp only [Act.put, List.setIfInBounds_toArray, List.set_cons_zero, List.set_cons_succ, i64_w, i32_w]
                        rfl
                      refine pure_ (i := 3) (N := some 91) (v := ?_) (a' := ?_) #[true, true, true, true, false, false, false, false] rfl rfl (any_of HT_.out (by kernel_rfl)) (fun _ _ _ h => h) (Or.inl ⟨by rfl, ?_⟩) ?_ ?_
                      rotate_left
                      · intro w'
                        go_simp
                        with_reducible rfl
                      rotate_left
                      · simp only [Act.put, List.setIfInBounds_toArray, List.set_cons_zero, List.set_cons_succ, i64_w, i32_w]
                        rfl
                      refine take_ (i := 4) (N := some 92) (v := ?_) (a' := ?_) #[true, true, true, true, true, false, false, false] rfl rfl (take_ofW HT_.out HW_.out (by kernel_rfl)) (fun _ _ _ h => h) (Or.inl ⟨by rfl, ?_⟩) hHeld ?_ ?_
                      rotate_left
                      · rintro w' ⟨s0, s1, s2⟩
                        go_simp
                        with_reducible rfl
                      rotate_left
                      · simp only [Act.put, List.setIfInBounds_toArray, List.set_cons_zero, List.set_cons_succ, i64_w, i32_w]
                        rfl
                      refine pure_ (i := 5) (N := some 93) (v := ?_) (a' := ?_) #[true, true, true, true, true, true, false, false] rfl rfl (any_of HT_.out (by kernel_rfl)) (fun _ _ _ h => h) (Or.inl ⟨by rfl, ?_⟩) ?_ ?_
                      rotate_left
                      · intro w'
                        go_simp
                        with_reducible rfl
                      rotate_left
                      · simp only [Act.put, List.setIfInBounds_toArray, List.set_cons_zero, List.set_cons_succ, i64_w, i32_w]
                        rfl
                      refine one_ (i := 6) (N := none) #[true, true, true, true, true, true, true, false] rfl rfl (one_of HT_.out (by kernel_rfl)) (by decide) (fun K hK => ?_)
                      have hs63 : w62.cell? ⟨gb150, 0, none⟩ = some (.int .i64 0) := (blk_cell BK150.out 0).trans rfl
                      have hfs63 := blk_frozen BK150.out 0
                      have hns63_1 := NB151_150.out
                      have hns63_2 := NB163_150.out
                      have hns63_3 := NB152_150.out
                      have hms63_1 := NB150_151.out
                      have hms63_2 := NB150_163.out
                      have hms63_3 := NB150_152.out
                      have hs64 : w62.cell? ⟨gb150, 1, none⟩ = some (.slice none 0 0) := (blk_cell BK150.out 1).trans rfl
                      have hfs64 := blk_frozen BK150.out 1
                      have hns64_1 := NB151_150.out
                      have hns64_2 := NB163_150.out
                      have hns64_3 := NB152_150.out
                      have hms64_1 := NB150_151.out
                      have hms64_2 := NB150_163.out
                      have hms64_3 := NB150_152.out
                      have hs65 : w62.cell? ⟨gb150, 2, none⟩ = some (.slice none 0 0) := (blk_cell BK150.out 2).trans rfl
                      have hfs65 := blk_frozen BK150.out 2
                      have hns65_1 := NB151_150.out
                      have hns65_2 := NB163_150.out
                      have hns65_3 := NB152_150.out
                      have hms65_1 := NB150_151.out
                      have hms65_2 := NB150_163.out
                      have hms65_3 := NB150_152.out
                      refine skip_ (w1 := ?_) (by rfl) rfl ?_ ?_
                      rotate_left
                      · go_simp
                        rfl
                      refine hK.out _ _ ⟨((cell_far (p := ⟨gb150, _, none⟩) NB152_150.out _).trans (((cell_far (p := ⟨gb150, _, none⟩) NB152_150.out _).trans (((cell_far (p := ⟨gb150, _, none⟩) NB152_150.out _).trans (hHeld.1)))))), ((cell_far (p := ⟨gb150, _, none⟩) NB152_150.out _).trans (((cell_far (p := ⟨gb150, _, none⟩) NB152_150.out _).trans (((cell_far (p := ⟨gb150, _, none⟩) NB152_150.out _).trans (hHeld.2.1)))))), ((cell_far (p := ⟨gb150, _, none⟩) NB152_150.out _).trans (((cell_far (p := ⟨gb150, _, none⟩) NB152_150.out _).trans (((cell_far (p := ⟨gb150, _, none⟩) NB152_150.out _).trans (hHeld.2.2))))))⟩ (fun hHeld => ?_)
                      clear hK K
                      refine one_ (i := 7) (N := none) #[true, true, true, true, true, true, true, true] rfl rfl (one_of HT_.out (by kernel_rfl)) (by decide) (fun K hK => ?_)
                      have hs66 : w62.cell? ⟨gb151, 0, none⟩ = some (.int .i64 0) := (blk_cell BK151.out 0).trans rfl
                      have hfs66 := blk_frozen BK151.out 0
                      have hns66_0 := NB150_151.out
                      have hns66_2 := NB163_151.out
                      have hns66_3 := NB152_151.out
                      have hms66_0 := NB151_150.out
                      have hms66_2 := NB151_163.out
                      have hms66_3 := NB151_152.out
                      have hs67 : w62.cell? ⟨gb151, 1, none⟩ = some (.int .i64 0) := (blk_cell BK151.out 1).trans rfl
                      have hfs67 := blk_frozen BK151.out 1
                      have hns67_0 := NB150_151.out
                      have hns67_2 := NB163_151.out
                      have hns67_3 := NB152_151.out
                      have hms67_0 := NB151_150.out
                      have hms67_2 := NB151_163.out
                      have hms67_3 := NB151_152.out
                      refine skip_ (w1 := ?_) (by rfl) rfl ?_ ?_
                      rotate_left
                      · go_simp
                        rfl
                      refine hK.out _ _ ⟨((cell_far (p := ⟨gb151, _, none⟩) NB152_151.out _).trans (((cell_far (p := ⟨gb151, _, none⟩) NB152_151.out _).trans (hHeld.1)))), ((cell_far (p := ⟨gb151, _, none⟩) NB152_151.out _).trans (((cell_far (p := ⟨gb151, _, none⟩) NB152_151.out _).trans (hHeld.2.1)))), ((cell_far (p := ⟨gb151, _, none⟩) NB152_151.out _).trans (((cell_far (p := ⟨gb151, _, none⟩) NB152_151.out _).trans (hHeld.2.2))))⟩ (fun hHeld => ?_)
                      clear hK K
                      refine done_ (done_of HT_.out (by kernel_rfl)) ?_
                      try go_wp2
                      refine bodyPost_ret (results_cc rfl _ _ gb150 gb151 26 29 #[.int .i64 0, .slice none 0 0, .slice none 0 0] #[.int .i64 120, .int .i64 x153001_3] (0, 0) (0, 0) _ _ rfl (by (with_reducible repeat (first | refine blk_drewN ?_ _ | refine blk_drew ?_ | refine blk_alloc ?_ _)); refine blk_far ?_ NB150_151.out _; (with_reducible repeat (first | refine blk_drewN ?_ _ | refine blk_drew ?_ | refine blk_alloc ?_ _)); refine blk_far ?_ NB150_151.out _; (with_reducible repeat (first | refine blk_drewN ?_ _ | refine blk_drew ?_ | refine blk_alloc ?_ _)); refine blk_put (cs := #[.int .i64 0, .slice none 0 0, .slice none 0 0]) ?_ 2 _ rfl; (with_reducible repeat (first | refine blk_drewN ?_ _ | refine blk_drew ?_ | refine blk_alloc ?_ _)); refine blk_put (cs := #[.int .i64 0, .slice none 0 0, .slice none 0 0]) ?_ 1 _ rfl; (with_reducible repeat (first | refine blk_drewN ?_ _ | refine blk_drew ?_ | refine blk_alloc ?_ _)); refine blk_put (cs := #[.int .i64 0, .slice none 0 0, .slice none 0 0]) ?_ 0 _ rfl; (with_reducible repeat (first | refine blk_drewN ?_ _ | refine blk_drew ?_ | refine blk_alloc ?_ _)); exact BK150.out) Try.underlying26 rfl (by kernel_rfl) rfl (by (with_reducible repeat (first | refine blk_drewN ?_ _ | refine blk_drew ?_ | refine blk_alloc ?_ _)); refine blk_put (cs := #[.int .i64 120, .int .i64 0]) ?_ 1 _ rfl; (with_reducible repeat (first | refine blk_drewN ?_ _ | refine blk_drew ?_ | refine blk_alloc ?_ _)); refine blk_put (cs := #[.int .i64 0, .int .i64 0]) ?_ 0 _ rfl; (with_reducible repeat (first | refine blk_drewN ?_ _ | refine blk_drew ?_ | refine blk_alloc ?_ _)); refine blk_far ?_ NB151_150.out _; (with_reducible repeat (first | refine blk_drewN ?_ _ | refine blk_drew ?_ | refine blk_alloc ?_ _)); refine blk_far ?_ NB151_150.out _; (with_reducible repeat (first | refine blk_drewN ?_ _ | refine blk_drew ?_ | refine blk_alloc ?_ _)); refine blk_far ?_ NB151_150.out _; (with_reducible repeat (first | refine blk_drewN ?_ _ | refine blk_drew ?_ | refine blk_alloc ?_ _)); exact BK151.out) Try.underlying29 rfl (by kernel_rfl)) rfl ?_
                      exact ⟨_, _, by first | rfl | (simp [errW_none, errW_some] <;> rfl) | (simp [*, errW_none, errW_some] <;> rfl), by first | exact Kd.R_nil _ _ _ _ _ | exact Kd.N_nil _ _ _ _ _ | exact Kd.V_nil _ _ _ _ _ | exact Kd.Q_nil _ _ _ _ _ | exact Kd.S_nil _ _ _ _ _, by first | exact Kd.S_nil _ _ _ _ _ | exact Kd.N_nil _ _ _ _ _ | exact Kd.V_nil _ _ _ _ _ | exact Kd.Q_nil _ _ _ _ _ | exact Kd.R_nil _ _ _ _ _, by repeat (first | (with_reducible first | exact HB.out | apply below_alloc | apply pw_below_drewN | apply below_drew1 | refine below_set ?_ GE150.out | refine below_set ?_ GE151.out | refine below_set ?_ GE163.out | refine below_set ?_ GE152.out) | exact HB.out)⟩
                    · replace c60 := Bool.eq_false_iff.mpr c60
                      subst c60
                      have H1 : (if x153001_3 < (l0.length : Int) then (some (0, ([] : List Int), ([] : List (S44)), 120, x153001_3)) else (some (t160, x164001_20, x164002_3, 0, 0))) = some (r1, r2, r3, r4, r5) := by rw [if_neg (show ¬ (false = true) by decide)] at H; exact H
                      clear H
                      have H := H1
                      clear H1
                      by_cases c68 : x153001_3 < (l0.length : Int)
                      · rw [if_pos c68] at H
                        have c68b0 : decide (x153001_3 < (l0.length : Int)) = true := decide_eq_true c68
                        clear c68
                        simp only [Option.some.injEq, Prod.mk.injEq] at H
                        obtain ⟨rfl, rfl, rfl, rfl, rfl⟩ := H
                        obtain ⟨ASz69_0, cSz69_0, HGz69, hgz69, HSz69_0⟩ := HI152.out
                        have hcz69_0 := cellS52_0 HGz69
                        have hcz69_1 := cellS52_1 HGz69
                        have hcz69_2 := cellS52_2 HGz69
                        have hfz69_1 := blk_frozen HGz69 1
                        have hfz69_2 := blk_frozen HGz69 2
                        clear HGz69 hgz69
                        try go_wp2
                        obtain ⟨BA152_0, Bc152_0, BG152, BH152, BS152_0⟩ := HI152.out
                        have BK152 := Aside0.mk BG152
                        have GE152 := Aside0.mk BH152
                        have GW152 := Aside0.mk BH152
                        clear BG152 BH152 HI152 BS152_0
                        have n0_ := Aside0.mk (Kd.R_drew HO_164001.out)
                        have n1_ := Aside0.mk (Kd.S_drew HO_164002.out)
                        have n2_ := Aside0.mk (blk_drew BK150.out)
                        have n3_ := Aside0.mk (blk_drew BK151.out)
                        have n4_ := Aside0.mk (blk_drew BK163.out)
                        have n5_ := Aside0.mk (blk_drew BK152.out)
                        have n6_ := Aside0.mk (below_drew1 HB.out)
                        clear HO_164001
                        clear HO_164002
                        clear BK150
                        clear BK151
                        clear BK163
                        clear BK152
                        clear HB
                        have HO_164001 := n0_
                        have HO_164002 := n1_
                        have BK150 := n2_
                        have BK151 := n3_
                        have BK163 := n4_
                        have BK152 := n5_
                        have HB := n6_
                        clear n0_ n1_ n2_ n3_ n4_ n5_ n6_
                        refine start_ (n := 8) (S := fun w' => w'.cell? ⟨gb152, 0, none⟩ = some (.slice BA152_0 l0.length Bc152_0) ∧ w'.cell? ⟨gb152, 1, none⟩ = some (.int .i64 x153001_3) ∧ w'.cell? ⟨gb152, 2, none⟩ = some (.bool false)) (ds := []) #[false, false, false, false, false, false, false, false] (by kernel_rfl) rfl rfl ⟨(blk_cell BK152.out 0).trans rfl, (blk_cell BK152.out 1).trans rfl, (blk_cell BK152.out 2).trans rfl⟩ (fun hHeld => ?_); refine with_tabW module_Decode.tab19 module_Decode.bits19 (fun HT_ HW_ => ?_)
                        generalize wr.drew = w70 at HO_164001 HO_164002 BK150 BK151 BK163 BK152 HB hHeld ⊢
                        refine pure_ (i := 0) (N := some 88) (v := ?_) (a' := ?_) #[true, false, false, false, false, false, false, false] rfl rfl (any_of HT_.out (by kernel_rfl)) (fun _ _ _ h => h) (Or.inl ⟨by rfl, ?_⟩) ?_ ?_
                        rotate_left
                        · intro w'
                          go_simp
                          with_reducible rfl
                        rotate_left
                        · simp only [Act.put, List.setIfInBounds_toArray, List.set_cons_zero, List.set_cons_succ, i64_w, i32_w]
                          rfl
                        refine pure_ (i := 1) (N := some 89) (v := ?_) (a' := ?_) #[true, true, false, false, false, false, false, false] rfl rfl (any_of HT_.out (by kernel_rfl)) (fun _ _ _ h => h) (Or.inl ⟨by rfl, ?_⟩) ?_ ?_
                        rotate_left
                        · intro w'
                          go_simp
                          with_reducible rfl
                        rotate_left
                        · simp only [Act.put, List.setIfInBounds_toArray, List.set_cons_zero, List.set_cons_succ, i64_w, i32_w]
                          rfl
                        refine pure_ (i := 2) (N := some 90) (v := ?_) (a' := ?_) #[true, true, true, false, false, false, false, false] rfl rfl (any_of HT_.out (by kernel_rfl)) (fun _ _ _ h => h) (Or.inl ⟨by rfl, ?_⟩) ?_ ?_
                        rotate_left
                        · intro w'
                          go_simp
                          with_reducible rfl
                        rotate_left
                        · simp only [Act.put, List.setIfInBounds_toArray, List.set_cons_zero, List.set_cons_succ, i64_w, i32_w]
                          rfl
                        refine pure_ (i := 3) (N := some 91) (v := ?_) (a' := ?_) #[true, true, true, true, false, false, false, false] rfl rfl (any_of HT_.out (by kernel_rfl)) (fun _ _ _ h => h) (Or.inl ⟨by rfl, ?_⟩) ?_ ?_
                        rotate_left
                        · intro w'
                          go_simp
                          with_reducible rfl
                        rotate_left
                        · simp only [Act.put, List.setIfInBounds_toArray, List.set_cons_zero, List.set_cons_succ, i64_w, i32_w]
                          rfl
                        refine take_ (i := 4) (N := some 92) (v := ?_) (a' := ?_) #[true, true, true, true, true, false, false, false] rfl rfl (take_ofW HT_.out HW_.out (by kernel_rfl)) (fun _ _ _ h => h) (Or.inl ⟨by rfl, ?_⟩) hHeld ?_ ?_
                        rotate_left
                        · rintro w' ⟨s0, s1, s2⟩
                          go_simp
                          with_reducible rfl
                        rotate_left
                        · simp only [Act.put, List.setIfInBounds_toArray, List.set_cons_zero, List.set_cons_succ, i64_w, i32_w]
                          rfl
                        refine pure_ (i := 5) (N := some 93) (v := ?_) (a' := ?_) #[true, true, true, true, true, true, false, false] rfl rfl (any_of HT_.out (by kernel_rfl)) (fun _ _ _ h => h) (Or.inl ⟨by rfl, ?_⟩) ?_ ?_
                        rotate_left
                        · intro w'
                          go_simp
                          with_reducible rfl
                        rotate_left
                        · simp only [Act.put, List.setIfInBounds_toArray, List.set_cons_zero, List.set_cons_succ, i64_w, i32_w]
                          rfl
                        refine one_ (i := 6) (N := none) #[true, true, true, true, true, true, true, false] rfl rfl (one_of HT_.out (by kernel_rfl)) (by decide) (fun K hK => ?_)
                        have hs71 : w70.cell? ⟨gb150, 0, none⟩ = some (.int .i64 0) := (blk_cell BK150.out 0).trans rfl
                        have hfs71 := blk_frozen BK150.out 0
                        have hns71_1 := NB151_150.out
                        have hns71_2 := NB163_150.out
                        have hns71_3 := NB152_150.out
                        have hms71_1 := NB150_151.out
                        have hms71_2 := NB150_163.out
                        have hms71_3 := NB150_152.out
                        have hs72 : w70.cell? ⟨gb150, 1, none⟩ = some (.slice none 0 0) := (blk_cell BK150.out 1).trans rfl
                        have hfs72 := blk_frozen BK150.out 1
                        have hns72_1 := NB151_150.out
                        have hns72_2 := NB163_150.out
                        have hns72_3 := NB152_150.out
                        have hms72_1 := NB150_151.out
                        have hms72_2 := NB150_163.out
                        have hms72_3 := NB150_152.out
                        have hs73 : w70.cell? ⟨gb150, 2, none⟩ = some (.slice none 0 0) := (blk_cell BK150.out 2).trans rfl
                        have hfs73 := blk_frozen BK150.out 2
                        have hns73_1 := NB151_150.out
                        have hns73_2 := NB163_150.out
                        have hns73_3 := NB152_150.out
                        have hms73_1 := NB150_151.out
                        have hms73_2 := NB150_163.out
                        have hms73_3 := NB150_152.out
                        refine skip_ (w1 := ?_) (by rfl) rfl ?_ ?_
                        rotate_left
                        · go_simp
                          rfl
                        refine hK.out _ _ ⟨((cell_far (p := ⟨gb150, _, none⟩) NB152_150.out _).trans (((cell_far (p := ⟨gb150, _, none⟩) NB152_150.out _).trans (((cell_far (p := ⟨gb150, _, none⟩) NB152_150.out _).trans (hHeld.1)))))), ((cell_far (p := ⟨gb150, _, none⟩) NB152_150.out _).trans (((cell_far (p := ⟨gb150, _, none⟩) NB152_150.out _).trans (((cell_far (p := ⟨gb150, _, none⟩) NB152_150.out _).trans (hHeld.2.1)))))), ((cell_far (p := ⟨gb150, _, none⟩) NB152_150.out _).trans (((cell_far (p := ⟨gb150, _, none⟩) NB152_150.out _).trans (((cell_far (p := ⟨gb150, _, none⟩) NB152_150.out _).trans (hHeld.2.2))))))⟩ (fun hHeld => ?_)
                        clear hK K
                        refine one_ (i := 7) (N := none) #[true, true, true, true, true, true, true, true] rfl rfl (one_of HT_.out (by kernel_rfl)) (by decide) (fun K hK => ?_)
                        have hs74 : w70.cell? ⟨gb151, 0, none⟩ = some (.int .i64 0) := (blk_cell BK151.out 0).trans rfl
                        have hfs74 := blk_frozen BK151.out 0
                        have hns74_0 := NB150_151.out
                        have hns74_2 := NB163_151.out
                        have hns74_3 := NB152_151.out
                        have hms74_0 := NB151_150.out
                        have hms74_2 := NB151_163.out
                        have hms74_3 := NB151_152.out
                        have hs75 : w70.cell? ⟨gb151, 1, none⟩ = some (.int .i64 0) := (blk_cell BK151.out 1).trans rfl
                        have hfs75 := blk_frozen BK151.out 1
                        have hns75_0 := NB150_151.out
                        have hns75_2 := NB163_151.out
                        have hns75_3 := NB152_151.out
                        have hms75_0 := NB151_150.out
                        have hms75_2 := NB151_163.out
                        have hms75_3 := NB151_152.out
                        refine skip_ (w1 := ?_) (by rfl) rfl ?_ ?_
                        rotate_left
                        · go_simp
                          rfl
                        refine hK.out _ _ ⟨((cell_far (p := ⟨gb151, _, none⟩) NB152_151.out _).trans (((cell_far (p := ⟨gb151, _, none⟩) NB152_151.out _).trans (hHeld.1)))), ((cell_far (p := ⟨gb151, _, none⟩) NB152_151.out _).trans (((cell_far (p := ⟨gb151, _, none⟩) NB152_151.out _).trans (hHeld.2.1)))), ((cell_far (p := ⟨gb151, _, none⟩) NB152_151.out _).trans (((cell_far (p := ⟨gb151, _, none⟩) NB152_151.out _).trans (hHeld.2.2))))⟩ (fun hHeld => ?_)
                        clear hK K
                        refine done_ (done_of HT_.out (by kernel_rfl)) ?_
                        try go_wp2
                        refine bodyPost_ret (results_cc rfl _ _ gb150 gb151 26 29 #[.int .i64 0, .slice none 0 0, .slice none 0 0] #[.int .i64 120, .int .i64 x153001_3] (0, 0) (0, 0) _ _ rfl (by (with_reducible repeat (first | refine blk_drewN ?_ _ | refine blk_drew ?_ | refine blk_alloc ?_ _)); refine blk_far ?_ NB150_151.out _; (with_reducible repeat (first | refine blk_drewN ?_ _ | refine blk_drew ?_ | refine blk_alloc ?_ _)); refine blk_far ?_ NB150_151.out _; (with_reducible repeat (first | refine blk_drewN ?_ _ | refine blk_drew ?_ | refine blk_alloc ?_ _)); refine blk_put (cs := #[.int .i64 0, .slice none 0 0, .slice none 0 0]) ?_ 2 _ rfl; (with_reducible repeat (first | refine blk_drewN ?_ _ | refine blk_drew ?_ | refine blk_alloc ?_ _)); refine blk_put (cs := #[.int .i64 0, .slice none 0 0, .slice none 0 0]) ?_ 1 _ rfl; (with_reducible repeat (first | refine blk_drewN ?_ _ | refine blk_drew ?_ | refine blk_alloc ?_ _)); refine blk_put (cs := #[.int .i64 0, .slice none 0 0, .slice none 0 0]) ?_ 0 _ rfl; (with_reducible repeat (first | refine blk_drewN ?_ _ | refine blk_drew ?_ | refine blk_alloc ?_ _)); exact BK150.out) Try.underlying26 rfl (by kernel_rfl) rfl (by (with_reducible repeat (first | refine blk_drewN ?_ _ | refine blk_drew ?_ | refine blk_alloc ?_ _)); refine blk_put (cs := #[.int .i64 120, .int .i64 0]) ?_ 1 _ rfl; (with_reducible repeat (first | refine blk_drewN ?_ _ | refine blk_drew ?_ | refine blk_alloc ?_ _)); refine blk_put (cs := #[.int .i64 0, .int .i64 0]) ?_ 0 _ rfl; (with_reducible repeat (first | refine blk_drewN ?_ _ | refine blk_drew ?_ | refine blk_alloc ?_ _)); refine blk_far ?_ NB151_150.out _; (with_reducible repeat (first | refine blk_drewN ?_ _ | refine blk_drew ?_ | refine blk_alloc ?_ _)); refine blk_far ?_ NB151_150.out _; (with_reducible repeat (first | refine blk_drewN ?_ _ | refine blk_drew ?_ | refine blk_alloc ?_ _)); refine blk_far ?_ NB151_150.out _; (with_reducible repeat (first | refine blk_drewN ?_ _ | refine blk_drew ?_ | refine blk_alloc ?_ _)); exact BK151.out) Try.underlying29 rfl (by kernel_rfl)) rfl ?_
                        exact ⟨_, _, by first | rfl | (simp [errW_none, errW_some] <;> rfl) | (simp [*, errW_none, errW_some] <;> rfl), by first | exact Kd.R_nil _ _ _ _ _ | exact Kd.N_nil _ _ _ _ _ | exact Kd.V_nil _ _ _ _ _ | exact Kd.Q_nil _ _ _ _ _ | exact Kd.S_nil _ _ _ _ _, by first | exact Kd.S_nil _ _ _ _ _ | exact Kd.N_nil _ _ _ _ _ | exact Kd.V_nil _ _ _ _ _ | exact Kd.Q_nil _ _ _ _ _ | exact Kd.R_nil _ _ _ _ _, by repeat (first | (with_reducible first | exact HB.out | apply below_alloc | apply pw_below_drewN | apply below_drew1 | refine below_set ?_ GE150.out | refine below_set ?_ GE151.out | refine below_set ?_ GE163.out | refine below_set ?_ GE152.out) | exact HB.out)⟩
                      · rw [if_neg c68] at H
                        have c68b0 : decide (x153001_3 < (l0.length : Int)) = false := decide_eq_false c68
                        clear c68
                        simp only [Option.some.injEq, Prod.mk.injEq] at H
                        obtain ⟨rfl, rfl, rfl, rfl, rfl⟩ := H
                        obtain ⟨ASz76_0, cSz76_0, HGz76, hgz76, HSz76_0⟩ := HI152.out
                        have hcz76_0 := cellS52_0 HGz76
                        have hcz76_1 := cellS52_1 HGz76
                        have hcz76_2 := cellS52_2 HGz76
                        have hfz76_1 := blk_frozen HGz76 1
                        have hfz76_2 := blk_frozen HGz76 2
                        clear HGz76 hgz76
                        have hnb77 := NB163_150.out
                        have hnc77 := NB150_163.out
                        have hnb78 := NB163_151.out
                        have hnc78 := NB151_163.out
                        have hnb79 := NB163_152.out
                        have hnc79 := NB152_163.out
                        have hcz80_0 : wr.cell? ⟨gb163, 0, none⟩ = some (.int .i64 t160) := (blk_cell BK163.out 0).trans rfl
                        have hcz80_1 : wr.cell? ⟨gb163, 1, none⟩ = some (u164001) := (blk_cell BK163.out 1).trans rfl
                        have hcz80_2 : wr.cell? ⟨gb163, 2, none⟩ = some (u164002) := (blk_cell BK163.out 2).trans rfl
                        have hfz80_0 := blk_frozen BK163.out 0
                        have hfz80_1 := blk_frozen BK163.out 1
                        have hfz80_2 := blk_frozen BK163.out 2
                        have hnb81 := NB150_151.out
                        have hnc81 := NB151_150.out
                        have hnb82 := NB150_152.out
                        have hnc82 := NB152_150.out
                        have hcz83_0 : wr.cell? ⟨gb150, 0, none⟩ = some (.int .i64 0) := (blk_cell BK150.out 0).trans rfl
                        have hcz83_1 : wr.cell? ⟨gb150, 1, none⟩ = some (.slice none 0 0) := (blk_cell BK150.out 1).trans rfl
                        have hcz83_2 : wr.cell? ⟨gb150, 2, none⟩ = some (.slice none 0 0) := (blk_cell BK150.out 2).trans rfl
                        have hfz83_0 := blk_frozen BK150.out 0
                        have hfz83_1 := blk_frozen BK150.out 1
                        have hfz83_2 := blk_frozen BK150.out 2
                        obtain ⟨Ao84, co84, eo84⟩ := Kd.R_slice HO_164001.out
                        subst eo84
                        obtain ⟨Ao85, co85, eo85⟩ := Kd.S_slice HO_164002.out
                        subst eo85
                        have hnb86 := NB151_152.out
                        have hnc86 := NB152_151.out
                        have hcz87_0 : wr.cell? ⟨gb151, 0, none⟩ = some (.int .i64 0) := (blk_cell BK151.out 0).trans rfl
                        have hcz87_1 : wr.cell? ⟨gb151, 1, none⟩ = some (.int .i64 0) := (blk_cell BK151.out 1).trans rfl
                        have hfz87_0 := blk_frozen BK151.out 0
                        have hfz87_1 := blk_frozen BK151.out 1
                        go_wp2
                        refine bodyPost_ret (results_cc rfl _ _ gb150 gb151 26 29 #[.int .i64 t160, .slice Ao84 x164001_20.length co84, .slice Ao85 x164002_3.length co85] #[.int .i64 0, .int .i64 0] (0, 0) (0, 0) _ _ rfl (by (with_reducible repeat (first | refine blk_drewN ?_ _ | refine blk_drew ?_ | refine blk_alloc ?_ _)); refine blk_far ?_ NB150_151.out _; (with_reducible repeat (first | refine blk_drewN ?_ _ | refine blk_drew ?_ | refine blk_alloc ?_ _)); refine blk_far ?_ NB150_151.out _; (with_reducible repeat (first | refine blk_drewN ?_ _ | refine blk_drew ?_ | refine blk_alloc ?_ _)); refine blk_put (cs := #[.int .i64 t160, .slice Ao84 x164001_20.length co84, .slice none 0 0]) ?_ 2 _ rfl; (with_reducible repeat (first | refine blk_drewN ?_ _ | refine blk_drew ?_ | refine blk_alloc ?_ _)); refine blk_put (cs := #[.int .i64 t160, .slice none 0 0, .slice none 0 0]) ?_ 1 _ rfl; (with_reducible repeat (first | refine blk_drewN ?_ _ | refine blk_drew ?_ | refine blk_alloc ?_ _)); refine blk_put (cs := #[.int .i64 0, .slice none 0 0, .slice none 0 0]) ?_ 0 _ rfl; (with_reducible repeat (first | refine blk_drewN ?_ _ | refine blk_drew ?_ | refine blk_alloc ?_ _)); exact BK150.out) Try.underlying26 rfl (by kernel_rfl) rfl (by (with_reducible repeat (first | refine blk_drewN ?_ _ | refine blk_drew ?_ | refine blk_alloc ?_ _)); refine blk_put (cs := #[.int .i64 0, .int .i64 0]) ?_ 1 _ rfl; (with_reducible repeat (first | refine blk_drewN ?_ _ | refine blk_drew ?_ | refine blk_alloc ?_ _)); refine blk_put (cs := #[.int .i64 0, .int .i64 0]) ?_ 0 _ rfl; (with_reducible repeat (first | refine blk_drewN ?_ _ | refine blk_drew ?_ | refine blk_alloc ?_ _)); refine blk_far ?_ NB151_150.out _; (with_reducible repeat (first | refine blk_drewN ?_ _ | refine blk_drew ?_ | refine blk_alloc ?_ _)); refine blk_far ?_ NB151_150.out _; (with_reducible repeat (first | refine blk_drewN ?_ _ | refine blk_drew ?_ | refine blk_alloc ?_ _)); refine blk_far ?_ NB151_150.out _; (with_reducible repeat (first | refine blk_drewN ?_ _ | refine blk_drew ?_ | refine blk_alloc ?_ _)); exact BK151.out) Try.underlying29 rfl (by kernel_rfl)) rfl ?_
                        exact ⟨_, _, by first | rfl | (simp [errW_none, errW_some] <;> rfl) | (simp [*, errW_none, errW_some] <;> rfl), by (with_reducible repeat (first | apply Kd.R_alloc | apply Kd.R_drewN | apply Kd.R_drew)); exact Kd.R_mono (Kd.R_far (p := ⟨gb151, 1, none⟩) (Kd.R_far (p := ⟨gb151, 0, none⟩) (Kd.R_far (p := ⟨gb150, 2, none⟩) (Kd.R_far (p := ⟨gb150, 1, none⟩) (Kd.R_far (p := ⟨gb150, 0, none⟩) (Kd.R_types (Kd.R_types HO_164001.out BK150.out (by decide)) BK151.out (by decide)) (fun _ hk => hk.1.2) (.int .i64 t160)) (fun _ hk => hk.1.2) (.slice Ao84 x164001_20.length co84)) (fun _ hk => hk.1.2) (.slice Ao85 x164002_3.length co85)) (fun _ hk => hk.2) (.int .i64 0)) (fun _ hk => hk.2) (.int .i64 0)) (fun _ hk => trivial), by (with_reducible repeat (first | apply Kd.S_alloc | apply Kd.S_drewN | apply Kd.S_drew)); exact Kd.S_mono (Kd.S_far (p := ⟨gb151, 1, none⟩) (Kd.S_far (p := ⟨gb151, 0, none⟩) (Kd.S_far (p := ⟨gb150, 2, none⟩) (Kd.S_far (p := ⟨gb150, 1, none⟩) (Kd.S_far (p := ⟨gb150, 0, none⟩) (Kd.S_types (Kd.S_types HO_164002.out BK150.out (by decide)) BK151.out (by decide)) (fun _ hk => hk.1.2) (.int .i64 t160)) (fun _ hk => hk.1.2) (.slice Ao84 x164001_20.length co84)) (fun _ hk => hk.1.2) (.slice Ao85 x164002_3.length co85)) (fun _ hk => hk.2) (.int .i64 0)) (fun _ hk => hk.2) (.int .i64 0)) (fun _ hk => trivial), by repeat (first | (with_reducible first | exact HB.out | apply below_alloc | apply pw_below_drewN | apply below_drew1 | refine below_set ?_ (IsS52.ge HI152.out) | refine below_set ?_ GE150.out | refine below_set ?_ GE151.out | refine below_set ?_ GE163.out) | exact HB.out)⟩

end Go.Proofs.Ytbdkphjpdoajpaa.Q
