-- written by a program of this session after the way of the kit's print; not the kit's own print. Lean checks it.
import Derived.Test.YtbdkphjpdoajpaaQx0
import Derived.Test.YtbdkphjpdoajpaaQx6
import Derived.Test.YtbdkphjpdoajpaaQx10
import Derived.Test.YtbdkphjpdoajpaaQx11
namespace Go.Proofs.Ytbdkphjpdoajpaa.Q
open Go.RowKit Go.Proofs.YtbdkphjpdoajpaaW.PrintWords Go.Proofs.YtbdkphjpdoajpaaW.PrintLast Go.Proofs.YtbdkphjpdoajpaaW.PrintMore
attribute [local go_sem] max2_int min2_int max_two min_two max_three min_three max_four min_four   -- for this text's walks alone
set_option linter.unusedVariables false
set_option linter.unusedSimpArgs false

/-! ### module_Encode: function 13 -/
mutual
def module_Encode.l0 : Nat → List Int → List (S44) → Int → Int → Option (List Int × Int)
  | 0, _, _, _, _ => none
  | k + 1, x4, x41, x42, x43 => if x43 < x42 then (if 0 ≤ x43 then (if x43 < (x41.length : Int) then ((some (([((rd_T44 x41 x43).f0) % 256, ((rd_T44 x41 x43).f1) % 256, ((rd_T44 x41 x43).f2) % 256, ((((rd_T44 x41 x43).f3).length : Int)) % 256, ((((rd_T44 x41 x43).f3).length : Int) / 256) % 256] : List Int) : List Int)).bind fun y212 => (if x4.length + y212.length < 140737488355328 then (module_Encode.l1 k (x4 ++ y212) x41 x42 x43 ((rd_T44 x41 x43).f3) (((rd_T44 x41 x43).f3).length : Int) 0) else (none))) else (none)) else (none)) else (if (x4.length : Int) > 4096 then (some (([] : List Int), 2)) else (some (x4, 0)))
def module_Encode.l1 : Nat → List Int → List (S44) → Int → Int → List (S41) → Int → Int → Option (List Int × Int)
  | 0, _, _, _, _, _, _, _ => none
  | k + 1, x4, x41, x42, x43, x69, x70, x71 => if x71 < x70 then (if 0 ≤ x71 then (if x71 < (x69.length : Int) then (if x4.length < 140737488355328 then ((some (x4 ++ [((rd_T41 x69 x71).f0) % 256] : List Int)).bind fun y220 => ((module_Has.f k ((rd_T41 x69 x71).f0)).bind fun t223 => (if t223 = true then ((module_appendNumber.f k y220 ((rd_T41 x69 x71).f1)).bind fun t224 => (module_Encode.l1 k t224 x41 x42 x43 x69 x70 (wrap64 (x71 + 1)))) else (module_Encode.l1 k y220 x41 x42 x43 x69 x70 (wrap64 (x71 + 1)))))) else (none)) else (none)) else (none)) else (module_Encode.l0 k x4 x41 x42 (wrap64 (x43 + 1)))
end
def module_Encode.f (k : Nat) (a0_0 : Int) (l0_1 : List Int) (l0_2 : List (S44)) : Option (List Int × Int) := (module_right.f k a0_0 l0_1 l0_2).bind fun t200 => (if t200 = true then ((some (([67, 83, 77, 1, (a0_0) % 256, (a0_0 / 256) % 256, ((l0_1.length : Int)) % 256, ((l0_1.length : Int) / 256) % 256] : List Int) : List Int)).bind fun y201 => (if y201.length + l0_1.length < 140737488355328 then ((some (y201 ++ l0_1 : List Int)).bind fun y204 => (if y204.length < 140737488355328 then (module_Encode.l0 k (y204 ++ [((l0_2.length : Int)) % 256]) l0_2 (l0_2.length : Int) 0) else (none))) else (none))) else (some (([] : List Int), 1)))
theorem module_Encode.mono_l : ∀ k, (∀ y0 y1 y2 y3, LeO (module_Encode.l0 k y0 y1 y2 y3) (module_Encode.l0 (k + 1) y0 y1 y2 y3)) ∧ (∀ y0 y1 y2 y3 y4 y5 y6, LeO (module_Encode.l1 k y0 y1 y2 y3 y4 y5 y6) (module_Encode.l1 (k + 1) y0 y1 y2 y3 y4 y5 y6))
  | 0 => ⟨fun _ _ _ _ r h => by simp [module_Encode.l0] at h, fun _ _ _ _ _ _ _ r h => by simp [module_Encode.l1] at h⟩
  | k + 1 => by
    obtain ⟨ih0, ih1⟩ := module_Encode.mono_l k
    refine ⟨?_, ?_⟩
    · intro y0 y1 y2 y3
      unfold module_Encode.l0
      repeat' first
      | (with_reducible exact ih0 _ _ _ _)
      | (with_reducible exact ih1 _ _ _ _ _ _ _)
      | (with_reducible exact module_Has.mono _ _)
      | (with_reducible exact module_appendNumber.mono _ _ _)
      | (with_reducible exact module_right.mono _ _ _ _)
      | (with_reducible exact LeO.refl _)
      | (with_reducible exact LeO.none _)
      | (with_reducible refine LeO.ite ?_ ?_)
      | (with_reducible refine LeO.bind ?_ (fun _ => ?_))
      | exact ih0 _ _ _ _
      | exact ih1 _ _ _ _ _ _ _
      | exact module_Has.mono _ _
      | exact module_appendNumber.mono _ _ _
      | exact module_right.mono _ _ _ _
      | exact LeO.none _
      | refine LeO.ite ?_ ?_
      | refine LeO.bind ?_ (fun _ => ?_)
    · intro y0 y1 y2 y3 y4 y5 y6
      unfold module_Encode.l1
      repeat' first
      | (with_reducible exact ih0 _ _ _ _)
      | (with_reducible exact ih1 _ _ _ _ _ _ _)
      | (with_reducible exact module_Has.mono _ _)
      | (with_reducible exact module_appendNumber.mono _ _ _)
      | (with_reducible exact module_right.mono _ _ _ _)
      | (with_reducible exact LeO.refl _)
      | (with_reducible exact LeO.none _)
      | (with_reducible refine LeO.ite ?_ ?_)
      | (with_reducible refine LeO.bind ?_ (fun _ => ?_))
      | exact ih0 _ _ _ _
      | exact ih1 _ _ _ _ _ _ _
      | exact module_Has.mono _ _
      | exact module_appendNumber.mono _ _ _
      | exact module_right.mono _ _ _ _
      | exact LeO.none _
      | refine LeO.ite ?_ ?_
      | refine LeO.bind ?_ (fun _ => ?_)
theorem module_Encode.mono : ∀ a0 a1 a2 k, LeO (module_Encode.f k a0 a1 a2) (module_Encode.f (k + 1) a0 a1 a2) := by
  intro a0 a1 a2 k
  obtain ⟨ih0, ih1⟩ := module_Encode.mono_l k
  unfold module_Encode.f
  repeat' first
      | (with_reducible exact ih0 _ _ _ _)
      | (with_reducible exact ih1 _ _ _ _ _ _ _)
      | (with_reducible exact module_Has.mono _ _)
      | (with_reducible exact module_appendNumber.mono _ _ _)
      | (with_reducible exact module_right.mono _ _ _ _)
      | (with_reducible exact LeO.refl _)
      | (with_reducible exact LeO.none _)
      | (with_reducible refine LeO.ite ?_ ?_)
      | (with_reducible refine LeO.bind ?_ (fun _ => ?_))
      | exact ih0 _ _ _ _
      | exact ih1 _ _ _ _ _ _ _
      | exact module_Has.mono _ _
      | exact module_appendNumber.mono _ _ _
      | exact module_right.mono _ _ _ _
      | exact LeO.none _
      | refine LeO.ite ?_ ?_
      | refine LeO.bind ?_ (fun _ => ?_)
set_option maxHeartbeats 8000000 in
set_option maxRecDepth 100000 in
theorem module_Encode.calls (k : Nat) (a0_0 : Int) (A0_1 : Option Addr) (c0_1 : Nat) (l0_1 : List Int) (A0_2 : Option Addr) (c0_2 : Nat) (l0_2 : List (S44)) (r1 : List Int) (r2 : Int) (w : World) (hr0_1 : Kd.C (Kd.int .u8) w A0_1 l0_1.length l0_1) (hc0_1 : l0_1.length ≤ c0_1) (hr0_2 : Kd.C k44 w A0_2 l0_2.length l0_2) (hc0_2 : l0_2.length ≤ c0_2) (h : module_Encode.f k a0_0 l0_1 l0_2 = some (r1, r2)) :
    Calls Try.prog 13 #[.agg #[.int .i64 a0_0, .slice A0_1 l0_1.length c0_1, .slice A0_2 l0_2.length c0_2]] w fun e w' => ∃ v0_ : Value, e = .returned (.tuple #[v0_, .int .i64 r2]) ∧ Kd.R (Kd.int .u8) 5 w' w.heap.size (fun _ => True) v0_ r1 ∧ Below w.heap.size w w' := by
  have hu26 := Try.underlying26
  have hu44 := Try.underlying44
  have hu41 := Try.underlying41
  have HR0_1 := Aside0.mk hr0_1
  have HC0_1 := Aside0.mk hc0_1
  clear hr0_1 hc0_1
  have HR0_2 := Aside0.mk hr0_2
  have HC0_2 := Aside0.mk hc0_2
  clear hr0_2 hc0_2
  have HB := Aside0.mk (Below.refl w.heap.size w)
  have H : ((module_right.f k a0_0 l0_1 l0_2).bind fun t200 => (if t200 = true then ((some (([67, 83, 77, 1, (a0_0) % 256, (a0_0 / 256) % 256, ((l0_1.length : Int)) % 256, ((l0_1.length : Int) / 256) % 256] : List Int) : List Int)).bind fun y201 => (if y201.length + l0_1.length < 140737488355328 then ((some (y201 ++ l0_1 : List Int)).bind fun y204 => (if y204.length < 140737488355328 then (module_Encode.l0 k (y204 ++ [((l0_2.length : Int)) % 256]) l0_2 (l0_2.length : Int) 0) else (none))) else (none))) else (some (([] : List Int), 1)))) = some (r1, r2) := h
  clear h
  replace H := Option.bind_eq_some_iff.mp H
  obtain ⟨t200, A20, H⟩ := H
  replace H : (if t200 = true then ((some (([67, 83, 77, 1, (a0_0) % 256, (a0_0 / 256) % 256, ((l0_1.length : Int)) % 256, ((l0_1.length : Int) / 256) % 256] : List Int) : List Int)).bind fun y201 => (if y201.length + l0_1.length < 140737488355328 then ((some (y201 ++ l0_1 : List Int)).bind fun y204 => (if y204.length < 140737488355328 then (module_Encode.l0 k (y204 ++ [((l0_2.length : Int)) % 256]) l0_2 (l0_2.length : Int) 0) else (none))) else (none))) else (some (([] : List Int), 1))) = some (r1, r2) := H
  have A2 := Aside0.mk A20
  clear A20
  by_cases c3 : t200 = true
  · subst c3
    have H1 : ((some (([67, 83, 77, 1, (a0_0) % 256, (a0_0 / 256) % 256, ((l0_1.length : Int)) % 256, ((l0_1.length : Int) / 256) % 256] : List Int) : List Int)).bind fun y201 => (if y201.length + l0_1.length < 140737488355328 then ((some (y201 ++ l0_1 : List Int)).bind fun y204 => (if y204.length < 140737488355328 then (module_Encode.l0 k (y204 ++ [((l0_2.length : Int)) % 256]) l0_2 (l0_2.length : Int) 0) else (none))) else (none))) = some (r1, r2) := by rw [if_pos rfl] at H; exact H
    clear H
    have H := H1
    clear H1
    obtain ⟨y201, hy201⟩ : ∃ y_ : List Int, y_ = (([67, 83, 77, 1, (a0_0) % 256, (a0_0 / 256) % 256, ((l0_1.length : Int)) % 256, ((l0_1.length : Int) / 256) % 256] : List Int)) := ⟨_, rfl⟩
    replace H : (if y201.length + l0_1.length < 140737488355328 then ((some (y201 ++ l0_1 : List Int)).bind fun y204 => (if y204.length < 140737488355328 then (module_Encode.l0 k (y204 ++ [((l0_2.length : Int)) % 256]) l0_2 (l0_2.length : Int) 0) else (none))) else (none)) = some (r1, r2) := by first | (rw [hy201]; with_reducible exact H) | (have H2_ := (Option.bind_some _ _).symm.trans H; rw [hy201]; with_reducible exact H2_) | (have H2_ := (Option.bind_some _ _).symm.trans H; with_reducible exact H2_) | with_reducible exact H | (rw [hy201]; exact H) | exact H
    have Ny201 := Aside0.mk hy201
    clear hy201
    by_cases c4 : y201.length + l0_1.length < 140737488355328
    · rw [if_pos c4] at H
      have LMc4 := Aside0.mk c4
      clear c4
      obtain ⟨y204, hy204⟩ : ∃ y_ : List Int, y_ = (y201 ++ l0_1) := ⟨_, rfl⟩
      replace H : (if y204.length < 140737488355328 then (module_Encode.l0 k (y204 ++ [((l0_2.length : Int)) % 256]) l0_2 (l0_2.length : Int) 0) else (none)) = some (r1, r2) := by first | (rw [hy204]; with_reducible exact H) | (have H2_ := (Option.bind_some _ _).symm.trans H; rw [hy204]; with_reducible exact H2_) | (have H2_ := (Option.bind_some _ _).symm.trans H; with_reducible exact H2_) | with_reducible exact H | (rw [hy204]; exact H) | exact H
      have Ny204 := Aside0.mk hy204
      clear hy204
      by_cases c5 : y204.length < 140737488355328
      · rw [if_pos c5] at H
        have LMc5 := Aside0.mk c5
        clear c5
        obtain ⟨y207, hy207⟩ : ∃ y_ : List Int, y_ = (y204 ++ [((l0_2.length : Int)) % 256]) := ⟨_, rfl⟩
        replace H : (module_Encode.l0 k y207 l0_2 (l0_2.length : Int) 0) = some (r1, r2) := by first | (rw [hy207]; with_reducible exact H) | (have H2_ := (Option.bind_some _ _).symm.trans H; rw [hy207]; with_reducible exact H2_) | (have H2_ := (Option.bind_some _ _).symm.trans H; with_reducible exact H2_) | with_reducible exact H | (rw [hy207]; exact H) | exact H
        have Ny207 := Aside0.mk hy207
        clear hy207
        have H' := Aside0.mk H
        clear H
        go_enter Try.func13, Try.ntmps13
        go_wp2_with (first | ((with_reducible refine gate_dst (N := 1) rfl ?_); refine box_event ?hg (N := 1) ?hd (cs := #[.int .i64 a0_0, .slice A0_1 l0_1.length c0_1, .slice A0_2 l0_2.length c0_2]) (t := 26) ?hr ?_; (case hd => rfl); (case hg => rfl); (case hr => first | (go_simp; done) | (go_simp; rfl)); intro gb199 hg w6 hbox hb; have n0_ := Aside0.mk (below_step (by repeat (first | (with_reducible first | exact HB.out | apply below_alloc | apply pw_below_drewN | apply below_drew1) | exact HB.out)) hb); have n1_ := Aside0.mk (hbox); have n2_ := Aside0.mk ((by rw [hg]; exact (below_size (by repeat (first | (with_reducible first | exact HB.out | apply below_alloc | apply pw_below_drewN | apply below_drew1) | exact HB.out))) : w.heap.size ≤ gb199)); have n3_ := Aside0.mk ((by rw [hg]; exact (below_size (by repeat (first | (with_reducible first | exact HB.out | apply below_alloc | apply pw_below_drewN | apply below_drew1) | exact HB.out))) : w.heap.size ≤ gb199)); clear HB; have HB := n0_; have BK199 := n1_; have GW199 := n2_; have GE199 := n3_; clear n0_ n1_ n2_ n3_; clear hb hbox hg; have hcz7_0 : w6.cell? ⟨gb199, 0, none⟩ = some (.int .i64 a0_0) := (blk_cell BK199.out 0).trans rfl; have hcz7_1 : w6.cell? ⟨gb199, 1, none⟩ = some (.slice A0_1 l0_1.length c0_1) := (blk_cell BK199.out 1).trans rfl; have hcz7_2 : w6.cell? ⟨gb199, 2, none⟩ = some (.slice A0_2 l0_2.length c0_2) := (blk_cell BK199.out 2).trans rfl; have hfz7_0 := blk_frozen BK199.out 0; have hfz7_1 := blk_frozen BK199.out 1; have hfz7_2 := blk_frozen BK199.out 2) | ((with_reducible refine gate_callee (f := 23) rfl ?_); refine goesL_ (some 10) rfl rfl Try.func23 (by kernel_rfl) rfl #[.agg #[.int .i64 a0_0, .slice A0_1 l0_1.length c0_1, .slice A0_2 l0_2.length c0_2]] rfl (by (try simp only [List.map_toArray, List.map_cons, List.map_nil]); first | done | rfl | (simp only [List.length_drop, List.length_take]; rfl)) ?_; (with_reducible refine (module_right.calls k a0_0 _ _ l0_1 _ _ l0_2 true _ ?side1 ?side2 ?side3 ?side4 A2.out).mono ?_); (case side1 => repeat (first | exact (Kd.C_below HR0_1.out HB.out) | (with_reducible refine Kd.C_alloc ?_ _) | (with_reducible refine Kd.C_drewN ?_ _) | (with_reducible refine Kd.C_drew ?_))); (case side2 => exact HC0_1.out); (case side3 => repeat (first | exact (Kd.C_below HR0_2.out HB.out) | (with_reducible refine Kd.C_alloc ?_ _) | (with_reducible refine Kd.C_drewN ?_ _) | (with_reducible refine Kd.C_drew ?_))); (case side4 => exact HC0_2.out); rintro e w8 ⟨rfl, hb⟩; refine ⟨_, rfl, ?_⟩; have n0_ := Aside0.mk (blk_below (g := gb199) (o := .cells #[.int .i64 a0_0, .slice A0_1 l0_1.length c0_1, .slice A0_2 l0_2.length c0_2] 26 (0, 0)) (by (with_reducible repeat (first | refine blk_drewN ?_ _ | refine blk_drew ?_ | refine blk_alloc ?_ _)); exact BK199.out) hb); have n1_ := Aside0.mk (below_step (by repeat (first | (with_reducible first | exact HB.out | apply below_alloc | apply pw_below_drewN | apply below_drew1 | refine below_set ?_ GE199.out) | exact HB.out)) hb); clear BK199; clear HB; have BK199 := n0_; have HB := n1_; clear n0_ n1_; (try clear hb); (try clear hb2); (try clear hk); (try clear hi); have hcz9_0 : w8.cell? ⟨gb199, 0, none⟩ = some (.int .i64 a0_0) := (blk_cell BK199.out 0).trans rfl; have hcz9_1 : w8.cell? ⟨gb199, 1, none⟩ = some (.slice A0_1 l0_1.length c0_1) := (blk_cell BK199.out 1).trans rfl; have hcz9_2 : w8.cell? ⟨gb199, 2, none⟩ = some (.slice A0_2 l0_2.length c0_2) := (blk_cell BK199.out 2).trans rfl; have hfz9_0 := blk_frozen BK199.out 0; have hfz9_1 := blk_frozen BK199.out 1; have hfz9_2 := blk_frozen BK199.out 2) | ((with_reducible refine gate_dst (N := 28) rfl ?_); refine Kd.R_lit (Kd.int .u8) _ 5 ?hg (N := 28) ?hd (xs := ([67, 83, 77, 1, (a0_0) % 256, (a0_0 / 256) % 256, ((l0_1.length : Int)) % 256, ((l0_1.length : Int) / 256) % 256] : List Int)) (inner := [.int .u8 67, .int .u8 83, .int .u8 77, .int .u8 1, .int .u8 ((a0_0) % 256), .int .u8 ((a0_0 / 256) % 256), .int .u8 (((l0_1.length : Int)) % 256), .int .u8 (((l0_1.length : Int) / 256) % 256)]) (ok := fun _ => True) (okp := fun _ => True) ?hr ?hp (fun _ hk => hk) trivial (Below.refl _ _) (Nat.le_refl _) (by simp) ?_; (case hd => rfl); (case hg => rfl); (case hr => first | (go_simp; done) | (go_simp; rfl)); (case hp => exact (Reps.one (show Kd.M (Kd.int .u8) _ _ _ 67 [.int .u8 67] from rfl) (Reps.one (show Kd.M (Kd.int .u8) _ _ _ 83 [.int .u8 83] from rfl) (Reps.one (show Kd.M (Kd.int .u8) _ _ _ 77 [.int .u8 77] from rfl) (Reps.one (show Kd.M (Kd.int .u8) _ _ _ 1 [.int .u8 1] from rfl) (Reps.one (show Kd.M (Kd.int .u8) _ _ _ ((a0_0) % 256) [.int .u8 ((a0_0) % 256)] from rfl) (Reps.one (show Kd.M (Kd.int .u8) _ _ _ ((a0_0 / 256) % 256) [.int .u8 ((a0_0 / 256) % 256)] from rfl) (Reps.one (show Kd.M (Kd.int .u8) _ _ _ (((l0_1.length : Int)) % 256) [.int .u8 (((l0_1.length : Int)) % 256)] from rfl) (Reps.one (show Kd.M (Kd.int .u8) _ _ _ (((l0_1.length : Int) / 256) % 256) [.int .u8 (((l0_1.length : Int) / 256) % 256)] from rfl) (Reps.none _ _)))))))))); intro v202 w10 ho11 hb hg_ hnew_; clear hg_ hnew_; (first | rw [← Ny201.out] at ho11 | (simp only [Int.reduceToNat] at ho11; rw [← Ny201.out] at ho11)); have n0_ := Aside0.mk (Kd.R_lower ho11 (below_size (by repeat (first | (with_reducible first | exact HB.out | apply below_alloc | apply pw_below_drewN | apply below_drew1 | refine below_set ?_ GE199.out) | exact HB.out)))); have n1_ := Aside0.mk (blk_below (g := gb199) (o := .cells #[.int .i64 a0_0, .slice A0_1 l0_1.length c0_1, .slice A0_2 l0_2.length c0_2] 26 (0, 0)) (by (with_reducible repeat (first | refine blk_drewN ?_ _ | refine blk_drew ?_ | refine blk_alloc ?_ _)); exact BK199.out) hb); have n2_ := Aside0.mk (below_step (by repeat (first | (with_reducible first | exact HB.out | apply below_alloc | apply pw_below_drewN | apply below_drew1 | refine below_set ?_ GE199.out) | exact HB.out)) hb); clear BK199; clear HB; have HO203 := n0_; have BK199 := n1_; have HB := n2_; clear n0_ n1_ n2_; clear hb ho11; have hcz12_0 : w10.cell? ⟨gb199, 0, none⟩ = some (.int .i64 a0_0) := (blk_cell BK199.out 0).trans rfl; have hcz12_1 : w10.cell? ⟨gb199, 1, none⟩ = some (.slice A0_1 l0_1.length c0_1) := (blk_cell BK199.out 1).trans rfl; have hcz12_2 : w10.cell? ⟨gb199, 2, none⟩ = some (.slice A0_2 l0_2.length c0_2) := (blk_cell BK199.out 2).trans rfl; have hfz12_0 := blk_frozen BK199.out 0; have hfz12_1 := blk_frozen BK199.out 1; have hfz12_2 := blk_frozen BK199.out 2) | ((with_reducible refine gate_builtin (b := .append) (xs := #[.tmp 29, .tmp 31]) rfl ?_); at_builtin; refine Kd.R_append_rows (Kd.int .u8) (w0 := w) w.heap.size rfl (.tmp 29) (.tmp 31) 22 5 (.int .u8 0) 1 rfl Try.underlying22 info5 rfl (by decide) (by omega) v202 y201 l0_1 _ _ _ (fun _ => True) (fun _ => False) rfl rfl ?aO ?aR (fun _ _ h => h) (fun _ h => h.elim) ?aF ?aB ?aS ?aL ?_; (case aR => repeat (first | exact (Kd.C_below HR0_1.out HB.out) | (with_reducible refine Kd.C_alloc ?_ _) | (with_reducible refine Kd.C_drewN ?_ _) | (with_reducible refine Kd.C_drew ?_))); (case aB => exact (by repeat (first | (with_reducible first | exact HB.out | apply below_alloc | apply pw_below_drewN | apply below_drew1 | refine below_set ?_ GE199.out) | exact HB.out))); (case aF => exact (fun _ _ => trivial)); (case aO => exact (by (with_reducible repeat (first | apply Kd.R_alloc | apply Kd.R_drewN | apply Kd.R_drew)); exact HO203.out)); (case aS => exact (below_size (by repeat (first | (with_reducible first | exact HB.out | apply below_alloc | apply pw_below_drewN | apply below_drew1 | refine below_set ?_ GE199.out) | exact HB.out)))); (case aL => have := LMc4.out; omega); intro v205 w13 ho hb hg hat; rw [← Ny204.out] at ho; have n0_ := Aside0.mk (blk_grown (g := gb199) (o := .cells #[.int .i64 a0_0, .slice A0_1 l0_1.length c0_1, .slice A0_2 l0_2.length c0_2] 26 (0, 0)) (by (with_reducible repeat (first | refine blk_drewN ?_ _ | refine blk_drew ?_ | refine blk_alloc ?_ _)); exact BK199.out) hg (Kd.R_ne HO203.out BK199.out (by decide))); have n1_ := Aside0.mk (hb); have n2_ := Aside0.mk (ho); clear BK199; clear HB; clear HO203; have BK199 := n0_; have HB := n1_; have HO206 := n2_; clear n0_ n1_ n2_; clear ho hb hg hat; have hcz14_0 : w13.cell? ⟨gb199, 0, none⟩ = some (.int .i64 a0_0) := (blk_cell BK199.out 0).trans rfl; have hcz14_1 : w13.cell? ⟨gb199, 1, none⟩ = some (.slice A0_1 l0_1.length c0_1) := (blk_cell BK199.out 1).trans rfl; have hcz14_2 : w13.cell? ⟨gb199, 2, none⟩ = some (.slice A0_2 l0_2.length c0_2) := (blk_cell BK199.out 2).trans rfl; have hfz14_0 := blk_frozen BK199.out 0; have hfz14_1 := blk_frozen BK199.out 1; have hfz14_2 := blk_frozen BK199.out 2) | ((with_reducible refine gate_builtin (b := .append) (xs := #[.tmp 33, .tmp 38]) rfl ?_); at_builtin; refine Kd.R_append (Kd.int .u8) (w0 := w) w.heap.size rfl (.tmp 33) (.tmp 38) 22 5 (.int .u8 0) 1 rfl Try.underlying22 info5 rfl (by decide) (by omega) v205 y204 (((l0_2.length : Int)) % 256) [.int .u8 (((l0_2.length : Int)) % 256)] (fun _ => True) (fun _ => False) rfl rfl ?aP (fun _ hk => hk.elim) ?aF ?aO ?aB ?aS ?aL ?_; (case aP => exact rfl); (case aB => exact (by repeat (first | (with_reducible first | exact HB.out | apply below_alloc | apply pw_below_drewN | apply below_drew1 | refine below_set ?_ GE199.out) | exact HB.out))); (case aF => exact (fun _ _ => trivial)); (case aO => exact (by (with_reducible repeat (first | apply Kd.R_alloc | apply Kd.R_drewN | apply Kd.R_drew)); exact HO206.out)); (case aS => exact (below_size (by repeat (first | (with_reducible first | exact HB.out | apply below_alloc | apply pw_below_drewN | apply below_drew1 | refine below_set ?_ GE199.out) | exact HB.out)))); (case aL => have := LMc5.out; omega); intro v208 w15 ho hb hg hat; rw [← Ny207.out] at ho; have n0_ := Aside0.mk (blk_grown (g := gb199) (o := .cells #[.int .i64 a0_0, .slice A0_1 l0_1.length c0_1, .slice A0_2 l0_2.length c0_2] 26 (0, 0)) (by (with_reducible repeat (first | refine blk_drewN ?_ _ | refine blk_drew ?_ | refine blk_alloc ?_ _)); exact BK199.out) hg (Kd.R_ne HO206.out BK199.out (by decide))); have n1_ := Aside0.mk (hb); have n2_ := Aside0.mk (ho); clear BK199; clear HB; clear HO206; have BK199 := n0_; have HB := n1_; have HO209 := n2_; clear n0_ n1_ n2_; clear ho hb hg hat; have hcz16_0 : w15.cell? ⟨gb199, 0, none⟩ = some (.int .i64 a0_0) := (blk_cell BK199.out 0).trans rfl; have hcz16_1 : w15.cell? ⟨gb199, 1, none⟩ = some (.slice A0_1 l0_1.length c0_1) := (blk_cell BK199.out 1).trans rfl; have hcz16_2 : w15.cell? ⟨gb199, 2, none⟩ = some (.slice A0_2 l0_2.length c0_2) := (blk_cell BK199.out 2).trans rfl; have hfz16_0 := blk_frozen BK199.out 0; have hfz16_1 := blk_frozen BK199.out 1; have hfz16_2 := blk_frozen BK199.out 2))
        go_loopg [4, 43] k (fun kq v4 v43 w' => ∃ (x4_1 : List Int) (x43_1 : Int), v43 = .int .i64 x43_1 ∧ Aside0 (module_Encode.l0 kq x4_1 l0_2 (l0_2.length : Int) x43_1 = some (r1, r2)) ∧ Aside0 (kq ≤ k) ∧ Aside0 (Kd.R (Kd.int .u8) 5 w' w.heap.size (fun _ => True) v4 x4_1) ∧ Aside0 (w'.heap[gb199]? = some (.cells #[.int .i64 a0_0, (.slice A0_1 l0_1.length c0_1), (.slice A0_2 l0_2.length c0_2)] 26 (0, 0))) ∧ Aside0 (Below w.heap.size w w'))
        case atStart => exact ⟨(y207), (0), (by first | rfl | (simp; done) | (simp [*]; done)), H', ⟨Nat.le_refl _⟩, ⟨by (with_reducible repeat (first | apply Kd.R_alloc | apply Kd.R_drewN | apply Kd.R_drew)); exact HO209.out⟩, ⟨by (with_reducible repeat (first | refine blk_drewN ?_ _ | refine blk_drew ?_ | refine blk_alloc ?_ _)); exact BK199.out⟩, ⟨by repeat (first | (with_reducible first | exact HB.out | apply below_alloc | apply pw_below_drewN | apply below_drew1 | refine below_set ?_ GE199.out) | exact HB.out)⟩⟩
        case round =>
          clear H'
          try clear c1
          try clear c2
          try clear p2
          try clear c3
          try clear c4
          try clear c5
          try clear c13
          try clear hcz12_0
          try clear hcz12_1
          try clear hcz12_2
          try clear hcz14_0
          try clear hcz14_1
          try clear hcz14_2
          try clear hcz16_0
          try clear hcz16_1
          try clear hcz16_2
          try clear hcz7_0
          try clear hcz7_1
          try clear hcz7_2
          try clear hcz9_0
          try clear hcz9_1
          try clear hcz9_2
          try clear hfz12_0
          try clear hfz12_1
          try clear hfz12_2
          try clear hfz14_0
          try clear hfz14_1
          try clear hfz14_2
          try clear hfz16_0
          try clear hfz16_1
          try clear hfz16_2
          try clear hfz7_0
          try clear hfz7_1
          try clear hfz7_2
          try clear hfz9_0
          try clear hfz9_1
          try clear hfz9_2
          obtain ⟨x4_1, x43_1, rfl, HA, HK1, HO_4, BK199, HB⟩ := hrel
          cases gk with
          | zero => exact absurd HA.out (by simp [module_Encode.l0])
          | succ k1 =>
            have H := HA.out
            clear HA
            simp only [module_Encode.l0] at H
            by_cases c17 : x43_1 < (l0_2.length : Int)
            · rw [if_pos c17] at H
              have c17b0 : decide (x43_1 < (l0_2.length : Int)) = true := decide_eq_true c17
              clear c17
              by_cases c18 : 0 ≤ x43_1
              · rw [if_pos c18] at H
                have c18b0 : decide (0 ≤ x43_1) = true := decide_eq_true c18
                clear c18
                by_cases c19 : x43_1 < (l0_2.length : Int)
                · rw [if_pos c19] at H
                  have c19b0 : decide (x43_1 < (l0_2.length : Int)) = true := decide_eq_true c19
                  clear c19
                  obtain ⟨y212, hy212⟩ : ∃ y_ : List Int, y_ = (([((rd_T44 l0_2 x43_1).f0) % 256, ((rd_T44 l0_2 x43_1).f1) % 256, ((rd_T44 l0_2 x43_1).f2) % 256, ((((rd_T44 l0_2 x43_1).f3).length : Int)) % 256, ((((rd_T44 l0_2 x43_1).f3).length : Int) / 256) % 256] : List Int)) := ⟨_, rfl⟩
                  replace H : (if x4_1.length + y212.length < 140737488355328 then (module_Encode.l1 k1 (x4_1 ++ y212) l0_2 (l0_2.length : Int) x43_1 ((rd_T44 l0_2 x43_1).f3) (((rd_T44 l0_2 x43_1).f3).length : Int) 0) else (none)) = some (r1, r2) := by first | (rw [hy212]; with_reducible exact H) | (have H2_ := (Option.bind_some _ _).symm.trans H; rw [hy212]; with_reducible exact H2_) | (have H2_ := (Option.bind_some _ _).symm.trans H; with_reducible exact H2_) | with_reducible exact H | (rw [hy212]; exact H) | exact H
                  have Ny212 := Aside0.mk hy212
                  clear hy212
                  by_cases c20 : x4_1.length + y212.length < 140737488355328
                  · rw [if_pos c20] at H
                    have LMc20 := Aside0.mk c20
                    clear c20
                    obtain ⟨y215, hy215⟩ : ∃ y_ : List Int, y_ = (x4_1 ++ y212) := ⟨_, rfl⟩
                    replace H : (module_Encode.l1 k1 y215 l0_2 (l0_2.length : Int) x43_1 ((rd_T44 l0_2 x43_1).f3) (((rd_T44 l0_2 x43_1).f3).length : Int) 0) = some (r1, r2) := by first | (rw [hy215]; with_reducible exact H) | (have H2_ := (Option.bind_some _ _).symm.trans H; rw [hy215]; with_reducible exact H2_) | (have H2_ := (Option.bind_some _ _).symm.trans H; with_reducible exact H2_) | with_reducible exact H | (rw [hy215]; exact H) | exact H
                    have Ny215 := Aside0.mk hy215
                    clear hy215
                    have H' := Aside0.mk H
                    clear H
                    have p210 : 0 ≤ (x43_1 : Int) := of_decide_eq_true (by first | (with_reducible assumption) | assumption)
                    have q210 : x43_1 < (l0_2.length : Int) := of_decide_eq_true (by first | (with_reducible assumption) | assumption)
                    obtain ⟨ad210, A210_3, c210_3, e210, hx210_0, hx210_1, hx210_2, hx210_3, hl210_3, hi210_3⟩ := at_T44 HR0_2.out x43_1 p210 q210
                    cases e210
                    replace hx210_0 := (HB.out.cell (World.block_lt_of_cell? w _ hx210_0)).trans hx210_0
                    replace hx210_1 := (HB.out.cell (World.block_lt_of_cell? w _ hx210_1)).trans hx210_1
                    replace hx210_2 := (HB.out.cell (World.block_lt_of_cell? w _ hx210_2)).trans hx210_2
                    replace hx210_3 := (HB.out.cell (World.block_lt_of_cell? w _ hx210_3)).trans hx210_3
                    have HR210_3 := Aside0.mk hi210_3
                    have HC210_3 := Aside0.mk hl210_3
                    clear hi210_3 hl210_3
                    replace p210 := eq_true p210
                    replace q210 := eq_true q210
                    go_wp2_with (first | ((with_reducible refine gate_dst (N := 6) rfl ?_); refine box_event ?hg (N := 6) ?hd (cs := #[.int .i64 0, .int .i64 0, .int .i64 0, .slice none 0 0]) (t := 44) ?hr ?_; (case hd => rfl); (case hg => rfl); (case hr => first | (go_simp; done) | (go_simp; rfl)); intro gb211 hg w21 hbox hb; have n0_ := Aside0.mk (Kd.R_below (by (with_reducible repeat (first | apply Kd.R_alloc | apply Kd.R_drewN | apply Kd.R_drew)); exact HO_4.out) hb); have n1_ := Aside0.mk (blk_below (g := gb199) (o := .cells #[.int .i64 a0_0, .slice A0_1 l0_1.length c0_1, .slice (some ad210) l0_2.length c0_2] 26 (0, 0)) (by (with_reducible repeat (first | refine blk_drewN ?_ _ | refine blk_drew ?_ | refine blk_alloc ?_ _)); exact BK199.out) hb); have n2_ := Aside0.mk (below_step (by repeat (first | (with_reducible first | exact HB.out | apply below_alloc | apply pw_below_drewN | apply below_drew1 | refine below_set ?_ GE199.out) | exact HB.out)) hb); have n3_ := Aside0.mk (hbox); have n4_ := Aside0.mk ((by rw [hg]; exact (below_size (by repeat (first | (with_reducible first | exact HB.out | apply below_alloc | apply pw_below_drewN | apply below_drew1 | refine below_set ?_ GE199.out) | exact HB.out))) : w.heap.size ≤ gb211)); have n5_ := Aside0.mk ((by rw [hg]; exact (below_size (by repeat (first | (with_reducible first | exact HB.out | apply below_alloc | apply pw_below_drewN | apply below_drew1 | refine below_set ?_ GE199.out) | exact HB.out))) : w.heap.size ≤ gb211)); have n6_ := Aside0.mk ((by rw [hg]; exact Nat.ne_of_lt (blk_lt (g := gb199) (o := .cells #[.int .i64 a0_0, .slice A0_1 l0_1.length c0_1, .slice (some ad210) l0_2.length c0_2] 26 (0, 0)) (by (with_reducible repeat (first | refine blk_drewN ?_ _ | refine blk_drew ?_ | refine blk_alloc ?_ _)); exact BK199.out)) : gb199 ≠ gb211)); have n7_ := Aside0.mk ((by rw [hg]; exact Nat.ne_of_gt (blk_lt (g := gb199) (o := .cells #[.int .i64 a0_0, .slice A0_1 l0_1.length c0_1, .slice (some ad210) l0_2.length c0_2] 26 (0, 0)) (by (with_reducible repeat (first | refine blk_drewN ?_ _ | refine blk_drew ?_ | refine blk_alloc ?_ _)); exact BK199.out)) : gb211 ≠ gb199)); clear HO_4; clear BK199; clear HB; have HO_4 := n0_; have BK199 := n1_; have HB := n2_; have BK211 := n3_; have GW211 := n4_; have GE211 := n5_; have NB199_211 := n6_; have NB211_199 := n7_; clear n0_ n1_ n2_ n3_ n4_ n5_ n6_ n7_; clear hb hbox hg; have hnb22 := NB211_199.out; have hnc22 := NB199_211.out; have hcz23_0 : w21.cell? ⟨gb211, 0, none⟩ = some (.int .i64 0) := (blk_cell BK211.out 0).trans rfl; have hcz23_1 : w21.cell? ⟨gb211, 1, none⟩ = some (.int .i64 0) := (blk_cell BK211.out 1).trans rfl; have hcz23_2 : w21.cell? ⟨gb211, 2, none⟩ = some (.int .i64 0) := (blk_cell BK211.out 2).trans rfl; have hcz23_3 : w21.cell? ⟨gb211, 3, none⟩ = some (.slice none 0 0) := (blk_cell BK211.out 3).trans rfl; have hfz23_0 := blk_frozen BK211.out 0; have hfz23_1 := blk_frozen BK211.out 1; have hfz23_2 := blk_frozen BK211.out 2; have hfz23_3 := blk_frozen BK211.out 3) | ((with_reducible refine gate_dst (N := 66) rfl ?_); refine Kd.R_lit (Kd.int .u8) _ 5 ?hg (N := 66) ?hd (xs := ([((rd_T44 l0_2 x43_1).f0) % 256, ((rd_T44 l0_2 x43_1).f1) % 256, ((rd_T44 l0_2 x43_1).f2) % 256, ((((rd_T44 l0_2 x43_1).f3).length : Int)) % 256, ((((rd_T44 l0_2 x43_1).f3).length : Int) / 256) % 256] : List Int)) (inner := [.int .u8 (((rd_T44 l0_2 x43_1).f0) % 256), .int .u8 (((rd_T44 l0_2 x43_1).f1) % 256), .int .u8 (((rd_T44 l0_2 x43_1).f2) % 256), .int .u8 (((((rd_T44 l0_2 x43_1).f3).length : Int)) % 256), .int .u8 (((((rd_T44 l0_2 x43_1).f3).length : Int) / 256) % 256)]) (ok := fun _ => True) (okp := fun _ => True) ?hr ?hp (fun _ hk => hk) trivial (Below.refl _ _) (Nat.le_refl _) (by simp) ?_; (case hd => rfl); (case hg => rfl); (case hr => first | (go_simp; done) | (go_simp; rfl)); (case hp => exact (Reps.one (show Kd.M (Kd.int .u8) _ _ _ (((rd_T44 l0_2 x43_1).f0) % 256) [.int .u8 (((rd_T44 l0_2 x43_1).f0) % 256)] from rfl) (Reps.one (show Kd.M (Kd.int .u8) _ _ _ (((rd_T44 l0_2 x43_1).f1) % 256) [.int .u8 (((rd_T44 l0_2 x43_1).f1) % 256)] from rfl) (Reps.one (show Kd.M (Kd.int .u8) _ _ _ (((rd_T44 l0_2 x43_1).f2) % 256) [.int .u8 (((rd_T44 l0_2 x43_1).f2) % 256)] from rfl) (Reps.one (show Kd.M (Kd.int .u8) _ _ _ (((((rd_T44 l0_2 x43_1).f3).length : Int)) % 256) [.int .u8 (((((rd_T44 l0_2 x43_1).f3).length : Int)) % 256)] from rfl) (Reps.one (show Kd.M (Kd.int .u8) _ _ _ (((((rd_T44 l0_2 x43_1).f3).length : Int) / 256) % 256) [.int .u8 (((((rd_T44 l0_2 x43_1).f3).length : Int) / 256) % 256)] from rfl) (Reps.none _ _))))))); intro v213 w24 ho25 hb hg_ hnew_; clear hg_ hnew_; (first | rw [← Ny212.out] at ho25 | (simp only [Int.reduceToNat] at ho25; rw [← Ny212.out] at ho25)); have n0_ := Aside0.mk (Kd.R_elder' (by (with_reducible repeat (first | apply Kd.R_alloc | apply Kd.R_drewN | apply Kd.R_drew)); exact (Kd.R_mono (Kd.R_far (p := ⟨gb211, 3, none⟩) (Kd.R_far (p := ⟨gb211, 2, none⟩) (Kd.R_far (p := ⟨gb211, 1, none⟩) (Kd.R_far (p := ⟨gb211, 0, none⟩) (Kd.R_types HO_4.out BK211.out (by decide)) (fun _ hk => hk.2) (.int .i64 ((rd_T44 l0_2 x43_1).f0))) (fun _ hk => hk.2) (.int .i64 ((rd_T44 l0_2 x43_1).f1))) (fun _ hk => hk.2) (.int .i64 ((rd_T44 l0_2 x43_1).f2))) (fun _ hk => hk.2) (.slice A210_3 ((rd_T44 l0_2 x43_1).f3).length c210_3)) (fun _ h_ => h_.1))) (Kd.R_base ho25) hb); have n1_ := Aside0.mk (Kd.R_lower (Kd.R_new' ho25 (Kd.R_lt (by (with_reducible repeat (first | apply Kd.R_alloc | apply Kd.R_drewN | apply Kd.R_drew)); exact (Kd.R_mono (Kd.R_far (p := ⟨gb211, 3, none⟩) (Kd.R_far (p := ⟨gb211, 2, none⟩) (Kd.R_far (p := ⟨gb211, 1, none⟩) (Kd.R_far (p := ⟨gb211, 0, none⟩) (Kd.R_types HO_4.out BK211.out (by decide)) (fun _ hk => hk.2) (.int .i64 ((rd_T44 l0_2 x43_1).f0))) (fun _ hk => hk.2) (.int .i64 ((rd_T44 l0_2 x43_1).f1))) (fun _ hk => hk.2) (.int .i64 ((rd_T44 l0_2 x43_1).f2))) (fun _ hk => hk.2) (.slice A210_3 ((rd_T44 l0_2 x43_1).f3).length c210_3)) (fun _ h_ => h_.1))))) (below_size (by repeat (first | (with_reducible first | exact HB.out | apply below_alloc | apply pw_below_drewN | apply below_drew1 | refine below_set ?_ GE199.out | refine below_set ?_ GE211.out) | exact HB.out)))); have n2_ := Aside0.mk (blk_below (g := gb199) (o := .cells #[.int .i64 a0_0, .slice A0_1 l0_1.length c0_1, .slice (some ad210) l0_2.length c0_2] 26 (0, 0)) (by (with_reducible repeat (first | refine blk_drewN ?_ _ | refine blk_drew ?_ | refine blk_alloc ?_ _)); refine blk_far ?_ NB199_211.out _; (with_reducible repeat (first | refine blk_drewN ?_ _ | refine blk_drew ?_ | refine blk_alloc ?_ _)); refine blk_far ?_ NB199_211.out _; (with_reducible repeat (first | refine blk_drewN ?_ _ | refine blk_drew ?_ | refine blk_alloc ?_ _)); refine blk_far ?_ NB199_211.out _; (with_reducible repeat (first | refine blk_drewN ?_ _ | refine blk_drew ?_ | refine blk_alloc ?_ _)); refine blk_far ?_ NB199_211.out _; (with_reducible repeat (first | refine blk_drewN ?_ _ | refine blk_drew ?_ | refine blk_alloc ?_ _)); exact BK199.out) hb); have n3_ := Aside0.mk (blk_below (g := gb211) (o := .cells #[.int .i64 ((rd_T44 l0_2 x43_1).f0), .int .i64 ((rd_T44 l0_2 x43_1).f1), .int .i64 ((rd_T44 l0_2 x43_1).f2), .slice A210_3 ((rd_T44 l0_2 x43_1).f3).length c210_3] 44 (0, 0)) (by (with_reducible repeat (first | refine blk_drewN ?_ _ | refine blk_drew ?_ | refine blk_alloc ?_ _)); refine blk_put (cs := #[.int .i64 ((rd_T44 l0_2 x43_1).f0), .int .i64 ((rd_T44 l0_2 x43_1).f1), .int .i64 ((rd_T44 l0_2 x43_1).f2), .slice none 0 0]) ?_ 3 _ rfl; (with_reducible repeat (first | refine blk_drewN ?_ _ | refine blk_drew ?_ | refine blk_alloc ?_ _)); refine blk_put (cs := #[.int .i64 ((rd_T44 l0_2 x43_1).f0), .int .i64 ((rd_T44 l0_2 x43_1).f1), .int .i64 0, .slice none 0 0]) ?_ 2 _ rfl; (with_reducible repeat (first | refine blk_drewN ?_ _ | refine blk_drew ?_ | refine blk_alloc ?_ _)); refine blk_put (cs := #[.int .i64 ((rd_T44 l0_2 x43_1).f0), .int .i64 0, .int .i64 0, .slice none 0 0]) ?_ 1 _ rfl; (with_reducible repeat (first | refine blk_drewN ?_ _ | refine blk_drew ?_ | refine blk_alloc ?_ _)); refine blk_put (cs := #[.int .i64 0, .int .i64 0, .int .i64 0, .slice none 0 0]) ?_ 0 _ rfl; (with_reducible repeat (first | refine blk_drewN ?_ _ | refine blk_drew ?_ | refine blk_alloc ?_ _)); exact BK211.out) hb); have n4_ := Aside0.mk (below_step (by repeat (first | (with_reducible first | exact HB.out | apply below_alloc | apply pw_below_drewN | apply below_drew1 | refine below_set ?_ GE199.out | refine below_set ?_ GE211.out) | exact HB.out)) hb); clear HO_4; clear BK199; clear BK211; clear HB; have HO_4 := n0_; have HO214 := n1_; have BK199 := n2_; have BK211 := n3_; have HB := n4_; clear n0_ n1_ n2_ n3_ n4_; clear hb ho25; obtain ⟨Ao27, co27, eo27⟩ := Kd.R_slice HO214.out; subst eo27) | ((with_reducible refine gate_builtin (b := .append) (xs := #[.tmp 47, .tmp 66]) rfl ?_); at_builtin; refine Kd.R_append_rows (Kd.int .u8) (w0 := w) w.heap.size rfl (.tmp 47) (.tmp 66) 22 5 (.int .u8 0) 1 rfl Try.underlying22 info5 rfl (by decide) (by omega) u4 x4_1 y212 _ _ _ (fun k_ => some k_ ≠ (.slice Ao27 y212.length co27 : Value).ownBlock) (fun _ => False) rfl rfl ?aO ?aR (fun _ _ h => h) (fun _ h => h.elim) ?aF ?aB ?aS ?aL ?_; (case aR => repeat (first | exact (Kd.R_reads' HO214.out).2.2 | (with_reducible refine Kd.C_alloc ?_ _) | (with_reducible refine Kd.C_drewN ?_ _) | (with_reducible refine Kd.C_drew ?_))); (case aB => exact (by repeat (first | (with_reducible first | exact HB.out | apply below_alloc | apply pw_below_drewN | apply below_drew1 | refine below_set ?_ GE199.out | refine below_set ?_ GE211.out) | exact HB.out))); (case aF => exact (fun k_ hk => Kd.fresh' (Kd.R_lt (by (with_reducible repeat (first | apply Kd.R_alloc | apply Kd.R_drewN | apply Kd.R_drew)); exact HO214.out)) k_ hk)); (case aO => exact (by (with_reducible repeat (first | apply Kd.R_alloc | apply Kd.R_drewN | apply Kd.R_drew)); exact Kd.R_mono HO_4.out (fun _ hk => hk.2))); (case aS => exact (below_size (by repeat (first | (with_reducible first | exact HB.out | apply below_alloc | apply pw_below_drewN | apply below_drew1 | refine below_set ?_ GE199.out | refine below_set ?_ GE211.out) | exact HB.out)))); (case aL => have := LMc20.out; omega); intro v216 w26 ho hb hg hat; rw [← Ny215.out] at ho; have n0_ := Aside0.mk (blk_grown (g := gb199) (o := .cells #[.int .i64 a0_0, .slice A0_1 l0_1.length c0_1, .slice (some ad210) l0_2.length c0_2] 26 (0, 0)) (by (with_reducible repeat (first | refine blk_drewN ?_ _ | refine blk_drew ?_ | refine blk_alloc ?_ _)); exact BK199.out) hg (Kd.R_ne HO_4.out BK199.out (by decide))); have n1_ := Aside0.mk (blk_grown (g := gb211) (o := .cells #[.int .i64 ((rd_T44 l0_2 x43_1).f0), .int .i64 ((rd_T44 l0_2 x43_1).f1), .int .i64 ((rd_T44 l0_2 x43_1).f2), .slice A210_3 ((rd_T44 l0_2 x43_1).f3).length c210_3] 44 (0, 0)) (by (with_reducible repeat (first | refine blk_drewN ?_ _ | refine blk_drew ?_ | refine blk_alloc ?_ _)); exact BK211.out) hg (Kd.R_ne HO_4.out BK211.out (by decide))); have n2_ := Aside0.mk (Kd.R_after (ok := (fun _ => True)) (by (with_reducible repeat (first | apply Kd.R_alloc | apply Kd.R_drewN | apply Kd.R_drew)); exact HO214.out) hg hat); have n3_ := Aside0.mk (hb); have n4_ := Aside0.mk (ho); clear BK199; clear BK211; clear HO214; clear HB; clear HO_4; have BK199 := n0_; have BK211 := n1_; have HO214 := n2_; have HB := n3_; have HO217 := n4_; clear n0_ n1_ n2_ n3_ n4_; clear ho hb hg hat; have hcz28_0 : w26.cell? ⟨gb211, 0, none⟩ = some (.int .i64 ((rd_T44 l0_2 x43_1).f0)) := (blk_cell BK211.out 0).trans rfl; have hcz28_1 : w26.cell? ⟨gb211, 1, none⟩ = some (.int .i64 ((rd_T44 l0_2 x43_1).f1)) := (blk_cell BK211.out 1).trans rfl; have hcz28_2 : w26.cell? ⟨gb211, 2, none⟩ = some (.int .i64 ((rd_T44 l0_2 x43_1).f2)) := (blk_cell BK211.out 2).trans rfl; have hcz28_3 : w26.cell? ⟨gb211, 3, none⟩ = some (.slice A210_3 ((rd_T44 l0_2 x43_1).f3).length c210_3) := (blk_cell BK211.out 3).trans rfl; have hfz28_0 := blk_frozen BK211.out 0; have hfz28_1 := blk_frozen BK211.out 1; have hfz28_2 := blk_frozen BK211.out 2; have hfz28_3 := blk_frozen BK211.out 3))
                    go_loopg [4, 71] k1 (fun kq v4 v71 w' => ∃ (x4_2 : List Int) (x71_2 : Int), v71 = .int .i64 x71_2 ∧ Aside0 (module_Encode.l1 kq x4_2 l0_2 (l0_2.length : Int) x43_1 ((rd_T44 l0_2 x43_1).f3) (((rd_T44 l0_2 x43_1).f3).length : Int) x71_2 = some (r1, r2)) ∧ Aside0 (kq ≤ k1) ∧ Aside0 (Kd.R (Kd.int .u8) 5 w' w.heap.size (fun _ => True) v4 x4_2) ∧ Aside0 (w'.heap[gb199]? = some (.cells #[.int .i64 a0_0, (.slice A0_1 l0_1.length c0_1), (.slice (some ad210) l0_2.length c0_2)] 26 (0, 0))) ∧ Aside0 (w'.heap[gb211]? = some (.cells #[.int .i64 ((rd_T44 l0_2 x43_1).f0), .int .i64 ((rd_T44 l0_2 x43_1).f1), .int .i64 ((rd_T44 l0_2 x43_1).f2), (.slice A210_3 ((rd_T44 l0_2 x43_1).f3).length c210_3)] 44 (0, 0))) ∧ Aside0 (Below w.heap.size w w'))
                    case atStart => exact ⟨(y215), (0), (by first | rfl | (simp; done) | (simp [*]; done)), H', ⟨Nat.le_refl _⟩, ⟨by (with_reducible repeat (first | apply Kd.R_alloc | apply Kd.R_drewN | apply Kd.R_drew)); exact Kd.R_mono HO217.out (fun _ hk => trivial)⟩, ⟨by (with_reducible repeat (first | refine blk_drewN ?_ _ | refine blk_drew ?_ | refine blk_alloc ?_ _)); exact BK199.out⟩, ⟨by (with_reducible repeat (first | refine blk_drewN ?_ _ | refine blk_drew ?_ | refine blk_alloc ?_ _)); exact BK211.out⟩, ⟨by repeat (first | (with_reducible first | exact HB.out | apply below_alloc | apply pw_below_drewN | apply below_drew1 | refine below_set ?_ GE199.out | refine below_set ?_ GE211.out) | exact HB.out)⟩⟩
                    case round =>
                      clear H'
                      try clear c1
                      try clear c2
                      try clear p2
                      try clear q2
                      try clear hx2
                      try clear c3
                      try clear c4
                      try clear c5
                      try clear c13
                      try clear c17
                      try clear c17b0
                      try clear c18
                      try clear c18b0
                      try clear c19
                      try clear c19b0
                      try clear c20
                      try clear c21
                      try clear p21
                      try clear q21
                      try clear hx21
                      try clear c22
                      try clear c23
                      try clear hcz12_0
                      try clear hcz12_1
                      try clear hcz12_2
                      try clear hcz14_0
                      try clear hcz14_1
                      try clear hcz14_2
                      try clear hcz16_0
                      try clear hcz16_1
                      try clear hcz16_2
                      try clear hcz23_0
                      try clear hcz23_1
                      try clear hcz23_2
                      try clear hcz23_3
                      try clear hcz28_0
                      try clear hcz28_1
                      try clear hcz28_2
                      try clear hcz28_3
                      try clear hcz7_0
                      try clear hcz7_1
                      try clear hcz7_2
                      try clear hcz9_0
                      try clear hcz9_1
                      try clear hcz9_2
                      try clear hfz12_0
                      try clear hfz12_1
                      try clear hfz12_2
                      try clear hfz14_0
                      try clear hfz14_1
                      try clear hfz14_2
                      try clear hfz16_0
                      try clear hfz16_1
                      try clear hfz16_2
                      try clear hfz23_0
                      try clear hfz23_1
                      try clear hfz23_2
                      try clear hfz23_3
                      try clear hfz28_0
                      try clear hfz28_1
                      try clear hfz28_2
                      try clear hfz28_3
                      try clear hfz7_0
                      try clear hfz7_1
                      try clear hfz7_2
                      try clear hfz9_0
                      try clear hfz9_1
                      try clear hfz9_2
                      try clear hx210_0
                      try clear hx210_1
                      try clear hx210_2
                      try clear hx210_3
                      try clear p2
                      try clear p210
                      try clear q210
                      obtain ⟨x4_2, x71_2, rfl, HA, HK2, HO_4, BK199, BK211, HB⟩ := hrel
                      cases gk with
                      | zero => exact absurd HA.out (by simp [module_Encode.l1])
                      | succ k2 =>
                        have H := HA.out
                        clear HA
                        simp only [module_Encode.l1] at H
                        by_cases c29 : x71_2 < (((rd_T44 l0_2 x43_1).f3).length : Int)
                        · rw [if_pos c29] at H
                          have c29b0 : decide (x71_2 < (((rd_T44 l0_2 x43_1).f3).length : Int)) = true := decide_eq_true c29
                          clear c29
                          by_cases c30 : 0 ≤ x71_2
                          · rw [if_pos c30] at H
                            have c30b0 : decide (0 ≤ x71_2) = true := decide_eq_true c30
                            clear c30
                            by_cases c31 : x71_2 < (((rd_T44 l0_2 x43_1).f3).length : Int)
                            · rw [if_pos c31] at H
                              have c31b0 : decide (x71_2 < (((rd_T44 l0_2 x43_1).f3).length : Int)) = true := decide_eq_true c31
                              clear c31
                              by_cases c32 : x4_2.length < 140737488355328
                              · rw [if_pos c32] at H
                                have LMc32 := Aside0.mk c32
                                clear c32
                                obtain ⟨y220, hy220⟩ : ∃ y_ : List Int, y_ = (x4_2 ++ [((rd_T41 ((rd_T44 l0_2 x43_1).f3) x71_2).f0) % 256]) := ⟨_, rfl⟩
                                replace H : ((module_Has.f k2 ((rd_T41 ((rd_T44 l0_2 x43_1).f3) x71_2).f0)).bind fun t223 => (if t223 = true then ((module_appendNumber.f k2 y220 ((rd_T41 ((rd_T44 l0_2 x43_1).f3) x71_2).f1)).bind fun t224 => (module_Encode.l1 k2 t224 l0_2 (l0_2.length : Int) x43_1 ((rd_T44 l0_2 x43_1).f3) (((rd_T44 l0_2 x43_1).f3).length : Int) (wrap64 (x71_2 + 1)))) else (module_Encode.l1 k2 y220 l0_2 (l0_2.length : Int) x43_1 ((rd_T44 l0_2 x43_1).f3) (((rd_T44 l0_2 x43_1).f3).length : Int) (wrap64 (x71_2 + 1))))) = some (r1, r2) := by first | (rw [hy220]; with_reducible exact H) | (have H2_ := (Option.bind_some _ _).symm.trans H; rw [hy220]; with_reducible exact H2_) | (have H2_ := (Option.bind_some _ _).symm.trans H; with_reducible exact H2_) | with_reducible exact H | (rw [hy220]; exact H) | exact H
                                have Ny220 := Aside0.mk hy220
                                clear hy220
                                replace H := Option.bind_eq_some_iff.mp H
                                obtain ⟨t223, A330, H⟩ := H
                                replace H : (if t223 = true then ((module_appendNumber.f k2 y220 ((rd_T41 ((rd_T44 l0_2 x43_1).f3) x71_2).f1)).bind fun t224 => (module_Encode.l1 k2 t224 l0_2 (l0_2.length : Int) x43_1 ((rd_T44 l0_2 x43_1).f3) (((rd_T44 l0_2 x43_1).f3).length : Int) (wrap64 (x71_2 + 1)))) else (module_Encode.l1 k2 y220 l0_2 (l0_2.length : Int) x43_1 ((rd_T44 l0_2 x43_1).f3) (((rd_T44 l0_2 x43_1).f3).length : Int) (wrap64 (x71_2 + 1)))) = some (r1, r2) := H
                                have A33 := Aside0.mk A330
                                clear A330
                                by_cases c34 : t223 = true
                                · subst c34
                                  have H1 : ((module_appendNumber.f k2 y220 ((rd_T41 ((rd_T44 l0_2 x43_1).f3) x71_2).f1)).bind fun t224 => (module_Encode.l1 k2 t224 l0_2 (l0_2.length : Int) x43_1 ((rd_T44 l0_2 x43_1).f3) (((rd_T44 l0_2 x43_1).f3).length : Int) (wrap64 (x71_2 + 1)))) = some (r1, r2) := by rw [if_pos rfl] at H; exact H
                                  clear H
                                  have H := H1
                                  clear H1
                                  replace H := Option.bind_eq_some_iff.mp H
                                  obtain ⟨t224, A350, H⟩ := H
                                  replace H : (module_Encode.l1 k2 t224 l0_2 (l0_2.length : Int) x43_1 ((rd_T44 l0_2 x43_1).f3) (((rd_T44 l0_2 x43_1).f3).length : Int) (wrap64 (x71_2 + 1))) = some (r1, r2) := H
                                  have A35 := Aside0.mk A350
                                  clear A350
                                  have H' := Aside0.mk H
                                  clear H
                                  have p218 : 0 ≤ (x71_2 : Int) := of_decide_eq_true (by first | (with_reducible assumption) | assumption)
                                  have q218 : x71_2 < (((rd_T44 l0_2 x43_1).f3).length : Int) := of_decide_eq_true (by first | (with_reducible assumption) | assumption)
                                  obtain ⟨ad218, e218, hx218_0, hx218_1⟩ := at_T41 HR210_3.out x71_2 p218 q218
                                  cases e218
                                  replace hx218_0 := (HB.out.cell (World.block_lt_of_cell? w _ hx218_0)).trans hx218_0
                                  replace hx218_1 := (HB.out.cell (World.block_lt_of_cell? w _ hx218_1)).trans hx218_1
                                  replace p218 := eq_true p218
                                  replace q218 := eq_true q218
                                  go_wp2_with (first | ((with_reducible refine gate_dst (N := 8) rfl ?_); refine box_event ?hg (N := 8) ?hd (cs := #[.int .i64 0, .int .i64 0]) (t := 41) ?hr ?_; (case hd => rfl); (case hg => rfl); (case hr => first | (go_simp; done) | (go_simp; rfl)); intro gb219 hg w36 hbox hb; have n0_ := Aside0.mk (Kd.R_below (by (with_reducible repeat (first | apply Kd.R_alloc | apply Kd.R_drewN | apply Kd.R_drew)); exact HO_4.out) hb); have n1_ := Aside0.mk (blk_below (g := gb199) (o := .cells #[.int .i64 a0_0, .slice A0_1 l0_1.length c0_1, .slice (some ad210) l0_2.length c0_2] 26 (0, 0)) (by (with_reducible repeat (first | refine blk_drewN ?_ _ | refine blk_drew ?_ | refine blk_alloc ?_ _)); exact BK199.out) hb); have n2_ := Aside0.mk (blk_below (g := gb211) (o := .cells #[.int .i64 ((rd_T44 l0_2 x43_1).f0), .int .i64 ((rd_T44 l0_2 x43_1).f1), .int .i64 ((rd_T44 l0_2 x43_1).f2), .slice (some ad218) ((rd_T44 l0_2 x43_1).f3).length c210_3] 44 (0, 0)) (by (with_reducible repeat (first | refine blk_drewN ?_ _ | refine blk_drew ?_ | refine blk_alloc ?_ _)); exact BK211.out) hb); have n3_ := Aside0.mk (below_step (by repeat (first | (with_reducible first | exact HB.out | apply below_alloc | apply pw_below_drewN | apply below_drew1 | refine below_set ?_ GE199.out | refine below_set ?_ GE211.out) | exact HB.out)) hb); have n4_ := Aside0.mk (hbox); have n5_ := Aside0.mk ((by rw [hg]; exact (below_size (by repeat (first | (with_reducible first | exact HB.out | apply below_alloc | apply pw_below_drewN | apply below_drew1 | refine below_set ?_ GE199.out | refine below_set ?_ GE211.out) | exact HB.out))) : w.heap.size ≤ gb219)); have n6_ := Aside0.mk ((by rw [hg]; exact (below_size (by repeat (first | (with_reducible first | exact HB.out | apply below_alloc | apply pw_below_drewN | apply below_drew1 | refine below_set ?_ GE199.out | refine below_set ?_ GE211.out) | exact HB.out))) : w.heap.size ≤ gb219)); have n7_ := Aside0.mk ((by rw [hg]; exact Nat.ne_of_lt (blk_lt (g := gb199) (o := .cells #[.int .i64 a0_0, .slice A0_1 l0_1.length c0_1, .slice (some ad210) l0_2.length c0_2] 26 (0, 0)) (by (with_reducible repeat (first | refine blk_drewN ?_ _ | refine blk_drew ?_ | refine blk_alloc ?_ _)); exact BK199.out)) : gb199 ≠ gb219)); have n8_ := Aside0.mk ((by rw [hg]; exact Nat.ne_of_gt (blk_lt (g := gb199) (o := .cells #[.int .i64 a0_0, .slice A0_1 l0_1.length c0_1, .slice (some ad210) l0_2.length c0_2] 26 (0, 0)) (by (with_reducible repeat (first | refine blk_drewN ?_ _ | refine blk_drew ?_ | refine blk_alloc ?_ _)); exact BK199.out)) : gb219 ≠ gb199)); have n9_ := Aside0.mk ((by rw [hg]; exact Nat.ne_of_lt (blk_lt (g := gb211) (o := .cells #[.int .i64 ((rd_T44 l0_2 x43_1).f0), .int .i64 ((rd_T44 l0_2 x43_1).f1), .int .i64 ((rd_T44 l0_2 x43_1).f2), .slice (some ad218) ((rd_T44 l0_2 x43_1).f3).length c210_3] 44 (0, 0)) (by (with_reducible repeat (first | refine blk_drewN ?_ _ | refine blk_drew ?_ | refine blk_alloc ?_ _)); exact BK211.out)) : gb211 ≠ gb219)); have n10_ := Aside0.mk ((by rw [hg]; exact Nat.ne_of_gt (blk_lt (g := gb211) (o := .cells #[.int .i64 ((rd_T44 l0_2 x43_1).f0), .int .i64 ((rd_T44 l0_2 x43_1).f1), .int .i64 ((rd_T44 l0_2 x43_1).f2), .slice (some ad218) ((rd_T44 l0_2 x43_1).f3).length c210_3] 44 (0, 0)) (by (with_reducible repeat (first | refine blk_drewN ?_ _ | refine blk_drew ?_ | refine blk_alloc ?_ _)); exact BK211.out)) : gb219 ≠ gb211)); clear HO_4; clear BK199; clear BK211; clear HB; have HO_4 := n0_; have BK199 := n1_; have BK211 := n2_; have HB := n3_; have BK219 := n4_; have GW219 := n5_; have GE219 := n6_; have NB199_219 := n7_; have NB219_199 := n8_; have NB211_219 := n9_; have NB219_211 := n10_; clear n0_ n1_ n2_ n3_ n4_ n5_ n6_ n7_ n8_ n9_ n10_; clear hb hbox hg; have hnb37 := NB219_199.out; have hnc37 := NB199_219.out; have hnb38 := NB219_211.out; have hnc38 := NB211_219.out; have hcz39_0 : w36.cell? ⟨gb219, 0, none⟩ = some (.int .i64 0) := (blk_cell BK219.out 0).trans rfl; have hcz39_1 : w36.cell? ⟨gb219, 1, none⟩ = some (.int .i64 0) := (blk_cell BK219.out 1).trans rfl; have hfz39_0 := blk_frozen BK219.out 0; have hfz39_1 := blk_frozen BK219.out 1) | ((with_reducible refine gate_builtin (b := .append) (xs := #[.tmp 75, .tmp 79]) rfl ?_); at_builtin; refine Kd.R_append (Kd.int .u8) (w0 := w) w.heap.size rfl (.tmp 75) (.tmp 79) 22 5 (.int .u8 0) 1 rfl Try.underlying22 info5 rfl (by decide) (by omega) u4 x4_2 (((rd_T41 ((rd_T44 l0_2 x43_1).f3) x71_2).f0) % 256) [.int .u8 (((rd_T41 ((rd_T44 l0_2 x43_1).f3) x71_2).f0) % 256)] (fun _ => True) (fun _ => False) rfl (by first | (go_simp; done) | (go_simp; rfl)) ?aP (fun _ hk => hk.elim) ?aF ?aO ?aB ?aS ?aL ?_; (case aP => exact rfl); (case aB => exact (by repeat (first | (with_reducible first | exact HB.out | apply below_alloc | apply pw_below_drewN | apply below_drew1 | refine below_set ?_ GE199.out | refine below_set ?_ GE211.out | refine below_set ?_ GE219.out) | exact HB.out))); (case aF => exact (fun _ _ => trivial)); (case aO => exact (by (with_reducible repeat (first | apply Kd.R_alloc | apply Kd.R_drewN | apply Kd.R_drew)); exact Kd.R_mono (Kd.R_far (p := ⟨gb219, 1, none⟩) (Kd.R_far (p := ⟨gb219, 0, none⟩) (Kd.R_types HO_4.out BK219.out (by decide)) (fun _ hk => hk.2) (.int .i64 ((rd_T41 ((rd_T44 l0_2 x43_1).f3) x71_2).f0))) (fun _ hk => hk.2) (.int .i64 ((rd_T41 ((rd_T44 l0_2 x43_1).f3) x71_2).f1))) (fun _ hk => trivial))); (case aS => exact (below_size (by repeat (first | (with_reducible first | exact HB.out | apply below_alloc | apply pw_below_drewN | apply below_drew1 | refine below_set ?_ GE199.out | refine below_set ?_ GE211.out | refine below_set ?_ GE219.out) | exact HB.out)))); (case aL => have := LMc32.out; omega); intro v221 w40 ho hb hg hat; rw [← Ny220.out] at ho; have n0_ := Aside0.mk (blk_grown (g := gb199) (o := .cells #[.int .i64 a0_0, .slice A0_1 l0_1.length c0_1, .slice (some ad210) l0_2.length c0_2] 26 (0, 0)) (by (with_reducible repeat (first | refine blk_drewN ?_ _ | refine blk_drew ?_ | refine blk_alloc ?_ _)); refine blk_far ?_ NB199_219.out _; (with_reducible repeat (first | refine blk_drewN ?_ _ | refine blk_drew ?_ | refine blk_alloc ?_ _)); refine blk_far ?_ NB199_219.out _; (with_reducible repeat (first | refine blk_drewN ?_ _ | refine blk_drew ?_ | refine blk_alloc ?_ _)); exact BK199.out) hg (Kd.R_ne HO_4.out BK199.out (by decide))); have n1_ := Aside0.mk (blk_grown (g := gb211) (o := .cells #[.int .i64 ((rd_T44 l0_2 x43_1).f0), .int .i64 ((rd_T44 l0_2 x43_1).f1), .int .i64 ((rd_T44 l0_2 x43_1).f2), .slice (some ad218) ((rd_T44 l0_2 x43_1).f3).length c210_3] 44 (0, 0)) (by (with_reducible repeat (first | refine blk_drewN ?_ _ | refine blk_drew ?_ | refine blk_alloc ?_ _)); refine blk_far ?_ NB211_219.out _; (with_reducible repeat (first | refine blk_drewN ?_ _ | refine blk_drew ?_ | refine blk_alloc ?_ _)); refine blk_far ?_ NB211_219.out _; (with_reducible repeat (first | refine blk_drewN ?_ _ | refine blk_drew ?_ | refine blk_alloc ?_ _)); exact BK211.out) hg (Kd.R_ne HO_4.out BK211.out (by decide))); have n2_ := Aside0.mk (blk_grown (g := gb219) (o := .cells #[.int .i64 ((rd_T41 ((rd_T44 l0_2 x43_1).f3) x71_2).f0), .int .i64 ((rd_T41 ((rd_T44 l0_2 x43_1).f3) x71_2).f1)] 41 (0, 0)) (by (with_reducible repeat (first | refine blk_drewN ?_ _ | refine blk_drew ?_ | refine blk_alloc ?_ _)); refine blk_put (cs := #[.int .i64 ((rd_T41 ((rd_T44 l0_2 x43_1).f3) x71_2).f0), .int .i64 0]) ?_ 1 _ rfl; (with_reducible repeat (first | refine blk_drewN ?_ _ | refine blk_drew ?_ | refine blk_alloc ?_ _)); refine blk_put (cs := #[.int .i64 0, .int .i64 0]) ?_ 0 _ rfl; (with_reducible repeat (first | refine blk_drewN ?_ _ | refine blk_drew ?_ | refine blk_alloc ?_ _)); exact BK219.out) hg (Kd.R_ne HO_4.out BK219.out (by decide))); have n3_ := Aside0.mk (hb); have n4_ := Aside0.mk (ho); clear BK199; clear BK211; clear BK219; clear HB; clear HO_4; have BK199 := n0_; have BK211 := n1_; have BK219 := n2_; have HB := n3_; have HO222 := n4_; clear n0_ n1_ n2_ n3_ n4_; clear ho hb hg hat; have hcz41_0 : w40.cell? ⟨gb219, 0, none⟩ = some (.int .i64 ((rd_T41 ((rd_T44 l0_2 x43_1).f3) x71_2).f0)) := (blk_cell BK219.out 0).trans rfl; have hcz41_1 : w40.cell? ⟨gb219, 1, none⟩ = some (.int .i64 ((rd_T41 ((rd_T44 l0_2 x43_1).f3) x71_2).f1)) := (blk_cell BK219.out 1).trans rfl; have hfz41_0 := blk_frozen BK219.out 0; have hfz41_1 := blk_frozen BK219.out 1) | ((with_reducible refine gate_callee (f := 16) rfl ?_); refine goesL_ (some 83) rfl rfl Try.func16 (by kernel_rfl) rfl #[.int .i64 ((rd_T41 ((rd_T44 l0_2 x43_1).f3) x71_2).f0)] rfl (by (try simp only [List.map_toArray, List.map_cons, List.map_nil]); first | done | rfl | (simp only [List.length_drop, List.length_take]; rfl)) ?_; (with_reducible refine (module_Has.calls k2 ((rd_T41 ((rd_T44 l0_2 x43_1).f3) x71_2).f0) true _ A33.out).mono ?_); rintro e w42 ⟨rfl, hb⟩; refine ⟨_, rfl, ?_⟩; have n0_ := Aside0.mk (Kd.R_below (by (with_reducible repeat (first | apply Kd.R_alloc | apply Kd.R_drewN | apply Kd.R_drew)); exact HO222.out) hb); have n1_ := Aside0.mk (blk_below (g := gb199) (o := .cells #[.int .i64 a0_0, .slice A0_1 l0_1.length c0_1, .slice (some ad210) l0_2.length c0_2] 26 (0, 0)) (by (with_reducible repeat (first | refine blk_drewN ?_ _ | refine blk_drew ?_ | refine blk_alloc ?_ _)); exact BK199.out) hb); have n2_ := Aside0.mk (blk_below (g := gb211) (o := .cells #[.int .i64 ((rd_T44 l0_2 x43_1).f0), .int .i64 ((rd_T44 l0_2 x43_1).f1), .int .i64 ((rd_T44 l0_2 x43_1).f2), .slice (some ad218) ((rd_T44 l0_2 x43_1).f3).length c210_3] 44 (0, 0)) (by (with_reducible repeat (first | refine blk_drewN ?_ _ | refine blk_drew ?_ | refine blk_alloc ?_ _)); exact BK211.out) hb); have n3_ := Aside0.mk (blk_below (g := gb219) (o := .cells #[.int .i64 ((rd_T41 ((rd_T44 l0_2 x43_1).f3) x71_2).f0), .int .i64 ((rd_T41 ((rd_T44 l0_2 x43_1).f3) x71_2).f1)] 41 (0, 0)) (by (with_reducible repeat (first | refine blk_drewN ?_ _ | refine blk_drew ?_ | refine blk_alloc ?_ _)); exact BK219.out) hb); have n4_ := Aside0.mk (below_step (by repeat (first | (with_reducible first | exact HB.out | apply below_alloc | apply pw_below_drewN | apply below_drew1 | refine below_set ?_ GE199.out | refine below_set ?_ GE211.out | refine below_set ?_ GE219.out) | exact HB.out)) hb); clear HO222; clear BK199; clear BK211; clear BK219; clear HB; have HO222 := n0_; have BK199 := n1_; have BK211 := n2_; have BK219 := n3_; have HB := n4_; clear n0_ n1_ n2_ n3_ n4_; (try clear hb); (try clear hb2); (try clear hk); (try clear hi); have hcz43_0 : w42.cell? ⟨gb219, 0, none⟩ = some (.int .i64 ((rd_T41 ((rd_T44 l0_2 x43_1).f3) x71_2).f0)) := (blk_cell BK219.out 0).trans rfl; have hcz43_1 : w42.cell? ⟨gb219, 1, none⟩ = some (.int .i64 ((rd_T41 ((rd_T44 l0_2 x43_1).f3) x71_2).f1)) := (blk_cell BK219.out 1).trans rfl; have hfz43_0 := blk_frozen BK219.out 0; have hfz43_1 := blk_frozen BK219.out 1; obtain ⟨Ao44, co44, eo44⟩ := Kd.R_slice HO222.out; subst eo44) | ((with_reducible refine gate_callee (f := 24) rfl ?_); refine goesL_ (some 87) rfl rfl Try.func24 (by kernel_rfl) rfl #[.slice Ao44 y220.length co44, .int .i64 ((rd_T41 ((rd_T44 l0_2 x43_1).f3) x71_2).f1)] rfl (by (try simp only [List.map_toArray, List.map_cons, List.map_nil]); first | done | rfl | (simp only [List.length_drop, List.length_take]; rfl)) ?_; (with_reducible refine (module_appendNumber.calls k2 (fun k_ => some k_ = (.slice Ao44 y220.length co44 : Value).ownBlock) (.slice Ao44 y220.length co44) y220 ((rd_T41 ((rd_T44 l0_2 x43_1).f3) x71_2).f1) t224 w _ ?side1 ?side2 A35.out).mono ?_); (case side1 => repeat (first | (with_reducible first | exact HB.out | apply below_alloc | apply pw_below_drewN | apply below_drew1 | refine below_set ?_ GE199.out | refine below_set ?_ GE211.out | refine below_set ?_ GE219.out) | exact HB.out)); (case side2 => exact Kd.R_tight rfl HO222.out); rintro e w45 ⟨v225, rfl, ho0, hb, hkp⟩; refine ⟨_, rfl, ?_⟩; have n0_ := Aside0.mk (blk_kept (by (with_reducible repeat (first | refine blk_drewN ?_ _ | refine blk_drew ?_ | refine blk_alloc ?_ _)); exact BK199.out) hkp (fun hs_ => (fun e_ => (Kd.R_ne HO222.out BK199.out (by decide)) e_) hs_)); have n1_ := Aside0.mk (blk_kept (by (with_reducible repeat (first | refine blk_drewN ?_ _ | refine blk_drew ?_ | refine blk_alloc ?_ _)); exact BK211.out) hkp (fun hs_ => (fun e_ => (Kd.R_ne HO222.out BK211.out (by decide)) e_) hs_)); have n2_ := Aside0.mk (blk_kept (by (with_reducible repeat (first | refine blk_drewN ?_ _ | refine blk_drew ?_ | refine blk_alloc ?_ _)); exact BK219.out) hkp (fun hs_ => (fun e_ => (Kd.R_ne HO222.out BK219.out (by decide)) e_) hs_)); have n3_ := Aside0.mk (Kd.R_mono (ok' := fun k_ => True) ho0 (fun k_ hk_ => trivial)); have n4_ := Aside0.mk (hb); clear BK199; clear BK211; clear BK219; clear HB; clear HO222; have BK199 := n0_; have BK211 := n1_; have BK219 := n2_; have HO226 := n3_; have HB := n4_; clear n0_ n1_ n2_ n3_ n4_; (try clear hb); (try clear hkp); (try clear ho0)))
                                  go_roundg k2
                                  case measure => have := HK1.out; have := HK2.out; omega
                                  case rel => exact ⟨(t224), (wrap64 (x71_2 + 1)), (by first | rfl | (simp; done) | (simp [*]; done)), H', ⟨by have := HK1.out; have := HK2.out; omega⟩, ⟨by (with_reducible repeat (first | apply Kd.R_alloc | apply Kd.R_drewN | apply Kd.R_drew)); exact HO226.out⟩, ⟨by (with_reducible repeat (first | refine blk_drewN ?_ _ | refine blk_drew ?_ | refine blk_alloc ?_ _)); exact BK199.out⟩, ⟨by (with_reducible repeat (first | refine blk_drewN ?_ _ | refine blk_drew ?_ | refine blk_alloc ?_ _)); exact BK211.out⟩, ⟨by repeat (first | (with_reducible first | exact HB.out | apply below_alloc | apply pw_below_drewN | apply below_drew1 | refine below_set ?_ GE199.out | refine below_set ?_ GE211.out | refine below_set ?_ GE219.out) | exact HB.out)⟩⟩
                                · replace c34 := Bool.eq_false_iff.mpr c34
                                  subst c34
                                  have H1 : (module_Encode.l1 k2 y220 l0_2 (l0_2.length : Int) x43_1 ((rd_T44 l0_2 x43_1).f3) (((rd_T44 l0_2 x43_1).f3).length : Int) (wrap64 (x71_2 + 1))) = some (r1, r2) := by rw [if_neg (show ¬ (false = true) by decide)] at H; exact H
                                  clear H
                                  have H := H1
                                  clear H1
                                  have H' := Aside0.mk H
                                  clear H
                                  have p218 : 0 ≤ (x71_2 : Int) := of_decide_eq_true (by first | (with_reducible assumption) | assumption)
                                  have q218 : x71_2 < (((rd_T44 l0_2 x43_1).f3).length : Int) := of_decide_eq_true (by first | (with_reducible assumption) | assumption)
                                  obtain ⟨ad218, e218, hx218_0, hx218_1⟩ := at_T41 HR210_3.out x71_2 p218 q218
                                  cases e218
                                  replace hx218_0 := (HB.out.cell (World.block_lt_of_cell? w _ hx218_0)).trans hx218_0
                                  replace hx218_1 := (HB.out.cell (World.block_lt_of_cell? w _ hx218_1)).trans hx218_1
                                  replace p218 := eq_true p218
                                  replace q218 := eq_true q218
                                  go_wp2_with (first | ((with_reducible refine gate_dst (N := 8) rfl ?_); refine box_event ?hg (N := 8) ?hd (cs := #[.int .i64 0, .int .i64 0]) (t := 41) ?hr ?_; (case hd => rfl); (case hg => rfl); (case hr => first | (go_simp; done) | (go_simp; rfl)); intro gb219 hg w46 hbox hb; have n0_ := Aside0.mk (Kd.R_below (by (with_reducible repeat (first | apply Kd.R_alloc | apply Kd.R_drewN | apply Kd.R_drew)); exact HO_4.out) hb); have n1_ := Aside0.mk (blk_below (g := gb199) (o := .cells #[.int .i64 a0_0, .slice A0_1 l0_1.length c0_1, .slice (some ad210) l0_2.length c0_2] 26 (0, 0)) (by (with_reducible repeat (first | refine blk_drewN ?_ _ | refine blk_drew ?_ | refine blk_alloc ?_ _)); exact BK199.out) hb); have n2_ := Aside0.mk (blk_below (g := gb211) (o := .cells #[.int .i64 ((rd_T44 l0_2 x43_1).f0), .int .i64 ((rd_T44 l0_2 x43_1).f1), .int .i64 ((rd_T44 l0_2 x43_1).f2), .slice (some ad218) ((rd_T44 l0_2 x43_1).f3).length c210_3] 44 (0, 0)) (by (with_reducible repeat (first | refine blk_drewN ?_ _ | refine blk_drew ?_ | refine blk_alloc ?_ _)); exact BK211.out) hb); have n3_ := Aside0.mk (below_step (by repeat (first | (with_reducible first | exact HB.out | apply below_alloc | apply pw_below_drewN | apply below_drew1 | refine below_set ?_ GE199.out | refine below_set ?_ GE211.out) | exact HB.out)) hb); have n4_ := Aside0.mk (hbox); have n5_ := Aside0.mk ((by rw [hg]; exact (below_size (by repeat (first | (with_reducible first | exact HB.out | apply below_alloc | apply pw_below_drewN | apply below_drew1 | refine below_set ?_ GE199.out | refine below_set ?_ GE211.out) | exact HB.out))) : w.heap.size ≤ gb219)); have n6_ := Aside0.mk ((by rw [hg]; exact (below_size (by repeat (first | (with_reducible first | exact HB.out | apply below_alloc | apply pw_below_drewN | apply below_drew1 | refine below_set ?_ GE199.out | refine below_set ?_ GE211.out) | exact HB.out))) : w.heap.size ≤ gb219)); have n7_ := Aside0.mk ((by rw [hg]; exact Nat.ne_of_lt (blk_lt (g := gb199) (o := .cells #[.int .i64 a0_0, .slice A0_1 l0_1.length c0_1, .slice (some ad210) l0_2.length c0_2] 26 (0, 0)) (by (with_reducible repeat (first | refine blk_drewN ?_ _ | refine blk_drew ?_ | refine blk_alloc ?_ _)); exact BK199.out)) : gb199 ≠ gb219)); have n8_ := Aside0.mk ((by rw [hg]; exact Nat.ne_of_gt (blk_lt (g := gb199) (o := .cells #[.int .i64 a0_0, .slice A0_1 l0_1.length c0_1, .slice (some ad210) l0_2.length c0_2] 26 (0, 0)) (by (with_reducible repeat (first | refine blk_drewN ?_ _ | refine blk_drew ?_ | refine blk_alloc ?_ _)); exact BK199.out)) : gb219 ≠ gb199)); have n9_ := Aside0.mk ((by rw [hg]; exact Nat.ne_of_lt (blk_lt (g := gb211) (o := .cells #[.int .i64 ((rd_T44 l0_2 x43_1).f0), .int .i64 ((rd_T44 l0_2 x43_1).f1), .int .i64 ((rd_T44 l0_2 x43_1).f2), .slice (some ad218) ((rd_T44 l0_2 x43_1).f3).length c210_3] 44 (0, 0)) (by (with_reducible repeat (first | refine blk_drewN ?_ _ | refine blk_drew ?_ | refine blk_alloc ?_ _)); exact BK211.out)) : gb211 ≠ gb219)); have n10_ := Aside0.mk ((by rw [hg]; exact Nat.ne_of_gt (blk_lt (g := gb211) (o := .cells #[.int .i64 ((rd_T44 l0_2 x43_1).f0), .int .i64 ((rd_T44 l0_2 x43_1).f1), .int .i64 ((rd_T44 l0_2 x43_1).f2), .slice (some ad218) ((rd_T44 l0_2 x43_1).f3).length c210_3] 44 (0, 0)) (by (with_reducible repeat (first | refine blk_drewN ?_ _ | refine blk_drew ?_ | refine blk_alloc ?_ _)); exact BK211.out)) : gb219 ≠ gb211)); clear HO_4; clear BK199; clear BK211; clear HB; have HO_4 := n0_; have BK199 := n1_; have BK211 := n2_; have HB := n3_; have BK219 := n4_; have GW219 := n5_; have GE219 := n6_; have NB199_219 := n7_; have NB219_199 := n8_; have NB211_219 := n9_; have NB219_211 := n10_; clear n0_ n1_ n2_ n3_ n4_ n5_ n6_ n7_ n8_ n9_ n10_; clear hb hbox hg; have hnb47 := NB219_199.out; have hnc47 := NB199_219.out; have hnb48 := NB219_211.out; have hnc48 := NB211_219.out; have hcz49_0 : w46.cell? ⟨gb219, 0, none⟩ = some (.int .i64 0) := (blk_cell BK219.out 0).trans rfl; have hcz49_1 : w46.cell? ⟨gb219, 1, none⟩ = some (.int .i64 0) := (blk_cell BK219.out 1).trans rfl; have hfz49_0 := blk_frozen BK219.out 0; have hfz49_1 := blk_frozen BK219.out 1) | ((with_reducible refine gate_builtin (b := .append) (xs := #[.tmp 75, .tmp 79]) rfl ?_); at_builtin; refine Kd.R_append (Kd.int .u8) (w0 := w) w.heap.size rfl (.tmp 75) (.tmp 79) 22 5 (.int .u8 0) 1 rfl Try.underlying22 info5 rfl (by decide) (by omega) u4 x4_2 (((rd_T41 ((rd_T44 l0_2 x43_1).f3) x71_2).f0) % 256) [.int .u8 (((rd_T41 ((rd_T44 l0_2 x43_1).f3) x71_2).f0) % 256)] (fun _ => True) (fun _ => False) rfl (by first | (go_simp; done) | (go_simp; rfl)) ?aP (fun _ hk => hk.elim) ?aF ?aO ?aB ?aS ?aL ?_; (case aP => exact rfl); (case aB => exact (by repeat (first | (with_reducible first | exact HB.out | apply below_alloc | apply pw_below_drewN | apply below_drew1 | refine below_set ?_ GE199.out | refine below_set ?_ GE211.out | refine below_set ?_ GE219.out) | exact HB.out))); (case aF => exact (fun _ _ => trivial)); (case aO => exact (by (with_reducible repeat (first | apply Kd.R_alloc | apply Kd.R_drewN | apply Kd.R_drew)); exact Kd.R_mono (Kd.R_far (p := ⟨gb219, 1, none⟩) (Kd.R_far (p := ⟨gb219, 0, none⟩) (Kd.R_types HO_4.out BK219.out (by decide)) (fun _ hk => hk.2) (.int .i64 ((rd_T41 ((rd_T44 l0_2 x43_1).f3) x71_2).f0))) (fun _ hk => hk.2) (.int .i64 ((rd_T41 ((rd_T44 l0_2 x43_1).f3) x71_2).f1))) (fun _ hk => trivial))); (case aS => exact (below_size (by repeat (first | (with_reducible first | exact HB.out | apply below_alloc | apply pw_below_drewN | apply below_drew1 | refine below_set ?_ GE199.out | refine below_set ?_ GE211.out | refine below_set ?_ GE219.out) | exact HB.out)))); (case aL => have := LMc32.out; omega); intro v221 w50 ho hb hg hat; rw [← Ny220.out] at ho; have n0_ := Aside0.mk (blk_grown (g := gb199) (o := .cells #[.int .i64 a0_0, .slice A0_1 l0_1.length c0_1, .slice (some ad210) l0_2.length c0_2] 26 (0, 0)) (by (with_reducible repeat (first | refine blk_drewN ?_ _ | refine blk_drew ?_ | refine blk_alloc ?_ _)); refine blk_far ?_ NB199_219.out _; (with_reducible repeat (first | refine blk_drewN ?_ _ | refine blk_drew ?_ | refine blk_alloc ?_ _)); refine blk_far ?_ NB199_219.out _; (with_reducible repeat (first | refine blk_drewN ?_ _ | refine blk_drew ?_ | refine blk_alloc ?_ _)); exact BK199.out) hg (Kd.R_ne HO_4.out BK199.out (by decide))); have n1_ := Aside0.mk (blk_grown (g := gb211) (o := .cells #[.int .i64 ((rd_T44 l0_2 x43_1).f0), .int .i64 ((rd_T44 l0_2 x43_1).f1), .int .i64 ((rd_T44 l0_2 x43_1).f2), .slice (some ad218) ((rd_T44 l0_2 x43_1).f3).length c210_3] 44 (0, 0)) (by (with_reducible repeat (first | refine blk_drewN ?_ _ | refine blk_drew ?_ | refine blk_alloc ?_ _)); refine blk_far ?_ NB211_219.out _; (with_reducible repeat (first | refine blk_drewN ?_ _ | refine blk_drew ?_ | refine blk_alloc ?_ _)); refine blk_far ?_ NB211_219.out _; (with_reducible repeat (first | refine blk_drewN ?_ _ | refine blk_drew ?_ | refine blk_alloc ?_ _)); exact BK211.out) hg (Kd.R_ne HO_4.out BK211.out (by decide))); have n2_ := Aside0.mk (blk_grown (g := gb219) (o := .cells #[.int .i64 ((rd_T41 ((rd_T44 l0_2 x43_1).f3) x71_2).f0), .int .i64 ((rd_T41 ((rd_T44 l0_2 x43_1).f3) x71_2).f1)] 41 (0, 0)) (by (with_reducible repeat (first | refine blk_drewN ?_ _ | refine blk_drew ?_ | refine blk_alloc ?_ _)); refine blk_put (cs := #[.int .i64 ((rd_T41 ((rd_T44 l0_2 x43_1).f3) x71_2).f0), .int .i64 0]) ?_ 1 _ rfl; (with_reducible repeat (first | refine blk_drewN ?_ _ | refine blk_drew ?_ | refine blk_alloc ?_ _)); refine blk_put (cs := #[.int .i64 0, .int .i64 0]) ?_ 0 _ rfl; (with_reducible repeat (first | refine blk_drewN ?_ _ | refine blk_drew ?_ | refine blk_alloc ?_ _)); exact BK219.out) hg (Kd.R_ne HO_4.out BK219.out (by decide))); have n3_ := Aside0.mk (hb); have n4_ := Aside0.mk (ho); clear BK199; clear BK211; clear BK219; clear HB; clear HO_4; have BK199 := n0_; have BK211 := n1_; have BK219 := n2_; have HB := n3_; have HO222 := n4_; clear n0_ n1_ n2_ n3_ n4_; clear ho hb hg hat; have hcz51_0 : w50.cell? ⟨gb219, 0, none⟩ = some (.int .i64 ((rd_T41 ((rd_T44 l0_2 x43_1).f3) x71_2).f0)) := (blk_cell BK219.out 0).trans rfl; have hcz51_1 : w50.cell? ⟨gb219, 1, none⟩ = some (.int .i64 ((rd_T41 ((rd_T44 l0_2 x43_1).f3) x71_2).f1)) := (blk_cell BK219.out 1).trans rfl; have hfz51_0 := blk_frozen BK219.out 0; have hfz51_1 := blk_frozen BK219.out 1) | ((with_reducible refine gate_callee (f := 16) rfl ?_); refine goesL_ (some 83) rfl rfl Try.func16 (by kernel_rfl) rfl #[.int .i64 ((rd_T41 ((rd_T44 l0_2 x43_1).f3) x71_2).f0)] rfl (by (try simp only [List.map_toArray, List.map_cons, List.map_nil]); first | done | rfl | (simp only [List.length_drop, List.length_take]; rfl)) ?_; (with_reducible refine (module_Has.calls k2 ((rd_T41 ((rd_T44 l0_2 x43_1).f3) x71_2).f0) false _ A33.out).mono ?_); rintro e w52 ⟨rfl, hb⟩; refine ⟨_, rfl, ?_⟩; have n0_ := Aside0.mk (Kd.R_below (by (with_reducible repeat (first | apply Kd.R_alloc | apply Kd.R_drewN | apply Kd.R_drew)); exact HO222.out) hb); have n1_ := Aside0.mk (blk_below (g := gb199) (o := .cells #[.int .i64 a0_0, .slice A0_1 l0_1.length c0_1, .slice (some ad210) l0_2.length c0_2] 26 (0, 0)) (by (with_reducible repeat (first | refine blk_drewN ?_ _ | refine blk_drew ?_ | refine blk_alloc ?_ _)); exact BK199.out) hb); have n2_ := Aside0.mk (blk_below (g := gb211) (o := .cells #[.int .i64 ((rd_T44 l0_2 x43_1).f0), .int .i64 ((rd_T44 l0_2 x43_1).f1), .int .i64 ((rd_T44 l0_2 x43_1).f2), .slice (some ad218) ((rd_T44 l0_2 x43_1).f3).length c210_3] 44 (0, 0)) (by (with_reducible repeat (first | refine blk_drewN ?_ _ | refine blk_drew ?_ | refine blk_alloc ?_ _)); exact BK211.out) hb); have n3_ := Aside0.mk (blk_below (g := gb219) (o := .cells #[.int .i64 ((rd_T41 ((rd_T44 l0_2 x43_1).f3) x71_2).f0), .int .i64 ((rd_T41 ((rd_T44 l0_2 x43_1).f3) x71_2).f1)] 41 (0, 0)) (by (with_reducible repeat (first | refine blk_drewN ?_ _ | refine blk_drew ?_ | refine blk_alloc ?_ _)); exact BK219.out) hb); have n4_ := Aside0.mk (below_step (by repeat (first | (with_reducible first | exact HB.out | apply below_alloc | apply pw_below_drewN | apply below_drew1 | refine below_set ?_ GE199.out | refine below_set ?_ GE211.out | refine below_set ?_ GE219.out) | exact HB.out)) hb); clear HO222; clear BK199; clear BK211; clear BK219; clear HB; have HO222 := n0_; have BK199 := n1_; have BK211 := n2_; have BK219 := n3_; have HB := n4_; clear n0_ n1_ n2_ n3_ n4_; (try clear hb); (try clear hb2); (try clear hk); (try clear hi)))
                                  go_roundg k2
                                  case measure => have := HK1.out; have := HK2.out; omega
                                  case rel => exact ⟨(y220), (wrap64 (x71_2 + 1)), (by first | rfl | (simp; done) | (simp [*]; done)), H', ⟨by have := HK1.out; have := HK2.out; omega⟩, ⟨by (with_reducible repeat (first | apply Kd.R_alloc | apply Kd.R_drewN | apply Kd.R_drew)); exact HO222.out⟩, ⟨by (with_reducible repeat (first | refine blk_drewN ?_ _ | refine blk_drew ?_ | refine blk_alloc ?_ _)); exact BK199.out⟩, ⟨by (with_reducible repeat (first | refine blk_drewN ?_ _ | refine blk_drew ?_ | refine blk_alloc ?_ _)); exact BK211.out⟩, ⟨by repeat (first | (with_reducible first | exact HB.out | apply below_alloc | apply pw_below_drewN | apply below_drew1 | refine below_set ?_ GE199.out | refine below_set ?_ GE211.out | refine below_set ?_ GE219.out) | exact HB.out)⟩⟩
                              · rw [if_neg c32] at H
                                exact absurd H (by simp)
                            · rw [if_neg c31] at H
                              exact absurd H (by simp)
                          · rw [if_neg c30] at H
                            exact absurd H (by simp)
                        · rw [if_neg c29] at H
                          have c29b0 : decide (x71_2 < (((rd_T44 l0_2 x43_1).f3).length : Int)) = false := decide_eq_false c29
                          clear c29
                          have H' := Aside0.mk H
                          clear H
                          go_wp2
                          go_roundg k2
                          case measure => have := HK1.out; have := HK2.out; omega
                          case rel => exact ⟨(x4_2), (wrap64 (x43_1 + 1)), (by first | rfl | (simp; done) | (simp [*]; done)), H', ⟨by have := HK1.out; have := HK2.out; omega⟩, ⟨by (with_reducible repeat (first | apply Kd.R_alloc | apply Kd.R_drewN | apply Kd.R_drew)); exact HO_4.out⟩, ⟨by (with_reducible repeat (first | refine blk_drewN ?_ _ | refine blk_drew ?_ | refine blk_alloc ?_ _)); exact BK199.out⟩, ⟨by repeat (first | (with_reducible first | exact HB.out | apply below_alloc | apply pw_below_drewN | apply below_drew1 | refine below_set ?_ GE199.out | refine below_set ?_ GE211.out) | exact HB.out)⟩⟩
                  · rw [if_neg c20] at H
                    exact absurd H (by simp)
                · rw [if_neg c19] at H
                  exact absurd H (by simp)
              · rw [if_neg c18] at H
                exact absurd H (by simp)
            · rw [if_neg c17] at H
              have c17b0 : decide (x43_1 < (l0_2.length : Int)) = false := decide_eq_false c17
              clear c17
              by_cases c53 : (x4_1.length : Int) > 4096
              · rw [if_pos c53] at H
                have c53b0 : decide (4096 < (x4_1.length : Int)) = true := decide_eq_true c53
                have c53b1 : decide (4096 < x4_1.length) = true := decide_eq_true (by omega)
                clear c53
                simp only [Option.some.injEq, Prod.mk.injEq] at H
                obtain ⟨rfl, rfl⟩ := H
                obtain ⟨Ao54, co54, eo54⟩ := Kd.R_slice HO_4.out
                subst eo54
                go_wp2
                go_ret2
                exact ⟨_, by first | rfl | (simp [errW_none, errW_some] <;> rfl) | (simp [*, errW_none, errW_some] <;> rfl), by first | exact Kd.R_nil _ _ _ _ _ | exact Kd.N_nil _ _ _ _ _ | exact Kd.V_nil _ _ _ _ _ | exact Kd.Q_nil _ _ _ _ _ | exact Kd.S_nil _ _ _ _ _, by repeat (first | (with_reducible first | exact HB.out | apply below_alloc | apply pw_below_drewN | apply below_drew1 | refine below_set ?_ GE199.out) | exact HB.out)⟩
              · rw [if_neg c53] at H
                have c53b0 : decide (4096 < (x4_1.length : Int)) = false := decide_eq_false c53
                have c53b1 : decide (4096 < x4_1.length) = false := decide_eq_false (by omega)
                clear c53
                simp only [Option.some.injEq, Prod.mk.injEq] at H
                obtain ⟨rfl, rfl⟩ := H
                obtain ⟨Ao55, co55, eo55⟩ := Kd.R_slice HO_4.out
                subst eo55
                go_wp2
                go_ret2
                exact ⟨_, by first | rfl | (simp [errW_none, errW_some] <;> rfl) | (simp [*, errW_none, errW_some] <;> rfl), by (with_reducible repeat (first | apply Kd.R_alloc | apply Kd.R_drewN | apply Kd.R_drew)); exact HO_4.out, by repeat (first | (with_reducible first | exact HB.out | apply below_alloc | apply pw_below_drewN | apply below_drew1 | refine below_set ?_ GE199.out) | exact HB.out)⟩
      · rw [if_neg c5] at H
        exact absurd H (by simp)
    · rw [if_neg c4] at H
      exact absurd H (by simp)
  · replace c3 := Bool.eq_false_iff.mpr c3
    subst c3
    have H1 : (some (([] : List Int), 1)) = some (r1, r2) := by rw [if_neg (show ¬ (false = true) by decide)] at H; exact H
    clear H
    have H := H1
    clear H1
    simp only [Option.some.injEq, Prod.mk.injEq] at H
    obtain ⟨rfl, rfl⟩ := H
    go_enter Try.func13, Try.ntmps13
    go_wp2_with (first | ((with_reducible refine gate_dst (N := 1) rfl ?_); refine box_event ?hg (N := 1) ?hd (cs := #[.int .i64 a0_0, .slice A0_1 l0_1.length c0_1, .slice A0_2 l0_2.length c0_2]) (t := 26) ?hr ?_; (case hd => rfl); (case hg => rfl); (case hr => first | (go_simp; done) | (go_simp; rfl)); intro gb199 hg w56 hbox hb; have n0_ := Aside0.mk (below_step (by repeat (first | (with_reducible first | exact HB.out | apply below_alloc | apply pw_below_drewN | apply below_drew1) | exact HB.out)) hb); have n1_ := Aside0.mk (hbox); have n2_ := Aside0.mk ((by rw [hg]; exact (below_size (by repeat (first | (with_reducible first | exact HB.out | apply below_alloc | apply pw_below_drewN | apply below_drew1) | exact HB.out))) : w.heap.size ≤ gb199)); have n3_ := Aside0.mk ((by rw [hg]; exact (below_size (by repeat (first | (with_reducible first | exact HB.out | apply below_alloc | apply pw_below_drewN | apply below_drew1) | exact HB.out))) : w.heap.size ≤ gb199)); clear HB; have HB := n0_; have BK199 := n1_; have GW199 := n2_; have GE199 := n3_; clear n0_ n1_ n2_ n3_; clear hb hbox hg; have hcz57_0 : w56.cell? ⟨gb199, 0, none⟩ = some (.int .i64 a0_0) := (blk_cell BK199.out 0).trans rfl; have hcz57_1 : w56.cell? ⟨gb199, 1, none⟩ = some (.slice A0_1 l0_1.length c0_1) := (blk_cell BK199.out 1).trans rfl; have hcz57_2 : w56.cell? ⟨gb199, 2, none⟩ = some (.slice A0_2 l0_2.length c0_2) := (blk_cell BK199.out 2).trans rfl; have hfz57_0 := blk_frozen BK199.out 0; have hfz57_1 := blk_frozen BK199.out 1; have hfz57_2 := blk_frozen BK199.out 2) | ((with_reducible refine gate_callee (f := 23) rfl ?_); refine goesL_ (some 10) rfl rfl Try.func23 (by kernel_rfl) rfl #[.agg #[.int .i64 a0_0, .slice A0_1 l0_1.length c0_1, .slice A0_2 l0_2.length c0_2]] rfl (by (try simp only [List.map_toArray, List.map_cons, List.map_nil]); first | done | rfl | (simp only [List.length_drop, List.length_take]; rfl)) ?_; (with_reducible refine (module_right.calls k a0_0 _ _ l0_1 _ _ l0_2 false _ ?side1 ?side2 ?side3 ?side4 A2.out).mono ?_); (case side1 => repeat (first | exact (Kd.C_below HR0_1.out HB.out) | (with_reducible refine Kd.C_alloc ?_ _) | (with_reducible refine Kd.C_drewN ?_ _) | (with_reducible refine Kd.C_drew ?_))); (case side2 => exact HC0_1.out); (case side3 => repeat (first | exact (Kd.C_below HR0_2.out HB.out) | (with_reducible refine Kd.C_alloc ?_ _) | (with_reducible refine Kd.C_drewN ?_ _) | (with_reducible refine Kd.C_drew ?_))); (case side4 => exact HC0_2.out); rintro e w58 ⟨rfl, hb⟩; refine ⟨_, rfl, ?_⟩; have n0_ := Aside0.mk (blk_below (g := gb199) (o := .cells #[.int .i64 a0_0, .slice A0_1 l0_1.length c0_1, .slice A0_2 l0_2.length c0_2] 26 (0, 0)) (by (with_reducible repeat (first | refine blk_drewN ?_ _ | refine blk_drew ?_ | refine blk_alloc ?_ _)); exact BK199.out) hb); have n1_ := Aside0.mk (below_step (by repeat (first | (with_reducible first | exact HB.out | apply below_alloc | apply pw_below_drewN | apply below_drew1 | refine below_set ?_ GE199.out) | exact HB.out)) hb); clear BK199; clear HB; have BK199 := n0_; have HB := n1_; clear n0_ n1_; (try clear hb); (try clear hb2); (try clear hk); (try clear hi)))
    go_ret2
    exact ⟨_, by first | rfl | (simp [errW_none, errW_some] <;> rfl) | (simp [*, errW_none, errW_some] <;> rfl), by first | exact Kd.R_nil _ _ _ _ _ | exact Kd.N_nil _ _ _ _ _ | exact Kd.V_nil _ _ _ _ _ | exact Kd.Q_nil _ _ _ _ _ | exact Kd.S_nil _ _ _ _ _, by repeat (first | (with_reducible first | exact HB.out | apply below_alloc | apply pw_below_drewN | apply below_drew1 | refine below_set ?_ GE199.out) | exact HB.out)⟩

end Go.Proofs.Ytbdkphjpdoajpaa.Q
