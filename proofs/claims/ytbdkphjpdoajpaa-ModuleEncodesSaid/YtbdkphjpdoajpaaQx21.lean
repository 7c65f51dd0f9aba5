-- written by a program of this session after the way of the kit's print; not the kit's own print. Lean checks it.
import Derived.Test.YtbdkphjpdoajpaaQx0
import Derived.Test.YtbdkphjpdoajpaaQx1
import Derived.Test.YtbdkphjpdoajpaaQx20
namespace Go.Proofs.Ytbdkphjpdoajpaa.Q
open Go.RowKit Go.Proofs.YtbdkphjpdoajpaaW.PrintWords Go.Proofs.YtbdkphjpdoajpaaW.PrintLast Go.Proofs.YtbdkphjpdoajpaaW.PrintMore
attribute [local go_sem] max2_int min2_int max_two min_two max_three min_three max_four min_four   -- for this text's walks alone
set_option linter.unusedVariables false
set_option linter.unusedSimpArgs false

attribute [local go_sem high] eqA41
/-! ### casementref12_Same: function 12 -/
mutual
def casementref12_Same.j0 : Nat → Bool → Int → List Int → List (S44) → Int → List Int → List (S44) → Option (Bool)
  | 0, _, _, _, _, _, _, _ => none
  | k + 1, x30, x367000, x367001, x367002, x368000, x368001, x368002 => if x30 = true then (some false) else (casementref12_Same.l0 k 0 x367000 x367001 x367002 x368000 x368001 x368002)
def casementref12_Same.l0 : Nat → Int → Int → List Int → List (S44) → Int → List Int → List (S44) → Option (Bool)
  | 0, _, _, _, _, _, _, _ => none
  | k + 1, x5, x367000, x367001, x367002, x368000, x368001, x368002 => if x5 < (x367002.length : Int) then (if 0 ≤ x5 then (if x5 < (x368002.length : Int) then (if ((rd_T44 x367002 x5).f0) = ((rd_T44 x368002 x5).f0) then (if ((rd_T44 x367002 x5).f1) = ((rd_T44 x368002 x5).f1) then (if ((rd_T44 x367002 x5).f2) = ((rd_T44 x368002 x5).f2) then (casementref12_Same.j2 k x5 ((((rd_T44 x367002 x5).f3).length : Int) != (((rd_T44 x368002 x5).f3).length : Int)) x367000 x367001 x367002 x368000 x368001 x368002 ((rd_T44 x367002 x5).f0) ((rd_T44 x367002 x5).f1) ((rd_T44 x367002 x5).f2) ((rd_T44 x367002 x5).f3) ((rd_T44 x368002 x5).f0) ((rd_T44 x368002 x5).f1) ((rd_T44 x368002 x5).f2) ((rd_T44 x368002 x5).f3)) else (casementref12_Same.j2 k x5 true x367000 x367001 x367002 x368000 x368001 x368002 ((rd_T44 x367002 x5).f0) ((rd_T44 x367002 x5).f1) ((rd_T44 x367002 x5).f2) ((rd_T44 x367002 x5).f3) ((rd_T44 x368002 x5).f0) ((rd_T44 x368002 x5).f1) ((rd_T44 x368002 x5).f2) ((rd_T44 x368002 x5).f3))) else (casementref12_Same.j2 k x5 true x367000 x367001 x367002 x368000 x368001 x368002 ((rd_T44 x367002 x5).f0) ((rd_T44 x367002 x5).f1) ((rd_T44 x367002 x5).f2) ((rd_T44 x367002 x5).f3) ((rd_T44 x368002 x5).f0) ((rd_T44 x368002 x5).f1) ((rd_T44 x368002 x5).f2) ((rd_T44 x368002 x5).f3))) else (casementref12_Same.j2 k x5 true x367000 x367001 x367002 x368000 x368001 x368002 ((rd_T44 x367002 x5).f0) ((rd_T44 x367002 x5).f1) ((rd_T44 x367002 x5).f2) ((rd_T44 x367002 x5).f3) ((rd_T44 x368002 x5).f0) ((rd_T44 x368002 x5).f1) ((rd_T44 x368002 x5).f2) ((rd_T44 x368002 x5).f3))) else (none)) else (none)) else (some true)
def casementref12_Same.j2 : Nat → Int → Bool → Int → List Int → List (S44) → Int → List Int → List (S44) → Int → Int → Int → List (S41) → Int → Int → Int → List (S41) → Option (Bool)
  | 0, _, _, _, _, _, _, _, _, _, _, _, _, _, _, _, _ => none
  | k + 1, x5, x75, x367000, x367001, x367002, x368000, x368001, x368002, x372000, x372001, x372002, x372003, x373000, x373001, x373002, x373003 => if x75 = true then (some false) else (casementref12_Same.l1 k x5 0 x367000 x367001 x367002 x368000 x368001 x368002 x372000 x372001 x372002 x372003 x373000 x373001 x373002 x373003)
def casementref12_Same.l1 : Nat → Int → Int → Int → List Int → List (S44) → Int → List Int → List (S44) → Int → Int → Int → List (S41) → Int → Int → Int → List (S41) → Option (Bool)
  | 0, _, _, _, _, _, _, _, _, _, _, _, _, _, _, _, _ => none
  | k + 1, x5, x8, x367000, x367001, x367002, x368000, x368001, x368002, x372000, x372001, x372002, x372003, x373000, x373001, x373002, x373003 => if x8 < (x372003.length : Int) then (if 0 ≤ x8 then (if x8 < (x373003.length : Int) then (if (!(((rd_T41 x372003 x8).f0) == ((rd_T41 x373003 x8).f0)) || (!(((rd_T41 x372003 x8).f1) == ((rd_T41 x373003 x8).f1)))) = true then (some false) else (casementref12_Same.l1 k x5 (wrap64 (x8 + 1)) x367000 x367001 x367002 x368000 x368001 x368002 x372000 x372001 x372002 x372003 x373000 x373001 x373002 x373003)) else (none)) else (none)) else (casementref12_Same.l0 k (wrap64 (x5 + 1)) x367000 x367001 x367002 x368000 x368001 x368002)
end
def casementref12_Same.f (k : Nat) (a0_0 : Int) (l0_1 : List Int) (l0_2 : List (S44)) (a1_0 : Int) (l1_1 : List Int) (l1_2 : List (S44)) : Option (Bool) := if a0_0 = a1_0 then ((casementref01_SameBytes.f k l0_1 l1_1).bind fun t368 => (if t368 = true then (casementref12_Same.j0 k ((l0_2.length : Int) != (l1_2.length : Int)) a0_0 l0_1 l0_2 a1_0 l1_1 l1_2) else (casementref12_Same.j0 k true a0_0 l0_1 l0_2 a1_0 l1_1 l1_2))) else (casementref12_Same.j0 k true a0_0 l0_1 l0_2 a1_0 l1_1 l1_2)
theorem casementref12_Same.mono_l : ∀ k, (∀ y0 y1 y2 y3 y4 y5 y6, LeO (casementref12_Same.j0 k y0 y1 y2 y3 y4 y5 y6) (casementref12_Same.j0 (k + 1) y0 y1 y2 y3 y4 y5 y6)) ∧ (∀ y0 y1 y2 y3 y4 y5 y6, LeO (casementref12_Same.l0 k y0 y1 y2 y3 y4 y5 y6) (casementref12_Same.l0 (k + 1) y0 y1 y2 y3 y4 y5 y6)) ∧ (∀ y0 y1 y2 y3 y4 y5 y6 y7 y8 y9 y10 y11 y12 y13 y14 y15, LeO (casementref12_Same.j2 k y0 y1 y2 y3 y4 y5 y6 y7 y8 y9 y10 y11 y12 y13 y14 y15) (casementref12_Same.j2 (k + 1) y0 y1 y2 y3 y4 y5 y6 y7 y8 y9 y10 y11 y12 y13 y14 y15)) ∧ (∀ y0 y1 y2 y3 y4 y5 y6 y7 y8 y9 y10 y11 y12 y13 y14 y15, LeO (casementref12_Same.l1 k y0 y1 y2 y3 y4 y5 y6 y7 y8 y9 y10 y11 y12 y13 y14 y15) (casementref12_Same.l1 (k + 1) y0 y1 y2 y3 y4 y5 y6 y7 y8 y9 y10 y11 y12 y13 y14 y15))
  | 0 => ⟨fun _ _ _ _ _ _ _ r h => by simp [casementref12_Same.j0] at h, fun _ _ _ _ _ _ _ r h => by simp [casementref12_Same.l0] at h, fun _ _ _ _ _ _ _ _ _ _ _ _ _ _ _ _ r h => by simp [casementref12_Same.j2] at h, fun _ _ _ _ _ _ _ _ _ _ _ _ _ _ _ _ r h => by simp [casementref12_Same.l1] at h⟩
  | k + 1 => by
    obtain ⟨ih0, ih1, ih2, ih3⟩ := casementref12_Same.mono_l k
    refine ⟨?_, ?_, ?_, ?_⟩
    · intro y0 y1 y2 y3 y4 y5 y6
      unfold casementref12_Same.j0
      repeat' first
      | (with_reducible exact ih0 _ _ _ _ _ _ _)
      | (with_reducible exact ih1 _ _ _ _ _ _ _)
      | (with_reducible exact ih2 _ _ _ _ _ _ _ _ _ _ _ _ _ _ _ _)
      | (with_reducible exact ih3 _ _ _ _ _ _ _ _ _ _ _ _ _ _ _ _)
      | (with_reducible exact casementref01_SameBytes.mono _ _ _)
      | (with_reducible exact LeO.refl _)
      | (with_reducible exact LeO.none _)
      | (with_reducible refine LeO.ite ?_ ?_)
      | (with_reducible refine LeO.bind ?_ (fun _ => ?_))
      | exact ih0 _ _ _ _ _ _ _
      | exact ih1 _ _ _ _ _ _ _
      | exact ih2 _ _ _ _ _ _ _ _ _ _ _ _ _ _ _ _
      | exact ih3 _ _ _ _ _ _ _ _ _ _ _ _ _ _ _ _
      | exact casementref01_SameBytes.mono _ _ _
      | exact LeO.none _
      | refine LeO.ite ?_ ?_
      | refine LeO.bind ?_ (fun _ => ?_)
    · intro y0 y1 y2 y3 y4 y5 y6
      unfold casementref12_Same.l0
      repeat' first
      | (with_reducible exact ih0 _ _ _ _ _ _ _)
      | (with_reducible exact ih1 _ _ _ _ _ _ _)
      | (with_reducible exact ih2 _ _ _ _ _ _ _ _ _ _ _ _ _ _ _ _)
      | (with_reducible exact ih3 _ _ _ _ _ _ _ _ _ _ _ _ _ _ _ _)
      | (with_reducible exact casementref01_SameBytes.mono _ _ _)
      | (with_reducible exact LeO.refl _)
      | (with_reducible exact LeO.none _)
      | (with_reducible refine LeO.ite ?_ ?_)
      | (with_reducible refine LeO.bind ?_ (fun _ => ?_))
      | exact ih0 _ _ _ _ _ _ _
      | exact ih1 _ _ _ _ _ _ _
      | exact ih2 _ _ _ _ _ _ _ _ _ _ _ _ _ _ _ _
      | exact ih3 _ _ _ _ _ _ _ _ _ _ _ _ _ _ _ _
      | exact casementref01_SameBytes.mono _ _ _
      | exact LeO.none _
      | refine LeO.ite ?_ ?_
      | refine LeO.bind ?_ (fun _ => ?_)
    · intro y0 y1 y2 y3 y4 y5 y6 y7 y8 y9 y10 y11 y12 y13 y14 y15
      unfold casementref12_Same.j2
      repeat' first
      | (with_reducible exact ih0 _ _ _ _ _ _ _)
      | (with_reducible exact ih1 _ _ _ _ _ _ _)
      | (with_reducible exact ih2 _ _ _ _ _ _ _ _ _ _ _ _ _ _ _ _)
      | (with_reducible exact ih3 _ _ _ _ _ _ _ _ _ _ _ _ _ _ _ _)
      | (with_reducible exact casementref01_SameBytes.mono _ _ _)
      | (with_reducible exact LeO.refl _)
      | (with_reducible exact LeO.none _)
      | (with_reducible refine LeO.ite ?_ ?_)
      | (with_reducible refine LeO.bind ?_ (fun _ => ?_))
      | exact ih0 _ _ _ _ _ _ _
      | exact ih1 _ _ _ _ _ _ _
      | exact ih2 _ _ _ _ _ _ _ _ _ _ _ _ _ _ _ _
      | exact ih3 _ _ _ _ _ _ _ _ _ _ _ _ _ _ _ _
      | exact casementref01_SameBytes.mono _ _ _
      | exact LeO.none _
      | refine LeO.ite ?_ ?_
      | refine LeO.bind ?_ (fun _ => ?_)
    · intro y0 y1 y2 y3 y4 y5 y6 y7 y8 y9 y10 y11 y12 y13 y14 y15
      unfold casementref12_Same.l1
      repeat' first
      | (with_reducible exact ih0 _ _ _ _ _ _ _)
      | (with_reducible exact ih1 _ _ _ _ _ _ _)
      | (with_reducible exact ih2 _ _ _ _ _ _ _ _ _ _ _ _ _ _ _ _)
      | (with_reducible exact ih3 _ _ _ _ _ _ _ _ _ _ _ _ _ _ _ _)
      | (with_reducible exact casementref01_SameBytes.mono _ _ _)
      | (with_reducible exact LeO.refl _)
      | (with_reducible exact LeO.none _)
      | (with_reducible refine LeO.ite ?_ ?_)
      | (with_reducible refine LeO.bind ?_ (fun _ => ?_))
      | exact ih0 _ _ _ _ _ _ _
      | exact ih1 _ _ _ _ _ _ _
      | exact ih2 _ _ _ _ _ _ _ _ _ _ _ _ _ _ _ _
      | exact ih3 _ _ _ _ _ _ _ _ _ _ _ _ _ _ _ _
      | exact casementref01_SameBytes.mono _ _ _
      | exact LeO.none _
      | refine LeO.ite ?_ ?_
      | refine LeO.bind ?_ (fun _ => ?_)
theorem casementref12_Same.mono : ∀ a0 a1 a2 a3 a4 a5 k, LeO (casementref12_Same.f k a0 a1 a2 a3 a4 a5) (casementref12_Same.f (k + 1) a0 a1 a2 a3 a4 a5) := by
  intro a0 a1 a2 a3 a4 a5 k
  obtain ⟨ih0, ih1, ih2, ih3⟩ := casementref12_Same.mono_l k
  unfold casementref12_Same.f
  repeat' first
      | (with_reducible exact ih0 _ _ _ _ _ _ _)
      | (with_reducible exact ih1 _ _ _ _ _ _ _)
      | (with_reducible exact ih2 _ _ _ _ _ _ _ _ _ _ _ _ _ _ _ _)
      | (with_reducible exact ih3 _ _ _ _ _ _ _ _ _ _ _ _ _ _ _ _)
      | (with_reducible exact casementref01_SameBytes.mono _ _ _)
      | (with_reducible exact LeO.refl _)
      | (with_reducible exact LeO.none _)
      | (with_reducible refine LeO.ite ?_ ?_)
      | (with_reducible refine LeO.bind ?_ (fun _ => ?_))
      | exact ih0 _ _ _ _ _ _ _
      | exact ih1 _ _ _ _ _ _ _
      | exact ih2 _ _ _ _ _ _ _ _ _ _ _ _ _ _ _ _
      | exact ih3 _ _ _ _ _ _ _ _ _ _ _ _ _ _ _ _
      | exact casementref01_SameBytes.mono _ _ _
      | exact LeO.none _
      | refine LeO.ite ?_ ?_
      | refine LeO.bind ?_ (fun _ => ?_)
def casementref12_Same.T6 : Bool × List (List Nat × List Nat) := (true, [([], []), ([0], [0]), ([], []), ([1, 2], [1, 2]), ([3], [3]), ([], []), ([5], [5]), ([], []), ([6, 7], [6, 7]), ([8], [8]), ([], []), ([], []), ([10, 4, 0, 1, 2, 3, 4, 10, 11], [4, 10]), ([11, 9, 12, 0, 1, 2, 3, 4, 5, 6, 7, 8, 9, 10, 11, 12], [9, 11])])
def casementref12_Same.B6 : List Nat := [0, 1, 0, 7, 15, 0, 32, 0, 224, 480, 0, 0, 3103, 8191]
theorem casementref12_Same.tab6 : rtab .any (opsOf Try.f12 6) = casementref12_Same.T6 := by kernel_rfl
theorem casementref12_Same.bits6 : waitsOk casementref12_Same.T6.2 casementref12_Same.B6 = true := by kernel_rfl
def casementref12_Same.T12 : Bool × List (List Nat × List Nat) := (true, [([], []), ([0], [0]), ([], []), ([1, 2], [1, 2]), ([3], [3]), ([], []), ([5], [5]), ([], []), ([6, 7], [6, 7]), ([8], [8]), ([4, 9], [4, 9])])
def casementref12_Same.B12 : List Nat := [0, 1, 0, 7, 15, 0, 32, 0, 224, 480, 1023]
theorem casementref12_Same.tab12 : rtab .any (opsOf Try.f12 12) = casementref12_Same.T12 := by kernel_rfl
theorem casementref12_Same.bits12 : waitsOk casementref12_Same.T12.2 casementref12_Same.B12 = true := by kernel_rfl
set_option maxHeartbeats 8000000 in
set_option maxRecDepth 100000 in
theorem casementref12_Same.calls (k : Nat) (a0_0 : Int) (A0_1 : Option Addr) (c0_1 : Nat) (l0_1 : List Int) (A0_2 : Option Addr) (c0_2 : Nat) (l0_2 : List (S44)) (a1_0 : Int) (A1_1 : Option Addr) (c1_1 : Nat) (l1_1 : List Int) (A1_2 : Option Addr) (c1_2 : Nat) (l1_2 : List (S44)) (r : Bool) (w : World) (hr0_1 : Kd.C (Kd.int .u8) w A0_1 l0_1.length l0_1) (hc0_1 : l0_1.length ≤ c0_1) (hr0_2 : Kd.C k44 w A0_2 l0_2.length l0_2) (hc0_2 : l0_2.length ≤ c0_2) (hr1_1 : Kd.C (Kd.int .u8) w A1_1 l1_1.length l1_1) (hc1_1 : l1_1.length ≤ c1_1) (hr1_2 : Kd.C k44 w A1_2 l1_2.length l1_2) (hc1_2 : l1_2.length ≤ c1_2) (h : casementref12_Same.f k a0_0 l0_1 l0_2 a1_0 l1_1 l1_2 = some r) :
    Calls Try.prog 12 #[.agg #[.int .i64 a0_0, .slice A0_1 l0_1.length c0_1, .slice A0_2 l0_2.length c0_2], .agg #[.int .i64 a1_0, .slice A1_1 l1_1.length c1_1, .slice A1_2 l1_2.length c1_2]] w fun e w' => e = .returned (.bool r) ∧ Below w.heap.size w w' := by
  have hu26 := Try.underlying26
  have hu44 := Try.underlying44
  have hu41 := Try.underlying41
  have HR0_1 := Aside0.mk hr0_1
  have HC0_1 := Aside0.mk hc0_1
  clear hr0_1 hc0_1
  have HR0_2 := Aside0.mk hr0_2
  have HC0_2 := Aside0.mk hc0_2
  clear hr0_2 hc0_2
  have HR1_1 := Aside0.mk hr1_1
  have HC1_1 := Aside0.mk hc1_1
  clear hr1_1 hc1_1
  have HR1_2 := Aside0.mk hr1_2
  have HC1_2 := Aside0.mk hc1_2
  clear hr1_2 hc1_2
  have HB := Aside0.mk (Below.refl w.heap.size w)
  have H : (if a0_0 = a1_0 then ((casementref01_SameBytes.f k l0_1 l1_1).bind fun t368 => (if t368 = true then (casementref12_Same.j0 k ((l0_2.length : Int) != (l1_2.length : Int)) a0_0 l0_1 l0_2 a1_0 l1_1 l1_2) else (casementref12_Same.j0 k true a0_0 l0_1 l0_2 a1_0 l1_1 l1_2))) else (casementref12_Same.j0 k true a0_0 l0_1 l0_2 a1_0 l1_1 l1_2)) = some r := h
  clear h
  have HC3 := Aside0.mk H
  clear H
  go_enter Try.func12, Try.ntmps12
  go_upto_region 1 with (first | ((with_reducible refine gate_dst (N := 2) rfl ?_); (try (refine gate_guard (by rfl) ?_; dsimp only)); refine box_event ?hg (N := 2) ?hd (cs := #[.int .i64 a0_0, .slice A0_1 l0_1.length c0_1, .slice A0_2 l0_2.length c0_2]) (t := 26) ?hr ?_; (case hd => rfl); (case hg => rfl); (case hr => first | (go_simp; done) | (go_simp; rfl)); intro gb366 hg w4 hbox hb; have n0_ := Aside0.mk (below_step (by repeat (first | (with_reducible first | exact HB.out | apply below_alloc | apply pw_below_drewN | apply below_drew1) | exact HB.out)) hb); have n1_ := Aside0.mk (hbox); have n2_ := Aside0.mk ((by rw [hg]; exact (below_size (by repeat (first | (with_reducible first | exact HB.out | apply below_alloc | apply pw_below_drewN | apply below_drew1) | exact HB.out))) : w.heap.size ≤ gb366)); have n3_ := Aside0.mk ((by rw [hg]; exact (below_size (by repeat (first | (with_reducible first | exact HB.out | apply below_alloc | apply pw_below_drewN | apply below_drew1) | exact HB.out))) : w.heap.size ≤ gb366)); clear HB; have HB := n0_; have BK366 := n1_; have GW366 := n2_; have GE366 := n3_; clear n0_ n1_ n2_ n3_; clear hb hbox hg) | ((with_reducible refine gate_dst (N := 3) rfl ?_); (try (refine gate_guard (by rfl) ?_; dsimp only)); refine box_event ?hg (N := 3) ?hd (cs := #[.int .i64 a1_0, .slice A1_1 l1_1.length c1_1, .slice A1_2 l1_2.length c1_2]) (t := 26) ?hr ?_; (case hd => rfl); (case hg => rfl); (case hr => first | (go_simp; done) | (go_simp; rfl)); intro gb367 hg w5 hbox hb; have n0_ := Aside0.mk (blk_below (g := gb366) (o := .cells #[.int .i64 a0_0, .slice A0_1 l0_1.length c0_1, .slice A0_2 l0_2.length c0_2] 26 (0, 0)) (by (with_reducible repeat (first | refine blk_drewN ?_ _ | refine blk_drew ?_ | refine blk_alloc ?_ _)); exact BK366.out) hb); have n1_ := Aside0.mk (below_step (by repeat (first | (with_reducible first | exact HB.out | apply below_alloc | apply pw_below_drewN | apply below_drew1 | refine below_set ?_ GE366.out) | exact HB.out)) hb); have n2_ := Aside0.mk (hbox); have n3_ := Aside0.mk ((by rw [hg]; exact (below_size (by repeat (first | (with_reducible first | exact HB.out | apply below_alloc | apply pw_below_drewN | apply below_drew1 | refine below_set ?_ GE366.out) | exact HB.out))) : w.heap.size ≤ gb367)); have n4_ := Aside0.mk ((by rw [hg]; exact (below_size (by repeat (first | (with_reducible first | exact HB.out | apply below_alloc | apply pw_below_drewN | apply below_drew1 | refine below_set ?_ GE366.out) | exact HB.out))) : w.heap.size ≤ gb367)); have n5_ := Aside0.mk ((by rw [hg]; exact Nat.ne_of_lt (blk_lt (g := gb366) (o := .cells #[.int .i64 a0_0, .slice A0_1 l0_1.length c0_1, .slice A0_2 l0_2.length c0_2] 26 (0, 0)) (by (with_reducible repeat (first | refine blk_drewN ?_ _ | refine blk_drew ?_ | refine blk_alloc ?_ _)); exact BK366.out)) : gb366 ≠ gb367)); have n6_ := Aside0.mk ((by rw [hg]; exact Nat.ne_of_gt (blk_lt (g := gb366) (o := .cells #[.int .i64 a0_0, .slice A0_1 l0_1.length c0_1, .slice A0_2 l0_2.length c0_2] 26 (0, 0)) (by (with_reducible repeat (first | refine blk_drewN ?_ _ | refine blk_drew ?_ | refine blk_alloc ?_ _)); exact BK366.out)) : gb367 ≠ gb366)); clear BK366; clear HB; have BK366 := n0_; have HB := n1_; have BK367 := n2_; have GW367 := n3_; have GE367 := n4_; have NB366_367 := n5_; have NB367_366 := n6_; clear n0_ n1_ n2_ n3_ n4_ n5_ n6_; clear hb hbox hg))
  (try simp only [Act.put, List.setIfInBounds_toArray, List.set_cons_zero, List.set_cons_succ])
  go_cut [30] (fun v30 wc => ∃ (kq : Nat) (x30_2 : Bool), v30 = .bool x30_2 ∧ Aside0 (casementref12_Same.j0 kq x30_2 a0_0 l0_1 l0_2 a1_0 l1_1 l1_2 = some r) ∧ Aside0 (kq ≤ k) ∧ Aside0 (wc.heap[gb366]? = some (.cells #[.int .i64 a0_0, (.slice A0_1 l0_1.length c0_1), (.slice A0_2 l0_2.length c0_2)] 26 (0, 0))) ∧ Aside0 (wc.heap[gb367]? = some (.cells #[.int .i64 a1_0, (.slice A1_1 l1_1.length c1_1), (.slice A1_2 l1_2.length c1_2)] 26 (0, 0))) ∧ Aside0 (Below w.heap.size w wc))
  case first =>
    have H := HC3.out
    clear HC3
    by_cases c6 : a0_0 = a1_0
    · rw [if_pos c6] at H
      have c6b0 : (a0_0 == a1_0) = true := beq_iff_eq.mpr c6
      have c6b1 : (a0_0 != a1_0) = false := bne_eq_false_iff_eq.mpr c6
      clear c6
      (first | rw [c6b0] | (simp only [i64_w, i32_w]; rw [c6b0]) | skip)
      replace H := Option.bind_eq_some_iff.mp H
      obtain ⟨t368, A70, H⟩ := H
      replace H : (if t368 = true then (casementref12_Same.j0 k ((l0_2.length : Int) != (l1_2.length : Int)) a0_0 l0_1 l0_2 a1_0 l1_1 l1_2) else (casementref12_Same.j0 k true a0_0 l0_1 l0_2 a1_0 l1_1 l1_2)) = some r := H
      have A7 := Aside0.mk A70
      clear A70
      by_cases c8 : t368 = true
      · subst c8
        have H1 : (casementref12_Same.j0 k ((l0_2.length : Int) != (l1_2.length : Int)) a0_0 l0_1 l0_2 a1_0 l1_1 l1_2) = some r := by rw [if_pos rfl] at H; exact H
        clear H
        have H := H1
        clear H1
        have H' := Aside0.mk H
        clear H
        have hnb9 := NB366_367.out
        have hnc9 := NB367_366.out
        have hcz10_0 : w5.cell? ⟨gb366, 0, none⟩ = some (.int .i64 a0_0) := (blk_cell BK366.out 0).trans rfl
        have hcz10_1 : w5.cell? ⟨gb366, 1, none⟩ = some (.slice A0_1 l0_1.length c0_1) := (blk_cell BK366.out 1).trans rfl
        have hcz10_2 : w5.cell? ⟨gb366, 2, none⟩ = some (.slice A0_2 l0_2.length c0_2) := (blk_cell BK366.out 2).trans rfl
        have hfz10_0 := blk_frozen BK366.out 0
        have hfz10_1 := blk_frozen BK366.out 1
        have hfz10_2 := blk_frozen BK366.out 2
        have hcz11_0 : w5.cell? ⟨gb367, 0, none⟩ = some (.int .i64 a1_0) := (blk_cell BK367.out 0).trans rfl
        have hcz11_1 : w5.cell? ⟨gb367, 1, none⟩ = some (.slice A1_1 l1_1.length c1_1) := (blk_cell BK367.out 1).trans rfl
        have hcz11_2 : w5.cell? ⟨gb367, 2, none⟩ = some (.slice A1_2 l1_2.length c1_2) := (blk_cell BK367.out 2).trans rfl
        have hfz11_0 := blk_frozen BK367.out 0
        have hfz11_1 := blk_frozen BK367.out 1
        have hfz11_2 := blk_frozen BK367.out 2
        go_wp2_with (first | (go_at_call 15; (with_reducible refine (casementref01_SameBytes.calls k _ _ l0_1 _ _ l1_1 true _ ?side1 ?side2 ?side3 ?side4 A7.out).mono ?_); (case side1 => repeat (first | exact (Kd.C_below HR0_1.out HB.out) | (with_reducible refine Kd.C_alloc ?_ _) | (with_reducible refine Kd.C_drewN ?_ _) | (with_reducible refine Kd.C_drew ?_))); (case side2 => exact HC0_1.out); (case side3 => repeat (first | exact (Kd.C_below HR1_1.out HB.out) | (with_reducible refine Kd.C_alloc ?_ _) | (with_reducible refine Kd.C_drewN ?_ _) | (with_reducible refine Kd.C_drew ?_))); (case side4 => exact HC1_1.out); rintro e w' ⟨rfl, ⟨nd, rfl⟩⟩))
        go_meet
        case rel => exact ⟨_, (((l0_2.length : Int) != (l1_2.length : Int))), (by first | rfl | (simp; done) | (simp [*]; done)), H', ⟨by first | omega | exact Nat.le_refl _⟩, ⟨by (with_reducible repeat (first | refine blk_drewN ?_ _ | refine blk_drew ?_ | refine blk_alloc ?_ _)); exact BK366.out⟩, ⟨by (with_reducible repeat (first | refine blk_drewN ?_ _ | refine blk_drew ?_ | refine blk_alloc ?_ _)); exact BK367.out⟩, ⟨by repeat (first | (with_reducible first | exact HB.out | apply below_alloc | apply pw_below_drewN | apply below_drew1 | refine below_set ?_ GE366.out | refine below_set ?_ GE367.out) | exact HB.out)⟩⟩
      · replace c8 := Bool.eq_false_iff.mpr c8
        subst c8
        have H1 : (casementref12_Same.j0 k true a0_0 l0_1 l0_2 a1_0 l1_1 l1_2) = some r := by rw [if_neg (show ¬ (false = true) by decide)] at H; exact H
        clear H
        have H := H1
        clear H1
        have H' := Aside0.mk H
        clear H
        have hnb12 := NB366_367.out
        have hnc12 := NB367_366.out
        have hcz13_0 : w5.cell? ⟨gb366, 0, none⟩ = some (.int .i64 a0_0) := (blk_cell BK366.out 0).trans rfl
        have hcz13_1 : w5.cell? ⟨gb366, 1, none⟩ = some (.slice A0_1 l0_1.length c0_1) := (blk_cell BK366.out 1).trans rfl
        have hcz13_2 : w5.cell? ⟨gb366, 2, none⟩ = some (.slice A0_2 l0_2.length c0_2) := (blk_cell BK366.out 2).trans rfl
        have hfz13_0 := blk_frozen BK366.out 0
        have hfz13_1 := blk_frozen BK366.out 1
        have hfz13_2 := blk_frozen BK366.out 2
        have hcz14_0 : w5.cell? ⟨gb367, 0, none⟩ = some (.int .i64 a1_0) := (blk_cell BK367.out 0).trans rfl
        have hcz14_1 : w5.cell? ⟨gb367, 1, none⟩ = some (.slice A1_1 l1_1.length c1_1) := (blk_cell BK367.out 1).trans rfl
        have hcz14_2 : w5.cell? ⟨gb367, 2, none⟩ = some (.slice A1_2 l1_2.length c1_2) := (blk_cell BK367.out 2).trans rfl
        have hfz14_0 := blk_frozen BK367.out 0
        have hfz14_1 := blk_frozen BK367.out 1
        have hfz14_2 := blk_frozen BK367.out 2
        go_wp2_with (first | (go_at_call 15; (with_reducible refine (casementref01_SameBytes.calls k _ _ l0_1 _ _ l1_1 false _ ?side1 ?side2 ?side3 ?side4 A7.out).mono ?_); (case side1 => repeat (first | exact (Kd.C_below HR0_1.out HB.out) | (with_reducible refine Kd.C_alloc ?_ _) | (with_reducible refine Kd.C_drewN ?_ _) | (with_reducible refine Kd.C_drew ?_))); (case side2 => exact HC0_1.out); (case side3 => repeat (first | exact (Kd.C_below HR1_1.out HB.out) | (with_reducible refine Kd.C_alloc ?_ _) | (with_reducible refine Kd.C_drewN ?_ _) | (with_reducible refine Kd.C_drew ?_))); (case side4 => exact HC1_1.out); rintro e w' ⟨rfl, ⟨nd, rfl⟩⟩))
        go_meet
        case rel => exact ⟨_, (true), (by first | rfl | (simp; done) | (simp [*]; done)), H', ⟨by first | omega | exact Nat.le_refl _⟩, ⟨by (with_reducible repeat (first | refine blk_drewN ?_ _ | refine blk_drew ?_ | refine blk_alloc ?_ _)); exact BK366.out⟩, ⟨by (with_reducible repeat (first | refine blk_drewN ?_ _ | refine blk_drew ?_ | refine blk_alloc ?_ _)); exact BK367.out⟩, ⟨by repeat (first | (with_reducible first | exact HB.out | apply below_alloc | apply pw_below_drewN | apply below_drew1 | refine below_set ?_ GE366.out | refine below_set ?_ GE367.out) | exact HB.out)⟩⟩
    · rw [if_neg c6] at H
      have c6b0 : (a0_0 == a1_0) = false := beq_eq_false_iff_ne.mpr c6
      have c6b1 : (a0_0 != a1_0) = true := bne_iff_ne.mpr c6
      (first | rw [c6b0] | (simp only [i64_w, i32_w]; rw [c6b0]) | skip)
      have H' := Aside0.mk H
      clear H
      have hnb15 := NB366_367.out
      have hnc15 := NB367_366.out
      have hcz16_0 : w5.cell? ⟨gb366, 0, none⟩ = some (.int .i64 a0_0) := (blk_cell BK366.out 0).trans rfl
      have hcz16_1 : w5.cell? ⟨gb366, 1, none⟩ = some (.slice A0_1 l0_1.length c0_1) := (blk_cell BK366.out 1).trans rfl
      have hcz16_2 : w5.cell? ⟨gb366, 2, none⟩ = some (.slice A0_2 l0_2.length c0_2) := (blk_cell BK366.out 2).trans rfl
      have hfz16_0 := blk_frozen BK366.out 0
      have hfz16_1 := blk_frozen BK366.out 1
      have hfz16_2 := blk_frozen BK366.out 2
      have hcz17_0 : w5.cell? ⟨gb367, 0, none⟩ = some (.int .i64 a1_0) := (blk_cell BK367.out 0).trans rfl
      have hcz17_1 : w5.cell? ⟨gb367, 1, none⟩ = some (.slice A1_1 l1_1.length c1_1) := (blk_cell BK367.out 1).trans rfl
      have hcz17_2 : w5.cell? ⟨gb367, 2, none⟩ = some (.slice A1_2 l1_2.length c1_2) := (blk_cell BK367.out 2).trans rfl
      have hfz17_0 := blk_frozen BK367.out 0
      have hfz17_1 := blk_frozen BK367.out 1
      have hfz17_2 := blk_frozen BK367.out 2
      go_wp2
      go_meet
      case rel => exact ⟨_, (true), (by first | rfl | (simp; done) | (simp [*]; done)), H', ⟨by first | omega | exact Nat.le_refl _⟩, ⟨by (with_reducible repeat (first | refine blk_drewN ?_ _ | refine blk_drew ?_ | refine blk_alloc ?_ _)); exact BK366.out⟩, ⟨by (with_reducible repeat (first | refine blk_drewN ?_ _ | refine blk_drew ?_ | refine blk_alloc ?_ _)); exact BK367.out⟩, ⟨by repeat (first | (with_reducible first | exact HB.out | apply below_alloc | apply pw_below_drewN | apply below_drew1 | refine below_set ?_ GE366.out | refine below_set ?_ GE367.out) | exact HB.out)⟩⟩
  case rest =>
    clear HC3
    try clear c1
    try clear p2
    try clear c6
    try clear c6b0
    try clear c6b1
    try clear c8
    try clear c9
    try clear c12
    try clear c15
    try clear hcz10_0
    try clear hcz10_1
    try clear hcz10_2
    try clear hcz11_0
    try clear hcz11_1
    try clear hcz11_2
    try clear hcz13_0
    try clear hcz13_1
    try clear hcz13_2
    try clear hcz14_0
    try clear hcz14_1
    try clear hcz14_2
    try clear hcz16_0
    try clear hcz16_1
    try clear hcz16_2
    try clear hcz17_0
    try clear hcz17_1
    try clear hcz17_2
    try clear hfz10_0
    try clear hfz10_1
    try clear hfz10_2
    try clear hfz11_0
    try clear hfz11_1
    try clear hfz11_2
    try clear hfz13_0
    try clear hfz13_1
    try clear hfz13_2
    try clear hfz14_0
    try clear hfz14_1
    try clear hfz14_2
    try clear hfz16_0
    try clear hfz16_1
    try clear hfz16_2
    try clear hfz17_0
    try clear hfz17_1
    try clear hfz17_2
    obtain ⟨kq, x30_2, rfl, HA, HJ2, BK366, BK367, HB⟩ := hcut
    cases kq with
    | zero => exact absurd HA.out (by simp [casementref12_Same.j0])
    | succ kj2 =>
      have H := HA.out
      clear HA
      simp only [casementref12_Same.j0] at H
      by_cases c18 : x30_2 = true
      · subst c18
        have H1 : (some false) = some r := by rw [if_pos rfl] at H; exact H
        clear H
        have H := H1
        clear H1
        obtain rfl := Option.some.inj H
        go_wp2
        go_ret
        exact ⟨by first | rfl | (simp [errW_none, errW_some] <;> rfl) | (simp [*, errW_none, errW_some] <;> rfl), by repeat (first | (with_reducible first | exact HB.out | apply below_alloc | apply pw_below_drewN | apply below_drew1 | refine below_set ?_ GE366.out | refine below_set ?_ GE367.out) | exact HB.out)⟩
      · replace c18 := Bool.eq_false_iff.mpr c18
        subst c18
        have H1 : (casementref12_Same.l0 kj2 0 a0_0 l0_1 l0_2 a1_0 l1_1 l1_2) = some r := by rw [if_neg (show ¬ (false = true) by decide)] at H; exact H
        clear H
        have H := H1
        clear H1
        have H' := Aside0.mk H
        clear H
        go_wp2
        go_loopg [5] kj2 (fun kq v5 w' => ∃ (x5_2 : Int), v5 = .int .i64 x5_2 ∧ Aside0 (casementref12_Same.l0 kq x5_2 a0_0 l0_1 l0_2 a1_0 l1_1 l1_2 = some r) ∧ Aside0 (kq ≤ kj2) ∧ Aside0 (w'.heap[gb366]? = some (.cells #[.int .i64 a0_0, (.slice A0_1 l0_1.length c0_1), (.slice A0_2 l0_2.length c0_2)] 26 (0, 0))) ∧ Aside0 (w'.heap[gb367]? = some (.cells #[.int .i64 a1_0, (.slice A1_1 l1_1.length c1_1), (.slice A1_2 l1_2.length c1_2)] 26 (0, 0))) ∧ Aside0 (Below w.heap.size w w'))
        case atStart => exact ⟨(0), (by first | rfl | (simp; done) | (simp [*]; done)), H', ⟨Nat.le_refl _⟩, ⟨by (with_reducible repeat (first | refine blk_drewN ?_ _ | refine blk_drew ?_ | refine blk_alloc ?_ _)); exact BK366.out⟩, ⟨by (with_reducible repeat (first | refine blk_drewN ?_ _ | refine blk_drew ?_ | refine blk_alloc ?_ _)); exact BK367.out⟩, ⟨by repeat (first | (with_reducible first | exact HB.out | apply below_alloc | apply pw_below_drewN | apply below_drew1 | refine below_set ?_ GE366.out | refine below_set ?_ GE367.out) | exact HB.out)⟩⟩
        case round =>
          clear H'
          try clear c1
          try clear p2
          try clear c6
          try clear c6b0
          try clear c6b1
          try clear c8
          try clear c9
          try clear c12
          try clear c15
          try clear c18
          try clear hcz10_0
          try clear hcz10_1
          try clear hcz10_2
          try clear hcz11_0
          try clear hcz11_1
          try clear hcz11_2
          try clear hcz13_0
          try clear hcz13_1
          try clear hcz13_2
          try clear hcz14_0
          try clear hcz14_1
          try clear hcz14_2
          try clear hcz16_0
          try clear hcz16_1
          try clear hcz16_2
          try clear hcz17_0
          try clear hcz17_1
          try clear hcz17_2
          try clear hfz10_0
          try clear hfz10_1
          try clear hfz10_2
          try clear hfz11_0
          try clear hfz11_1
          try clear hfz11_2
          try clear hfz13_0
          try clear hfz13_1
          try clear hfz13_2
          try clear hfz14_0
          try clear hfz14_1
          try clear hfz14_2
          try clear hfz16_0
          try clear hfz16_1
          try clear hfz16_2
          try clear hfz17_0
          try clear hfz17_1
          try clear hfz17_2
          try clear p2
          obtain ⟨x5_2, rfl, HA, HK2, BK366, BK367, HB⟩ := hrel
          cases gk with
          | zero => exact absurd HA.out (by simp [casementref12_Same.l0])
          | succ k2 =>
            have H := HA.out
            clear HA
            simp only [casementref12_Same.l0] at H
            by_cases c19 : x5_2 < (l0_2.length : Int)
            · rw [if_pos c19] at H
              have c19b0 : decide (x5_2 < (l0_2.length : Int)) = true := decide_eq_true c19
              clear c19
              by_cases c20 : 0 ≤ x5_2
              · rw [if_pos c20] at H
                have c20b0 : decide (0 ≤ x5_2) = true := decide_eq_true c20
                clear c20
                by_cases c21 : x5_2 < (l1_2.length : Int)
                · rw [if_pos c21] at H
                  have c21b0 : decide (x5_2 < (l1_2.length : Int)) = true := decide_eq_true c21
                  clear c21
                  have HC22 := Aside0.mk H
                  clear H
                  have hnb23 := NB366_367.out
                  have hnc23 := NB367_366.out
                  have hcz24_0 : wr.cell? ⟨gb366, 0, none⟩ = some (.int .i64 a0_0) := (blk_cell BK366.out 0).trans rfl
                  have hcz24_1 : wr.cell? ⟨gb366, 1, none⟩ = some (.slice A0_1 l0_1.length c0_1) := (blk_cell BK366.out 1).trans rfl
                  have hcz24_2 : wr.cell? ⟨gb366, 2, none⟩ = some (.slice A0_2 l0_2.length c0_2) := (blk_cell BK366.out 2).trans rfl
                  have hfz24_0 := blk_frozen BK366.out 0
                  have hfz24_1 := blk_frozen BK366.out 1
                  have hfz24_2 := blk_frozen BK366.out 2
                  try go_wp2
                  have n0_ := Aside0.mk (blk_drew BK366.out)
                  have n1_ := Aside0.mk (blk_drew BK367.out)
                  have n2_ := Aside0.mk (below_drew1 HB.out)
                  clear BK366
                  clear BK367
                  clear HB
                  have BK366 := n0_
                  have BK367 := n1_
                  have HB := n2_
                  clear n0_ n1_ n2_
                  have p369 : 0 ≤ (x5_2 : Int) := of_decide_eq_true (by first | (with_reducible assumption) | assumption)
                  have q369 : x5_2 < (l0_2.length : Int) := of_decide_eq_true (by first | (with_reducible assumption) | assumption)
                  obtain ⟨ad369, A369_3, c369_3, e369, hx369_0, hx369_1, hx369_2, hx369_3, hl369_3, hi369_3⟩ := at_T44 HR0_2.out x5_2 p369 q369
                  have hw369_3 := hx369_3
                  have hw369_2 := hx369_2
                  have hw369_1 := hx369_1
                  have hw369_0 := hx369_0
                  cases e369
                  replace hx369_0 := (HB.out.cell (World.block_lt_of_cell? w _ hx369_0)).trans hx369_0
                  replace hx369_1 := (HB.out.cell (World.block_lt_of_cell? w _ hx369_1)).trans hx369_1
                  replace hx369_2 := (HB.out.cell (World.block_lt_of_cell? w _ hx369_2)).trans hx369_2
                  replace hx369_3 := (HB.out.cell (World.block_lt_of_cell? w _ hx369_3)).trans hx369_3
                  have HR369_3 := Aside0.mk hi369_3
                  have HC369_3 := Aside0.mk hl369_3
                  clear hi369_3 hl369_3
                  replace p369 := eq_true p369
                  replace q369 := eq_true q369
                  have p370 : 0 ≤ (x5_2 : Int) := of_decide_eq_true (by first | (with_reducible assumption) | assumption)
                  have q370 : x5_2 < (l1_2.length : Int) := of_decide_eq_true (by first | (with_reducible assumption) | assumption)
                  obtain ⟨ad370, A370_3, c370_3, e370, hx370_0, hx370_1, hx370_2, hx370_3, hl370_3, hi370_3⟩ := at_T44 HR1_2.out x5_2 p370 q370
                  have hw370_3 := hx370_3
                  have hw370_2 := hx370_2
                  have hw370_1 := hx370_1
                  have hw370_0 := hx370_0
                  cases e370
                  replace hx370_0 := (HB.out.cell (World.block_lt_of_cell? w _ hx370_0)).trans hx370_0
                  replace hx370_1 := (HB.out.cell (World.block_lt_of_cell? w _ hx370_1)).trans hx370_1
                  replace hx370_2 := (HB.out.cell (World.block_lt_of_cell? w _ hx370_2)).trans hx370_2
                  replace hx370_3 := (HB.out.cell (World.block_lt_of_cell? w _ hx370_3)).trans hx370_3
                  have HR370_3 := Aside0.mk hi370_3
                  have HC370_3 := Aside0.mk hl370_3
                  clear hi370_3 hl370_3
                  replace p370 := eq_true p370
                  replace q370 := eq_true q370
                  refine start_ (n := 14) (S := fun w' => w'.cell? ⟨gb366, 0, none⟩ = some (.int .i64 a0_0) ∧ w'.cell? ⟨gb366, 1, none⟩ = some (.slice A0_1 l0_1.length c0_1) ∧ w'.cell? ⟨gb366, 2, none⟩ = some (.slice (some ad369) l0_2.length c0_2) ∧ w'.cell? ⟨gb367, 0, none⟩ = some (.int .i64 a1_0) ∧ w'.cell? ⟨gb367, 1, none⟩ = some (.slice A1_1 l1_1.length c1_1) ∧ w'.cell? ⟨gb367, 2, none⟩ = some (.slice (some ad370) l1_2.length c1_2) ∧ w'.cell? (ad369.add ((x5_2).toNat * 4)) = some (.int .i64 ((rd_T44 l0_2 x5_2).f0)) ∧ w'.cell? ⟨(ad369.add ((x5_2).toNat * 4)).block, (ad369.add ((x5_2).toNat * 4)).off + 1, none⟩ = some (.int .i64 ((rd_T44 l0_2 x5_2).f1)) ∧ w'.cell? ⟨(ad369.add ((x5_2).toNat * 4)).block, (ad369.add ((x5_2).toNat * 4)).off + 2, none⟩ = some (.int .i64 ((rd_T44 l0_2 x5_2).f2)) ∧ w'.cell? ⟨(ad369.add ((x5_2).toNat * 4)).block, (ad369.add ((x5_2).toNat * 4)).off + 3, none⟩ = some (.slice A369_3 ((rd_T44 l0_2 x5_2).f3).length c369_3) ∧ w'.cell? (ad370.add ((x5_2).toNat * 4)) = some (.int .i64 ((rd_T44 l1_2 x5_2).f0)) ∧ w'.cell? ⟨(ad370.add ((x5_2).toNat * 4)).block, (ad370.add ((x5_2).toNat * 4)).off + 1, none⟩ = some (.int .i64 ((rd_T44 l1_2 x5_2).f1)) ∧ w'.cell? ⟨(ad370.add ((x5_2).toNat * 4)).block, (ad370.add ((x5_2).toNat * 4)).off + 2, none⟩ = some (.int .i64 ((rd_T44 l1_2 x5_2).f2)) ∧ w'.cell? ⟨(ad370.add ((x5_2).toNat * 4)).block, (ad370.add ((x5_2).toNat * 4)).off + 3, none⟩ = some (.slice A370_3 ((rd_T44 l1_2 x5_2).f3).length c370_3)) (ds := []) #[false, false, false, false, false, false, false, false, false, false, false, false, false, false] (by kernel_rfl) rfl rfl ⟨(blk_cell BK366.out 0).trans rfl, (blk_cell BK366.out 1).trans rfl, (blk_cell BK366.out 2).trans rfl, (blk_cell BK367.out 0).trans rfl, (blk_cell BK367.out 1).trans rfl, (blk_cell BK367.out 2).trans rfl, ((HB.out.cell (World.block_lt_of_cell? w _ hw369_0)).trans hw369_0), ((HB.out.cell (World.block_lt_of_cell? w _ hw369_1)).trans hw369_1), ((HB.out.cell (World.block_lt_of_cell? w _ hw369_2)).trans hw369_2), ((HB.out.cell (World.block_lt_of_cell? w _ hw369_3)).trans hw369_3), ((HB.out.cell (World.block_lt_of_cell? w _ hw370_0)).trans hw370_0), ((HB.out.cell (World.block_lt_of_cell? w _ hw370_1)).trans hw370_1), ((HB.out.cell (World.block_lt_of_cell? w _ hw370_2)).trans hw370_2), ((HB.out.cell (World.block_lt_of_cell? w _ hw370_3)).trans hw370_3)⟩ (fun hHeld => ?_); refine with_tabW casementref12_Same.tab6 casementref12_Same.bits6 (fun HT_ HW_ => ?_)
                  generalize wr.drew = w25 at BK366 BK367 HB HR369_3 HR370_3 hx369_0 hx369_1 hx369_2 hx369_3 hx370_0 hx370_1 hx370_2 hx370_3 hHeld ⊢
                  refine pure_ (i := 0) (N := some 38) (v := ?_) (a' := ?_) #[true, false, false, false, false, false, false, false, false, false, false, false, false, false] rfl rfl (any_of HT_.out (by kernel_rfl)) (fun _ _ _ h => h) (Or.inl ⟨by rfl, ?_⟩) ?_ ?_
                  rotate_left
                  · intro w'
                    go_simp
                    with_reducible rfl
                  rotate_left
                  · simp only [Act.put, List.setIfInBounds_toArray, List.set_cons_zero, List.set_cons_succ, i64_w, i32_w]
                    rfl
                  refine pure_ (i := 2) (N := some 40) (v := ?_) (a' := ?_) #[true, false, true, false, false, false, false, false, false, false, false, false, false, false] rfl rfl (any_of HT_.out (by kernel_rfl)) (fun _ _ _ h => h) (Or.inl ⟨by rfl, ?_⟩) ?_ ?_
                  rotate_left
                  · intro w'
                    go_simp
                    with_reducible rfl
                  rotate_left
                  · simp only [Act.put, List.setIfInBounds_toArray, List.set_cons_zero, List.set_cons_succ, i64_w, i32_w]
                    rfl
                  refine pure_ (i := 5) (N := some 43) (v := ?_) (a' := ?_) #[true, false, true, false, false, true, false, false, false, false, false, false, false, false] rfl rfl (any_of HT_.out (by kernel_rfl)) (fun _ _ _ h => h) (Or.inl ⟨by rfl, ?_⟩) ?_ ?_
                  rotate_left
                  · intro w'
                    go_simp
                    with_reducible rfl
                  rotate_left
                  · simp only [Act.put, List.setIfInBounds_toArray, List.set_cons_zero, List.set_cons_succ, i64_w, i32_w]
                    rfl
                  refine pure_ (i := 7) (N := some 45) (v := ?_) (a' := ?_) #[true, false, true, false, false, true, false, true, false, false, false, false, false, false] rfl rfl (any_of HT_.out (by kernel_rfl)) (fun _ _ _ h => h) (Or.inl ⟨by rfl, ?_⟩) ?_ ?_
                  rotate_left
                  · intro w'
                    go_simp
                    with_reducible rfl
                  rotate_left
                  · simp only [Act.put, List.setIfInBounds_toArray, List.set_cons_zero, List.set_cons_succ, i64_w, i32_w]
                    rfl
                  refine take_ (i := 1) (N := some 39) (v := ?_) (a' := ?_) #[true, true, true, false, false, true, false, true, false, false, false, false, false, false] rfl rfl (take_ofW HT_.out HW_.out (by kernel_rfl)) (fun _ _ _ h => h) (Or.inl ⟨by rfl, ?_⟩) hHeld ?_ ?_
                  rotate_left
                  · rintro w' ⟨s0, s1, s2, s3, s4, s5, s6, s7, s8, s9, s10, s11, s12, s13⟩
                    go_simp
                    with_reducible rfl
                  rotate_left
                  · simp only [Act.put, List.setIfInBounds_toArray, List.set_cons_zero, List.set_cons_succ, i64_w, i32_w]
                    rfl
                  refine pure_ (i := 3) (N := some 41) (v := ?_) (a' := ?_) #[true, true, true, true, false, true, false, true, false, false, false, false, false, false] rfl rfl (any_of HT_.out (by kernel_rfl)) (fun _ _ _ h => h) (Or.inl ⟨by rfl, ?_⟩) ?_ ?_
                  rotate_left
                  · intro w'
                    go_simp
                    with_reducible rfl
                  rotate_left
                  · simp only [Act.put, List.setIfInBounds_toArray, List.set_cons_zero, List.set_cons_succ, i64_w, i32_w]
                    rfl
                  refine take_ (i := 4) (N := some 42) (v := ?_) (a' := ?_) #[true, true, true, true, true, true, false, true, false, false, false, false, false, false] rfl rfl (take_ofW HT_.out HW_.out (by kernel_rfl)) (fun _ _ _ h => h) (Or.inl ⟨by rfl, ?_⟩) hHeld ?_ ?_
                  rotate_left
                  · rintro w' ⟨s0, s1, s2, s3, s4, s5, s6, s7, s8, s9, s10, s11, s12, s13⟩
                    go_simp
                    with_reducible rfl
                  rotate_left
                  · simp only [Act.put, List.setIfInBounds_toArray, List.set_cons_zero, List.set_cons_succ, i64_w, i32_w]
                    rfl
                  refine take_ (i := 6) (N := some 44) (v := ?_) (a' := ?_) #[true, true, true, true, true, true, true, true, false, false, false, false, false, false] rfl rfl (take_ofW HT_.out HW_.out (by kernel_rfl)) (fun _ _ _ h => h) (Or.inl ⟨by rfl, ?_⟩) hHeld ?_ ?_
                  rotate_left
                  · rintro w' ⟨s0, s1, s2, s3, s4, s5, s6, s7, s8, s9, s10, s11, s12, s13⟩
                    go_simp
                    with_reducible rfl
                  rotate_left
                  · simp only [Act.put, List.setIfInBounds_toArray, List.set_cons_zero, List.set_cons_succ, i64_w, i32_w]
                    rfl
                  refine pure_ (i := 8) (N := some 46) (v := ?_) (a' := ?_) #[true, true, true, true, true, true, true, true, true, false, false, false, false, false] rfl rfl (any_of HT_.out (by kernel_rfl)) (fun _ _ _ h => h) (Or.inl ⟨by rfl, ?_⟩) ?_ ?_
                  rotate_left
                  · intro w'
                    go_simp
                    with_reducible rfl
                  rotate_left
                  · simp only [Act.put, List.setIfInBounds_toArray, List.set_cons_zero, List.set_cons_succ, i64_w, i32_w]
                    rfl
                  refine take_ (i := 9) (N := some 47) (v := ?_) (a' := ?_) #[true, true, true, true, true, true, true, true, true, true, false, false, false, false] rfl rfl (take_ofW HT_.out HW_.out (by kernel_rfl)) (fun _ _ _ h => h) (Or.inl ⟨by rfl, ?_⟩) hHeld ?_ ?_
                  rotate_left
                  · rintro w' ⟨s0, s1, s2, s3, s4, s5, s6, s7, s8, s9, s10, s11, s12, s13⟩
                    go_simp
                    with_reducible rfl
                  rotate_left
                  · simp only [Act.put, List.setIfInBounds_toArray, List.set_cons_zero, List.set_cons_succ, i64_w, i32_w]
                    rfl
                  refine join_ (σ := Nat × Nat) 2 #[true, true, true, true, true, true, true, true, true, true, true, true, false, false] (fun s_ => [(6, .pointer (some ⟨s_.1, 0, none⟩)), (7, .pointer (some ⟨s_.2, 0, none⟩))]) (fun s_ w' => (w'.cell? ⟨gb366, 0, none⟩ = some (.int .i64 a0_0) ∧ w'.cell? ⟨gb366, 1, none⟩ = some (.slice A0_1 l0_1.length c0_1) ∧ w'.cell? ⟨gb366, 2, none⟩ = some (.slice (some ad369) l0_2.length c0_2) ∧ w'.cell? ⟨gb367, 0, none⟩ = some (.int .i64 a1_0) ∧ w'.cell? ⟨gb367, 1, none⟩ = some (.slice A1_1 l1_1.length c1_1) ∧ w'.cell? ⟨gb367, 2, none⟩ = some (.slice (some ad370) l1_2.length c1_2) ∧ w'.cell? (ad369.add ((x5_2).toNat * 4)) = some (.int .i64 ((rd_T44 l0_2 x5_2).f0)) ∧ w'.cell? ⟨(ad369.add ((x5_2).toNat * 4)).block, (ad369.add ((x5_2).toNat * 4)).off + 1, none⟩ = some (.int .i64 ((rd_T44 l0_2 x5_2).f1)) ∧ w'.cell? ⟨(ad369.add ((x5_2).toNat * 4)).block, (ad369.add ((x5_2).toNat * 4)).off + 2, none⟩ = some (.int .i64 ((rd_T44 l0_2 x5_2).f2)) ∧ w'.cell? ⟨(ad369.add ((x5_2).toNat * 4)).block, (ad369.add ((x5_2).toNat * 4)).off + 3, none⟩ = some (.slice A369_3 ((rd_T44 l0_2 x5_2).f3).length c369_3) ∧ w'.cell? (ad370.add ((x5_2).toNat * 4)) = some (.int .i64 ((rd_T44 l1_2 x5_2).f0)) ∧ w'.cell? ⟨(ad370.add ((x5_2).toNat * 4)).block, (ad370.add ((x5_2).toNat * 4)).off + 1, none⟩ = some (.int .i64 ((rd_T44 l1_2 x5_2).f1)) ∧ w'.cell? ⟨(ad370.add ((x5_2).toNat * 4)).block, (ad370.add ((x5_2).toNat * 4)).off + 2, none⟩ = some (.int .i64 ((rd_T44 l1_2 x5_2).f2)) ∧ w'.cell? ⟨(ad370.add ((x5_2).toNat * 4)).block, (ad370.add ((x5_2).toNat * 4)).off + 3, none⟩ = some (.slice A370_3 ((rd_T44 l1_2 x5_2).f3).length c370_3)) ∧ (w'.heap[gb366]? = some (.cells #[.int .i64 a0_0, .slice A0_1 l0_1.length c0_1, .slice (some ad369) l0_2.length c0_2] 26 (0, 0))) ∧ (w'.heap[gb367]? = some (.cells #[.int .i64 a1_0, .slice A1_1 l1_1.length c1_1, .slice (some ad370) l1_2.length c1_2] 26 (0, 0))) ∧ (w'.heap[s_.1]? = some (.cells #[.int .i64 0, .int .i64 0, .int .i64 0, .slice none 0 0] 44 (0, 0))) ∧ (w'.heap[s_.2]? = some (.cells #[.int .i64 0, .int .i64 0, .int .i64 0, .slice none 0 0] 44 (0, 0))) ∧ (w.heap.size ≤ s_.1) ∧ (w.heap.size ≤ s_.1) ∧ (gb366 ≠ s_.1) ∧ (s_.1 ≠ gb366) ∧ (gb367 ≠ s_.1) ∧ (s_.1 ≠ gb367) ∧ (s_.2 ≠ s_.1) ∧ (s_.1 ≠ s_.2) ∧ (w.heap.size ≤ s_.2) ∧ (w.heap.size ≤ s_.2) ∧ (gb366 ≠ s_.2) ∧ (s_.2 ≠ gb366) ∧ (gb367 ≠ s_.2) ∧ (s_.2 ≠ gb367) ∧ (Below w.heap.size w w')) ?_ ?_
                  rotate_left
                  · intro hCont
                    refine two_ (i := 10) (j := 11) (Ni := some 6) (Nj := some 7) #[true, true, true, true, true, true, true, true, true, true, true, false, false, false] #[true, true, true, true, true, true, true, true, true, true, false, true, false, false] rfl rfl rfl rfl (two_of HT_.out (by kernel_rfl)) (by decide) (by decide) (fun K hK => ?_) (fun K hK => ?_)
                    · skip
                      refine box_step ?hg (N := 6) ?hd (cs := #[.int .i64 0, .int .i64 0, .int .i64 0, .slice none 0 0]) (t := 44) ?hr ?_; (case hd => rfl); (case hg => rfl); (case hr => first | (go_simp; done) | (go_simp; rfl))
                      intro gb371 hg w26 hbox hb
                      have n0_ := Aside0.mk (blk_below (g := gb366) (o := .cells #[.int .i64 a0_0, .slice A0_1 l0_1.length c0_1, .slice (some ad369) l0_2.length c0_2] 26 (0, 0)) (by (with_reducible repeat (first | refine blk_drewN ?_ _ | refine blk_drew ?_ | refine blk_alloc ?_ _)); exact BK366.out) hb)
                      have n1_ := Aside0.mk (blk_below (g := gb367) (o := .cells #[.int .i64 a1_0, .slice A1_1 l1_1.length c1_1, .slice (some ad370) l1_2.length c1_2] 26 (0, 0)) (by (with_reducible repeat (first | refine blk_drewN ?_ _ | refine blk_drew ?_ | refine blk_alloc ?_ _)); exact BK367.out) hb)
                      have n2_ := Aside0.mk (below_step (by repeat (first | (with_reducible first | exact HB.out | apply below_alloc | apply pw_below_drewN | apply below_drew1 | refine below_set ?_ GE366.out | refine below_set ?_ GE367.out) | exact HB.out)) hb)
                      have n3_ := Aside0.mk (hbox)
                      have n4_ := Aside0.mk ((by rw [hg]; exact (below_size (by repeat (first | (with_reducible first | exact HB.out | apply below_alloc | apply pw_below_drewN | apply below_drew1 | refine below_set ?_ GE366.out | refine below_set ?_ GE367.out) | exact HB.out))) : w.heap.size ≤ gb371))
                      have n5_ := Aside0.mk ((by rw [hg]; exact (below_size (by repeat (first | (with_reducible first | exact HB.out | apply below_alloc | apply pw_below_drewN | apply below_drew1 | refine below_set ?_ GE366.out | refine below_set ?_ GE367.out) | exact HB.out))) : w.heap.size ≤ gb371))
                      have n6_ := Aside0.mk ((by rw [hg]; exact Nat.ne_of_lt (blk_lt (g := gb366) (o := .cells #[.int .i64 a0_0, .slice A0_1 l0_1.length c0_1, .slice (some ad369) l0_2.length c0_2] 26 (0, 0)) (by (with_reducible repeat (first | refine blk_drewN ?_ _ | refine blk_drew ?_ | refine blk_alloc ?_ _)); exact BK366.out)) : gb366 ≠ gb371))
                      have n7_ := Aside0.mk ((by rw [hg]; exact Nat.ne_of_gt (blk_lt (g := gb366) (o := .cells #[.int .i64 a0_0, .slice A0_1 l0_1.length c0_1, .slice (some ad369) l0_2.length c0_2] 26 (0, 0)) (by (with_reducible repeat (first | refine blk_drewN ?_ _ | refine blk_drew ?_ | refine blk_alloc ?_ _)); exact BK366.out)) : gb371 ≠ gb366))
                      have n8_ := Aside0.mk ((by rw [hg]; exact Nat.ne_of_lt (blk_lt (g := gb367) (o := .cells #[.int .i64 a1_0, .slice A1_1 l1_1.length c1_1, .slice (some ad370) l1_2.length c1_2] 26 (0, 0)) (by (with_reducible repeat (first | refine blk_drewN ?_ _ | refine blk_drew ?_ | refine blk_alloc ?_ _)); exact BK367.out)) : gb367 ≠ gb371))
                      have n9_ := Aside0.mk ((by rw [hg]; exact Nat.ne_of_gt (blk_lt (g := gb367) (o := .cells #[.int .i64 a1_0, .slice A1_1 l1_1.length c1_1, .slice (some ad370) l1_2.length c1_2] 26 (0, 0)) (by (with_reducible repeat (first | refine blk_drewN ?_ _ | refine blk_drew ?_ | refine blk_alloc ?_ _)); exact BK367.out)) : gb371 ≠ gb367))
                      clear BK366
                      clear BK367
                      clear HB
                      have BK366 := n0_
                      have BK367 := n1_
                      have HB := n2_
                      have BK371 := n3_
                      have GW371 := n4_
                      have GE371 := n5_
                      have NB366_371 := n6_
                      have NB371_366 := n7_
                      have NB367_371 := n8_
                      have NB371_367 := n9_
                      clear n0_ n1_ n2_ n3_ n4_ n5_ n6_ n7_ n8_ n9_
                      clear hb hbox hg
                      refine hK.out _ _ ⟨(blk_cell BK366.out 0).trans rfl, (blk_cell BK366.out 1).trans rfl, (blk_cell BK366.out 2).trans rfl, (blk_cell BK367.out 0).trans rfl, (blk_cell BK367.out 1).trans rfl, (blk_cell BK367.out 2).trans rfl, ((HB.out.cell (World.block_lt_of_cell? w _ hw369_0)).trans hw369_0), ((HB.out.cell (World.block_lt_of_cell? w _ hw369_1)).trans hw369_1), ((HB.out.cell (World.block_lt_of_cell? w _ hw369_2)).trans hw369_2), ((HB.out.cell (World.block_lt_of_cell? w _ hw369_3)).trans hw369_3), ((HB.out.cell (World.block_lt_of_cell? w _ hw370_0)).trans hw370_0), ((HB.out.cell (World.block_lt_of_cell? w _ hw370_1)).trans hw370_1), ((HB.out.cell (World.block_lt_of_cell? w _ hw370_2)).trans hw370_2), ((HB.out.cell (World.block_lt_of_cell? w _ hw370_3)).trans hw370_3)⟩ (fun hHeld => ?_)
                      clear hK K
                      refine norm_ (a' := ?_) ?_ ?_
                      rotate_left
                      · show Act.put _ (some 6) _ = _
                        simp only [Act.put, List.setIfInBounds_toArray, List.set_cons_zero, List.set_cons_succ, i64_w, i32_w]
                        rfl
                      refine one_ (i := 11) (N := some 7) #[true, true, true, true, true, true, true, true, true, true, true, true, false, false] rfl rfl (one_of HT_.out (by kernel_rfl)) (by decide) (fun K hK => ?_)
                      refine box_step ?hg (N := 7) ?hd (cs := #[.int .i64 0, .int .i64 0, .int .i64 0, .slice none 0 0]) (t := 44) ?hr ?_; (case hd => rfl); (case hg => rfl); (case hr => first | (go_simp; done) | (go_simp; rfl))
                      intro gb372 hg w27 hbox hb
                      have n0_ := Aside0.mk (blk_below (g := gb366) (o := .cells #[.int .i64 a0_0, .slice A0_1 l0_1.length c0_1, .slice (some ad369) l0_2.length c0_2] 26 (0, 0)) (by (with_reducible repeat (first | refine blk_drewN ?_ _ | refine blk_drew ?_ | refine blk_alloc ?_ _)); exact BK366.out) hb)
                      have n1_ := Aside0.mk (blk_below (g := gb367) (o := .cells #[.int .i64 a1_0, .slice A1_1 l1_1.length c1_1, .slice (some ad370) l1_2.length c1_2] 26 (0, 0)) (by (with_reducible repeat (first | refine blk_drewN ?_ _ | refine blk_drew ?_ | refine blk_alloc ?_ _)); exact BK367.out) hb)
                      have n2_ := Aside0.mk (blk_below (g := gb371) (o := .cells #[.int .i64 0, .int .i64 0, .int .i64 0, .slice none 0 0] 44 (0, 0)) (by (with_reducible repeat (first | refine blk_drewN ?_ _ | refine blk_drew ?_ | refine blk_alloc ?_ _)); exact BK371.out) hb)
                      have n3_ := Aside0.mk (below_step (by repeat (first | (with_reducible first | exact HB.out | apply below_alloc | apply pw_below_drewN | apply below_drew1 | refine below_set ?_ GE366.out | refine below_set ?_ GE367.out | refine below_set ?_ GE371.out) | exact HB.out)) hb)
                      have n4_ := Aside0.mk (hbox)
                      have n5_ := Aside0.mk ((by rw [hg]; exact (below_size (by repeat (first | (with_reducible first | exact HB.out | apply below_alloc | apply pw_below_drewN | apply below_drew1 | refine below_set ?_ GE366.out | refine below_set ?_ GE367.out | refine below_set ?_ GE371.out) | exact HB.out))) : w.heap.size ≤ gb372))
                      have n6_ := Aside0.mk ((by rw [hg]; exact (below_size (by repeat (first | (with_reducible first | exact HB.out | apply below_alloc | apply pw_below_drewN | apply below_drew1 | refine below_set ?_ GE366.out | refine below_set ?_ GE367.out | refine below_set ?_ GE371.out) | exact HB.out))) : w.heap.size ≤ gb372))
                      have n7_ := Aside0.mk ((by rw [hg]; exact Nat.ne_of_lt (blk_lt (g := gb366) (o := .cells #[.int .i64 a0_0, .slice A0_1 l0_1.length c0_1, .slice (some ad369) l0_2.length c0_2] 26 (0, 0)) (by (with_reducible repeat (first | refine blk_drewN ?_ _ | refine blk_drew ?_ | refine blk_alloc ?_ _)); exact BK366.out)) : gb366 ≠ gb372))
                      have n8_ := Aside0.mk ((by rw [hg]; exact Nat.ne_of_gt (blk_lt (g := gb366) (o := .cells #[.int .i64 a0_0, .slice A0_1 l0_1.length c0_1, .slice (some ad369) l0_2.length c0_2] 26 (0, 0)) (by (with_reducible repeat (first | refine blk_drewN ?_ _ | refine blk_drew ?_ | refine blk_alloc ?_ _)); exact BK366.out)) : gb372 ≠ gb366))
                      have n9_ := Aside0.mk ((by rw [hg]; exact Nat.ne_of_lt (blk_lt (g := gb367) (o := .cells #[.int .i64 a1_0, .slice A1_1 l1_1.length c1_1, .slice (some ad370) l1_2.length c1_2] 26 (0, 0)) (by (with_reducible repeat (first | refine blk_drewN ?_ _ | refine blk_drew ?_ | refine blk_alloc ?_ _)); exact BK367.out)) : gb367 ≠ gb372))
                      have n10_ := Aside0.mk ((by rw [hg]; exact Nat.ne_of_gt (blk_lt (g := gb367) (o := .cells #[.int .i64 a1_0, .slice A1_1 l1_1.length c1_1, .slice (some ad370) l1_2.length c1_2] 26 (0, 0)) (by (with_reducible repeat (first | refine blk_drewN ?_ _ | refine blk_drew ?_ | refine blk_alloc ?_ _)); exact BK367.out)) : gb372 ≠ gb367))
                      have n11_ := Aside0.mk ((by rw [hg]; exact Nat.ne_of_lt (blk_lt (g := gb371) (o := .cells #[.int .i64 0, .int .i64 0, .int .i64 0, .slice none 0 0] 44 (0, 0)) (by (with_reducible repeat (first | refine blk_drewN ?_ _ | refine blk_drew ?_ | refine blk_alloc ?_ _)); exact BK371.out)) : gb371 ≠ gb372))
                      have n12_ := Aside0.mk ((by rw [hg]; exact Nat.ne_of_gt (blk_lt (g := gb371) (o := .cells #[.int .i64 0, .int .i64 0, .int .i64 0, .slice none 0 0] 44 (0, 0)) (by (with_reducible repeat (first | refine blk_drewN ?_ _ | refine blk_drew ?_ | refine blk_alloc ?_ _)); exact BK371.out)) : gb372 ≠ gb371))
                      clear BK366
                      clear BK367
                      clear BK371
                      clear HB
                      have BK366 := n0_
                      have BK367 := n1_
                      have BK371 := n2_
                      have HB := n3_
                      have BK372 := n4_
                      have GW372 := n5_
                      have GE372 := n6_
                      have NB366_372 := n7_
                      have NB372_366 := n8_
                      have NB367_372 := n9_
                      have NB372_367 := n10_
                      have NB371_372 := n11_
                      have NB372_371 := n12_
                      clear n0_ n1_ n2_ n3_ n4_ n5_ n6_ n7_ n8_ n9_ n10_ n11_ n12_
                      clear hb hbox hg
                      refine hK.out _ _ ⟨(blk_cell BK366.out 0).trans rfl, (blk_cell BK366.out 1).trans rfl, (blk_cell BK366.out 2).trans rfl, (blk_cell BK367.out 0).trans rfl, (blk_cell BK367.out 1).trans rfl, (blk_cell BK367.out 2).trans rfl, ((HB.out.cell (World.block_lt_of_cell? w _ hw369_0)).trans hw369_0), ((HB.out.cell (World.block_lt_of_cell? w _ hw369_1)).trans hw369_1), ((HB.out.cell (World.block_lt_of_cell? w _ hw369_2)).trans hw369_2), ((HB.out.cell (World.block_lt_of_cell? w _ hw369_3)).trans hw369_3), ((HB.out.cell (World.block_lt_of_cell? w _ hw370_0)).trans hw370_0), ((HB.out.cell (World.block_lt_of_cell? w _ hw370_1)).trans hw370_1), ((HB.out.cell (World.block_lt_of_cell? w _ hw370_2)).trans hw370_2), ((HB.out.cell (World.block_lt_of_cell? w _ hw370_3)).trans hw370_3)⟩ (fun hHeld => ?_)
                      clear hK K
                      refine norm_ (a' := ?_) ?_ ?_
                      rotate_left
                      · show Act.put _ (some 7) _ = _
                        simp only [Act.put, List.setIfInBounds_toArray, List.set_cons_zero, List.set_cons_succ, i64_w, i32_w]
                        rfl
                      exact norm_ (by simp only [putAll, Act.put, List.setIfInBounds_toArray, List.set_cons_zero, List.set_cons_succ]) (hCont (gb371, gb372) _ ⟨hHeld, (by (with_reducible repeat (first | refine blk_drewN ?_ _ | refine blk_drew ?_ | refine blk_alloc ?_ _)); exact BK366.out), (by (with_reducible repeat (first | refine blk_drewN ?_ _ | refine blk_drew ?_ | refine blk_alloc ?_ _)); exact BK367.out), (by (with_reducible repeat (first | refine blk_drewN ?_ _ | refine blk_drew ?_ | refine blk_alloc ?_ _)); exact BK371.out), (by (with_reducible repeat (first | refine blk_drewN ?_ _ | refine blk_drew ?_ | refine blk_alloc ?_ _)); exact BK372.out), GW371.out, GE371.out, NB366_371.out, NB371_366.out, NB367_371.out, NB371_367.out, NB372_371.out, NB371_372.out, GW372.out, GE372.out, NB366_372.out, NB372_366.out, NB367_372.out, NB372_367.out, (by repeat (first | (with_reducible first | exact HB.out | apply below_alloc | apply pw_below_drewN | apply below_drew1 | refine below_set ?_ GE366.out | refine below_set ?_ GE367.out | refine below_set ?_ GE371.out | refine below_set ?_ GE372.out) | exact HB.out))⟩)
                    · skip
                      refine box_step ?hg (N := 7) ?hd (cs := #[.int .i64 0, .int .i64 0, .int .i64 0, .slice none 0 0]) (t := 44) ?hr ?_; (case hd => rfl); (case hg => rfl); (case hr => first | (go_simp; done) | (go_simp; rfl))
                      intro gb372 hg w26 hbox hb
                      have n0_ := Aside0.mk (blk_below (g := gb366) (o := .cells #[.int .i64 a0_0, .slice A0_1 l0_1.length c0_1, .slice (some ad369) l0_2.length c0_2] 26 (0, 0)) (by (with_reducible repeat (first | refine blk_drewN ?_ _ | refine blk_drew ?_ | refine blk_alloc ?_ _)); exact BK366.out) hb)
                      have n1_ := Aside0.mk (blk_below (g := gb367) (o := .cells #[.int .i64 a1_0, .slice A1_1 l1_1.length c1_1, .slice (some ad370) l1_2.length c1_2] 26 (0, 0)) (by (with_reducible repeat (first | refine blk_drewN ?_ _ | refine blk_drew ?_ | refine blk_alloc ?_ _)); exact BK367.out) hb)
                      have n2_ := Aside0.mk (below_step (by repeat (first | (with_reducible first | exact HB.out | apply below_alloc | apply pw_below_drewN | apply below_drew1 | refine below_set ?_ GE366.out | refine below_set ?_ GE367.out) | exact HB.out)) hb)
                      have n3_ := Aside0.mk (hbox)
                      have n4_ := Aside0.mk ((by rw [hg]; exact (below_size (by repeat (first | (with_reducible first | exact HB.out | apply below_alloc | apply pw_below_drewN | apply below_drew1 | refine below_set ?_ GE366.out | refine below_set ?_ GE367.out) | exact HB.out))) : w.heap.size ≤ gb372))
                      have n5_ := Aside0.mk ((by rw [hg]; exact (below_size (by repeat (first | (with_reducible first | exact HB.out | apply below_alloc | apply pw_below_drewN | apply below_drew1 | refine below_set ?_ GE366.out | refine below_set ?_ GE367.out) | exact HB.out))) : w.heap.size ≤ gb372))
                      have n6_ := Aside0.mk ((by rw [hg]; exact Nat.ne_of_lt (blk_lt (g := gb366) (o := .cells #[.int .i64 a0_0, .slice A0_1 l0_1.length c0_1, .slice (some ad369) l0_2.length c0_2] 26 (0, 0)) (by (with_reducible repeat (first | refine blk_drewN ?_ _ | refine blk_drew ?_ | refine blk_alloc ?_ _)); exact BK366.out)) : gb366 ≠ gb372))
                      have n7_ := Aside0.mk ((by rw [hg]; exact Nat.ne_of_gt (blk_lt (g := gb366) (o := .cells #[.int .i64 a0_0, .slice A0_1 l0_1.length c0_1, .slice (some ad369) l0_2.length c0_2] 26 (0, 0)) (by (with_reducible repeat (first | refine blk_drewN ?_ _ | refine blk_drew ?_ | refine blk_alloc ?_ _)); exact BK366.out)) : gb372 ≠ gb366))
                      have n8_ := Aside0.mk ((by rw [hg]; exact Nat.ne_of_lt (blk_lt (g := gb367) (o := .cells #[.int .i64 a1_0, .slice A1_1 l1_1.length c1_1, .slice (some ad370) l1_2.length c1_2] 26 (0, 0)) (by (with_reducible repeat (first | refine blk_drewN ?_ _ | refine blk_drew ?_ | refine blk_alloc ?_ _)); exact BK367.out)) : gb367 ≠ gb372))
                      have n9_ := Aside0.mk ((by rw [hg]; exact Nat.ne_of_gt (blk_lt (g := gb367) (o := .cells #[.int .i64 a1_0, .slice A1_1 l1_1.length c1_1, .slice (some ad370) l1_2.length c1_2] 26 (0, 0)) (by (with_reducible repeat (first | refine blk_drewN ?_ _ | refine blk_drew ?_ | refine blk_alloc ?_ _)); exact BK367.out)) : gb372 ≠ gb367))
                      clear BK366
                      clear BK367
                      clear HB
                      have BK366 := n0_
                      have BK367 := n1_
                      have HB := n2_
                      have BK372 := n3_
                      have GW372 := n4_
                      have GE372 := n5_
                      have NB366_372 := n6_
                      have NB372_366 := n7_
                      have NB367_372 := n8_
                      have NB372_367 := n9_
                      clear n0_ n1_ n2_ n3_ n4_ n5_ n6_ n7_ n8_ n9_
                      clear hb hbox hg
                      refine hK.out _ _ ⟨(blk_cell BK366.out 0).trans rfl, (blk_cell BK366.out 1).trans rfl, (blk_cell BK366.out 2).trans rfl, (blk_cell BK367.out 0).trans rfl, (blk_cell BK367.out 1).trans rfl, (blk_cell BK367.out 2).trans rfl, ((HB.out.cell (World.block_lt_of_cell? w _ hw369_0)).trans hw369_0), ((HB.out.cell (World.block_lt_of_cell? w _ hw369_1)).trans hw369_1), ((HB.out.cell (World.block_lt_of_cell? w _ hw369_2)).trans hw369_2), ((HB.out.cell (World.block_lt_of_cell? w _ hw369_3)).trans hw369_3), ((HB.out.cell (World.block_lt_of_cell? w _ hw370_0)).trans hw370_0), ((HB.out.cell (World.block_lt_of_cell? w _ hw370_1)).trans hw370_1), ((HB.out.cell (World.block_lt_of_cell? w _ hw370_2)).trans hw370_2), ((HB.out.cell (World.block_lt_of_cell? w _ hw370_3)).trans hw370_3)⟩ (fun hHeld => ?_)
                      clear hK K
                      refine norm_ (a' := ?_) ?_ ?_
                      rotate_left
                      · show Act.put _ (some 7) _ = _
                        simp only [Act.put, List.setIfInBounds_toArray, List.set_cons_zero, List.set_cons_succ, i64_w, i32_w]
                        rfl
                      refine one_ (i := 10) (N := some 6) #[true, true, true, true, true, true, true, true, true, true, true, true, false, false] rfl rfl (one_of HT_.out (by kernel_rfl)) (by decide) (fun K hK => ?_)
                      refine box_step ?hg (N := 6) ?hd (cs := #[.int .i64 0, .int .i64 0, .int .i64 0, .slice none 0 0]) (t := 44) ?hr ?_; (case hd => rfl); (case hg => rfl); (case hr => first | (go_simp; done) | (go_simp; rfl))
                      intro gb371 hg w27 hbox hb
                      have n0_ := Aside0.mk (blk_below (g := gb366) (o := .cells #[.int .i64 a0_0, .slice A0_1 l0_1.length c0_1, .slice (some ad369) l0_2.length c0_2] 26 (0, 0)) (by (with_reducible repeat (first | refine blk_drewN ?_ _ | refine blk_drew ?_ | refine blk_alloc ?_ _)); exact BK366.out) hb)
                      have n1_ := Aside0.mk (blk_below (g := gb367) (o := .cells #[.int .i64 a1_0, .slice A1_1 l1_1.length c1_1, .slice (some ad370) l1_2.length c1_2] 26 (0, 0)) (by (with_reducible repeat (first | refine blk_drewN ?_ _ | refine blk_drew ?_ | refine blk_alloc ?_ _)); exact BK367.out) hb)
                      have n2_ := Aside0.mk (blk_below (g := gb372) (o := .cells #[.int .i64 0, .int .i64 0, .int .i64 0, .slice none 0 0] 44 (0, 0)) (by (with_reducible repeat (first | refine blk_drewN ?_ _ | refine blk_drew ?_ | refine blk_alloc ?_ _)); exact BK372.out) hb)
                      have n3_ := Aside0.mk (below_step (by repeat (first | (with_reducible first | exact HB.out | apply below_alloc | apply pw_below_drewN | apply below_drew1 | refine below_set ?_ GE366.out | refine below_set ?_ GE367.out | refine below_set ?_ GE372.out) | exact HB.out)) hb)
                      have n4_ := Aside0.mk (hbox)
                      have n5_ := Aside0.mk ((by rw [hg]; exact (below_size (by repeat (first | (with_reducible first | exact HB.out | apply below_alloc | apply pw_below_drewN | apply below_drew1 | refine below_set ?_ GE366.out | refine below_set ?_ GE367.out | refine below_set ?_ GE372.out) | exact HB.out))) : w.heap.size ≤ gb371))
                      have n6_ := Aside0.mk ((by rw [hg]; exact (below_size (by repeat (first | (with_reducible first | exact HB.out | apply below_alloc | apply pw_below_drewN | apply below_drew1 | refine below_set ?_ GE366.out | refine below_set ?_ GE367.out | refine below_set ?_ GE372.out) | exact HB.out))) : w.heap.size ≤ gb371))
                      have n7_ := Aside0.mk ((by rw [hg]; exact Nat.ne_of_lt (blk_lt (g := gb366) (o := .cells #[.int .i64 a0_0, .slice A0_1 l0_1.length c0_1, .slice (some ad369) l0_2.length c0_2] 26 (0, 0)) (by (with_reducible repeat (first | refine blk_drewN ?_ _ | refine blk_drew ?_ | refine blk_alloc ?_ _)); exact BK366.out)) : gb366 ≠ gb371))
                      have n8_ := Aside0.mk ((by rw [hg]; exact Nat.ne_of_gt (blk_lt (g := gb366) (o := .cells #[.int .i64 a0_0, .slice A0_1 l0_1.length c0_1, .slice (some ad369) l0_2.length c0_2] 26 (0, 0)) (by (with_reducible repeat (first | refine blk_drewN ?_ _ | refine blk_drew ?_ | refine blk_alloc ?_ _)); exact BK366.out)) : gb371 ≠ gb366))
                      have n9_ := Aside0.mk ((by rw [hg]; exact Nat.ne_of_lt (blk_lt (g := gb367) (o := .cells #[.int .i64 a1_0, .slice A1_1 l1_1.length c1_1, .slice (some ad370) l1_2.length c1_2] 26 (0, 0)) (by (with_reducible repeat (first | refine blk_drewN ?_ _ | refine blk_drew ?_ | refine blk_alloc ?_ _)); exact BK367.out)) : gb367 ≠ gb371))
                      have n10_ := Aside0.mk ((by rw [hg]; exact Nat.ne_of_gt (blk_lt (g := gb367) (o := .cells #[.int .i64 a1_0, .slice A1_1 l1_1.length c1_1, .slice (some ad370) l1_2.length c1_2] 26 (0, 0)) (by (with_reducible repeat (first | refine blk_drewN ?_ _ | refine blk_drew ?_ | refine blk_alloc ?_ _)); exact BK367.out)) : gb371 ≠ gb367))
                      have n11_ := Aside0.mk ((by rw [hg]; exact Nat.ne_of_lt (blk_lt (g := gb372) (o := .cells #[.int .i64 0, .int .i64 0, .int .i64 0, .slice none 0 0] 44 (0, 0)) (by (with_reducible repeat (first | refine blk_drewN ?_ _ | refine blk_drew ?_ | refine blk_alloc ?_ _)); exact BK372.out)) : gb372 ≠ gb371))
                      have n12_ := Aside0.mk ((by rw [hg]; exact Nat.ne_of_gt (blk_lt (g := gb372) (o := .cells #[.int .i64 0, .int .i64 0, .int .i64 0, .slice none 0 0] 44 (0, 0)) (by (with_reducible repeat (first | refine blk_drewN ?_ _ | refine blk_drew ?_ | refine blk_alloc ?_ _)); exact BK372.out)) : gb371 ≠ gb372))
                      clear BK366
                      clear BK367
                      clear BK372
                      clear HB
                      have BK366 := n0_
                      have BK367 := n1_
                      have BK372 := n2_
                      have HB := n3_
                      have BK371 := n4_
                      have GW371 := n5_
                      have GE371 := n6_
                      have NB366_371 := n7_
                      have NB371_366 := n8_
                      have NB367_371 := n9_
                      have NB371_367 := n10_
                      have NB372_371 := n11_
                      have NB371_372 := n12_
                      clear n0_ n1_ n2_ n3_ n4_ n5_ n6_ n7_ n8_ n9_ n10_ n11_ n12_
                      clear hb hbox hg
                      refine hK.out _ _ ⟨(blk_cell BK366.out 0).trans rfl, (blk_cell BK366.out 1).trans rfl, (blk_cell BK366.out 2).trans rfl, (blk_cell BK367.out 0).trans rfl, (blk_cell BK367.out 1).trans rfl, (blk_cell BK367.out 2).trans rfl, ((HB.out.cell (World.block_lt_of_cell? w _ hw369_0)).trans hw369_0), ((HB.out.cell (World.block_lt_of_cell? w _ hw369_1)).trans hw369_1), ((HB.out.cell (World.block_lt_of_cell? w _ hw369_2)).trans hw369_2), ((HB.out.cell (World.block_lt_of_cell? w _ hw369_3)).trans hw369_3), ((HB.out.cell (World.block_lt_of_cell? w _ hw370_0)).trans hw370_0), ((HB.out.cell (World.block_lt_of_cell? w _ hw370_1)).trans hw370_1), ((HB.out.cell (World.block_lt_of_cell? w _ hw370_2)).trans hw370_2), ((HB.out.cell (World.block_lt_of_cell? w _ hw370_3)).trans hw370_3)⟩ (fun hHeld => ?_)
                      clear hK K
                      refine norm_ (a' := ?_) ?_ ?_
                      rotate_left
                      · show Act.put _ (some 6) _ = _
                        simp only [Act.put, List.setIfInBounds_toArray, List.set_cons_zero, List.set_cons_succ, i64_w, i32_w]
                        rfl
                      exact norm_ (by simp only [putAll, Act.put, List.setIfInBounds_toArray, List.set_cons_zero, List.set_cons_succ]) (hCont (gb371, gb372) _ ⟨hHeld, (by (with_reducible repeat (first | refine blk_drewN ?_ _ | refine blk_drew ?_ | refine blk_alloc ?_ _)); exact BK366.out), (by (with_reducible repeat (first | refine blk_drewN ?_ _ | refine blk_drew ?_ | refine blk_alloc ?_ _)); exact BK367.out), (by (with_reducible repeat (first | refine blk_drewN ?_ _ | refine blk_drew ?_ | refine blk_alloc ?_ _)); exact BK371.out), (by (with_reducible repeat (first | refine blk_drewN ?_ _ | refine blk_drew ?_ | refine blk_alloc ?_ _)); exact BK372.out), GW371.out, GE371.out, NB366_371.out, NB371_366.out, NB367_371.out, NB371_367.out, NB372_371.out, NB371_372.out, GW372.out, GE372.out, NB366_372.out, NB372_366.out, NB367_372.out, NB372_367.out, (by repeat (first | (with_reducible first | exact HB.out | apply below_alloc | apply pw_below_drewN | apply below_drew1 | refine below_set ?_ GE366.out | refine below_set ?_ GE367.out | refine below_set ?_ GE372.out | refine below_set ?_ GE371.out) | exact HB.out))⟩)
                  rintro ⟨gb371, gb372⟩ w28 ⟨hS_, h0_, h1_, h2_, h3_, h4_, h5_, h6_, h7_, h8_, h9_, h10_, h11_, h12_, h13_, h14_, h15_, h16_, h17_, h18_⟩
                  have n0_ : Aside0 (w28.heap[gb366]? = some (.cells #[.int .i64 a0_0, .slice A0_1 l0_1.length c0_1, .slice (some ad369) l0_2.length c0_2] 26 (0, 0))) := ⟨h0_⟩
                  have n1_ : Aside0 (w28.heap[gb367]? = some (.cells #[.int .i64 a1_0, .slice A1_1 l1_1.length c1_1, .slice (some ad370) l1_2.length c1_2] 26 (0, 0))) := ⟨h1_⟩
                  have n2_ : Aside0 (w28.heap[gb371]? = some (.cells #[.int .i64 0, .int .i64 0, .int .i64 0, .slice none 0 0] 44 (0, 0))) := ⟨h2_⟩
                  have n3_ : Aside0 (w28.heap[gb372]? = some (.cells #[.int .i64 0, .int .i64 0, .int .i64 0, .slice none 0 0] 44 (0, 0))) := ⟨h3_⟩
                  have n4_ : Aside0 (w.heap.size ≤ gb371) := ⟨h4_⟩
                  have n5_ : Aside0 (w.heap.size ≤ gb371) := ⟨h5_⟩
                  have n6_ : Aside0 (gb366 ≠ gb371) := ⟨h6_⟩
                  have n7_ : Aside0 (gb371 ≠ gb366) := ⟨h7_⟩
                  have n8_ : Aside0 (gb367 ≠ gb371) := ⟨h8_⟩
                  have n9_ : Aside0 (gb371 ≠ gb367) := ⟨h9_⟩
                  have n10_ : Aside0 (gb372 ≠ gb371) := ⟨h10_⟩
                  have n11_ : Aside0 (gb371 ≠ gb372) := ⟨h11_⟩
                  have n12_ : Aside0 (w.heap.size ≤ gb372) := ⟨h12_⟩
                  have n13_ : Aside0 (w.heap.size ≤ gb372) := ⟨h13_⟩
                  have n14_ : Aside0 (gb366 ≠ gb372) := ⟨h14_⟩
                  have n15_ : Aside0 (gb372 ≠ gb366) := ⟨h15_⟩
                  have n16_ : Aside0 (gb367 ≠ gb372) := ⟨h16_⟩
                  have n17_ : Aside0 (gb372 ≠ gb367) := ⟨h17_⟩
                  have n18_ : Aside0 (Below w.heap.size w w28) := ⟨h18_⟩
                  clear BK366
                  clear BK367
                  clear HB
                  clear h0_ h1_ h2_ h3_ h4_ h5_ h6_ h7_ h8_ h9_ h10_ h11_ h12_ h13_ h14_ h15_ h16_ h17_ h18_
                  have BK366 := n0_
                  have BK367 := n1_
                  have BK371 := n2_
                  have BK372 := n3_
                  have GW371 := n4_
                  have GE371 := n5_
                  have NB366_371 := n6_
                  have NB371_366 := n7_
                  have NB367_371 := n8_
                  have NB371_367 := n9_
                  have NB372_371 := n10_
                  have NB371_372 := n11_
                  have GW372 := n12_
                  have GE372 := n13_
                  have NB366_372 := n14_
                  have NB372_366 := n15_
                  have NB367_372 := n16_
                  have NB372_367 := n17_
                  have HB := n18_
                  clear n0_ n1_ n2_ n3_ n4_ n5_ n6_ n7_ n8_ n9_ n10_ n11_ n12_ n13_ n14_ n15_ n16_ n17_ n18_
                  have hHeld : w28.cell? ⟨gb366, 0, none⟩ = some (.int .i64 a0_0) ∧ w28.cell? ⟨gb366, 1, none⟩ = some (.slice A0_1 l0_1.length c0_1) ∧ w28.cell? ⟨gb366, 2, none⟩ = some (.slice (some ad369) l0_2.length c0_2) ∧ w28.cell? ⟨gb367, 0, none⟩ = some (.int .i64 a1_0) ∧ w28.cell? ⟨gb367, 1, none⟩ = some (.slice A1_1 l1_1.length c1_1) ∧ w28.cell? ⟨gb367, 2, none⟩ = some (.slice (some ad370) l1_2.length c1_2) ∧ w28.cell? (ad369.add ((x5_2).toNat * 4)) = some (.int .i64 ((rd_T44 l0_2 x5_2).f0)) ∧ w28.cell? ⟨(ad369.add ((x5_2).toNat * 4)).block, (ad369.add ((x5_2).toNat * 4)).off + 1, none⟩ = some (.int .i64 ((rd_T44 l0_2 x5_2).f1)) ∧ w28.cell? ⟨(ad369.add ((x5_2).toNat * 4)).block, (ad369.add ((x5_2).toNat * 4)).off + 2, none⟩ = some (.int .i64 ((rd_T44 l0_2 x5_2).f2)) ∧ w28.cell? ⟨(ad369.add ((x5_2).toNat * 4)).block, (ad369.add ((x5_2).toNat * 4)).off + 3, none⟩ = some (.slice A369_3 ((rd_T44 l0_2 x5_2).f3).length c369_3) ∧ w28.cell? (ad370.add ((x5_2).toNat * 4)) = some (.int .i64 ((rd_T44 l1_2 x5_2).f0)) ∧ w28.cell? ⟨(ad370.add ((x5_2).toNat * 4)).block, (ad370.add ((x5_2).toNat * 4)).off + 1, none⟩ = some (.int .i64 ((rd_T44 l1_2 x5_2).f1)) ∧ w28.cell? ⟨(ad370.add ((x5_2).toNat * 4)).block, (ad370.add ((x5_2).toNat * 4)).off + 2, none⟩ = some (.int .i64 ((rd_T44 l1_2 x5_2).f2)) ∧ w28.cell? ⟨(ad370.add ((x5_2).toNat * 4)).block, (ad370.add ((x5_2).toNat * 4)).off + 3, none⟩ = some (.slice A370_3 ((rd_T44 l1_2 x5_2).f3).length c370_3) := hS_
                  refine norm_ (a' := ?_) ?_ ?_
                  rotate_left
                  · simp only [putAll, Act.put, List.setIfInBounds_toArray, List.set_cons_zero, List.set_cons_succ]
                    rfl
                  refine one_ (i := 12) (N := none) #[true, true, true, true, true, true, true, true, true, true, true, true, true, false] rfl rfl (one_of HT_.out (by kernel_rfl)) (by decide) (fun K hK => ?_)
                  have hs29 : w28.cell? ⟨gb371, 0, none⟩ = some (.int .i64 0) := (blk_cell BK371.out 0).trans rfl
                  have hfs29 := blk_frozen BK371.out 0
                  have hns29_0 := NB366_371.out
                  have hns29_1 := NB367_371.out
                  have hns29_3 := NB372_371.out
                  have hms29_0 := NB371_366.out
                  have hms29_1 := NB371_367.out
                  have hms29_3 := NB371_372.out
                  have hs30 : w28.cell? ⟨gb371, 1, none⟩ = some (.int .i64 0) := (blk_cell BK371.out 1).trans rfl
                  have hfs30 := blk_frozen BK371.out 1
                  have hns30_0 := NB366_371.out
                  have hns30_1 := NB367_371.out
                  have hns30_3 := NB372_371.out
                  have hms30_0 := NB371_366.out
                  have hms30_1 := NB371_367.out
                  have hms30_3 := NB371_372.out
                  have hs31 : w28.cell? ⟨gb371, 2, none⟩ = some (.int .i64 0) := (blk_cell BK371.out 2).trans rfl
                  have hfs31 := blk_frozen BK371.out 2
                  have hns31_0 := NB366_371.out
                  have hns31_1 := NB367_371.out
                  have hns31_3 := NB372_371.out
                  have hms31_0 := NB371_366.out
                  have hms31_1 := NB371_367.out
                  have hms31_3 := NB371_372.out
                  have hs32 : w28.cell? ⟨gb371, 3, none⟩ = some (.slice none 0 0) := (blk_cell BK371.out 3).trans rfl
                  have hfs32 := blk_frozen BK371.out 3
                  have hns32_0 := NB366_371.out
                  have hns32_1 := NB367_371.out
                  have hns32_3 := NB372_371.out
                  have hms32_0 := NB371_366.out
                  have hms32_1 := NB371_367.out
                  have hms32_3 := NB371_372.out
                  refine skip_ (w1 := ?_) (by rfl) rfl ?_ ?_
                  rotate_left
                  · go_simp
                    rfl
                  refine hK.out _ _ ⟨((cell_far (p := ⟨gb371, _, none⟩) NB366_371.out _).trans (((cell_far (p := ⟨gb371, _, none⟩) NB366_371.out _).trans (((cell_far (p := ⟨gb371, _, none⟩) NB366_371.out _).trans (((cell_far (p := ⟨gb371, _, none⟩) NB366_371.out _).trans (hHeld.1)))))))), ((cell_far (p := ⟨gb371, _, none⟩) NB366_371.out _).trans (((cell_far (p := ⟨gb371, _, none⟩) NB366_371.out _).trans (((cell_far (p := ⟨gb371, _, none⟩) NB366_371.out _).trans (((cell_far (p := ⟨gb371, _, none⟩) NB366_371.out _).trans (hHeld.2.1)))))))), ((cell_far (p := ⟨gb371, _, none⟩) NB366_371.out _).trans (((cell_far (p := ⟨gb371, _, none⟩) NB366_371.out _).trans (((cell_far (p := ⟨gb371, _, none⟩) NB366_371.out _).trans (((cell_far (p := ⟨gb371, _, none⟩) NB366_371.out _).trans (hHeld.2.2.1)))))))), ((cell_far (p := ⟨gb371, _, none⟩) NB367_371.out _).trans (((cell_far (p := ⟨gb371, _, none⟩) NB367_371.out _).trans (((cell_far (p := ⟨gb371, _, none⟩) NB367_371.out _).trans (((cell_far (p := ⟨gb371, _, none⟩) NB367_371.out _).trans (hHeld.2.2.2.1)))))))), ((cell_far (p := ⟨gb371, _, none⟩) NB367_371.out _).trans (((cell_far (p := ⟨gb371, _, none⟩) NB367_371.out _).trans (((cell_far (p := ⟨gb371, _, none⟩) NB367_371.out _).trans (((cell_far (p := ⟨gb371, _, none⟩) NB367_371.out _).trans (hHeld.2.2.2.2.1)))))))), ((cell_far (p := ⟨gb371, _, none⟩) NB367_371.out _).trans (((cell_far (p := ⟨gb371, _, none⟩) NB367_371.out _).trans (((cell_far (p := ⟨gb371, _, none⟩) NB367_371.out _).trans (((cell_far (p := ⟨gb371, _, none⟩) NB367_371.out _).trans (hHeld.2.2.2.2.2.1)))))))), ((cell_far (p := ⟨gb371, _, none⟩) (by first | exact Nat.ne_of_lt (Nat.lt_of_lt_of_le (by have := World.block_lt_of_cell? _ _ hw369_0; first | rwa [add_block] at this | exact this) GW371.out) | (rw [add_block]; exact Nat.ne_of_lt (Nat.lt_of_lt_of_le (by have := World.block_lt_of_cell? _ _ hw369_0; first | rwa [add_block] at this | exact this) GW371.out)) | (show (Addr.add _ _).block ≠ _; rw [add_block]; exact Nat.ne_of_lt (Nat.lt_of_lt_of_le (by have := World.block_lt_of_cell? _ _ hw369_0; first | rwa [add_block] at this | exact this) GW371.out)) | (dsimp only; exact Nat.ne_of_lt (Nat.lt_of_lt_of_le (by have := World.block_lt_of_cell? _ _ hw369_0; first | rwa [add_block] at this | exact this) GW371.out))) _).trans (((cell_far (p := ⟨gb371, _, none⟩) (by first | exact Nat.ne_of_lt (Nat.lt_of_lt_of_le (by have := World.block_lt_of_cell? _ _ hw369_0; first | rwa [add_block] at this | exact this) GW371.out) | (rw [add_block]; exact Nat.ne_of_lt (Nat.lt_of_lt_of_le (by have := World.block_lt_of_cell? _ _ hw369_0; first | rwa [add_block] at this | exact this) GW371.out)) | (show (Addr.add _ _).block ≠ _; rw [add_block]; exact Nat.ne_of_lt (Nat.lt_of_lt_of_le (by have := World.block_lt_of_cell? _ _ hw369_0; first | rwa [add_block] at this | exact this) GW371.out)) | (dsimp only; exact Nat.ne_of_lt (Nat.lt_of_lt_of_le (by have := World.block_lt_of_cell? _ _ hw369_0; first | rwa [add_block] at this | exact this) GW371.out))) _).trans (((cell_far (p := ⟨gb371, _, none⟩) (by first | exact Nat.ne_of_lt (Nat.lt_of_lt_of_le (by have := World.block_lt_of_cell? _ _ hw369_0; first | rwa [add_block] at this | exact this) GW371.out) | (rw [add_block]; exact Nat.ne_of_lt (Nat.lt_of_lt_of_le (by have := World.block_lt_of_cell? _ _ hw369_0; first | rwa [add_block] at this | exact this) GW371.out)) | (show (Addr.add _ _).block ≠ _; rw [add_block]; exact Nat.ne_of_lt (Nat.lt_of_lt_of_le (by have := World.block_lt_of_cell? _ _ hw369_0; first | rwa [add_block] at this | exact this) GW371.out)) | (dsimp only; exact Nat.ne_of_lt (Nat.lt_of_lt_of_le (by have := World.block_lt_of_cell? _ _ hw369_0; first | rwa [add_block] at this | exact this) GW371.out))) _).trans (((cell_far (p := ⟨gb371, _, none⟩) (by first | exact Nat.ne_of_lt (Nat.lt_of_lt_of_le (by have := World.block_lt_of_cell? _ _ hw369_0; first | rwa [add_block] at this | exact this) GW371.out) | (rw [add_block]; exact Nat.ne_of_lt (Nat.lt_of_lt_of_le (by have := World.block_lt_of_cell? _ _ hw369_0; first | rwa [add_block] at this | exact this) GW371.out)) | (show (Addr.add _ _).block ≠ _; rw [add_block]; exact Nat.ne_of_lt (Nat.lt_of_lt_of_le (by have := World.block_lt_of_cell? _ _ hw369_0; first | rwa [add_block] at this | exact this) GW371.out)) | (dsimp only; exact Nat.ne_of_lt (Nat.lt_of_lt_of_le (by have := World.block_lt_of_cell? _ _ hw369_0; first | rwa [add_block] at this | exact this) GW371.out))) _).trans (hHeld.2.2.2.2.2.2.1)))))))), ((cell_far (p := ⟨gb371, _, none⟩) (by first | exact Nat.ne_of_lt (Nat.lt_of_lt_of_le (by have := World.block_lt_of_cell? _ _ hw369_1; first | rwa [add_block] at this | exact this) GW371.out) | (rw [add_block]; exact Nat.ne_of_lt (Nat.lt_of_lt_of_le (by have := World.block_lt_of_cell? _ _ hw369_1; first | rwa [add_block] at this | exact this) GW371.out)) | (show (Addr.add _ _).block ≠ _; rw [add_block]; exact Nat.ne_of_lt (Nat.lt_of_lt_of_le (by have := World.block_lt_of_cell? _ _ hw369_1; first | rwa [add_block] at this | exact this) GW371.out)) | (dsimp only; exact Nat.ne_of_lt (Nat.lt_of_lt_of_le (by have := World.block_lt_of_cell? _ _ hw369_1; first | rwa [add_block] at this | exact this) GW371.out))) _).trans (((cell_far (p := ⟨gb371, _, none⟩) (by first | exact Nat.ne_of_lt (Nat.lt_of_lt_of_le (by have := World.block_lt_of_cell? _ _ hw369_1; first | rwa [add_block] at this | exact this) GW371.out) | (rw [add_block]; exact Nat.ne_of_lt (Nat.lt_of_lt_of_le (by have := World.block_lt_of_cell? _ _ hw369_1; first | rwa [add_block] at this | exact this) GW371.out)) | (show (Addr.add _ _).block ≠ _; rw [add_block]; exact Nat.ne_of_lt (Nat.lt_of_lt_of_le (by have := World.block_lt_of_cell? _ _ hw369_1; first | rwa [add_block] at this | exact this) GW371.out)) | (dsimp only; exact Nat.ne_of_lt (Nat.lt_of_lt_of_le (by have := World.block_lt_of_cell? _ _ hw369_1; first | rwa [add_block] at this | exact this) GW371.out))) _).trans (((cell_far (p := ⟨gb371, _, none⟩) (by first | exact Nat.ne_of_lt (Nat.lt_of_lt_of_le (by have := World.block_lt_of_cell? _ _ hw369_1; first | rwa [add_block] at this | exact this) GW371.out) | (rw [add_block]; exact Nat.ne_of_lt (Nat.lt_of_lt_of_le (by have := World.block_lt_of_cell? _ _ hw369_1; first | rwa [add_block] at this | exact this) GW371.out)) | (show (Addr.add _ _).block ≠ _; rw [add_block]; exact Nat.ne_of_lt (Nat.lt_of_lt_of_le (by have := World.block_lt_of_cell? _ _ hw369_1; first | rwa [add_block] at this | exact this) GW371.out)) | (dsimp only; exact Nat.ne_of_lt (Nat.lt_of_lt_of_le (by have := World.block_lt_of_cell? _ _ hw369_1; first | rwa [add_block] at this | exact this) GW371.out))) _).trans (((cell_far (p := ⟨gb371, _, none⟩) (by first | exact Nat.ne_of_lt (Nat.lt_of_lt_of_le (by have := World.block_lt_of_cell? _ _ hw369_1; first | rwa [add_block] at this | exact this) GW371.out) | (rw [add_block]; exact Nat.ne_of_lt (Nat.lt_of_lt_of_le (by have := World.block_lt_of_cell? _ _ hw369_1; first | rwa [add_block] at this | exact this) GW371.out)) | (show (Addr.add _ _).block ≠ _; rw [add_block]; exact Nat.ne_of_lt (Nat.lt_of_lt_of_le (by have := World.block_lt_of_cell? _ _ hw369_1; first | rwa [add_block] at this | exact this) GW371.out)) | (dsimp only; exact Nat.ne_of_lt (Nat.lt_of_lt_of_le (by have := World.block_lt_of_cell? _ _ hw369_1; first | rwa [add_block] at this | exact this) GW371.out))) _).trans (hHeld.2.2.2.2.2.2.2.1)))))))), ((cell_far (p := ⟨gb371, _, none⟩) (by first | exact Nat.ne_of_lt (Nat.lt_of_lt_of_le (by have := World.block_lt_of_cell? _ _ hw369_2; first | rwa [add_block] at this | exact this) GW371.out) | (rw [add_block]; exact Nat.ne_of_lt (Nat.lt_of_lt_of_le (by have := World.block_lt_of_cell? _ _ hw369_2; first | rwa [add_block] at this | exact this) GW371.out)) | (show (Addr.add _ _).block ≠ _; rw [add_block]; exact Nat.ne_of_lt (Nat.lt_of_lt_of_le (by have := World.block_lt_of_cell? _ _ hw369_2; first | rwa [add_block] at this | exact this) GW371.out)) | (dsimp only; exact Nat.ne_of_lt (Nat.lt_of_lt_of_le (by have := World.block_lt_of_cell? _ _ hw369_2; first | rwa [add_block] at this | exact this) GW371.out))) _).trans (((cell_far (p := ⟨gb371, _, none⟩) (by first | exact Nat.ne_of_lt (Nat.lt_of_lt_of_le (by have := World.block_lt_of_cell? _ _ hw369_2; first | rwa [add_block] at this | exact this) GW371.out) | (rw [add_block]; exact Nat.ne_of_lt (Nat.lt_of_lt_of_le (by have := World.block_lt_of_cell? _ _ hw369_2; first | rwa [add_block] at this | exact this) GW371.out)) | (show (Addr.add _ _).block ≠ _; rw [add_block]; exact Nat.ne_of_lt (Nat.lt_of_lt_of_le (by have := World.block_lt_of_cell? _ _ hw369_2; first | rwa [add_block] at this | exact this) GW371.out)) | (dsimp only; exact Nat.ne_of_lt (Nat.lt_of_lt_of_le (by have := World.block_lt_of_cell? _ _ hw369_2; first | rwa [add_block] at this | exact this) GW371.out))) _).trans (((cell_far (p := ⟨gb371, _, none⟩) (by first | exact Nat.ne_of_lt (Nat.lt_of_lt_of_le (by have := World.block_lt_of_cell? _ _ hw369_2; first | rwa [add_block] at this | exact this) GW371.out) | (rw [add_block]; exact Nat.ne_of_lt (Nat.lt_of_lt_of_le (by have := World.block_lt_of_cell? _ _ hw369_2; first | rwa [add_block] at this | exact this) GW371.out)) | (show (Addr.add _ _).block ≠ _; rw [add_block]; exact Nat.ne_of_lt (Nat.lt_of_lt_of_le (by have := World.block_lt_of_cell? _ _ hw369_2; first | rwa [add_block] at this | exact this) GW371.out)) | (dsimp only; exact Nat.ne_of_lt (Nat.lt_of_lt_of_le (by have := World.block_lt_of_cell? _ _ hw369_2; first | rwa [add_block] at this | exact this) GW371.out))) _).trans (((cell_far (p := ⟨gb371, _, none⟩) (by first | exact Nat.ne_of_lt (Nat.lt_of_lt_of_le (by have := World.block_lt_of_cell? _ _ hw369_2; first | rwa [add_block] at this | exact this) GW371.out) | (rw [add_block]; exact Nat.ne_of_lt (Nat.lt_of_lt_of_le (by have := World.block_lt_of_cell? _ _ hw369_2; first | rwa [add_block] at this | exact this) GW371.out)) | (show (Addr.add _ _).block ≠ _; rw [add_block]; exact Nat.ne_of_lt (Nat.lt_of_lt_of_le (by have := World.block_lt_of_cell? _ _ hw369_2; first | rwa [add_block] at this | exact this) GW371.out)) | (dsimp only; exact Nat.ne_of_lt (Nat.lt_of_lt_of_le (by have := World.block_lt_of_cell? _ _ hw369_2; first | rwa [add_block] at this | exact this) GW371.out))) _).trans (hHeld.2.2.2.2.2.2.2.2.1)))))))), ((cell_far (p := ⟨gb371, _, none⟩) (by first | exact Nat.ne_of_lt (Nat.lt_of_lt_of_le (by have := World.block_lt_of_cell? _ _ hw369_3; first | rwa [add_block] at this | exact this) GW371.out) | (rw [add_block]; exact Nat.ne_of_lt (Nat.lt_of_lt_of_le (by have := World.block_lt_of_cell? _ _ hw369_3; first | rwa [add_block] at this | exact this) GW371.out)) | (show (Addr.add _ _).block ≠ _; rw [add_block]; exact Nat.ne_of_lt (Nat.lt_of_lt_of_le (by have := World.block_lt_of_cell? _ _ hw369_3; first | rwa [add_block] at this | exact this) GW371.out)) | (dsimp only; exact Nat.ne_of_lt (Nat.lt_of_lt_of_le (by have := World.block_lt_of_cell? _ _ hw369_3; first | rwa [add_block] at this | exact this) GW371.out))) _).trans (((cell_far (p := ⟨gb371, _, none⟩) (by first | exact Nat.ne_of_lt (Nat.lt_of_lt_of_le (by have := World.block_lt_of_cell? _ _ hw369_3; first | rwa [add_block] at this | exact this) GW371.out) | (rw [add_block]; exact Nat.ne_of_lt (Nat.lt_of_lt_of_le (by have := World.block_lt_of_cell? _ _ hw369_3; first | rwa [add_block] at this | exact this) GW371.out)) | (show (Addr.add _ _).block ≠ _; rw [add_block]; exact Nat.ne_of_lt (Nat.lt_of_lt_of_le (by have := World.block_lt_of_cell? _ _ hw369_3; first | rwa [add_block] at this | exact this) GW371.out)) | (dsimp only; exact Nat.ne_of_lt (Nat.lt_of_lt_of_le (by have := World.block_lt_of_cell? _ _ hw369_3; first | rwa [add_block] at this | exact this) GW371.out))) _).trans (((cell_far (p := ⟨gb371, _, none⟩) (by first | exact Nat.ne_of_lt (Nat.lt_of_lt_of_le (by have := World.block_lt_of_cell? _ _ hw369_3; first | rwa [add_block] at this | exact this) GW371.out) | (rw [add_block]; exact Nat.ne_of_lt (Nat.lt_of_lt_of_le (by have := World.block_lt_of_cell? _ _ hw369_3; first | rwa [add_block] at this | exact this) GW371.out)) | (show (Addr.add _ _).block ≠ _; rw [add_block]; exact Nat.ne_of_lt (Nat.lt_of_lt_of_le (by have := World.block_lt_of_cell? _ _ hw369_3; first | rwa [add_block] at this | exact this) GW371.out)) | (dsimp only; exact Nat.ne_of_lt (Nat.lt_of_lt_of_le (by have := World.block_lt_of_cell? _ _ hw369_3; first | rwa [add_block] at this | exact this) GW371.out))) _).trans (((cell_far (p := ⟨gb371, _, none⟩) (by first | exact Nat.ne_of_lt (Nat.lt_of_lt_of_le (by have := World.block_lt_of_cell? _ _ hw369_3; first | rwa [add_block] at this | exact this) GW371.out) | (rw [add_block]; exact Nat.ne_of_lt (Nat.lt_of_lt_of_le (by have := World.block_lt_of_cell? _ _ hw369_3; first | rwa [add_block] at this | exact this) GW371.out)) | (show (Addr.add _ _).block ≠ _; rw [add_block]; exact Nat.ne_of_lt (Nat.lt_of_lt_of_le (by have := World.block_lt_of_cell? _ _ hw369_3; first | rwa [add_block] at this | exact this) GW371.out)) | (dsimp only; exact Nat.ne_of_lt (Nat.lt_of_lt_of_le (by have := World.block_lt_of_cell? _ _ hw369_3; first | rwa [add_block] at this | exact this) GW371.out))) _).trans (hHeld.2.2.2.2.2.2.2.2.2.1)))))))), ((cell_far (p := ⟨gb371, _, none⟩) (by first | exact Nat.ne_of_lt (Nat.lt_of_lt_of_le (by have := World.block_lt_of_cell? _ _ hw370_0; first | rwa [add_block] at this | exact this) GW371.out) | (rw [add_block]; exact Nat.ne_of_lt (Nat.lt_of_lt_of_le (by have := World.block_lt_of_cell? _ _ hw370_0; first | rwa [add_block] at this | exact this) GW371.out)) | (show (Addr.add _ _).block ≠ _; rw [add_block]; exact Nat.ne_of_lt (Nat.lt_of_lt_of_le (by have := World.block_lt_of_cell? _ _ hw370_0; first | rwa [add_block] at this | exact this) GW371.out)) | (dsimp only; exact Nat.ne_of_lt (Nat.lt_of_lt_of_le (by have := World.block_lt_of_cell? _ _ hw370_0; first | rwa [add_block] at this | exact this) GW371.out))) _).trans (((cell_far (p := ⟨gb371, _, none⟩) (by first | exact Nat.ne_of_lt (Nat.lt_of_lt_of_le (by have := World.block_lt_of_cell? _ _ hw370_0; first | rwa [add_block] at this | exact this) GW371.out) | (rw [add_block]; exact Nat.ne_of_lt (Nat.lt_of_lt_of_le (by have := World.block_lt_of_cell? _ _ hw370_0; first | rwa [add_block] at this | exact this) GW371.out)) | (show (Addr.add _ _).block ≠ _; rw [add_block]; exact Nat.ne_of_lt (Nat.lt_of_lt_of_le (by have := World.block_lt_of_cell? _ _ hw370_0; first | rwa [add_block] at this | exact this) GW371.out)) | (dsimp only; exact Nat.ne_of_lt (Nat.lt_of_lt_of_le (by have := World.block_lt_of_cell? _ _ hw370_0; first | rwa [add_block] at this | exact this) GW371.out))) _).trans (((cell_far (p := ⟨gb371, _, none⟩) (by first | exact Nat.ne_of_lt (Nat.lt_of_lt_of_le (by have := World.block_lt_of_cell? _ _ hw370_0; first | rwa [add_block] at this | exact this) GW371.out) | (rw [add_block]; exact Nat.ne_of_lt (Nat.lt_of_lt_of_le (by have := World.block_lt_of_cell? _ _ hw370_0; first | rwa [add_block] at this | exact this) GW371.out)) | (show (Addr.add _ _).block ≠ _; rw [add_block]; exact Nat.ne_of_lt (Nat.lt_of_lt_of_le (by have := World.block_lt_of_cell? _ _ hw370_0; first | rwa [add_block] at this | exact this) GW371.out)) | (dsimp only; exact Nat.ne_of_lt (Nat.lt_of_lt_of_le (by have := World.block_lt_of_cell? _ _ hw370_0; first | rwa [add_block] at this | exact this) GW371.out))) _).trans (((cell_far (p := ⟨gb371, _, none⟩) (by first | exact Nat.ne_of_lt (Nat.lt_of_lt_of_le (by have := World.block_lt_of_cell? _ _ hw370_0; first | rwa [add_block] at this | exact this) GW371.out) | (rw [add_block]; exact Nat.ne_of_lt (Nat.lt_of_lt_of_le (by have := World.block_lt_of_cell? _ _ hw370_0; first | rwa [add_block] at this | exact this) GW371.out)) | (show (Addr.add _ _).block ≠ _; rw [add_block]; exact Nat.ne_of_lt (Nat.lt_of_lt_of_le (by have := World.block_lt_of_cell? _ _ hw370_0; first | rwa [add_block] at this | exact this) GW371.out)) | (dsimp only; exact Nat.ne_of_lt (Nat.lt_of_lt_of_le (by have := World.block_lt_of_cell? _ _ hw370_0; first | rwa [add_block] at this | exact this) GW371.out))) _).trans (hHeld.2.2.2.2.2.2.2.2.2.2.1)))))))), ((cell_far (p := ⟨gb371, _, none⟩) (by first | exact Nat.ne_of_lt (Nat.lt_of_lt_of_le (by have := World.block_lt_of_cell? _ _ hw370_1; first | rwa [add_block] at this | exact this) GW371.out) | (rw [add_block]; exact Nat.ne_of_lt (Nat.lt_of_lt_of_le (by have := World.block_lt_of_cell? _ _ hw370_1; first | rwa [add_block] at this | exact this) GW371.out)) | (show (Addr.add _ _).block ≠ _; rw [add_block]; exact Nat.ne_of_lt (Nat.lt_of_lt_of_le (by have := World.block_lt_of_cell? _ _ hw370_1; first | rwa [add_block] at this | exact this) GW371.out)) | (dsimp only; exact Nat.ne_of_lt (Nat.lt_of_lt_of_le (by have := World.block_lt_of_cell? _ _ hw370_1; first | rwa [add_block] at this | exact this) GW371.out))) _).trans (((cell_far (p := ⟨gb371, _, none⟩) (by first | exact Nat.ne_of_lt (Nat.lt_of_lt_of_le (by have := World.block_lt_of_cell? _ _ hw370_1; first | rwa [add_block] at this | exact this) GW371.out) | (rw [add_block]; exact Nat.ne_of_lt (Nat.lt_of_lt_of_le (by have := World.block_lt_of_cell? _ _ hw370_1; first | rwa [add_block] at this | exact this) GW371.out)) | (show (Addr.add _ _).block ≠ _; rw [add_block]; exact Nat.ne_of_lt (Nat.lt_of_lt_of_le (by have := World.block_lt_of_cell? _ _ hw370_1; first | rwa [add_block] at this | exact this) GW371.out)) | (dsimp only; exact Nat.ne_of_lt (Nat.lt_of_lt_of_le (by have := World.block_lt_of_cell? _ _ hw370_1; first | rwa [add_block] at this | exact this) GW371.out))) _).trans (((cell_far (p := ⟨gb371, _, none⟩) (by first | exact Nat.ne_of_lt (Nat.lt_of_lt_of_le (by have := World.block_lt_of_cell? _ _ hw370_1; first | rwa [add_block] at this | exact this) GW371.out) | (rw [add_block]; exact Nat.ne_of_lt (Nat.lt_of_lt_of_le (by have := World.block_lt_of_cell? _ _ hw370_1; first | rwa [add_block] at this | exact this) GW371.out)) | (show (Addr.add _ _).block ≠ _; rw [add_block]; exact Nat.ne_of_lt (Nat.lt_of_lt_of_le (by have := World.block_lt_of_cell? _ _ hw370_1; first | rwa [add_block] at this | exact this) GW371.out)) | (dsimp only; exact Nat.ne_of_lt (Nat.lt_of_lt_of_le (by have := World.block_lt_of_cell? _ _ hw370_1; first | rwa [add_block] at this | exact this) GW371.out))) _).trans (((cell_far (p := ⟨gb371, _, none⟩) (by first | exact Nat.ne_of_lt (Nat.lt_of_lt_of_le (by have := World.block_lt_of_cell? _ _ hw370_1; first | rwa [add_block] at this | exact this) GW371.out) | (rw [add_block]; exact Nat.ne_of_lt (Nat.lt_of_lt_of_le (by have := World.block_lt_of_cell? _ _ hw370_1; first | rwa [add_block] at this | exact this) GW371.out)) | (show (Addr.add _ _).block ≠ _; rw [add_block]; exact Nat.ne_of_lt (Nat.lt_of_lt_of_le (by have := World.block_lt_of_cell? _ _ hw370_1; first | rwa [add_block] at this | exact this) GW371.out)) | (dsimp only; exact Nat.ne_of_lt (Nat.lt_of_lt_of_le (by have := World.block_lt_of_cell? _ _ hw370_1; first | rwa [add_block] at this | exact this) GW371.out))) _).trans (hHeld.2.2.2.2.2.2.2.2.2.2.2.1)))))))), ((cell_far (p := ⟨gb371, _, none⟩) (by first | exact Nat.ne_of_lt (Nat.lt_of_lt_of_le (by have := World.block_lt_of_cell? _ _ hw370_2; first | rwa [add_block] at this | exact this) GW371.out) | (rw [add_block]; exact Nat.ne_of_lt (Nat.lt_of_lt_of_le (by have := World.block_lt_of_cell? _ _ hw370_2; first | rwa [add_block] at this | exact this) GW371.out)) | (show (Addr.add _ _).block ≠ _; rw [add_block]; exact Nat.ne_of_lt (Nat.lt_of_lt_of_le (by have := World.block_lt_of_cell? _ _ hw370_2; first | rwa [add_block] at this | exact this) GW371.out)) | (dsimp only; exact Nat.ne_of_lt (Nat.lt_of_lt_of_le (by have := World.block_lt_of_cell? _ _ hw370_2; first | rwa [add_block] at this | exact this) GW371.out))) _).trans (((cell_far (p := ⟨gb371, _, none⟩) (by first | exact Nat.ne_of_lt (Nat.lt_of_lt_of_le (by have := World.block_lt_of_cell? _ _ hw370_2; first | rwa [add_block] at this | exact this) GW371.out) | (rw [add_block]; exact Nat.ne_of_lt (Nat.lt_of_lt_of_le (by have := World.block_lt_of_cell? _ _ hw370_2; first | rwa [add_block] at this | exact this) GW371.out)) | (show (Addr.add _ _).block ≠ _; rw [add_block]; exact Nat.ne_of_lt (Nat.lt_of_lt_of_le (by have := World.block_lt_of_cell? _ _ hw370_2; first | rwa [add_block] at this | exact this) GW371.out)) | (dsimp only; exact Nat.ne_of_lt (Nat.lt_of_lt_of_le (by have := World.block_lt_of_cell? _ _ hw370_2; first | rwa [add_block] at this | exact this) GW371.out))) _).trans (((cell_far (p := ⟨gb371, _, none⟩) (by first | exact Nat.ne_of_lt (Nat.lt_of_lt_of_le (by have := World.block_lt_of_cell? _ _ hw370_2; first | rwa [add_block] at this | exact this) GW371.out) | (rw [add_block]; exact Nat.ne_of_lt (Nat.lt_of_lt_of_le (by have := World.block_lt_of_cell? _ _ hw370_2; first | rwa [add_block] at this | exact this) GW371.out)) | (show (Addr.add _ _).block ≠ _; rw [add_block]; exact Nat.ne_of_lt (Nat.lt_of_lt_of_le (by have := World.block_lt_of_cell? _ _ hw370_2; first | rwa [add_block] at this | exact this) GW371.out)) | (dsimp only; exact Nat.ne_of_lt (Nat.lt_of_lt_of_le (by have := World.block_lt_of_cell? _ _ hw370_2; first | rwa [add_block] at this | exact this) GW371.out))) _).trans (((cell_far (p := ⟨gb371, _, none⟩) (by first | exact Nat.ne_of_lt (Nat.lt_of_lt_of_le (by have := World.block_lt_of_cell? _ _ hw370_2; first | rwa [add_block] at this | exact this) GW371.out) | (rw [add_block]; exact Nat.ne_of_lt (Nat.lt_of_lt_of_le (by have := World.block_lt_of_cell? _ _ hw370_2; first | rwa [add_block] at this | exact this) GW371.out)) | (show (Addr.add _ _).block ≠ _; rw [add_block]; exact Nat.ne_of_lt (Nat.lt_of_lt_of_le (by have := World.block_lt_of_cell? _ _ hw370_2; first | rwa [add_block] at this | exact this) GW371.out)) | (dsimp only; exact Nat.ne_of_lt (Nat.lt_of_lt_of_le (by have := World.block_lt_of_cell? _ _ hw370_2; first | rwa [add_block] at this | exact this) GW371.out))) _).trans (hHeld.2.2.2.2.2.2.2.2.2.2.2.2.1)))))))), ((cell_far (p := ⟨gb371, _, none⟩) (by first | exact Nat.ne_of_lt (Nat.lt_of_lt_of_le (by have := World.block_lt_of_cell? _ _ hw370_3; first | rwa [add_block] at this | exact this) GW371.out) | (rw [add_block]; exact Nat.ne_of_lt (Nat.lt_of_lt_of_le (by have := World.block_lt_of_cell? _ _ hw370_3; first | rwa [add_block] at this | exact this) GW371.out)) | (show (Addr.add _ _).block ≠ _; rw [add_block]; exact Nat.ne_of_lt (Nat.lt_of_lt_of_le (by have := World.block_lt_of_cell? _ _ hw370_3; first | rwa [add_block] at this | exact this) GW371.out)) | (dsimp only; exact Nat.ne_of_lt (Nat.lt_of_lt_of_le (by have := World.block_lt_of_cell? _ _ hw370_3; first | rwa [add_block] at this | exact this) GW371.out))) _).trans (((cell_far (p := ⟨gb371, _, none⟩) (by first | exact Nat.ne_of_lt (Nat.lt_of_lt_of_le (by have := World.block_lt_of_cell? _ _ hw370_3; first | rwa [add_block] at this | exact this) GW371.out) | (rw [add_block]; exact Nat.ne_of_lt (Nat.lt_of_lt_of_le (by have := World.block_lt_of_cell? _ _ hw370_3; first | rwa [add_block] at this | exact this) GW371.out)) | (show (Addr.add _ _).block ≠ _; rw [add_block]; exact Nat.ne_of_lt (Nat.lt_of_lt_of_le (by have := World.block_lt_of_cell? _ _ hw370_3; first | rwa [add_block] at this | exact this) GW371.out)) | (dsimp only; exact Nat.ne_of_lt (Nat.lt_of_lt_of_le (by have := World.block_lt_of_cell? _ _ hw370_3; first | rwa [add_block] at this | exact this) GW371.out))) _).trans (((cell_far (p := ⟨gb371, _, none⟩) (by first | exact Nat.ne_of_lt (Nat.lt_of_lt_of_le (by have := World.block_lt_of_cell? _ _ hw370_3; first | rwa [add_block] at this | exact this) GW371.out) | (rw [add_block]; exact Nat.ne_of_lt (Nat.lt_of_lt_of_le (by have := World.block_lt_of_cell? _ _ hw370_3; first | rwa [add_block] at this | exact this) GW371.out)) | (show (Addr.add _ _).block ≠ _; rw [add_block]; exact Nat.ne_of_lt (Nat.lt_of_lt_of_le (by have := World.block_lt_of_cell? _ _ hw370_3; first | rwa [add_block] at this | exact this) GW371.out)) | (dsimp only; exact Nat.ne_of_lt (Nat.lt_of_lt_of_le (by have := World.block_lt_of_cell? _ _ hw370_3; first | rwa [add_block] at this | exact this) GW371.out))) _).trans (((cell_far (p := ⟨gb371, _, none⟩) (by first | exact Nat.ne_of_lt (Nat.lt_of_lt_of_le (by have := World.block_lt_of_cell? _ _ hw370_3; first | rwa [add_block] at this | exact this) GW371.out) | (rw [add_block]; exact Nat.ne_of_lt (Nat.lt_of_lt_of_le (by have := World.block_lt_of_cell? _ _ hw370_3; first | rwa [add_block] at this | exact this) GW371.out)) | (show (Addr.add _ _).block ≠ _; rw [add_block]; exact Nat.ne_of_lt (Nat.lt_of_lt_of_le (by have := World.block_lt_of_cell? _ _ hw370_3; first | rwa [add_block] at this | exact this) GW371.out)) | (dsimp only; exact Nat.ne_of_lt (Nat.lt_of_lt_of_le (by have := World.block_lt_of_cell? _ _ hw370_3; first | rwa [add_block] at this | exact this) GW371.out))) _).trans (hHeld.2.2.2.2.2.2.2.2.2.2.2.2.2))))))))⟩ (fun hHeld => ?_)
                  clear hK K
                  refine one_ (i := 13) (N := none) #[true, true, true, true, true, true, true, true, true, true, true, true, true, true] rfl rfl (one_of HT_.out (by kernel_rfl)) (by decide) (fun K hK => ?_)
                  have hs33 : w28.cell? ⟨gb372, 0, none⟩ = some (.int .i64 0) := (blk_cell BK372.out 0).trans rfl
                  have hfs33 := blk_frozen BK372.out 0
                  have hns33_0 := NB366_372.out
                  have hns33_1 := NB367_372.out
                  have hns33_2 := NB371_372.out
                  have hms33_0 := NB372_366.out
                  have hms33_1 := NB372_367.out
                  have hms33_2 := NB372_371.out
                  have hs34 : w28.cell? ⟨gb372, 1, none⟩ = some (.int .i64 0) := (blk_cell BK372.out 1).trans rfl
                  have hfs34 := blk_frozen BK372.out 1
                  have hns34_0 := NB366_372.out
                  have hns34_1 := NB367_372.out
                  have hns34_2 := NB371_372.out
                  have hms34_0 := NB372_366.out
                  have hms34_1 := NB372_367.out
                  have hms34_2 := NB372_371.out
                  have hs35 : w28.cell? ⟨gb372, 2, none⟩ = some (.int .i64 0) := (blk_cell BK372.out 2).trans rfl
                  have hfs35 := blk_frozen BK372.out 2
                  have hns35_0 := NB366_372.out
                  have hns35_1 := NB367_372.out
                  have hns35_2 := NB371_372.out
                  have hms35_0 := NB372_366.out
                  have hms35_1 := NB372_367.out
                  have hms35_2 := NB372_371.out
                  have hs36 : w28.cell? ⟨gb372, 3, none⟩ = some (.slice none 0 0) := (blk_cell BK372.out 3).trans rfl
                  have hfs36 := blk_frozen BK372.out 3
                  have hns36_0 := NB366_372.out
                  have hns36_1 := NB367_372.out
                  have hns36_2 := NB371_372.out
                  have hms36_0 := NB372_366.out
                  have hms36_1 := NB372_367.out
                  have hms36_2 := NB372_371.out
                  refine skip_ (w1 := ?_) (by rfl) rfl ?_ ?_
                  rotate_left
                  · go_simp
                    rfl
                  refine hK.out _ _ ⟨((cell_far (p := ⟨gb372, _, none⟩) NB366_372.out _).trans (((cell_far (p := ⟨gb372, _, none⟩) NB366_372.out _).trans (((cell_far (p := ⟨gb372, _, none⟩) NB366_372.out _).trans (((cell_far (p := ⟨gb372, _, none⟩) NB366_372.out _).trans (hHeld.1)))))))), ((cell_far (p := ⟨gb372, _, none⟩) NB366_372.out _).trans (((cell_far (p := ⟨gb372, _, none⟩) NB366_372.out _).trans (((cell_far (p := ⟨gb372, _, none⟩) NB366_372.out _).trans (((cell_far (p := ⟨gb372, _, none⟩) NB366_372.out _).trans (hHeld.2.1)))))))), ((cell_far (p := ⟨gb372, _, none⟩) NB366_372.out _).trans (((cell_far (p := ⟨gb372, _, none⟩) NB366_372.out _).trans (((cell_far (p := ⟨gb372, _, none⟩) NB366_372.out _).trans (((cell_far (p := ⟨gb372, _, none⟩) NB366_372.out _).trans (hHeld.2.2.1)))))))), ((cell_far (p := ⟨gb372, _, none⟩) NB367_372.out _).trans (((cell_far (p := ⟨gb372, _, none⟩) NB367_372.out _).trans (((cell_far (p := ⟨gb372, _, none⟩) NB367_372.out _).trans (((cell_far (p := ⟨gb372, _, none⟩) NB367_372.out _).trans (hHeld.2.2.2.1)))))))), ((cell_far (p := ⟨gb372, _, none⟩) NB367_372.out _).trans (((cell_far (p := ⟨gb372, _, none⟩) NB367_372.out _).trans (((cell_far (p := ⟨gb372, _, none⟩) NB367_372.out _).trans (((cell_far (p := ⟨gb372, _, none⟩) NB367_372.out _).trans (hHeld.2.2.2.2.1)))))))), ((cell_far (p := ⟨gb372, _, none⟩) NB367_372.out _).trans (((cell_far (p := ⟨gb372, _, none⟩) NB367_372.out _).trans (((cell_far (p := ⟨gb372, _, none⟩) NB367_372.out _).trans (((cell_far (p := ⟨gb372, _, none⟩) NB367_372.out _).trans (hHeld.2.2.2.2.2.1)))))))), ((cell_far (p := ⟨gb372, _, none⟩) (by first | exact Nat.ne_of_lt (Nat.lt_of_lt_of_le (by have := World.block_lt_of_cell? _ _ hw369_0; first | rwa [add_block] at this | exact this) GW372.out) | (rw [add_block]; exact Nat.ne_of_lt (Nat.lt_of_lt_of_le (by have := World.block_lt_of_cell? _ _ hw369_0; first | rwa [add_block] at this | exact this) GW372.out)) | (show (Addr.add _ _).block ≠ _; rw [add_block]; exact Nat.ne_of_lt (Nat.lt_of_lt_of_le (by have := World.block_lt_of_cell? _ _ hw369_0; first | rwa [add_block] at this | exact this) GW372.out)) | (dsimp only; exact Nat.ne_of_lt (Nat.lt_of_lt_of_le (by have := World.block_lt_of_cell? _ _ hw369_0; first | rwa [add_block] at this | exact this) GW372.out))) _).trans (((cell_far (p := ⟨gb372, _, none⟩) (by first | exact Nat.ne_of_lt (Nat.lt_of_lt_of_le (by have := World.block_lt_of_cell? _ _ hw369_0; first | rwa [add_block] at this | exact this) GW372.out) | (rw [add_block]; exact Nat.ne_of_lt (Nat.lt_of_lt_of_le (by have := World.block_lt_of_cell? _ _ hw369_0; first | rwa [add_block] at this | exact this) GW372.out)) | (show (Addr.add _ _).block ≠ _; rw [add_block]; exact Nat.ne_of_lt (Nat.lt_of_lt_of_le (by have := World.block_lt_of_cell? _ _ hw369_0; first | rwa [add_block] at this | exact this) GW372.out)) | (dsimp only; exact Nat.ne_of_lt (Nat.lt_of_lt_of_le (by have := World.block_lt_of_cell? _ _ hw369_0; first | rwa [add_block] at this | exact this) GW372.out))) _).trans (((cell_far (p := ⟨gb372, _, none⟩) (by first | exact Nat.ne_of_lt (Nat.lt_of_lt_of_le (by have := World.block_lt_of_cell? _ _ hw369_0; first | rwa [add_block] at this | exact this) GW372.out) | (rw [add_block]; exact Nat.ne_of_lt (Nat.lt_of_lt_of_le (by have := World.block_lt_of_cell? _ _ hw369_0; first | rwa [add_block] at this | exact this) GW372.out)) | (show (Addr.add _ _).block ≠ _; rw [add_block]; exact Nat.ne_of_lt (Nat.lt_of_lt_of_le (by have := World.block_lt_of_cell? _ _ hw369_0; first | rwa [add_block] at this | exact this) GW372.out)) | (dsimp only; exact Nat.ne_of_lt (Nat.lt_of_lt_of_le (by have := World.block_lt_of_cell? _ _ hw369_0; first | rwa [add_block] at this | exact this) GW372.out))) _).trans (((cell_far (p := ⟨gb372, _, none⟩) (by first | exact Nat.ne_of_lt (Nat.lt_of_lt_of_le (by have := World.block_lt_of_cell? _ _ hw369_0; first | rwa [add_block] at this | exact this) GW372.out) | (rw [add_block]; exact Nat.ne_of_lt (Nat.lt_of_lt_of_le (by have := World.block_lt_of_cell? _ _ hw369_0; first | rwa [add_block] at this | exact this) GW372.out)) | (show (Addr.add _ _).block ≠ _; rw [add_block]; exact Nat.ne_of_lt (Nat.lt_of_lt_of_le (by have := World.block_lt_of_cell? _ _ hw369_0; first | rwa [add_block] at this | exact this) GW372.out)) | (dsimp only; exact Nat.ne_of_lt (Nat.lt_of_lt_of_le (by have := World.block_lt_of_cell? _ _ hw369_0; first | rwa [add_block] at this | exact this) GW372.out))) _).trans (hHeld.2.2.2.2.2.2.1)))))))), ((cell_far (p := ⟨gb372, _, none⟩) (by first | exact Nat.ne_of_lt (Nat.lt_of_lt_of_le (by have := World.block_lt_of_cell? _ _ hw369_1; first | rwa [add_block] at this | exact this) GW372.out) | (rw [add_block]; exact Nat.ne_of_lt (Nat.lt_of_lt_of_le (by have := World.block_lt_of_cell? _ _ hw369_1; first | rwa [add_block] at this | exact this) GW372.out)) | (show (Addr.add _ _).block ≠ _; rw [add_block]; exact Nat.ne_of_lt (Nat.lt_of_lt_of_le (by have := World.block_lt_of_cell? _ _ hw369_1; first | rwa [add_block] at this | exact this) GW372.out)) | (dsimp only; exact Nat.ne_of_lt (Nat.lt_of_lt_of_le (by have := World.block_lt_of_cell? _ _ hw369_1; first | rwa [add_block] at this | exact this) GW372.out))) _).trans (((cell_far (p := ⟨gb372, _, none⟩) (by first | exact Nat.ne_of_lt (Nat.lt_of_lt_of_le (by have := World.block_lt_of_cell? _ _ hw369_1; first | rwa [add_block] at this | exact this) GW372.out) | (rw [add_block]; exact Nat.ne_of_lt (Nat.lt_of_lt_of_le (by have := World.block_lt_of_cell? _ _ hw369_1; first | rwa [add_block] at this | exact this) GW372.out)) | (show (Addr.add _ _).block ≠ _; rw [add_block]; exact Nat.ne_of_lt (Nat.lt_of_lt_of_le (by have := World.block_lt_of_cell? _ _ hw369_1; first | rwa [add_block] at this | exact this) GW372.out)) | (dsimp only; exact Nat.ne_of_lt (Nat.lt_of_lt_of_le (by have := World.block_lt_of_cell? _ _ hw369_1; first | rwa [add_block] at this | exact this) GW372.out))) _).trans (((cell_far (p := ⟨gb372, _, none⟩) (by first | exact Nat.ne_of_lt (Nat.lt_of_lt_of_le (by have := World.block_lt_of_cell? _ _ hw369_1; first | rwa [add_block] at this | exact this) GW372.out) | (rw [add_block]; exact Nat.ne_of_lt (Nat.lt_of_lt_of_le (by have := World.block_lt_of_cell? _ _ hw369_1; first | rwa [add_block] at this | exact this) GW372.out)) | (show (Addr.add _ _).block ≠ _; rw [add_block]; exact Nat.ne_of_lt (Nat.lt_of_lt_of_le (by have := World.block_lt_of_cell? _ _ hw369_1; first | rwa [add_block] at this | exact this) GW372.out)) | (dsimp only; exact Nat.ne_of_lt (Nat.lt_of_lt_of_le (by have := World.block_lt_of_cell? _ _ hw369_1; first | rwa [add_block] at this | exact this) GW372.out))) _).trans (((cell_far (p := ⟨gb372, _, none⟩) (by first | exact Nat.ne_of_lt (Nat.lt_of_lt_of_le (by have := World.block_lt_of_cell? _ _ hw369_1; first | rwa [add_block] at this | exact this) GW372.out) | (rw [add_block]; exact Nat.ne_of_lt (Nat.lt_of_lt_of_le (by have := World.block_lt_of_cell? _ _ hw369_1; first | rwa [add_block] at this | exact this) GW372.out)) | (show (Addr.add _ _).block ≠ _; rw [add_block]; exact Nat.ne_of_lt (Nat.lt_of_lt_of_le (by have := World.block_lt_of_cell? _ _ hw369_1; first | rwa [add_block] at this | exact this) GW372.out)) | (dsimp only; exact Nat.ne_of_lt (Nat.lt_of_lt_of_le (by have := World.block_lt_of_cell? _ _ hw369_1; first | rwa [add_block] at this | exact this) GW372.out))) _).trans (hHeld.2.2.2.2.2.2.2.1)))))))), ((cell_far (p := ⟨gb372, _, none⟩) (by first | exact Nat.ne_of_lt (Nat.lt_of_lt_of_le (by have := World.block_lt_of_cell? _ _ hw369_2; first | rwa [add_block] at this | exact this) GW372.out) | (rw [add_block]; exact Nat.ne_of_lt (Nat.lt_of_lt_of_le (by have := World.block_lt_of_cell? _ _ hw369_2; first | rwa [add_block] at this | exact this) GW372.out)) | (show (Addr.add _ _).block ≠ _; rw [add_block]; exact Nat.ne_of_lt (Nat.lt_of_lt_of_le (by have := World.block_lt_of_cell? _ _ hw369_2; first | rwa [add_block] at this | exact this) GW372.out)) | (dsimp only; exact Nat.ne_of_lt (Nat.lt_of_lt_of_le (by have := World.block_lt_of_cell? _ _ hw369_2; first | rwa [add_block] at this | exact this) GW372.out))) _).trans (((cell_far (p := ⟨gb372, _, none⟩) (by first | exact Nat.ne_of_lt (Nat.lt_of_lt_of_le (by have := World.block_lt_of_cell? _ _ hw369_2; first | rwa [add_block] at this | exact this) GW372.out) | (rw [add_block]; exact Nat.ne_of_lt (Nat.lt_of_lt_of_le (by have := World.block_lt_of_cell? _ _ hw369_2; first | rwa [add_block] at this | exact this) GW372.out)) | (show (Addr.add _ _).block ≠ _; rw [add_block]; exact Nat.ne_of_lt (Nat.lt_of_lt_of_le (by have := World.block_lt_of_cell? _ _ hw369_2; first | rwa [add_block] at this | exact this) GW372.out)) | (dsimp only; exact Nat.ne_of_lt (Nat.lt_of_lt_of_le (by have := World.block_lt_of_cell? _ _ hw369_2; first | rwa [add_block] at this | exact this) GW372.out))) _).trans (((cell_far (p := ⟨gb372, _, none⟩) (by first | exact Nat.ne_of_lt (Nat.lt_of_lt_of_le (by have := World.block_lt_of_cell? _ _ hw369_2; first | rwa [add_block] at this | exact this) GW372.out) | (rw [add_block]; exact Nat.ne_of_lt (Nat.lt_of_lt_of_le (by have := World.block_lt_of_cell? _ _ hw369_2; first | rwa [add_block] at this | exact this) GW372.out)) | (show (Addr.add _ _).block ≠ _; rw [add_block]; exact Nat.ne_of_lt (Nat.lt_of_lt_of_le (by have := World.block_lt_of_cell? _ _ hw369_2; first | rwa [add_block] at this | exact this) GW372.out)) | (dsimp only; exact Nat.ne_of_lt (Nat.lt_of_lt_of_le (by have := World.block_lt_of_cell? _ _ hw369_2; first | rwa [add_block] at this | exact this) GW372.out))) _).trans (((cell_far (p := ⟨gb372, _, none⟩) (by first | exact Nat.ne_of_lt (Nat.lt_of_lt_of_le (by have := World.block_lt_of_cell? _ _ hw369_2; first | rwa [add_block] at this | exact this) GW372.out) | (rw [add_block]; exact Nat.ne_of_lt (Nat.lt_of_lt_of_le (by have := World.block_lt_of_cell? _ _ hw369_2; first | rwa [add_block] at this | exact this) GW372.out)) | (show (Addr.add _ _).block ≠ _; rw [add_block]; exact Nat.ne_of_lt (Nat.lt_of_lt_of_le (by have := World.block_lt_of_cell? _ _ hw369_2; first | rwa [add_block] at this | exact this) GW372.out)) | (dsimp only; exact Nat.ne_of_lt (Nat.lt_of_lt_of_le (by have := World.block_lt_of_cell? _ _ hw369_2; first | rwa [add_block] at this | exact this) GW372.out))) _).trans (hHeld.2.2.2.2.2.2.2.2.1)))))))), ((cell_far (p := ⟨gb372, _, none⟩) (by first | exact Nat.ne_of_lt (Nat.lt_of_lt_of_le (by have := World.block_lt_of_cell? _ _ hw369_3; first | rwa [add_block] at this | exact this) GW372.out) | (rw [add_block]; exact Nat.ne_of_lt (Nat.lt_of_lt_of_le (by have := World.block_lt_of_cell? _ _ hw369_3; first | rwa [add_block] at this | exact this) GW372.out)) | (show (Addr.add _ _).block ≠ _; rw [add_block]; exact Nat.ne_of_lt (Nat.lt_of_lt_of_le (by have := World.block_lt_of_cell? _ _ hw369_3; first | rwa [add_block] at this | exact this) GW372.out)) | (dsimp only; exact Nat.ne_of_lt (Nat.lt_of_lt_of_le (by have := World.block_lt_of_cell? _ _ hw369_3; first | rwa [add_block] at this | exact this) GW372.out))) _).trans (((cell_far (p := ⟨gb372, _, none⟩) (by first | exact Nat.ne_of_lt (Nat.lt_of_lt_of_le (by have := World.block_lt_of_cell? _ _ hw369_3; first | rwa [add_block] at this | exact this) GW372.out) | (rw [add_block]; exact Nat.ne_of_lt (Nat.lt_of_lt_of_le (by have := World.block_lt_of_cell? _ _ hw369_3; first | rwa [add_block] at this | exact this) GW372.out)) | (show (Addr.add _ _).block ≠ _; rw [add_block]; exact Nat.ne_of_lt (Nat.lt_of_lt_of_le (by have := World.block_lt_of_cell? _ _ hw369_3; first | rwa [add_block] at this | exact this) GW372.out)) | (dsimp only; exact Nat.ne_of_lt (Nat.lt_of_lt_of_le (by have := World.block_lt_of_cell? _ _ hw369_3; first | rwa [add_block] at this | exact this) GW372.out))) _).trans (((cell_far (p := ⟨gb372, _, none⟩) (by first | exact Nat.ne_of_lt (Nat.lt_of_lt_of_le (by have := World.block_lt_of_cell? _ _ hw369_3; first | rwa [add_block] at this | exact this) GW372.out) | (rw [add_block]; exact Nat.ne_of_lt (Nat.lt_of_lt_of_le (by have := World.block_lt_of_cell? _ _ hw369_3; first | rwa [add_block] at this | exact this) GW372.out)) | (show (Addr.add _ _).block ≠ _; rw [add_block]; exact Nat.ne_of_lt (Nat.lt_of_lt_of_le (by have := World.block_lt_of_cell? _ _ hw369_3; first | rwa [add_block] at this | exact this) GW372.out)) | (dsimp only; exact Nat.ne_of_lt (Nat.lt_of_lt_of_le (by have := World.block_lt_of_cell? _ _ hw369_3; first | rwa [add_block] at this | exact this) GW372.out))) _).trans (((cell_far (p := ⟨gb372, _, none⟩) (by first | exact Nat.ne_of_lt (Nat.lt_of_lt_of_le (by have := World.block_lt_of_cell? _ _ hw369_3; first | rwa [add_block] at this | exact this) GW372.out) | (rw [add_block]; exact Nat.ne_of_lt (Nat.lt_of_lt_of_le (by have := World.block_lt_of_cell? _ _ hw369_3; first | rwa [add_block] at this | exact this) GW372.out)) | (show (Addr.add _ _).block ≠ _; rw [add_block]; exact Nat.ne_of_lt (Nat.lt_of_lt_of_le (by have := World.block_lt_of_cell? _ _ hw369_3; first | rwa [add_block] at this | exact this) GW372.out)) | (dsimp only; exact Nat.ne_of_lt (Nat.lt_of_lt_of_le (by have := World.block_lt_of_cell? _ _ hw369_3; first | rwa [add_block] at this | exact this) GW372.out))) _).trans (hHeld.2.2.2.2.2.2.2.2.2.1)))))))), ((cell_far (p := ⟨gb372, _, none⟩) (by first | exact Nat.ne_of_lt (Nat.lt_of_lt_of_le (by have := World.block_lt_of_cell? _ _ hw370_0; first | rwa [add_block] at this | exact this) GW372.out) | (rw [add_block]; exact Nat.ne_of_lt (Nat.lt_of_lt_of_le (by have := World.block_lt_of_cell? _ _ hw370_0; first | rwa [add_block] at this | exact this) GW372.out)) | (show (Addr.add _ _).block ≠ _; rw [add_block]; exact Nat.ne_of_lt (Nat.lt_of_lt_of_le (by have := World.block_lt_of_cell? _ _ hw370_0; first | rwa [add_block] at this | exact this) GW372.out)) | (dsimp only; exact Nat.ne_of_lt (Nat.lt_of_lt_of_le (by have := World.block_lt_of_cell? _ _ hw370_0; first | rwa [add_block] at this | exact this) GW372.out))) _).trans (((cell_far (p := ⟨gb372, _, none⟩) (by first | exact Nat.ne_of_lt (Nat.lt_of_lt_of_le (by have := World.block_lt_of_cell? _ _ hw370_0; first | rwa [add_block] at this | exact this) GW372.out) | (rw [add_block]; exact Nat.ne_of_lt (Nat.lt_of_lt_of_le (by have := World.block_lt_of_cell? _ _ hw370_0; first | rwa [add_block] at this | exact this) GW372.out)) | (show (Addr.add _ _).block ≠ _; rw [add_block]; exact Nat.ne_of_lt (Nat.lt_of_lt_of_le (by have := World.block_lt_of_cell? _ _ hw370_0; first | rwa [add_block] at this | exact this) GW372.out)) | (dsimp only; exact Nat.ne_of_lt (Nat.lt_of_lt_of_le (by have := World.block_lt_of_cell? _ _ hw370_0; first | rwa [add_block] at this | exact this) GW372.out))) _).trans (((cell_far (p := ⟨gb372, _, none⟩) (by first | exact Nat.ne_of_lt (Nat.lt_of_lt_of_le (by have := World.block_lt_of_cell? _ _ hw370_0; first | rwa [add_block] at this | exact this) GW372.out) | (rw [add_block]; exact Nat.ne_of_lt (Nat.lt_of_lt_of_le (by have := World.block_lt_of_cell? _ _ hw370_0; first | rwa [add_block] at this | exact this) GW372.out)) | (show (Addr.add _ _).block ≠ _; rw [add_block]; exact Nat.ne_of_lt (Nat.lt_of_lt_of_le (by have := World.block_lt_of_cell? _ _ hw370_0; first | rwa [add_block] at this | exact this) GW372.out)) | (dsimp only; exact Nat.ne_of_lt (Nat.lt_of_lt_of_le (by have := World.block_lt_of_cell? _ _ hw370_0; first | rwa [add_block] at this | exact this) GW372.out))) _).trans (((cell_far (p := ⟨gb372, _, none⟩) (by first | exact Nat.ne_of_lt (Nat.lt_of_lt_of_le (by have := World.block_lt_of_cell? _ _ hw370_0; first | rwa [add_block] at this | exact this) GW372.out) | (rw [add_block]; exact Nat.ne_of_lt (Nat.lt_of_lt_of_le (by have := World.block_lt_of_cell? _ _ hw370_0; first | rwa [add_block] at this | exact this) GW372.out)) | (show (Addr.add _ _).block ≠ _; rw [add_block]; exact Nat.ne_of_lt (Nat.lt_of_lt_of_le (by have := World.block_lt_of_cell? _ _ hw370_0; first | rwa [add_block] at this | exact this) GW372.out)) | (dsimp only; exact Nat.ne_of_lt (Nat.lt_of_lt_of_le (by have := World.block_lt_of_cell? _ _ hw370_0; first | rwa [add_block] at this | exact this) GW372.out))) _).trans (hHeld.2.2.2.2.2.2.2.2.2.2.1)))))))), ((cell_far (p := ⟨gb372, _, none⟩) (by first | exact Nat.ne_of_lt (Nat.lt_of_lt_of_le (by have := World.block_lt_of_cell? _ _ hw370_1; first | rwa [add_block] at this | exact this) GW372.out) | (rw [add_block]; exact Nat.ne_of_lt (Nat.lt_of_lt_of_le (by have := World.block_lt_of_cell? _ _ hw370_1; first | rwa [add_block] at this | exact this) GW372.out)) | (show (Addr.add _ _).block ≠ _; rw [add_block]; exact Nat.ne_of_lt (Nat.lt_of_lt_of_le (by have := World.block_lt_of_cell? _ _ hw370_1; first | rwa [add_block] at this | exact this) GW372.out)) | (dsimp only; exact Nat.ne_of_lt (Nat.lt_of_lt_of_le (by have := World.block_lt_of_cell? _ _ hw370_1; first | rwa [add_block] at this | exact this) GW372.out))) _).trans (((cell_far (p := ⟨gb372, _, none⟩) (by first | exact Nat.ne_of_lt (Nat.lt_of_lt_of_le (by have := World.block_lt_of_cell? _ _ hw370_1; first | rwa [add_block] at this | exact this) GW372.out) | (rw [add_block]; exact Nat.ne_of_lt (Nat.lt_of_lt_of_le (by have := World.block_lt_of_cell? _ _ hw370_1; first | rwa [add_block] at this | exact this) GW372.out)) | (show (Addr.add _ _).block ≠ _; rw [add_block]; exact Nat.ne_of_lt (Nat.lt_of_lt_of_le (by have := World.block_lt_of_cell? _ _ hw370_1; first | rwa [add_block] at this | exact this) GW372.out)) | (dsimp only; exact Nat.ne_of_lt (Nat.lt_of_lt_of_le (by have := World.block_lt_of_cell? _ _ hw370_1; first | rwa [add_block] at this | exact this) GW372.out))) _).trans (((cell_far (p := ⟨gb372, _, none⟩) (by first | exact Nat.ne_of_lt (Nat.lt_of_lt_of_le (by have := World.block_lt_of_cell? _ _ hw370_1; first | rwa [add_block] at this | exact this) GW372.out) | (rw [add_block]; exact Nat.ne_of_lt (Nat.lt_of_lt_of_le (by have := World.block_lt_of_cell? _ _ hw370_1; first | rwa [add_block] at this | exact this) GW372.out)) | (show (Addr.add _ _).block ≠ _; rw [add_block]; exact Nat.ne_of_lt (Nat.lt_of_lt_of_le (by have := World.block_lt_of_cell? _ _ hw370_1; first | rwa [add_block] at this | exact this) GW372.out)) | (dsimp only; exact Nat.ne_of_lt (Nat.lt_of_lt_of_le (by have := World.block_lt_of_cell? _ _ hw370_1; first | rwa [add_block] at this | exact this) GW372.out))) _).trans (((cell_far (p := ⟨gb372, _, none⟩) (by first | exact Nat.ne_of_lt (Nat.lt_of_lt_of_le (by have := World.block_lt_of_cell? _ _ hw370_1; first | rwa [add_block] at this | exact this) GW372.out) | (rw [add_block]; exact Nat.ne_of_lt (Nat.lt_of_lt_of_le (by have := World.block_lt_of_cell? _ _ hw370_1; first | rwa [add_block] at this | exact this) GW372.out)) | (show (Addr.add _ _).block ≠ _; rw [add_block]; exact Nat.ne_of_lt (Nat.lt_of_lt_of_le (by have := World.block_lt_of_cell? _ _ hw370_1; first | rwa [add_block] at this | exact this) GW372.out)) | (dsimp only; exact Nat.ne_of_lt (Nat.lt_of_lt_of_le (by have := World.block_lt_of_cell? _ _ hw370_1; first | rwa [add_block] at this | exact this) GW372.out))) _).trans (hHeld.2.2.2.2.2.2.2.2.2.2.2.1)))))))), ((cell_far (p := ⟨gb372, _, none⟩) (by first | exact Nat.ne_of_lt (Nat.lt_of_lt_of_le (by have := World.block_lt_of_cell? _ _ hw370_2; first | rwa [add_block] at this | exact this) GW372.out) | (rw [add_block]; exact Nat.ne_of_lt (Nat.lt_of_lt_of_le (by have := World.block_lt_of_cell? _ _ hw370_2; first | rwa [add_block] at this | exact this) GW372.out)) | (show (Addr.add _ _).block ≠ _; rw [add_block]; exact Nat.ne_of_lt (Nat.lt_of_lt_of_le (by have := World.block_lt_of_cell? _ _ hw370_2; first | rwa [add_block] at this | exact this) GW372.out)) | (dsimp only; exact Nat.ne_of_lt (Nat.lt_of_lt_of_le (by have := World.block_lt_of_cell? _ _ hw370_2; first | rwa [add_block] at this | exact this) GW372.out))) _).trans (((cell_far (p := ⟨gb372, _, none⟩) (by first | exact Nat.ne_of_lt (Nat.lt_of_lt_of_le (by have := World.block_lt_of_cell? _ _ hw370_2; first | rwa [add_block] at this | exact this) GW372.out) | (rw [add_block]; exact Nat.ne_of_lt (Nat.lt_of_lt_of_le (by have := World.block_lt_of_cell? _ _ hw370_2; first | rwa [add_block] at this | exact this) GW372.out)) | (show (Addr.add _ _).block ≠ _; rw [add_block]; exact Nat.ne_of_lt (Nat.lt_of_lt_of_le (by have := World.block_lt_of_cell? _ _ hw370_2; first | rwa [add_block] at this | exact this) GW372.out)) | (dsimp only; exact Nat.ne_of_lt (Nat.lt_of_lt_of_le (by have := World.block_lt_of_cell? _ _ hw370_2; first | rwa [add_block] at this | exact this) GW372.out))) _).trans (((cell_far (p := ⟨gb372, _, none⟩) (by first | exact Nat.ne_of_lt (Nat.lt_of_lt_of_le (by have := World.block_lt_of_cell? _ _ hw370_2; first | rwa [add_block] at this | exact this) GW372.out) | (rw [add_block]; exact Nat.ne_of_lt (Nat.lt_of_lt_of_le (by have := World.block_lt_of_cell? _ _ hw370_2; first | rwa [add_block] at this | exact this) GW372.out)) | (show (Addr.add _ _).block ≠ _; rw [add_block]; exact Nat.ne_of_lt (Nat.lt_of_lt_of_le (by have := World.block_lt_of_cell? _ _ hw370_2; first | rwa [add_block] at this | exact this) GW372.out)) | (dsimp only; exact Nat.ne_of_lt (Nat.lt_of_lt_of_le (by have := World.block_lt_of_cell? _ _ hw370_2; first | rwa [add_block] at this | exact this) GW372.out))) _).trans (((cell_far (p := ⟨gb372, _, none⟩) (by first | exact Nat.ne_of_lt (Nat.lt_of_lt_of_le (by have := World.block_lt_of_cell? _ _ hw370_2; first | rwa [add_block] at this | exact this) GW372.out) | (rw [add_block]; exact Nat.ne_of_lt (Nat.lt_of_lt_of_le (by have := World.block_lt_of_cell? _ _ hw370_2; first | rwa [add_block] at this | exact this) GW372.out)) | (show (Addr.add _ _).block ≠ _; rw [add_block]; exact Nat.ne_of_lt (Nat.lt_of_lt_of_le (by have := World.block_lt_of_cell? _ _ hw370_2; first | rwa [add_block] at this | exact this) GW372.out)) | (dsimp only; exact Nat.ne_of_lt (Nat.lt_of_lt_of_le (by have := World.block_lt_of_cell? _ _ hw370_2; first | rwa [add_block] at this | exact this) GW372.out))) _).trans (hHeld.2.2.2.2.2.2.2.2.2.2.2.2.1)))))))), ((cell_far (p := ⟨gb372, _, none⟩) (by first | exact Nat.ne_of_lt (Nat.lt_of_lt_of_le (by have := World.block_lt_of_cell? _ _ hw370_3; first | rwa [add_block] at this | exact this) GW372.out) | (rw [add_block]; exact Nat.ne_of_lt (Nat.lt_of_lt_of_le (by have := World.block_lt_of_cell? _ _ hw370_3; first | rwa [add_block] at this | exact this) GW372.out)) | (show (Addr.add _ _).block ≠ _; rw [add_block]; exact Nat.ne_of_lt (Nat.lt_of_lt_of_le (by have := World.block_lt_of_cell? _ _ hw370_3; first | rwa [add_block] at this | exact this) GW372.out)) | (dsimp only; exact Nat.ne_of_lt (Nat.lt_of_lt_of_le (by have := World.block_lt_of_cell? _ _ hw370_3; first | rwa [add_block] at this | exact this) GW372.out))) _).trans (((cell_far (p := ⟨gb372, _, none⟩) (by first | exact Nat.ne_of_lt (Nat.lt_of_lt_of_le (by have := World.block_lt_of_cell? _ _ hw370_3; first | rwa [add_block] at this | exact this) GW372.out) | (rw [add_block]; exact Nat.ne_of_lt (Nat.lt_of_lt_of_le (by have := World.block_lt_of_cell? _ _ hw370_3; first | rwa [add_block] at this | exact this) GW372.out)) | (show (Addr.add _ _).block ≠ _; rw [add_block]; exact Nat.ne_of_lt (Nat.lt_of_lt_of_le (by have := World.block_lt_of_cell? _ _ hw370_3; first | rwa [add_block] at this | exact this) GW372.out)) | (dsimp only; exact Nat.ne_of_lt (Nat.lt_of_lt_of_le (by have := World.block_lt_of_cell? _ _ hw370_3; first | rwa [add_block] at this | exact this) GW372.out))) _).trans (((cell_far (p := ⟨gb372, _, none⟩) (by first | exact Nat.ne_of_lt (Nat.lt_of_lt_of_le (by have := World.block_lt_of_cell? _ _ hw370_3; first | rwa [add_block] at this | exact this) GW372.out) | (rw [add_block]; exact Nat.ne_of_lt (Nat.lt_of_lt_of_le (by have := World.block_lt_of_cell? _ _ hw370_3; first | rwa [add_block] at this | exact this) GW372.out)) | (show (Addr.add _ _).block ≠ _; rw [add_block]; exact Nat.ne_of_lt (Nat.lt_of_lt_of_le (by have := World.block_lt_of_cell? _ _ hw370_3; first | rwa [add_block] at this | exact this) GW372.out)) | (dsimp only; exact Nat.ne_of_lt (Nat.lt_of_lt_of_le (by have := World.block_lt_of_cell? _ _ hw370_3; first | rwa [add_block] at this | exact this) GW372.out))) _).trans (((cell_far (p := ⟨gb372, _, none⟩) (by first | exact Nat.ne_of_lt (Nat.lt_of_lt_of_le (by have := World.block_lt_of_cell? _ _ hw370_3; first | rwa [add_block] at this | exact this) GW372.out) | (rw [add_block]; exact Nat.ne_of_lt (Nat.lt_of_lt_of_le (by have := World.block_lt_of_cell? _ _ hw370_3; first | rwa [add_block] at this | exact this) GW372.out)) | (show (Addr.add _ _).block ≠ _; rw [add_block]; exact Nat.ne_of_lt (Nat.lt_of_lt_of_le (by have := World.block_lt_of_cell? _ _ hw370_3; first | rwa [add_block] at this | exact this) GW372.out)) | (dsimp only; exact Nat.ne_of_lt (Nat.lt_of_lt_of_le (by have := World.block_lt_of_cell? _ _ hw370_3; first | rwa [add_block] at this | exact this) GW372.out))) _).trans (hHeld.2.2.2.2.2.2.2.2.2.2.2.2.2))))))))⟩ (fun hHeld => ?_)
                  clear hK K
                  refine done_ (done_of HT_.out (by kernel_rfl)) ?_
                  go_upto_region 7 with (fail)
                  go_cut [75] (fun v75 wc => ∃ (kq : Nat) (x75_21 : Bool), v75 = .bool x75_21 ∧ Aside0 (casementref12_Same.j2 kq x5_2 x75_21 a0_0 l0_1 l0_2 a1_0 l1_1 l1_2 ((rd_T44 l0_2 x5_2).f0) ((rd_T44 l0_2 x5_2).f1) ((rd_T44 l0_2 x5_2).f2) ((rd_T44 l0_2 x5_2).f3) ((rd_T44 l1_2 x5_2).f0) ((rd_T44 l1_2 x5_2).f1) ((rd_T44 l1_2 x5_2).f2) ((rd_T44 l1_2 x5_2).f3) = some r) ∧ Aside0 (kq ≤ k2) ∧ Aside0 (wc.heap[gb366]? = some (.cells #[.int .i64 a0_0, (.slice A0_1 l0_1.length c0_1), (.slice (some ad369) l0_2.length c0_2)] 26 (0, 0))) ∧ Aside0 (wc.heap[gb367]? = some (.cells #[.int .i64 a1_0, (.slice A1_1 l1_1.length c1_1), (.slice (some ad370) l1_2.length c1_2)] 26 (0, 0))) ∧ Aside0 (wc.heap[gb371]? = some (.cells #[.int .i64 ((rd_T44 l0_2 x5_2).f0), .int .i64 ((rd_T44 l0_2 x5_2).f1), .int .i64 ((rd_T44 l0_2 x5_2).f2), (.slice A369_3 ((rd_T44 l0_2 x5_2).f3).length c369_3)] 44 (0, 0))) ∧ Aside0 (wc.heap[gb372]? = some (.cells #[.int .i64 ((rd_T44 l1_2 x5_2).f0), .int .i64 ((rd_T44 l1_2 x5_2).f1), .int .i64 ((rd_T44 l1_2 x5_2).f2), (.slice A370_3 ((rd_T44 l1_2 x5_2).f3).length c370_3)] 44 (0, 0))) ∧ Aside0 (Below w.heap.size w wc))
                  case first =>
                    have H := HC22.out
                    clear HC22
                    by_cases c37 : ((rd_T44 l0_2 x5_2).f0) = ((rd_T44 l1_2 x5_2).f0)
                    · rw [if_pos c37] at H
                      have c37b0 : (((rd_T44 l0_2 x5_2).f0) == ((rd_T44 l1_2 x5_2).f0)) = true := beq_iff_eq.mpr c37
                      have c37b1 : (((rd_T44 l0_2 x5_2).f0) != ((rd_T44 l1_2 x5_2).f0)) = false := bne_eq_false_iff_eq.mpr c37
                      clear c37
                      (first | rw [c37b0] | (simp only [i64_w, i32_w]; rw [c37b0]) | skip)
                      by_cases c38 : ((rd_T44 l0_2 x5_2).f1) = ((rd_T44 l1_2 x5_2).f1)
                      · rw [if_pos c38] at H
                        have c38b0 : (((rd_T44 l0_2 x5_2).f1) == ((rd_T44 l1_2 x5_2).f1)) = true := beq_iff_eq.mpr c38
                        have c38b1 : (((rd_T44 l0_2 x5_2).f1) != ((rd_T44 l1_2 x5_2).f1)) = false := bne_eq_false_iff_eq.mpr c38
                        clear c38
                        by_cases c39 : ((rd_T44 l0_2 x5_2).f2) = ((rd_T44 l1_2 x5_2).f2)
                        · rw [if_pos c39] at H
                          have c39b0 : (((rd_T44 l0_2 x5_2).f2) == ((rd_T44 l1_2 x5_2).f2)) = true := beq_iff_eq.mpr c39
                          have c39b1 : (((rd_T44 l0_2 x5_2).f2) != ((rd_T44 l1_2 x5_2).f2)) = false := bne_eq_false_iff_eq.mpr c39
                          clear c39
                          have H' := Aside0.mk H
                          clear H
                          have hnb40 := NB371_366.out
                          have hnc40 := NB366_371.out
                          have hnb41 := NB371_367.out
                          have hnc41 := NB367_371.out
                          have hnb42 := NB371_372.out
                          have hnc42 := NB372_371.out
                          have hcz43_0 : w28.cell? ⟨gb371, 0, none⟩ = some (.int .i64 0) := (blk_cell BK371.out 0).trans rfl
                          have hcz43_1 : w28.cell? ⟨gb371, 1, none⟩ = some (.int .i64 0) := (blk_cell BK371.out 1).trans rfl
                          have hcz43_2 : w28.cell? ⟨gb371, 2, none⟩ = some (.int .i64 0) := (blk_cell BK371.out 2).trans rfl
                          have hcz43_3 : w28.cell? ⟨gb371, 3, none⟩ = some (.slice none 0 0) := (blk_cell BK371.out 3).trans rfl
                          have hfz43_0 := blk_frozen BK371.out 0
                          have hfz43_1 := blk_frozen BK371.out 1
                          have hfz43_2 := blk_frozen BK371.out 2
                          have hfz43_3 := blk_frozen BK371.out 3
                          have hnb44 := NB372_366.out
                          have hnc44 := NB366_372.out
                          have hnb45 := NB372_367.out
                          have hnc45 := NB367_372.out
                          have hcz46_0 : w28.cell? ⟨gb372, 0, none⟩ = some (.int .i64 0) := (blk_cell BK372.out 0).trans rfl
                          have hcz46_1 : w28.cell? ⟨gb372, 1, none⟩ = some (.int .i64 0) := (blk_cell BK372.out 1).trans rfl
                          have hcz46_2 : w28.cell? ⟨gb372, 2, none⟩ = some (.int .i64 0) := (blk_cell BK372.out 2).trans rfl
                          have hcz46_3 : w28.cell? ⟨gb372, 3, none⟩ = some (.slice none 0 0) := (blk_cell BK372.out 3).trans rfl
                          have hfz46_0 := blk_frozen BK372.out 0
                          have hfz46_1 := blk_frozen BK372.out 1
                          have hfz46_2 := blk_frozen BK372.out 2
                          have hfz46_3 := blk_frozen BK372.out 3
                          go_wp2
                          go_meet
                          case rel => exact ⟨_, (((((rd_T44 l0_2 x5_2).f3).length : Int) != (((rd_T44 l1_2 x5_2).f3).length : Int))), (by first | rfl | (simp; done) | (simp [*]; done)), H', ⟨by have := HJ2.out; have := HK2.out; first | omega | exact Nat.le_refl _⟩, ⟨by (with_reducible repeat (first | refine blk_drewN ?_ _ | refine blk_drew ?_ | refine blk_alloc ?_ _)); refine blk_far ?_ NB366_372.out _; (with_reducible repeat (first | refine blk_drewN ?_ _ | refine blk_drew ?_ | refine blk_alloc ?_ _)); refine blk_far ?_ NB366_372.out _; (with_reducible repeat (first | refine blk_drewN ?_ _ | refine blk_drew ?_ | refine blk_alloc ?_ _)); refine blk_far ?_ NB366_372.out _; (with_reducible repeat (first | refine blk_drewN ?_ _ | refine blk_drew ?_ | refine blk_alloc ?_ _)); refine blk_far ?_ NB366_372.out _; (with_reducible repeat (first | refine blk_drewN ?_ _ | refine blk_drew ?_ | refine blk_alloc ?_ _)); refine blk_far ?_ NB366_371.out _; (with_reducible repeat (first | refine blk_drewN ?_ _ | refine blk_drew ?_ | refine blk_alloc ?_ _)); refine blk_far ?_ NB366_371.out _; (with_reducible repeat (first | refine blk_drewN ?_ _ | refine blk_drew ?_ | refine blk_alloc ?_ _)); refine blk_far ?_ NB366_371.out _; (with_reducible repeat (first | refine blk_drewN ?_ _ | refine blk_drew ?_ | refine blk_alloc ?_ _)); refine blk_far ?_ NB366_371.out _; (with_reducible repeat (first | refine blk_drewN ?_ _ | refine blk_drew ?_ | refine blk_alloc ?_ _)); exact BK366.out⟩, ⟨by (with_reducible repeat (first | refine blk_drewN ?_ _ | refine blk_drew ?_ | refine blk_alloc ?_ _)); refine blk_far ?_ NB367_372.out _; (with_reducible repeat (first | refine blk_drewN ?_ _ | refine blk_drew ?_ | refine blk_alloc ?_ _)); refine blk_far ?_ NB367_372.out _; (with_reducible repeat (first | refine blk_drewN ?_ _ | refine blk_drew ?_ | refine blk_alloc ?_ _)); refine blk_far ?_ NB367_372.out _; (with_reducible repeat (first | refine blk_drewN ?_ _ | refine blk_drew ?_ | refine blk_alloc ?_ _)); refine blk_far ?_ NB367_372.out _; (with_reducible repeat (first | refine blk_drewN ?_ _ | refine blk_drew ?_ | refine blk_alloc ?_ _)); refine blk_far ?_ NB367_371.out _; (with_reducible repeat (first | refine blk_drewN ?_ _ | refine blk_drew ?_ | refine blk_alloc ?_ _)); refine blk_far ?_ NB367_371.out _; (with_reducible repeat (first | refine blk_drewN ?_ _ | refine blk_drew ?_ | refine blk_alloc ?_ _)); refine blk_far ?_ NB367_371.out _; (with_reducible repeat (first | refine blk_drewN ?_ _ | refine blk_drew ?_ | refine blk_alloc ?_ _)); refine blk_far ?_ NB367_371.out _; (with_reducible repeat (first | refine blk_drewN ?_ _ | refine blk_drew ?_ | refine blk_alloc ?_ _)); exact BK367.out⟩, ⟨by (with_reducible repeat (first | refine blk_drewN ?_ _ | refine blk_drew ?_ | refine blk_alloc ?_ _)); refine blk_far ?_ NB371_372.out _; (with_reducible repeat (first | refine blk_drewN ?_ _ | refine blk_drew ?_ | refine blk_alloc ?_ _)); refine blk_far ?_ NB371_372.out _; (with_reducible repeat (first | refine blk_drewN ?_ _ | refine blk_drew ?_ | refine blk_alloc ?_ _)); refine blk_far ?_ NB371_372.out _; (with_reducible repeat (first | refine blk_drewN ?_ _ | refine blk_drew ?_ | refine blk_alloc ?_ _)); refine blk_far ?_ NB371_372.out _; (with_reducible repeat (first | refine blk_drewN ?_ _ | refine blk_drew ?_ | refine blk_alloc ?_ _)); refine blk_put (cs := #[.int .i64 ((rd_T44 l0_2 x5_2).f0), .int .i64 ((rd_T44 l0_2 x5_2).f1), .int .i64 ((rd_T44 l0_2 x5_2).f2), .slice none 0 0]) ?_ 3 _ rfl; (with_reducible repeat (first | refine blk_drewN ?_ _ | refine blk_drew ?_ | refine blk_alloc ?_ _)); refine blk_put (cs := #[.int .i64 ((rd_T44 l0_2 x5_2).f0), .int .i64 ((rd_T44 l0_2 x5_2).f1), .int .i64 0, .slice none 0 0]) ?_ 2 _ rfl; (with_reducible repeat (first | refine blk_drewN ?_ _ | refine blk_drew ?_ | refine blk_alloc ?_ _)); refine blk_put (cs := #[.int .i64 ((rd_T44 l0_2 x5_2).f0), .int .i64 0, .int .i64 0, .slice none 0 0]) ?_ 1 _ rfl; (with_reducible repeat (first | refine blk_drewN ?_ _ | refine blk_drew ?_ | refine blk_alloc ?_ _)); refine blk_put (cs := #[.int .i64 0, .int .i64 0, .int .i64 0, .slice none 0 0]) ?_ 0 _ rfl; (with_reducible repeat (first | refine blk_drewN ?_ _ | refine blk_drew ?_ | refine blk_alloc ?_ _)); exact BK371.out⟩, ⟨by (with_reducible repeat (first | refine blk_drewN ?_ _ | refine blk_drew ?_ | refine blk_alloc ?_ _)); refine blk_put (cs := #[.int .i64 ((rd_T44 l1_2 x5_2).f0), .int .i64 ((rd_T44 l1_2 x5_2).f1), .int .i64 ((rd_T44 l1_2 x5_2).f2), .slice none 0 0]) ?_ 3 _ rfl; (with_reducible repeat (first | refine blk_drewN ?_ _ | refine blk_drew ?_ | refine blk_alloc ?_ _)); refine blk_put (cs := #[.int .i64 ((rd_T44 l1_2 x5_2).f0), .int .i64 ((rd_T44 l1_2 x5_2).f1), .int .i64 0, .slice none 0 0]) ?_ 2 _ rfl; (with_reducible repeat (first | refine blk_drewN ?_ _ | refine blk_drew ?_ | refine blk_alloc ?_ _)); refine blk_put (cs := #[.int .i64 ((rd_T44 l1_2 x5_2).f0), .int .i64 0, .int .i64 0, .slice none 0 0]) ?_ 1 _ rfl; (with_reducible repeat (first | refine blk_drewN ?_ _ | refine blk_drew ?_ | refine blk_alloc ?_ _)); refine blk_put (cs := #[.int .i64 0, .int .i64 0, .int .i64 0, .slice none 0 0]) ?_ 0 _ rfl; (with_reducible repeat (first | refine blk_drewN ?_ _ | refine blk_drew ?_ | refine blk_alloc ?_ _)); refine blk_far ?_ NB372_371.out _; (with_reducible repeat (first | refine blk_drewN ?_ _ | refine blk_drew ?_ | refine blk_alloc ?_ _)); refine blk_far ?_ NB372_371.out _; (with_reducible repeat (first | refine blk_drewN ?_ _ | refine blk_drew ?_ | refine blk_alloc ?_ _)); refine blk_far ?_ NB372_371.out _; (with_reducible repeat (first | refine blk_drewN ?_ _ | refine blk_drew ?_ | refine blk_alloc ?_ _)); refine blk_far ?_ NB372_371.out _; (with_reducible repeat (first | refine blk_drewN ?_ _ | refine blk_drew ?_ | refine blk_alloc ?_ _)); exact BK372.out⟩, ⟨by repeat (first | (with_reducible first | exact HB.out | apply below_alloc | apply pw_below_drewN | apply below_drew1 | refine below_set ?_ GE366.out | refine below_set ?_ GE367.out | refine below_set ?_ GE371.out | refine below_set ?_ GE372.out) | exact HB.out)⟩⟩
                        · rw [if_neg c39] at H
                          have c39b0 : (((rd_T44 l0_2 x5_2).f2) == ((rd_T44 l1_2 x5_2).f2)) = false := beq_eq_false_iff_ne.mpr c39
                          have c39b1 : (((rd_T44 l0_2 x5_2).f2) != ((rd_T44 l1_2 x5_2).f2)) = true := bne_iff_ne.mpr c39
                          have H' := Aside0.mk H
                          clear H
                          have hnb47 := NB371_366.out
                          have hnc47 := NB366_371.out
                          have hnb48 := NB371_367.out
                          have hnc48 := NB367_371.out
                          have hnb49 := NB371_372.out
                          have hnc49 := NB372_371.out
                          have hcz50_0 : w28.cell? ⟨gb371, 0, none⟩ = some (.int .i64 0) := (blk_cell BK371.out 0).trans rfl
                          have hcz50_1 : w28.cell? ⟨gb371, 1, none⟩ = some (.int .i64 0) := (blk_cell BK371.out 1).trans rfl
                          have hcz50_2 : w28.cell? ⟨gb371, 2, none⟩ = some (.int .i64 0) := (blk_cell BK371.out 2).trans rfl
                          have hcz50_3 : w28.cell? ⟨gb371, 3, none⟩ = some (.slice none 0 0) := (blk_cell BK371.out 3).trans rfl
                          have hfz50_0 := blk_frozen BK371.out 0
                          have hfz50_1 := blk_frozen BK371.out 1
                          have hfz50_2 := blk_frozen BK371.out 2
                          have hfz50_3 := blk_frozen BK371.out 3
                          have hnb51 := NB372_366.out
                          have hnc51 := NB366_372.out
                          have hnb52 := NB372_367.out
                          have hnc52 := NB367_372.out
                          have hcz53_0 : w28.cell? ⟨gb372, 0, none⟩ = some (.int .i64 0) := (blk_cell BK372.out 0).trans rfl
                          have hcz53_1 : w28.cell? ⟨gb372, 1, none⟩ = some (.int .i64 0) := (blk_cell BK372.out 1).trans rfl
                          have hcz53_2 : w28.cell? ⟨gb372, 2, none⟩ = some (.int .i64 0) := (blk_cell BK372.out 2).trans rfl
                          have hcz53_3 : w28.cell? ⟨gb372, 3, none⟩ = some (.slice none 0 0) := (blk_cell BK372.out 3).trans rfl
                          have hfz53_0 := blk_frozen BK372.out 0
                          have hfz53_1 := blk_frozen BK372.out 1
                          have hfz53_2 := blk_frozen BK372.out 2
                          have hfz53_3 := blk_frozen BK372.out 3
                          go_wp2
                          go_meet
                          case rel => exact ⟨_, (true), (by first | rfl | (simp; done) | (simp [*]; done)), H', ⟨by have := HJ2.out; have := HK2.out; first | omega | exact Nat.le_refl _⟩, ⟨by (with_reducible repeat (first | refine blk_drewN ?_ _ | refine blk_drew ?_ | refine blk_alloc ?_ _)); refine blk_far ?_ NB366_372.out _; (with_reducible repeat (first | refine blk_drewN ?_ _ | refine blk_drew ?_ | refine blk_alloc ?_ _)); refine blk_far ?_ NB366_372.out _; (with_reducible repeat (first | refine blk_drewN ?_ _ | refine blk_drew ?_ | refine blk_alloc ?_ _)); refine blk_far ?_ NB366_372.out _; (with_reducible repeat (first | refine blk_drewN ?_ _ | refine blk_drew ?_ | refine blk_alloc ?_ _)); refine blk_far ?_ NB366_372.out _; (with_reducible repeat (first | refine blk_drewN ?_ _ | refine blk_drew ?_ | refine blk_alloc ?_ _)); refine blk_far ?_ NB366_371.out _; (with_reducible repeat (first | refine blk_drewN ?_ _ | refine blk_drew ?_ | refine blk_alloc ?_ _)); refine blk_far ?_ NB366_371.out _; (with_reducible repeat (first | refine blk_drewN ?_ _ | refine blk_drew ?_ | refine blk_alloc ?_ _)); refine blk_far ?_ NB366_371.out _; (with_reducible repeat (first | refine blk_drewN ?_ _ | refine blk_drew ?_ | refine blk_alloc ?_ _)); refine blk_far ?_ NB366_371.out _; (with_reducible repeat (first | refine blk_drewN ?_ _ | refine blk_drew ?_ | refine blk_alloc ?_ _)); exact BK366.out⟩, ⟨by (with_reducible repeat (first | refine blk_drewN ?_ _ | refine blk_drew ?_ | refine blk_alloc ?_ _)); refine blk_far ?_ NB367_372.out _; (with_reducible repeat (first | refine blk_drewN ?_ _ | refine blk_drew ?_ | refine blk_alloc ?_ _)); refine blk_far ?_ NB367_372.out _; (with_reducible repeat (first | refine blk_drewN ?_ _ | refine blk_drew ?_ | refine blk_alloc ?_ _)); refine blk_far ?_ NB367_372.out _; (with_reducible repeat (first | refine blk_drewN ?_ _ | refine blk_drew ?_ | refine blk_alloc ?_ _)); refine blk_far ?_ NB367_372.out _; (with_reducible repeat (first | refine blk_drewN ?_ _ | refine blk_drew ?_ | refine blk_alloc ?_ _)); refine blk_far ?_ NB367_371.out _; (with_reducible repeat (first | refine blk_drewN ?_ _ | refine blk_drew ?_ | refine blk_alloc ?_ _)); refine blk_far ?_ NB367_371.out _; (with_reducible repeat (first | refine blk_drewN ?_ _ | refine blk_drew ?_ | refine blk_alloc ?_ _)); refine blk_far ?_ NB367_371.out _; (with_reducible repeat (first | refine blk_drewN ?_ _ | refine blk_drew ?_ | refine blk_alloc ?_ _)); refine blk_far ?_ NB367_371.out _; (with_reducible repeat (first | refine blk_drewN ?_ _ | refine blk_drew ?_ | refine blk_alloc ?_ _)); exact BK367.out⟩, ⟨by (with_reducible repeat (first | refine blk_drewN ?_ _ | refine blk_drew ?_ | refine blk_alloc ?_ _)); refine blk_far ?_ NB371_372.out _; (with_reducible repeat (first | refine blk_drewN ?_ _ | refine blk_drew ?_ | refine blk_alloc ?_ _)); refine blk_far ?_ NB371_372.out _; (with_reducible repeat (first | refine blk_drewN ?_ _ | refine blk_drew ?_ | refine blk_alloc ?_ _)); refine blk_far ?_ NB371_372.out _; (with_reducible repeat (first | refine blk_drewN ?_ _ | refine blk_drew ?_ | refine blk_alloc ?_ _)); refine blk_far ?_ NB371_372.out _; (with_reducible repeat (first | refine blk_drewN ?_ _ | refine blk_drew ?_ | refine blk_alloc ?_ _)); refine blk_put (cs := #[.int .i64 ((rd_T44 l0_2 x5_2).f0), .int .i64 ((rd_T44 l0_2 x5_2).f1), .int .i64 ((rd_T44 l0_2 x5_2).f2), .slice none 0 0]) ?_ 3 _ rfl; (with_reducible repeat (first | refine blk_drewN ?_ _ | refine blk_drew ?_ | refine blk_alloc ?_ _)); refine blk_put (cs := #[.int .i64 ((rd_T44 l0_2 x5_2).f0), .int .i64 ((rd_T44 l0_2 x5_2).f1), .int .i64 0, .slice none 0 0]) ?_ 2 _ rfl; (with_reducible repeat (first | refine blk_drewN ?_ _ | refine blk_drew ?_ | refine blk_alloc ?_ _)); refine blk_put (cs := #[.int .i64 ((rd_T44 l0_2 x5_2).f0), .int .i64 0, .int .i64 0, .slice none 0 0]) ?_ 1 _ rfl; (with_reducible repeat (first | refine blk_drewN ?_ _ | refine blk_drew ?_ | refine blk_alloc ?_ _)); refine blk_put (cs := #[.int .i64 0, .int .i64 0, .int .i64 0, .slice none 0 0]) ?_ 0 _ rfl; (with_reducible repeat (first | refine blk_drewN ?_ _ | refine blk_drew ?_ | refine blk_alloc ?_ _)); exact BK371.out⟩, ⟨by (with_reducible repeat (first | refine blk_drewN ?_ _ | refine blk_drew ?_ | refine blk_alloc ?_ _)); refine blk_put (cs := #[.int .i64 ((rd_T44 l1_2 x5_2).f0), .int .i64 ((rd_T44 l1_2 x5_2).f1), .int .i64 ((rd_T44 l1_2 x5_2).f2), .slice none 0 0]) ?_ 3 _ rfl; (with_reducible repeat (first | refine blk_drewN ?_ _ | refine blk_drew ?_ | refine blk_alloc ?_ _)); refine blk_put (cs := #[.int .i64 ((rd_T44 l1_2 x5_2).f0), .int .i64 ((rd_T44 l1_2 x5_2).f1), .int .i64 0, .slice none 0 0]) ?_ 2 _ rfl; (with_reducible repeat (first | refine blk_drewN ?_ _ | refine blk_drew ?_ | refine blk_alloc ?_ _)); refine blk_put (cs := #[.int .i64 ((rd_T44 l1_2 x5_2).f0), .int .i64 0, .int .i64 0, .slice none 0 0]) ?_ 1 _ rfl; (with_reducible repeat (first | refine blk_drewN ?_ _ | refine blk_drew ?_ | refine blk_alloc ?_ _)); refine blk_put (cs := #[.int .i64 0, .int .i64 0, .int .i64 0, .slice none 0 0]) ?_ 0 _ rfl; (with_reducible repeat (first | refine blk_drewN ?_ _ | refine blk_drew ?_ | refine blk_alloc ?_ _)); refine blk_far ?_ NB372_371.out _; (with_reducible repeat (first | refine blk_drewN ?_ _ | refine blk_drew ?_ | refine blk_alloc ?_ _)); refine blk_far ?_ NB372_371.out _; (with_reducible repeat (first | refine blk_drewN ?_ _ | refine blk_drew ?_ | refine blk_alloc ?_ _)); refine blk_far ?_ NB372_371.out _; (with_reducible repeat (first | refine blk_drewN ?_ _ | refine blk_drew ?_ | refine blk_alloc ?_ _)); refine blk_far ?_ NB372_371.out _; (with_reducible repeat (first | refine blk_drewN ?_ _ | refine blk_drew ?_ | refine blk_alloc ?_ _)); exact BK372.out⟩, ⟨by repeat (first | (with_reducible first | exact HB.out | apply below_alloc | apply pw_below_drewN | apply below_drew1 | refine below_set ?_ GE366.out | refine below_set ?_ GE367.out | refine below_set ?_ GE371.out | refine below_set ?_ GE372.out) | exact HB.out)⟩⟩
                      · rw [if_neg c38] at H
                        have c38b0 : (((rd_T44 l0_2 x5_2).f1) == ((rd_T44 l1_2 x5_2).f1)) = false := beq_eq_false_iff_ne.mpr c38
                        have c38b1 : (((rd_T44 l0_2 x5_2).f1) != ((rd_T44 l1_2 x5_2).f1)) = true := bne_iff_ne.mpr c38
                        have H' := Aside0.mk H
                        clear H
                        have hnb54 := NB371_366.out
                        have hnc54 := NB366_371.out
                        have hnb55 := NB371_367.out
                        have hnc55 := NB367_371.out
                        have hnb56 := NB371_372.out
                        have hnc56 := NB372_371.out
                        have hcz57_0 : w28.cell? ⟨gb371, 0, none⟩ = some (.int .i64 0) := (blk_cell BK371.out 0).trans rfl
                        have hcz57_1 : w28.cell? ⟨gb371, 1, none⟩ = some (.int .i64 0) := (blk_cell BK371.out 1).trans rfl
                        have hcz57_2 : w28.cell? ⟨gb371, 2, none⟩ = some (.int .i64 0) := (blk_cell BK371.out 2).trans rfl
                        have hcz57_3 : w28.cell? ⟨gb371, 3, none⟩ = some (.slice none 0 0) := (blk_cell BK371.out 3).trans rfl
                        have hfz57_0 := blk_frozen BK371.out 0
                        have hfz57_1 := blk_frozen BK371.out 1
                        have hfz57_2 := blk_frozen BK371.out 2
                        have hfz57_3 := blk_frozen BK371.out 3
                        have hnb58 := NB372_366.out
                        have hnc58 := NB366_372.out
                        have hnb59 := NB372_367.out
                        have hnc59 := NB367_372.out
                        have hcz60_0 : w28.cell? ⟨gb372, 0, none⟩ = some (.int .i64 0) := (blk_cell BK372.out 0).trans rfl
                        have hcz60_1 : w28.cell? ⟨gb372, 1, none⟩ = some (.int .i64 0) := (blk_cell BK372.out 1).trans rfl
                        have hcz60_2 : w28.cell? ⟨gb372, 2, none⟩ = some (.int .i64 0) := (blk_cell BK372.out 2).trans rfl
                        have hcz60_3 : w28.cell? ⟨gb372, 3, none⟩ = some (.slice none 0 0) := (blk_cell BK372.out 3).trans rfl
                        have hfz60_0 := blk_frozen BK372.out 0
                        have hfz60_1 := blk_frozen BK372.out 1
                        have hfz60_2 := blk_frozen BK372.out 2
                        have hfz60_3 := blk_frozen BK372.out 3
                        go_wp2
                        go_meet
                        case rel => exact ⟨_, (true), (by first | rfl | (simp; done) | (simp [*]; done)), H', ⟨by have := HJ2.out; have := HK2.out; first | omega | exact Nat.le_refl _⟩, ⟨by (with_reducible repeat (first | refine blk_drewN ?_ _ | refine blk_drew ?_ | refine blk_alloc ?_ _)); refine blk_far ?_ NB366_372.out _; (with_reducible repeat (first | refine blk_drewN ?_ _ | refine blk_drew ?_ | refine blk_alloc ?_ _)); refine blk_far ?_ NB366_372.out _; (with_reducible repeat (first | refine blk_drewN ?_ _ | refine blk_drew ?_ | refine blk_alloc ?_ _)); refine blk_far ?_ NB366_372.out _; (with_reducible repeat (first | refine blk_drewN ?_ _ | refine blk_drew ?_ | refine blk_alloc ?_ _)); refine blk_far ?_ NB366_372.out _; (with_reducible repeat (first | refine blk_drewN ?_ _ | refine blk_drew ?_ | refine blk_alloc ?_ _)); refine blk_far ?_ NB366_371.out _; (with_reducible repeat (first | refine blk_drewN ?_ _ | refine blk_drew ?_ | refine blk_alloc ?_ _)); refine blk_far ?_ NB366_371.out _; (with_reducible repeat (first | refine blk_drewN ?_ _ | refine blk_drew ?_ | refine blk_alloc ?_ _)); refine blk_far ?_ NB366_371.out _; (with_reducible repeat (first | refine blk_drewN ?_ _ | refine blk_drew ?_ | refine blk_alloc ?_ _)); refine blk_far ?_ NB366_371.out _; (with_reducible repeat (first | refine blk_drewN ?_ _ | refine blk_drew ?_ | refine blk_alloc ?_ _)); exact BK366.out⟩, ⟨by (with_reducible repeat (first | refine blk_drewN ?_ _ | refine blk_drew ?_ | refine blk_alloc ?_ _)); refine blk_far ?_ NB367_372.out _; (with_reducible repeat (first | refine blk_drewN ?_ _ | refine blk_drew ?_ | refine blk_alloc ?_ _)); refine blk_far ?_ NB367_372.out _; (with_reducible repeat (first | refine blk_drewN ?_ _ | refine blk_drew ?_ | refine blk_alloc ?_ _)); refine blk_far ?_ NB367_372.out _; (with_reducible repeat (first | refine blk_drewN ?_ _ | refine blk_drew ?_ | refine blk_alloc ?_ _)); refine blk_far ?_ NB367_372.out _; (with_reducible repeat (first | refine blk_drewN ?_ _ | refine blk_drew ?_ | refine blk_alloc ?_ _)); refine blk_far ?_ NB367_371.out _; (with_reducible repeat (first | refine blk_drewN ?_ _ | refine blk_drew ?_ | refine blk_alloc ?_ _)); refine blk_far ?_ NB367_371.out _; (with_reducible repeat (first | refine blk_drewN ?_ _ | refine blk_drew ?_ | refine blk_alloc ?_ _)); refine blk_far ?_ NB367_371.out _; (with_reducible repeat (first | refine blk_drewN ?_ _ | refine blk_drew ?_ | refine blk_alloc ?_ _)); refine blk_far ?_ NB367_371.out _; (with_reducible repeat (first | refine blk_drewN ?_ _ | refine blk_drew ?_ | refine blk_alloc ?_ _)); exact BK367.out⟩, ⟨by (with_reducible repeat (first | refine blk_drewN ?_ _ | refine blk_drew ?_ | refine blk_alloc ?_ _)); refine blk_far ?_ NB371_372.out _; (with_reducible repeat (first | refine blk_drewN ?_ _ | refine blk_drew ?_ | refine blk_alloc ?_ _)); refine blk_far ?_ NB371_372.out _; (with_reducible repeat (first | refine blk_drewN ?_ _ | refine blk_drew ?_ | refine blk_alloc ?_ _)); refine blk_far ?_ NB371_372.out _; (with_reducible repeat (first | refine blk_drewN ?_ _ | refine blk_drew ?_ | refine blk_alloc ?_ _)); refine blk_far ?_ NB371_372.out _; (with_reducible repeat (first | refine blk_drewN ?_ _ | refine blk_drew ?_ | refine blk_alloc ?_ _)); refine blk_put (cs := #[.int .i64 ((rd_T44 l0_2 x5_2).f0), .int .i64 ((rd_T44 l0_2 x5_2).f1), .int .i64 ((rd_T44 l0_2 x5_2).f2), .slice none 0 0]) ?_ 3 _ rfl; (with_reducible repeat (first | refine blk_drewN ?_ _ | refine blk_drew ?_ | refine blk_alloc ?_ _)); refine blk_put (cs := #[.int .i64 ((rd_T44 l0_2 x5_2).f0), .int .i64 ((rd_T44 l0_2 x5_2).f1), .int .i64 0, .slice none 0 0]) ?_ 2 _ rfl; (with_reducible repeat (first | refine blk_drewN ?_ _ | refine blk_drew ?_ | refine blk_alloc ?_ _)); refine blk_put (cs := #[.int .i64 ((rd_T44 l0_2 x5_2).f0), .int .i64 0, .int .i64 0, .slice none 0 0]) ?_ 1 _ rfl; (with_reducible repeat (first | refine blk_drewN ?_ _ | refine blk_drew ?_ | refine blk_alloc ?_ _)); refine blk_put (cs := #[.int .i64 0, .int .i64 0, .int .i64 0, .slice none 0 0]) ?_ 0 _ rfl; (with_reducible repeat (first | refine blk_drewN ?_ _ | refine blk_drew ?_ | refine blk_alloc ?_ _)); exact BK371.out⟩, ⟨by (with_reducible repeat (first | refine blk_drewN ?_ _ | refine blk_drew ?_ | refine blk_alloc ?_ _)); refine blk_put (cs := #[.int .i64 ((rd_T44 l1_2 x5_2).f0), .int .i64 ((rd_T44 l1_2 x5_2).f1), .int .i64 ((rd_T44 l1_2 x5_2).f2), .slice none 0 0]) ?_ 3 _ rfl; (with_reducible repeat (first | refine blk_drewN ?_ _ | refine blk_drew ?_ | refine blk_alloc ?_ _)); refine blk_put (cs := #[.int .i64 ((rd_T44 l1_2 x5_2).f0), .int .i64 ((rd_T44 l1_2 x5_2).f1), .int .i64 0, .slice none 0 0]) ?_ 2 _ rfl; (with_reducible repeat (first | refine blk_drewN ?_ _ | refine blk_drew ?_ | refine blk_alloc ?_ _)); refine blk_put (cs := #[.int .i64 ((rd_T44 l1_2 x5_2).f0), .int .i64 0, .int .i64 0, .slice none 0 0]) ?_ 1 _ rfl; (with_reducible repeat (first | refine blk_drewN ?_ _ | refine blk_drew ?_ | refine blk_alloc ?_ _)); refine blk_put (cs := #[.int .i64 0, .int .i64 0, .int .i64 0, .slice none 0 0]) ?_ 0 _ rfl; (with_reducible repeat (first | refine blk_drewN ?_ _ | refine blk_drew ?_ | refine blk_alloc ?_ _)); refine blk_far ?_ NB372_371.out _; (with_reducible repeat (first | refine blk_drewN ?_ _ | refine blk_drew ?_ | refine blk_alloc ?_ _)); refine blk_far ?_ NB372_371.out _; (with_reducible repeat (first | refine blk_drewN ?_ _ | refine blk_drew ?_ | refine blk_alloc ?_ _)); refine blk_far ?_ NB372_371.out _; (with_reducible repeat (first | refine blk_drewN ?_ _ | refine blk_drew ?_ | refine blk_alloc ?_ _)); refine blk_far ?_ NB372_371.out _; (with_reducible repeat (first | refine blk_drewN ?_ _ | refine blk_drew ?_ | refine blk_alloc ?_ _)); exact BK372.out⟩, ⟨by repeat (first | (with_reducible first | exact HB.out | apply below_alloc | apply pw_below_drewN | apply below_drew1 | refine below_set ?_ GE366.out | refine below_set ?_ GE367.out | refine below_set ?_ GE371.out | refine below_set ?_ GE372.out) | exact HB.out)⟩⟩
                    · rw [if_neg c37] at H
                      have c37b0 : (((rd_T44 l0_2 x5_2).f0) == ((rd_T44 l1_2 x5_2).f0)) = false := beq_eq_false_iff_ne.mpr c37
                      have c37b1 : (((rd_T44 l0_2 x5_2).f0) != ((rd_T44 l1_2 x5_2).f0)) = true := bne_iff_ne.mpr c37
                      (first | rw [c37b0] | (simp only [i64_w, i32_w]; rw [c37b0]) | skip)
                      have H' := Aside0.mk H
                      clear H
                      have hnb61 := NB371_366.out
                      have hnc61 := NB366_371.out
                      have hnb62 := NB371_367.out
                      have hnc62 := NB367_371.out
                      have hnb63 := NB371_372.out
                      have hnc63 := NB372_371.out
                      have hcz64_0 : w28.cell? ⟨gb371, 0, none⟩ = some (.int .i64 0) := (blk_cell BK371.out 0).trans rfl
                      have hcz64_1 : w28.cell? ⟨gb371, 1, none⟩ = some (.int .i64 0) := (blk_cell BK371.out 1).trans rfl
                      have hcz64_2 : w28.cell? ⟨gb371, 2, none⟩ = some (.int .i64 0) := (blk_cell BK371.out 2).trans rfl
                      have hcz64_3 : w28.cell? ⟨gb371, 3, none⟩ = some (.slice none 0 0) := (blk_cell BK371.out 3).trans rfl
                      have hfz64_0 := blk_frozen BK371.out 0
                      have hfz64_1 := blk_frozen BK371.out 1
                      have hfz64_2 := blk_frozen BK371.out 2
                      have hfz64_3 := blk_frozen BK371.out 3
                      have hnb65 := NB372_366.out
                      have hnc65 := NB366_372.out
                      have hnb66 := NB372_367.out
                      have hnc66 := NB367_372.out
                      have hcz67_0 : w28.cell? ⟨gb372, 0, none⟩ = some (.int .i64 0) := (blk_cell BK372.out 0).trans rfl
                      have hcz67_1 : w28.cell? ⟨gb372, 1, none⟩ = some (.int .i64 0) := (blk_cell BK372.out 1).trans rfl
                      have hcz67_2 : w28.cell? ⟨gb372, 2, none⟩ = some (.int .i64 0) := (blk_cell BK372.out 2).trans rfl
                      have hcz67_3 : w28.cell? ⟨gb372, 3, none⟩ = some (.slice none 0 0) := (blk_cell BK372.out 3).trans rfl
                      have hfz67_0 := blk_frozen BK372.out 0
                      have hfz67_1 := blk_frozen BK372.out 1
                      have hfz67_2 := blk_frozen BK372.out 2
                      have hfz67_3 := blk_frozen BK372.out 3
                      go_wp2
                      go_meet
                      case rel => exact ⟨_, (true), (by first | rfl | (simp; done) | (simp [*]; done)), H', ⟨by have := HJ2.out; have := HK2.out; first | omega | exact Nat.le_refl _⟩, ⟨by (with_reducible repeat (first | refine blk_drewN ?_ _ | refine blk_drew ?_ | refine blk_alloc ?_ _)); refine blk_far ?_ NB366_372.out _; (with_reducible repeat (first | refine blk_drewN ?_ _ | refine blk_drew ?_ | refine blk_alloc ?_ _)); refine blk_far ?_ NB366_372.out _; (with_reducible repeat (first | refine blk_drewN ?_ _ | refine blk_drew ?_ | refine blk_alloc ?_ _)); refine blk_far ?_ NB366_372.out _; (with_reducible repeat (first | refine blk_drewN ?_ _ | refine blk_drew ?_ | refine blk_alloc ?_ _)); refine blk_far ?_ NB366_372.out _; (with_reducible repeat (first | refine blk_drewN ?_ _ | refine blk_drew ?_ | refine blk_alloc ?_ _)); refine blk_far ?_ NB366_371.out _; (with_reducible repeat (first | refine blk_drewN ?_ _ | refine blk_drew ?_ | refine blk_alloc ?_ _)); refine blk_far ?_ NB366_371.out _; (with_reducible repeat (first | refine blk_drewN ?_ _ | refine blk_drew ?_ | refine blk_alloc ?_ _)); refine blk_far ?_ NB366_371.out _; (with_reducible repeat (first | refine blk_drewN ?_ _ | refine blk_drew ?_ | refine blk_alloc ?_ _)); refine blk_far ?_ NB366_371.out _; (with_reducible repeat (first | refine blk_drewN ?_ _ | refine blk_drew ?_ | refine blk_alloc ?_ _)); exact BK366.out⟩, ⟨by (with_reducible repeat (first | refine blk_drewN ?_ _ | refine blk_drew ?_ | refine blk_alloc ?_ _)); refine blk_far ?_ NB367_372.out _; (with_reducible repeat (first | refine blk_drewN ?_ _ | refine blk_drew ?_ | refine blk_alloc ?_ _)); refine blk_far ?_ NB367_372.out _; (with_reducible repeat (first | refine blk_drewN ?_ _ | refine blk_drew ?_ | refine blk_alloc ?_ _)); refine blk_far ?_ NB367_372.out _; (with_reducible repeat (first | refine blk_drewN ?_ _ | refine blk_drew ?_ | refine blk_alloc ?_ _)); refine blk_far ?_ NB367_372.out _; (with_reducible repeat (first | refine blk_drewN ?_ _ | refine blk_drew ?_ | refine blk_alloc ?_ _)); refine blk_far ?_ NB367_371.out _; (with_reducible repeat (first | refine blk_drewN ?_ _ | refine blk_drew ?_ | refine blk_alloc ?_ _)); refine blk_far ?_ NB367_371.out _; (with_reducible repeat (first | refine blk_drewN ?_ _ | refine blk_drew ?_ | refine blk_alloc ?_ _)); refine blk_far ?_ NB367_371.out _; (with_reducible repeat (first | refine blk_drewN ?_ _ | refine blk_drew ?_ | refine blk_alloc ?_ _)); refine blk_far ?_ NB367_371.out _; (with_reducible repeat (first | refine blk_drewN ?_ _ | refine blk_drew ?_ | refine blk_alloc ?_ _)); exact BK367.out⟩, ⟨by (with_reducible repeat (first | refine blk_drewN ?_ _ | refine blk_drew ?_ | refine blk_alloc ?_ _)); refine blk_far ?_ NB371_372.out _; (with_reducible repeat (first | refine blk_drewN ?_ _ | refine blk_drew ?_ | refine blk_alloc ?_ _)); refine blk_far ?_ NB371_372.out _; (with_reducible repeat (first | refine blk_drewN ?_ _ | refine blk_drew ?_ | refine blk_alloc ?_ _)); refine blk_far ?_ NB371_372.out _; (with_reducible repeat (first | refine blk_drewN ?_ _ | refine blk_drew ?_ | refine blk_alloc ?_ _)); refine blk_far ?_ NB371_372.out _; (with_reducible repeat (first | refine blk_drewN ?_ _ | refine blk_drew ?_ | refine blk_alloc ?_ _)); refine blk_put (cs := #[.int .i64 ((rd_T44 l0_2 x5_2).f0), .int .i64 ((rd_T44 l0_2 x5_2).f1), .int .i64 ((rd_T44 l0_2 x5_2).f2), .slice none 0 0]) ?_ 3 _ rfl; (with_reducible repeat (first | refine blk_drewN ?_ _ | refine blk_drew ?_ | refine blk_alloc ?_ _)); refine blk_put (cs := #[.int .i64 ((rd_T44 l0_2 x5_2).f0), .int .i64 ((rd_T44 l0_2 x5_2).f1), .int .i64 0, .slice none 0 0]) ?_ 2 _ rfl; (with_reducible repeat (first | refine blk_drewN ?_ _ | refine blk_drew ?_ | refine blk_alloc ?_ _)); refine blk_put (cs := #[.int .i64 ((rd_T44 l0_2 x5_2).f0), .int .i64 0, .int .i64 0, .slice none 0 0]) ?_ 1 _ rfl; (with_reducible repeat (first | refine blk_drewN ?_ _ | refine blk_drew ?_ | refine blk_alloc ?_ _)); refine blk_put (cs := #[.int .i64 0, .int .i64 0, .int .i64 0, .slice none 0 0]) ?_ 0 _ rfl; (with_reducible repeat (first | refine blk_drewN ?_ _ | refine blk_drew ?_ | refine blk_alloc ?_ _)); exact BK371.out⟩, ⟨by (with_reducible repeat (first | refine blk_drewN ?_ _ | refine blk_drew ?_ | refine blk_alloc ?_ _)); refine blk_put (cs := #[.int .i64 ((rd_T44 l1_2 x5_2).f0), .int .i64 ((rd_T44 l1_2 x5_2).f1), .int .i64 ((rd_T44 l1_2 x5_2).f2), .slice none 0 0]) ?_ 3 _ rfl; (with_reducible repeat (first | refine blk_drewN ?_ _ | refine blk_drew ?_ | refine blk_alloc ?_ _)); refine blk_put (cs := #[.int .i64 ((rd_T44 l1_2 x5_2).f0), .int .i64 ((rd_T44 l1_2 x5_2).f1), .int .i64 0, .slice none 0 0]) ?_ 2 _ rfl; (with_reducible repeat (first | refine blk_drewN ?_ _ | refine blk_drew ?_ | refine blk_alloc ?_ _)); refine blk_put (cs := #[.int .i64 ((rd_T44 l1_2 x5_2).f0), .int .i64 0, .int .i64 0, .slice none 0 0]) ?_ 1 _ rfl; (with_reducible repeat (first | refine blk_drewN ?_ _ | refine blk_drew ?_ | refine blk_alloc ?_ _)); refine blk_put (cs := #[.int .i64 0, .int .i64 0, .int .i64 0, .slice none 0 0]) ?_ 0 _ rfl; (with_reducible repeat (first | refine blk_drewN ?_ _ | refine blk_drew ?_ | refine blk_alloc ?_ _)); refine blk_far ?_ NB372_371.out _; (with_reducible repeat (first | refine blk_drewN ?_ _ | refine blk_drew ?_ | refine blk_alloc ?_ _)); refine blk_far ?_ NB372_371.out _; (with_reducible repeat (first | refine blk_drewN ?_ _ | refine blk_drew ?_ | refine blk_alloc ?_ _)); refine blk_far ?_ NB372_371.out _; (with_reducible repeat (first | refine blk_drewN ?_ _ | refine blk_drew ?_ | refine blk_alloc ?_ _)); refine blk_far ?_ NB372_371.out _; (with_reducible repeat (first | refine blk_drewN ?_ _ | refine blk_drew ?_ | refine blk_alloc ?_ _)); exact BK372.out⟩, ⟨by repeat (first | (with_reducible first | exact HB.out | apply below_alloc | apply pw_below_drewN | apply below_drew1 | refine below_set ?_ GE366.out | refine below_set ?_ GE367.out | refine below_set ?_ GE371.out | refine below_set ?_ GE372.out) | exact HB.out)⟩⟩
                  case rest =>
                    clear HC22
                    try clear c1
                    try clear c2
                    try clear p2
                    try clear c3
                    try clear p3
                    try clear q3
                    try clear hx3
                    try clear c4
                    try clear c5
                    try clear c6
                    try clear c19
                    try clear c19b0
                    try clear c20
                    try clear c20b0
                    try clear c21
                    try clear c21b0
                    try clear c23
                    try clear c36
                    try clear p36
                    try clear q36
                    try clear hx36
                    try clear c37
                    try clear c37b0
                    try clear c37b1
                    try clear p37
                    try clear q37
                    try clear hx37
                    try clear c38
                    try clear c38b0
                    try clear c38b1
                    try clear c39
                    try clear c39b0
                    try clear c39b1
                    try clear c40
                    try clear c41
                    try clear c42
                    try clear c44
                    try clear c45
                    try clear c47
                    try clear c48
                    try clear c49
                    try clear c51
                    try clear c52
                    try clear c54
                    try clear c55
                    try clear c56
                    try clear c58
                    try clear c59
                    try clear c61
                    try clear c62
                    try clear c63
                    try clear c65
                    try clear c66
                    try clear hcz24_0
                    try clear hcz24_1
                    try clear hcz24_2
                    try clear hcz43_0
                    try clear hcz43_1
                    try clear hcz43_2
                    try clear hcz43_3
                    try clear hcz46_0
                    try clear hcz46_1
                    try clear hcz46_2
                    try clear hcz46_3
                    try clear hcz50_0
                    try clear hcz50_1
                    try clear hcz50_2
                    try clear hcz50_3
                    try clear hcz53_0
                    try clear hcz53_1
                    try clear hcz53_2
                    try clear hcz53_3
                    try clear hcz57_0
                    try clear hcz57_1
                    try clear hcz57_2
                    try clear hcz57_3
                    try clear hcz60_0
                    try clear hcz60_1
                    try clear hcz60_2
                    try clear hcz60_3
                    try clear hcz64_0
                    try clear hcz64_1
                    try clear hcz64_2
                    try clear hcz64_3
                    try clear hcz67_0
                    try clear hcz67_1
                    try clear hcz67_2
                    try clear hcz67_3
                    try clear hfz24_0
                    try clear hfz24_1
                    try clear hfz24_2
                    try clear hfz43_0
                    try clear hfz43_1
                    try clear hfz43_2
                    try clear hfz43_3
                    try clear hfz46_0
                    try clear hfz46_1
                    try clear hfz46_2
                    try clear hfz46_3
                    try clear hfz50_0
                    try clear hfz50_1
                    try clear hfz50_2
                    try clear hfz50_3
                    try clear hfz53_0
                    try clear hfz53_1
                    try clear hfz53_2
                    try clear hfz53_3
                    try clear hfz57_0
                    try clear hfz57_1
                    try clear hfz57_2
                    try clear hfz57_3
                    try clear hfz60_0
                    try clear hfz60_1
                    try clear hfz60_2
                    try clear hfz60_3
                    try clear hfz64_0
                    try clear hfz64_1
                    try clear hfz64_2
                    try clear hfz64_3
                    try clear hfz67_0
                    try clear hfz67_1
                    try clear hfz67_2
                    try clear hfz67_3
                    try clear hx369_0
                    try clear hx369_1
                    try clear hx369_2
                    try clear hx369_3
                    try clear hx370_0
                    try clear hx370_1
                    try clear hx370_2
                    try clear hx370_3
                    try clear p369
                    try clear p370
                    try clear q369
                    try clear q370
                    obtain ⟨kq, x75_21, rfl, HA, HJ21, BK366, BK367, BK371, BK372, HB⟩ := hcut
                    cases kq with
                    | zero => exact absurd HA.out (by simp [casementref12_Same.j2])
                    | succ kj21 =>
                      have H := HA.out
                      clear HA
                      simp only [casementref12_Same.j2] at H
                      by_cases c68 : x75_21 = true
                      · subst c68
                        have H1 : (some false) = some r := by rw [if_pos rfl] at H; exact H
                        clear H
                        have H := H1
                        clear H1
                        obtain rfl := Option.some.inj H
                        go_wp2
                        go_ret
                        exact ⟨by first | rfl | (simp [errW_none, errW_some] <;> rfl) | (simp [*, errW_none, errW_some] <;> rfl), by repeat (first | (with_reducible first | exact HB.out | apply below_alloc | apply pw_below_drewN | apply below_drew1 | refine below_set ?_ GE366.out | refine below_set ?_ GE367.out | refine below_set ?_ GE371.out | refine below_set ?_ GE372.out) | exact HB.out)⟩
                      · replace c68 := Bool.eq_false_iff.mpr c68
                        subst c68
                        have H1 : (casementref12_Same.l1 kj21 x5_2 0 a0_0 l0_1 l0_2 a1_0 l1_1 l1_2 ((rd_T44 l0_2 x5_2).f0) ((rd_T44 l0_2 x5_2).f1) ((rd_T44 l0_2 x5_2).f2) ((rd_T44 l0_2 x5_2).f3) ((rd_T44 l1_2 x5_2).f0) ((rd_T44 l1_2 x5_2).f1) ((rd_T44 l1_2 x5_2).f2) ((rd_T44 l1_2 x5_2).f3)) = some r := by rw [if_neg (show ¬ (false = true) by decide)] at H; exact H
                        clear H
                        have H := H1
                        clear H1
                        have H' := Aside0.mk H
                        clear H
                        go_wp2
                        go_loopg [8] kj21 (fun kq v8 w' => ∃ (x8_4 : Int), v8 = .int .i64 x8_4 ∧ Aside0 (casementref12_Same.l1 kq x5_2 x8_4 a0_0 l0_1 l0_2 a1_0 l1_1 l1_2 ((rd_T44 l0_2 x5_2).f0) ((rd_T44 l0_2 x5_2).f1) ((rd_T44 l0_2 x5_2).f2) ((rd_T44 l0_2 x5_2).f3) ((rd_T44 l1_2 x5_2).f0) ((rd_T44 l1_2 x5_2).f1) ((rd_T44 l1_2 x5_2).f2) ((rd_T44 l1_2 x5_2).f3) = some r) ∧ Aside0 (kq ≤ kj21) ∧ Aside0 (w'.heap[gb366]? = some (.cells #[.int .i64 a0_0, (.slice A0_1 l0_1.length c0_1), (.slice (some ad369) l0_2.length c0_2)] 26 (0, 0))) ∧ Aside0 (w'.heap[gb367]? = some (.cells #[.int .i64 a1_0, (.slice A1_1 l1_1.length c1_1), (.slice (some ad370) l1_2.length c1_2)] 26 (0, 0))) ∧ Aside0 (w'.heap[gb371]? = some (.cells #[.int .i64 ((rd_T44 l0_2 x5_2).f0), .int .i64 ((rd_T44 l0_2 x5_2).f1), .int .i64 ((rd_T44 l0_2 x5_2).f2), (.slice A369_3 ((rd_T44 l0_2 x5_2).f3).length c369_3)] 44 (0, 0))) ∧ Aside0 (w'.heap[gb372]? = some (.cells #[.int .i64 ((rd_T44 l1_2 x5_2).f0), .int .i64 ((rd_T44 l1_2 x5_2).f1), .int .i64 ((rd_T44 l1_2 x5_2).f2), (.slice A370_3 ((rd_T44 l1_2 x5_2).f3).length c370_3)] 44 (0, 0))) ∧ Aside0 (Below w.heap.size w w'))
                        case atStart => exact ⟨(0), (by first | rfl | (simp; done) | (simp [*]; done)), H', ⟨Nat.le_refl _⟩, ⟨by (with_reducible repeat (first | refine blk_drewN ?_ _ | refine blk_drew ?_ | refine blk_alloc ?_ _)); exact BK366.out⟩, ⟨by (with_reducible repeat (first | refine blk_drewN ?_ _ | refine blk_drew ?_ | refine blk_alloc ?_ _)); exact BK367.out⟩, ⟨by (with_reducible repeat (first | refine blk_drewN ?_ _ | refine blk_drew ?_ | refine blk_alloc ?_ _)); exact BK371.out⟩, ⟨by (with_reducible repeat (first | refine blk_drewN ?_ _ | refine blk_drew ?_ | refine blk_alloc ?_ _)); exact BK372.out⟩, ⟨by repeat (first | (with_reducible first | exact HB.out | apply below_alloc | apply pw_below_drewN | apply below_drew1 | refine below_set ?_ GE366.out | refine below_set ?_ GE367.out | refine below_set ?_ GE371.out | refine below_set ?_ GE372.out) | exact HB.out)⟩⟩
                        case round =>
                          clear H'
                          try clear c1
                          try clear c2
                          try clear p2
                          try clear c3
                          try clear p3
                          try clear q3
                          try clear hx3
                          try clear c4
                          try clear c5
                          try clear c6
                          try clear c19
                          try clear c19b0
                          try clear c20
                          try clear c20b0
                          try clear c21
                          try clear c21b0
                          try clear c23
                          try clear c36
                          try clear p36
                          try clear q36
                          try clear hx36
                          try clear c37
                          try clear c37b0
                          try clear c37b1
                          try clear p37
                          try clear q37
                          try clear hx37
                          try clear c38
                          try clear c38b0
                          try clear c38b1
                          try clear c39
                          try clear c39b0
                          try clear c39b1
                          try clear c40
                          try clear c41
                          try clear c42
                          try clear c44
                          try clear c45
                          try clear c47
                          try clear c48
                          try clear c49
                          try clear c51
                          try clear c52
                          try clear c54
                          try clear c55
                          try clear c56
                          try clear c58
                          try clear c59
                          try clear c61
                          try clear c62
                          try clear c63
                          try clear c65
                          try clear c66
                          try clear c68
                          try clear hcz24_0
                          try clear hcz24_1
                          try clear hcz24_2
                          try clear hcz43_0
                          try clear hcz43_1
                          try clear hcz43_2
                          try clear hcz43_3
                          try clear hcz46_0
                          try clear hcz46_1
                          try clear hcz46_2
                          try clear hcz46_3
                          try clear hcz50_0
                          try clear hcz50_1
                          try clear hcz50_2
                          try clear hcz50_3
                          try clear hcz53_0
                          try clear hcz53_1
                          try clear hcz53_2
                          try clear hcz53_3
                          try clear hcz57_0
                          try clear hcz57_1
                          try clear hcz57_2
                          try clear hcz57_3
                          try clear hcz60_0
                          try clear hcz60_1
                          try clear hcz60_2
                          try clear hcz60_3
                          try clear hcz64_0
                          try clear hcz64_1
                          try clear hcz64_2
                          try clear hcz64_3
                          try clear hcz67_0
                          try clear hcz67_1
                          try clear hcz67_2
                          try clear hcz67_3
                          try clear hfz24_0
                          try clear hfz24_1
                          try clear hfz24_2
                          try clear hfz43_0
                          try clear hfz43_1
                          try clear hfz43_2
                          try clear hfz43_3
                          try clear hfz46_0
                          try clear hfz46_1
                          try clear hfz46_2
                          try clear hfz46_3
                          try clear hfz50_0
                          try clear hfz50_1
                          try clear hfz50_2
                          try clear hfz50_3
                          try clear hfz53_0
                          try clear hfz53_1
                          try clear hfz53_2
                          try clear hfz53_3
                          try clear hfz57_0
                          try clear hfz57_1
                          try clear hfz57_2
                          try clear hfz57_3
                          try clear hfz60_0
                          try clear hfz60_1
                          try clear hfz60_2
                          try clear hfz60_3
                          try clear hfz64_0
                          try clear hfz64_1
                          try clear hfz64_2
                          try clear hfz64_3
                          try clear hfz67_0
                          try clear hfz67_1
                          try clear hfz67_2
                          try clear hfz67_3
                          try clear hx369_0
                          try clear hx369_1
                          try clear hx369_2
                          try clear hx369_3
                          try clear hx370_0
                          try clear hx370_1
                          try clear hx370_2
                          try clear hx370_3
                          try clear p2
                          try clear p3
                          try clear p36
                          try clear p369
                          try clear p37
                          try clear p370
                          try clear q3
                          try clear q36
                          try clear q369
                          try clear q37
                          try clear q370
                          obtain ⟨x8_4, rfl, HA, HK4, BK366, BK367, BK371, BK372, HB⟩ := hrel
                          cases gk with
                          | zero => exact absurd HA.out (by simp [casementref12_Same.l1])
                          | succ k4 =>
                            have H := HA.out
                            clear HA
                            simp only [casementref12_Same.l1] at H
                            by_cases c69 : x8_4 < (((rd_T44 l0_2 x5_2).f3).length : Int)
                            · rw [if_pos c69] at H
                              have c69b0 : decide (x8_4 < (((rd_T44 l0_2 x5_2).f3).length : Int)) = true := decide_eq_true c69
                              clear c69
                              by_cases c70 : 0 ≤ x8_4
                              · rw [if_pos c70] at H
                                have c70b0 : decide (0 ≤ x8_4) = true := decide_eq_true c70
                                clear c70
                                by_cases c71 : x8_4 < (((rd_T44 l1_2 x5_2).f3).length : Int)
                                · rw [if_pos c71] at H
                                  have c71b0 : decide (x8_4 < (((rd_T44 l1_2 x5_2).f3).length : Int)) = true := decide_eq_true c71
                                  clear c71
                                  by_cases c72 : (!(((rd_T41 ((rd_T44 l0_2 x5_2).f3) x8_4).f0) == ((rd_T41 ((rd_T44 l1_2 x5_2).f3) x8_4).f0)) || (!(((rd_T41 ((rd_T44 l0_2 x5_2).f3) x8_4).f1) == ((rd_T41 ((rd_T44 l1_2 x5_2).f3) x8_4).f1)))) = true
                                  · rw [if_pos c72] at H
                                    have c72b0 : (!(((rd_T41 ((rd_T44 l0_2 x5_2).f3) x8_4).f0) == ((rd_T41 ((rd_T44 l1_2 x5_2).f3) x8_4).f0)) || (!(((rd_T41 ((rd_T44 l0_2 x5_2).f3) x8_4).f1) == ((rd_T41 ((rd_T44 l1_2 x5_2).f3) x8_4).f1)))) = true := c72
                                    clear c72
                                    obtain rfl := Option.some.inj H
                                    have hnb73 := NB371_366.out
                                    have hnc73 := NB366_371.out
                                    have hnb74 := NB371_367.out
                                    have hnc74 := NB367_371.out
                                    have hnb75 := NB371_372.out
                                    have hnc75 := NB372_371.out
                                    have hcz76_0 : wr.cell? ⟨gb371, 0, none⟩ = some (.int .i64 ((rd_T44 l0_2 x5_2).f0)) := (blk_cell BK371.out 0).trans rfl
                                    have hcz76_1 : wr.cell? ⟨gb371, 1, none⟩ = some (.int .i64 ((rd_T44 l0_2 x5_2).f1)) := (blk_cell BK371.out 1).trans rfl
                                    have hcz76_2 : wr.cell? ⟨gb371, 2, none⟩ = some (.int .i64 ((rd_T44 l0_2 x5_2).f2)) := (blk_cell BK371.out 2).trans rfl
                                    have hcz76_3 : wr.cell? ⟨gb371, 3, none⟩ = some (.slice A369_3 ((rd_T44 l0_2 x5_2).f3).length c369_3) := (blk_cell BK371.out 3).trans rfl
                                    have hfz76_0 := blk_frozen BK371.out 0
                                    have hfz76_1 := blk_frozen BK371.out 1
                                    have hfz76_2 := blk_frozen BK371.out 2
                                    have hfz76_3 := blk_frozen BK371.out 3
                                    try go_wp2
                                    have n0_ := Aside0.mk (blk_drew BK366.out)
                                    have n1_ := Aside0.mk (blk_drew BK367.out)
                                    have n2_ := Aside0.mk (blk_drew BK371.out)
                                    have n3_ := Aside0.mk (blk_drew BK372.out)
                                    have n4_ := Aside0.mk (below_drew1 HB.out)
                                    clear BK366
                                    clear BK367
                                    clear BK371
                                    clear BK372
                                    clear HB
                                    have BK366 := n0_
                                    have BK367 := n1_
                                    have BK371 := n2_
                                    have BK372 := n3_
                                    have HB := n4_
                                    clear n0_ n1_ n2_ n3_ n4_
                                    have p373 : 0 ≤ (x8_4 : Int) := of_decide_eq_true (by first | (with_reducible assumption) | assumption)
                                    have q373 : x8_4 < (((rd_T44 l0_2 x5_2).f3).length : Int) := of_decide_eq_true (by first | (with_reducible assumption) | assumption)
                                    obtain ⟨ad373, e373, hx373_0, hx373_1⟩ := at_T41 HR369_3.out x8_4 p373 q373
                                    have hw373_1 := hx373_1
                                    have hw373_0 := hx373_0
                                    cases e373
                                    replace hx373_0 := (HB.out.cell (World.block_lt_of_cell? w _ hx373_0)).trans hx373_0
                                    replace hx373_1 := (HB.out.cell (World.block_lt_of_cell? w _ hx373_1)).trans hx373_1
                                    replace p373 := eq_true p373
                                    replace q373 := eq_true q373
                                    have p374 : 0 ≤ (x8_4 : Int) := of_decide_eq_true (by first | (with_reducible assumption) | assumption)
                                    have q374 : x8_4 < (((rd_T44 l1_2 x5_2).f3).length : Int) := of_decide_eq_true (by first | (with_reducible assumption) | assumption)
                                    obtain ⟨ad374, e374, hx374_0, hx374_1⟩ := at_T41 HR370_3.out x8_4 p374 q374
                                    have hw374_1 := hx374_1
                                    have hw374_0 := hx374_0
                                    cases e374
                                    replace hx374_0 := (HB.out.cell (World.block_lt_of_cell? w _ hx374_0)).trans hx374_0
                                    replace hx374_1 := (HB.out.cell (World.block_lt_of_cell? w _ hx374_1)).trans hx374_1
                                    replace p374 := eq_true p374
                                    replace q374 := eq_true q374
                                    refine start_ (n := 11) (S := fun w' => w'.cell? ⟨gb371, 0, none⟩ = some (.int .i64 ((rd_T44 l0_2 x5_2).f0)) ∧ w'.cell? ⟨gb371, 1, none⟩ = some (.int .i64 ((rd_T44 l0_2 x5_2).f1)) ∧ w'.cell? ⟨gb371, 2, none⟩ = some (.int .i64 ((rd_T44 l0_2 x5_2).f2)) ∧ w'.cell? ⟨gb371, 3, none⟩ = some (.slice (some ad373) ((rd_T44 l0_2 x5_2).f3).length c369_3) ∧ w'.cell? ⟨gb372, 0, none⟩ = some (.int .i64 ((rd_T44 l1_2 x5_2).f0)) ∧ w'.cell? ⟨gb372, 1, none⟩ = some (.int .i64 ((rd_T44 l1_2 x5_2).f1)) ∧ w'.cell? ⟨gb372, 2, none⟩ = some (.int .i64 ((rd_T44 l1_2 x5_2).f2)) ∧ w'.cell? ⟨gb372, 3, none⟩ = some (.slice (some ad374) ((rd_T44 l1_2 x5_2).f3).length c370_3) ∧ w'.cell? (ad373.add ((x8_4).toNat * 2)) = some (.int .i64 ((rd_T41 ((rd_T44 l0_2 x5_2).f3) x8_4).f0)) ∧ w'.cell? ⟨(ad373.add ((x8_4).toNat * 2)).block, (ad373.add ((x8_4).toNat * 2)).off + 1, none⟩ = some (.int .i64 ((rd_T41 ((rd_T44 l0_2 x5_2).f3) x8_4).f1)) ∧ w'.cell? (ad374.add ((x8_4).toNat * 2)) = some (.int .i64 ((rd_T41 ((rd_T44 l1_2 x5_2).f3) x8_4).f0)) ∧ w'.cell? ⟨(ad374.add ((x8_4).toNat * 2)).block, (ad374.add ((x8_4).toNat * 2)).off + 1, none⟩ = some (.int .i64 ((rd_T41 ((rd_T44 l1_2 x5_2).f3) x8_4).f1))) (ds := []) #[false, false, false, false, false, false, false, false, false, false, false] (by kernel_rfl) rfl rfl ⟨(blk_cell BK371.out 0).trans rfl, (blk_cell BK371.out 1).trans rfl, (blk_cell BK371.out 2).trans rfl, (blk_cell BK371.out 3).trans rfl, (blk_cell BK372.out 0).trans rfl, (blk_cell BK372.out 1).trans rfl, (blk_cell BK372.out 2).trans rfl, (blk_cell BK372.out 3).trans rfl, ((HB.out.cell (World.block_lt_of_cell? w _ hw373_0)).trans hw373_0), ((HB.out.cell (World.block_lt_of_cell? w _ hw373_1)).trans hw373_1), ((HB.out.cell (World.block_lt_of_cell? w _ hw374_0)).trans hw374_0), ((HB.out.cell (World.block_lt_of_cell? w _ hw374_1)).trans hw374_1)⟩ (fun hHeld => ?_); refine with_tabW casementref12_Same.tab12 casementref12_Same.bits12 (fun HT_ HW_ => ?_)
                                    generalize wr.drew = w77 at BK366 BK367 BK371 BK372 HB hx373_0 hx373_1 hx374_0 hx374_1 hHeld ⊢
                                    refine pure_ (i := 0) (N := some 83) (v := ?_) (a' := ?_) #[true, false, false, false, false, false, false, false, false, false, false] rfl rfl (any_of HT_.out (by kernel_rfl)) (fun _ _ _ h => h) (Or.inl ⟨by rfl, ?_⟩) ?_ ?_
                                    rotate_left
                                    · intro w'
                                      go_simp
                                      with_reducible rfl
                                    rotate_left
                                    · simp only [Act.put, List.setIfInBounds_toArray, List.set_cons_zero, List.set_cons_succ, i64_w, i32_w]
                                      rfl
                                    refine pure_ (i := 2) (N := some 85) (v := ?_) (a' := ?_) #[true, false, true, false, false, false, false, false, false, false, false] rfl rfl (any_of HT_.out (by kernel_rfl)) (fun _ _ _ h => h) (Or.inl ⟨by rfl, ?_⟩) ?_ ?_
                                    rotate_left
                                    · intro w'
                                      go_simp
                                      with_reducible rfl
                                    rotate_left
                                    · simp only [Act.put, List.setIfInBounds_toArray, List.set_cons_zero, List.set_cons_succ, i64_w, i32_w]
                                      rfl
                                    refine pure_ (i := 5) (N := some 88) (v := ?_) (a' := ?_) #[true, false, true, false, false, true, false, false, false, false, false] rfl rfl (any_of HT_.out (by kernel_rfl)) (fun _ _ _ h => h) (Or.inl ⟨by rfl, ?_⟩) ?_ ?_
                                    rotate_left
                                    · intro w'
                                      go_simp
                                      with_reducible rfl
                                    rotate_left
                                    · simp only [Act.put, List.setIfInBounds_toArray, List.set_cons_zero, List.set_cons_succ, i64_w, i32_w]
                                      rfl
                                    refine pure_ (i := 7) (N := some 90) (v := ?_) (a' := ?_) #[true, false, true, false, false, true, false, true, false, false, false] rfl rfl (any_of HT_.out (by kernel_rfl)) (fun _ _ _ h => h) (Or.inl ⟨by rfl, ?_⟩) ?_ ?_
                                    rotate_left
                                    · intro w'
                                      go_simp
                                      with_reducible rfl
                                    rotate_left
                                    · simp only [Act.put, List.setIfInBounds_toArray, List.set_cons_zero, List.set_cons_succ, i64_w, i32_w]
                                      rfl
                                    refine take_ (i := 1) (N := some 84) (v := ?_) (a' := ?_) #[true, true, true, false, false, true, false, true, false, false, false] rfl rfl (take_ofW HT_.out HW_.out (by kernel_rfl)) (fun _ _ _ h => h) (Or.inl ⟨by rfl, ?_⟩) hHeld ?_ ?_
                                    rotate_left
                                    · rintro w' ⟨s0, s1, s2, s3, s4, s5, s6, s7, s8, s9, s10, s11⟩
                                      go_simp
                                      with_reducible rfl
                                    rotate_left
                                    · simp only [Act.put, List.setIfInBounds_toArray, List.set_cons_zero, List.set_cons_succ, i64_w, i32_w]
                                      rfl
                                    refine pure_ (i := 3) (N := some 86) (v := ?_) (a' := ?_) #[true, true, true, true, false, true, false, true, false, false, false] rfl rfl (any_of HT_.out (by kernel_rfl)) (fun _ _ _ h => h) (Or.inl ⟨by rfl, ?_⟩) ?_ ?_
                                    rotate_left
                                    · intro w'
                                      go_simp
                                      with_reducible rfl
                                    rotate_left
                                    · simp only [Act.put, List.setIfInBounds_toArray, List.set_cons_zero, List.set_cons_succ, i64_w, i32_w]
                                      rfl
                                    refine take_ (i := 4) (N := some 87) (v := ?_) (a' := ?_) #[true, true, true, true, true, true, false, true, false, false, false] rfl rfl (take_ofW HT_.out HW_.out (by kernel_rfl)) (fun _ _ _ h => h) (Or.inl ⟨by rfl, ?_⟩) hHeld ?_ ?_
                                    rotate_left
                                    · rintro w' ⟨s0, s1, s2, s3, s4, s5, s6, s7, s8, s9, s10, s11⟩
                                      go_simp
                                      with_reducible rfl
                                    rotate_left
                                    · simp only [Act.put, List.setIfInBounds_toArray, List.set_cons_zero, List.set_cons_succ, i64_w, i32_w]
                                      rfl
                                    refine take_ (i := 6) (N := some 89) (v := ?_) (a' := ?_) #[true, true, true, true, true, true, true, true, false, false, false] rfl rfl (take_ofW HT_.out HW_.out (by kernel_rfl)) (fun _ _ _ h => h) (Or.inl ⟨by rfl, ?_⟩) hHeld ?_ ?_
                                    rotate_left
                                    · rintro w' ⟨s0, s1, s2, s3, s4, s5, s6, s7, s8, s9, s10, s11⟩
                                      go_simp
                                      with_reducible rfl
                                    rotate_left
                                    · simp only [Act.put, List.setIfInBounds_toArray, List.set_cons_zero, List.set_cons_succ, i64_w, i32_w]
                                      rfl
                                    refine pure_ (i := 8) (N := some 91) (v := ?_) (a' := ?_) #[true, true, true, true, true, true, true, true, true, false, false] rfl rfl (any_of HT_.out (by kernel_rfl)) (fun _ _ _ h => h) (Or.inl ⟨by rfl, ?_⟩) ?_ ?_
                                    rotate_left
                                    · intro w'
                                      go_simp
                                      with_reducible rfl
                                    rotate_left
                                    · simp only [Act.put, List.setIfInBounds_toArray, List.set_cons_zero, List.set_cons_succ, i64_w, i32_w]
                                      rfl
                                    refine take_ (i := 9) (N := some 92) (v := ?_) (a' := ?_) #[true, true, true, true, true, true, true, true, true, true, false] rfl rfl (take_ofW HT_.out HW_.out (by kernel_rfl)) (fun _ _ _ h => h) (Or.inl ⟨by rfl, ?_⟩) hHeld ?_ ?_
                                    rotate_left
                                    · rintro w' ⟨s0, s1, s2, s3, s4, s5, s6, s7, s8, s9, s10, s11⟩
                                      go_simp
                                      with_reducible rfl
                                    rotate_left
                                    · simp only [Act.put, List.setIfInBounds_toArray, List.set_cons_zero, List.set_cons_succ, i64_w, i32_w]
                                      rfl
                                    refine pure_ (i := 10) (N := some 93) (v := ?_) (a' := ?_) #[true, true, true, true, true, true, true, true, true, true, true] rfl rfl (any_of HT_.out (by kernel_rfl)) (fun _ _ _ h => h) (Or.inl ⟨by rfl, ?_⟩) ?_ ?_
                                    rotate_left
                                    · intro w'
                                      go_simp
                                      with_reducible rfl
                                    rotate_left
                                    · simp only [Act.put, List.setIfInBounds_toArray, List.set_cons_zero, List.set_cons_succ, i64_w, i32_w]
                                      rfl
                                    refine done_ (done_of HT_.out (by kernel_rfl)) ?_
                                    try go_wp2
                                    go_ret
                                    exact ⟨by first | rfl | (simp [errW_none, errW_some] <;> rfl) | (simp [*, errW_none, errW_some] <;> rfl), by repeat (first | (with_reducible first | exact HB.out | apply below_alloc | apply pw_below_drewN | apply below_drew1 | refine below_set ?_ GE366.out | refine below_set ?_ GE367.out | refine below_set ?_ GE371.out | refine below_set ?_ GE372.out) | exact HB.out)⟩
                                  · rw [if_neg c72] at H
                                    have c72b0 : (!(((rd_T41 ((rd_T44 l0_2 x5_2).f3) x8_4).f0) == ((rd_T41 ((rd_T44 l1_2 x5_2).f3) x8_4).f0)) || (!(((rd_T41 ((rd_T44 l0_2 x5_2).f3) x8_4).f1) == ((rd_T41 ((rd_T44 l1_2 x5_2).f3) x8_4).f1)))) = false := by simpa using c72
                                    clear c72
                                    have H' := Aside0.mk H
                                    clear H
                                    have hnb78 := NB371_366.out
                                    have hnc78 := NB366_371.out
                                    have hnb79 := NB371_367.out
                                    have hnc79 := NB367_371.out
                                    have hnb80 := NB371_372.out
                                    have hnc80 := NB372_371.out
                                    have hcz81_0 : wr.cell? ⟨gb371, 0, none⟩ = some (.int .i64 ((rd_T44 l0_2 x5_2).f0)) := (blk_cell BK371.out 0).trans rfl
                                    have hcz81_1 : wr.cell? ⟨gb371, 1, none⟩ = some (.int .i64 ((rd_T44 l0_2 x5_2).f1)) := (blk_cell BK371.out 1).trans rfl
                                    have hcz81_2 : wr.cell? ⟨gb371, 2, none⟩ = some (.int .i64 ((rd_T44 l0_2 x5_2).f2)) := (blk_cell BK371.out 2).trans rfl
                                    have hcz81_3 : wr.cell? ⟨gb371, 3, none⟩ = some (.slice A369_3 ((rd_T44 l0_2 x5_2).f3).length c369_3) := (blk_cell BK371.out 3).trans rfl
                                    have hfz81_0 := blk_frozen BK371.out 0
                                    have hfz81_1 := blk_frozen BK371.out 1
                                    have hfz81_2 := blk_frozen BK371.out 2
                                    have hfz81_3 := blk_frozen BK371.out 3
                                    try go_wp2
                                    have n0_ := Aside0.mk (blk_drew BK366.out)
                                    have n1_ := Aside0.mk (blk_drew BK367.out)
                                    have n2_ := Aside0.mk (blk_drew BK371.out)
                                    have n3_ := Aside0.mk (blk_drew BK372.out)
                                    have n4_ := Aside0.mk (below_drew1 HB.out)
                                    clear BK366
                                    clear BK367
                                    clear BK371
                                    clear BK372
                                    clear HB
                                    have BK366 := n0_
                                    have BK367 := n1_
                                    have BK371 := n2_
                                    have BK372 := n3_
                                    have HB := n4_
                                    clear n0_ n1_ n2_ n3_ n4_
                                    have p373 : 0 ≤ (x8_4 : Int) := of_decide_eq_true (by first | (with_reducible assumption) | assumption)
                                    have q373 : x8_4 < (((rd_T44 l0_2 x5_2).f3).length : Int) := of_decide_eq_true (by first | (with_reducible assumption) | assumption)
                                    obtain ⟨ad373, e373, hx373_0, hx373_1⟩ := at_T41 HR369_3.out x8_4 p373 q373
                                    have hw373_1 := hx373_1
                                    have hw373_0 := hx373_0
                                    cases e373
                                    replace hx373_0 := (HB.out.cell (World.block_lt_of_cell? w _ hx373_0)).trans hx373_0
                                    replace hx373_1 := (HB.out.cell (World.block_lt_of_cell? w _ hx373_1)).trans hx373_1
                                    replace p373 := eq_true p373
                                    replace q373 := eq_true q373
                                    have p374 : 0 ≤ (x8_4 : Int) := of_decide_eq_true (by first | (with_reducible assumption) | assumption)
                                    have q374 : x8_4 < (((rd_T44 l1_2 x5_2).f3).length : Int) := of_decide_eq_true (by first | (with_reducible assumption) | assumption)
                                    obtain ⟨ad374, e374, hx374_0, hx374_1⟩ := at_T41 HR370_3.out x8_4 p374 q374
                                    have hw374_1 := hx374_1
                                    have hw374_0 := hx374_0
                                    cases e374
                                    replace hx374_0 := (HB.out.cell (World.block_lt_of_cell? w _ hx374_0)).trans hx374_0
                                    replace hx374_1 := (HB.out.cell (World.block_lt_of_cell? w _ hx374_1)).trans hx374_1
                                    replace p374 := eq_true p374
                                    replace q374 := eq_true q374
                                    refine start_ (n := 11) (S := fun w' => w'.cell? ⟨gb371, 0, none⟩ = some (.int .i64 ((rd_T44 l0_2 x5_2).f0)) ∧ w'.cell? ⟨gb371, 1, none⟩ = some (.int .i64 ((rd_T44 l0_2 x5_2).f1)) ∧ w'.cell? ⟨gb371, 2, none⟩ = some (.int .i64 ((rd_T44 l0_2 x5_2).f2)) ∧ w'.cell? ⟨gb371, 3, none⟩ = some (.slice (some ad373) ((rd_T44 l0_2 x5_2).f3).length c369_3) ∧ w'.cell? ⟨gb372, 0, none⟩ = some (.int .i64 ((rd_T44 l1_2 x5_2).f0)) ∧ w'.cell? ⟨gb372, 1, none⟩ = some (.int .i64 ((rd_T44 l1_2 x5_2).f1)) ∧ w'.cell? ⟨gb372, 2, none⟩ = some (.int .i64 ((rd_T44 l1_2 x5_2).f2)) ∧ w'.cell? ⟨gb372, 3, none⟩ = some (.slice (some ad374) ((rd_T44 l1_2 x5_2).f3).length c370_3) ∧ w'.cell? (ad373.add ((x8_4).toNat * 2)) = some (.int .i64 ((rd_T41 ((rd_T44 l0_2 x5_2).f3) x8_4).f0)) ∧ w'.cell? ⟨(ad373.add ((x8_4).toNat * 2)).block, (ad373.add ((x8_4).toNat * 2)).off + 1, none⟩ = some (.int .i64 ((rd_T41 ((rd_T44 l0_2 x5_2).f3) x8_4).f1)) ∧ w'.cell? (ad374.add ((x8_4).toNat * 2)) = some (.int .i64 ((rd_T41 ((rd_T44 l1_2 x5_2).f3) x8_4).f0)) ∧ w'.cell? ⟨(ad374.add ((x8_4).toNat * 2)).block, (ad374.add ((x8_4).toNat * 2)).off + 1, none⟩ = some (.int .i64 ((rd_T41 ((rd_T44 l1_2 x5_2).f3) x8_4).f1))) (ds := []) #[false, false, false, false, false, false, false, false, false, false, false] (by kernel_rfl) rfl rfl ⟨(blk_cell BK371.out 0).trans rfl, (blk_cell BK371.out 1).trans rfl, (blk_cell BK371.out 2).trans rfl, (blk_cell BK371.out 3).trans rfl, (blk_cell BK372.out 0).trans rfl, (blk_cell BK372.out 1).trans rfl, (blk_cell BK372.out 2).trans rfl, (blk_cell BK372.out 3).trans rfl, ((HB.out.cell (World.block_lt_of_cell? w _ hw373_0)).trans hw373_0), ((HB.out.cell (World.block_lt_of_cell? w _ hw373_1)).trans hw373_1), ((HB.out.cell (World.block_lt_of_cell? w _ hw374_0)).trans hw374_0), ((HB.out.cell (World.block_lt_of_cell? w _ hw374_1)).trans hw374_1)⟩ (fun hHeld => ?_); refine with_tabW casementref12_Same.tab12 casementref12_Same.bits12 (fun HT_ HW_ => ?_)
                                    generalize wr.drew = w82 at BK366 BK367 BK371 BK372 HB hx373_0 hx373_1 hx374_0 hx374_1 hHeld ⊢
                                    refine pure_ (i := 0) (N := some 83) (v := ?_) (a' := ?_) #[true, false, false, false, false, false, false, false, false, false, false] rfl rfl (any_of HT_.out (by kernel_rfl)) (fun _ _ _ h => h) (Or.inl ⟨by rfl, ?_⟩) ?_ ?_
                                    rotate_left
                                    · intro w'
                                      go_simp
                                      with_reducible rfl
                                    rotate_left
                                    · simp only [Act.put, List.setIfInBounds_toArray, List.set_cons_zero, List.set_cons_succ, i64_w, i32_w]
                                      rfl
                                    refine pure_ (i := 2) (N := some 85) (v := ?_) (a' := ?_) #[true, false, true, false, false, false, false, false, false, false, false] rfl rfl (any_of HT_.out (by kernel_rfl)) (fun _ _ _ h => h) (Or.inl ⟨by rfl, ?_⟩) ?_ ?_
                                    rotate_left
                                    · intro w'
                                      go_simp
                                      with_reducible rfl
                                    rotate_left
                                    · simp only [Act.put, List.setIfInBounds_toArray, List.set_cons_zero, List.set_cons_succ, i64_w, i32_w]
                                      rfl
                                    refine pure_ (i := 5) (N := some 88) (v := ?_) (a' := ?_) #[true, false, true, false, false, true, false, false, false, false, false] rfl rfl (any_of HT_.out (by kernel_rfl)) (fun _ _ _ h => h) (Or.inl ⟨by rfl, ?_⟩) ?_ ?_
                                    rotate_left
                                    · intro w'
                                      go_simp
                                      with_reducible rfl
                                    rotate_left
                                    · simp only [Act.put, List.setIfInBounds_toArray, List.set_cons_zero, List.set_cons_succ, i64_w, i32_w]
                                      rfl
                                    refine pure_ (i := 7) (N := some 90) (v := ?_) (a' := ?_) #[true, false, true, false, false, true, false, true, false, false, false] rfl rfl (any_of HT_.out (by kernel_rfl)) (fun _ _ _ h => h) (Or.inl ⟨by rfl, ?_⟩) ?_ ?_
                                    rotate_left
                                    · intro w'
                                      go_simp
                                      with_reducible rfl
                                    rotate_left
                                    · simp only [Act.put, List.setIfInBounds_toArray, List.set_cons_zero, List.set_cons_succ, i64_w, i32_w]
                                      rfl
                                    refine take_ (i := 1) (N := some 84) (v := ?_) (a' := ?_) #[true, true, true, false, false, true, false, true, false, false, false] rfl rfl (take_ofW HT_.out HW_.out (by kernel_rfl)) (fun _ _ _ h => h) (Or.inl ⟨by rfl, ?_⟩) hHeld ?_ ?_
                                    rotate_left
                                    · rintro w' ⟨s0, s1, s2, s3, s4, s5, s6, s7, s8, s9, s10, s11⟩
                                      go_simp
                                      with_reducible rfl
                                    rotate_left
                                    · simp only [Act.put, List.setIfInBounds_toArray, List.set_cons_zero, List.set_cons_succ, i64_w, i32_w]
                                      rfl
                                    refine pure_ (i := 3) (N := some 86) (v := ?_) (a' := ?_) #[true, true, true, true, false, true, false, true, false, false, false] rfl rfl (any_of HT_.out (by kernel_rfl)) (fun _ _ _ h => h) (Or.inl ⟨by rfl, ?_⟩) ?_ ?_
                                    rotate_left
                                    · intro w'
                                      go_simp
                                      with_reducible rfl
                                    rotate_left
                                    · simp only [Act.put, List.setIfInBounds_toArray, List.set_cons_zero, List.set_cons_succ, i64_w, i32_w]
                                      rfl
                                    refine take_ (i := 4) (N := some 87) (v := ?_) (a' := ?_) #[true, true, true, true, true, true, false, true, false, false, false] rfl rfl (take_ofW HT_.out HW_.out (by kernel_rfl)) (fun _ _ _ h => h) (Or.inl ⟨by rfl, ?_⟩) hHeld ?_ ?_
                                    rotate_left
                                    · rintro w' ⟨s0, s1, s2, s3, s4, s5, s6, s7, s8, s9, s10, s11⟩
                                      go_simp
                                      with_reducible rfl
                                    rotate_left
                                    · simp only [Act.put, List.setIfInBounds_toArray, List.set_cons_zero, List.set_cons_succ, i64_w, i32_w]
                                      rfl
                                    refine take_ (i := 6) (N := some 89) (v := ?_) (a' := ?_) #[true, true, true, true, true, true, true, true, false, false, false] rfl rfl (take_ofW HT_.out HW_.out (by kernel_rfl)) (fun _ _ _ h => h) (Or.inl ⟨by rfl, ?_⟩) hHeld ?_ ?_
                                    rotate_left
                                    · rintro w' ⟨s0, s1, s2, s3, s4, s5, s6, s7, s8, s9, s10, s11⟩
                                      go_simp
                                      with_reducible rfl
                                    rotate_left
                                    · simp only [Act.put, List.setIfInBounds_toArray, List.set_cons_zero, List.set_cons_succ, i64_w, i32_w]
                                      rfl
                                    refine pure_ (i := 8) (N := some 91) (v := ?_) (a' := ?_) #[true, true, true, true, true, true, true, true, true, false, false] rfl rfl (any_of HT_.out (by kernel_rfl)) (fun _ _ _ h => h) (Or.inl ⟨by rfl, ?_⟩) ?_ ?_
                                    rotate_left
                                    · intro w'
                                      go_simp
                                      with_reducible rfl
                                    rotate_left
                                    · simp only [Act.put, List.setIfInBounds_toArray, List.set_cons_zero, List.set_cons_succ, i64_w, i32_w]
                                      rfl
                                    refine take_ (i := 9) (N := some 92) (v := ?_) (a' := ?_) #[true, true, true, true, true, true, true, true, true, true, false] rfl rfl (take_ofW HT_.out HW_.out (by kernel_rfl)) (fun _ _ _ h => h) (Or.inl ⟨by rfl, ?_⟩) hHeld ?_ ?_
                                    rotate_left
                                    · rintro w' ⟨s0, s1, s2, s3, s4, s5, s6, s7, s8, s9, s10, s11⟩
                                      go_simp
                                      with_reducible rfl
                                    rotate_left
                                    · simp only [Act.put, List.setIfInBounds_toArray, List.set_cons_zero, List.set_cons_succ, i64_w, i32_w]
                                      rfl
                                    refine pure_ (i := 10) (N := some 93) (v := ?_) (a' := ?_) #[true, true, true, true, true, true, true, true, true, true, true] rfl rfl (any_of HT_.out (by kernel_rfl)) (fun _ _ _ h => h) (Or.inl ⟨by rfl, ?_⟩) ?_ ?_
                                    rotate_left
                                    · intro w'
                                      go_simp
                                      with_reducible rfl
                                    rotate_left
                                    · simp only [Act.put, List.setIfInBounds_toArray, List.set_cons_zero, List.set_cons_succ, i64_w, i32_w]
                                      rfl
                                    refine done_ (done_of HT_.out (by kernel_rfl)) ?_
                                    try go_wp2
                                    go_roundg k4
                                    case measure => have := HJ2.out; have := HK2.out; have := HJ21.out; have := HK4.out; omega
                                    case rel => exact ⟨(wrap64 (x8_4 + 1)), (by first | rfl | (simp; done) | (simp [*]; done)), H', ⟨by have := HJ2.out; have := HK2.out; have := HJ21.out; have := HK4.out; omega⟩, ⟨by (with_reducible repeat (first | refine blk_drewN ?_ _ | refine blk_drew ?_ | refine blk_alloc ?_ _)); exact BK366.out⟩, ⟨by (with_reducible repeat (first | refine blk_drewN ?_ _ | refine blk_drew ?_ | refine blk_alloc ?_ _)); exact BK367.out⟩, ⟨by (with_reducible repeat (first | refine blk_drewN ?_ _ | refine blk_drew ?_ | refine blk_alloc ?_ _)); exact BK371.out⟩, ⟨by (with_reducible repeat (first | refine blk_drewN ?_ _ | refine blk_drew ?_ | refine blk_alloc ?_ _)); exact BK372.out⟩, ⟨by repeat (first | (with_reducible first | exact HB.out | apply below_alloc | apply pw_below_drewN | apply below_drew1 | refine below_set ?_ GE366.out | refine below_set ?_ GE367.out | refine below_set ?_ GE371.out | refine below_set ?_ GE372.out) | exact HB.out)⟩⟩
                                · rw [if_neg c71] at H
                                  exact absurd H (by simp)
                              · rw [if_neg c70] at H
                                exact absurd H (by simp)
                            · rw [if_neg c69] at H
                              have c69b0 : decide (x8_4 < (((rd_T44 l0_2 x5_2).f3).length : Int)) = false := decide_eq_false c69
                              clear c69
                              have H' := Aside0.mk H
                              clear H
                              have hnb83 := NB371_366.out
                              have hnc83 := NB366_371.out
                              have hnb84 := NB371_367.out
                              have hnc84 := NB367_371.out
                              have hnb85 := NB371_372.out
                              have hnc85 := NB372_371.out
                              have hcz86_0 : wr.cell? ⟨gb371, 0, none⟩ = some (.int .i64 ((rd_T44 l0_2 x5_2).f0)) := (blk_cell BK371.out 0).trans rfl
                              have hcz86_1 : wr.cell? ⟨gb371, 1, none⟩ = some (.int .i64 ((rd_T44 l0_2 x5_2).f1)) := (blk_cell BK371.out 1).trans rfl
                              have hcz86_2 : wr.cell? ⟨gb371, 2, none⟩ = some (.int .i64 ((rd_T44 l0_2 x5_2).f2)) := (blk_cell BK371.out 2).trans rfl
                              have hcz86_3 : wr.cell? ⟨gb371, 3, none⟩ = some (.slice A369_3 ((rd_T44 l0_2 x5_2).f3).length c369_3) := (blk_cell BK371.out 3).trans rfl
                              have hfz86_0 := blk_frozen BK371.out 0
                              have hfz86_1 := blk_frozen BK371.out 1
                              have hfz86_2 := blk_frozen BK371.out 2
                              have hfz86_3 := blk_frozen BK371.out 3
                              go_wp2
                              go_roundg k4
                              case measure => have := HJ2.out; have := HK2.out; have := HJ21.out; have := HK4.out; omega
                              case rel => exact ⟨(wrap64 (x5_2 + 1)), (by first | rfl | (simp; done) | (simp [*]; done)), H', ⟨by have := HJ2.out; have := HK2.out; have := HJ21.out; have := HK4.out; omega⟩, ⟨by (with_reducible repeat (first | refine blk_drewN ?_ _ | refine blk_drew ?_ | refine blk_alloc ?_ _)); exact BK366.out⟩, ⟨by (with_reducible repeat (first | refine blk_drewN ?_ _ | refine blk_drew ?_ | refine blk_alloc ?_ _)); exact BK367.out⟩, ⟨by repeat (first | (with_reducible first | exact HB.out | apply below_alloc | apply pw_below_drewN | apply below_drew1 | refine below_set ?_ GE366.out | refine below_set ?_ GE367.out | refine below_set ?_ GE371.out | refine below_set ?_ GE372.out) | exact HB.out)⟩⟩
                · rw [if_neg c21] at H
                  exact absurd H (by simp)
              · rw [if_neg c20] at H
                exact absurd H (by simp)
            · rw [if_neg c19] at H
              have c19b0 : decide (x5_2 < (l0_2.length : Int)) = false := decide_eq_false c19
              clear c19
              obtain rfl := Option.some.inj H
              have hnb87 := NB366_367.out
              have hnc87 := NB367_366.out
              have hcz88_0 : wr.cell? ⟨gb366, 0, none⟩ = some (.int .i64 a0_0) := (blk_cell BK366.out 0).trans rfl
              have hcz88_1 : wr.cell? ⟨gb366, 1, none⟩ = some (.slice A0_1 l0_1.length c0_1) := (blk_cell BK366.out 1).trans rfl
              have hcz88_2 : wr.cell? ⟨gb366, 2, none⟩ = some (.slice A0_2 l0_2.length c0_2) := (blk_cell BK366.out 2).trans rfl
              have hfz88_0 := blk_frozen BK366.out 0
              have hfz88_1 := blk_frozen BK366.out 1
              have hfz88_2 := blk_frozen BK366.out 2
              go_wp2
              go_ret
              exact ⟨by first | rfl | (simp [errW_none, errW_some] <;> rfl) | (simp [*, errW_none, errW_some] <;> rfl), by repeat (first | (with_reducible first | exact HB.out | apply below_alloc | apply pw_below_drewN | apply below_drew1 | refine below_set ?_ GE366.out | refine below_set ?_ GE367.out) | exact HB.out)⟩

end Go.Proofs.Ytbdkphjpdoajpaa.Q
