-- written by a program of this session after the way of the kit's print; not the kit's own print. Lean checks it.
import Derived.Test.YtbdkphjpdoajpaaQx0
import Derived.Test.YtbdkphjpdoajpaaQx16
import Derived.Test.YtbdkphjpdoajpaaQx24
import Derived.Test.YtbdkphjpdoajpaaQx25
import Derived.Test.YtbdkphjpdoajpaaQx26
namespace Go.Proofs.Ytbdkphjpdoajpaa.Q
open Go.RowKit Go.Proofs.YtbdkphjpdoajpaaW.PrintWords Go.Proofs.YtbdkphjpdoajpaaW.PrintLast Go.Proofs.YtbdkphjpdoajpaaW.PrintMore
attribute [local go_sem] max2_int min2_int max_two min_two max_three min_three max_four min_four   -- for this text's walks alone
set_option linter.unusedVariables false
set_option linter.unusedSimpArgs false

/-! ### casementref12_Bytes: function 26 -/
mutual
def casementref12_Bytes.l0 : Nat → List Int → Int → Int → List Int → List (S44) → Option (List Int)
  | 0, _, _, _, _, _ => none
  | k + 1, x3, x4, x410000, x410001, x410002 => if x4 < (x410002.length : Int) then (if 0 ≤ x4 then ((some (([((rd_T44 x410002 x4).f0) % 256, ((rd_T44 x410002 x4).f1) % 256, ((rd_T44 x410002 x4).f2) % 256] : List Int) : List Int)).bind fun y433 => (if x3.length + y433.length < 140737488355328 then ((casementref12_two.f (((rd_T44 x410002 x4).f3).length : Int)).bind fun t439 => ((casementref12_join.f k (x3 ++ y433) t439).bind fun t442 => (casementref12_Bytes.l1 k t442 x4 0 x410000 x410001 x410002 ((rd_T44 x410002 x4).f0) ((rd_T44 x410002 x4).f1) ((rd_T44 x410002 x4).f2) ((rd_T44 x410002 x4).f3)))) else (none))) else (none)) else (some x3)
def casementref12_Bytes.l1 : Nat → List Int → Int → Int → Int → List Int → List (S44) → Int → Int → Int → List (S41) → Option (List Int)
  | 0, _, _, _, _, _, _, _, _, _, _ => none
  | k + 1, x3, x4, x6, x410000, x410001, x410002, x433000, x433001, x433002, x433003 => if x6 < (x433003.length : Int) then (if 0 ≤ x6 then (if x3.length < 140737488355328 then ((some (x3 ++ [((rd_T41 x433003 x6).f0) % 256] : List Int)).bind fun y446 => ((casementref12_Has.f ((rd_T41 x433003 x6).f0)).bind fun t450 => (if t450 = true then ((casementref12_Number.f k ((rd_T41 x433003 x6).f1)).bind fun t452 => ((casementref12_join.f k y446 t452).bind fun t455 => (casementref12_Bytes.l1 k t455 x4 (wrap64 (x6 + 1)) x410000 x410001 x410002 x433000 x433001 x433002 x433003))) else (casementref12_Bytes.l1 k y446 x4 (wrap64 (x6 + 1)) x410000 x410001 x410002 x433000 x433001 x433002 x433003)))) else (none)) else (none)) else (casementref12_Bytes.l0 k x3 (wrap64 (x4 + 1)) x410000 x410001 x410002)
end
def casementref12_Bytes.f (k : Nat) (a0_0 : Int) (l0_1 : List Int) (l0_2 : List (S44)) : Option (List Int) := (casementref12_two.f a0_0).bind fun t413 => ((casementref12_join.f k (([67, 83, 77, 1] : List Int)) t413).bind fun t416 => ((casementref12_two.f (l0_1.length : Int)).bind fun t419 => ((casementref12_join.f k t416 t419).bind fun t422 => ((casementref12_join.f k t422 l0_1).bind fun t425 => (if t425.length < 140737488355328 then (casementref12_Bytes.l0 k (t425 ++ [((l0_2.length : Int)) % 256]) 0 a0_0 l0_1 l0_2) else (none))))))
theorem casementref12_Bytes.mono_l : ∀ k, (∀ y0 y1 y2 y3 y4, LeO (casementref12_Bytes.l0 k y0 y1 y2 y3 y4) (casementref12_Bytes.l0 (k + 1) y0 y1 y2 y3 y4)) ∧ (∀ y0 y1 y2 y3 y4 y5 y6 y7 y8 y9, LeO (casementref12_Bytes.l1 k y0 y1 y2 y3 y4 y5 y6 y7 y8 y9) (casementref12_Bytes.l1 (k + 1) y0 y1 y2 y3 y4 y5 y6 y7 y8 y9))
  | 0 => ⟨fun _ _ _ _ _ r h => by simp [casementref12_Bytes.l0] at h, fun _ _ _ _ _ _ _ _ _ _ r h => by simp [casementref12_Bytes.l1] at h⟩
  | k + 1 => by
    obtain ⟨ih0, ih1⟩ := casementref12_Bytes.mono_l k
    refine ⟨?_, ?_⟩
    · intro y0 y1 y2 y3 y4
      unfold casementref12_Bytes.l0
      repeat' first
      | (with_reducible exact ih0 _ _ _ _ _)
      | (with_reducible exact ih1 _ _ _ _ _ _ _ _ _ _)
      | (with_reducible exact casementref12_Number.mono _ _)
      | (with_reducible exact casementref12_join.mono _ _ _)
      | (with_reducible exact LeO.refl _)
      | (with_reducible exact LeO.none _)
      | (with_reducible refine LeO.ite ?_ ?_)
      | (with_reducible refine LeO.bind ?_ (fun _ => ?_))
      | exact ih0 _ _ _ _ _
      | exact ih1 _ _ _ _ _ _ _ _ _ _
      | exact casementref12_Number.mono _ _
      | exact casementref12_join.mono _ _ _
      | exact LeO.none _
      | refine LeO.ite ?_ ?_
      | refine LeO.bind ?_ (fun _ => ?_)
    · intro y0 y1 y2 y3 y4 y5 y6 y7 y8 y9
      unfold casementref12_Bytes.l1
      repeat' first
      | (with_reducible exact ih0 _ _ _ _ _)
      | (with_reducible exact ih1 _ _ _ _ _ _ _ _ _ _)
      | (with_reducible exact casementref12_Number.mono _ _)
      | (with_reducible exact casementref12_join.mono _ _ _)
      | (with_reducible exact LeO.refl _)
      | (with_reducible exact LeO.none _)
      | (with_reducible refine LeO.ite ?_ ?_)
      | (with_reducible refine LeO.bind ?_ (fun _ => ?_))
      | exact ih0 _ _ _ _ _
      | exact ih1 _ _ _ _ _ _ _ _ _ _
      | exact casementref12_Number.mono _ _
      | exact casementref12_join.mono _ _ _
      | exact LeO.none _
      | refine LeO.ite ?_ ?_
      | refine LeO.bind ?_ (fun _ => ?_)
theorem casementref12_Bytes.mono : ∀ a0 a1 a2 k, LeO (casementref12_Bytes.f k a0 a1 a2) (casementref12_Bytes.f (k + 1) a0 a1 a2) := by
  intro a0 a1 a2 k
  obtain ⟨ih0, ih1⟩ := casementref12_Bytes.mono_l k
  unfold casementref12_Bytes.f
  repeat' first
      | (with_reducible exact ih0 _ _ _ _ _)
      | (with_reducible exact ih1 _ _ _ _ _ _ _ _ _ _)
      | (with_reducible exact casementref12_Number.mono _ _)
      | (with_reducible exact casementref12_join.mono _ _ _)
      | (with_reducible exact LeO.refl _)
      | (with_reducible exact LeO.none _)
      | (with_reducible refine LeO.ite ?_ ?_)
      | (with_reducible refine LeO.bind ?_ (fun _ => ?_))
      | exact ih0 _ _ _ _ _
      | exact ih1 _ _ _ _ _ _ _ _ _ _
      | exact casementref12_Number.mono _ _
      | exact casementref12_join.mono _ _ _
      | exact LeO.none _
      | refine LeO.ite ?_ ?_
      | refine LeO.bind ?_ (fun _ => ?_)
set_option maxHeartbeats 8000000 in
set_option maxRecDepth 100000 in
theorem casementref12_Bytes.calls (k : Nat) (a0_0 : Int) (A0_1 : Option Addr) (c0_1 : Nat) (l0_1 : List Int) (A0_2 : Option Addr) (c0_2 : Nat) (l0_2 : List (S44)) (r : List Int) (w : World) (hr0_1 : Kd.C (Kd.int .u8) w A0_1 l0_1.length l0_1) (hc0_1 : l0_1.length ≤ c0_1) (hr0_2 : Kd.C k44 w A0_2 l0_2.length l0_2) (hc0_2 : l0_2.length ≤ c0_2) (h : casementref12_Bytes.f k a0_0 l0_1 l0_2 = some r) :
    Calls Try.prog 26 #[.agg #[.int .i64 a0_0, .slice A0_1 l0_1.length c0_1, .slice A0_2 l0_2.length c0_2]] w fun e w' => ∃ v0_ : Value, e = .returned (v0_) ∧ Kd.R (Kd.int .u8) 5 w' w.heap.size (fun _ => True) v0_ r ∧ Below w.heap.size w w' := by
  have hu26 := Try.underlying26
  have hu44 := Try.underlying44
  have HR0_1 := Aside0.mk hr0_1
  have HC0_1 := Aside0.mk hc0_1
  clear hr0_1 hc0_1
  have HR0_2 := Aside0.mk hr0_2
  have HC0_2 := Aside0.mk hc0_2
  clear hr0_2 hc0_2
  have HB := Aside0.mk (Below.refl w.heap.size w)
  have H : ((casementref12_two.f a0_0).bind fun t413 => ((casementref12_join.f k (([67, 83, 77, 1] : List Int)) t413).bind fun t416 => ((casementref12_two.f (l0_1.length : Int)).bind fun t419 => ((casementref12_join.f k t416 t419).bind fun t422 => ((casementref12_join.f k t422 l0_1).bind fun t425 => (if t425.length < 140737488355328 then (casementref12_Bytes.l0 k (t425 ++ [((l0_2.length : Int)) % 256]) 0 a0_0 l0_1 l0_2) else (none))))))) = some r := h
  clear h
  obtain ⟨y410, hy410⟩ : ∃ y_ : List Int, y_ = (([67, 83, 77, 1] : List Int)) := ⟨_, rfl⟩
  replace H : ((casementref12_two.f a0_0).bind fun t413 => ((casementref12_join.f k y410 t413).bind fun t416 => ((casementref12_two.f (l0_1.length : Int)).bind fun t419 => ((casementref12_join.f k t416 t419).bind fun t422 => ((casementref12_join.f k t422 l0_1).bind fun t425 => (if t425.length < 140737488355328 then (casementref12_Bytes.l0 k (t425 ++ [((l0_2.length : Int)) % 256]) 0 a0_0 l0_1 l0_2) else (none))))))) = some r := by first | (rw [hy410]; with_reducible exact H) | (have H2_ := (Option.bind_some _ _).symm.trans H; rw [hy410]; with_reducible exact H2_) | (have H2_ := (Option.bind_some _ _).symm.trans H; with_reducible exact H2_) | with_reducible exact H | (rw [hy410]; exact H) | exact H
  have Ny410 := Aside0.mk hy410
  clear hy410
  replace H := Option.bind_eq_some_iff.mp H
  obtain ⟨t413, A20, H⟩ := H
  replace H : ((casementref12_join.f k y410 t413).bind fun t416 => ((casementref12_two.f (l0_1.length : Int)).bind fun t419 => ((casementref12_join.f k t416 t419).bind fun t422 => ((casementref12_join.f k t422 l0_1).bind fun t425 => (if t425.length < 140737488355328 then (casementref12_Bytes.l0 k (t425 ++ [((l0_2.length : Int)) % 256]) 0 a0_0 l0_1 l0_2) else (none)))))) = some r := H
  have A2 := Aside0.mk A20
  clear A20
  replace H := Option.bind_eq_some_iff.mp H
  obtain ⟨t416, A30, H⟩ := H
  replace H : ((casementref12_two.f (l0_1.length : Int)).bind fun t419 => ((casementref12_join.f k t416 t419).bind fun t422 => ((casementref12_join.f k t422 l0_1).bind fun t425 => (if t425.length < 140737488355328 then (casementref12_Bytes.l0 k (t425 ++ [((l0_2.length : Int)) % 256]) 0 a0_0 l0_1 l0_2) else (none))))) = some r := H
  have A3 := Aside0.mk A30
  clear A30
  replace H := Option.bind_eq_some_iff.mp H
  obtain ⟨t419, A40, H⟩ := H
  replace H : ((casementref12_join.f k t416 t419).bind fun t422 => ((casementref12_join.f k t422 l0_1).bind fun t425 => (if t425.length < 140737488355328 then (casementref12_Bytes.l0 k (t425 ++ [((l0_2.length : Int)) % 256]) 0 a0_0 l0_1 l0_2) else (none)))) = some r := H
  have A4 := Aside0.mk A40
  clear A40
  replace H := Option.bind_eq_some_iff.mp H
  obtain ⟨t422, A50, H⟩ := H
  replace H : ((casementref12_join.f k t422 l0_1).bind fun t425 => (if t425.length < 140737488355328 then (casementref12_Bytes.l0 k (t425 ++ [((l0_2.length : Int)) % 256]) 0 a0_0 l0_1 l0_2) else (none))) = some r := H
  have A5 := Aside0.mk A50
  clear A50
  replace H := Option.bind_eq_some_iff.mp H
  obtain ⟨t425, A60, H⟩ := H
  replace H : (if t425.length < 140737488355328 then (casementref12_Bytes.l0 k (t425 ++ [((l0_2.length : Int)) % 256]) 0 a0_0 l0_1 l0_2) else (none)) = some r := H
  have A6 := Aside0.mk A60
  clear A60
  by_cases c7 : t425.length < 140737488355328
  · rw [if_pos c7] at H
    have LMc7 := Aside0.mk c7
    clear c7
    obtain ⟨y428, hy428⟩ : ∃ y_ : List Int, y_ = (t425 ++ [((l0_2.length : Int)) % 256]) := ⟨_, rfl⟩
    replace H : (casementref12_Bytes.l0 k y428 0 a0_0 l0_1 l0_2) = some r := by first | (rw [hy428]; with_reducible exact H) | (have H2_ := (Option.bind_some _ _).symm.trans H; rw [hy428]; with_reducible exact H2_) | (have H2_ := (Option.bind_some _ _).symm.trans H; with_reducible exact H2_) | with_reducible exact H | (rw [hy428]; exact H) | exact H
    have Ny428 := Aside0.mk hy428
    clear hy428
    have H' := Aside0.mk H
    clear H
    go_enter Try.func26, Try.ntmps26
    go_wp2_with (first | ((with_reducible refine gate_dst (N := 1) rfl ?_); refine box_event ?hg (N := 1) ?hd (cs := #[.int .i64 a0_0, .slice A0_1 l0_1.length c0_1, .slice A0_2 l0_2.length c0_2]) (t := 26) ?hr ?_; (case hd => rfl); (case hg => rfl); (case hr => first | (go_simp; done) | (go_simp; rfl)); intro gb409 hg w8 hbox hb; have n0_ := Aside0.mk (below_step (by repeat (first | (with_reducible first | exact HB.out | apply below_alloc | apply pw_below_drewN | apply below_drew1) | exact HB.out)) hb); have n1_ := Aside0.mk (hbox); have n2_ := Aside0.mk ((by rw [hg]; exact (below_size (by repeat (first | (with_reducible first | exact HB.out | apply below_alloc | apply pw_below_drewN | apply below_drew1) | exact HB.out))) : w.heap.size ≤ gb409)); have n3_ := Aside0.mk ((by rw [hg]; exact (below_size (by repeat (first | (with_reducible first | exact HB.out | apply below_alloc | apply pw_below_drewN | apply below_drew1) | exact HB.out))) : w.heap.size ≤ gb409)); clear HB; have HB := n0_; have BK409 := n1_; have GW409 := n2_; have GE409 := n3_; clear n0_ n1_ n2_ n3_; clear hb hbox hg) | ((with_reducible refine gate_dst (N := 7) rfl ?_); refine Kd.R_lit (Kd.int .u8) _ 5 ?hg (N := 7) ?hd (xs := ([67, 83, 77, 1] : List Int)) (inner := [.int .u8 67, .int .u8 83, .int .u8 77, .int .u8 1]) (ok := fun _ => True) (okp := fun _ => True) ?hr ?hp (fun _ hk => hk) trivial (Below.refl _ _) (Nat.le_refl _) (by simp) ?_; (case hd => rfl); (case hg => rfl); (case hr => first | (go_simp; done) | (go_simp; rfl)); (case hp => exact (Reps.one (show Kd.M (Kd.int .u8) _ _ _ 67 [.int .u8 67] from rfl) (Reps.one (show Kd.M (Kd.int .u8) _ _ _ 83 [.int .u8 83] from rfl) (Reps.one (show Kd.M (Kd.int .u8) _ _ _ 77 [.int .u8 77] from rfl) (Reps.one (show Kd.M (Kd.int .u8) _ _ _ 1 [.int .u8 1] from rfl) (Reps.none _ _)))))); intro v411 w9 ho10 hb hg_ hnew_; clear hg_ hnew_; (first | rw [← Ny410.out] at ho10 | (simp only [Int.reduceToNat] at ho10; rw [← Ny410.out] at ho10)); have n0_ := Aside0.mk (Kd.R_lower ho10 (below_size (by repeat (first | (with_reducible first | exact HB.out | apply below_alloc | apply pw_below_drewN | apply below_drew1 | refine below_set ?_ GE409.out) | exact HB.out)))); have n1_ := Aside0.mk (blk_below (g := gb409) (o := .cells #[.int .i64 a0_0, .slice A0_1 l0_1.length c0_1, .slice A0_2 l0_2.length c0_2] 26 (0, 0)) (by (with_reducible repeat (first | refine blk_drewN ?_ _ | refine blk_drew ?_ | refine blk_alloc ?_ _)); exact BK409.out) hb); have n2_ := Aside0.mk (below_step (by repeat (first | (with_reducible first | exact HB.out | apply below_alloc | apply pw_below_drewN | apply below_drew1 | refine below_set ?_ GE409.out) | exact HB.out)) hb); clear BK409; clear HB; have HO412 := n0_; have BK409 := n1_; have HB := n2_; clear n0_ n1_ n2_; clear hb ho10; have hcz11_0 : w9.cell? ⟨gb409, 0, none⟩ = some (.int .i64 a0_0) := (blk_cell BK409.out 0).trans rfl; have hcz11_1 : w9.cell? ⟨gb409, 1, none⟩ = some (.slice A0_1 l0_1.length c0_1) := (blk_cell BK409.out 1).trans rfl; have hcz11_2 : w9.cell? ⟨gb409, 2, none⟩ = some (.slice A0_2 l0_2.length c0_2) := (blk_cell BK409.out 2).trans rfl; have hfz11_0 := blk_frozen BK409.out 0; have hfz11_1 := blk_frozen BK409.out 1; have hfz11_2 := blk_frozen BK409.out 2) | ((with_reducible refine gate_callee (f := 32) rfl ?_); refine goesL_ (some 11) rfl rfl Try.func32 (by kernel_rfl) rfl #[.int .i64 a0_0] rfl (by (try simp only [List.map_toArray, List.map_cons, List.map_nil]); first | done | rfl | (simp only [List.length_drop, List.length_take]; rfl)) ?_; (with_reducible refine (casementref12_two.calls a0_0 t413 _ A2.out).mono ?_); rintro e w12 ⟨v414, rfl, ho0, hb⟩; refine ⟨_, rfl, ?_⟩; have n0_ := Aside0.mk (Kd.R_elder' (by (with_reducible repeat (first | apply Kd.R_alloc | apply Kd.R_drewN | apply Kd.R_drew)); exact HO412.out) (Kd.R_base ho0) hb); have n1_ := Aside0.mk (Kd.R_lower (Kd.R_new' ho0 (Kd.R_lt (by (with_reducible repeat (first | apply Kd.R_alloc | apply Kd.R_drewN | apply Kd.R_drew)); exact HO412.out))) (below_size (by repeat (first | (with_reducible first | exact HB.out | apply below_alloc | apply pw_below_drewN | apply below_drew1 | refine below_set ?_ GE409.out) | exact HB.out)))); have n2_ := Aside0.mk (blk_below (g := gb409) (o := .cells #[.int .i64 a0_0, .slice A0_1 l0_1.length c0_1, .slice A0_2 l0_2.length c0_2] 26 (0, 0)) (by (with_reducible repeat (first | refine blk_drewN ?_ _ | refine blk_drew ?_ | refine blk_alloc ?_ _)); exact BK409.out) hb); have n3_ := Aside0.mk (below_step (by repeat (first | (with_reducible first | exact HB.out | apply below_alloc | apply pw_below_drewN | apply below_drew1 | refine below_set ?_ GE409.out) | exact HB.out)) hb); clear HO412; clear BK409; clear HB; have HO412 := n0_; have HO415 := n1_; have BK409 := n2_; have HB := n3_; clear n0_ n1_ n2_ n3_; (try clear hb); (try clear hb2); (try clear hk); (try clear hi); (try clear ho0); obtain ⟨Ao13, co13, eo13⟩ := Kd.R_slice HO412.out; subst eo13; obtain ⟨Ao14, co14, eo14⟩ := Kd.R_slice HO415.out; subst eo14) | ((with_reducible refine gate_callee (f := 31) rfl ?_); refine goesL_ (some 12) rfl rfl Try.func31 (by kernel_rfl) rfl #[.slice Ao13 y410.length co13, .slice Ao14 t413.length co14] rfl (by (try simp only [List.map_toArray, List.map_cons, List.map_nil]); first | done | rfl | (simp only [List.length_drop, List.length_take]; rfl)) ?_; (with_reducible refine (casementref12_join.calls k (fun k_ => some k_ = (.slice Ao13 y410.length co13 : Value).ownBlock) (.slice Ao13 y410.length co13) y410 _ _ t413 t416 w _ ?side1 ?side2 ?side3 ?side4 A3.out).mono ?_); (case side1 => repeat (first | (with_reducible first | exact HB.out | apply below_alloc | apply pw_below_drewN | apply below_drew1 | refine below_set ?_ GE409.out) | exact HB.out)); (case side2 => exact Kd.R_tight rfl HO412.out); (case side3 => exact Kd.C_kept_own (HO415.out) (fun k_ hk_ hs_ => (hk_.2) hs_)); (case side4 => exact (Kd.R_reads' HO415.out).2.1); rintro e w15 ⟨v417, rfl, ho0, hb, hkp⟩; refine ⟨_, rfl, ?_⟩; have n0_ := Aside0.mk (blk_kept (by (with_reducible repeat (first | refine blk_drewN ?_ _ | refine blk_drew ?_ | refine blk_alloc ?_ _)); exact BK409.out) hkp (fun hs_ => (fun e_ => (Kd.R_ne HO412.out BK409.out (by decide)) e_) hs_)); have n1_ := Aside0.mk (Kd.R_mono (ok' := fun k_ => some k_ ≠ (v417 : Value).ownBlock) (Kd.R_keptB (HO415.out) hkp (fun k_ hk_ hs_ => (hk_.2) hs_)) (fun k_ hk_ => fun e_ => Or.elim (ho0.1 k_ e_.symm) (fun hs_ => hk_.2.1 hs_) (fun hn_ => Nat.not_le.2 hk_.2.2 hn_))); have n2_ := Aside0.mk (Kd.R_mono (ok' := fun k_ => some k_ ≠ (.slice Ao14 t413.length co14 : Value).ownBlock) ho0 (fun k_ hk_ => Or.elim hk_ (fun hs_ => fun e_ => (((HO415.out).1 k_ e_.symm).2) hs_) (fun hn_ => (Kd.fresh' (Kd.R_lt (by (with_reducible repeat (first | apply Kd.R_alloc | apply Kd.R_drewN | apply Kd.R_drew)); exact HO415.out)) k_ hn_)))); have n3_ := Aside0.mk (hb); clear BK409; clear HO415; clear HB; clear HO412; have BK409 := n0_; have HO415 := n1_; have HO418 := n2_; have HB := n3_; clear n0_ n1_ n2_ n3_; (try clear hb); (try clear hkp); (try clear ho0); have hcz16_0 : w15.cell? ⟨gb409, 0, none⟩ = some (.int .i64 a0_0) := (blk_cell BK409.out 0).trans rfl; have hcz16_1 : w15.cell? ⟨gb409, 1, none⟩ = some (.slice A0_1 l0_1.length c0_1) := (blk_cell BK409.out 1).trans rfl; have hcz16_2 : w15.cell? ⟨gb409, 2, none⟩ = some (.slice A0_2 l0_2.length c0_2) := (blk_cell BK409.out 2).trans rfl; have hfz16_0 := blk_frozen BK409.out 0; have hfz16_1 := blk_frozen BK409.out 1; have hfz16_2 := blk_frozen BK409.out 2) | ((with_reducible refine gate_callee (f := 32) rfl ?_); refine goesL_ (some 17) rfl rfl Try.func32 (by kernel_rfl) rfl #[.int .i64 (l0_1.length : Int)] rfl (by (try simp only [List.map_toArray, List.map_cons, List.map_nil]); first | done | rfl | (simp only [List.length_drop, List.length_take]; rfl)) ?_; (with_reducible refine (casementref12_two.calls (l0_1.length : Int) t419 _ A4.out).mono ?_); rintro e w17 ⟨v420, rfl, ho0, hb⟩; refine ⟨_, rfl, ?_⟩; have n0_ := Aside0.mk (Kd.R_elder' (by (with_reducible repeat (first | apply Kd.R_alloc | apply Kd.R_drewN | apply Kd.R_drew)); exact HO415.out) (Kd.R_base ho0) hb); have n1_ := Aside0.mk (Kd.R_elder' (by (with_reducible repeat (first | apply Kd.R_alloc | apply Kd.R_drewN | apply Kd.R_drew)); exact HO418.out) (Kd.R_base ho0) hb); have n2_ := Aside0.mk (Kd.R_lower (Kd.R_new' (Kd.R_new' ho0 (Kd.R_lt (by (with_reducible repeat (first | apply Kd.R_alloc | apply Kd.R_drewN | apply Kd.R_drew)); exact HO415.out))) (Kd.R_lt (by (with_reducible repeat (first | apply Kd.R_alloc | apply Kd.R_drewN | apply Kd.R_drew)); exact HO418.out))) (below_size (by repeat (first | (with_reducible first | exact HB.out | apply below_alloc | apply pw_below_drewN | apply below_drew1 | refine below_set ?_ GE409.out) | exact HB.out)))); have n3_ := Aside0.mk (blk_below (g := gb409) (o := .cells #[.int .i64 a0_0, .slice A0_1 l0_1.length c0_1, .slice A0_2 l0_2.length c0_2] 26 (0, 0)) (by (with_reducible repeat (first | refine blk_drewN ?_ _ | refine blk_drew ?_ | refine blk_alloc ?_ _)); exact BK409.out) hb); have n4_ := Aside0.mk (below_step (by repeat (first | (with_reducible first | exact HB.out | apply below_alloc | apply pw_below_drewN | apply below_drew1 | refine below_set ?_ GE409.out) | exact HB.out)) hb); clear HO415; clear HO418; clear BK409; clear HB; have HO415 := n0_; have HO418 := n1_; have HO421 := n2_; have BK409 := n3_; have HB := n4_; clear n0_ n1_ n2_ n3_ n4_; (try clear hb); (try clear hb2); (try clear hk); (try clear hi); (try clear ho0); obtain ⟨Ao18, co18, eo18⟩ := Kd.R_slice HO418.out; subst eo18; obtain ⟨Ao19, co19, eo19⟩ := Kd.R_slice HO421.out; subst eo19) | ((with_reducible refine gate_callee (f := 31) rfl ?_); refine goesL_ (some 18) rfl rfl Try.func31 (by kernel_rfl) rfl #[.slice Ao18 t416.length co18, .slice Ao19 t419.length co19] rfl (by (try simp only [List.map_toArray, List.map_cons, List.map_nil]); first | done | rfl | (simp only [List.length_drop, List.length_take]; rfl)) ?_; (with_reducible refine (casementref12_join.calls k (fun k_ => some k_ = (.slice Ao18 t416.length co18 : Value).ownBlock) (.slice Ao18 t416.length co18) t416 _ _ t419 t422 w _ ?side1 ?side2 ?side3 ?side4 A5.out).mono ?_); (case side1 => repeat (first | (with_reducible first | exact HB.out | apply below_alloc | apply pw_below_drewN | apply below_drew1 | refine below_set ?_ GE409.out) | exact HB.out)); (case side2 => exact Kd.R_tight rfl HO418.out); (case side3 => exact Kd.C_kept_own (HO421.out) (fun k_ hk_ hs_ => (hk_.2) hs_)); (case side4 => exact (Kd.R_reads' HO421.out).2.1); rintro e w20 ⟨v423, rfl, ho0, hb, hkp⟩; refine ⟨_, rfl, ?_⟩; have n0_ := Aside0.mk (blk_kept (by (with_reducible repeat (first | refine blk_drewN ?_ _ | refine blk_drew ?_ | refine blk_alloc ?_ _)); exact BK409.out) hkp (fun hs_ => (fun e_ => (Kd.R_ne HO418.out BK409.out (by decide)) e_) hs_)); have n1_ := Aside0.mk (Kd.R_mono (ok' := fun k_ => some k_ ≠ (.slice Ao19 t419.length co19 : Value).ownBlock ∧ some k_ ≠ (v423 : Value).ownBlock) (Kd.R_keptB (HO415.out) hkp (fun k_ hk_ hs_ => (hk_.1) hs_)) (fun k_ hk_ => ⟨hk_.1.2, fun e_ => Or.elim (ho0.1 k_ e_.symm) (fun hs_ => hk_.2.1 hs_) (fun hn_ => Nat.not_le.2 hk_.2.2 hn_)⟩)); have n2_ := Aside0.mk (Kd.R_mono (ok' := fun k_ => some k_ ≠ (.slice Ao14 t413.length co14 : Value).ownBlock ∧ some k_ ≠ (v423 : Value).ownBlock) (Kd.R_keptB (HO421.out) hkp (fun k_ hk_ hs_ => (hk_.2) hs_)) (fun k_ hk_ => ⟨hk_.1.1.2, fun e_ => Or.elim (ho0.1 k_ e_.symm) (fun hs_ => hk_.2.1 hs_) (fun hn_ => Nat.not_le.2 hk_.2.2 hn_)⟩)); have n3_ := Aside0.mk (Kd.R_mono (ok' := fun k_ => some k_ ≠ (.slice Ao14 t413.length co14 : Value).ownBlock ∧ some k_ ≠ (.slice Ao19 t419.length co19 : Value).ownBlock) ho0 (fun k_ hk_ => ⟨Or.elim hk_ (fun hs_ => fun e_ => (((HO415.out).1 k_ e_.symm).1) hs_) (fun hn_ => (Kd.fresh' (Kd.R_lt (by (with_reducible repeat (first | apply Kd.R_alloc | apply Kd.R_drewN | apply Kd.R_drew)); exact HO415.out)) k_ hn_)), Or.elim hk_ (fun hs_ => fun e_ => (((HO421.out).1 k_ e_.symm).2) hs_) (fun hn_ => (Kd.fresh' (Kd.R_lt (by (with_reducible repeat (first | apply Kd.R_alloc | apply Kd.R_drewN | apply Kd.R_drew)); exact HO421.out)) k_ hn_))⟩)); have n4_ := Aside0.mk (hb); clear BK409; clear HO415; clear HO421; clear HB; clear HO418; have BK409 := n0_; have HO415 := n1_; have HO421 := n2_; have HO424 := n3_; have HB := n4_; clear n0_ n1_ n2_ n3_ n4_; (try clear hb); (try clear hkp); (try clear ho0); have hcz21_0 : w20.cell? ⟨gb409, 0, none⟩ = some (.int .i64 a0_0) := (blk_cell BK409.out 0).trans rfl; have hcz21_1 : w20.cell? ⟨gb409, 1, none⟩ = some (.slice A0_1 l0_1.length c0_1) := (blk_cell BK409.out 1).trans rfl; have hcz21_2 : w20.cell? ⟨gb409, 2, none⟩ = some (.slice A0_2 l0_2.length c0_2) := (blk_cell BK409.out 2).trans rfl; have hfz21_0 := blk_frozen BK409.out 0; have hfz21_1 := blk_frozen BK409.out 1; have hfz21_2 := blk_frozen BK409.out 2; obtain ⟨Ao22, co22, eo22⟩ := Kd.R_slice HO424.out; subst eo22) | ((with_reducible refine gate_callee (f := 31) rfl ?_); refine goesL_ (some 22) rfl rfl Try.func31 (by kernel_rfl) rfl #[.slice Ao22 t422.length co22, .slice A0_1 l0_1.length c0_1] rfl (by (try simp only [List.map_toArray, List.map_cons, List.map_nil]); first | done | rfl | (simp only [List.length_drop, List.length_take]; rfl)) ?_; (with_reducible refine (casementref12_join.calls k (fun k_ => some k_ = (.slice Ao22 t422.length co22 : Value).ownBlock) (.slice Ao22 t422.length co22) t422 _ _ l0_1 t425 w _ ?side1 ?side2 ?side3 ?side4 A6.out).mono ?_); (case side1 => repeat (first | (with_reducible first | exact HB.out | apply below_alloc | apply pw_below_drewN | apply below_drew1 | refine below_set ?_ GE409.out) | exact HB.out)); (case side2 => exact Kd.R_tight rfl HO424.out); (case side3 => exact Kd.C_kept_came (Kd.heap_int .u8) HR0_1.out (by repeat (first | (with_reducible first | exact HB.out | apply below_alloc | apply pw_below_drewN | apply below_drew1 | refine below_set ?_ GE409.out) | exact HB.out)) (fun k_ hs_ => (fun e_ => Kd.R_base HO424.out k_ e_.symm) hs_)); (case side4 => exact HC0_1.out); rintro e w23 ⟨v426, rfl, ho0, hb, hkp⟩; refine ⟨_, rfl, ?_⟩; have n0_ := Aside0.mk (blk_kept (by (with_reducible repeat (first | refine blk_drewN ?_ _ | refine blk_drew ?_ | refine blk_alloc ?_ _)); exact BK409.out) hkp (fun hs_ => (fun e_ => (Kd.R_ne HO424.out BK409.out (by decide)) e_) hs_)); have n1_ := Aside0.mk (Kd.R_mono (ok' := fun k_ => some k_ ≠ (.slice Ao19 t419.length co19 : Value).ownBlock ∧ some k_ ≠ (v426 : Value).ownBlock) (Kd.R_keptB (HO415.out) hkp (fun k_ hk_ hs_ => (hk_.2) hs_)) (fun k_ hk_ => ⟨hk_.1.1, fun e_ => Or.elim (ho0.1 k_ e_.symm) (fun hs_ => hk_.2.1 hs_) (fun hn_ => Nat.not_le.2 hk_.2.2 hn_)⟩)); have n2_ := Aside0.mk (Kd.R_mono (ok' := fun k_ => some k_ ≠ (.slice Ao14 t413.length co14 : Value).ownBlock ∧ some k_ ≠ (v426 : Value).ownBlock) (Kd.R_keptB (HO421.out) hkp (fun k_ hk_ hs_ => (hk_.2) hs_)) (fun k_ hk_ => ⟨hk_.1.1, fun e_ => Or.elim (ho0.1 k_ e_.symm) (fun hs_ => hk_.2.1 hs_) (fun hn_ => Nat.not_le.2 hk_.2.2 hn_)⟩)); have n3_ := Aside0.mk (Kd.R_mono (ok' := fun k_ => some k_ ≠ (.slice Ao14 t413.length co14 : Value).ownBlock ∧ some k_ ≠ (.slice Ao19 t419.length co19 : Value).ownBlock) ho0 (fun k_ hk_ => ⟨Or.elim hk_ (fun hs_ => fun e_ => (((HO415.out).1 k_ e_.symm).2) hs_) (fun hn_ => (Kd.fresh' (Kd.R_lt (by (with_reducible repeat (first | apply Kd.R_alloc | apply Kd.R_drewN | apply Kd.R_drew)); exact HO415.out)) k_ hn_)), Or.elim hk_ (fun hs_ => fun e_ => (((HO421.out).1 k_ e_.symm).2) hs_) (fun hn_ => (Kd.fresh' (Kd.R_lt (by (with_reducible repeat (first | apply Kd.R_alloc | apply Kd.R_drewN | apply Kd.R_drew)); exact HO421.out)) k_ hn_))⟩)); have n4_ := Aside0.mk (hb); clear BK409; clear HO415; clear HO421; clear HB; clear HO424; have BK409 := n0_; have HO415 := n1_; have HO421 := n2_; have HO427 := n3_; have HB := n4_; clear n0_ n1_ n2_ n3_ n4_; (try clear hb); (try clear hkp); (try clear ho0); have hcz24_0 : w23.cell? ⟨gb409, 0, none⟩ = some (.int .i64 a0_0) := (blk_cell BK409.out 0).trans rfl; have hcz24_1 : w23.cell? ⟨gb409, 1, none⟩ = some (.slice A0_1 l0_1.length c0_1) := (blk_cell BK409.out 1).trans rfl; have hcz24_2 : w23.cell? ⟨gb409, 2, none⟩ = some (.slice A0_2 l0_2.length c0_2) := (blk_cell BK409.out 2).trans rfl; have hfz24_0 := blk_frozen BK409.out 0; have hfz24_1 := blk_frozen BK409.out 1; have hfz24_2 := blk_frozen BK409.out 2) | ((with_reducible refine gate_builtin (b := .append) (xs := #[.tmp 23, .tmp 28]) rfl ?_); at_builtin; refine Kd.R_append (Kd.int .u8) (w0 := w) w.heap.size rfl (.tmp 23) (.tmp 28) 22 5 (.int .u8 0) 1 rfl Try.underlying22 info5 rfl (by decide) (by omega) v426 t425 (((l0_2.length : Int)) % 256) [.int .u8 (((l0_2.length : Int)) % 256)] (fun k_ => some k_ ≠ (.slice Ao14 t413.length co14 : Value).ownBlock ∧ some k_ ≠ (.slice Ao19 t419.length co19 : Value).ownBlock) (fun _ => False) rfl rfl ?aP (fun _ hk => hk.elim) ?aF ?aO ?aB ?aS ?aL ?_; (case aP => exact rfl); (case aB => exact (by repeat (first | (with_reducible first | exact HB.out | apply below_alloc | apply pw_below_drewN | apply below_drew1 | refine below_set ?_ GE409.out) | exact HB.out))); (case aF => exact (fun k_ hk => ⟨Kd.fresh' (Kd.R_lt (by (with_reducible repeat (first | apply Kd.R_alloc | apply Kd.R_drewN | apply Kd.R_drew)); exact HO415.out)) k_ hk, Kd.fresh' (Kd.R_lt (by (with_reducible repeat (first | apply Kd.R_alloc | apply Kd.R_drewN | apply Kd.R_drew)); exact HO421.out)) k_ hk⟩)); (case aO => exact (by (with_reducible repeat (first | apply Kd.R_alloc | apply Kd.R_drewN | apply Kd.R_drew)); exact HO427.out)); (case aS => exact (below_size (by repeat (first | (with_reducible first | exact HB.out | apply below_alloc | apply pw_below_drewN | apply below_drew1 | refine below_set ?_ GE409.out) | exact HB.out)))); (case aL => have := LMc7.out; omega); intro v429 w25 ho hb hg hat; rw [← Ny428.out] at ho; have n0_ := Aside0.mk (blk_grown (g := gb409) (o := .cells #[.int .i64 a0_0, .slice A0_1 l0_1.length c0_1, .slice A0_2 l0_2.length c0_2] 26 (0, 0)) (by (with_reducible repeat (first | refine blk_drewN ?_ _ | refine blk_drew ?_ | refine blk_alloc ?_ _)); exact BK409.out) hg (Kd.R_ne HO427.out BK409.out (by decide))); have n1_ := Aside0.mk (Kd.R_after (ok := (fun k_ => some k_ ≠ (.slice Ao19 t419.length co19 : Value).ownBlock)) (by (with_reducible repeat (first | apply Kd.R_alloc | apply Kd.R_drewN | apply Kd.R_drew)); exact HO415.out) hg hat); have n2_ := Aside0.mk (Kd.R_after (ok := (fun k_ => some k_ ≠ (.slice Ao14 t413.length co14 : Value).ownBlock)) (by (with_reducible repeat (first | apply Kd.R_alloc | apply Kd.R_drewN | apply Kd.R_drew)); exact HO421.out) hg hat); have n3_ := Aside0.mk (hb); have n4_ := Aside0.mk (ho); clear BK409; clear HO415; clear HO421; clear HB; clear HO427; have BK409 := n0_; have HO415 := n1_; have HO421 := n2_; have HB := n3_; have HO430 := n4_; clear n0_ n1_ n2_ n3_ n4_; clear ho hb hg hat))
    go_loopg [3, 4] k (fun kq v3 v4 w' => ∃ (x3_1 : List Int) (x4_1 : Int), v4 = .int .i64 x4_1 ∧ Aside0 (casementref12_Bytes.l0 kq x3_1 x4_1 a0_0 l0_1 l0_2 = some r) ∧ Aside0 (kq ≤ k) ∧ Aside0 (Kd.R (Kd.int .u8) 5 w' w.heap.size (fun _ => True) v3 x3_1) ∧ Aside0 (w'.heap[gb409]? = some (.cells #[.int .i64 a0_0, (.slice A0_1 l0_1.length c0_1), (.slice A0_2 l0_2.length c0_2)] 26 (0, 0))) ∧ Aside0 (Below w.heap.size w w'))
    case atStart => exact ⟨(y428), (0), (by first | rfl | (simp; done) | (simp [*]; done)), H', ⟨Nat.le_refl _⟩, ⟨by (with_reducible repeat (first | apply Kd.R_alloc | apply Kd.R_drewN | apply Kd.R_drew)); exact Kd.R_mono HO430.out (fun _ hk => trivial)⟩, ⟨by (with_reducible repeat (first | refine blk_drewN ?_ _ | refine blk_drew ?_ | refine blk_alloc ?_ _)); exact BK409.out⟩, ⟨by repeat (first | (with_reducible first | exact HB.out | apply below_alloc | apply pw_below_drewN | apply below_drew1 | refine below_set ?_ GE409.out) | exact HB.out)⟩⟩
    case round =>
      clear H'
      try clear c2
      try clear p2
      try clear c3
      try clear c7
      try clear hcz11_0
      try clear hcz11_1
      try clear hcz11_2
      try clear hcz16_0
      try clear hcz16_1
      try clear hcz16_2
      try clear hcz21_0
      try clear hcz21_1
      try clear hcz21_2
      try clear hcz24_0
      try clear hcz24_1
      try clear hcz24_2
      try clear hfz11_0
      try clear hfz11_1
      try clear hfz11_2
      try clear hfz16_0
      try clear hfz16_1
      try clear hfz16_2
      try clear hfz21_0
      try clear hfz21_1
      try clear hfz21_2
      try clear hfz24_0
      try clear hfz24_1
      try clear hfz24_2
      obtain ⟨x3_1, x4_1, rfl, HA, HK1, HO_3, BK409, HB⟩ := hrel
      cases gk with
      | zero => exact absurd HA.out (by simp [casementref12_Bytes.l0])
      | succ k1 =>
        have H := HA.out
        clear HA
        simp only [casementref12_Bytes.l0] at H
        by_cases c26 : x4_1 < (l0_2.length : Int)
        · rw [if_pos c26] at H
          have c26b0 : decide (x4_1 < (l0_2.length : Int)) = true := decide_eq_true c26
          clear c26
          by_cases c27 : 0 ≤ x4_1
          · rw [if_pos c27] at H
            have c27b0 : decide (0 ≤ x4_1) = true := decide_eq_true c27
            clear c27
            obtain ⟨y433, hy433⟩ : ∃ y_ : List Int, y_ = (([((rd_T44 l0_2 x4_1).f0) % 256, ((rd_T44 l0_2 x4_1).f1) % 256, ((rd_T44 l0_2 x4_1).f2) % 256] : List Int)) := ⟨_, rfl⟩
            replace H : (if x3_1.length + y433.length < 140737488355328 then ((casementref12_two.f (((rd_T44 l0_2 x4_1).f3).length : Int)).bind fun t439 => ((casementref12_join.f k1 (x3_1 ++ y433) t439).bind fun t442 => (casementref12_Bytes.l1 k1 t442 x4_1 0 a0_0 l0_1 l0_2 ((rd_T44 l0_2 x4_1).f0) ((rd_T44 l0_2 x4_1).f1) ((rd_T44 l0_2 x4_1).f2) ((rd_T44 l0_2 x4_1).f3)))) else (none)) = some r := by first | (rw [hy433]; with_reducible exact H) | (have H2_ := (Option.bind_some _ _).symm.trans H; rw [hy433]; with_reducible exact H2_) | (have H2_ := (Option.bind_some _ _).symm.trans H; with_reducible exact H2_) | with_reducible exact H | (rw [hy433]; exact H) | exact H
            have Ny433 := Aside0.mk hy433
            clear hy433
            by_cases c28 : x3_1.length + y433.length < 140737488355328
            · rw [if_pos c28] at H
              have LMc28 := Aside0.mk c28
              clear c28
              obtain ⟨y436, hy436⟩ : ∃ y_ : List Int, y_ = (x3_1 ++ y433) := ⟨_, rfl⟩
              replace H : ((casementref12_two.f (((rd_T44 l0_2 x4_1).f3).length : Int)).bind fun t439 => ((casementref12_join.f k1 y436 t439).bind fun t442 => (casementref12_Bytes.l1 k1 t442 x4_1 0 a0_0 l0_1 l0_2 ((rd_T44 l0_2 x4_1).f0) ((rd_T44 l0_2 x4_1).f1) ((rd_T44 l0_2 x4_1).f2) ((rd_T44 l0_2 x4_1).f3)))) = some r := by first | (rw [hy436]; with_reducible exact H) | (have H2_ := (Option.bind_some _ _).symm.trans H; rw [hy436]; with_reducible exact H2_) | (have H2_ := (Option.bind_some _ _).symm.trans H; with_reducible exact H2_) | with_reducible exact H | (rw [hy436]; exact H) | exact H
              have Ny436 := Aside0.mk hy436
              clear hy436
              replace H := Option.bind_eq_some_iff.mp H
              obtain ⟨t439, A290, H⟩ := H
              replace H : ((casementref12_join.f k1 y436 t439).bind fun t442 => (casementref12_Bytes.l1 k1 t442 x4_1 0 a0_0 l0_1 l0_2 ((rd_T44 l0_2 x4_1).f0) ((rd_T44 l0_2 x4_1).f1) ((rd_T44 l0_2 x4_1).f2) ((rd_T44 l0_2 x4_1).f3))) = some r := H
              have A29 := Aside0.mk A290
              clear A290
              replace H := Option.bind_eq_some_iff.mp H
              obtain ⟨t442, A300, H⟩ := H
              replace H : (casementref12_Bytes.l1 k1 t442 x4_1 0 a0_0 l0_1 l0_2 ((rd_T44 l0_2 x4_1).f0) ((rd_T44 l0_2 x4_1).f1) ((rd_T44 l0_2 x4_1).f2) ((rd_T44 l0_2 x4_1).f3)) = some r := H
              have A30 := Aside0.mk A300
              clear A300
              have H' := Aside0.mk H
              clear H
              have hcz31_0 : wr.cell? ⟨gb409, 0, none⟩ = some (.int .i64 a0_0) := (blk_cell BK409.out 0).trans rfl
              have hcz31_1 : wr.cell? ⟨gb409, 1, none⟩ = some (.slice A0_1 l0_1.length c0_1) := (blk_cell BK409.out 1).trans rfl
              have hcz31_2 : wr.cell? ⟨gb409, 2, none⟩ = some (.slice A0_2 l0_2.length c0_2) := (blk_cell BK409.out 2).trans rfl
              have hfz31_0 := blk_frozen BK409.out 0
              have hfz31_1 := blk_frozen BK409.out 1
              have hfz31_2 := blk_frozen BK409.out 2
              have p431 : 0 ≤ (x4_1 : Int) := of_decide_eq_true (by first | (with_reducible assumption) | assumption)
              have q431 : x4_1 < (l0_2.length : Int) := of_decide_eq_true (by first | (with_reducible assumption) | assumption)
              obtain ⟨ad431, A431_3, c431_3, e431, hx431_0, hx431_1, hx431_2, hx431_3, hl431_3, hi431_3⟩ := at_T44 HR0_2.out x4_1 p431 q431
              cases e431
              replace hx431_0 := (HB.out.cell (World.block_lt_of_cell? w _ hx431_0)).trans hx431_0
              replace hx431_1 := (HB.out.cell (World.block_lt_of_cell? w _ hx431_1)).trans hx431_1
              replace hx431_2 := (HB.out.cell (World.block_lt_of_cell? w _ hx431_2)).trans hx431_2
              replace hx431_3 := (HB.out.cell (World.block_lt_of_cell? w _ hx431_3)).trans hx431_3
              have HR431_3 := Aside0.mk hi431_3
              have HC431_3 := Aside0.mk hl431_3
              clear hi431_3 hl431_3
              replace p431 := eq_true p431
              replace q431 := eq_true q431
              go_wp2_with (first | ((with_reducible refine gate_dst (N := 5) rfl ?_); refine box_event ?hg (N := 5) ?hd (cs := #[.int .i64 0, .int .i64 0, .int .i64 0, .slice none 0 0]) (t := 44) ?hr ?_; (case hd => rfl); (case hg => rfl); (case hr => first | (go_simp; done) | (go_simp; rfl)); intro gb432 hg w32 hbox hb; have n0_ := Aside0.mk (Kd.R_below (by (with_reducible repeat (first | apply Kd.R_alloc | apply Kd.R_drewN | apply Kd.R_drew)); exact HO_3.out) hb); have n1_ := Aside0.mk (blk_below (g := gb409) (o := .cells #[.int .i64 a0_0, .slice A0_1 l0_1.length c0_1, .slice (some ad431) l0_2.length c0_2] 26 (0, 0)) (by (with_reducible repeat (first | refine blk_drewN ?_ _ | refine blk_drew ?_ | refine blk_alloc ?_ _)); exact BK409.out) hb); have n2_ := Aside0.mk (below_step (by repeat (first | (with_reducible first | exact HB.out | apply below_alloc | apply pw_below_drewN | apply below_drew1 | refine below_set ?_ GE409.out) | exact HB.out)) hb); have n3_ := Aside0.mk (hbox); have n4_ := Aside0.mk ((by rw [hg]; exact (below_size (by repeat (first | (with_reducible first | exact HB.out | apply below_alloc | apply pw_below_drewN | apply below_drew1 | refine below_set ?_ GE409.out) | exact HB.out))) : w.heap.size ≤ gb432)); have n5_ := Aside0.mk ((by rw [hg]; exact (below_size (by repeat (first | (with_reducible first | exact HB.out | apply below_alloc | apply pw_below_drewN | apply below_drew1 | refine below_set ?_ GE409.out) | exact HB.out))) : w.heap.size ≤ gb432)); have n6_ := Aside0.mk ((by rw [hg]; exact Nat.ne_of_lt (blk_lt (g := gb409) (o := .cells #[.int .i64 a0_0, .slice A0_1 l0_1.length c0_1, .slice (some ad431) l0_2.length c0_2] 26 (0, 0)) (by (with_reducible repeat (first | refine blk_drewN ?_ _ | refine blk_drew ?_ | refine blk_alloc ?_ _)); exact BK409.out)) : gb409 ≠ gb432)); have n7_ := Aside0.mk ((by rw [hg]; exact Nat.ne_of_gt (blk_lt (g := gb409) (o := .cells #[.int .i64 a0_0, .slice A0_1 l0_1.length c0_1, .slice (some ad431) l0_2.length c0_2] 26 (0, 0)) (by (with_reducible repeat (first | refine blk_drewN ?_ _ | refine blk_drew ?_ | refine blk_alloc ?_ _)); exact BK409.out)) : gb432 ≠ gb409)); clear HO_3; clear BK409; clear HB; have HO_3 := n0_; have BK409 := n1_; have HB := n2_; have BK432 := n3_; have GW432 := n4_; have GE432 := n5_; have NB409_432 := n6_; have NB432_409 := n7_; clear n0_ n1_ n2_ n3_ n4_ n5_ n6_ n7_; clear hb hbox hg; have hnb33 := NB432_409.out; have hnc33 := NB409_432.out; have hcz34_0 : w32.cell? ⟨gb432, 0, none⟩ = some (.int .i64 0) := (blk_cell BK432.out 0).trans rfl; have hcz34_1 : w32.cell? ⟨gb432, 1, none⟩ = some (.int .i64 0) := (blk_cell BK432.out 1).trans rfl; have hcz34_2 : w32.cell? ⟨gb432, 2, none⟩ = some (.int .i64 0) := (blk_cell BK432.out 2).trans rfl; have hcz34_3 : w32.cell? ⟨gb432, 3, none⟩ = some (.slice none 0 0) := (blk_cell BK432.out 3).trans rfl; have hfz34_0 := blk_frozen BK432.out 0; have hfz34_1 := blk_frozen BK432.out 1; have hfz34_2 := blk_frozen BK432.out 2; have hfz34_3 := blk_frozen BK432.out 3) | ((with_reducible refine gate_dst (N := 52) rfl ?_); refine Kd.R_lit (Kd.int .u8) _ 5 ?hg (N := 52) ?hd (xs := ([((rd_T44 l0_2 x4_1).f0) % 256, ((rd_T44 l0_2 x4_1).f1) % 256, ((rd_T44 l0_2 x4_1).f2) % 256] : List Int)) (inner := [.int .u8 (((rd_T44 l0_2 x4_1).f0) % 256), .int .u8 (((rd_T44 l0_2 x4_1).f1) % 256), .int .u8 (((rd_T44 l0_2 x4_1).f2) % 256)]) (ok := fun _ => True) (okp := fun _ => True) ?hr ?hp (fun _ hk => hk) trivial (Below.refl _ _) (Nat.le_refl _) (by simp) ?_; (case hd => rfl); (case hg => rfl); (case hr => first | (go_simp; done) | (go_simp; rfl)); (case hp => exact (Reps.one (show Kd.M (Kd.int .u8) _ _ _ (((rd_T44 l0_2 x4_1).f0) % 256) [.int .u8 (((rd_T44 l0_2 x4_1).f0) % 256)] from rfl) (Reps.one (show Kd.M (Kd.int .u8) _ _ _ (((rd_T44 l0_2 x4_1).f1) % 256) [.int .u8 (((rd_T44 l0_2 x4_1).f1) % 256)] from rfl) (Reps.one (show Kd.M (Kd.int .u8) _ _ _ (((rd_T44 l0_2 x4_1).f2) % 256) [.int .u8 (((rd_T44 l0_2 x4_1).f2) % 256)] from rfl) (Reps.none _ _))))); intro v434 w35 ho36 hb hg_ hnew_; clear hg_ hnew_; (first | rw [← Ny433.out] at ho36 | (simp only [Int.reduceToNat] at ho36; rw [← Ny433.out] at ho36)); have n0_ := Aside0.mk (Kd.R_elder' (by (with_reducible repeat (first | apply Kd.R_alloc | apply Kd.R_drewN | apply Kd.R_drew)); exact (Kd.R_mono (Kd.R_far (p := ⟨gb432, 3, none⟩) (Kd.R_far (p := ⟨gb432, 2, none⟩) (Kd.R_far (p := ⟨gb432, 1, none⟩) (Kd.R_far (p := ⟨gb432, 0, none⟩) (Kd.R_types HO_3.out BK432.out (by decide)) (fun _ hk => hk.2) (.int .i64 ((rd_T44 l0_2 x4_1).f0))) (fun _ hk => hk.2) (.int .i64 ((rd_T44 l0_2 x4_1).f1))) (fun _ hk => hk.2) (.int .i64 ((rd_T44 l0_2 x4_1).f2))) (fun _ hk => hk.2) (.slice A431_3 ((rd_T44 l0_2 x4_1).f3).length c431_3)) (fun _ h_ => h_.1))) (Kd.R_base ho36) hb); have n1_ := Aside0.mk (Kd.R_lower (Kd.R_new' ho36 (Kd.R_lt (by (with_reducible repeat (first | apply Kd.R_alloc | apply Kd.R_drewN | apply Kd.R_drew)); exact (Kd.R_mono (Kd.R_far (p := ⟨gb432, 3, none⟩) (Kd.R_far (p := ⟨gb432, 2, none⟩) (Kd.R_far (p := ⟨gb432, 1, none⟩) (Kd.R_far (p := ⟨gb432, 0, none⟩) (Kd.R_types HO_3.out BK432.out (by decide)) (fun _ hk => hk.2) (.int .i64 ((rd_T44 l0_2 x4_1).f0))) (fun _ hk => hk.2) (.int .i64 ((rd_T44 l0_2 x4_1).f1))) (fun _ hk => hk.2) (.int .i64 ((rd_T44 l0_2 x4_1).f2))) (fun _ hk => hk.2) (.slice A431_3 ((rd_T44 l0_2 x4_1).f3).length c431_3)) (fun _ h_ => h_.1))))) (below_size (by repeat (first | (with_reducible first | exact HB.out | apply below_alloc | apply pw_below_drewN | apply below_drew1 | refine below_set ?_ GE409.out | refine below_set ?_ GE432.out) | exact HB.out)))); have n2_ := Aside0.mk (blk_below (g := gb409) (o := .cells #[.int .i64 a0_0, .slice A0_1 l0_1.length c0_1, .slice (some ad431) l0_2.length c0_2] 26 (0, 0)) (by (with_reducible repeat (first | refine blk_drewN ?_ _ | refine blk_drew ?_ | refine blk_alloc ?_ _)); refine blk_far ?_ NB409_432.out _; (with_reducible repeat (first | refine blk_drewN ?_ _ | refine blk_drew ?_ | refine blk_alloc ?_ _)); refine blk_far ?_ NB409_432.out _; (with_reducible repeat (first | refine blk_drewN ?_ _ | refine blk_drew ?_ | refine blk_alloc ?_ _)); refine blk_far ?_ NB409_432.out _; (with_reducible repeat (first | refine blk_drewN ?_ _ | refine blk_drew ?_ | refine blk_alloc ?_ _)); refine blk_far ?_ NB409_432.out _; (with_reducible repeat (first | refine blk_drewN ?_ _ | refine blk_drew ?_ | refine blk_alloc ?_ _)); exact BK409.out) hb); have n3_ := Aside0.mk (blk_below (g := gb432) (o := .cells #[.int .i64 ((rd_T44 l0_2 x4_1).f0), .int .i64 ((rd_T44 l0_2 x4_1).f1), .int .i64 ((rd_T44 l0_2 x4_1).f2), .slice A431_3 ((rd_T44 l0_2 x4_1).f3).length c431_3] 44 (0, 0)) (by (with_reducible repeat (first | refine blk_drewN ?_ _ | refine blk_drew ?_ | refine blk_alloc ?_ _)); refine blk_put (cs := #[.int .i64 ((rd_T44 l0_2 x4_1).f0), .int .i64 ((rd_T44 l0_2 x4_1).f1), .int .i64 ((rd_T44 l0_2 x4_1).f2), .slice none 0 0]) ?_ 3 _ rfl; (with_reducible repeat (first | refine blk_drewN ?_ _ | refine blk_drew ?_ | refine blk_alloc ?_ _)); refine blk_put (cs := #[.int .i64 ((rd_T44 l0_2 x4_1).f0), .int .i64 ((rd_T44 l0_2 x4_1).f1), .int .i64 0, .slice none 0 0]) ?_ 2 _ rfl; (with_reducible repeat (first | refine blk_drewN ?_ _ | refine blk_drew ?_ | refine blk_alloc ?_ _)); refine blk_put (cs := #[.int .i64 ((rd_T44 l0_2 x4_1).f0), .int .i64 0, .int .i64 0, .slice none 0 0]) ?_ 1 _ rfl; (with_reducible repeat (first | refine blk_drewN ?_ _ | refine blk_drew ?_ | refine blk_alloc ?_ _)); refine blk_put (cs := #[.int .i64 0, .int .i64 0, .int .i64 0, .slice none 0 0]) ?_ 0 _ rfl; (with_reducible repeat (first | refine blk_drewN ?_ _ | refine blk_drew ?_ | refine blk_alloc ?_ _)); exact BK432.out) hb); have n4_ := Aside0.mk (below_step (by repeat (first | (with_reducible first | exact HB.out | apply below_alloc | apply pw_below_drewN | apply below_drew1 | refine below_set ?_ GE409.out | refine below_set ?_ GE432.out) | exact HB.out)) hb); clear HO_3; clear BK409; clear BK432; clear HB; have HO_3 := n0_; have HO435 := n1_; have BK409 := n2_; have BK432 := n3_; have HB := n4_; clear n0_ n1_ n2_ n3_ n4_; clear hb ho36; obtain ⟨Ao38, co38, eo38⟩ := Kd.R_slice HO435.out; subst eo38) | ((with_reducible refine gate_builtin (b := .append) (xs := #[.tmp 42, .tmp 52]) rfl ?_); at_builtin; refine Kd.R_append_rows (Kd.int .u8) (w0 := w) w.heap.size rfl (.tmp 42) (.tmp 52) 22 5 (.int .u8 0) 1 rfl Try.underlying22 info5 rfl (by decide) (by omega) u3 x3_1 y433 _ _ _ (fun k_ => some k_ ≠ (.slice Ao38 y433.length co38 : Value).ownBlock) (fun _ => False) rfl rfl ?aO ?aR (fun _ _ h => h) (fun _ h => h.elim) ?aF ?aB ?aS ?aL ?_; (case aR => repeat (first | exact (Kd.R_reads' HO435.out).2.2 | (with_reducible refine Kd.C_alloc ?_ _) | (with_reducible refine Kd.C_drewN ?_ _) | (with_reducible refine Kd.C_drew ?_))); (case aB => exact (by repeat (first | (with_reducible first | exact HB.out | apply below_alloc | apply pw_below_drewN | apply below_drew1 | refine below_set ?_ GE409.out | refine below_set ?_ GE432.out) | exact HB.out))); (case aF => exact (fun k_ hk => Kd.fresh' (Kd.R_lt (by (with_reducible repeat (first | apply Kd.R_alloc | apply Kd.R_drewN | apply Kd.R_drew)); exact HO435.out)) k_ hk)); (case aO => exact (by (with_reducible repeat (first | apply Kd.R_alloc | apply Kd.R_drewN | apply Kd.R_drew)); exact Kd.R_mono HO_3.out (fun _ hk => hk.2))); (case aS => exact (below_size (by repeat (first | (with_reducible first | exact HB.out | apply below_alloc | apply pw_below_drewN | apply below_drew1 | refine below_set ?_ GE409.out | refine below_set ?_ GE432.out) | exact HB.out)))); (case aL => have := LMc28.out; omega); intro v437 w37 ho hb hg hat; rw [← Ny436.out] at ho; have n0_ := Aside0.mk (blk_grown (g := gb409) (o := .cells #[.int .i64 a0_0, .slice A0_1 l0_1.length c0_1, .slice (some ad431) l0_2.length c0_2] 26 (0, 0)) (by (with_reducible repeat (first | refine blk_drewN ?_ _ | refine blk_drew ?_ | refine blk_alloc ?_ _)); exact BK409.out) hg (Kd.R_ne HO_3.out BK409.out (by decide))); have n1_ := Aside0.mk (blk_grown (g := gb432) (o := .cells #[.int .i64 ((rd_T44 l0_2 x4_1).f0), .int .i64 ((rd_T44 l0_2 x4_1).f1), .int .i64 ((rd_T44 l0_2 x4_1).f2), .slice A431_3 ((rd_T44 l0_2 x4_1).f3).length c431_3] 44 (0, 0)) (by (with_reducible repeat (first | refine blk_drewN ?_ _ | refine blk_drew ?_ | refine blk_alloc ?_ _)); exact BK432.out) hg (Kd.R_ne HO_3.out BK432.out (by decide))); have n2_ := Aside0.mk (Kd.R_after (ok := (fun _ => True)) (by (with_reducible repeat (first | apply Kd.R_alloc | apply Kd.R_drewN | apply Kd.R_drew)); exact HO435.out) hg hat); have n3_ := Aside0.mk (hb); have n4_ := Aside0.mk (ho); clear BK409; clear BK432; clear HO435; clear HB; clear HO_3; have BK409 := n0_; have BK432 := n1_; have HO435 := n2_; have HB := n3_; have HO438 := n4_; clear n0_ n1_ n2_ n3_ n4_; clear ho hb hg hat; have hcz39_0 : w37.cell? ⟨gb432, 0, none⟩ = some (.int .i64 ((rd_T44 l0_2 x4_1).f0)) := (blk_cell BK432.out 0).trans rfl; have hcz39_1 : w37.cell? ⟨gb432, 1, none⟩ = some (.int .i64 ((rd_T44 l0_2 x4_1).f1)) := (blk_cell BK432.out 1).trans rfl; have hcz39_2 : w37.cell? ⟨gb432, 2, none⟩ = some (.int .i64 ((rd_T44 l0_2 x4_1).f2)) := (blk_cell BK432.out 2).trans rfl; have hcz39_3 : w37.cell? ⟨gb432, 3, none⟩ = some (.slice A431_3 ((rd_T44 l0_2 x4_1).f3).length c431_3) := (blk_cell BK432.out 3).trans rfl; have hfz39_0 := blk_frozen BK432.out 0; have hfz39_1 := blk_frozen BK432.out 1; have hfz39_2 := blk_frozen BK432.out 2; have hfz39_3 := blk_frozen BK432.out 3) | ((with_reducible refine gate_callee (f := 32) rfl ?_); refine goesL_ (some 58) rfl rfl Try.func32 (by kernel_rfl) rfl #[.int .i64 (((rd_T44 l0_2 x4_1).f3).length : Int)] rfl (by (try simp only [List.map_toArray, List.map_cons, List.map_nil]); first | done | rfl | (simp only [List.length_drop, List.length_take]; rfl)) ?_; (with_reducible refine (casementref12_two.calls (((rd_T44 l0_2 x4_1).f3).length : Int) t439 _ A29.out).mono ?_); rintro e w40 ⟨v440, rfl, ho0, hb⟩; refine ⟨_, rfl, ?_⟩; have n0_ := Aside0.mk (Kd.R_elder' (by (with_reducible repeat (first | apply Kd.R_alloc | apply Kd.R_drewN | apply Kd.R_drew)); exact HO435.out) (Kd.R_base ho0) hb); have n1_ := Aside0.mk (Kd.R_elder' (by (with_reducible repeat (first | apply Kd.R_alloc | apply Kd.R_drewN | apply Kd.R_drew)); exact HO438.out) (Kd.R_base ho0) hb); have n2_ := Aside0.mk (Kd.R_lower (Kd.R_new' (Kd.R_new' ho0 (Kd.R_lt (by (with_reducible repeat (first | apply Kd.R_alloc | apply Kd.R_drewN | apply Kd.R_drew)); exact HO435.out))) (Kd.R_lt (by (with_reducible repeat (first | apply Kd.R_alloc | apply Kd.R_drewN | apply Kd.R_drew)); exact HO438.out))) (below_size (by repeat (first | (with_reducible first | exact HB.out | apply below_alloc | apply pw_below_drewN | apply below_drew1 | refine below_set ?_ GE409.out | refine below_set ?_ GE432.out) | exact HB.out)))); have n3_ := Aside0.mk (blk_below (g := gb409) (o := .cells #[.int .i64 a0_0, .slice A0_1 l0_1.length c0_1, .slice (some ad431) l0_2.length c0_2] 26 (0, 0)) (by (with_reducible repeat (first | refine blk_drewN ?_ _ | refine blk_drew ?_ | refine blk_alloc ?_ _)); exact BK409.out) hb); have n4_ := Aside0.mk (blk_below (g := gb432) (o := .cells #[.int .i64 ((rd_T44 l0_2 x4_1).f0), .int .i64 ((rd_T44 l0_2 x4_1).f1), .int .i64 ((rd_T44 l0_2 x4_1).f2), .slice A431_3 ((rd_T44 l0_2 x4_1).f3).length c431_3] 44 (0, 0)) (by (with_reducible repeat (first | refine blk_drewN ?_ _ | refine blk_drew ?_ | refine blk_alloc ?_ _)); exact BK432.out) hb); have n5_ := Aside0.mk (below_step (by repeat (first | (with_reducible first | exact HB.out | apply below_alloc | apply pw_below_drewN | apply below_drew1 | refine below_set ?_ GE409.out | refine below_set ?_ GE432.out) | exact HB.out)) hb); clear HO435; clear HO438; clear BK409; clear BK432; clear HB; have HO435 := n0_; have HO438 := n1_; have HO441 := n2_; have BK409 := n3_; have BK432 := n4_; have HB := n5_; clear n0_ n1_ n2_ n3_ n4_ n5_; (try clear hb); (try clear hb2); (try clear hk); (try clear hi); (try clear ho0); obtain ⟨Ao41, co41, eo41⟩ := Kd.R_slice HO438.out; subst eo41; obtain ⟨Ao42, co42, eo42⟩ := Kd.R_slice HO441.out; subst eo42) | ((with_reducible refine gate_callee (f := 31) rfl ?_); refine goesL_ (some 59) rfl rfl Try.func31 (by kernel_rfl) rfl #[.slice Ao41 y436.length co41, .slice Ao42 t439.length co42] rfl (by (try simp only [List.map_toArray, List.map_cons, List.map_nil]); first | done | rfl | (simp only [List.length_drop, List.length_take]; rfl)) ?_; (with_reducible refine (casementref12_join.calls k1 (fun k_ => some k_ = (.slice Ao41 y436.length co41 : Value).ownBlock) (.slice Ao41 y436.length co41) y436 _ _ t439 t442 w _ ?side1 ?side2 ?side3 ?side4 A30.out).mono ?_); (case side1 => repeat (first | (with_reducible first | exact HB.out | apply below_alloc | apply pw_below_drewN | apply below_drew1 | refine below_set ?_ GE409.out | refine below_set ?_ GE432.out) | exact HB.out)); (case side2 => exact Kd.R_tight rfl HO438.out); (case side3 => exact Kd.C_kept_own (HO441.out) (fun k_ hk_ hs_ => (hk_.2) hs_)); (case side4 => exact (Kd.R_reads' HO441.out).2.1); rintro e w43 ⟨v443, rfl, ho0, hb, hkp⟩; refine ⟨_, rfl, ?_⟩; have n0_ := Aside0.mk (blk_kept (by (with_reducible repeat (first | refine blk_drewN ?_ _ | refine blk_drew ?_ | refine blk_alloc ?_ _)); exact BK409.out) hkp (fun hs_ => (fun e_ => (Kd.R_ne HO438.out BK409.out (by decide)) e_) hs_)); have n1_ := Aside0.mk (blk_kept (by (with_reducible repeat (first | refine blk_drewN ?_ _ | refine blk_drew ?_ | refine blk_alloc ?_ _)); exact BK432.out) hkp (fun hs_ => (fun e_ => (Kd.R_ne HO438.out BK432.out (by decide)) e_) hs_)); have n2_ := Aside0.mk (Kd.R_mono (ok' := fun k_ => some k_ ≠ (.slice Ao42 t439.length co42 : Value).ownBlock ∧ some k_ ≠ (v443 : Value).ownBlock) (Kd.R_keptB (HO435.out) hkp (fun k_ hk_ hs_ => (hk_.1.2) hs_)) (fun k_ hk_ => ⟨hk_.1.2, fun e_ => Or.elim (ho0.1 k_ e_.symm) (fun hs_ => hk_.2.1 hs_) (fun hn_ => Nat.not_le.2 hk_.2.2 hn_)⟩)); have n3_ := Aside0.mk (Kd.R_mono (ok' := fun k_ => some k_ ≠ (.slice Ao38 y433.length co38 : Value).ownBlock ∧ some k_ ≠ (v443 : Value).ownBlock) (Kd.R_keptB (HO441.out) hkp (fun k_ hk_ hs_ => (hk_.2) hs_)) (fun k_ hk_ => ⟨hk_.1.1.2, fun e_ => Or.elim (ho0.1 k_ e_.symm) (fun hs_ => hk_.2.1 hs_) (fun hn_ => Nat.not_le.2 hk_.2.2 hn_)⟩)); have n4_ := Aside0.mk (Kd.R_mono (ok' := fun k_ => some k_ ≠ (.slice Ao38 y433.length co38 : Value).ownBlock ∧ some k_ ≠ (.slice Ao42 t439.length co42 : Value).ownBlock) ho0 (fun k_ hk_ => ⟨Or.elim hk_ (fun hs_ => fun e_ => (((HO435.out).1 k_ e_.symm).1.2) hs_) (fun hn_ => (Kd.fresh' (Kd.R_lt (by (with_reducible repeat (first | apply Kd.R_alloc | apply Kd.R_drewN | apply Kd.R_drew)); exact HO435.out)) k_ hn_)), Or.elim hk_ (fun hs_ => fun e_ => (((HO441.out).1 k_ e_.symm).2) hs_) (fun hn_ => (Kd.fresh' (Kd.R_lt (by (with_reducible repeat (first | apply Kd.R_alloc | apply Kd.R_drewN | apply Kd.R_drew)); exact HO441.out)) k_ hn_))⟩)); have n5_ := Aside0.mk (hb); clear BK409; clear BK432; clear HO435; clear HO441; clear HB; clear HO438; have BK409 := n0_; have BK432 := n1_; have HO435 := n2_; have HO441 := n3_; have HO444 := n4_; have HB := n5_; clear n0_ n1_ n2_ n3_ n4_ n5_; (try clear hb); (try clear hkp); (try clear ho0)))
              go_loopg [3, 6] k1 (fun kq v3 v6 w' => ∃ (x3_2 : List Int) (x6_2 : Int), v6 = .int .i64 x6_2 ∧ Aside0 (casementref12_Bytes.l1 kq x3_2 x4_1 x6_2 a0_0 l0_1 l0_2 ((rd_T44 l0_2 x4_1).f0) ((rd_T44 l0_2 x4_1).f1) ((rd_T44 l0_2 x4_1).f2) ((rd_T44 l0_2 x4_1).f3) = some r) ∧ Aside0 (kq ≤ k1) ∧ Aside0 (Kd.R (Kd.int .u8) 5 w' w.heap.size (fun _ => True) v3 x3_2) ∧ Aside0 (w'.heap[gb409]? = some (.cells #[.int .i64 a0_0, (.slice A0_1 l0_1.length c0_1), (.slice (some ad431) l0_2.length c0_2)] 26 (0, 0))) ∧ Aside0 (w'.heap[gb432]? = some (.cells #[.int .i64 ((rd_T44 l0_2 x4_1).f0), .int .i64 ((rd_T44 l0_2 x4_1).f1), .int .i64 ((rd_T44 l0_2 x4_1).f2), (.slice A431_3 ((rd_T44 l0_2 x4_1).f3).length c431_3)] 44 (0, 0))) ∧ Aside0 (Below w.heap.size w w'))
              case atStart => exact ⟨(t442), (0), (by first | rfl | (simp; done) | (simp [*]; done)), H', ⟨Nat.le_refl _⟩, ⟨by (with_reducible repeat (first | apply Kd.R_alloc | apply Kd.R_drewN | apply Kd.R_drew)); exact Kd.R_mono HO444.out (fun _ hk => trivial)⟩, ⟨by (with_reducible repeat (first | refine blk_drewN ?_ _ | refine blk_drew ?_ | refine blk_alloc ?_ _)); exact BK409.out⟩, ⟨by (with_reducible repeat (first | refine blk_drewN ?_ _ | refine blk_drew ?_ | refine blk_alloc ?_ _)); exact BK432.out⟩, ⟨by repeat (first | (with_reducible first | exact HB.out | apply below_alloc | apply pw_below_drewN | apply below_drew1 | refine below_set ?_ GE409.out | refine below_set ?_ GE432.out) | exact HB.out)⟩⟩
              case round =>
                clear H'
                try clear c2
                try clear p2
                try clear c3
                try clear c4
                try clear p4
                try clear q4
                try clear hx4
                try clear c7
                try clear c26
                try clear c26b0
                try clear c27
                try clear c27b0
                try clear c28
                try clear c31
                try clear c32
                try clear c33
                try clear c43
                try clear p43
                try clear q43
                try clear hx43
                try clear hcz11_0
                try clear hcz11_1
                try clear hcz11_2
                try clear hcz16_0
                try clear hcz16_1
                try clear hcz16_2
                try clear hcz21_0
                try clear hcz21_1
                try clear hcz21_2
                try clear hcz24_0
                try clear hcz24_1
                try clear hcz24_2
                try clear hcz31_0
                try clear hcz31_1
                try clear hcz31_2
                try clear hcz34_0
                try clear hcz34_1
                try clear hcz34_2
                try clear hcz34_3
                try clear hcz39_0
                try clear hcz39_1
                try clear hcz39_2
                try clear hcz39_3
                try clear hfz11_0
                try clear hfz11_1
                try clear hfz11_2
                try clear hfz16_0
                try clear hfz16_1
                try clear hfz16_2
                try clear hfz21_0
                try clear hfz21_1
                try clear hfz21_2
                try clear hfz24_0
                try clear hfz24_1
                try clear hfz24_2
                try clear hfz31_0
                try clear hfz31_1
                try clear hfz31_2
                try clear hfz34_0
                try clear hfz34_1
                try clear hfz34_2
                try clear hfz34_3
                try clear hfz39_0
                try clear hfz39_1
                try clear hfz39_2
                try clear hfz39_3
                try clear hx431_0
                try clear hx431_1
                try clear hx431_2
                try clear hx431_3
                try clear p2
                try clear p431
                try clear q431
                obtain ⟨x3_2, x6_2, rfl, HA, HK2, HO_3, BK409, BK432, HB⟩ := hrel
                cases gk with
                | zero => exact absurd HA.out (by simp [casementref12_Bytes.l1])
                | succ k2 =>
                  have H := HA.out
                  clear HA
                  simp only [casementref12_Bytes.l1] at H
                  by_cases c44 : x6_2 < (((rd_T44 l0_2 x4_1).f3).length : Int)
                  · rw [if_pos c44] at H
                    have c44b0 : decide (x6_2 < (((rd_T44 l0_2 x4_1).f3).length : Int)) = true := decide_eq_true c44
                    clear c44
                    by_cases c45 : 0 ≤ x6_2
                    · rw [if_pos c45] at H
                      have c45b0 : decide (0 ≤ x6_2) = true := decide_eq_true c45
                      clear c45
                      by_cases c46 : x3_2.length < 140737488355328
                      · rw [if_pos c46] at H
                        have LMc46 := Aside0.mk c46
                        clear c46
                        obtain ⟨y446, hy446⟩ : ∃ y_ : List Int, y_ = (x3_2 ++ [((rd_T41 ((rd_T44 l0_2 x4_1).f3) x6_2).f0) % 256]) := ⟨_, rfl⟩
                        replace H : ((casementref12_Has.f ((rd_T41 ((rd_T44 l0_2 x4_1).f3) x6_2).f0)).bind fun t450 => (if t450 = true then ((casementref12_Number.f k2 ((rd_T41 ((rd_T44 l0_2 x4_1).f3) x6_2).f1)).bind fun t452 => ((casementref12_join.f k2 y446 t452).bind fun t455 => (casementref12_Bytes.l1 k2 t455 x4_1 (wrap64 (x6_2 + 1)) a0_0 l0_1 l0_2 ((rd_T44 l0_2 x4_1).f0) ((rd_T44 l0_2 x4_1).f1) ((rd_T44 l0_2 x4_1).f2) ((rd_T44 l0_2 x4_1).f3)))) else (casementref12_Bytes.l1 k2 y446 x4_1 (wrap64 (x6_2 + 1)) a0_0 l0_1 l0_2 ((rd_T44 l0_2 x4_1).f0) ((rd_T44 l0_2 x4_1).f1) ((rd_T44 l0_2 x4_1).f2) ((rd_T44 l0_2 x4_1).f3)))) = some r := by first | (rw [hy446]; with_reducible exact H) | (have H2_ := (Option.bind_some _ _).symm.trans H; rw [hy446]; with_reducible exact H2_) | (have H2_ := (Option.bind_some _ _).symm.trans H; with_reducible exact H2_) | with_reducible exact H | (rw [hy446]; exact H) | exact H
                        have Ny446 := Aside0.mk hy446
                        clear hy446
                        replace H := Option.bind_eq_some_iff.mp H
                        obtain ⟨t450, A470, H⟩ := H
                        replace H : (if t450 = true then ((casementref12_Number.f k2 ((rd_T41 ((rd_T44 l0_2 x4_1).f3) x6_2).f1)).bind fun t452 => ((casementref12_join.f k2 y446 t452).bind fun t455 => (casementref12_Bytes.l1 k2 t455 x4_1 (wrap64 (x6_2 + 1)) a0_0 l0_1 l0_2 ((rd_T44 l0_2 x4_1).f0) ((rd_T44 l0_2 x4_1).f1) ((rd_T44 l0_2 x4_1).f2) ((rd_T44 l0_2 x4_1).f3)))) else (casementref12_Bytes.l1 k2 y446 x4_1 (wrap64 (x6_2 + 1)) a0_0 l0_1 l0_2 ((rd_T44 l0_2 x4_1).f0) ((rd_T44 l0_2 x4_1).f1) ((rd_T44 l0_2 x4_1).f2) ((rd_T44 l0_2 x4_1).f3))) = some r := H
                        have A47 := Aside0.mk A470
                        clear A470
                        by_cases c48 : t450 = true
                        · subst c48
                          have H1 : ((casementref12_Number.f k2 ((rd_T41 ((rd_T44 l0_2 x4_1).f3) x6_2).f1)).bind fun t452 => ((casementref12_join.f k2 y446 t452).bind fun t455 => (casementref12_Bytes.l1 k2 t455 x4_1 (wrap64 (x6_2 + 1)) a0_0 l0_1 l0_2 ((rd_T44 l0_2 x4_1).f0) ((rd_T44 l0_2 x4_1).f1) ((rd_T44 l0_2 x4_1).f2) ((rd_T44 l0_2 x4_1).f3)))) = some r := by rw [if_pos rfl] at H; exact H
                          clear H
                          have H := H1
                          clear H1
                          replace H := Option.bind_eq_some_iff.mp H
                          obtain ⟨t452, A490, H⟩ := H
                          replace H : ((casementref12_join.f k2 y446 t452).bind fun t455 => (casementref12_Bytes.l1 k2 t455 x4_1 (wrap64 (x6_2 + 1)) a0_0 l0_1 l0_2 ((rd_T44 l0_2 x4_1).f0) ((rd_T44 l0_2 x4_1).f1) ((rd_T44 l0_2 x4_1).f2) ((rd_T44 l0_2 x4_1).f3))) = some r := H
                          have A49 := Aside0.mk A490
                          clear A490
                          replace H := Option.bind_eq_some_iff.mp H
                          obtain ⟨t455, A500, H⟩ := H
                          replace H : (casementref12_Bytes.l1 k2 t455 x4_1 (wrap64 (x6_2 + 1)) a0_0 l0_1 l0_2 ((rd_T44 l0_2 x4_1).f0) ((rd_T44 l0_2 x4_1).f1) ((rd_T44 l0_2 x4_1).f2) ((rd_T44 l0_2 x4_1).f3)) = some r := H
                          have A50 := Aside0.mk A500
                          clear A500
                          have H' := Aside0.mk H
                          clear H
                          have hnb51 := NB432_409.out
                          have hnc51 := NB409_432.out
                          have hcz52_0 : wr.cell? ⟨gb432, 0, none⟩ = some (.int .i64 ((rd_T44 l0_2 x4_1).f0)) := (blk_cell BK432.out 0).trans rfl
                          have hcz52_1 : wr.cell? ⟨gb432, 1, none⟩ = some (.int .i64 ((rd_T44 l0_2 x4_1).f1)) := (blk_cell BK432.out 1).trans rfl
                          have hcz52_2 : wr.cell? ⟨gb432, 2, none⟩ = some (.int .i64 ((rd_T44 l0_2 x4_1).f2)) := (blk_cell BK432.out 2).trans rfl
                          have hcz52_3 : wr.cell? ⟨gb432, 3, none⟩ = some (.slice A431_3 ((rd_T44 l0_2 x4_1).f3).length c431_3) := (blk_cell BK432.out 3).trans rfl
                          have hfz52_0 := blk_frozen BK432.out 0
                          have hfz52_1 := blk_frozen BK432.out 1
                          have hfz52_2 := blk_frozen BK432.out 2
                          have hfz52_3 := blk_frozen BK432.out 3
                          have p445 : 0 ≤ (x6_2 : Int) := of_decide_eq_true (by first | (with_reducible assumption) | assumption)
                          have q445 : x6_2 < (((rd_T44 l0_2 x4_1).f3).length : Int) := of_decide_eq_true (by first | (with_reducible assumption) | assumption)
                          obtain ⟨ad445, e445, hx445_0, hx445_1⟩ := at_T41 HR431_3.out x6_2 p445 q445
                          cases e445
                          replace hx445_0 := (HB.out.cell (World.block_lt_of_cell? w _ hx445_0)).trans hx445_0
                          replace hx445_1 := (HB.out.cell (World.block_lt_of_cell? w _ hx445_1)).trans hx445_1
                          replace p445 := eq_true p445
                          replace q445 := eq_true q445
                          go_wp2_with (first | ((with_reducible refine gate_builtin (b := .append) (xs := #[.tmp 67, .tmp 75]) rfl ?_); at_builtin; refine Kd.R_append (Kd.int .u8) (w0 := w) w.heap.size rfl (.tmp 67) (.tmp 75) 22 5 (.int .u8 0) 1 rfl Try.underlying22 info5 rfl (by decide) (by omega) u3 x3_2 (((rd_T41 ((rd_T44 l0_2 x4_1).f3) x6_2).f0) % 256) [.int .u8 (((rd_T41 ((rd_T44 l0_2 x4_1).f3) x6_2).f0) % 256)] (fun _ => True) (fun _ => False) rfl rfl ?aP (fun _ hk => hk.elim) ?aF ?aO ?aB ?aS ?aL ?_; (case aP => exact rfl); (case aB => exact (by repeat (first | (with_reducible first | exact HB.out | apply below_alloc | apply pw_below_drewN | apply below_drew1 | refine below_set ?_ GE409.out | refine below_set ?_ GE432.out) | exact HB.out))); (case aF => exact (fun _ _ => trivial)); (case aO => exact (by (with_reducible repeat (first | apply Kd.R_alloc | apply Kd.R_drewN | apply Kd.R_drew)); exact HO_3.out)); (case aS => exact (below_size (by repeat (first | (with_reducible first | exact HB.out | apply below_alloc | apply pw_below_drewN | apply below_drew1 | refine below_set ?_ GE409.out | refine below_set ?_ GE432.out) | exact HB.out)))); (case aL => have := LMc46.out; omega); intro v447 w53 ho hb hg hat; rw [← Ny446.out] at ho; have n0_ := Aside0.mk (blk_grown (g := gb409) (o := .cells #[.int .i64 a0_0, .slice A0_1 l0_1.length c0_1, .slice (some ad431) l0_2.length c0_2] 26 (0, 0)) (by (with_reducible repeat (first | refine blk_drewN ?_ _ | refine blk_drew ?_ | refine blk_alloc ?_ _)); exact BK409.out) hg (Kd.R_ne HO_3.out BK409.out (by decide))); have n1_ := Aside0.mk (blk_grown (g := gb432) (o := .cells #[.int .i64 ((rd_T44 l0_2 x4_1).f0), .int .i64 ((rd_T44 l0_2 x4_1).f1), .int .i64 ((rd_T44 l0_2 x4_1).f2), .slice (some ad445) ((rd_T44 l0_2 x4_1).f3).length c431_3] 44 (0, 0)) (by (with_reducible repeat (first | refine blk_drewN ?_ _ | refine blk_drew ?_ | refine blk_alloc ?_ _)); exact BK432.out) hg (Kd.R_ne HO_3.out BK432.out (by decide))); have n2_ := Aside0.mk (hb); have n3_ := Aside0.mk (ho); clear BK409; clear BK432; clear HB; clear HO_3; have BK409 := n0_; have BK432 := n1_; have HB := n2_; have HO448 := n3_; clear n0_ n1_ n2_ n3_; clear ho hb hg hat; have hcz54_0 : w53.cell? ⟨gb432, 0, none⟩ = some (.int .i64 ((rd_T44 l0_2 x4_1).f0)) := (blk_cell BK432.out 0).trans rfl; have hcz54_1 : w53.cell? ⟨gb432, 1, none⟩ = some (.int .i64 ((rd_T44 l0_2 x4_1).f1)) := (blk_cell BK432.out 1).trans rfl; have hcz54_2 : w53.cell? ⟨gb432, 2, none⟩ = some (.int .i64 ((rd_T44 l0_2 x4_1).f2)) := (blk_cell BK432.out 2).trans rfl; have hcz54_3 : w53.cell? ⟨gb432, 3, none⟩ = some (.slice (some ad445) ((rd_T44 l0_2 x4_1).f3).length c431_3) := (blk_cell BK432.out 3).trans rfl; have hfz54_0 := blk_frozen BK432.out 0; have hfz54_1 := blk_frozen BK432.out 1; have hfz54_2 := blk_frozen BK432.out 2; have hfz54_3 := blk_frozen BK432.out 3; have p449 : 0 ≤ (x6_2 : Int) := of_decide_eq_true (by first | (with_reducible assumption) | assumption); have q449 : x6_2 < (((rd_T44 l0_2 x4_1).f3).length : Int) := of_decide_eq_true (by first | (with_reducible assumption) | assumption); obtain ⟨ad449, e449, hx449_0, hx449_1⟩ := at_T41 HR431_3.out x6_2 p449 q449; obtain rfl : ad445 = ad449 := (by injection e449); replace hx449_0 := (HB.out.cell (World.block_lt_of_cell? w _ hx449_0)).trans hx449_0; replace hx449_1 := (HB.out.cell (World.block_lt_of_cell? w _ hx449_1)).trans hx449_1; replace p449 := eq_true p449; replace q449 := eq_true q449) | ((with_reducible refine gate_callee (f := 29) rfl ?_); refine goesL_ (some 83) rfl rfl Try.func29 (by kernel_rfl) rfl #[.int .i64 ((rd_T41 ((rd_T44 l0_2 x4_1).f3) x6_2).f0)] rfl (by (try simp only [List.map_toArray, List.map_cons, List.map_nil]); first | done | rfl | (simp only [List.length_drop, List.length_take]; rfl)) ?_; (with_reducible refine (casementref12_Has.calls ((rd_T41 ((rd_T44 l0_2 x4_1).f3) x6_2).f0) true _ A47.out).mono ?_); rintro e w' ⟨rfl, ⟨nd, rfl⟩⟩; refine ⟨_, rfl, ?_⟩; have p451 : 0 ≤ (x6_2 : Int) := of_decide_eq_true (by first | (with_reducible assumption) | assumption); have q451 : x6_2 < (((rd_T44 l0_2 x4_1).f3).length : Int) := of_decide_eq_true (by first | (with_reducible assumption) | assumption); obtain ⟨ad451, e451, hx451_0, hx451_1⟩ := at_T41 HR431_3.out x6_2 p451 q451; obtain rfl : ad445 = ad451 := (by injection e451); replace hx451_0 := (HB.out.cell (World.block_lt_of_cell? w _ hx451_0)).trans hx451_0; replace hx451_1 := (HB.out.cell (World.block_lt_of_cell? w _ hx451_1)).trans hx451_1; replace p451 := eq_true p451; replace q451 := eq_true q451) | ((with_reducible refine gate_callee (f := 33) rfl ?_); refine goesL_ (some 91) rfl rfl Try.func33 (by kernel_rfl) rfl #[.int .i64 ((rd_T41 ((rd_T44 l0_2 x4_1).f3) x6_2).f1)] rfl (by (try simp only [List.map_toArray, List.map_cons, List.map_nil]); first | done | rfl | (simp only [List.length_drop, List.length_take]; rfl)) ?_; (with_reducible refine (casementref12_Number.calls k2 ((rd_T41 ((rd_T44 l0_2 x4_1).f3) x6_2).f1) t452 _ A49.out).mono ?_); rintro e w55 ⟨v453, rfl, ho0, hb⟩; refine ⟨_, rfl, ?_⟩; have n0_ := Aside0.mk (Kd.R_elder' (by (with_reducible repeat (first | apply Kd.R_alloc | apply Kd.R_drewN | apply Kd.R_drew)); exact HO448.out) (Kd.R_base ho0) hb); have n1_ := Aside0.mk (Kd.R_lower (Kd.R_new' ho0 (Kd.R_lt (by (with_reducible repeat (first | apply Kd.R_alloc | apply Kd.R_drewN | apply Kd.R_drew)); exact HO448.out))) (below_size (by repeat (first | (with_reducible first | exact HB.out | apply below_alloc | apply pw_below_drewN | apply below_drew1 | refine below_set ?_ GE409.out | refine below_set ?_ GE432.out) | exact HB.out)))); have n2_ := Aside0.mk (blk_below (g := gb409) (o := .cells #[.int .i64 a0_0, .slice A0_1 l0_1.length c0_1, .slice (some ad431) l0_2.length c0_2] 26 (0, 0)) (by (with_reducible repeat (first | refine blk_drewN ?_ _ | refine blk_drew ?_ | refine blk_alloc ?_ _)); exact BK409.out) hb); have n3_ := Aside0.mk (blk_below (g := gb432) (o := .cells #[.int .i64 ((rd_T44 l0_2 x4_1).f0), .int .i64 ((rd_T44 l0_2 x4_1).f1), .int .i64 ((rd_T44 l0_2 x4_1).f2), .slice (some ad445) ((rd_T44 l0_2 x4_1).f3).length c431_3] 44 (0, 0)) (by (with_reducible repeat (first | refine blk_drewN ?_ _ | refine blk_drew ?_ | refine blk_alloc ?_ _)); exact BK432.out) hb); have n4_ := Aside0.mk (below_step (by repeat (first | (with_reducible first | exact HB.out | apply below_alloc | apply pw_below_drewN | apply below_drew1 | refine below_set ?_ GE409.out | refine below_set ?_ GE432.out) | exact HB.out)) hb); clear HO448; clear BK409; clear BK432; clear HB; have HO448 := n0_; have HO454 := n1_; have BK409 := n2_; have BK432 := n3_; have HB := n4_; clear n0_ n1_ n2_ n3_ n4_; (try clear hb); (try clear hb2); (try clear hk); (try clear hi); (try clear ho0); obtain ⟨Ao56, co56, eo56⟩ := Kd.R_slice HO448.out; subst eo56; obtain ⟨Ao57, co57, eo57⟩ := Kd.R_slice HO454.out; subst eo57) | ((with_reducible refine gate_callee (f := 31) rfl ?_); refine goesL_ (some 92) rfl rfl Try.func31 (by kernel_rfl) rfl #[.slice Ao56 y446.length co56, .slice Ao57 t452.length co57] rfl (by (try simp only [List.map_toArray, List.map_cons, List.map_nil]); first | done | rfl | (simp only [List.length_drop, List.length_take]; rfl)) ?_; (with_reducible refine (casementref12_join.calls k2 (fun k_ => some k_ = (.slice Ao56 y446.length co56 : Value).ownBlock) (.slice Ao56 y446.length co56) y446 _ _ t452 t455 w _ ?side1 ?side2 ?side3 ?side4 A50.out).mono ?_); (case side1 => repeat (first | (with_reducible first | exact HB.out | apply below_alloc | apply pw_below_drewN | apply below_drew1 | refine below_set ?_ GE409.out | refine below_set ?_ GE432.out) | exact HB.out)); (case side2 => exact Kd.R_tight rfl HO448.out); (case side3 => exact Kd.C_kept_own (HO454.out) (fun k_ hk_ hs_ => (hk_.2) hs_)); (case side4 => exact (Kd.R_reads' HO454.out).2.1); rintro e w58 ⟨v456, rfl, ho0, hb, hkp⟩; refine ⟨_, rfl, ?_⟩; have n0_ := Aside0.mk (blk_kept (by (with_reducible repeat (first | refine blk_drewN ?_ _ | refine blk_drew ?_ | refine blk_alloc ?_ _)); exact BK409.out) hkp (fun hs_ => (fun e_ => (Kd.R_ne HO448.out BK409.out (by decide)) e_) hs_)); have n1_ := Aside0.mk (blk_kept (by (with_reducible repeat (first | refine blk_drewN ?_ _ | refine blk_drew ?_ | refine blk_alloc ?_ _)); exact BK432.out) hkp (fun hs_ => (fun e_ => (Kd.R_ne HO448.out BK432.out (by decide)) e_) hs_)); have n2_ := Aside0.mk (Kd.R_mono (ok' := fun k_ => some k_ ≠ (v456 : Value).ownBlock) (Kd.R_keptB (HO454.out) hkp (fun k_ hk_ hs_ => (hk_.2) hs_)) (fun k_ hk_ => fun e_ => Or.elim (ho0.1 k_ e_.symm) (fun hs_ => hk_.2.1 hs_) (fun hn_ => Nat.not_le.2 hk_.2.2 hn_))); have n3_ := Aside0.mk (Kd.R_mono (ok' := fun k_ => some k_ ≠ (.slice Ao57 t452.length co57 : Value).ownBlock) ho0 (fun k_ hk_ => Or.elim hk_ (fun hs_ => fun e_ => (((HO454.out).1 k_ e_.symm).2) hs_) (fun hn_ => (Kd.fresh' (Kd.R_lt (by (with_reducible repeat (first | apply Kd.R_alloc | apply Kd.R_drewN | apply Kd.R_drew)); exact HO454.out)) k_ hn_)))); have n4_ := Aside0.mk (hb); clear BK409; clear BK432; clear HO454; clear HB; clear HO448; have BK409 := n0_; have BK432 := n1_; have HO454 := n2_; have HO457 := n3_; have HB := n4_; clear n0_ n1_ n2_ n3_ n4_; (try clear hb); (try clear hkp); (try clear ho0)))
                          go_roundg k2
                          case measure => have := HK1.out; have := HK2.out; omega
                          case rel => exact ⟨(t455), (wrap64 (x6_2 + 1)), (by first | rfl | (simp; done) | (simp [*]; done)), H', ⟨by have := HK1.out; have := HK2.out; omega⟩, ⟨by (with_reducible repeat (first | apply Kd.R_alloc | apply Kd.R_drewN | apply Kd.R_drew)); exact Kd.R_mono HO457.out (fun _ hk => trivial)⟩, ⟨by (with_reducible repeat (first | refine blk_drewN ?_ _ | refine blk_drew ?_ | refine blk_alloc ?_ _)); exact BK409.out⟩, ⟨by (with_reducible repeat (first | refine blk_drewN ?_ _ | refine blk_drew ?_ | refine blk_alloc ?_ _)); exact BK432.out⟩, ⟨by repeat (first | (with_reducible first | exact HB.out | apply below_alloc | apply pw_below_drewN | apply below_drew1 | refine below_set ?_ GE409.out | refine below_set ?_ GE432.out) | exact HB.out)⟩⟩
                        · replace c48 := Bool.eq_false_iff.mpr c48
                          subst c48
                          have H1 : (casementref12_Bytes.l1 k2 y446 x4_1 (wrap64 (x6_2 + 1)) a0_0 l0_1 l0_2 ((rd_T44 l0_2 x4_1).f0) ((rd_T44 l0_2 x4_1).f1) ((rd_T44 l0_2 x4_1).f2) ((rd_T44 l0_2 x4_1).f3)) = some r := by rw [if_neg (show ¬ (false = true) by decide)] at H; exact H
                          clear H
                          have H := H1
                          clear H1
                          have H' := Aside0.mk H
                          clear H
                          have hnb59 := NB432_409.out
                          have hnc59 := NB409_432.out
                          have hcz60_0 : wr.cell? ⟨gb432, 0, none⟩ = some (.int .i64 ((rd_T44 l0_2 x4_1).f0)) := (blk_cell BK432.out 0).trans rfl
                          have hcz60_1 : wr.cell? ⟨gb432, 1, none⟩ = some (.int .i64 ((rd_T44 l0_2 x4_1).f1)) := (blk_cell BK432.out 1).trans rfl
                          have hcz60_2 : wr.cell? ⟨gb432, 2, none⟩ = some (.int .i64 ((rd_T44 l0_2 x4_1).f2)) := (blk_cell BK432.out 2).trans rfl
                          have hcz60_3 : wr.cell? ⟨gb432, 3, none⟩ = some (.slice A431_3 ((rd_T44 l0_2 x4_1).f3).length c431_3) := (blk_cell BK432.out 3).trans rfl
                          have hfz60_0 := blk_frozen BK432.out 0
                          have hfz60_1 := blk_frozen BK432.out 1
                          have hfz60_2 := blk_frozen BK432.out 2
                          have hfz60_3 := blk_frozen BK432.out 3
                          have p445 : 0 ≤ (x6_2 : Int) := of_decide_eq_true (by first | (with_reducible assumption) | assumption)
                          have q445 : x6_2 < (((rd_T44 l0_2 x4_1).f3).length : Int) := of_decide_eq_true (by first | (with_reducible assumption) | assumption)
                          obtain ⟨ad445, e445, hx445_0, hx445_1⟩ := at_T41 HR431_3.out x6_2 p445 q445
                          cases e445
                          replace hx445_0 := (HB.out.cell (World.block_lt_of_cell? w _ hx445_0)).trans hx445_0
                          replace hx445_1 := (HB.out.cell (World.block_lt_of_cell? w _ hx445_1)).trans hx445_1
                          replace p445 := eq_true p445
                          replace q445 := eq_true q445
                          go_wp2_with (first | ((with_reducible refine gate_builtin (b := .append) (xs := #[.tmp 67, .tmp 75]) rfl ?_); at_builtin; refine Kd.R_append (Kd.int .u8) (w0 := w) w.heap.size rfl (.tmp 67) (.tmp 75) 22 5 (.int .u8 0) 1 rfl Try.underlying22 info5 rfl (by decide) (by omega) u3 x3_2 (((rd_T41 ((rd_T44 l0_2 x4_1).f3) x6_2).f0) % 256) [.int .u8 (((rd_T41 ((rd_T44 l0_2 x4_1).f3) x6_2).f0) % 256)] (fun _ => True) (fun _ => False) rfl rfl ?aP (fun _ hk => hk.elim) ?aF ?aO ?aB ?aS ?aL ?_; (case aP => exact rfl); (case aB => exact (by repeat (first | (with_reducible first | exact HB.out | apply below_alloc | apply pw_below_drewN | apply below_drew1 | refine below_set ?_ GE409.out | refine below_set ?_ GE432.out) | exact HB.out))); (case aF => exact (fun _ _ => trivial)); (case aO => exact (by (with_reducible repeat (first | apply Kd.R_alloc | apply Kd.R_drewN | apply Kd.R_drew)); exact HO_3.out)); (case aS => exact (below_size (by repeat (first | (with_reducible first | exact HB.out | apply below_alloc | apply pw_below_drewN | apply below_drew1 | refine below_set ?_ GE409.out | refine below_set ?_ GE432.out) | exact HB.out)))); (case aL => have := LMc46.out; omega); intro v447 w61 ho hb hg hat; rw [← Ny446.out] at ho; have n0_ := Aside0.mk (blk_grown (g := gb409) (o := .cells #[.int .i64 a0_0, .slice A0_1 l0_1.length c0_1, .slice (some ad431) l0_2.length c0_2] 26 (0, 0)) (by (with_reducible repeat (first | refine blk_drewN ?_ _ | refine blk_drew ?_ | refine blk_alloc ?_ _)); exact BK409.out) hg (Kd.R_ne HO_3.out BK409.out (by decide))); have n1_ := Aside0.mk (blk_grown (g := gb432) (o := .cells #[.int .i64 ((rd_T44 l0_2 x4_1).f0), .int .i64 ((rd_T44 l0_2 x4_1).f1), .int .i64 ((rd_T44 l0_2 x4_1).f2), .slice (some ad445) ((rd_T44 l0_2 x4_1).f3).length c431_3] 44 (0, 0)) (by (with_reducible repeat (first | refine blk_drewN ?_ _ | refine blk_drew ?_ | refine blk_alloc ?_ _)); exact BK432.out) hg (Kd.R_ne HO_3.out BK432.out (by decide))); have n2_ := Aside0.mk (hb); have n3_ := Aside0.mk (ho); clear BK409; clear BK432; clear HB; clear HO_3; have BK409 := n0_; have BK432 := n1_; have HB := n2_; have HO448 := n3_; clear n0_ n1_ n2_ n3_; clear ho hb hg hat; have hcz62_0 : w61.cell? ⟨gb432, 0, none⟩ = some (.int .i64 ((rd_T44 l0_2 x4_1).f0)) := (blk_cell BK432.out 0).trans rfl; have hcz62_1 : w61.cell? ⟨gb432, 1, none⟩ = some (.int .i64 ((rd_T44 l0_2 x4_1).f1)) := (blk_cell BK432.out 1).trans rfl; have hcz62_2 : w61.cell? ⟨gb432, 2, none⟩ = some (.int .i64 ((rd_T44 l0_2 x4_1).f2)) := (blk_cell BK432.out 2).trans rfl; have hcz62_3 : w61.cell? ⟨gb432, 3, none⟩ = some (.slice (some ad445) ((rd_T44 l0_2 x4_1).f3).length c431_3) := (blk_cell BK432.out 3).trans rfl; have hfz62_0 := blk_frozen BK432.out 0; have hfz62_1 := blk_frozen BK432.out 1; have hfz62_2 := blk_frozen BK432.out 2; have hfz62_3 := blk_frozen BK432.out 3; have p449 : 0 ≤ (x6_2 : Int) := of_decide_eq_true (by first | (with_reducible assumption) | assumption); have q449 : x6_2 < (((rd_T44 l0_2 x4_1).f3).length : Int) := of_decide_eq_true (by first | (with_reducible assumption) | assumption); obtain ⟨ad449, e449, hx449_0, hx449_1⟩ := at_T41 HR431_3.out x6_2 p449 q449; obtain rfl : ad445 = ad449 := (by injection e449); replace hx449_0 := (HB.out.cell (World.block_lt_of_cell? w _ hx449_0)).trans hx449_0; replace hx449_1 := (HB.out.cell (World.block_lt_of_cell? w _ hx449_1)).trans hx449_1; replace p449 := eq_true p449; replace q449 := eq_true q449) | ((with_reducible refine gate_callee (f := 29) rfl ?_); refine goesL_ (some 83) rfl rfl Try.func29 (by kernel_rfl) rfl #[.int .i64 ((rd_T41 ((rd_T44 l0_2 x4_1).f3) x6_2).f0)] rfl (by (try simp only [List.map_toArray, List.map_cons, List.map_nil]); first | done | rfl | (simp only [List.length_drop, List.length_take]; rfl)) ?_; (with_reducible refine (casementref12_Has.calls ((rd_T41 ((rd_T44 l0_2 x4_1).f3) x6_2).f0) false _ A47.out).mono ?_); rintro e w' ⟨rfl, ⟨nd, rfl⟩⟩; refine ⟨_, rfl, ?_⟩))
                          go_roundg k2
                          case measure => have := HK1.out; have := HK2.out; omega
                          case rel => exact ⟨(y446), (wrap64 (x6_2 + 1)), (by first | rfl | (simp; done) | (simp [*]; done)), H', ⟨by have := HK1.out; have := HK2.out; omega⟩, ⟨by (with_reducible repeat (first | apply Kd.R_alloc | apply Kd.R_drewN | apply Kd.R_drew)); exact HO448.out⟩, ⟨by (with_reducible repeat (first | refine blk_drewN ?_ _ | refine blk_drew ?_ | refine blk_alloc ?_ _)); exact BK409.out⟩, ⟨by (with_reducible repeat (first | refine blk_drewN ?_ _ | refine blk_drew ?_ | refine blk_alloc ?_ _)); exact BK432.out⟩, ⟨by repeat (first | (with_reducible first | exact HB.out | apply below_alloc | apply pw_below_drewN | apply below_drew1 | refine below_set ?_ GE409.out | refine below_set ?_ GE432.out) | exact HB.out)⟩⟩
                      · rw [if_neg c46] at H
                        exact absurd H (by simp)
                    · rw [if_neg c45] at H
                      exact absurd H (by simp)
                  · rw [if_neg c44] at H
                    have c44b0 : decide (x6_2 < (((rd_T44 l0_2 x4_1).f3).length : Int)) = false := decide_eq_false c44
                    clear c44
                    have H' := Aside0.mk H
                    clear H
                    have hnb63 := NB432_409.out
                    have hnc63 := NB409_432.out
                    have hcz64_0 : wr.cell? ⟨gb432, 0, none⟩ = some (.int .i64 ((rd_T44 l0_2 x4_1).f0)) := (blk_cell BK432.out 0).trans rfl
                    have hcz64_1 : wr.cell? ⟨gb432, 1, none⟩ = some (.int .i64 ((rd_T44 l0_2 x4_1).f1)) := (blk_cell BK432.out 1).trans rfl
                    have hcz64_2 : wr.cell? ⟨gb432, 2, none⟩ = some (.int .i64 ((rd_T44 l0_2 x4_1).f2)) := (blk_cell BK432.out 2).trans rfl
                    have hcz64_3 : wr.cell? ⟨gb432, 3, none⟩ = some (.slice A431_3 ((rd_T44 l0_2 x4_1).f3).length c431_3) := (blk_cell BK432.out 3).trans rfl
                    have hfz64_0 := blk_frozen BK432.out 0
                    have hfz64_1 := blk_frozen BK432.out 1
                    have hfz64_2 := blk_frozen BK432.out 2
                    have hfz64_3 := blk_frozen BK432.out 3
                    go_wp2
                    go_roundg k2
                    case measure => have := HK1.out; have := HK2.out; omega
                    case rel => exact ⟨(x3_2), (wrap64 (x4_1 + 1)), (by first | rfl | (simp; done) | (simp [*]; done)), H', ⟨by have := HK1.out; have := HK2.out; omega⟩, ⟨by (with_reducible repeat (first | apply Kd.R_alloc | apply Kd.R_drewN | apply Kd.R_drew)); exact HO_3.out⟩, ⟨by (with_reducible repeat (first | refine blk_drewN ?_ _ | refine blk_drew ?_ | refine blk_alloc ?_ _)); exact BK409.out⟩, ⟨by repeat (first | (with_reducible first | exact HB.out | apply below_alloc | apply pw_below_drewN | apply below_drew1 | refine below_set ?_ GE409.out | refine below_set ?_ GE432.out) | exact HB.out)⟩⟩
            · rw [if_neg c28] at H
              exact absurd H (by simp)
          · rw [if_neg c27] at H
            exact absurd H (by simp)
        · rw [if_neg c26] at H
          have c26b0 : decide (x4_1 < (l0_2.length : Int)) = false := decide_eq_false c26
          clear c26
          obtain rfl := Option.some.inj H
          have hcz65_0 : wr.cell? ⟨gb409, 0, none⟩ = some (.int .i64 a0_0) := (blk_cell BK409.out 0).trans rfl
          have hcz65_1 : wr.cell? ⟨gb409, 1, none⟩ = some (.slice A0_1 l0_1.length c0_1) := (blk_cell BK409.out 1).trans rfl
          have hcz65_2 : wr.cell? ⟨gb409, 2, none⟩ = some (.slice A0_2 l0_2.length c0_2) := (blk_cell BK409.out 2).trans rfl
          have hfz65_0 := blk_frozen BK409.out 0
          have hfz65_1 := blk_frozen BK409.out 1
          have hfz65_2 := blk_frozen BK409.out 2
          go_wp2
          go_ret
          exact ⟨_, by first | rfl | (simp [errW_none, errW_some] <;> rfl) | (simp [*, errW_none, errW_some] <;> rfl), by (with_reducible repeat (first | apply Kd.R_alloc | apply Kd.R_drewN | apply Kd.R_drew)); exact HO_3.out, by repeat (first | (with_reducible first | exact HB.out | apply below_alloc | apply pw_below_drewN | apply below_drew1 | refine below_set ?_ GE409.out) | exact HB.out)⟩
  · rw [if_neg c7] at H
    exact absurd H (by simp)

end Go.Proofs.Ytbdkphjpdoajpaa.Q
