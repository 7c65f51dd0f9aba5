-- written by a program of this session after the way of the kit's print; not the kit's own print. Lean checks it.
import Derived.Test.YtmokmkaipcojkaaQx0
import Derived.Test.YtmokmkaipcojkaaQx16
import Derived.Test.YtmokmkaipcojkaaQx33
import Derived.Test.YtmokmkaipcojkaaQx34
namespace Go.Proofs.Ytmokmkaipcojkaa.Q
open Go.RowKit Go.Proofs.YtmokmkaipcojkaaW.PrintWords Go.Proofs.YtmokmkaipcojkaaW.PrintLast Go.Proofs.YtmokmkaipcojkaaW.PrintMore
attribute [local go_sem] max2_int min2_int max_two min_two max_three min_three max_four min_four   -- for this text's walks alone
set_option linter.unusedVariables false
set_option linter.unusedSimpArgs false

/-! ### casementref02_Cut: function 32 -/
mutual
def casementref02_Cut.l0 : Nat → List Int → Bool → List (S26) → Int → Int → Int → Int → Int → Option ((List (S26)))
  | 0, _, _, _, _, _, _, _, _ => none
  | k + 1, x1, x2, x7, x8, x492000, x492001, x492002, x492003 => if x8 < (x1.length : Int) then (casementref02_Cut.j1 k x1 x2 x7 x8 (decide (x8 < 16)) x492000 x492001 x492002 x492003) else (casementref02_Cut.j1 k x1 x2 x7 x8 false x492000 x492001 x492002 x492003)
def casementref02_Cut.j1 : Nat → List Int → Bool → List (S26) → Int → Bool → Int → Int → Int → Int → Option ((List (S26)))
  | 0, _, _, _, _, _, _, _, _, _ => none
  | k + 1, x1, x2, x7, x8, x18, x492000, x492001, x492002, x492003 => if x18 = true then (if 0 ≤ x8 then (if x8 < (x1.length : Int) then ((casementref02_high.f (rd x1 x8) 0).bind fun t496 => (if x2 = true then ((casementref02_low.f t496 x492003).bind fun t497 => ((casementref02_Clean.f k x492000 x492001 x492002 t497).bind fun bt498 => (if x7.length < 4398046511104 then (casementref02_Cut.l0 k x1 x2 (x7 ++ [(⟨bt498.1, bt498.2.1, bt498.2.2.1, bt498.2.2.2⟩ : S26)]) (wrap64 (x8 + 1)) x492000 (wrap64 (x492001 + t497)) x492002 (wrap64 (x492003 - t497))) else (none)))) else ((casementref02_low.f t496 x492002).bind fun t505 => ((casementref02_Clean.f k x492000 x492001 t505 x492003).bind fun bt506 => (if x7.length < 4398046511104 then (casementref02_Cut.l0 k x1 x2 (x7 ++ [(⟨bt506.1, bt506.2.1, bt506.2.2.1, bt506.2.2.2⟩ : S26)]) (wrap64 (x8 + 1)) (wrap64 (x492000 + t505)) x492001 (wrap64 (x492002 - t505)) x492003) else (none)))))) else (none)) else (none)) else (some x7)
end
def casementref02_Cut.f (k : Nat) (a0_0 : Int) (a0_1 : Int) (a0_2 : Int) (a0_3 : Int) (l1 : List Int) (a2 : Bool) : Option ((List (S26))) := casementref02_Cut.l0 k l1 a2 (([] : List (S26))) 0 a0_0 a0_1 a0_2 a0_3
theorem casementref02_Cut.mono_l : ∀ k, (∀ y0 y1 y2 y3 y4 y5 y6 y7, LeO (casementref02_Cut.l0 k y0 y1 y2 y3 y4 y5 y6 y7) (casementref02_Cut.l0 (k + 1) y0 y1 y2 y3 y4 y5 y6 y7)) ∧ (∀ y0 y1 y2 y3 y4 y5 y6 y7 y8, LeO (casementref02_Cut.j1 k y0 y1 y2 y3 y4 y5 y6 y7 y8) (casementref02_Cut.j1 (k + 1) y0 y1 y2 y3 y4 y5 y6 y7 y8))
  | 0 => ⟨fun _ _ _ _ _ _ _ _ r h => by simp [casementref02_Cut.l0] at h, fun _ _ _ _ _ _ _ _ _ r h => by simp [casementref02_Cut.j1] at h⟩
  | k + 1 => by
    obtain ⟨ih0, ih1⟩ := casementref02_Cut.mono_l k
    refine ⟨?_, ?_⟩
    · intro y0 y1 y2 y3 y4 y5 y6 y7
      unfold casementref02_Cut.l0
      repeat' first
      | (with_reducible exact ih0 _ _ _ _ _ _ _ _)
      | (with_reducible exact ih1 _ _ _ _ _ _ _ _ _)
      | (with_reducible exact casementref02_Clean.mono _ _ _ _ _)
      | (with_reducible exact LeO.refl _)
      | (with_reducible exact LeO.none _)
      | (with_reducible refine LeO.ite ?_ ?_)
      | (with_reducible refine LeO.bind ?_ (fun _ => ?_))
      | exact ih0 _ _ _ _ _ _ _ _
      | exact ih1 _ _ _ _ _ _ _ _ _
      | exact casementref02_Clean.mono _ _ _ _ _
      | exact LeO.none _
      | refine LeO.ite ?_ ?_
      | refine LeO.bind ?_ (fun _ => ?_)
    · intro y0 y1 y2 y3 y4 y5 y6 y7 y8
      unfold casementref02_Cut.j1
      repeat' first
      | (with_reducible exact ih0 _ _ _ _ _ _ _ _)
      | (with_reducible exact ih1 _ _ _ _ _ _ _ _ _)
      | (with_reducible exact casementref02_Clean.mono _ _ _ _ _)
      | (with_reducible exact LeO.refl _)
      | (with_reducible exact LeO.none _)
      | (with_reducible refine LeO.ite ?_ ?_)
      | (with_reducible refine LeO.bind ?_ (fun _ => ?_))
      | exact ih0 _ _ _ _ _ _ _ _
      | exact ih1 _ _ _ _ _ _ _ _ _
      | exact casementref02_Clean.mono _ _ _ _ _
      | exact LeO.none _
      | refine LeO.ite ?_ ?_
      | refine LeO.bind ?_ (fun _ => ?_)
theorem casementref02_Cut.mono : ∀ a0 a1 a2 a3 a4 a5 k, LeO (casementref02_Cut.f k a0 a1 a2 a3 a4 a5) (casementref02_Cut.f (k + 1) a0 a1 a2 a3 a4 a5) := by
  intro a0 a1 a2 a3 a4 a5 k
  obtain ⟨ih0, ih1⟩ := casementref02_Cut.mono_l k
  unfold casementref02_Cut.f
  repeat' first
      | (with_reducible exact ih0 _ _ _ _ _ _ _ _)
      | (with_reducible exact ih1 _ _ _ _ _ _ _ _ _)
      | (with_reducible exact casementref02_Clean.mono _ _ _ _ _)
      | (with_reducible exact LeO.refl _)
      | (with_reducible exact LeO.none _)
      | (with_reducible refine LeO.ite ?_ ?_)
      | (with_reducible refine LeO.bind ?_ (fun _ => ?_))
      | exact ih0 _ _ _ _ _ _ _ _
      | exact ih1 _ _ _ _ _ _ _ _ _
      | exact casementref02_Clean.mono _ _ _ _ _
      | exact LeO.none _
      | refine LeO.ite ?_ ?_
      | refine LeO.bind ?_ (fun _ => ?_)
set_option maxHeartbeats 8000000 in
set_option maxRecDepth 100000 in
theorem casementref02_Cut.calls (k : Nat) (a0_0 : Int) (a0_1 : Int) (a0_2 : Int) (a0_3 : Int) (A1 : Option Addr) (c1 : Nat) (l1 : List Int) (a2 : Bool) (r : List (S26)) (w : World) (hr1 : Kd.C (Kd.int .i64) w A1 l1.length l1) (hc1 : l1.length ≤ c1) (h : casementref02_Cut.f k a0_0 a0_1 a0_2 a0_3 l1 a2 = some r) :
    Calls Try.prog 32 #[.agg #[.int .i64 a0_0, .int .i64 a0_1, .int .i64 a0_2, .int .i64 a0_3], .slice A1 l1.length c1, .bool a2] w fun e w' => ∃ v0_ : Value, e = .returned (v0_) ∧ Kd.R k26 26 w' w.heap.size (fun _ => True) v0_ r ∧ Below w.heap.size w w' := by
  have hu26 := Try.underlying26
  have HR1 := Aside0.mk hr1
  have HC1 := Aside0.mk hc1
  clear hr1 hc1
  have HB := Aside0.mk (Below.refl w.heap.size w)
  have H : (casementref02_Cut.l0 k l1 a2 (([] : List (S26))) 0 a0_0 a0_1 a0_2 a0_3) = some r := h
  clear h
  obtain ⟨y492, hy492⟩ : ∃ y_ : List (S26), y_ = (([] : List (S26))) := ⟨_, rfl⟩
  replace H : (casementref02_Cut.l0 k l1 a2 y492 0 a0_0 a0_1 a0_2 a0_3) = some r := by first | (rw [hy492]; with_reducible exact H) | (have H2_ := (Option.bind_some _ _).symm.trans H; rw [hy492]; with_reducible exact H2_) | (have H2_ := (Option.bind_some _ _).symm.trans H; with_reducible exact H2_) | with_reducible exact H | (rw [hy492]; exact H) | exact H
  have Ny492 := Aside0.mk hy492
  clear hy492
  have H' := Aside0.mk H
  clear H
  go_enter Try.func32, Try.ntmps32
  go_wp2_with (first | ((with_reducible refine gate_dst (N := 3) rfl ?_); refine box_event ?hg (N := 3) ?hd (cs := #[.int .i64 a0_0, .int .i64 a0_1, .int .i64 a0_2, .int .i64 a0_3]) (t := 26) ?hr ?_; (case hd => rfl); (case hg => rfl); (case hr => first | (go_simp; done) | (go_simp; rfl)); intro gb491 hg w4 hbox hb; have n0_ := Aside0.mk (below_step (by repeat (first | (with_reducible first | exact HB.out | apply below_alloc | apply pw_below_drewN | apply below_drew1) | exact HB.out)) hb); have n1_ := Aside0.mk (hbox); have n2_ := Aside0.mk ((by rw [hg]; exact (below_size (by repeat (first | (with_reducible first | exact HB.out | apply below_alloc | apply pw_below_drewN | apply below_drew1) | exact HB.out))) : w.heap.size ≤ gb491)); have n3_ := Aside0.mk ((by rw [hg]; exact (below_size (by repeat (first | (with_reducible first | exact HB.out | apply below_alloc | apply pw_below_drewN | apply below_drew1) | exact HB.out))) : w.heap.size ≤ gb491)); clear HB; have HB := n0_; have BK491 := n1_; have GW491 := n2_; have GE491 := n3_; clear n0_ n1_ n2_ n3_; clear hb hbox hg) | ((with_reducible refine gate_dst (N := 10) rfl ?_); refine Kd.R_lit k26 _ 26 ?hg (N := 10) ?hd (xs := ([] : List (S26))) (inner := []) (ok := fun _ => True) (okp := fun _ => True) ?hr ?hp (fun _ hk => hk) trivial (Below.refl _ _) (Nat.le_refl _) (by simp) ?_; (case hd => rfl); (case hg => rfl); (case hr => first | (go_simp; done) | (go_simp; rfl)); (case hp => exact (Reps.none _ _)); intro v493 w5 ho6 hb hg_ hnew_; clear hg_ hnew_; (first | rw [← Ny492.out] at ho6 | (simp only [Int.reduceToNat] at ho6; rw [← Ny492.out] at ho6)); have n0_ := Aside0.mk (Kd.R_lower (Kd.R_newB ho6 (g := gb491) (o := .cells #[.int .i64 a0_0, .int .i64 a0_1, .int .i64 a0_2, .int .i64 a0_3] 26 (0, 0)) (by (with_reducible repeat (first | refine blk_drewN ?_ _ | refine blk_drew ?_ | refine blk_alloc ?_ _)); exact BK491.out)) (below_size (by repeat (first | (with_reducible first | exact HB.out | apply below_alloc | apply pw_below_drewN | apply below_drew1 | refine below_set ?_ GE491.out) | exact HB.out)))); have n1_ := Aside0.mk (blk_below (g := gb491) (o := .cells #[.int .i64 a0_0, .int .i64 a0_1, .int .i64 a0_2, .int .i64 a0_3] 26 (0, 0)) (by (with_reducible repeat (first | refine blk_drewN ?_ _ | refine blk_drew ?_ | refine blk_alloc ?_ _)); exact BK491.out) hb); have n2_ := Aside0.mk (below_step (by repeat (first | (with_reducible first | exact HB.out | apply below_alloc | apply pw_below_drewN | apply below_drew1 | refine below_set ?_ GE491.out) | exact HB.out)) hb); clear BK491; clear HB; have HO494 := n0_; have BK491 := n1_; have HB := n2_; clear n0_ n1_ n2_; clear hb ho6))
  go_loopg [7, 8] k (fun kq v7 v8 w' => ∃ (x7_1 : List (S26)) (x8_1 : Int) (x492000_1 : Int) (x492001_1 : Int) (x492002_1 : Int) (x492003_1 : Int), v8 = .int .i64 x8_1 ∧ Aside0 (casementref02_Cut.l0 kq l1 a2 x7_1 x8_1 x492000_1 x492001_1 x492002_1 x492003_1 = some r) ∧ Aside0 (kq ≤ k) ∧ Aside0 (Kd.R k26 26 w' w.heap.size (fun k_ => k_ ≠ gb491) v7 x7_1) ∧ Aside0 (w'.heap[gb491]? = some (.cells #[.int .i64 x492000_1, .int .i64 x492001_1, .int .i64 x492002_1, .int .i64 x492003_1] 26 (0, 0))) ∧ Aside0 (Below w.heap.size w w'))
  case atStart => exact ⟨(y492), (0), (a0_0), (a0_1), (a0_2), (a0_3), (by first | rfl | (simp; done) | (simp [*]; done)), H', ⟨Nat.le_refl _⟩, ⟨by (with_reducible repeat (first | apply Kd.R_alloc | apply Kd.R_drewN | apply Kd.R_drew)); exact Kd.R_mono HO494.out (fun _ hk => hk.2)⟩, ⟨by (with_reducible repeat (first | refine blk_drewN ?_ _ | refine blk_drew ?_ | refine blk_alloc ?_ _)); exact BK491.out⟩, ⟨by repeat (first | (with_reducible first | exact HB.out | apply below_alloc | apply pw_below_drewN | apply below_drew1 | refine below_set ?_ GE491.out) | exact HB.out)⟩⟩
  case round =>
    clear H'
    try clear c1
    try clear p2
    try clear c3
    obtain ⟨x7_1, x8_1, x492000_1, x492001_1, x492002_1, x492003_1, rfl, HA, HK1, HO_7, BK491, HB⟩ := hrel
    cases gk with
    | zero => exact absurd HA.out (by simp [casementref02_Cut.l0])
    | succ k1 =>
      have H := HA.out
      clear HA
      simp only [casementref02_Cut.l0] at H
      have HC7 := Aside0.mk H
      clear H
      go_upto_region 3 with (fail)
      go_cut [18] (fun v18 wc => ∃ (kq : Nat) (x18_6 : Bool), v18 = .bool x18_6 ∧ Aside0 (casementref02_Cut.j1 kq l1 a2 x7_1 x8_1 x18_6 x492000_1 x492001_1 x492002_1 x492003_1 = some r) ∧ Aside0 (kq ≤ k1) ∧ Aside0 (Kd.R k26 26 wc w.heap.size (fun k_ => k_ ≠ gb491) u7 x7_1) ∧ Aside0 (wc.heap[gb491]? = some (.cells #[.int .i64 x492000_1, .int .i64 x492001_1, .int .i64 x492002_1, .int .i64 x492003_1] 26 (0, 0))) ∧ Aside0 (Below w.heap.size w wc))
      case first =>
        have H := HC7.out
        clear HC7
        by_cases c8 : x8_1 < (l1.length : Int)
        · rw [if_pos c8] at H
          have c8b0 : decide (x8_1 < (l1.length : Int)) = true := decide_eq_true c8
          clear c8
          (first | rw [c8b0] | (simp only [i64_w, i32_w]; rw [c8b0]) | skip)
          have H' := Aside0.mk H
          clear H
          go_wp2
          go_meet
          case rel => exact ⟨_, (decide (x8_1 < 16)), (by first | rfl | (simp; done) | (simp [*]; done)), H', ⟨by have := HK1.out; first | omega | exact Nat.le_refl _⟩, ⟨by (with_reducible repeat (first | apply Kd.R_alloc | apply Kd.R_drewN | apply Kd.R_drew)); exact HO_7.out⟩, ⟨by (with_reducible repeat (first | refine blk_drewN ?_ _ | refine blk_drew ?_ | refine blk_alloc ?_ _)); exact BK491.out⟩, ⟨by repeat (first | (with_reducible first | exact HB.out | apply below_alloc | apply pw_below_drewN | apply below_drew1 | refine below_set ?_ GE491.out) | exact HB.out)⟩⟩
        · rw [if_neg c8] at H
          have c8b0 : decide (x8_1 < (l1.length : Int)) = false := decide_eq_false c8
          clear c8
          (first | rw [c8b0] | (simp only [i64_w, i32_w]; rw [c8b0]) | skip)
          have H' := Aside0.mk H
          clear H
          go_wp2
          go_meet
          case rel => exact ⟨_, (false), (by first | rfl | (simp; done) | (simp [*]; done)), H', ⟨by have := HK1.out; first | omega | exact Nat.le_refl _⟩, ⟨by (with_reducible repeat (first | apply Kd.R_alloc | apply Kd.R_drewN | apply Kd.R_drew)); exact HO_7.out⟩, ⟨by (with_reducible repeat (first | refine blk_drewN ?_ _ | refine blk_drew ?_ | refine blk_alloc ?_ _)); exact BK491.out⟩, ⟨by repeat (first | (with_reducible first | exact HB.out | apply below_alloc | apply pw_below_drewN | apply below_drew1 | refine below_set ?_ GE491.out) | exact HB.out)⟩⟩
      case rest =>
        clear HC7
        try clear c1
        try clear p2
        try clear c3
        try clear c8
        try clear c8b0
        try clear p2
        obtain ⟨kq, x18_6, rfl, HA, HJ6, HO_7, BK491, HB⟩ := hcut
        cases kq with
        | zero => exact absurd HA.out (by simp [casementref02_Cut.j1])
        | succ kj6 =>
          have H := HA.out
          clear HA
          simp only [casementref02_Cut.j1] at H
          by_cases c9 : x18_6 = true
          · subst c9
            have H1 : (if 0 ≤ x8_1 then (if x8_1 < (l1.length : Int) then ((casementref02_high.f (rd l1 x8_1) 0).bind fun t496 => (if a2 = true then ((casementref02_low.f t496 x492003_1).bind fun t497 => ((casementref02_Clean.f kj6 x492000_1 x492001_1 x492002_1 t497).bind fun bt498 => (if x7_1.length < 4398046511104 then (casementref02_Cut.l0 kj6 l1 a2 (x7_1 ++ [(⟨bt498.1, bt498.2.1, bt498.2.2.1, bt498.2.2.2⟩ : S26)]) (wrap64 (x8_1 + 1)) x492000_1 (wrap64 (x492001_1 + t497)) x492002_1 (wrap64 (x492003_1 - t497))) else (none)))) else ((casementref02_low.f t496 x492002_1).bind fun t505 => ((casementref02_Clean.f kj6 x492000_1 x492001_1 t505 x492003_1).bind fun bt506 => (if x7_1.length < 4398046511104 then (casementref02_Cut.l0 kj6 l1 a2 (x7_1 ++ [(⟨bt506.1, bt506.2.1, bt506.2.2.1, bt506.2.2.2⟩ : S26)]) (wrap64 (x8_1 + 1)) (wrap64 (x492000_1 + t505)) x492001_1 (wrap64 (x492002_1 - t505)) x492003_1) else (none)))))) else (none)) else (none)) = some r := by rw [if_pos rfl] at H; exact H
            clear H
            have H := H1
            clear H1
            by_cases c10 : 0 ≤ x8_1
            · rw [if_pos c10] at H
              have c10b0 : decide (0 ≤ x8_1) = true := decide_eq_true c10
              clear c10
              by_cases c11 : x8_1 < (l1.length : Int)
              · rw [if_pos c11] at H
                have c11b0 : decide (x8_1 < (l1.length : Int)) = true := decide_eq_true c11
                clear c11
                replace H := Option.bind_eq_some_iff.mp H
                obtain ⟨t496, A120, H⟩ := H
                replace H : (if a2 = true then ((casementref02_low.f t496 x492003_1).bind fun t497 => ((casementref02_Clean.f kj6 x492000_1 x492001_1 x492002_1 t497).bind fun bt498 => (if x7_1.length < 4398046511104 then (casementref02_Cut.l0 kj6 l1 a2 (x7_1 ++ [(⟨bt498.1, bt498.2.1, bt498.2.2.1, bt498.2.2.2⟩ : S26)]) (wrap64 (x8_1 + 1)) x492000_1 (wrap64 (x492001_1 + t497)) x492002_1 (wrap64 (x492003_1 - t497))) else (none)))) else ((casementref02_low.f t496 x492002_1).bind fun t505 => ((casementref02_Clean.f kj6 x492000_1 x492001_1 t505 x492003_1).bind fun bt506 => (if x7_1.length < 4398046511104 then (casementref02_Cut.l0 kj6 l1 a2 (x7_1 ++ [(⟨bt506.1, bt506.2.1, bt506.2.2.1, bt506.2.2.2⟩ : S26)]) (wrap64 (x8_1 + 1)) (wrap64 (x492000_1 + t505)) x492001_1 (wrap64 (x492002_1 - t505)) x492003_1) else (none))))) = some r := H
                have A12 := Aside0.mk A120
                clear A120
                by_cases c13 : a2 = true
                · subst c13
                  have H1 : ((casementref02_low.f t496 x492003_1).bind fun t497 => ((casementref02_Clean.f kj6 x492000_1 x492001_1 x492002_1 t497).bind fun bt498 => (if x7_1.length < 4398046511104 then (casementref02_Cut.l0 kj6 l1 true (x7_1 ++ [(⟨bt498.1, bt498.2.1, bt498.2.2.1, bt498.2.2.2⟩ : S26)]) (wrap64 (x8_1 + 1)) x492000_1 (wrap64 (x492001_1 + t497)) x492002_1 (wrap64 (x492003_1 - t497))) else (none)))) = some r := by rw [if_pos rfl] at H; exact H
                  clear H
                  have H := H1
                  clear H1
                  replace H := Option.bind_eq_some_iff.mp H
                  obtain ⟨t497, A140, H⟩ := H
                  replace H : ((casementref02_Clean.f kj6 x492000_1 x492001_1 x492002_1 t497).bind fun bt498 => (if x7_1.length < 4398046511104 then (casementref02_Cut.l0 kj6 l1 true (x7_1 ++ [(⟨bt498.1, bt498.2.1, bt498.2.2.1, bt498.2.2.2⟩ : S26)]) (wrap64 (x8_1 + 1)) x492000_1 (wrap64 (x492001_1 + t497)) x492002_1 (wrap64 (x492003_1 - t497))) else (none))) = some r := H
                  have A14 := Aside0.mk A140
                  clear A140
                  replace H := Option.bind_eq_some_iff.mp H
                  obtain ⟨⟨t498, t499, t500, t501⟩, A150, H⟩ := H
                  replace H : (if x7_1.length < 4398046511104 then (casementref02_Cut.l0 kj6 l1 true (x7_1 ++ [(⟨t498, t499, t500, t501⟩ : S26)]) (wrap64 (x8_1 + 1)) x492000_1 (wrap64 (x492001_1 + t497)) x492002_1 (wrap64 (x492003_1 - t497))) else (none)) = some r := H
                  have A15 := Aside0.mk A150
                  clear A150
                  by_cases c16 : x7_1.length < 4398046511104
                  · rw [if_pos c16] at H
                    have LMc16 := Aside0.mk c16
                    clear c16
                    obtain ⟨y502, hy502⟩ : ∃ y_ : List (S26), y_ = (x7_1 ++ [(⟨t498, t499, t500, t501⟩ : S26)]) := ⟨_, rfl⟩
                    replace H : (casementref02_Cut.l0 kj6 l1 true y502 (wrap64 (x8_1 + 1)) x492000_1 (wrap64 (x492001_1 + t497)) x492002_1 (wrap64 (x492003_1 - t497))) = some r := by first | (rw [hy502]; with_reducible exact H) | (have H2_ := (Option.bind_some _ _).symm.trans H; rw [hy502]; with_reducible exact H2_) | (have H2_ := (Option.bind_some _ _).symm.trans H; with_reducible exact H2_) | with_reducible exact H | (rw [hy502]; exact H) | exact H
                    have Ny502 := Aside0.mk hy502
                    clear hy502
                    have H' := Aside0.mk H
                    clear H
                    have p495 : 0 ≤ (x8_1 : Int) := of_decide_eq_true (by first | (with_reducible assumption) | assumption)
                    have q495 : x8_1 < (l1.length : Int) := of_decide_eq_true (by first | (with_reducible assumption) | assumption)
                    obtain ⟨ad495, e495, hx495_0⟩ := Kd.at_int HR1.out x8_1 p495 q495
                    cases e495
                    replace hx495_0 := (HB.out.cell (World.block_lt_of_cell? w _ hx495_0)).trans hx495_0
                    replace p495 := eq_true p495
                    replace q495 := eq_true q495
                    go_wp2_with (first | ((with_reducible refine gate_callee (f := 41) rfl ?_); refine goesL_ (some 25) rfl rfl Try.func41 (by kernel_rfl) rfl #[.int .i64 (rd l1 x8_1), .int .i64 0] rfl (by (try simp only [List.map_toArray, List.map_cons, List.map_nil]); first | done | rfl | (simp only [List.length_drop, List.length_take]; rfl)) ?_; (with_reducible refine (casementref02_high.calls (rd l1 x8_1) 0 t496 _ A12.out).mono ?_); rintro e w' ⟨rfl, ⟨nd, rfl⟩⟩; refine ⟨_, rfl, ?_⟩; (try (rw [drewN_self wc]; generalize hq_ : World.drewN wc _ = wc; have n0_ : Aside0 (Kd.R k26 26 wc w.heap.size (fun k_ => k_ ≠ gb491) u7 x7_1) := ⟨by rw [← hq_]; exact (by (with_reducible repeat (first | apply Kd.R_alloc | apply Kd.R_drewN | apply Kd.R_drew)); exact HO_7.out)⟩; have n1_ : Aside0 (wc.heap[gb491]? = some (.cells #[.int .i64 x492000_1, .int .i64 x492001_1, .int .i64 x492002_1, .int .i64 x492003_1] 26 (0, 0))) := ⟨by rw [← hq_]; exact (by (with_reducible repeat (first | refine blk_drewN ?_ _ | refine blk_drew ?_ | refine blk_alloc ?_ _)); exact BK491.out)⟩; have n2_ : Aside0 (Below w.heap.size w wc) := ⟨by rw [← hq_]; exact (by repeat (first | (with_reducible first | exact HB.out | apply below_alloc | apply pw_below_drewN | apply below_drew1 | refine below_set ?_ GE491.out) | exact HB.out))⟩; clear HO_7 BK491 HB hq_; have HO_7 := n0_; have BK491 := n1_; have HB := n2_; clear n0_ n1_ n2_)); have hcz17_0 : wc.cell? ⟨gb491, 0, none⟩ = some (.int .i64 x492000_1) := (blk_cell BK491.out 0).trans rfl; have hcz17_1 : wc.cell? ⟨gb491, 1, none⟩ = some (.int .i64 x492001_1) := (blk_cell BK491.out 1).trans rfl; have hcz17_2 : wc.cell? ⟨gb491, 2, none⟩ = some (.int .i64 x492002_1) := (blk_cell BK491.out 2).trans rfl; have hcz17_3 : wc.cell? ⟨gb491, 3, none⟩ = some (.int .i64 x492003_1) := (blk_cell BK491.out 3).trans rfl; have hfz17_0 := blk_frozen BK491.out 0; have hfz17_1 := blk_frozen BK491.out 1; have hfz17_2 := blk_frozen BK491.out 2; have hfz17_3 := blk_frozen BK491.out 3) | ((with_reducible refine gate_callee (f := 42) rfl ?_); refine goesL_ (some 30) rfl rfl Try.func42 (by kernel_rfl) rfl #[.int .i64 t496, .int .i64 x492003_1] rfl (by (try simp only [List.map_toArray, List.map_cons, List.map_nil]); first | done | rfl | (simp only [List.length_drop, List.length_take]; rfl)) ?_; (with_reducible refine (casementref02_low.calls t496 x492003_1 t497 _ A14.out).mono ?_); rintro e w' ⟨rfl, ⟨nd, rfl⟩⟩; refine ⟨_, rfl, ?_⟩; (try (rw [drewN_self wc]; generalize hq_ : World.drewN wc _ = wc; have n0_ : Aside0 (Kd.R k26 26 wc w.heap.size (fun k_ => k_ ≠ gb491) u7 x7_1) := ⟨by rw [← hq_]; exact (by (with_reducible repeat (first | apply Kd.R_alloc | apply Kd.R_drewN | apply Kd.R_drew)); exact HO_7.out)⟩; have n1_ : Aside0 (wc.heap[gb491]? = some (.cells #[.int .i64 x492000_1, .int .i64 x492001_1, .int .i64 x492002_1, .int .i64 x492003_1] 26 (0, 0))) := ⟨by rw [← hq_]; exact (by (with_reducible repeat (first | refine blk_drewN ?_ _ | refine blk_drew ?_ | refine blk_alloc ?_ _)); exact BK491.out)⟩; have n2_ : Aside0 (Below w.heap.size w wc) := ⟨by rw [← hq_]; exact (by repeat (first | (with_reducible first | exact HB.out | apply below_alloc | apply pw_below_drewN | apply below_drew1 | refine below_set ?_ GE491.out) | exact HB.out))⟩; clear HO_7 BK491 HB hq_; have HO_7 := n0_; have BK491 := n1_; have HB := n2_; clear n0_ n1_ n2_)); have hcz18_0 : wc.cell? ⟨gb491, 0, none⟩ = some (.int .i64 x492000_1) := (blk_cell BK491.out 0).trans rfl; have hcz18_1 : wc.cell? ⟨gb491, 1, none⟩ = some (.int .i64 x492001_1) := (blk_cell BK491.out 1).trans rfl; have hcz18_2 : wc.cell? ⟨gb491, 2, none⟩ = some (.int .i64 x492002_1) := (blk_cell BK491.out 2).trans rfl; have hcz18_3 : wc.cell? ⟨gb491, 3, none⟩ = some (.int .i64 x492003_1) := (blk_cell BK491.out 3).trans rfl; have hfz18_0 := blk_frozen BK491.out 0; have hfz18_1 := blk_frozen BK491.out 1; have hfz18_2 := blk_frozen BK491.out 2; have hfz18_3 := blk_frozen BK491.out 3) | ((with_reducible refine gate_callee (f := 18) rfl ?_); refine goesL_ (some 40) rfl rfl Try.func18 (by kernel_rfl) rfl #[.agg #[.int .i64 x492000_1, .int .i64 x492001_1, .int .i64 x492002_1, .int .i64 t497]] rfl (by (try simp only [List.map_toArray, List.map_cons, List.map_nil]); first | done | rfl | (simp only [List.length_drop, List.length_take]; rfl)) ?_; (with_reducible refine (casementref02_Clean.calls kj6 x492000_1 x492001_1 x492002_1 t497 t498 t499 t500 t501 _ A15.out).mono ?_); rintro e w19 ⟨rfl, hb⟩; refine ⟨_, rfl, ?_⟩; have n0_ := Aside0.mk (Kd.R_below (by (with_reducible repeat (first | apply Kd.R_alloc | apply Kd.R_drewN | apply Kd.R_drew)); exact HO_7.out) hb); have n1_ := Aside0.mk (blk_below (g := gb491) (o := .cells #[.int .i64 x492000_1, .int .i64 x492001_1, .int .i64 x492002_1, .int .i64 x492003_1] 26 (0, 0)) (by (with_reducible repeat (first | refine blk_drewN ?_ _ | refine blk_drew ?_ | refine blk_alloc ?_ _)); exact BK491.out) hb); have n2_ := Aside0.mk (below_step (by repeat (first | (with_reducible first | exact HB.out | apply below_alloc | apply pw_below_drewN | apply below_drew1 | refine below_set ?_ GE491.out) | exact HB.out)) hb); clear HO_7; clear BK491; clear HB; have HO_7 := n0_; have BK491 := n1_; have HB := n2_; clear n0_ n1_ n2_; (try clear hb); (try clear hb2); (try clear hk); (try clear hi)) | ((with_reducible refine gate_builtin (b := .append) (xs := #[.tmp 31, .tmp 41]) rfl ?_); at_builtin; refine Kd.R_append k26 (w0 := w) w.heap.size rfl (.tmp 31) (.tmp 41) 22 26 (.agg #[(.int .i64 0), (.int .i64 0), (.int .i64 0), (.int .i64 0)]) 32 rfl Try.underlying22 info26 rfl (by decide) (by omega) u7 x7_1 (⟨t498, t499, t500, t501⟩ : S26) [.int .i64 t498, .int .i64 t499, .int .i64 t500, .int .i64 t501] (fun k_ => k_ ≠ gb491) (fun _ => False) rfl rfl ?aP (fun _ hk => hk.elim) ?aF ?aO ?aB ?aS ?aL ?_; (case aP => exact k26_mkM _ _ _ (⟨t498, t499, t500, t501⟩ : S26)); (case aB => exact (by repeat (first | (with_reducible first | exact HB.out | apply below_alloc | apply pw_below_drewN | apply below_drew1 | refine below_set ?_ GE491.out) | exact HB.out))); (case aF => exact (fun k_ hk => Kd.freshB (g := gb491) (o := .cells #[.int .i64 x492000_1, .int .i64 x492001_1, .int .i64 x492002_1, .int .i64 x492003_1] 26 (0, 0)) (by (with_reducible repeat (first | refine blk_drewN ?_ _ | refine blk_drew ?_ | refine blk_alloc ?_ _)); exact BK491.out) k_ hk)); (case aO => exact (by (with_reducible repeat (first | apply Kd.R_alloc | apply Kd.R_drewN | apply Kd.R_drew)); exact HO_7.out)); (case aS => exact (below_size (by repeat (first | (with_reducible first | exact HB.out | apply below_alloc | apply pw_below_drewN | apply below_drew1 | refine below_set ?_ GE491.out) | exact HB.out)))); (case aL => have := LMc16.out; omega); intro v503 w20 ho hb hg hat; rw [← Ny502.out] at ho; have n0_ := Aside0.mk (blk_grown (g := gb491) (o := .cells #[.int .i64 x492000_1, .int .i64 x492001_1, .int .i64 x492002_1, .int .i64 x492003_1] 26 (0, 0)) (by (with_reducible repeat (first | refine blk_drewN ?_ _ | refine blk_drew ?_ | refine blk_alloc ?_ _)); exact BK491.out) hg (Kd.R_away HO_7.out (fun _ hk => hk))); have n1_ := Aside0.mk (hb); have n2_ := Aside0.mk (ho); clear BK491; clear HB; clear HO_7; have BK491 := n0_; have HB := n1_; have HO504 := n2_; clear n0_ n1_ n2_; clear ho hb hg hat; have hcz21_0 : w20.cell? ⟨gb491, 0, none⟩ = some (.int .i64 x492000_1) := (blk_cell BK491.out 0).trans rfl; have hcz21_1 : w20.cell? ⟨gb491, 1, none⟩ = some (.int .i64 x492001_1) := (blk_cell BK491.out 1).trans rfl; have hcz21_2 : w20.cell? ⟨gb491, 2, none⟩ = some (.int .i64 x492002_1) := (blk_cell BK491.out 2).trans rfl; have hcz21_3 : w20.cell? ⟨gb491, 3, none⟩ = some (.int .i64 x492003_1) := (blk_cell BK491.out 3).trans rfl; have hfz21_0 := blk_frozen BK491.out 0; have hfz21_1 := blk_frozen BK491.out 1; have hfz21_2 := blk_frozen BK491.out 2; have hfz21_3 := blk_frozen BK491.out 3))
                    go_roundg kj6
                    case measure => have := HK1.out; have := HJ6.out; omega
                    case rel => exact ⟨(y502), (wrap64 (x8_1 + 1)), (x492000_1), (wrap64 (x492001_1 + t497)), (x492002_1), (wrap64 (x492003_1 - t497)), (by first | rfl | (simp; done) | (simp [*]; done)), H', ⟨by have := HK1.out; have := HJ6.out; omega⟩, ⟨by (with_reducible repeat (first | apply Kd.R_alloc | apply Kd.R_drewN | apply Kd.R_drew)); exact Kd.R_mono (Kd.R_far (p := ⟨gb491, 3, none⟩) (Kd.R_far (p := ⟨gb491, 2, none⟩) (Kd.R_far (p := ⟨gb491, 1, none⟩) (Kd.R_far (p := ⟨gb491, 0, none⟩) (Kd.R_mono HO504.out (fun k_ hk => (⟨hk, hk⟩ : _ ∧ k_ ≠ gb491))) (fun _ hk => hk.2) (.int .i64 x492000_1)) (fun _ hk => hk.2) (.int .i64 (wrap64 (x492001_1 + t497)))) (fun _ hk => hk.2) (.int .i64 x492002_1)) (fun _ hk => hk.2) (.int .i64 (wrap64 (x492003_1 - t497)))) (fun _ hk => hk.1)⟩, ⟨by (with_reducible repeat (first | refine blk_drewN ?_ _ | refine blk_drew ?_ | refine blk_alloc ?_ _)); refine blk_put (cs := #[.int .i64 x492000_1, .int .i64 (wrap64 (x492001_1 + t497)), .int .i64 x492002_1, .int .i64 x492003_1]) ?_ 3 _ rfl; (with_reducible repeat (first | refine blk_drewN ?_ _ | refine blk_drew ?_ | refine blk_alloc ?_ _)); refine blk_put (cs := #[.int .i64 x492000_1, .int .i64 (wrap64 (x492001_1 + t497)), .int .i64 x492002_1, .int .i64 x492003_1]) ?_ 2 _ rfl; (with_reducible repeat (first | refine blk_drewN ?_ _ | refine blk_drew ?_ | refine blk_alloc ?_ _)); refine blk_put (cs := #[.int .i64 x492000_1, .int .i64 x492001_1, .int .i64 x492002_1, .int .i64 x492003_1]) ?_ 1 _ rfl; (with_reducible repeat (first | refine blk_drewN ?_ _ | refine blk_drew ?_ | refine blk_alloc ?_ _)); refine blk_put (cs := #[.int .i64 x492000_1, .int .i64 x492001_1, .int .i64 x492002_1, .int .i64 x492003_1]) ?_ 0 _ rfl; (with_reducible repeat (first | refine blk_drewN ?_ _ | refine blk_drew ?_ | refine blk_alloc ?_ _)); exact BK491.out⟩, ⟨by repeat (first | (with_reducible first | exact HB.out | apply below_alloc | apply pw_below_drewN | apply below_drew1 | refine below_set ?_ GE491.out) | exact HB.out)⟩⟩
                  · rw [if_neg c16] at H
                    exact absurd H (by simp)
                · replace c13 := Bool.eq_false_iff.mpr c13
                  subst c13
                  have H1 : ((casementref02_low.f t496 x492002_1).bind fun t505 => ((casementref02_Clean.f kj6 x492000_1 x492001_1 t505 x492003_1).bind fun bt506 => (if x7_1.length < 4398046511104 then (casementref02_Cut.l0 kj6 l1 false (x7_1 ++ [(⟨bt506.1, bt506.2.1, bt506.2.2.1, bt506.2.2.2⟩ : S26)]) (wrap64 (x8_1 + 1)) (wrap64 (x492000_1 + t505)) x492001_1 (wrap64 (x492002_1 - t505)) x492003_1) else (none)))) = some r := by rw [if_neg (show ¬ (false = true) by decide)] at H; exact H
                  clear H
                  have H := H1
                  clear H1
                  replace H := Option.bind_eq_some_iff.mp H
                  obtain ⟨t505, A220, H⟩ := H
                  replace H : ((casementref02_Clean.f kj6 x492000_1 x492001_1 t505 x492003_1).bind fun bt506 => (if x7_1.length < 4398046511104 then (casementref02_Cut.l0 kj6 l1 false (x7_1 ++ [(⟨bt506.1, bt506.2.1, bt506.2.2.1, bt506.2.2.2⟩ : S26)]) (wrap64 (x8_1 + 1)) (wrap64 (x492000_1 + t505)) x492001_1 (wrap64 (x492002_1 - t505)) x492003_1) else (none))) = some r := H
                  have A22 := Aside0.mk A220
                  clear A220
                  replace H := Option.bind_eq_some_iff.mp H
                  obtain ⟨⟨t506, t507, t508, t509⟩, A230, H⟩ := H
                  replace H : (if x7_1.length < 4398046511104 then (casementref02_Cut.l0 kj6 l1 false (x7_1 ++ [(⟨t506, t507, t508, t509⟩ : S26)]) (wrap64 (x8_1 + 1)) (wrap64 (x492000_1 + t505)) x492001_1 (wrap64 (x492002_1 - t505)) x492003_1) else (none)) = some r := H
                  have A23 := Aside0.mk A230
                  clear A230
                  by_cases c24 : x7_1.length < 4398046511104
                  · rw [if_pos c24] at H
                    have LMc24 := Aside0.mk c24
                    clear c24
                    obtain ⟨y510, hy510⟩ : ∃ y_ : List (S26), y_ = (x7_1 ++ [(⟨t506, t507, t508, t509⟩ : S26)]) := ⟨_, rfl⟩
                    replace H : (casementref02_Cut.l0 kj6 l1 false y510 (wrap64 (x8_1 + 1)) (wrap64 (x492000_1 + t505)) x492001_1 (wrap64 (x492002_1 - t505)) x492003_1) = some r := by first | (rw [hy510]; with_reducible exact H) | (have H2_ := (Option.bind_some _ _).symm.trans H; rw [hy510]; with_reducible exact H2_) | (have H2_ := (Option.bind_some _ _).symm.trans H; with_reducible exact H2_) | with_reducible exact H | (rw [hy510]; exact H) | exact H
                    have Ny510 := Aside0.mk hy510
                    clear hy510
                    have H' := Aside0.mk H
                    clear H
                    have p495 : 0 ≤ (x8_1 : Int) := of_decide_eq_true (by first | (with_reducible assumption) | assumption)
                    have q495 : x8_1 < (l1.length : Int) := of_decide_eq_true (by first | (with_reducible assumption) | assumption)
                    obtain ⟨ad495, e495, hx495_0⟩ := Kd.at_int HR1.out x8_1 p495 q495
                    cases e495
                    replace hx495_0 := (HB.out.cell (World.block_lt_of_cell? w _ hx495_0)).trans hx495_0
                    replace p495 := eq_true p495
                    replace q495 := eq_true q495
                    go_wp2_with (first | ((with_reducible refine gate_callee (f := 41) rfl ?_); refine goesL_ (some 25) rfl rfl Try.func41 (by kernel_rfl) rfl #[.int .i64 (rd l1 x8_1), .int .i64 0] rfl (by (try simp only [List.map_toArray, List.map_cons, List.map_nil]); first | done | rfl | (simp only [List.length_drop, List.length_take]; rfl)) ?_; (with_reducible refine (casementref02_high.calls (rd l1 x8_1) 0 t496 _ A12.out).mono ?_); rintro e w' ⟨rfl, ⟨nd, rfl⟩⟩; refine ⟨_, rfl, ?_⟩; (try (rw [drewN_self wc]; generalize hq_ : World.drewN wc _ = wc; have n0_ : Aside0 (Kd.R k26 26 wc w.heap.size (fun k_ => k_ ≠ gb491) u7 x7_1) := ⟨by rw [← hq_]; exact (by (with_reducible repeat (first | apply Kd.R_alloc | apply Kd.R_drewN | apply Kd.R_drew)); exact HO_7.out)⟩; have n1_ : Aside0 (wc.heap[gb491]? = some (.cells #[.int .i64 x492000_1, .int .i64 x492001_1, .int .i64 x492002_1, .int .i64 x492003_1] 26 (0, 0))) := ⟨by rw [← hq_]; exact (by (with_reducible repeat (first | refine blk_drewN ?_ _ | refine blk_drew ?_ | refine blk_alloc ?_ _)); exact BK491.out)⟩; have n2_ : Aside0 (Below w.heap.size w wc) := ⟨by rw [← hq_]; exact (by repeat (first | (with_reducible first | exact HB.out | apply below_alloc | apply pw_below_drewN | apply below_drew1 | refine below_set ?_ GE491.out) | exact HB.out))⟩; clear HO_7 BK491 HB hq_; have HO_7 := n0_; have BK491 := n1_; have HB := n2_; clear n0_ n1_ n2_)); have hcz25_0 : wc.cell? ⟨gb491, 0, none⟩ = some (.int .i64 x492000_1) := (blk_cell BK491.out 0).trans rfl; have hcz25_1 : wc.cell? ⟨gb491, 1, none⟩ = some (.int .i64 x492001_1) := (blk_cell BK491.out 1).trans rfl; have hcz25_2 : wc.cell? ⟨gb491, 2, none⟩ = some (.int .i64 x492002_1) := (blk_cell BK491.out 2).trans rfl; have hcz25_3 : wc.cell? ⟨gb491, 3, none⟩ = some (.int .i64 x492003_1) := (blk_cell BK491.out 3).trans rfl; have hfz25_0 := blk_frozen BK491.out 0; have hfz25_1 := blk_frozen BK491.out 1; have hfz25_2 := blk_frozen BK491.out 2; have hfz25_3 := blk_frozen BK491.out 3) | ((with_reducible refine gate_callee (f := 42) rfl ?_); refine goesL_ (some 59) rfl rfl Try.func42 (by kernel_rfl) rfl #[.int .i64 t496, .int .i64 x492002_1] rfl (by (try simp only [List.map_toArray, List.map_cons, List.map_nil]); first | done | rfl | (simp only [List.length_drop, List.length_take]; rfl)) ?_; (with_reducible refine (casementref02_low.calls t496 x492002_1 t505 _ A22.out).mono ?_); rintro e w' ⟨rfl, ⟨nd, rfl⟩⟩; refine ⟨_, rfl, ?_⟩; (try (rw [drewN_self wc]; generalize hq_ : World.drewN wc _ = wc; have n0_ : Aside0 (Kd.R k26 26 wc w.heap.size (fun k_ => k_ ≠ gb491) u7 x7_1) := ⟨by rw [← hq_]; exact (by (with_reducible repeat (first | apply Kd.R_alloc | apply Kd.R_drewN | apply Kd.R_drew)); exact HO_7.out)⟩; have n1_ : Aside0 (wc.heap[gb491]? = some (.cells #[.int .i64 x492000_1, .int .i64 x492001_1, .int .i64 x492002_1, .int .i64 x492003_1] 26 (0, 0))) := ⟨by rw [← hq_]; exact (by (with_reducible repeat (first | refine blk_drewN ?_ _ | refine blk_drew ?_ | refine blk_alloc ?_ _)); exact BK491.out)⟩; have n2_ : Aside0 (Below w.heap.size w wc) := ⟨by rw [← hq_]; exact (by repeat (first | (with_reducible first | exact HB.out | apply below_alloc | apply pw_below_drewN | apply below_drew1 | refine below_set ?_ GE491.out) | exact HB.out))⟩; clear HO_7 BK491 HB hq_; have HO_7 := n0_; have BK491 := n1_; have HB := n2_; clear n0_ n1_ n2_)); have hcz26_0 : wc.cell? ⟨gb491, 0, none⟩ = some (.int .i64 x492000_1) := (blk_cell BK491.out 0).trans rfl; have hcz26_1 : wc.cell? ⟨gb491, 1, none⟩ = some (.int .i64 x492001_1) := (blk_cell BK491.out 1).trans rfl; have hcz26_2 : wc.cell? ⟨gb491, 2, none⟩ = some (.int .i64 x492002_1) := (blk_cell BK491.out 2).trans rfl; have hcz26_3 : wc.cell? ⟨gb491, 3, none⟩ = some (.int .i64 x492003_1) := (blk_cell BK491.out 3).trans rfl; have hfz26_0 := blk_frozen BK491.out 0; have hfz26_1 := blk_frozen BK491.out 1; have hfz26_2 := blk_frozen BK491.out 2; have hfz26_3 := blk_frozen BK491.out 3) | ((with_reducible refine gate_callee (f := 18) rfl ?_); refine goesL_ (some 69) rfl rfl Try.func18 (by kernel_rfl) rfl #[.agg #[.int .i64 x492000_1, .int .i64 x492001_1, .int .i64 t505, .int .i64 x492003_1]] rfl (by (try simp only [List.map_toArray, List.map_cons, List.map_nil]); first | done | rfl | (simp only [List.length_drop, List.length_take]; rfl)) ?_; (with_reducible refine (casementref02_Clean.calls kj6 x492000_1 x492001_1 t505 x492003_1 t506 t507 t508 t509 _ A23.out).mono ?_); rintro e w27 ⟨rfl, hb⟩; refine ⟨_, rfl, ?_⟩; have n0_ := Aside0.mk (Kd.R_below (by (with_reducible repeat (first | apply Kd.R_alloc | apply Kd.R_drewN | apply Kd.R_drew)); exact HO_7.out) hb); have n1_ := Aside0.mk (blk_below (g := gb491) (o := .cells #[.int .i64 x492000_1, .int .i64 x492001_1, .int .i64 x492002_1, .int .i64 x492003_1] 26 (0, 0)) (by (with_reducible repeat (first | refine blk_drewN ?_ _ | refine blk_drew ?_ | refine blk_alloc ?_ _)); exact BK491.out) hb); have n2_ := Aside0.mk (below_step (by repeat (first | (with_reducible first | exact HB.out | apply below_alloc | apply pw_below_drewN | apply below_drew1 | refine below_set ?_ GE491.out) | exact HB.out)) hb); clear HO_7; clear BK491; clear HB; have HO_7 := n0_; have BK491 := n1_; have HB := n2_; clear n0_ n1_ n2_; (try clear hb); (try clear hb2); (try clear hk); (try clear hi)) | ((with_reducible refine gate_builtin (b := .append) (xs := #[.tmp 60, .tmp 70]) rfl ?_); at_builtin; refine Kd.R_append k26 (w0 := w) w.heap.size rfl (.tmp 60) (.tmp 70) 22 26 (.agg #[(.int .i64 0), (.int .i64 0), (.int .i64 0), (.int .i64 0)]) 32 rfl Try.underlying22 info26 rfl (by decide) (by omega) u7 x7_1 (⟨t506, t507, t508, t509⟩ : S26) [.int .i64 t506, .int .i64 t507, .int .i64 t508, .int .i64 t509] (fun k_ => k_ ≠ gb491) (fun _ => False) rfl rfl ?aP (fun _ hk => hk.elim) ?aF ?aO ?aB ?aS ?aL ?_; (case aP => exact k26_mkM _ _ _ (⟨t506, t507, t508, t509⟩ : S26)); (case aB => exact (by repeat (first | (with_reducible first | exact HB.out | apply below_alloc | apply pw_below_drewN | apply below_drew1 | refine below_set ?_ GE491.out) | exact HB.out))); (case aF => exact (fun k_ hk => Kd.freshB (g := gb491) (o := .cells #[.int .i64 x492000_1, .int .i64 x492001_1, .int .i64 x492002_1, .int .i64 x492003_1] 26 (0, 0)) (by (with_reducible repeat (first | refine blk_drewN ?_ _ | refine blk_drew ?_ | refine blk_alloc ?_ _)); exact BK491.out) k_ hk)); (case aO => exact (by (with_reducible repeat (first | apply Kd.R_alloc | apply Kd.R_drewN | apply Kd.R_drew)); exact HO_7.out)); (case aS => exact (below_size (by repeat (first | (with_reducible first | exact HB.out | apply below_alloc | apply pw_below_drewN | apply below_drew1 | refine below_set ?_ GE491.out) | exact HB.out)))); (case aL => have := LMc24.out; omega); intro v511 w28 ho hb hg hat; rw [← Ny510.out] at ho; have n0_ := Aside0.mk (blk_grown (g := gb491) (o := .cells #[.int .i64 x492000_1, .int .i64 x492001_1, .int .i64 x492002_1, .int .i64 x492003_1] 26 (0, 0)) (by (with_reducible repeat (first | refine blk_drewN ?_ _ | refine blk_drew ?_ | refine blk_alloc ?_ _)); exact BK491.out) hg (Kd.R_away HO_7.out (fun _ hk => hk))); have n1_ := Aside0.mk (hb); have n2_ := Aside0.mk (ho); clear BK491; clear HB; clear HO_7; have BK491 := n0_; have HB := n1_; have HO512 := n2_; clear n0_ n1_ n2_; clear ho hb hg hat; have hcz29_0 : w28.cell? ⟨gb491, 0, none⟩ = some (.int .i64 x492000_1) := (blk_cell BK491.out 0).trans rfl; have hcz29_1 : w28.cell? ⟨gb491, 1, none⟩ = some (.int .i64 x492001_1) := (blk_cell BK491.out 1).trans rfl; have hcz29_2 : w28.cell? ⟨gb491, 2, none⟩ = some (.int .i64 x492002_1) := (blk_cell BK491.out 2).trans rfl; have hcz29_3 : w28.cell? ⟨gb491, 3, none⟩ = some (.int .i64 x492003_1) := (blk_cell BK491.out 3).trans rfl; have hfz29_0 := blk_frozen BK491.out 0; have hfz29_1 := blk_frozen BK491.out 1; have hfz29_2 := blk_frozen BK491.out 2; have hfz29_3 := blk_frozen BK491.out 3))
                    go_roundg kj6
                    case measure => have := HK1.out; have := HJ6.out; omega
                    case rel => exact ⟨(y510), (wrap64 (x8_1 + 1)), (wrap64 (x492000_1 + t505)), (x492001_1), (wrap64 (x492002_1 - t505)), (x492003_1), (by first | rfl | (simp; done) | (simp [*]; done)), H', ⟨by have := HK1.out; have := HJ6.out; omega⟩, ⟨by (with_reducible repeat (first | apply Kd.R_alloc | apply Kd.R_drewN | apply Kd.R_drew)); exact Kd.R_mono (Kd.R_far (p := ⟨gb491, 3, none⟩) (Kd.R_far (p := ⟨gb491, 2, none⟩) (Kd.R_far (p := ⟨gb491, 1, none⟩) (Kd.R_far (p := ⟨gb491, 0, none⟩) (Kd.R_mono HO512.out (fun k_ hk => (⟨hk, hk⟩ : _ ∧ k_ ≠ gb491))) (fun _ hk => hk.2) (.int .i64 (wrap64 (x492000_1 + t505)))) (fun _ hk => hk.2) (.int .i64 x492001_1)) (fun _ hk => hk.2) (.int .i64 (wrap64 (x492002_1 - t505)))) (fun _ hk => hk.2) (.int .i64 x492003_1)) (fun _ hk => hk.1)⟩, ⟨by (with_reducible repeat (first | refine blk_drewN ?_ _ | refine blk_drew ?_ | refine blk_alloc ?_ _)); refine blk_put (cs := #[.int .i64 (wrap64 (x492000_1 + t505)), .int .i64 x492001_1, .int .i64 (wrap64 (x492002_1 - t505)), .int .i64 x492003_1]) ?_ 3 _ rfl; (with_reducible repeat (first | refine blk_drewN ?_ _ | refine blk_drew ?_ | refine blk_alloc ?_ _)); refine blk_put (cs := #[.int .i64 (wrap64 (x492000_1 + t505)), .int .i64 x492001_1, .int .i64 x492002_1, .int .i64 x492003_1]) ?_ 2 _ rfl; (with_reducible repeat (first | refine blk_drewN ?_ _ | refine blk_drew ?_ | refine blk_alloc ?_ _)); refine blk_put (cs := #[.int .i64 (wrap64 (x492000_1 + t505)), .int .i64 x492001_1, .int .i64 x492002_1, .int .i64 x492003_1]) ?_ 1 _ rfl; (with_reducible repeat (first | refine blk_drewN ?_ _ | refine blk_drew ?_ | refine blk_alloc ?_ _)); refine blk_put (cs := #[.int .i64 x492000_1, .int .i64 x492001_1, .int .i64 x492002_1, .int .i64 x492003_1]) ?_ 0 _ rfl; (with_reducible repeat (first | refine blk_drewN ?_ _ | refine blk_drew ?_ | refine blk_alloc ?_ _)); exact BK491.out⟩, ⟨by repeat (first | (with_reducible first | exact HB.out | apply below_alloc | apply pw_below_drewN | apply below_drew1 | refine below_set ?_ GE491.out) | exact HB.out)⟩⟩
                  · rw [if_neg c24] at H
                    exact absurd H (by simp)
              · rw [if_neg c11] at H
                exact absurd H (by simp)
            · rw [if_neg c10] at H
              exact absurd H (by simp)
          · replace c9 := Bool.eq_false_iff.mpr c9
            subst c9
            have H1 : (some x7_1) = some r := by rw [if_neg (show ¬ (false = true) by decide)] at H; exact H
            clear H
            have H := H1
            clear H1
            obtain rfl := Option.some.inj H
            go_wp2
            go_ret
            exact ⟨_, by first | rfl | (simp [errW_none, errW_some] <;> rfl) | (simp [*, errW_none, errW_some] <;> rfl), by (with_reducible repeat (first | apply Kd.R_alloc | apply Kd.R_drewN | apply Kd.R_drew)); exact Kd.R_mono HO_7.out (fun _ hk => trivial), by repeat (first | (with_reducible first | exact HB.out | apply below_alloc | apply pw_below_drewN | apply below_drew1 | refine below_set ?_ GE491.out) | exact HB.out)⟩

end Go.Proofs.Ytmokmkaipcojkaa.Q
