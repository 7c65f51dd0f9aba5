-- written by a program of this session after the way of the kit's print; not the kit's own print. Lean checks it.
import Derived.Test.YtgngbbkaghmnpaaQx0
namespace Go.Proofs.Ytgngbbkaghmnpaa.Q
open Go.RowKit Go.Proofs.YtgngbbkaghmnpaaW.PrintWords Go.Proofs.YtgngbbkaghmnpaaW.PrintLast Go.Proofs.YtgngbbkaghmnpaaW.PrintMore
attribute [local go_sem] max2_int min2_int max_two min_two max_three min_three max_four min_four   -- for this text's walks alone
set_option linter.unusedVariables false
set_option linter.unusedSimpArgs false

/-! ### check_next: function 30 -/
def check_next.j0 : Nat → Int → Int → Bool → Int → Int → Option (List Int)
  | 0, _, _, _, _, _ => none
  | k + 1, x0, x6, x7, x165000, x165001 => if x7 = true then (some ([] : List Int)) else (if x6 = 24 then (some (([x165001] : List Int))) else (if x6 = 25 then (some (([x165001, wrap64 (x0 + 1)] : List Int))) else (some (([wrap64 (x0 + 1)] : List Int)))))
def check_next.f (k : Nat) (a0 : Int) (a1_0 : Int) (a1_1 : Int) : Option (List Int) := if a1_0 = 27 then (check_next.j0 k a0 a1_0 (a1_0 == 27) a1_0 a1_1) else (check_next.j0 k a0 a1_0 (a1_0 == 29) a1_0 a1_1)
theorem check_next.mono_l : ∀ k, (∀ y0 y1 y2 y3 y4, LeO (check_next.j0 k y0 y1 y2 y3 y4) (check_next.j0 (k + 1) y0 y1 y2 y3 y4))
  | 0 => fun _ _ _ _ _ r h => by simp [check_next.j0] at h
  | k + 1 => by
    have ih0 := check_next.mono_l k
    · intro y0 y1 y2 y3 y4
      unfold check_next.j0
      repeat' first
      | (with_reducible exact ih0 _ _ _ _ _)
      | (with_reducible exact LeO.refl _)
      | (with_reducible exact LeO.none _)
      | (with_reducible refine LeO.ite ?_ ?_)
      | (with_reducible refine LeO.bind ?_ (fun _ => ?_))
      | exact ih0 _ _ _ _ _
      | exact LeO.none _
      | refine LeO.ite ?_ ?_
      | refine LeO.bind ?_ (fun _ => ?_)
theorem check_next.mono : ∀ a0 a1 a2 k, LeO (check_next.f k a0 a1 a2) (check_next.f (k + 1) a0 a1 a2) := by
  intro a0 a1 a2 k; have ih0 := check_next.mono_l k
  unfold check_next.f
  repeat' first
      | (with_reducible exact ih0 _ _ _ _ _)
      | (with_reducible exact LeO.refl _)
      | (with_reducible exact LeO.none _)
      | (with_reducible refine LeO.ite ?_ ?_)
      | (with_reducible refine LeO.bind ?_ (fun _ => ?_))
      | exact ih0 _ _ _ _ _
      | exact LeO.none _
      | refine LeO.ite ?_ ?_
      | refine LeO.bind ?_ (fun _ => ?_)
set_option maxHeartbeats 8000000 in
set_option maxRecDepth 100000 in
theorem check_next.calls (k : Nat) (a0 : Int) (a1_0 : Int) (a1_1 : Int) (r : List Int) (w : World) (h : check_next.f k a0 a1_0 a1_1 = some r) :
    Calls Try.prog 30 #[.int .i64 a0, .agg #[.int .i64 a1_0, .int .i64 a1_1]] w fun e w' => ∃ v0_ : Value, e = .returned (v0_) ∧ Kd.R (Kd.int .i64) 3 w' w.heap.size (fun _ => True) v0_ r ∧ Below w.heap.size w w' := by
  have hu46 := Try.underlying46; have HB := Aside0.mk (Below.refl w.heap.size w); have H : (if a1_0 = 27 then (check_next.j0 k a0 a1_0 (a1_0 == 27) a1_0 a1_1) else (check_next.j0 k a0 a1_0 (a1_0 == 29) a1_0 a1_1)) = some r := h; clear h; have HC3 := Aside0.mk H; clear H
  go_enter Try.func30, Try.ntmps30
  go_upto_if 7 with (first | ((with_reducible refine gate_dst (N := 3) rfl ?_); refine box_event ?hg (N := 3) ?hd (cs := #[.int .i64 a1_0, .int .i64 a1_1]) (t := 46) ?hr ?_; (case hd => rfl); (case hg => rfl); (case hr => first | (go_simp; done) | (go_simp; rfl)); intro gb164 hg w4 hbox hb; have n0_ := Aside0.mk (below_step (bn0 HB) hb); have BK164 := Aside0.mk (hbox); have GW164 := Aside0.mk ((by rw [hg]; exact (below_size (bn0 HB)) : w.heap.size ≤ gb164)); have GE164 := Aside0.mk ((by rw [hg]; exact (below_size (bn0 HB)) : w.heap.size ≤ gb164)); replace HB := n0_; clear n0_; clear hb hbox hg; obtain ⟨hcz5_0, hcz5_1⟩ := cells2 BK164.out; obtain ⟨hfz5_0, hfz5_1⟩ := froz2 BK164.out))
  (try simp only [Act.put, List.setIfInBounds_toArray, List.set_cons_zero, List.set_cons_succ])
  go_cut [7] (fun v7 wc => ∃ (kq : Nat) (x7_2 : Bool), v7 = .bool x7_2 ∧ Aside0 (check_next.j0 kq a0 a1_0 x7_2 a1_0 a1_1 = some r) ∧ Aside0 (kq ≤ k) ∧ Aside0 (wc.heap[gb164]? = some (.cells #[.int .i64 a1_0, .int .i64 a1_1] 46 (0, 0))) ∧ Aside0 (Below w.heap.size w wc))
  case first =>
    have H := HC3.out; clear HC3
    by_cases c6 : a1_0 = 27
    · rw [if_pos c6] at H
      have c6b0 : (a1_0 == 27) = true := beq_iff_eq.mpr c6; have c6b1 : (a1_0 != 27) = false := bne_eq_false_iff_eq.mpr c6; clear c6
      (first | rw [c6b0] | (simp only [i64_w, i32_w]; rw [c6b0]) | skip)
      have H' := Aside0.mk H; clear H
      go_wp2
      go_meet
      case rel => exact ⟨_, ((a1_0 == 27)), (by first | rfl | (simp; done) | (simp [*]; done)), H', ⟨by first | omega | exact Nat.le_refl _⟩, ⟨by (with_reducible repeat (first | refine blk_drewN ?_ _ | refine blk_drew ?_ | refine blk_alloc ?_ _)); exact BK164.out⟩, ⟨bn1 HB GE164⟩⟩
    · rw [if_neg c6] at H
      have c6b0 : (a1_0 == 27) = false := beq_eq_false_iff_ne.mpr c6; have c6b1 : (a1_0 != 27) = true := bne_iff_ne.mpr c6
      (first | rw [c6b0] | (simp only [i64_w, i32_w]; rw [c6b0]) | skip)
      have H' := Aside0.mk H; clear H
      go_wp2
      go_meet
      case rel => exact ⟨_, ((a1_0 == 29)), (by first | rfl | (simp; done) | (simp [*]; done)), H', ⟨by first | omega | exact Nat.le_refl _⟩, ⟨by (with_reducible repeat (first | refine blk_drewN ?_ _ | refine blk_drew ?_ | refine blk_alloc ?_ _)); exact BK164.out⟩, ⟨bn1 HB GE164⟩⟩
  case rest =>
    clear HC3
    try clear p2
    try clear c3
    try clear c6
    try clear c6b0
    try clear c6b1
    try clear hcz5_0
    try clear hcz5_1
    try clear hfz5_0
    try clear hfz5_1
    obtain ⟨kq, x7_2, rfl, HA, HJ2, BK164, HB⟩ := hcut
    cases kq with
    | zero => exact absurd HA.out (by simp [check_next.j0])
    | succ kj2 => ?_
    have H := HA.out; clear HA; simp only [check_next.j0] at H
    by_cases c7 : x7_2 = true
    · subst c7
      have H1 : (some ([] : List Int)) = some r := by rw [if_pos rfl] at H; exact H
      clear H; have H := H1; clear H1; obtain rfl := Option.some.inj H
      go_wp2
      go_ret
      exact ⟨_, by first | rfl | (simp [errW_none, errW_some] <;> rfl) | (simp [*, errW_none, errW_some] <;> rfl), by first | exact Kd.R_nil _ _ _ _ _ | exact Kd.N_nil _ _ _ _ _ | exact Kd.V_nil _ _ _ _ _ | exact Kd.Q_nil _ _ _ _ _ | exact Kd.S_nil _ _ _ _ _, bn1 HB GE164⟩
    · replace c7 := Bool.eq_false_iff.mpr c7
      subst c7
      have H1 : (if a1_0 = 24 then (some (([a1_1] : List Int))) else (if a1_0 = 25 then (some (([a1_1, wrap64 (a0 + 1)] : List Int))) else (some (([wrap64 (a0 + 1)] : List Int))))) = some r := by rw [if_neg (show ¬ (false = true) by decide)] at H; exact H
      clear H; have H := H1; clear H1
      by_cases c8 : a1_0 = 24
      · rw [if_pos c8] at H
        have c8b0 : (a1_0 == 24) = true := beq_iff_eq.mpr c8; have c8b1 : (a1_0 != 24) = false := bne_eq_false_iff_eq.mpr c8; clear c8; obtain ⟨y165, hy165⟩ : ∃ y_ : List Int, y_ = (([a1_1] : List Int)) := ⟨_, rfl⟩
        replace H : (some y165) = some r := by first | (rw [hy165]; with_reducible exact H) | (have H2_ := (Option.bind_some _ _).symm.trans H; rw [hy165]; with_reducible exact H2_) | (have H2_ := (Option.bind_some _ _).symm.trans H; with_reducible exact H2_) | with_reducible exact H | (rw [hy165]; exact H) | exact H
        have Ny165 := Aside0.mk hy165; clear hy165; obtain rfl := Option.some.inj H; obtain ⟨hcz9_0, hcz9_1⟩ := cells2 BK164.out; obtain ⟨hfz9_0, hfz9_1⟩ := froz2 BK164.out
        go_wp2_with (first | ((with_reducible refine gate_dst (N := 14) rfl ?_); refine Kd.R_lit (Kd.int .i64) _ 3 ?hg (N := 14) ?hd (xs := ([a1_1] : List Int)) (inner := [.int .i64 a1_1]) (ok := fun _ => True) (okp := fun _ => True) ?hr ?hp (fun _ hk => hk) trivial (Below.refl _ _) (Nat.le_refl _) (by simp) ?_; (case hd => rfl); (case hg => rfl); (case hr => first | (go_simp; done) | (go_simp; rfl)); (case hp => exact (Reps.one (show Kd.M (Kd.int .i64) _ _ _ a1_1 [.int .i64 a1_1] from rfl) (Reps.none _ _))); intro v166 w10 ho11 hb hg_ hnew_; clear hg_ hnew_; (first | rw [← Ny165.out] at ho11 | (simp only [Int.reduceToNat] at ho11; rw [← Ny165.out] at ho11)); have HO167 := Aside0.mk (Kd.R_lower ho11 (below_size (bn1 HB GE164))); replace BK164 := Aside0.mk (blk_below (g := gb164) (o := .cells #[.int .i64 a1_0, .int .i64 a1_1] 46 (0, 0)) (bkn BK164) hb); replace HB := Aside0.mk (below_step (bn1 HB GE164) hb); clear hb ho11))
        go_ret
        exact ⟨_, by first | rfl | (simp [errW_none, errW_some] <;> rfl) | (simp [*, errW_none, errW_some] <;> rfl), by (with_reducible repeat (first | apply Kd.R_alloc | apply Kd.R_drewN | apply Kd.R_drew)); exact HO167.out, bn1 HB GE164⟩
      · rw [if_neg c8] at H
        have c8b0 : (a1_0 == 24) = false := beq_eq_false_iff_ne.mpr c8; have c8b1 : (a1_0 != 24) = true := bne_iff_ne.mpr c8
        by_cases c12 : a1_0 = 25
        · rw [if_pos c12] at H
          have c12b0 : (a1_0 == 25) = true := beq_iff_eq.mpr c12; have c12b1 : (a1_0 != 25) = false := bne_eq_false_iff_eq.mpr c12; clear c12; obtain ⟨y168, hy168⟩ : ∃ y_ : List Int, y_ = (([a1_1, wrap64 (a0 + 1)] : List Int)) := ⟨_, rfl⟩
          replace H : (some y168) = some r := by first | (rw [hy168]; with_reducible exact H) | (have H2_ := (Option.bind_some _ _).symm.trans H; rw [hy168]; with_reducible exact H2_) | (have H2_ := (Option.bind_some _ _).symm.trans H; with_reducible exact H2_) | with_reducible exact H | (rw [hy168]; exact H) | exact H
          have Ny168 := Aside0.mk hy168; clear hy168; obtain rfl := Option.some.inj H; obtain ⟨hcz13_0, hcz13_1⟩ := cells2 BK164.out; obtain ⟨hfz13_0, hfz13_1⟩ := froz2 BK164.out
          go_wp2_with (first | ((with_reducible refine gate_dst (N := 21) rfl ?_); refine Kd.R_lit (Kd.int .i64) _ 3 ?hg (N := 21) ?hd (xs := ([a1_1, wrap64 (a0 + 1)] : List Int)) (inner := [.int .i64 a1_1, .int .i64 (wrap64 (a0 + 1))]) (ok := fun _ => True) (okp := fun _ => True) ?hr ?hp (fun _ hk => hk) trivial (Below.refl _ _) (Nat.le_refl _) (by simp) ?_; (case hd => rfl); (case hg => rfl); (case hr => first | (go_simp; done) | (go_simp; rfl)); (case hp => exact (Reps.one (show Kd.M (Kd.int .i64) _ _ _ a1_1 [.int .i64 a1_1] from rfl) (Reps.one (show Kd.M (Kd.int .i64) _ _ _ (wrap64 (a0 + 1)) [.int .i64 (wrap64 (a0 + 1))] from rfl) (Reps.none _ _)))); intro v169 w14 ho15 hb hg_ hnew_; clear hg_ hnew_; (first | rw [← Ny168.out] at ho15 | (simp only [Int.reduceToNat] at ho15; rw [← Ny168.out] at ho15)); have HO170 := Aside0.mk (Kd.R_lower ho15 (below_size (bn1 HB GE164))); replace BK164 := Aside0.mk (blk_below (g := gb164) (o := .cells #[.int .i64 a1_0, .int .i64 a1_1] 46 (0, 0)) (bkn BK164) hb); replace HB := Aside0.mk (below_step (bn1 HB GE164) hb); clear hb ho15))
          go_ret
          exact ⟨_, by first | rfl | (simp [errW_none, errW_some] <;> rfl) | (simp [*, errW_none, errW_some] <;> rfl), by (with_reducible repeat (first | apply Kd.R_alloc | apply Kd.R_drewN | apply Kd.R_drew)); exact HO170.out, bn1 HB GE164⟩
        · rw [if_neg c12] at H
          have c12b0 : (a1_0 == 25) = false := beq_eq_false_iff_ne.mpr c12; have c12b1 : (a1_0 != 25) = true := bne_iff_ne.mpr c12; obtain ⟨y171, hy171⟩ : ∃ y_ : List Int, y_ = (([wrap64 (a0 + 1)] : List Int)) := ⟨_, rfl⟩
          replace H : (some y171) = some r := by first | (rw [hy171]; with_reducible exact H) | (have H2_ := (Option.bind_some _ _).symm.trans H; rw [hy171]; with_reducible exact H2_) | (have H2_ := (Option.bind_some _ _).symm.trans H; with_reducible exact H2_) | with_reducible exact H | (rw [hy171]; exact H) | exact H
          have Ny171 := Aside0.mk hy171; clear hy171; obtain rfl := Option.some.inj H
          go_wp2_with (first | ((with_reducible refine gate_dst (N := 24) rfl ?_); refine Kd.R_lit (Kd.int .i64) _ 3 ?hg (N := 24) ?hd (xs := ([wrap64 (a0 + 1)] : List Int)) (inner := [.int .i64 (wrap64 (a0 + 1))]) (ok := fun _ => True) (okp := fun _ => True) ?hr ?hp (fun _ hk => hk) trivial (Below.refl _ _) (Nat.le_refl _) (by simp) ?_; (case hd => rfl); (case hg => rfl); (case hr => first | (go_simp; done) | (go_simp; rfl)); (case hp => exact (Reps.one (show Kd.M (Kd.int .i64) _ _ _ (wrap64 (a0 + 1)) [.int .i64 (wrap64 (a0 + 1))] from rfl) (Reps.none _ _))); intro v172 w16 ho17 hb hg_ hnew_; clear hg_ hnew_; (first | rw [← Ny171.out] at ho17 | (simp only [Int.reduceToNat] at ho17; rw [← Ny171.out] at ho17)); have HO173 := Aside0.mk (Kd.R_lower ho17 (below_size (bn1 HB GE164))); replace BK164 := Aside0.mk (blk_below (g := gb164) (o := .cells #[.int .i64 a1_0, .int .i64 a1_1] 46 (0, 0)) (bkn BK164) hb); replace HB := Aside0.mk (below_step (bn1 HB GE164) hb); clear hb ho17))
          go_ret
          exact ⟨_, by first | rfl | (simp [errW_none, errW_some] <;> rfl) | (simp [*, errW_none, errW_some] <;> rfl), by (with_reducible repeat (first | apply Kd.R_alloc | apply Kd.R_drewN | apply Kd.R_drew)); exact HO173.out, bn1 HB GE164⟩

end Go.Proofs.Ytgngbbkaghmnpaa.Q
