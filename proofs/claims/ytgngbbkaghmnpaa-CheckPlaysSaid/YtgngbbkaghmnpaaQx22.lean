-- written by a program of this session after the way of the kit's print; not the kit's own print. Lean checks it.
import Derived.Test.YtgngbbkaghmnpaaQx0
namespace Go.Proofs.Ytgngbbkaghmnpaa.Q
open Go.RowKit Go.Proofs.YtgngbbkaghmnpaaW.PrintWords Go.Proofs.YtgngbbkaghmnpaaW.PrintLast Go.Proofs.YtgngbbkaghmnpaaW.PrintMore
attribute [local go_sem] max2_int min2_int max_two min_two max_three min_three max_four min_four   -- for this text's walks alone
set_option linter.unusedVariables false
set_option linter.unusedSimpArgs false

/-! ### casementref13_put: function 25 -/
def casementref13_put.l0 : Nat → List Int → Int → Int → List Int → Int → Option (List Int)
  | 0, _, _, _, _, _ => none
  | k + 1, x0, x1, x2, x7, x8 => if x8 < (x0.length : Int) then (if x8 = x1 then (if x7.length < 17592186044416 then (casementref13_put.l0 k x0 x1 x2 (x7 ++ [x2]) (wrap64 (x8 + 1))) else (none)) else (if 0 ≤ x8 then (if x7.length < 17592186044416 then (casementref13_put.l0 k x0 x1 x2 (x7 ++ [rd x0 x8]) (wrap64 (x8 + 1))) else (none)) else (none))) else (some x7)
def casementref13_put.f (k : Nat) (l0 : List Int) (a1 : Int) (a2 : Int) : Option (List Int) := casementref13_put.l0 k l0 a1 a2 (([] : List Int)) 0
theorem casementref13_put.mono_l : ∀ k, (∀ y0 y1 y2 y3 y4, LeO (casementref13_put.l0 k y0 y1 y2 y3 y4) (casementref13_put.l0 (k + 1) y0 y1 y2 y3 y4))
  | 0 => fun _ _ _ _ _ r h => by simp [casementref13_put.l0] at h
  | k + 1 => by
    have ih0 := casementref13_put.mono_l k
    · intro y0 y1 y2 y3 y4
      unfold casementref13_put.l0
      repeat' first
      | (with_reducible exact ih0 _ _ _ _ _)
      | (with_reducible exact LeO.refl _)
      | (with_reducible exact LeO.none _)
      | (with_reducible refine LeO.ite ?_ ?_)
      | (with_reducible refine LeO.bind ?_ (fun _ => ?_))
      | exact ih0 _ _ _ _ _
      | exact LeO.none _
      | refine LeO.ite ?_ ?_
      | refine LeO.bind ?_ (fun _ => ?_)
theorem casementref13_put.mono : ∀ a0 a1 a2 k, LeO (casementref13_put.f k a0 a1 a2) (casementref13_put.f (k + 1) a0 a1 a2) := by
  intro a0 a1 a2 k; have ih0 := casementref13_put.mono_l k
  unfold casementref13_put.f
  repeat' first
      | (with_reducible exact ih0 _ _ _ _ _)
      | (with_reducible exact LeO.refl _)
      | (with_reducible exact LeO.none _)
      | (with_reducible refine LeO.ite ?_ ?_)
      | (with_reducible refine LeO.bind ?_ (fun _ => ?_))
      | exact ih0 _ _ _ _ _
      | exact LeO.none _
      | refine LeO.ite ?_ ?_
      | refine LeO.bind ?_ (fun _ => ?_)
set_option maxHeartbeats 8000000 in
set_option maxRecDepth 100000 in
theorem casementref13_put.calls (k : Nat) (A0 : Option Addr) (c0 : Nat) (l0 : List Int) (a1 : Int) (a2 : Int) (r : List Int) (w : World) (hr0 : Kd.C (Kd.int .i64) w A0 l0.length l0) (hc0 : l0.length ≤ c0) (h : casementref13_put.f k l0 a1 a2 = some r) :
    Calls Try.prog 25 #[.slice A0 l0.length c0, .int .i64 a1, .int .i64 a2] w fun e w' => ∃ v0_ : Value, e = .returned (v0_) ∧ Kd.R (Kd.int .i64) 3 w' w.heap.size (fun _ => True) v0_ r ∧ Below w.heap.size w w' := by
  have HR0 := Aside0.mk hr0; have HC0 := Aside0.mk hc0; clear hr0 hc0; have HB := Aside0.mk (Below.refl w.heap.size w); have H : (casementref13_put.l0 k l0 a1 a2 (([] : List Int)) 0) = some r := h; clear h; obtain ⟨y390, hy390⟩ : ∃ y_ : List Int, y_ = (([] : List Int)) := ⟨_, rfl⟩
  replace H : (casementref13_put.l0 k l0 a1 a2 y390 0) = some r := by first | (rw [hy390]; with_reducible exact H) | (have H2_ := (Option.bind_some _ _).symm.trans H; rw [hy390]; with_reducible exact H2_) | (have H2_ := (Option.bind_some _ _).symm.trans H; with_reducible exact H2_) | with_reducible exact H | (rw [hy390]; exact H) | exact H
  have Ny390 := Aside0.mk hy390; clear hy390; have H' := Aside0.mk H; clear H
  go_enter Try.func25, Try.ntmps25
  go_wp2_with (first | ((with_reducible refine gate_dst (N := 9) rfl ?_); refine Kd.R_lit (Kd.int .i64) _ 3 ?hg (N := 9) ?hd (xs := ([] : List Int)) (inner := []) (ok := fun _ => True) (okp := fun _ => True) ?hr ?hp (fun _ hk => hk) trivial (Below.refl _ _) (Nat.le_refl _) (by simp) ?_; (case hd => rfl); (case hg => rfl); (case hr => first | (go_simp; done) | (go_simp; rfl)); (case hp => exact (Reps.none _ _)); intro v391 w4 ho5 hb hg_ hnew_; clear hg_ hnew_; (first | rw [← Ny390.out] at ho5 | (simp only [Int.reduceToNat] at ho5; rw [← Ny390.out] at ho5)); have HO392 := Aside0.mk (Kd.R_lower ho5 (below_size (bn0 HB))); replace HB := Aside0.mk (below_step (bn0 HB) hb); clear hb ho5))
  go_loopg [7, 8] k (fun kq v7 v8 w' => ∃ (x7_1 : List Int) (x8_1 : Int), v8 = .int .i64 x8_1 ∧ Aside0 (casementref13_put.l0 kq l0 a1 a2 x7_1 x8_1 = some r) ∧ Aside0 (kq ≤ k) ∧ Aside0 (Kd.R (Kd.int .i64) 3 w' w.heap.size (fun _ => True) v7 x7_1) ∧ Aside0 (Below w.heap.size w w'))
  case atStart => exact ⟨(y390), (0), (by first | rfl | (simp; done) | (simp [*]; done)), H', ⟨Nat.le_refl _⟩, ⟨by (with_reducible repeat (first | apply Kd.R_alloc | apply Kd.R_drewN | apply Kd.R_drew)); exact HO392.out⟩, ⟨bn0 HB⟩⟩
  case round =>
    clear H'
    try clear c2
    try clear p2
    obtain ⟨x7_1, x8_1, rfl, HA, HK1, HO_7, HB⟩ := hrel
    cases gk with
    | zero => exact absurd HA.out (by simp [casementref13_put.l0])
    | succ k1 => ?_
    have H := HA.out; clear HA; simp only [casementref13_put.l0] at H
    by_cases c6 : x8_1 < (l0.length : Int)
    · rw [if_pos c6] at H
      have c6b0 : decide (x8_1 < (l0.length : Int)) = true := decide_eq_true c6; clear c6
      by_cases c7 : x8_1 = a1
      · rw [if_pos c7] at H
        have c7b0 : (x8_1 == a1) = true := beq_iff_eq.mpr c7; have c7b1 : (x8_1 != a1) = false := bne_eq_false_iff_eq.mpr c7; clear c7
        by_cases c8 : x7_1.length < 17592186044416
        case neg => rw [if_neg c8] at H; exact absurd H (by simp)
        rw [if_pos c8] at H; have LMc8 := Aside0.mk c8; clear c8; obtain ⟨y393, hy393⟩ : ∃ y_ : List Int, y_ = (x7_1 ++ [a2]) := ⟨_, rfl⟩
        replace H : (casementref13_put.l0 k1 l0 a1 a2 y393 (wrap64 (x8_1 + 1))) = some r := by first | (rw [hy393]; with_reducible exact H) | (have H2_ := (Option.bind_some _ _).symm.trans H; rw [hy393]; with_reducible exact H2_) | (have H2_ := (Option.bind_some _ _).symm.trans H; with_reducible exact H2_) | with_reducible exact H | (rw [hy393]; exact H) | exact H
        have Ny393 := Aside0.mk hy393; clear hy393; have H' := Aside0.mk H; clear H
        go_wp2_with (first | ((with_reducible refine gate_builtin (b := .append) (xs := #[.tmp 19, .tmp 21]) rfl ?_); at_builtin; refine Kd.R_append (Kd.int .i64) (w0 := w) w.heap.size rfl (.tmp 19) (.tmp 21) 34 3 (.int .i64 0) 8 rfl Try.underlying34 info3 rfl (by decide) (by omega) u7 x7_1 a2 [.int .i64 a2] (fun _ => True) (fun _ => False) rfl rfl ?aP (fun _ hk => hk.elim) ?aF ?aO ?aB ?aS ?aL ?_; (case aP => exact rfl); (case aB => exact (bn0 HB)); (case aF => exact (fun _ _ => trivial)); (case aO => exact (rnR HO_7)); (case aS => exact (below_size (bn0 HB))); (case aL => have := LMc8.out; omega); intro v394 w9 ho hb hg hat; rw [← Ny393.out] at ho; replace HB := Aside0.mk (hb); have HO395 := Aside0.mk (ho); clear HO_7; clear ho hb hg hat))
        go_roundg k1
        case measure => have := HK1.out; omega
        case rel => exact ⟨(y393), (wrap64 (x8_1 + 1)), (by first | rfl | (simp; done) | (simp [*]; done)), H', ⟨by have := HK1.out; omega⟩, ⟨by (with_reducible repeat (first | apply Kd.R_alloc | apply Kd.R_drewN | apply Kd.R_drew)); exact HO395.out⟩, ⟨bn0 HB⟩⟩
      · rw [if_neg c7] at H
        have c7b0 : (x8_1 == a1) = false := beq_eq_false_iff_ne.mpr c7; have c7b1 : (x8_1 != a1) = true := bne_iff_ne.mpr c7
        by_cases c10 : 0 ≤ x8_1
        case neg => rw [if_neg c10] at H; exact absurd H (by simp)
        rw [if_pos c10] at H; have c10b0 : decide (0 ≤ x8_1) = true := decide_eq_true c10; clear c10
        by_cases c11 : x7_1.length < 17592186044416
        case neg => rw [if_neg c11] at H; exact absurd H (by simp)
        rw [if_pos c11] at H; have LMc11 := Aside0.mk c11; clear c11; obtain ⟨y397, hy397⟩ : ∃ y_ : List Int, y_ = (x7_1 ++ [rd l0 x8_1]) := ⟨_, rfl⟩
        replace H : (casementref13_put.l0 k1 l0 a1 a2 y397 (wrap64 (x8_1 + 1))) = some r := by first | (rw [hy397]; with_reducible exact H) | (have H2_ := (Option.bind_some _ _).symm.trans H; rw [hy397]; with_reducible exact H2_) | (have H2_ := (Option.bind_some _ _).symm.trans H; with_reducible exact H2_) | with_reducible exact H | (rw [hy397]; exact H) | exact H
        have Ny397 := Aside0.mk hy397; clear hy397; have H' := Aside0.mk H; clear H; have p396 : 0 ≤ (x8_1 : Int) := of_decide_eq_true (by first | (with_reducible assumption) | assumption); have q396 : x8_1 < (l0.length : Int) := of_decide_eq_true (by first | (with_reducible assumption) | assumption); obtain ⟨ad396, e396, hx396_0⟩ := Kd.at_int HR0.out x8_1 p396 q396
        cases e396
        replace hx396_0 := (HB.out.cell (World.block_lt_of_cell? w _ hx396_0)).trans hx396_0; replace p396 := eq_true p396; replace q396 := eq_true q396
        go_wp2_with (first | ((with_reducible refine gate_builtin (b := .append) (xs := #[.tmp 23, .tmp 28]) rfl ?_); at_builtin; refine Kd.R_append (Kd.int .i64) (w0 := w) w.heap.size rfl (.tmp 23) (.tmp 28) 34 3 (.int .i64 0) 8 rfl Try.underlying34 info3 rfl (by decide) (by omega) u7 x7_1 (rd l0 x8_1) [.int .i64 (rd l0 x8_1)] (fun _ => True) (fun _ => False) rfl rfl ?aP (fun _ hk => hk.elim) ?aF ?aO ?aB ?aS ?aL ?_; (case aP => exact rfl); (case aB => exact (bn0 HB)); (case aF => exact (fun _ _ => trivial)); (case aO => exact (rnR HO_7)); (case aS => exact (below_size (bn0 HB))); (case aL => have := LMc11.out; omega); intro v398 w12 ho hb hg hat; rw [← Ny397.out] at ho; replace HB := Aside0.mk (hb); have HO399 := Aside0.mk (ho); clear HO_7; clear ho hb hg hat))
        go_roundg k1
        case measure => have := HK1.out; omega
        case rel => exact ⟨(y397), (wrap64 (x8_1 + 1)), (by first | rfl | (simp; done) | (simp [*]; done)), H', ⟨by have := HK1.out; omega⟩, ⟨by (with_reducible repeat (first | apply Kd.R_alloc | apply Kd.R_drewN | apply Kd.R_drew)); exact HO399.out⟩, ⟨bn0 HB⟩⟩
    · rw [if_neg c6] at H
      have c6b0 : decide (x8_1 < (l0.length : Int)) = false := decide_eq_false c6; clear c6; obtain rfl := Option.some.inj H
      go_wp2
      go_ret
      exact ⟨_, by first | rfl | (simp [errW_none, errW_some] <;> rfl) | (simp [*, errW_none, errW_some] <;> rfl), by (with_reducible repeat (first | apply Kd.R_alloc | apply Kd.R_drewN | apply Kd.R_drew)); exact HO_7.out, bn0 HB⟩

end Go.Proofs.Ytgngbbkaghmnpaa.Q
