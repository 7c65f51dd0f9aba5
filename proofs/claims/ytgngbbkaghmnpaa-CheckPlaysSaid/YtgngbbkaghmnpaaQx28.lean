-- written by a program of this session after the way of the kit's print; not the kit's own print. Lean checks it.
import Derived.Test.YtgngbbkaghmnpaaQx0
namespace Go.Proofs.Ytgngbbkaghmnpaa.Q
open Go.RowKit Go.Proofs.YtgngbbkaghmnpaaW.PrintWords Go.Proofs.YtgngbbkaghmnpaaW.PrintLast Go.Proofs.YtgngbbkaghmnpaaW.PrintMore
attribute [local go_sem] max2_int min2_int max_two min_two max_three min_three max_four min_four   -- for this text's walks alone
set_option linter.unusedVariables false
set_option linter.unusedSimpArgs false

/-! ### casementref12_Number: function 37 -/
mutual
def casementref12_Number.j0 : Nat → Int → Option (List Int)
  | 0, _ => none
  | k + 1, x3 => casementref12_Number.l0 k x3 (([] : List Int))
def casementref12_Number.l0 : Nat → Int → List Int → Option (List Int)
  | 0, _, _ => none
  | k + 1, x3, x4 => if x3 > 127 then (if x4.length < 140737488355328 then (casementref12_Number.l0 k (IntKind.u64.wrap (Int.tdiv x3 128)) (x4 ++ [((Int.tmod x3 128) + 128) % 256])) else (none)) else (if x4.length < 140737488355328 then (some (x4 ++ [(x3) % 256])) else (none))
end
def casementref12_Number.f (k : Nat) (a0 : Int) : Option (List Int) := if a0 < 0 then (casementref12_Number.j0 k (IntKind.u64.wrap ((IntKind.u64.wrap ((IntKind.u64.wrap (wrap64 (-(wrap64 (a0 + 1))))) * 2)) + 1))) else (casementref12_Number.j0 k (IntKind.u64.wrap ((IntKind.u64.wrap (a0)) * 2)))
theorem casementref12_Number.mono_l : ∀ k, (∀ y0, LeO (casementref12_Number.j0 k y0) (casementref12_Number.j0 (k + 1) y0)) ∧ (∀ y0 y1, LeO (casementref12_Number.l0 k y0 y1) (casementref12_Number.l0 (k + 1) y0 y1))
  | 0 => ⟨fun _ r h => by simp [casementref12_Number.j0] at h, fun _ _ r h => by simp [casementref12_Number.l0] at h⟩
  | k + 1 => by
    obtain ⟨ih0, ih1⟩ := casementref12_Number.mono_l k
    refine ⟨?_, ?_⟩ <;> intros <;> (first | unfold casementref12_Number.j0 | unfold casementref12_Number.l0) <;>
      (repeat' first
      | (with_reducible exact ih0 _)
      | (with_reducible exact ih1 _ _)
      | (with_reducible exact LeO.refl _)
      | (with_reducible exact LeO.none _)
      | (with_reducible refine LeO.ite ?_ ?_)
      | (with_reducible refine LeO.bind ?_ (fun _ => ?_))
      | exact ih0 _
      | exact ih1 _ _
      | exact LeO.none _
      | refine LeO.ite ?_ ?_
      | refine LeO.bind ?_ (fun _ => ?_))
theorem casementref12_Number.mono : ∀ a0 k, LeO (casementref12_Number.f k a0) (casementref12_Number.f (k + 1) a0) := by
  intro a0 k; obtain ⟨ih0, ih1⟩ := casementref12_Number.mono_l k
  unfold casementref12_Number.f
  repeat' first
      | (with_reducible exact ih0 _)
      | (with_reducible exact ih1 _ _)
      | (with_reducible exact LeO.refl _)
      | (with_reducible exact LeO.none _)
      | (with_reducible refine LeO.ite ?_ ?_)
      | (with_reducible refine LeO.bind ?_ (fun _ => ?_))
      | exact ih0 _
      | exact ih1 _ _
      | exact LeO.none _
      | refine LeO.ite ?_ ?_
      | refine LeO.bind ?_ (fun _ => ?_)
set_option maxHeartbeats 8000000 in
set_option maxRecDepth 100000 in
theorem casementref12_Number.calls (k : Nat) (a0 : Int) (r : List Int) (w : World) (h : casementref12_Number.f k a0 = some r) :
    Calls Try.prog 37 #[.int .i64 a0] w fun e w' => ∃ v0_ : Value, e = .returned (v0_) ∧ Kd.R (Kd.int .u8) 5 w' w.heap.size (fun _ => True) v0_ r ∧ Below w.heap.size w w' := by
  have HB := Aside0.mk (Below.refl w.heap.size w); have H : (if a0 < 0 then (casementref12_Number.j0 k (IntKind.u64.wrap ((IntKind.u64.wrap ((IntKind.u64.wrap (wrap64 (-(wrap64 (a0 + 1))))) * 2)) + 1))) else (casementref12_Number.j0 k (IntKind.u64.wrap ((IntKind.u64.wrap (a0)) * 2)))) = some r := h; clear h; have HC2 := Aside0.mk H; clear H
  go_enter Try.func37, Try.ntmps37
  go_upto_if 9 with (fail)
  go_cut [3] (fun v3 wc => ∃ (kq : Nat) (x3_1 : Int), v3 = .int .u64 x3_1 ∧ Aside0 (casementref12_Number.j0 kq x3_1 = some r) ∧ Aside0 (kq ≤ k) ∧ Aside0 (Below w.heap.size w wc))
  case first =>
    have H := HC2.out; clear HC2
    by_cases c3 : a0 < 0
    · rw [if_pos c3] at H
      have c3b0 : decide (a0 < 0) = true := decide_eq_true c3; clear c3
      (first | rw [c3b0] | (simp only [i64_w, i32_w]; rw [c3b0]) | skip)
      have H' := Aside0.mk H; clear H
      go_wp2
      go_meet
      case rel => exact ⟨_, (IntKind.u64.wrap ((IntKind.u64.wrap ((IntKind.u64.wrap (wrap64 (-(wrap64 (a0 + 1))))) * 2)) + 1)), (by first | rfl | (simp; done) | (simp [*]; done)), H', ⟨by first | omega | exact Nat.le_refl _⟩, ⟨bn0 HB⟩⟩
    · rw [if_neg c3] at H
      have c3b0 : decide (a0 < 0) = false := decide_eq_false c3; clear c3
      (first | rw [c3b0] | (simp only [i64_w, i32_w]; rw [c3b0]) | skip)
      have H' := Aside0.mk H; clear H
      go_wp2
      go_meet
      case rel => exact ⟨_, (IntKind.u64.wrap ((IntKind.u64.wrap (a0)) * 2)), (by first | rfl | (simp; done) | (simp [*]; done)), H', ⟨by first | omega | exact Nat.le_refl _⟩, ⟨bn0 HB⟩⟩
  case rest =>
    clear HC2
    try clear p2
    try clear c3
    try clear c3b0
    obtain ⟨kq, x3_1, rfl, HA, HJ1, HB⟩ := hcut
    cases kq with
    | zero => exact absurd HA.out (by simp [casementref12_Number.j0])
    | succ kj1 => ?_
    have H := HA.out; clear HA; simp only [casementref12_Number.j0] at H; obtain ⟨y444, hy444⟩ : ∃ y_ : List Int, y_ = (([] : List Int)) := ⟨_, rfl⟩
    replace H : (casementref12_Number.l0 kj1 x3_1 y444) = some r := by first | (rw [hy444]; with_reducible exact H) | (have H2_ := (Option.bind_some _ _).symm.trans H; rw [hy444]; with_reducible exact H2_) | (have H2_ := (Option.bind_some _ _).symm.trans H; with_reducible exact H2_) | with_reducible exact H | (rw [hy444]; exact H) | exact H
    have Ny444 := Aside0.mk hy444; clear hy444; have H' := Aside0.mk H; clear H
    go_wp2_with (first | ((with_reducible refine gate_dst (N := 16) rfl ?_); refine Kd.R_lit (Kd.int .u8) _ 5 ?hg (N := 16) ?hd (xs := ([] : List Int)) (inner := []) (ok := fun _ => True) (okp := fun _ => True) ?hr ?hp (fun _ hk => hk) trivial (Below.refl _ _) (Nat.le_refl _) (by simp) ?_; (case hd => rfl); (case hg => rfl); (case hr => first | (go_simp; done) | (go_simp; rfl)); (case hp => exact (Reps.none _ _)); intro v445 w4 ho5 hb hg_ hnew_; clear hg_ hnew_; (first | rw [← Ny444.out] at ho5 | (simp only [Int.reduceToNat] at ho5; rw [← Ny444.out] at ho5)); have HO446 := Aside0.mk (Kd.R_lower ho5 (below_size (bn0 HB))); replace HB := Aside0.mk (below_step (bn0 HB) hb); clear hb ho5))
    go_loopg [3, 4] kj1 (fun kq v3 v4 w' => ∃ (x3_2 : Int) (x4_2 : List Int), v3 = .int .u64 x3_2 ∧ Aside0 (casementref12_Number.l0 kq x3_2 x4_2 = some r) ∧ Aside0 (kq ≤ kj1) ∧ Aside0 (Kd.R (Kd.int .u8) 5 w' w.heap.size (fun _ => True) v4 x4_2) ∧ Aside0 (Below w.heap.size w w'))
    case atStart => exact ⟨(x3_1), (y444), (by first | rfl | (simp; done) | (simp [*]; done)), H', ⟨Nat.le_refl _⟩, ⟨by (with_reducible repeat (first | apply Kd.R_alloc | apply Kd.R_drewN | apply Kd.R_drew)); exact HO446.out⟩, ⟨bn0 HB⟩⟩
    case round =>
      clear H'
      try clear p2
      try clear c3
      try clear c3b0
      try clear p2
      obtain ⟨x3_2, x4_2, rfl, HA, HK2, HO_4, HB⟩ := hrel
      cases gk with
      | zero => exact absurd HA.out (by simp [casementref12_Number.l0])
      | succ k2 => ?_
      have H := HA.out; clear HA; simp only [casementref12_Number.l0] at H
      by_cases c6 : x3_2 > 127
      · rw [if_pos c6] at H
        have c6b0 : decide (127 < x3_2) = true := decide_eq_true c6; clear c6
        by_cases c7 : x4_2.length < 140737488355328
        case neg => rw [if_neg c7] at H; exact absurd H (by simp)
        rw [if_pos c7] at H; have LMc7 := Aside0.mk c7; clear c7; obtain ⟨y447, hy447⟩ : ∃ y_ : List Int, y_ = (x4_2 ++ [((Int.tmod x3_2 128) + 128) % 256]) := ⟨_, rfl⟩
        replace H : (casementref12_Number.l0 k2 (IntKind.u64.wrap (Int.tdiv x3_2 128)) y447) = some r := by first | (rw [hy447]; with_reducible exact H) | (have H2_ := (Option.bind_some _ _).symm.trans H; rw [hy447]; with_reducible exact H2_) | (have H2_ := (Option.bind_some _ _).symm.trans H; with_reducible exact H2_) | with_reducible exact H | (rw [hy447]; exact H) | exact H
        have Ny447 := Aside0.mk hy447; clear hy447; have H' := Aside0.mk H; clear H
        go_wp2_with (first | ((with_reducible refine gate_builtin (b := .append) (xs := #[.tmp 19, .tmp 24]) rfl ?_); at_builtin; refine Kd.R_append (Kd.int .u8) (w0 := w) w.heap.size rfl (.tmp 19) (.tmp 24) 22 5 (.int .u8 0) 1 rfl Try.underlying22 info5 rfl (by decide) (by omega) u4 x4_2 (((Int.tmod x3_2 128) + 128) % 256) [.int .u8 (((Int.tmod x3_2 128) + 128) % 256)] (fun _ => True) (fun _ => False) rfl rfl ?aP (fun _ hk => hk.elim) ?aF ?aO ?aB ?aS ?aL ?_; (case aP => exact rfl); (case aB => exact (bn0 HB)); (case aF => exact (fun _ _ => trivial)); (case aO => exact (rnR HO_4)); (case aS => exact (below_size (bn0 HB))); (case aL => have := LMc7.out; omega); intro v448 w8 ho hb hg hat; rw [← Ny447.out] at ho; replace HB := Aside0.mk (hb); have HO449 := Aside0.mk (ho); clear HO_4; clear ho hb hg hat))
        go_roundg k2
        case measure => have := HJ1.out; have := HK2.out; omega
        case rel => exact ⟨(IntKind.u64.wrap (Int.tdiv x3_2 128)), (y447), (by first | rfl | (simp; done) | (simp [*]; done)), H', ⟨by have := HJ1.out; have := HK2.out; omega⟩, ⟨by (with_reducible repeat (first | apply Kd.R_alloc | apply Kd.R_drewN | apply Kd.R_drew)); exact HO449.out⟩, ⟨bn0 HB⟩⟩
      · rw [if_neg c6] at H
        have c6b0 : decide (127 < x3_2) = false := decide_eq_false c6; clear c6
        by_cases c9 : x4_2.length < 140737488355328
        case neg => rw [if_neg c9] at H; exact absurd H (by simp)
        rw [if_pos c9] at H; have LMc9 := Aside0.mk c9; clear c9; obtain ⟨y450, hy450⟩ : ∃ y_ : List Int, y_ = (x4_2 ++ [(x3_2) % 256]) := ⟨_, rfl⟩
        replace H : (some y450) = some r := by first | (rw [hy450]; with_reducible exact H) | (have H2_ := (Option.bind_some _ _).symm.trans H; rw [hy450]; with_reducible exact H2_) | (have H2_ := (Option.bind_some _ _).symm.trans H; with_reducible exact H2_) | with_reducible exact H | (rw [hy450]; exact H) | exact H
        have Ny450 := Aside0.mk hy450; clear hy450; obtain rfl := Option.some.inj H
        go_wp2_with (first | ((with_reducible refine gate_builtin (b := .append) (xs := #[.tmp 28, .tmp 31]) rfl ?_); at_builtin; refine Kd.R_append (Kd.int .u8) (w0 := w) w.heap.size rfl (.tmp 28) (.tmp 31) 22 5 (.int .u8 0) 1 rfl Try.underlying22 info5 rfl (by decide) (by omega) u4 x4_2 ((x3_2) % 256) [.int .u8 ((x3_2) % 256)] (fun _ => True) (fun _ => False) rfl rfl ?aP (fun _ hk => hk.elim) ?aF ?aO ?aB ?aS ?aL ?_; (case aP => exact rfl); (case aB => exact (bn0 HB)); (case aF => exact (fun _ _ => trivial)); (case aO => exact (rnR HO_4)); (case aS => exact (below_size (bn0 HB))); (case aL => have := LMc9.out; omega); intro v451 w10 ho hb hg hat; rw [← Ny450.out] at ho; replace HB := Aside0.mk (hb); have HO452 := Aside0.mk (ho); clear HO_4; clear ho hb hg hat))
        go_ret
        exact ⟨_, by first | rfl | (simp [errW_none, errW_some] <;> rfl) | (simp [*, errW_none, errW_some] <;> rfl), by (with_reducible repeat (first | apply Kd.R_alloc | apply Kd.R_drewN | apply Kd.R_drew)); exact HO452.out, bn0 HB⟩
end Go.Proofs.Ytgngbbkaghmnpaa.Q
