-- written by a program of this session after the way of the kit's print; not the kit's own print. Lean checks it.
import Derived.Test.YtgngbbkaghmnpaaQx0
import Derived.Test.YtgngbbkaghmnpaaQx24
namespace Go.Proofs.Ytgngbbkaghmnpaa.Q
open Go.RowKit Go.Proofs.YtgngbbkaghmnpaaW.PrintWords Go.Proofs.YtgngbbkaghmnpaaW.PrintLast Go.Proofs.YtgngbbkaghmnpaaW.PrintMore
attribute [local go_sem] max2_int min2_int max_two min_two max_three min_three max_four min_four   -- for this text's walks alone
set_option linter.unusedVariables false
set_option linter.unusedSimpArgs false

/-! ### casementref12_Right: function 31 -/
mutual
def casementref12_Right.j0 : Nat → Bool → Int → List Int → List (S42) → Option (Bool)
  | 0, _, _, _, _ => none
  | k + 1, x34, x432000, x432001, x432002 => if x34 = true then (some false) else (casementref12_Right.l0 k 0 x432000 x432001 x432002)
def casementref12_Right.l0 : Nat → Int → Int → List Int → List (S42) → Option (Bool)
  | 0, _, _, _, _ => none
  | k + 1, x3, x432000, x432001, x432002 => if x3 < (x432002.length : Int) then (if 0 ≤ x3 then (if ((rd_T42 x432002 x3).f0) < 0 then (casementref12_Right.j2 k x3 true x432000 x432001 x432002 ((rd_T42 x432002 x3).f0) ((rd_T42 x432002 x3).f1) ((rd_T42 x432002 x3).f2) ((rd_T42 x432002 x3).f3)) else (if ((rd_T42 x432002 x3).f0) > 8 then (casementref12_Right.j2 k x3 true x432000 x432001 x432002 ((rd_T42 x432002 x3).f0) ((rd_T42 x432002 x3).f1) ((rd_T42 x432002 x3).f2) ((rd_T42 x432002 x3).f3)) else (if ((rd_T42 x432002 x3).f1) < 0 then (casementref12_Right.j2 k x3 true x432000 x432001 x432002 ((rd_T42 x432002 x3).f0) ((rd_T42 x432002 x3).f1) ((rd_T42 x432002 x3).f2) ((rd_T42 x432002 x3).f3)) else (if ((rd_T42 x432002 x3).f1) > 1 then (casementref12_Right.j2 k x3 true x432000 x432001 x432002 ((rd_T42 x432002 x3).f0) ((rd_T42 x432002 x3).f1) ((rd_T42 x432002 x3).f2) ((rd_T42 x432002 x3).f3)) else (if ((rd_T42 x432002 x3).f2) < 0 then (casementref12_Right.j2 k x3 true x432000 x432001 x432002 ((rd_T42 x432002 x3).f0) ((rd_T42 x432002 x3).f1) ((rd_T42 x432002 x3).f2) ((rd_T42 x432002 x3).f3)) else (if ((rd_T42 x432002 x3).f2) > 16 then (casementref12_Right.j2 k x3 true x432000 x432001 x432002 ((rd_T42 x432002 x3).f0) ((rd_T42 x432002 x3).f1) ((rd_T42 x432002 x3).f2) ((rd_T42 x432002 x3).f3)) else (if (wrap64 (((rd_T42 x432002 x3).f0) + ((rd_T42 x432002 x3).f2))) > 16 then (casementref12_Right.j2 k x3 true x432000 x432001 x432002 ((rd_T42 x432002 x3).f0) ((rd_T42 x432002 x3).f1) ((rd_T42 x432002 x3).f2) ((rd_T42 x432002 x3).f3)) else (if (((rd_T42 x432002 x3).f3).length : Int) = 0 then (casementref12_Right.j2 k x3 true x432000 x432001 x432002 ((rd_T42 x432002 x3).f0) ((rd_T42 x432002 x3).f1) ((rd_T42 x432002 x3).f2) ((rd_T42 x432002 x3).f3)) else (casementref12_Right.j2 k x3 (decide ((((rd_T42 x432002 x3).f3).length : Int) > 400)) x432000 x432001 x432002 ((rd_T42 x432002 x3).f0) ((rd_T42 x432002 x3).f1) ((rd_T42 x432002 x3).f2) ((rd_T42 x432002 x3).f3)))))))))) else (none)) else (some true)
def casementref12_Right.j2 : Nat → Int → Bool → Int → List Int → List (S42) → Int → Int → Int → List (S46) → Option (Bool)
  | 0, _, _, _, _, _, _, _, _, _ => none
  | k + 1, x3, x94, x432000, x432001, x432002, x434000, x434001, x434002, x434003 => if x94 = true then (some false) else (casementref12_Right.l1 k x3 0 x432000 x432001 x432002 x434000 x434001 x434002 x434003)
def casementref12_Right.l1 : Nat → Int → Int → Int → List Int → List (S42) → Int → Int → Int → List (S46) → Option (Bool)
  | 0, _, _, _, _, _, _, _, _, _ => none
  | k + 1, x3, x5, x432000, x432001, x432002, x434000, x434001, x434002, x434003 => if x5 < (x434003.length : Int) then (if 0 ≤ x5 then (if ((rd_T46 x434003 x5).f0) < 0 then (some false) else (if ((rd_T46 x434003 x5).f0) > 29 then (some false) else ((casementref12_Has.f ((rd_T46 x434003 x5).f0)).bind fun t436 => (if t436 = true then (casementref12_Right.l1 k x3 (wrap64 (x5 + 1)) x432000 x432001 x432002 x434000 x434001 x434002 x434003) else (if ((rd_T46 x434003 x5).f1) = 0 then (casementref12_Right.l1 k x3 (wrap64 (x5 + 1)) x432000 x432001 x432002 x434000 x434001 x434002 x434003) else (some false)))))) else (none)) else (casementref12_Right.l0 k (wrap64 (x3 + 1)) x432000 x432001 x432002)
end
def casementref12_Right.f (k : Nat) (a0_0 : Int) (l0_1 : List Int) (l0_2 : List (S42)) : Option (Bool) := if a0_0 < 0 then (casementref12_Right.j0 k true a0_0 l0_1 l0_2) else (if a0_0 > 1024 then (casementref12_Right.j0 k true a0_0 l0_1 l0_2) else (if (l0_1.length : Int) > a0_0 then (casementref12_Right.j0 k true a0_0 l0_1 l0_2) else (if (l0_2.length : Int) = 0 then (casementref12_Right.j0 k true a0_0 l0_1 l0_2) else (casementref12_Right.j0 k (decide ((l0_2.length : Int) > 16)) a0_0 l0_1 l0_2))))
theorem casementref12_Right.mono_l : ∀ k, (∀ y0 y1 y2 y3, LeO (casementref12_Right.j0 k y0 y1 y2 y3) (casementref12_Right.j0 (k + 1) y0 y1 y2 y3)) ∧ (∀ y0 y1 y2 y3, LeO (casementref12_Right.l0 k y0 y1 y2 y3) (casementref12_Right.l0 (k + 1) y0 y1 y2 y3)) ∧ (∀ y0 y1 y2 y3 y4 y5 y6 y7 y8, LeO (casementref12_Right.j2 k y0 y1 y2 y3 y4 y5 y6 y7 y8) (casementref12_Right.j2 (k + 1) y0 y1 y2 y3 y4 y5 y6 y7 y8)) ∧ (∀ y0 y1 y2 y3 y4 y5 y6 y7 y8, LeO (casementref12_Right.l1 k y0 y1 y2 y3 y4 y5 y6 y7 y8) (casementref12_Right.l1 (k + 1) y0 y1 y2 y3 y4 y5 y6 y7 y8))
  | 0 => ⟨fun _ _ _ _ r h => by simp [casementref12_Right.j0] at h, fun _ _ _ _ r h => by simp [casementref12_Right.l0] at h, fun _ _ _ _ _ _ _ _ _ r h => by simp [casementref12_Right.j2] at h, fun _ _ _ _ _ _ _ _ _ r h => by simp [casementref12_Right.l1] at h⟩
  | k + 1 => by
    obtain ⟨ih0, ih1, ih2, ih3⟩ := casementref12_Right.mono_l k
    refine ⟨?_, ?_, ?_, ?_⟩ <;> intros <;> (first | unfold casementref12_Right.j0 | unfold casementref12_Right.l0 | unfold casementref12_Right.j2 | unfold casementref12_Right.l1) <;>
      (repeat' first
      | (with_reducible exact ih0 _ _ _ _)
      | (with_reducible exact ih1 _ _ _ _)
      | (with_reducible exact ih2 _ _ _ _ _ _ _ _ _)
      | (with_reducible exact ih3 _ _ _ _ _ _ _ _ _)
      | (with_reducible exact LeO.refl _)
      | (with_reducible exact LeO.none _)
      | (with_reducible refine LeO.ite ?_ ?_)
      | (with_reducible refine LeO.bind ?_ (fun _ => ?_))
      | exact ih0 _ _ _ _
      | exact ih1 _ _ _ _
      | exact ih2 _ _ _ _ _ _ _ _ _
      | exact ih3 _ _ _ _ _ _ _ _ _
      | exact LeO.none _
      | refine LeO.ite ?_ ?_
      | refine LeO.bind ?_ (fun _ => ?_))
theorem casementref12_Right.mono : ∀ a0 a1 a2 k, LeO (casementref12_Right.f k a0 a1 a2) (casementref12_Right.f (k + 1) a0 a1 a2) := by
  intro a0 a1 a2 k; obtain ⟨ih0, ih1, ih2, ih3⟩ := casementref12_Right.mono_l k
  unfold casementref12_Right.f
  repeat' first
      | (with_reducible exact ih0 _ _ _ _)
      | (with_reducible exact ih1 _ _ _ _)
      | (with_reducible exact ih2 _ _ _ _ _ _ _ _ _)
      | (with_reducible exact ih3 _ _ _ _ _ _ _ _ _)
      | (with_reducible exact LeO.refl _)
      | (with_reducible exact LeO.none _)
      | (with_reducible refine LeO.ite ?_ ?_)
      | (with_reducible refine LeO.bind ?_ (fun _ => ?_))
      | exact ih0 _ _ _ _
      | exact ih1 _ _ _ _
      | exact ih2 _ _ _ _ _ _ _ _ _
      | exact ih3 _ _ _ _ _ _ _ _ _
      | exact LeO.none _
      | refine LeO.ite ?_ ?_
      | refine LeO.bind ?_ (fun _ => ?_)
set_option maxHeartbeats 8000000 in
set_option maxRecDepth 100000 in
theorem casementref12_Right.calls (k : Nat) (a0_0 : Int) (A0_1 : Option Addr) (c0_1 : Nat) (l0_1 : List Int) (A0_2 : Option Addr) (c0_2 : Nat) (l0_2 : List (S42)) (r : Bool) (w : World) (hr0_1 : Kd.C (Kd.int .u8) w A0_1 l0_1.length l0_1) (hc0_1 : l0_1.length ≤ c0_1) (hr0_2 : Kd.C k42 w A0_2 l0_2.length l0_2) (hc0_2 : l0_2.length ≤ c0_2) (h : casementref12_Right.f k a0_0 l0_1 l0_2 = some r) :
    Calls Try.prog 31 #[.agg #[.int .i64 a0_0, .slice A0_1 l0_1.length c0_1, .slice A0_2 l0_2.length c0_2]] w fun e w' => e = .returned (.bool r) ∧ Below w.heap.size w w' := by
  have hu25 := Try.underlying25; have hu42 := Try.underlying42; have hu46 := Try.underlying46; have HR0_1 := Aside0.mk hr0_1; have HC0_1 := Aside0.mk hc0_1; clear hr0_1 hc0_1; have HR0_2 := Aside0.mk hr0_2; have HC0_2 := Aside0.mk hc0_2; clear hr0_2 hc0_2; have HB := Aside0.mk (Below.refl w.heap.size w); have H : (if a0_0 < 0 then (casementref12_Right.j0 k true a0_0 l0_1 l0_2) else (if a0_0 > 1024 then (casementref12_Right.j0 k true a0_0 l0_1 l0_2) else (if (l0_1.length : Int) > a0_0 then (casementref12_Right.j0 k true a0_0 l0_1 l0_2) else (if (l0_2.length : Int) = 0 then (casementref12_Right.j0 k true a0_0 l0_1 l0_2) else (casementref12_Right.j0 k (decide ((l0_2.length : Int) > 16)) a0_0 l0_1 l0_2))))) = some r := h; clear h; have HC2 := Aside0.mk H; clear H
  go_enter Try.func31, Try.ntmps31
  go_upto_region 1 with (first | ((with_reducible refine gate_dst (N := 1) rfl ?_); (try (refine gate_guard (by rfl) ?_; dsimp only)); refine box_event ?hg (N := 1) ?hd (cs := #[.int .i64 a0_0, .slice A0_1 l0_1.length c0_1, .slice A0_2 l0_2.length c0_2]) (t := 25) ?hr ?_; (case hd => rfl); (case hg => rfl); (case hr => first | (go_simp; done) | (go_simp; rfl)); intro gb431 hg w3 hbox hb; have n0_ := Aside0.mk (below_step (bn0 HB) hb); have BK431 := Aside0.mk (hbox); have GW431 := Aside0.mk ((by rw [hg]; exact (below_size (bn0 HB)) : w.heap.size ≤ gb431)); have GE431 := Aside0.mk ((by rw [hg]; exact (below_size (bn0 HB)) : w.heap.size ≤ gb431)); replace HB := n0_; clear n0_; clear hb hbox hg))
  (try simp only [Act.put, List.setIfInBounds_toArray, List.set_cons_zero, List.set_cons_succ])
  go_cut [34] (fun v34 wc => ∃ (kq : Nat) (x34_1 : Bool), v34 = .bool x34_1 ∧ Aside0 (casementref12_Right.j0 kq x34_1 a0_0 l0_1 l0_2 = some r) ∧ Aside0 (kq ≤ k) ∧ Aside0 (wc.heap[gb431]? = some (.cells #[.int .i64 a0_0, (.slice A0_1 l0_1.length c0_1), (.slice A0_2 l0_2.length c0_2)] 25 (0, 0))) ∧ Aside0 (Below w.heap.size w wc))
  case first =>
    have H := HC2.out; clear HC2
    by_cases c4 : a0_0 < 0
    · rw [if_pos c4] at H
      have c4b0 : decide (a0_0 < 0) = true := decide_eq_true c4; clear c4
      (first | rw [c4b0] | (simp only [i64_w, i32_w]; rw [c4b0]) | skip)
      have H' := Aside0.mk H; clear H; obtain ⟨hcz5_0, hcz5_1, hcz5_2⟩ := cells3 BK431.out; obtain ⟨hfz5_0, hfz5_1, hfz5_2⟩ := froz3 BK431.out
      go_wp2
      go_meet
      case rel => exact ⟨_, (true), (by first | rfl | (simp; done) | (simp [*]; done)), H', ⟨by first | omega | exact Nat.le_refl _⟩, ⟨by (with_reducible repeat (first | refine blk_drewN ?_ _ | refine blk_drew ?_ | refine blk_alloc ?_ _)); exact BK431.out⟩, ⟨bn1 HB GE431⟩⟩
    · rw [if_neg c4] at H
      have c4b0 : decide (a0_0 < 0) = false := decide_eq_false c4; clear c4
      (first | rw [c4b0] | (simp only [i64_w, i32_w]; rw [c4b0]) | skip)
      by_cases c6 : a0_0 > 1024
      · rw [if_pos c6] at H
        have c6b0 : decide (1024 < a0_0) = true := decide_eq_true c6; clear c6; have H' := Aside0.mk H; clear H; obtain ⟨hcz7_0, hcz7_1, hcz7_2⟩ := cells3 BK431.out; obtain ⟨hfz7_0, hfz7_1, hfz7_2⟩ := froz3 BK431.out
        go_wp2
        go_meet
        case rel => exact ⟨_, (true), (by first | rfl | (simp; done) | (simp [*]; done)), H', ⟨by first | omega | exact Nat.le_refl _⟩, ⟨by (with_reducible repeat (first | refine blk_drewN ?_ _ | refine blk_drew ?_ | refine blk_alloc ?_ _)); exact BK431.out⟩, ⟨bn1 HB GE431⟩⟩
      · rw [if_neg c6] at H
        have c6b0 : decide (1024 < a0_0) = false := decide_eq_false c6; clear c6
        by_cases c8 : (l0_1.length : Int) > a0_0
        · rw [if_pos c8] at H
          have c8b0 : decide (a0_0 < (l0_1.length : Int)) = true := decide_eq_true c8; clear c8; have H' := Aside0.mk H; clear H; obtain ⟨hcz9_0, hcz9_1, hcz9_2⟩ := cells3 BK431.out; obtain ⟨hfz9_0, hfz9_1, hfz9_2⟩ := froz3 BK431.out
          go_wp2
          go_meet
          case rel => exact ⟨_, (true), (by first | rfl | (simp; done) | (simp [*]; done)), H', ⟨by first | omega | exact Nat.le_refl _⟩, ⟨by (with_reducible repeat (first | refine blk_drewN ?_ _ | refine blk_drew ?_ | refine blk_alloc ?_ _)); exact BK431.out⟩, ⟨bn1 HB GE431⟩⟩
        · rw [if_neg c8] at H
          have c8b0 : decide (a0_0 < (l0_1.length : Int)) = false := decide_eq_false c8; clear c8
          by_cases c10 : (l0_2.length : Int) = 0
          · rw [if_pos c10] at H
            have c10b0 : ((l0_2.length : Int) == 0) = true := beq_iff_eq.mpr c10; have c10b1 : ((l0_2.length : Int) != 0) = false := bne_eq_false_iff_eq.mpr c10; clear c10; have H' := Aside0.mk H; clear H; obtain ⟨hcz11_0, hcz11_1, hcz11_2⟩ := cells3 BK431.out; obtain ⟨hfz11_0, hfz11_1, hfz11_2⟩ := froz3 BK431.out
            go_wp2
            go_meet
            case rel => exact ⟨_, (true), (by first | rfl | (simp; done) | (simp [*]; done)), H', ⟨by first | omega | exact Nat.le_refl _⟩, ⟨by (with_reducible repeat (first | refine blk_drewN ?_ _ | refine blk_drew ?_ | refine blk_alloc ?_ _)); exact BK431.out⟩, ⟨bn1 HB GE431⟩⟩
          · rw [if_neg c10] at H
            have c10b0 : ((l0_2.length : Int) == 0) = false := beq_eq_false_iff_ne.mpr c10; have c10b1 : ((l0_2.length : Int) != 0) = true := bne_iff_ne.mpr c10
            have c10b2 : ¬ (l0_2 = []) := fun h_ => c10 (by rw [h_]; rfl)
            have H' := Aside0.mk H; clear H; obtain ⟨hcz12_0, hcz12_1, hcz12_2⟩ := cells3 BK431.out; obtain ⟨hfz12_0, hfz12_1, hfz12_2⟩ := froz3 BK431.out
            go_wp2
            go_meet
            case rel => exact ⟨_, (decide ((l0_2.length : Int) > 16)), (by first | rfl | (simp; done) | (simp [*]; done)), H', ⟨by first | omega | exact Nat.le_refl _⟩, ⟨by (with_reducible repeat (first | refine blk_drewN ?_ _ | refine blk_drew ?_ | refine blk_alloc ?_ _)); exact BK431.out⟩, ⟨bn1 HB GE431⟩⟩
  case rest =>
    clear HC2
    try clear c1
    try clear p2
    try clear c3
    try clear c4
    try clear c4b0
    try clear c6
    try clear c6b0
    try clear c8
    try clear c8b0
    try clear c10
    try clear c10b0
    try clear c10b1
    try clear c10b2
    try clear hcz11_0
    try clear hcz11_1
    try clear hcz11_2
    try clear hcz12_0
    try clear hcz12_1
    try clear hcz12_2
    try clear hcz5_0
    try clear hcz5_1
    try clear hcz5_2
    try clear hcz7_0
    try clear hcz7_1
    try clear hcz7_2
    try clear hcz9_0
    try clear hcz9_1
    try clear hcz9_2
    try clear hfz11_0
    try clear hfz11_1
    try clear hfz11_2
    try clear hfz12_0
    try clear hfz12_1
    try clear hfz12_2
    try clear hfz5_0
    try clear hfz5_1
    try clear hfz5_2
    try clear hfz7_0
    try clear hfz7_1
    try clear hfz7_2
    try clear hfz9_0
    try clear hfz9_1
    try clear hfz9_2
    obtain ⟨kq, x34_1, rfl, HA, HJ1, BK431, HB⟩ := hcut
    cases kq with
    | zero => exact absurd HA.out (by simp [casementref12_Right.j0])
    | succ kj1 => ?_
    have H := HA.out; clear HA; simp only [casementref12_Right.j0] at H
    by_cases c13 : x34_1 = true
    · subst c13
      have H1 : (some false) = some r := by rw [if_pos rfl] at H; exact H
      clear H; have H := H1; clear H1; obtain rfl := Option.some.inj H
      go_wp2
      go_ret
      exact ⟨by first | rfl | (simp [errW_none, errW_some] <;> rfl) | (simp [*, errW_none, errW_some] <;> rfl), bn1 HB GE431⟩
    · replace c13 := Bool.eq_false_iff.mpr c13
      subst c13
      have H1 : (casementref12_Right.l0 kj1 0 a0_0 l0_1 l0_2) = some r := by rw [if_neg (show ¬ (false = true) by decide)] at H; exact H
      clear H; have H := H1; clear H1; have H' := Aside0.mk H; clear H
      go_wp2
      go_loopg [3] kj1 (fun kq v3 w' => ∃ (x3_2 : Int), v3 = .int .i64 x3_2 ∧ Aside0 (casementref12_Right.l0 kq x3_2 a0_0 l0_1 l0_2 = some r) ∧ Aside0 (kq ≤ kj1) ∧ Aside0 (w'.heap[gb431]? = some (.cells #[.int .i64 a0_0, (.slice A0_1 l0_1.length c0_1), (.slice A0_2 l0_2.length c0_2)] 25 (0, 0))) ∧ Aside0 (Below w.heap.size w w'))
      case atStart => exact ⟨(0), (by first | rfl | (simp; done) | (simp [*]; done)), H', ⟨Nat.le_refl _⟩, ⟨by (with_reducible repeat (first | refine blk_drewN ?_ _ | refine blk_drew ?_ | refine blk_alloc ?_ _)); exact BK431.out⟩, ⟨bn1 HB GE431⟩⟩
      case round =>
        clear H'
        try clear c1
        try clear p2
        try clear c3
        try clear c4
        try clear c4b0
        try clear c6
        try clear c6b0
        try clear c8
        try clear c8b0
        try clear c10
        try clear c10b0
        try clear c10b1
        try clear c10b2
        try clear c13
        try clear hcz11_0
        try clear hcz11_1
        try clear hcz11_2
        try clear hcz12_0
        try clear hcz12_1
        try clear hcz12_2
        try clear hcz5_0
        try clear hcz5_1
        try clear hcz5_2
        try clear hcz7_0
        try clear hcz7_1
        try clear hcz7_2
        try clear hcz9_0
        try clear hcz9_1
        try clear hcz9_2
        try clear hfz11_0
        try clear hfz11_1
        try clear hfz11_2
        try clear hfz12_0
        try clear hfz12_1
        try clear hfz12_2
        try clear hfz5_0
        try clear hfz5_1
        try clear hfz5_2
        try clear hfz7_0
        try clear hfz7_1
        try clear hfz7_2
        try clear hfz9_0
        try clear hfz9_1
        try clear hfz9_2
        try clear p2
        obtain ⟨x3_2, rfl, HA, HK2, BK431, HB⟩ := hrel
        cases gk with
        | zero => exact absurd HA.out (by simp [casementref12_Right.l0])
        | succ k2 => ?_
        have H := HA.out; clear HA; simp only [casementref12_Right.l0] at H
        by_cases c14 : x3_2 < (l0_2.length : Int)
        · rw [if_pos c14] at H
          have c14b0 : decide (x3_2 < (l0_2.length : Int)) = true := decide_eq_true c14; clear c14
          by_cases c15 : 0 ≤ x3_2
          case neg => rw [if_neg c15] at H; exact absurd H (by simp)
          rw [if_pos c15] at H; have c15b0 : decide (0 ≤ x3_2) = true := decide_eq_true c15; clear c15; have HC16 := Aside0.mk H; clear H; obtain ⟨hcz17_0, hcz17_1, hcz17_2⟩ := cells3 BK431.out; obtain ⟨hfz17_0, hfz17_1, hfz17_2⟩ := froz3 BK431.out; have p432 : 0 ≤ (x3_2 : Int) := of_decide_eq_true (by first | (with_reducible assumption) | assumption); have q432 : x3_2 < (l0_2.length : Int) := of_decide_eq_true (by first | (with_reducible assumption) | assumption); obtain ⟨ad432, A432_3, c432_3, e432, hx432_0, hx432_1, hx432_2, hx432_3, hl432_3, hi432_3⟩ := at_T42 HR0_2.out x3_2 p432 q432
          cases e432
          replace hx432_0 := (HB.out.cell (World.block_lt_of_cell? w _ hx432_0)).trans hx432_0; replace hx432_1 := (HB.out.cell (World.block_lt_of_cell? w _ hx432_1)).trans hx432_1; replace hx432_2 := (HB.out.cell (World.block_lt_of_cell? w _ hx432_2)).trans hx432_2; replace hx432_3 := (HB.out.cell (World.block_lt_of_cell? w _ hx432_3)).trans hx432_3; have HR432_3 := Aside0.mk hi432_3; have HC432_3 := Aside0.mk hl432_3; clear hi432_3 hl432_3; replace p432 := eq_true p432; replace q432 := eq_true q432
          go_upto_region 7 with (first | ((with_reducible refine gate_dst (N := 4) rfl ?_); (try (refine gate_guard (by rfl) ?_; dsimp only)); refine box_event ?hg (N := 4) ?hd (cs := #[.int .i64 0, .int .i64 0, .int .i64 0, .slice none 0 0]) (t := 42) ?hr ?_; (case hd => rfl); (case hg => rfl); (case hr => first | (go_simp; done) | (go_simp; rfl)); intro gb433 hg w18 hbox hb; have n0_ := Aside0.mk (blk_below (g := gb431) (o := .cells #[.int .i64 a0_0, .slice A0_1 l0_1.length c0_1, .slice (some ad432) l0_2.length c0_2] 25 (0, 0)) (bkn BK431) hb); have n1_ := Aside0.mk (below_step (bn1 HB GE431) hb); have BK433 := Aside0.mk (hbox); have GW433 := Aside0.mk ((by rw [hg]; exact (below_size (bn1 HB GE431)) : w.heap.size ≤ gb433)); have GE433 := Aside0.mk ((by rw [hg]; exact (below_size (bn1 HB GE431)) : w.heap.size ≤ gb433)); have NB431_433 := Aside0.mk ((by rw [hg]; exact Nat.ne_of_lt (blk_lt (g := gb431) (o := .cells #[.int .i64 a0_0, .slice A0_1 l0_1.length c0_1, .slice (some ad432) l0_2.length c0_2] 25 (0, 0)) (bkn BK431)) : gb431 ≠ gb433)); have NB433_431 := Aside0.mk ((by rw [hg]; exact Nat.ne_of_gt (blk_lt (g := gb431) (o := .cells #[.int .i64 a0_0, .slice A0_1 l0_1.length c0_1, .slice (some ad432) l0_2.length c0_2] 25 (0, 0)) (bkn BK431)) : gb433 ≠ gb431)); replace BK431 := n0_; replace HB := n1_; clear n0_ n1_; clear hb hbox hg; have hnb19 := NB433_431.out; have hnc19 := NB431_433.out; obtain ⟨hcz20_0, hcz20_1, hcz20_2, hcz20_3⟩ := cells4 BK433.out; obtain ⟨hfz20_0, hfz20_1, hfz20_2, hfz20_3⟩ := froz4 BK433.out))
          (try simp only [Act.put, List.setIfInBounds_toArray, List.set_cons_zero, List.set_cons_succ])
          go_cut [94] (fun v94 wc => ∃ (kq : Nat) (x94_15 : Bool), v94 = .bool x94_15 ∧ Aside0 (casementref12_Right.j2 kq x3_2 x94_15 a0_0 l0_1 l0_2 ((rd_T42 l0_2 x3_2).f0) ((rd_T42 l0_2 x3_2).f1) ((rd_T42 l0_2 x3_2).f2) ((rd_T42 l0_2 x3_2).f3) = some r) ∧ Aside0 (kq ≤ k2) ∧ Aside0 (wc.heap[gb431]? = some (.cells #[.int .i64 a0_0, (.slice A0_1 l0_1.length c0_1), (.slice (some ad432) l0_2.length c0_2)] 25 (0, 0))) ∧ Aside0 (wc.heap[gb433]? = some (.cells #[.int .i64 ((rd_T42 l0_2 x3_2).f0), .int .i64 ((rd_T42 l0_2 x3_2).f1), .int .i64 ((rd_T42 l0_2 x3_2).f2), (.slice A432_3 ((rd_T42 l0_2 x3_2).f3).length c432_3)] 42 (0, 0))) ∧ Aside0 (Below w.heap.size w wc))
          case first =>
            have H := HC16.out; clear HC16
            by_cases c21 : ((rd_T42 l0_2 x3_2).f0) < 0
            · rw [if_pos c21] at H
              have c21b0 : decide (((rd_T42 l0_2 x3_2).f0) < 0) = true := decide_eq_true c21; clear c21
              (first | rw [c21b0] | (simp only [i64_w, i32_w]; rw [c21b0]) | skip)
              have H' := Aside0.mk H; clear H; have hnb22 := NB433_431.out; have hnc22 := NB431_433.out; obtain ⟨hcz23_0, hcz23_1, hcz23_2, hcz23_3⟩ := cells4 BK433.out; obtain ⟨hfz23_0, hfz23_1, hfz23_2, hfz23_3⟩ := froz4 BK433.out
              go_wp2
              go_meet
              case rel => exact ⟨_, (true), (by first | rfl | (simp; done) | (simp [*]; done)), H', ⟨by have := HJ1.out; have := HK2.out; first | omega | exact Nat.le_refl _⟩, ⟨by (with_reducible repeat (first | refine blk_drewN ?_ _ | refine blk_drew ?_ | refine blk_alloc ?_ _)); refine blk_far ?_ NB431_433.out _; (with_reducible repeat (first | refine blk_drewN ?_ _ | refine blk_drew ?_ | refine blk_alloc ?_ _)); refine blk_far ?_ NB431_433.out _; (with_reducible repeat (first | refine blk_drewN ?_ _ | refine blk_drew ?_ | refine blk_alloc ?_ _)); refine blk_far ?_ NB431_433.out _; (with_reducible repeat (first | refine blk_drewN ?_ _ | refine blk_drew ?_ | refine blk_alloc ?_ _)); refine blk_far ?_ NB431_433.out _; (with_reducible repeat (first | refine blk_drewN ?_ _ | refine blk_drew ?_ | refine blk_alloc ?_ _)); exact BK431.out⟩, ⟨by (with_reducible repeat (first | refine blk_drewN ?_ _ | refine blk_drew ?_ | refine blk_alloc ?_ _)); refine blk_put (cs := #[.int .i64 ((rd_T42 l0_2 x3_2).f0), .int .i64 ((rd_T42 l0_2 x3_2).f1), .int .i64 ((rd_T42 l0_2 x3_2).f2), .slice none 0 0]) ?_ 3 _ rfl; (with_reducible repeat (first | refine blk_drewN ?_ _ | refine blk_drew ?_ | refine blk_alloc ?_ _)); refine blk_put (cs := #[.int .i64 ((rd_T42 l0_2 x3_2).f0), .int .i64 ((rd_T42 l0_2 x3_2).f1), .int .i64 0, .slice none 0 0]) ?_ 2 _ rfl; (with_reducible repeat (first | refine blk_drewN ?_ _ | refine blk_drew ?_ | refine blk_alloc ?_ _)); refine blk_put (cs := #[.int .i64 ((rd_T42 l0_2 x3_2).f0), .int .i64 0, .int .i64 0, .slice none 0 0]) ?_ 1 _ rfl; (with_reducible repeat (first | refine blk_drewN ?_ _ | refine blk_drew ?_ | refine blk_alloc ?_ _)); refine blk_put (cs := #[.int .i64 0, .int .i64 0, .int .i64 0, .slice none 0 0]) ?_ 0 _ rfl; (with_reducible repeat (first | refine blk_drewN ?_ _ | refine blk_drew ?_ | refine blk_alloc ?_ _)); exact BK433.out⟩, ⟨bn2 HB GE431 GE433⟩⟩
            · rw [if_neg c21] at H
              have c21b0 : decide (((rd_T42 l0_2 x3_2).f0) < 0) = false := decide_eq_false c21; clear c21
              (first | rw [c21b0] | (simp only [i64_w, i32_w]; rw [c21b0]) | skip)
              by_cases c24 : ((rd_T42 l0_2 x3_2).f0) > 8
              · rw [if_pos c24] at H
                have c24b0 : decide (8 < ((rd_T42 l0_2 x3_2).f0)) = true := decide_eq_true c24; clear c24; have H' := Aside0.mk H; clear H; have hnb25 := NB433_431.out; have hnc25 := NB431_433.out; obtain ⟨hcz26_0, hcz26_1, hcz26_2, hcz26_3⟩ := cells4 BK433.out; obtain ⟨hfz26_0, hfz26_1, hfz26_2, hfz26_3⟩ := froz4 BK433.out
                go_wp2
                go_meet
                case rel => exact ⟨_, (true), (by first | rfl | (simp; done) | (simp [*]; done)), H', ⟨by have := HJ1.out; have := HK2.out; first | omega | exact Nat.le_refl _⟩, ⟨by (with_reducible repeat (first | refine blk_drewN ?_ _ | refine blk_drew ?_ | refine blk_alloc ?_ _)); refine blk_far ?_ NB431_433.out _; (with_reducible repeat (first | refine blk_drewN ?_ _ | refine blk_drew ?_ | refine blk_alloc ?_ _)); refine blk_far ?_ NB431_433.out _; (with_reducible repeat (first | refine blk_drewN ?_ _ | refine blk_drew ?_ | refine blk_alloc ?_ _)); refine blk_far ?_ NB431_433.out _; (with_reducible repeat (first | refine blk_drewN ?_ _ | refine blk_drew ?_ | refine blk_alloc ?_ _)); refine blk_far ?_ NB431_433.out _; (with_reducible repeat (first | refine blk_drewN ?_ _ | refine blk_drew ?_ | refine blk_alloc ?_ _)); exact BK431.out⟩, ⟨by (with_reducible repeat (first | refine blk_drewN ?_ _ | refine blk_drew ?_ | refine blk_alloc ?_ _)); refine blk_put (cs := #[.int .i64 ((rd_T42 l0_2 x3_2).f0), .int .i64 ((rd_T42 l0_2 x3_2).f1), .int .i64 ((rd_T42 l0_2 x3_2).f2), .slice none 0 0]) ?_ 3 _ rfl; (with_reducible repeat (first | refine blk_drewN ?_ _ | refine blk_drew ?_ | refine blk_alloc ?_ _)); refine blk_put (cs := #[.int .i64 ((rd_T42 l0_2 x3_2).f0), .int .i64 ((rd_T42 l0_2 x3_2).f1), .int .i64 0, .slice none 0 0]) ?_ 2 _ rfl; (with_reducible repeat (first | refine blk_drewN ?_ _ | refine blk_drew ?_ | refine blk_alloc ?_ _)); refine blk_put (cs := #[.int .i64 ((rd_T42 l0_2 x3_2).f0), .int .i64 0, .int .i64 0, .slice none 0 0]) ?_ 1 _ rfl; (with_reducible repeat (first | refine blk_drewN ?_ _ | refine blk_drew ?_ | refine blk_alloc ?_ _)); refine blk_put (cs := #[.int .i64 0, .int .i64 0, .int .i64 0, .slice none 0 0]) ?_ 0 _ rfl; (with_reducible repeat (first | refine blk_drewN ?_ _ | refine blk_drew ?_ | refine blk_alloc ?_ _)); exact BK433.out⟩, ⟨bn2 HB GE431 GE433⟩⟩
              · rw [if_neg c24] at H
                have c24b0 : decide (8 < ((rd_T42 l0_2 x3_2).f0)) = false := decide_eq_false c24; clear c24
                by_cases c27 : ((rd_T42 l0_2 x3_2).f1) < 0
                · rw [if_pos c27] at H
                  have c27b0 : decide (((rd_T42 l0_2 x3_2).f1) < 0) = true := decide_eq_true c27; clear c27; have H' := Aside0.mk H; clear H; have hnb28 := NB433_431.out; have hnc28 := NB431_433.out; obtain ⟨hcz29_0, hcz29_1, hcz29_2, hcz29_3⟩ := cells4 BK433.out; obtain ⟨hfz29_0, hfz29_1, hfz29_2, hfz29_3⟩ := froz4 BK433.out
                  go_wp2
                  go_meet
                  case rel => exact ⟨_, (true), (by first | rfl | (simp; done) | (simp [*]; done)), H', ⟨by have := HJ1.out; have := HK2.out; first | omega | exact Nat.le_refl _⟩, ⟨by (with_reducible repeat (first | refine blk_drewN ?_ _ | refine blk_drew ?_ | refine blk_alloc ?_ _)); refine blk_far ?_ NB431_433.out _; (with_reducible repeat (first | refine blk_drewN ?_ _ | refine blk_drew ?_ | refine blk_alloc ?_ _)); refine blk_far ?_ NB431_433.out _; (with_reducible repeat (first | refine blk_drewN ?_ _ | refine blk_drew ?_ | refine blk_alloc ?_ _)); refine blk_far ?_ NB431_433.out _; (with_reducible repeat (first | refine blk_drewN ?_ _ | refine blk_drew ?_ | refine blk_alloc ?_ _)); refine blk_far ?_ NB431_433.out _; (with_reducible repeat (first | refine blk_drewN ?_ _ | refine blk_drew ?_ | refine blk_alloc ?_ _)); exact BK431.out⟩, ⟨by (with_reducible repeat (first | refine blk_drewN ?_ _ | refine blk_drew ?_ | refine blk_alloc ?_ _)); refine blk_put (cs := #[.int .i64 ((rd_T42 l0_2 x3_2).f0), .int .i64 ((rd_T42 l0_2 x3_2).f1), .int .i64 ((rd_T42 l0_2 x3_2).f2), .slice none 0 0]) ?_ 3 _ rfl; (with_reducible repeat (first | refine blk_drewN ?_ _ | refine blk_drew ?_ | refine blk_alloc ?_ _)); refine blk_put (cs := #[.int .i64 ((rd_T42 l0_2 x3_2).f0), .int .i64 ((rd_T42 l0_2 x3_2).f1), .int .i64 0, .slice none 0 0]) ?_ 2 _ rfl; (with_reducible repeat (first | refine blk_drewN ?_ _ | refine blk_drew ?_ | refine blk_alloc ?_ _)); refine blk_put (cs := #[.int .i64 ((rd_T42 l0_2 x3_2).f0), .int .i64 0, .int .i64 0, .slice none 0 0]) ?_ 1 _ rfl; (with_reducible repeat (first | refine blk_drewN ?_ _ | refine blk_drew ?_ | refine blk_alloc ?_ _)); refine blk_put (cs := #[.int .i64 0, .int .i64 0, .int .i64 0, .slice none 0 0]) ?_ 0 _ rfl; (with_reducible repeat (first | refine blk_drewN ?_ _ | refine blk_drew ?_ | refine blk_alloc ?_ _)); exact BK433.out⟩, ⟨bn2 HB GE431 GE433⟩⟩
                · rw [if_neg c27] at H
                  have c27b0 : decide (((rd_T42 l0_2 x3_2).f1) < 0) = false := decide_eq_false c27; clear c27
                  by_cases c30 : ((rd_T42 l0_2 x3_2).f1) > 1
                  · rw [if_pos c30] at H
                    have c30b0 : decide (1 < ((rd_T42 l0_2 x3_2).f1)) = true := decide_eq_true c30; clear c30; have H' := Aside0.mk H; clear H; have hnb31 := NB433_431.out; have hnc31 := NB431_433.out; obtain ⟨hcz32_0, hcz32_1, hcz32_2, hcz32_3⟩ := cells4 BK433.out; obtain ⟨hfz32_0, hfz32_1, hfz32_2, hfz32_3⟩ := froz4 BK433.out
                    go_wp2
                    go_meet
                    case rel => exact ⟨_, (true), (by first | rfl | (simp; done) | (simp [*]; done)), H', ⟨by have := HJ1.out; have := HK2.out; first | omega | exact Nat.le_refl _⟩, ⟨by (with_reducible repeat (first | refine blk_drewN ?_ _ | refine blk_drew ?_ | refine blk_alloc ?_ _)); refine blk_far ?_ NB431_433.out _; (with_reducible repeat (first | refine blk_drewN ?_ _ | refine blk_drew ?_ | refine blk_alloc ?_ _)); refine blk_far ?_ NB431_433.out _; (with_reducible repeat (first | refine blk_drewN ?_ _ | refine blk_drew ?_ | refine blk_alloc ?_ _)); refine blk_far ?_ NB431_433.out _; (with_reducible repeat (first | refine blk_drewN ?_ _ | refine blk_drew ?_ | refine blk_alloc ?_ _)); refine blk_far ?_ NB431_433.out _; (with_reducible repeat (first | refine blk_drewN ?_ _ | refine blk_drew ?_ | refine blk_alloc ?_ _)); exact BK431.out⟩, ⟨by (with_reducible repeat (first | refine blk_drewN ?_ _ | refine blk_drew ?_ | refine blk_alloc ?_ _)); refine blk_put (cs := #[.int .i64 ((rd_T42 l0_2 x3_2).f0), .int .i64 ((rd_T42 l0_2 x3_2).f1), .int .i64 ((rd_T42 l0_2 x3_2).f2), .slice none 0 0]) ?_ 3 _ rfl; (with_reducible repeat (first | refine blk_drewN ?_ _ | refine blk_drew ?_ | refine blk_alloc ?_ _)); refine blk_put (cs := #[.int .i64 ((rd_T42 l0_2 x3_2).f0), .int .i64 ((rd_T42 l0_2 x3_2).f1), .int .i64 0, .slice none 0 0]) ?_ 2 _ rfl; (with_reducible repeat (first | refine blk_drewN ?_ _ | refine blk_drew ?_ | refine blk_alloc ?_ _)); refine blk_put (cs := #[.int .i64 ((rd_T42 l0_2 x3_2).f0), .int .i64 0, .int .i64 0, .slice none 0 0]) ?_ 1 _ rfl; (with_reducible repeat (first | refine blk_drewN ?_ _ | refine blk_drew ?_ | refine blk_alloc ?_ _)); refine blk_put (cs := #[.int .i64 0, .int .i64 0, .int .i64 0, .slice none 0 0]) ?_ 0 _ rfl; (with_reducible repeat (first | refine blk_drewN ?_ _ | refine blk_drew ?_ | refine blk_alloc ?_ _)); exact BK433.out⟩, ⟨bn2 HB GE431 GE433⟩⟩
                  · rw [if_neg c30] at H
                    have c30b0 : decide (1 < ((rd_T42 l0_2 x3_2).f1)) = false := decide_eq_false c30; clear c30
                    by_cases c33 : ((rd_T42 l0_2 x3_2).f2) < 0
                    · rw [if_pos c33] at H
                      have c33b0 : decide (((rd_T42 l0_2 x3_2).f2) < 0) = true := decide_eq_true c33; clear c33; have H' := Aside0.mk H; clear H; have hnb34 := NB433_431.out; have hnc34 := NB431_433.out; obtain ⟨hcz35_0, hcz35_1, hcz35_2, hcz35_3⟩ := cells4 BK433.out; obtain ⟨hfz35_0, hfz35_1, hfz35_2, hfz35_3⟩ := froz4 BK433.out
                      go_wp2
                      go_meet
                      case rel => exact ⟨_, (true), (by first | rfl | (simp; done) | (simp [*]; done)), H', ⟨by have := HJ1.out; have := HK2.out; first | omega | exact Nat.le_refl _⟩, ⟨by (with_reducible repeat (first | refine blk_drewN ?_ _ | refine blk_drew ?_ | refine blk_alloc ?_ _)); refine blk_far ?_ NB431_433.out _; (with_reducible repeat (first | refine blk_drewN ?_ _ | refine blk_drew ?_ | refine blk_alloc ?_ _)); refine blk_far ?_ NB431_433.out _; (with_reducible repeat (first | refine blk_drewN ?_ _ | refine blk_drew ?_ | refine blk_alloc ?_ _)); refine blk_far ?_ NB431_433.out _; (with_reducible repeat (first | refine blk_drewN ?_ _ | refine blk_drew ?_ | refine blk_alloc ?_ _)); refine blk_far ?_ NB431_433.out _; (with_reducible repeat (first | refine blk_drewN ?_ _ | refine blk_drew ?_ | refine blk_alloc ?_ _)); exact BK431.out⟩, ⟨by (with_reducible repeat (first | refine blk_drewN ?_ _ | refine blk_drew ?_ | refine blk_alloc ?_ _)); refine blk_put (cs := #[.int .i64 ((rd_T42 l0_2 x3_2).f0), .int .i64 ((rd_T42 l0_2 x3_2).f1), .int .i64 ((rd_T42 l0_2 x3_2).f2), .slice none 0 0]) ?_ 3 _ rfl; (with_reducible repeat (first | refine blk_drewN ?_ _ | refine blk_drew ?_ | refine blk_alloc ?_ _)); refine blk_put (cs := #[.int .i64 ((rd_T42 l0_2 x3_2).f0), .int .i64 ((rd_T42 l0_2 x3_2).f1), .int .i64 0, .slice none 0 0]) ?_ 2 _ rfl; (with_reducible repeat (first | refine blk_drewN ?_ _ | refine blk_drew ?_ | refine blk_alloc ?_ _)); refine blk_put (cs := #[.int .i64 ((rd_T42 l0_2 x3_2).f0), .int .i64 0, .int .i64 0, .slice none 0 0]) ?_ 1 _ rfl; (with_reducible repeat (first | refine blk_drewN ?_ _ | refine blk_drew ?_ | refine blk_alloc ?_ _)); refine blk_put (cs := #[.int .i64 0, .int .i64 0, .int .i64 0, .slice none 0 0]) ?_ 0 _ rfl; (with_reducible repeat (first | refine blk_drewN ?_ _ | refine blk_drew ?_ | refine blk_alloc ?_ _)); exact BK433.out⟩, ⟨bn2 HB GE431 GE433⟩⟩
                    · rw [if_neg c33] at H
                      have c33b0 : decide (((rd_T42 l0_2 x3_2).f2) < 0) = false := decide_eq_false c33; clear c33
                      by_cases c36 : ((rd_T42 l0_2 x3_2).f2) > 16
                      · rw [if_pos c36] at H
                        have c36b0 : decide (16 < ((rd_T42 l0_2 x3_2).f2)) = true := decide_eq_true c36; clear c36; have H' := Aside0.mk H; clear H; have hnb37 := NB433_431.out; have hnc37 := NB431_433.out; obtain ⟨hcz38_0, hcz38_1, hcz38_2, hcz38_3⟩ := cells4 BK433.out; obtain ⟨hfz38_0, hfz38_1, hfz38_2, hfz38_3⟩ := froz4 BK433.out
                        go_wp2
                        go_meet
                        case rel => exact ⟨_, (true), (by first | rfl | (simp; done) | (simp [*]; done)), H', ⟨by have := HJ1.out; have := HK2.out; first | omega | exact Nat.le_refl _⟩, ⟨by (with_reducible repeat (first | refine blk_drewN ?_ _ | refine blk_drew ?_ | refine blk_alloc ?_ _)); refine blk_far ?_ NB431_433.out _; (with_reducible repeat (first | refine blk_drewN ?_ _ | refine blk_drew ?_ | refine blk_alloc ?_ _)); refine blk_far ?_ NB431_433.out _; (with_reducible repeat (first | refine blk_drewN ?_ _ | refine blk_drew ?_ | refine blk_alloc ?_ _)); refine blk_far ?_ NB431_433.out _; (with_reducible repeat (first | refine blk_drewN ?_ _ | refine blk_drew ?_ | refine blk_alloc ?_ _)); refine blk_far ?_ NB431_433.out _; (with_reducible repeat (first | refine blk_drewN ?_ _ | refine blk_drew ?_ | refine blk_alloc ?_ _)); exact BK431.out⟩, ⟨by (with_reducible repeat (first | refine blk_drewN ?_ _ | refine blk_drew ?_ | refine blk_alloc ?_ _)); refine blk_put (cs := #[.int .i64 ((rd_T42 l0_2 x3_2).f0), .int .i64 ((rd_T42 l0_2 x3_2).f1), .int .i64 ((rd_T42 l0_2 x3_2).f2), .slice none 0 0]) ?_ 3 _ rfl; (with_reducible repeat (first | refine blk_drewN ?_ _ | refine blk_drew ?_ | refine blk_alloc ?_ _)); refine blk_put (cs := #[.int .i64 ((rd_T42 l0_2 x3_2).f0), .int .i64 ((rd_T42 l0_2 x3_2).f1), .int .i64 0, .slice none 0 0]) ?_ 2 _ rfl; (with_reducible repeat (first | refine blk_drewN ?_ _ | refine blk_drew ?_ | refine blk_alloc ?_ _)); refine blk_put (cs := #[.int .i64 ((rd_T42 l0_2 x3_2).f0), .int .i64 0, .int .i64 0, .slice none 0 0]) ?_ 1 _ rfl; (with_reducible repeat (first | refine blk_drewN ?_ _ | refine blk_drew ?_ | refine blk_alloc ?_ _)); refine blk_put (cs := #[.int .i64 0, .int .i64 0, .int .i64 0, .slice none 0 0]) ?_ 0 _ rfl; (with_reducible repeat (first | refine blk_drewN ?_ _ | refine blk_drew ?_ | refine blk_alloc ?_ _)); exact BK433.out⟩, ⟨bn2 HB GE431 GE433⟩⟩
                      · rw [if_neg c36] at H
                        have c36b0 : decide (16 < ((rd_T42 l0_2 x3_2).f2)) = false := decide_eq_false c36; clear c36
                        by_cases c39 : (wrap64 (((rd_T42 l0_2 x3_2).f0) + ((rd_T42 l0_2 x3_2).f2))) > 16
                        · rw [if_pos c39] at H
                          have c39b0 : decide (16 < (wrap64 (((rd_T42 l0_2 x3_2).f0) + ((rd_T42 l0_2 x3_2).f2)))) = true := decide_eq_true c39; clear c39; have H' := Aside0.mk H; clear H; have hnb40 := NB433_431.out; have hnc40 := NB431_433.out; obtain ⟨hcz41_0, hcz41_1, hcz41_2, hcz41_3⟩ := cells4 BK433.out; obtain ⟨hfz41_0, hfz41_1, hfz41_2, hfz41_3⟩ := froz4 BK433.out
                          go_wp2
                          go_meet
                          case rel => exact ⟨_, (true), (by first | rfl | (simp; done) | (simp [*]; done)), H', ⟨by have := HJ1.out; have := HK2.out; first | omega | exact Nat.le_refl _⟩, ⟨by (with_reducible repeat (first | refine blk_drewN ?_ _ | refine blk_drew ?_ | refine blk_alloc ?_ _)); refine blk_far ?_ NB431_433.out _; (with_reducible repeat (first | refine blk_drewN ?_ _ | refine blk_drew ?_ | refine blk_alloc ?_ _)); refine blk_far ?_ NB431_433.out _; (with_reducible repeat (first | refine blk_drewN ?_ _ | refine blk_drew ?_ | refine blk_alloc ?_ _)); refine blk_far ?_ NB431_433.out _; (with_reducible repeat (first | refine blk_drewN ?_ _ | refine blk_drew ?_ | refine blk_alloc ?_ _)); refine blk_far ?_ NB431_433.out _; (with_reducible repeat (first | refine blk_drewN ?_ _ | refine blk_drew ?_ | refine blk_alloc ?_ _)); exact BK431.out⟩, ⟨by (with_reducible repeat (first | refine blk_drewN ?_ _ | refine blk_drew ?_ | refine blk_alloc ?_ _)); refine blk_put (cs := #[.int .i64 ((rd_T42 l0_2 x3_2).f0), .int .i64 ((rd_T42 l0_2 x3_2).f1), .int .i64 ((rd_T42 l0_2 x3_2).f2), .slice none 0 0]) ?_ 3 _ rfl; (with_reducible repeat (first | refine blk_drewN ?_ _ | refine blk_drew ?_ | refine blk_alloc ?_ _)); refine blk_put (cs := #[.int .i64 ((rd_T42 l0_2 x3_2).f0), .int .i64 ((rd_T42 l0_2 x3_2).f1), .int .i64 0, .slice none 0 0]) ?_ 2 _ rfl; (with_reducible repeat (first | refine blk_drewN ?_ _ | refine blk_drew ?_ | refine blk_alloc ?_ _)); refine blk_put (cs := #[.int .i64 ((rd_T42 l0_2 x3_2).f0), .int .i64 0, .int .i64 0, .slice none 0 0]) ?_ 1 _ rfl; (with_reducible repeat (first | refine blk_drewN ?_ _ | refine blk_drew ?_ | refine blk_alloc ?_ _)); refine blk_put (cs := #[.int .i64 0, .int .i64 0, .int .i64 0, .slice none 0 0]) ?_ 0 _ rfl; (with_reducible repeat (first | refine blk_drewN ?_ _ | refine blk_drew ?_ | refine blk_alloc ?_ _)); exact BK433.out⟩, ⟨bn2 HB GE431 GE433⟩⟩
                        · rw [if_neg c39] at H
                          have c39b0 : decide (16 < (wrap64 (((rd_T42 l0_2 x3_2).f0) + ((rd_T42 l0_2 x3_2).f2)))) = false := decide_eq_false c39; clear c39
                          by_cases c42 : (((rd_T42 l0_2 x3_2).f3).length : Int) = 0
                          · rw [if_pos c42] at H
                            have c42b0 : ((((rd_T42 l0_2 x3_2).f3).length : Int) == 0) = true := beq_iff_eq.mpr c42; have c42b1 : ((((rd_T42 l0_2 x3_2).f3).length : Int) != 0) = false := bne_eq_false_iff_eq.mpr c42; clear c42; have H' := Aside0.mk H; clear H; have hnb43 := NB433_431.out; have hnc43 := NB431_433.out; obtain ⟨hcz44_0, hcz44_1, hcz44_2, hcz44_3⟩ := cells4 BK433.out; obtain ⟨hfz44_0, hfz44_1, hfz44_2, hfz44_3⟩ := froz4 BK433.out
                            go_wp2
                            go_meet
                            case rel => exact ⟨_, (true), (by first | rfl | (simp; done) | (simp [*]; done)), H', ⟨by have := HJ1.out; have := HK2.out; first | omega | exact Nat.le_refl _⟩, ⟨by (with_reducible repeat (first | refine blk_drewN ?_ _ | refine blk_drew ?_ | refine blk_alloc ?_ _)); refine blk_far ?_ NB431_433.out _; (with_reducible repeat (first | refine blk_drewN ?_ _ | refine blk_drew ?_ | refine blk_alloc ?_ _)); refine blk_far ?_ NB431_433.out _; (with_reducible repeat (first | refine blk_drewN ?_ _ | refine blk_drew ?_ | refine blk_alloc ?_ _)); refine blk_far ?_ NB431_433.out _; (with_reducible repeat (first | refine blk_drewN ?_ _ | refine blk_drew ?_ | refine blk_alloc ?_ _)); refine blk_far ?_ NB431_433.out _; (with_reducible repeat (first | refine blk_drewN ?_ _ | refine blk_drew ?_ | refine blk_alloc ?_ _)); exact BK431.out⟩, ⟨by (with_reducible repeat (first | refine blk_drewN ?_ _ | refine blk_drew ?_ | refine blk_alloc ?_ _)); refine blk_put (cs := #[.int .i64 ((rd_T42 l0_2 x3_2).f0), .int .i64 ((rd_T42 l0_2 x3_2).f1), .int .i64 ((rd_T42 l0_2 x3_2).f2), .slice none 0 0]) ?_ 3 _ rfl; (with_reducible repeat (first | refine blk_drewN ?_ _ | refine blk_drew ?_ | refine blk_alloc ?_ _)); refine blk_put (cs := #[.int .i64 ((rd_T42 l0_2 x3_2).f0), .int .i64 ((rd_T42 l0_2 x3_2).f1), .int .i64 0, .slice none 0 0]) ?_ 2 _ rfl; (with_reducible repeat (first | refine blk_drewN ?_ _ | refine blk_drew ?_ | refine blk_alloc ?_ _)); refine blk_put (cs := #[.int .i64 ((rd_T42 l0_2 x3_2).f0), .int .i64 0, .int .i64 0, .slice none 0 0]) ?_ 1 _ rfl; (with_reducible repeat (first | refine blk_drewN ?_ _ | refine blk_drew ?_ | refine blk_alloc ?_ _)); refine blk_put (cs := #[.int .i64 0, .int .i64 0, .int .i64 0, .slice none 0 0]) ?_ 0 _ rfl; (with_reducible repeat (first | refine blk_drewN ?_ _ | refine blk_drew ?_ | refine blk_alloc ?_ _)); exact BK433.out⟩, ⟨bn2 HB GE431 GE433⟩⟩
                          · rw [if_neg c42] at H
                            have c42b0 : ((((rd_T42 l0_2 x3_2).f3).length : Int) == 0) = false := beq_eq_false_iff_ne.mpr c42; have c42b1 : ((((rd_T42 l0_2 x3_2).f3).length : Int) != 0) = true := bne_iff_ne.mpr c42
                            have c42b2 : ¬ (((rd_T42 l0_2 x3_2).f3) = []) := fun h_ => c42 (by rw [h_]; rfl)
                            have H' := Aside0.mk H; clear H; have hnb45 := NB433_431.out; have hnc45 := NB431_433.out; obtain ⟨hcz46_0, hcz46_1, hcz46_2, hcz46_3⟩ := cells4 BK433.out; obtain ⟨hfz46_0, hfz46_1, hfz46_2, hfz46_3⟩ := froz4 BK433.out
                            go_wp2
                            go_meet
                            case rel => exact ⟨_, (decide ((((rd_T42 l0_2 x3_2).f3).length : Int) > 400)), (by first | rfl | (simp; done) | (simp [*]; done)), H', ⟨by have := HJ1.out; have := HK2.out; first | omega | exact Nat.le_refl _⟩, ⟨by (with_reducible repeat (first | refine blk_drewN ?_ _ | refine blk_drew ?_ | refine blk_alloc ?_ _)); refine blk_far ?_ NB431_433.out _; (with_reducible repeat (first | refine blk_drewN ?_ _ | refine blk_drew ?_ | refine blk_alloc ?_ _)); refine blk_far ?_ NB431_433.out _; (with_reducible repeat (first | refine blk_drewN ?_ _ | refine blk_drew ?_ | refine blk_alloc ?_ _)); refine blk_far ?_ NB431_433.out _; (with_reducible repeat (first | refine blk_drewN ?_ _ | refine blk_drew ?_ | refine blk_alloc ?_ _)); refine blk_far ?_ NB431_433.out _; (with_reducible repeat (first | refine blk_drewN ?_ _ | refine blk_drew ?_ | refine blk_alloc ?_ _)); exact BK431.out⟩, ⟨by (with_reducible repeat (first | refine blk_drewN ?_ _ | refine blk_drew ?_ | refine blk_alloc ?_ _)); refine blk_put (cs := #[.int .i64 ((rd_T42 l0_2 x3_2).f0), .int .i64 ((rd_T42 l0_2 x3_2).f1), .int .i64 ((rd_T42 l0_2 x3_2).f2), .slice none 0 0]) ?_ 3 _ rfl; (with_reducible repeat (first | refine blk_drewN ?_ _ | refine blk_drew ?_ | refine blk_alloc ?_ _)); refine blk_put (cs := #[.int .i64 ((rd_T42 l0_2 x3_2).f0), .int .i64 ((rd_T42 l0_2 x3_2).f1), .int .i64 0, .slice none 0 0]) ?_ 2 _ rfl; (with_reducible repeat (first | refine blk_drewN ?_ _ | refine blk_drew ?_ | refine blk_alloc ?_ _)); refine blk_put (cs := #[.int .i64 ((rd_T42 l0_2 x3_2).f0), .int .i64 0, .int .i64 0, .slice none 0 0]) ?_ 1 _ rfl; (with_reducible repeat (first | refine blk_drewN ?_ _ | refine blk_drew ?_ | refine blk_alloc ?_ _)); refine blk_put (cs := #[.int .i64 0, .int .i64 0, .int .i64 0, .slice none 0 0]) ?_ 0 _ rfl; (with_reducible repeat (first | refine blk_drewN ?_ _ | refine blk_drew ?_ | refine blk_alloc ?_ _)); exact BK433.out⟩, ⟨bn2 HB GE431 GE433⟩⟩
          case rest =>
            clear HC16
            try clear c1
            try clear c2
            try clear p2
            try clear c3
            try clear c4
            try clear c4b0
            try clear p4
            try clear q4
            try clear hx4
            try clear c6
            try clear c6b0
            try clear p6
            try clear c8
            try clear c8b0
            try clear c10
            try clear c10b0
            try clear c10b1
            try clear c10b2
            try clear c13
            try clear c14
            try clear c14b0
            try clear c15
            try clear c15b0
            try clear c19
            try clear c21
            try clear c21b0
            try clear c22
            try clear c24
            try clear c24b0
            try clear c25
            try clear c27
            try clear c27b0
            try clear c28
            try clear c30
            try clear c30b0
            try clear c31
            try clear c33
            try clear c33b0
            try clear c34
            try clear c36
            try clear c36b0
            try clear c37
            try clear c39
            try clear c39b0
            try clear c40
            try clear c42
            try clear c42b0
            try clear c42b1
            try clear c42b2
            try clear c43
            try clear p43
            try clear q43
            try clear hx43
            try clear c45
            try clear hcz11_0
            try clear hcz11_1
            try clear hcz11_2
            try clear hcz12_0
            try clear hcz12_1
            try clear hcz12_2
            try clear hcz17_0
            try clear hcz17_1
            try clear hcz17_2
            try clear hcz20_0
            try clear hcz20_1
            try clear hcz20_2
            try clear hcz20_3
            try clear hcz23_0
            try clear hcz23_1
            try clear hcz23_2
            try clear hcz23_3
            try clear hcz26_0
            try clear hcz26_1
            try clear hcz26_2
            try clear hcz26_3
            try clear hcz29_0
            try clear hcz29_1
            try clear hcz29_2
            try clear hcz29_3
            try clear hcz32_0
            try clear hcz32_1
            try clear hcz32_2
            try clear hcz32_3
            try clear hcz35_0
            try clear hcz35_1
            try clear hcz35_2
            try clear hcz35_3
            try clear hcz38_0
            try clear hcz38_1
            try clear hcz38_2
            try clear hcz38_3
            try clear hcz41_0
            try clear hcz41_1
            try clear hcz41_2
            try clear hcz41_3
            try clear hcz44_0
            try clear hcz44_1
            try clear hcz44_2
            try clear hcz44_3
            try clear hcz46_0
            try clear hcz46_1
            try clear hcz46_2
            try clear hcz46_3
            try clear hcz5_0
            try clear hcz5_1
            try clear hcz5_2
            try clear hcz7_0
            try clear hcz7_1
            try clear hcz7_2
            try clear hcz9_0
            try clear hcz9_1
            try clear hcz9_2
            try clear hfz11_0
            try clear hfz11_1
            try clear hfz11_2
            try clear hfz12_0
            try clear hfz12_1
            try clear hfz12_2
            try clear hfz17_0
            try clear hfz17_1
            try clear hfz17_2
            try clear hfz20_0
            try clear hfz20_1
            try clear hfz20_2
            try clear hfz20_3
            try clear hfz23_0
            try clear hfz23_1
            try clear hfz23_2
            try clear hfz23_3
            try clear hfz26_0
            try clear hfz26_1
            try clear hfz26_2
            try clear hfz26_3
            try clear hfz29_0
            try clear hfz29_1
            try clear hfz29_2
            try clear hfz29_3
            try clear hfz32_0
            try clear hfz32_1
            try clear hfz32_2
            try clear hfz32_3
            try clear hfz35_0
            try clear hfz35_1
            try clear hfz35_2
            try clear hfz35_3
            try clear hfz38_0
            try clear hfz38_1
            try clear hfz38_2
            try clear hfz38_3
            try clear hfz41_0
            try clear hfz41_1
            try clear hfz41_2
            try clear hfz41_3
            try clear hfz44_0
            try clear hfz44_1
            try clear hfz44_2
            try clear hfz44_3
            try clear hfz46_0
            try clear hfz46_1
            try clear hfz46_2
            try clear hfz46_3
            try clear hfz5_0
            try clear hfz5_1
            try clear hfz5_2
            try clear hfz7_0
            try clear hfz7_1
            try clear hfz7_2
            try clear hfz9_0
            try clear hfz9_1
            try clear hfz9_2
            try clear hx432_0
            try clear hx432_1
            try clear hx432_2
            try clear hx432_3
            try clear p2
            try clear p432
            try clear q432
            obtain ⟨kq, x94_15, rfl, HA, HJ15, BK431, BK433, HB⟩ := hcut
            cases kq with
            | zero => exact absurd HA.out (by simp [casementref12_Right.j2])
            | succ kj15 => ?_
            have H := HA.out; clear HA; simp only [casementref12_Right.j2] at H
            by_cases c47 : x94_15 = true
            · subst c47
              have H1 : (some false) = some r := by rw [if_pos rfl] at H; exact H
              clear H; have H := H1; clear H1; obtain rfl := Option.some.inj H
              go_wp2
              go_ret
              exact ⟨by first | rfl | (simp [errW_none, errW_some] <;> rfl) | (simp [*, errW_none, errW_some] <;> rfl), bn2 HB GE431 GE433⟩
            · replace c47 := Bool.eq_false_iff.mpr c47
              subst c47
              have H1 : (casementref12_Right.l1 kj15 x3_2 0 a0_0 l0_1 l0_2 ((rd_T42 l0_2 x3_2).f0) ((rd_T42 l0_2 x3_2).f1) ((rd_T42 l0_2 x3_2).f2) ((rd_T42 l0_2 x3_2).f3)) = some r := by rw [if_neg (show ¬ (false = true) by decide)] at H; exact H
              clear H; have H := H1; clear H1; have H' := Aside0.mk H; clear H
              go_wp2
              go_loopg [5] kj15 (fun kq v5 w' => ∃ (x5_4 : Int), v5 = .int .i64 x5_4 ∧ Aside0 (casementref12_Right.l1 kq x3_2 x5_4 a0_0 l0_1 l0_2 ((rd_T42 l0_2 x3_2).f0) ((rd_T42 l0_2 x3_2).f1) ((rd_T42 l0_2 x3_2).f2) ((rd_T42 l0_2 x3_2).f3) = some r) ∧ Aside0 (kq ≤ kj15) ∧ Aside0 (w'.heap[gb431]? = some (.cells #[.int .i64 a0_0, (.slice A0_1 l0_1.length c0_1), (.slice (some ad432) l0_2.length c0_2)] 25 (0, 0))) ∧ Aside0 (w'.heap[gb433]? = some (.cells #[.int .i64 ((rd_T42 l0_2 x3_2).f0), .int .i64 ((rd_T42 l0_2 x3_2).f1), .int .i64 ((rd_T42 l0_2 x3_2).f2), (.slice A432_3 ((rd_T42 l0_2 x3_2).f3).length c432_3)] 42 (0, 0))) ∧ Aside0 (Below w.heap.size w w'))
              case atStart => exact ⟨(0), (by first | rfl | (simp; done) | (simp [*]; done)), H', ⟨Nat.le_refl _⟩, ⟨by (with_reducible repeat (first | refine blk_drewN ?_ _ | refine blk_drew ?_ | refine blk_alloc ?_ _)); exact BK431.out⟩, ⟨by (with_reducible repeat (first | refine blk_drewN ?_ _ | refine blk_drew ?_ | refine blk_alloc ?_ _)); exact BK433.out⟩, ⟨bn2 HB GE431 GE433⟩⟩
              case round =>
                clear H'
                try clear c1
                try clear c2
                try clear p2
                try clear c3
                try clear c4
                try clear c4b0
                try clear p4
                try clear q4
                try clear hx4
                try clear c6
                try clear c6b0
                try clear p6
                try clear c8
                try clear c8b0
                try clear c10
                try clear c10b0
                try clear c10b1
                try clear c10b2
                try clear c13
                try clear c14
                try clear c14b0
                try clear c15
                try clear c15b0
                try clear c19
                try clear c21
                try clear c21b0
                try clear c22
                try clear c24
                try clear c24b0
                try clear c25
                try clear c27
                try clear c27b0
                try clear c28
                try clear c30
                try clear c30b0
                try clear c31
                try clear c33
                try clear c33b0
                try clear c34
                try clear c36
                try clear c36b0
                try clear c37
                try clear c39
                try clear c39b0
                try clear c40
                try clear c42
                try clear c42b0
                try clear c42b1
                try clear c42b2
                try clear c43
                try clear p43
                try clear q43
                try clear hx43
                try clear c45
                try clear c47
                try clear hcz11_0
                try clear hcz11_1
                try clear hcz11_2
                try clear hcz12_0
                try clear hcz12_1
                try clear hcz12_2
                try clear hcz17_0
                try clear hcz17_1
                try clear hcz17_2
                try clear hcz20_0
                try clear hcz20_1
                try clear hcz20_2
                try clear hcz20_3
                try clear hcz23_0
                try clear hcz23_1
                try clear hcz23_2
                try clear hcz23_3
                try clear hcz26_0
                try clear hcz26_1
                try clear hcz26_2
                try clear hcz26_3
                try clear hcz29_0
                try clear hcz29_1
                try clear hcz29_2
                try clear hcz29_3
                try clear hcz32_0
                try clear hcz32_1
                try clear hcz32_2
                try clear hcz32_3
                try clear hcz35_0
                try clear hcz35_1
                try clear hcz35_2
                try clear hcz35_3
                try clear hcz38_0
                try clear hcz38_1
                try clear hcz38_2
                try clear hcz38_3
                try clear hcz41_0
                try clear hcz41_1
                try clear hcz41_2
                try clear hcz41_3
                try clear hcz44_0
                try clear hcz44_1
                try clear hcz44_2
                try clear hcz44_3
                try clear hcz46_0
                try clear hcz46_1
                try clear hcz46_2
                try clear hcz46_3
                try clear hcz5_0
                try clear hcz5_1
                try clear hcz5_2
                try clear hcz7_0
                try clear hcz7_1
                try clear hcz7_2
                try clear hcz9_0
                try clear hcz9_1
                try clear hcz9_2
                try clear hfz11_0
                try clear hfz11_1
                try clear hfz11_2
                try clear hfz12_0
                try clear hfz12_1
                try clear hfz12_2
                try clear hfz17_0
                try clear hfz17_1
                try clear hfz17_2
                try clear hfz20_0
                try clear hfz20_1
                try clear hfz20_2
                try clear hfz20_3
                try clear hfz23_0
                try clear hfz23_1
                try clear hfz23_2
                try clear hfz23_3
                try clear hfz26_0
                try clear hfz26_1
                try clear hfz26_2
                try clear hfz26_3
                try clear hfz29_0
                try clear hfz29_1
                try clear hfz29_2
                try clear hfz29_3
                try clear hfz32_0
                try clear hfz32_1
                try clear hfz32_2
                try clear hfz32_3
                try clear hfz35_0
                try clear hfz35_1
                try clear hfz35_2
                try clear hfz35_3
                try clear hfz38_0
                try clear hfz38_1
                try clear hfz38_2
                try clear hfz38_3
                try clear hfz41_0
                try clear hfz41_1
                try clear hfz41_2
                try clear hfz41_3
                try clear hfz44_0
                try clear hfz44_1
                try clear hfz44_2
                try clear hfz44_3
                try clear hfz46_0
                try clear hfz46_1
                try clear hfz46_2
                try clear hfz46_3
                try clear hfz5_0
                try clear hfz5_1
                try clear hfz5_2
                try clear hfz7_0
                try clear hfz7_1
                try clear hfz7_2
                try clear hfz9_0
                try clear hfz9_1
                try clear hfz9_2
                try clear hx432_0
                try clear hx432_1
                try clear hx432_2
                try clear hx432_3
                try clear p2
                try clear p4
                try clear p43
                try clear p432
                try clear p6
                try clear q4
                try clear q43
                try clear q432
                obtain ⟨x5_4, rfl, HA, HK4, BK431, BK433, HB⟩ := hrel
                cases gk with
                | zero => exact absurd HA.out (by simp [casementref12_Right.l1])
                | succ k4 => ?_
                have H := HA.out; clear HA; simp only [casementref12_Right.l1] at H
                by_cases c48 : x5_4 < (((rd_T42 l0_2 x3_2).f3).length : Int)
                · rw [if_pos c48] at H
                  have c48b0 : decide (x5_4 < (((rd_T42 l0_2 x3_2).f3).length : Int)) = true := decide_eq_true c48; clear c48
                  by_cases c49 : 0 ≤ x5_4
                  case neg => rw [if_neg c49] at H; exact absurd H (by simp)
                  rw [if_pos c49] at H; have c49b0 : decide (0 ≤ x5_4) = true := decide_eq_true c49; clear c49
                  by_cases c50 : ((rd_T46 ((rd_T42 l0_2 x3_2).f3) x5_4).f0) < 0
                  · rw [if_pos c50] at H
                    have c50b0 : decide (((rd_T46 ((rd_T42 l0_2 x3_2).f3) x5_4).f0) < 0) = true := decide_eq_true c50; clear c50; obtain rfl := Option.some.inj H; have hnb51 := NB433_431.out; have hnc51 := NB431_433.out; obtain ⟨hcz52_0, hcz52_1, hcz52_2, hcz52_3⟩ := cells4 BK433.out; obtain ⟨hfz52_0, hfz52_1, hfz52_2, hfz52_3⟩ := froz4 BK433.out; have p434 : 0 ≤ (x5_4 : Int) := of_decide_eq_true (by first | (with_reducible assumption) | assumption); have q434 : x5_4 < (((rd_T42 l0_2 x3_2).f3).length : Int) := of_decide_eq_true (by first | (with_reducible assumption) | assumption); obtain ⟨ad434, e434, hx434_0, hx434_1⟩ := at_T46 HR432_3.out x5_4 p434 q434
                    cases e434
                    replace hx434_0 := (HB.out.cell (World.block_lt_of_cell? w _ hx434_0)).trans hx434_0; replace hx434_1 := (HB.out.cell (World.block_lt_of_cell? w _ hx434_1)).trans hx434_1; replace p434 := eq_true p434; replace q434 := eq_true q434
                    go_wp2_with (first | ((with_reducible refine gate_dst (N := 6) rfl ?_); (try (refine gate_guard (by rfl) ?_; dsimp only)); refine box_event ?hg (N := 6) ?hd (cs := #[.int .i64 0, .int .i64 0]) (t := 46) ?hr ?_; (case hd => rfl); (case hg => rfl); (case hr => first | (go_simp; done) | (go_simp; rfl)); intro gb435 hg w53 hbox hb; have n0_ := Aside0.mk (blk_below (g := gb431) (o := .cells #[.int .i64 a0_0, .slice A0_1 l0_1.length c0_1, .slice (some ad432) l0_2.length c0_2] 25 (0, 0)) (bkn BK431) hb); have n1_ := Aside0.mk (blk_below (g := gb433) (o := .cells #[.int .i64 ((rd_T42 l0_2 x3_2).f0), .int .i64 ((rd_T42 l0_2 x3_2).f1), .int .i64 ((rd_T42 l0_2 x3_2).f2), .slice (some ad434) ((rd_T42 l0_2 x3_2).f3).length c432_3] 42 (0, 0)) (bkn BK433) hb); have n2_ := Aside0.mk (below_step (bn2 HB GE431 GE433) hb); have BK435 := Aside0.mk (hbox); have GW435 := Aside0.mk ((by rw [hg]; exact (below_size (bn2 HB GE431 GE433)) : w.heap.size ≤ gb435)); have GE435 := Aside0.mk ((by rw [hg]; exact (below_size (bn2 HB GE431 GE433)) : w.heap.size ≤ gb435)); have NB431_435 := Aside0.mk ((by rw [hg]; exact Nat.ne_of_lt (blk_lt (g := gb431) (o := .cells #[.int .i64 a0_0, .slice A0_1 l0_1.length c0_1, .slice (some ad432) l0_2.length c0_2] 25 (0, 0)) (bkn BK431)) : gb431 ≠ gb435)); have NB435_431 := Aside0.mk ((by rw [hg]; exact Nat.ne_of_gt (blk_lt (g := gb431) (o := .cells #[.int .i64 a0_0, .slice A0_1 l0_1.length c0_1, .slice (some ad432) l0_2.length c0_2] 25 (0, 0)) (bkn BK431)) : gb435 ≠ gb431)); have NB433_435 := Aside0.mk ((by rw [hg]; exact Nat.ne_of_lt (blk_lt (g := gb433) (o := .cells #[.int .i64 ((rd_T42 l0_2 x3_2).f0), .int .i64 ((rd_T42 l0_2 x3_2).f1), .int .i64 ((rd_T42 l0_2 x3_2).f2), .slice (some ad434) ((rd_T42 l0_2 x3_2).f3).length c432_3] 42 (0, 0)) (bkn BK433)) : gb433 ≠ gb435)); have NB435_433 := Aside0.mk ((by rw [hg]; exact Nat.ne_of_gt (blk_lt (g := gb433) (o := .cells #[.int .i64 ((rd_T42 l0_2 x3_2).f0), .int .i64 ((rd_T42 l0_2 x3_2).f1), .int .i64 ((rd_T42 l0_2 x3_2).f2), .slice (some ad434) ((rd_T42 l0_2 x3_2).f3).length c432_3] 42 (0, 0)) (bkn BK433)) : gb435 ≠ gb433)); replace BK431 := n0_; replace BK433 := n1_; replace HB := n2_; clear n0_ n1_ n2_; clear hb hbox hg; have hnb54 := NB435_431.out; have hnc54 := NB431_435.out; have hnb55 := NB435_433.out; have hnc55 := NB433_435.out; obtain ⟨hcz56_0, hcz56_1⟩ := cells2 BK435.out; obtain ⟨hfz56_0, hfz56_1⟩ := froz2 BK435.out))
                    go_ret
                    exact ⟨by first | rfl | (simp [errW_none, errW_some] <;> rfl) | (simp [*, errW_none, errW_some] <;> rfl), bn3 HB GE431 GE433 GE435⟩
                  · rw [if_neg c50] at H
                    have c50b0 : decide (((rd_T46 ((rd_T42 l0_2 x3_2).f3) x5_4).f0) < 0) = false := decide_eq_false c50; clear c50
                    by_cases c57 : ((rd_T46 ((rd_T42 l0_2 x3_2).f3) x5_4).f0) > 29
                    · rw [if_pos c57] at H
                      have c57b0 : decide (29 < ((rd_T46 ((rd_T42 l0_2 x3_2).f3) x5_4).f0)) = true := decide_eq_true c57; clear c57; obtain rfl := Option.some.inj H; have hnb58 := NB433_431.out; have hnc58 := NB431_433.out; obtain ⟨hcz59_0, hcz59_1, hcz59_2, hcz59_3⟩ := cells4 BK433.out; obtain ⟨hfz59_0, hfz59_1, hfz59_2, hfz59_3⟩ := froz4 BK433.out; have p434 : 0 ≤ (x5_4 : Int) := of_decide_eq_true (by first | (with_reducible assumption) | assumption); have q434 : x5_4 < (((rd_T42 l0_2 x3_2).f3).length : Int) := of_decide_eq_true (by first | (with_reducible assumption) | assumption); obtain ⟨ad434, e434, hx434_0, hx434_1⟩ := at_T46 HR432_3.out x5_4 p434 q434
                      cases e434
                      replace hx434_0 := (HB.out.cell (World.block_lt_of_cell? w _ hx434_0)).trans hx434_0; replace hx434_1 := (HB.out.cell (World.block_lt_of_cell? w _ hx434_1)).trans hx434_1; replace p434 := eq_true p434; replace q434 := eq_true q434
                      go_wp2_with (first | ((with_reducible refine gate_dst (N := 6) rfl ?_); (try (refine gate_guard (by rfl) ?_; dsimp only)); refine box_event ?hg (N := 6) ?hd (cs := #[.int .i64 0, .int .i64 0]) (t := 46) ?hr ?_; (case hd => rfl); (case hg => rfl); (case hr => first | (go_simp; done) | (go_simp; rfl)); intro gb435 hg w60 hbox hb; have n0_ := Aside0.mk (blk_below (g := gb431) (o := .cells #[.int .i64 a0_0, .slice A0_1 l0_1.length c0_1, .slice (some ad432) l0_2.length c0_2] 25 (0, 0)) (bkn BK431) hb); have n1_ := Aside0.mk (blk_below (g := gb433) (o := .cells #[.int .i64 ((rd_T42 l0_2 x3_2).f0), .int .i64 ((rd_T42 l0_2 x3_2).f1), .int .i64 ((rd_T42 l0_2 x3_2).f2), .slice (some ad434) ((rd_T42 l0_2 x3_2).f3).length c432_3] 42 (0, 0)) (bkn BK433) hb); have n2_ := Aside0.mk (below_step (bn2 HB GE431 GE433) hb); have BK435 := Aside0.mk (hbox); have GW435 := Aside0.mk ((by rw [hg]; exact (below_size (bn2 HB GE431 GE433)) : w.heap.size ≤ gb435)); have GE435 := Aside0.mk ((by rw [hg]; exact (below_size (bn2 HB GE431 GE433)) : w.heap.size ≤ gb435)); have NB431_435 := Aside0.mk ((by rw [hg]; exact Nat.ne_of_lt (blk_lt (g := gb431) (o := .cells #[.int .i64 a0_0, .slice A0_1 l0_1.length c0_1, .slice (some ad432) l0_2.length c0_2] 25 (0, 0)) (bkn BK431)) : gb431 ≠ gb435)); have NB435_431 := Aside0.mk ((by rw [hg]; exact Nat.ne_of_gt (blk_lt (g := gb431) (o := .cells #[.int .i64 a0_0, .slice A0_1 l0_1.length c0_1, .slice (some ad432) l0_2.length c0_2] 25 (0, 0)) (bkn BK431)) : gb435 ≠ gb431)); have NB433_435 := Aside0.mk ((by rw [hg]; exact Nat.ne_of_lt (blk_lt (g := gb433) (o := .cells #[.int .i64 ((rd_T42 l0_2 x3_2).f0), .int .i64 ((rd_T42 l0_2 x3_2).f1), .int .i64 ((rd_T42 l0_2 x3_2).f2), .slice (some ad434) ((rd_T42 l0_2 x3_2).f3).length c432_3] 42 (0, 0)) (bkn BK433)) : gb433 ≠ gb435)); have NB435_433 := Aside0.mk ((by rw [hg]; exact Nat.ne_of_gt (blk_lt (g := gb433) (o := .cells #[.int .i64 ((rd_T42 l0_2 x3_2).f0), .int .i64 ((rd_T42 l0_2 x3_2).f1), .int .i64 ((rd_T42 l0_2 x3_2).f2), .slice (some ad434) ((rd_T42 l0_2 x3_2).f3).length c432_3] 42 (0, 0)) (bkn BK433)) : gb435 ≠ gb433)); replace BK431 := n0_; replace BK433 := n1_; replace HB := n2_; clear n0_ n1_ n2_; clear hb hbox hg; have hnb61 := NB435_431.out; have hnc61 := NB431_435.out; have hnb62 := NB435_433.out; have hnc62 := NB433_435.out; obtain ⟨hcz63_0, hcz63_1⟩ := cells2 BK435.out; obtain ⟨hfz63_0, hfz63_1⟩ := froz2 BK435.out))
                      go_ret
                      exact ⟨by first | rfl | (simp [errW_none, errW_some] <;> rfl) | (simp [*, errW_none, errW_some] <;> rfl), bn3 HB GE431 GE433 GE435⟩
                    · rw [if_neg c57] at H
                      have c57b0 : decide (29 < ((rd_T46 ((rd_T42 l0_2 x3_2).f3) x5_4).f0)) = false := decide_eq_false c57; clear c57; replace H := Option.bind_eq_some_iff.mp H; obtain ⟨t436, A640, H⟩ := H; replace H : (if t436 = true then (casementref12_Right.l1 k4 x3_2 (wrap64 (x5_4 + 1)) a0_0 l0_1 l0_2 ((rd_T42 l0_2 x3_2).f0) ((rd_T42 l0_2 x3_2).f1) ((rd_T42 l0_2 x3_2).f2) ((rd_T42 l0_2 x3_2).f3)) else (if ((rd_T46 ((rd_T42 l0_2 x3_2).f3) x5_4).f1) = 0 then (casementref12_Right.l1 k4 x3_2 (wrap64 (x5_4 + 1)) a0_0 l0_1 l0_2 ((rd_T42 l0_2 x3_2).f0) ((rd_T42 l0_2 x3_2).f1) ((rd_T42 l0_2 x3_2).f2) ((rd_T42 l0_2 x3_2).f3)) else (some false))) = some r := H; have A64 := Aside0.mk A640; clear A640
                      by_cases c65 : t436 = true
                      · subst c65
                        have H1 : (casementref12_Right.l1 k4 x3_2 (wrap64 (x5_4 + 1)) a0_0 l0_1 l0_2 ((rd_T42 l0_2 x3_2).f0) ((rd_T42 l0_2 x3_2).f1) ((rd_T42 l0_2 x3_2).f2) ((rd_T42 l0_2 x3_2).f3)) = some r := by rw [if_pos rfl] at H; exact H
                        clear H; have H := H1; clear H1; have H' := Aside0.mk H; clear H; have hnb66 := NB433_431.out; have hnc66 := NB431_433.out; obtain ⟨hcz67_0, hcz67_1, hcz67_2, hcz67_3⟩ := cells4 BK433.out; obtain ⟨hfz67_0, hfz67_1, hfz67_2, hfz67_3⟩ := froz4 BK433.out; have p434 : 0 ≤ (x5_4 : Int) := of_decide_eq_true (by first | (with_reducible assumption) | assumption); have q434 : x5_4 < (((rd_T42 l0_2 x3_2).f3).length : Int) := of_decide_eq_true (by first | (with_reducible assumption) | assumption); obtain ⟨ad434, e434, hx434_0, hx434_1⟩ := at_T46 HR432_3.out x5_4 p434 q434
                        cases e434
                        replace hx434_0 := (HB.out.cell (World.block_lt_of_cell? w _ hx434_0)).trans hx434_0; replace hx434_1 := (HB.out.cell (World.block_lt_of_cell? w _ hx434_1)).trans hx434_1; replace p434 := eq_true p434; replace q434 := eq_true q434
                        go_wp2_with (first | ((with_reducible refine gate_dst (N := 6) rfl ?_); (try (refine gate_guard (by rfl) ?_; dsimp only)); refine box_event ?hg (N := 6) ?hd (cs := #[.int .i64 0, .int .i64 0]) (t := 46) ?hr ?_; (case hd => rfl); (case hg => rfl); (case hr => first | (go_simp; done) | (go_simp; rfl)); intro gb435 hg w68 hbox hb; have n0_ := Aside0.mk (blk_below (g := gb431) (o := .cells #[.int .i64 a0_0, .slice A0_1 l0_1.length c0_1, .slice (some ad432) l0_2.length c0_2] 25 (0, 0)) (bkn BK431) hb); have n1_ := Aside0.mk (blk_below (g := gb433) (o := .cells #[.int .i64 ((rd_T42 l0_2 x3_2).f0), .int .i64 ((rd_T42 l0_2 x3_2).f1), .int .i64 ((rd_T42 l0_2 x3_2).f2), .slice (some ad434) ((rd_T42 l0_2 x3_2).f3).length c432_3] 42 (0, 0)) (bkn BK433) hb); have n2_ := Aside0.mk (below_step (bn2 HB GE431 GE433) hb); have BK435 := Aside0.mk (hbox); have GW435 := Aside0.mk ((by rw [hg]; exact (below_size (bn2 HB GE431 GE433)) : w.heap.size ≤ gb435)); have GE435 := Aside0.mk ((by rw [hg]; exact (below_size (bn2 HB GE431 GE433)) : w.heap.size ≤ gb435)); have NB431_435 := Aside0.mk ((by rw [hg]; exact Nat.ne_of_lt (blk_lt (g := gb431) (o := .cells #[.int .i64 a0_0, .slice A0_1 l0_1.length c0_1, .slice (some ad432) l0_2.length c0_2] 25 (0, 0)) (bkn BK431)) : gb431 ≠ gb435)); have NB435_431 := Aside0.mk ((by rw [hg]; exact Nat.ne_of_gt (blk_lt (g := gb431) (o := .cells #[.int .i64 a0_0, .slice A0_1 l0_1.length c0_1, .slice (some ad432) l0_2.length c0_2] 25 (0, 0)) (bkn BK431)) : gb435 ≠ gb431)); have NB433_435 := Aside0.mk ((by rw [hg]; exact Nat.ne_of_lt (blk_lt (g := gb433) (o := .cells #[.int .i64 ((rd_T42 l0_2 x3_2).f0), .int .i64 ((rd_T42 l0_2 x3_2).f1), .int .i64 ((rd_T42 l0_2 x3_2).f2), .slice (some ad434) ((rd_T42 l0_2 x3_2).f3).length c432_3] 42 (0, 0)) (bkn BK433)) : gb433 ≠ gb435)); have NB435_433 := Aside0.mk ((by rw [hg]; exact Nat.ne_of_gt (blk_lt (g := gb433) (o := .cells #[.int .i64 ((rd_T42 l0_2 x3_2).f0), .int .i64 ((rd_T42 l0_2 x3_2).f1), .int .i64 ((rd_T42 l0_2 x3_2).f2), .slice (some ad434) ((rd_T42 l0_2 x3_2).f3).length c432_3] 42 (0, 0)) (bkn BK433)) : gb435 ≠ gb433)); replace BK431 := n0_; replace BK433 := n1_; replace HB := n2_; clear n0_ n1_ n2_; clear hb hbox hg; have hnb69 := NB435_431.out; have hnc69 := NB431_435.out; have hnb70 := NB435_433.out; have hnc70 := NB433_435.out; obtain ⟨hcz71_0, hcz71_1⟩ := cells2 BK435.out; obtain ⟨hfz71_0, hfz71_1⟩ := froz2 BK435.out) | (go_at_call 34; (with_reducible refine (casementref12_Has.calls ((rd_T46 ((rd_T42 l0_2 x3_2).f3) x5_4).f0) true _ A64.out).mono ?_); rintro e w' ⟨rfl, ⟨nd, rfl⟩⟩))
                        go_roundg k4
                        case measure => have := HJ1.out; have := HK2.out; have := HJ15.out; have := HK4.out; omega
                        case rel => exact ⟨(wrap64 (x5_4 + 1)), (by first | rfl | (simp; done) | (simp [*]; done)), H', ⟨by have := HJ1.out; have := HK2.out; have := HJ15.out; have := HK4.out; omega⟩, ⟨by (with_reducible repeat (first | refine blk_drewN ?_ _ | refine blk_drew ?_ | refine blk_alloc ?_ _)); refine blk_far ?_ NB431_435.out _; (with_reducible repeat (first | refine blk_drewN ?_ _ | refine blk_drew ?_ | refine blk_alloc ?_ _)); refine blk_far ?_ NB431_435.out _; (with_reducible repeat (first | refine blk_drewN ?_ _ | refine blk_drew ?_ | refine blk_alloc ?_ _)); exact BK431.out⟩, ⟨by (with_reducible repeat (first | refine blk_drewN ?_ _ | refine blk_drew ?_ | refine blk_alloc ?_ _)); refine blk_far ?_ NB433_435.out _; (with_reducible repeat (first | refine blk_drewN ?_ _ | refine blk_drew ?_ | refine blk_alloc ?_ _)); refine blk_far ?_ NB433_435.out _; (with_reducible repeat (first | refine blk_drewN ?_ _ | refine blk_drew ?_ | refine blk_alloc ?_ _)); exact BK433.out⟩, ⟨bn3 HB GE431 GE433 GE435⟩⟩
                      · replace c65 := Bool.eq_false_iff.mpr c65
                        subst c65
                        have H1 : (if ((rd_T46 ((rd_T42 l0_2 x3_2).f3) x5_4).f1) = 0 then (casementref12_Right.l1 k4 x3_2 (wrap64 (x5_4 + 1)) a0_0 l0_1 l0_2 ((rd_T42 l0_2 x3_2).f0) ((rd_T42 l0_2 x3_2).f1) ((rd_T42 l0_2 x3_2).f2) ((rd_T42 l0_2 x3_2).f3)) else (some false)) = some r := by rw [if_neg (show ¬ (false = true) by decide)] at H; exact H
                        clear H; have H := H1; clear H1
                        by_cases c72 : ((rd_T46 ((rd_T42 l0_2 x3_2).f3) x5_4).f1) = 0
                        · rw [if_pos c72] at H
                          have c72b0 : (((rd_T46 ((rd_T42 l0_2 x3_2).f3) x5_4).f1) == 0) = true := beq_iff_eq.mpr c72; have c72b1 : (((rd_T46 ((rd_T42 l0_2 x3_2).f3) x5_4).f1) != 0) = false := bne_eq_false_iff_eq.mpr c72; clear c72; have H' := Aside0.mk H; clear H; have hnb73 := NB433_431.out; have hnc73 := NB431_433.out; obtain ⟨hcz74_0, hcz74_1, hcz74_2, hcz74_3⟩ := cells4 BK433.out; obtain ⟨hfz74_0, hfz74_1, hfz74_2, hfz74_3⟩ := froz4 BK433.out; have p434 : 0 ≤ (x5_4 : Int) := of_decide_eq_true (by first | (with_reducible assumption) | assumption); have q434 : x5_4 < (((rd_T42 l0_2 x3_2).f3).length : Int) := of_decide_eq_true (by first | (with_reducible assumption) | assumption); obtain ⟨ad434, e434, hx434_0, hx434_1⟩ := at_T46 HR432_3.out x5_4 p434 q434
                          cases e434
                          replace hx434_0 := (HB.out.cell (World.block_lt_of_cell? w _ hx434_0)).trans hx434_0; replace hx434_1 := (HB.out.cell (World.block_lt_of_cell? w _ hx434_1)).trans hx434_1; replace p434 := eq_true p434; replace q434 := eq_true q434
                          go_wp2_with (first | ((with_reducible refine gate_dst (N := 6) rfl ?_); (try (refine gate_guard (by rfl) ?_; dsimp only)); refine box_event ?hg (N := 6) ?hd (cs := #[.int .i64 0, .int .i64 0]) (t := 46) ?hr ?_; (case hd => rfl); (case hg => rfl); (case hr => first | (go_simp; done) | (go_simp; rfl)); intro gb435 hg w75 hbox hb; have n0_ := Aside0.mk (blk_below (g := gb431) (o := .cells #[.int .i64 a0_0, .slice A0_1 l0_1.length c0_1, .slice (some ad432) l0_2.length c0_2] 25 (0, 0)) (bkn BK431) hb); have n1_ := Aside0.mk (blk_below (g := gb433) (o := .cells #[.int .i64 ((rd_T42 l0_2 x3_2).f0), .int .i64 ((rd_T42 l0_2 x3_2).f1), .int .i64 ((rd_T42 l0_2 x3_2).f2), .slice (some ad434) ((rd_T42 l0_2 x3_2).f3).length c432_3] 42 (0, 0)) (bkn BK433) hb); have n2_ := Aside0.mk (below_step (bn2 HB GE431 GE433) hb); have BK435 := Aside0.mk (hbox); have GW435 := Aside0.mk ((by rw [hg]; exact (below_size (bn2 HB GE431 GE433)) : w.heap.size ≤ gb435)); have GE435 := Aside0.mk ((by rw [hg]; exact (below_size (bn2 HB GE431 GE433)) : w.heap.size ≤ gb435)); have NB431_435 := Aside0.mk ((by rw [hg]; exact Nat.ne_of_lt (blk_lt (g := gb431) (o := .cells #[.int .i64 a0_0, .slice A0_1 l0_1.length c0_1, .slice (some ad432) l0_2.length c0_2] 25 (0, 0)) (bkn BK431)) : gb431 ≠ gb435)); have NB435_431 := Aside0.mk ((by rw [hg]; exact Nat.ne_of_gt (blk_lt (g := gb431) (o := .cells #[.int .i64 a0_0, .slice A0_1 l0_1.length c0_1, .slice (some ad432) l0_2.length c0_2] 25 (0, 0)) (bkn BK431)) : gb435 ≠ gb431)); have NB433_435 := Aside0.mk ((by rw [hg]; exact Nat.ne_of_lt (blk_lt (g := gb433) (o := .cells #[.int .i64 ((rd_T42 l0_2 x3_2).f0), .int .i64 ((rd_T42 l0_2 x3_2).f1), .int .i64 ((rd_T42 l0_2 x3_2).f2), .slice (some ad434) ((rd_T42 l0_2 x3_2).f3).length c432_3] 42 (0, 0)) (bkn BK433)) : gb433 ≠ gb435)); have NB435_433 := Aside0.mk ((by rw [hg]; exact Nat.ne_of_gt (blk_lt (g := gb433) (o := .cells #[.int .i64 ((rd_T42 l0_2 x3_2).f0), .int .i64 ((rd_T42 l0_2 x3_2).f1), .int .i64 ((rd_T42 l0_2 x3_2).f2), .slice (some ad434) ((rd_T42 l0_2 x3_2).f3).length c432_3] 42 (0, 0)) (bkn BK433)) : gb435 ≠ gb433)); replace BK431 := n0_; replace BK433 := n1_; replace HB := n2_; clear n0_ n1_ n2_; clear hb hbox hg; have hnb76 := NB435_431.out; have hnc76 := NB431_435.out; have hnb77 := NB435_433.out; have hnc77 := NB433_435.out; obtain ⟨hcz78_0, hcz78_1⟩ := cells2 BK435.out; obtain ⟨hfz78_0, hfz78_1⟩ := froz2 BK435.out) | (go_at_call 34; (with_reducible refine (casementref12_Has.calls ((rd_T46 ((rd_T42 l0_2 x3_2).f3) x5_4).f0) false _ A64.out).mono ?_); rintro e w' ⟨rfl, ⟨nd, rfl⟩⟩))
                          go_roundg k4
                          case measure => have := HJ1.out; have := HK2.out; have := HJ15.out; have := HK4.out; omega
                          case rel => exact ⟨(wrap64 (x5_4 + 1)), (by first | rfl | (simp; done) | (simp [*]; done)), H', ⟨by have := HJ1.out; have := HK2.out; have := HJ15.out; have := HK4.out; omega⟩, ⟨by (with_reducible repeat (first | refine blk_drewN ?_ _ | refine blk_drew ?_ | refine blk_alloc ?_ _)); refine blk_far ?_ NB431_435.out _; (with_reducible repeat (first | refine blk_drewN ?_ _ | refine blk_drew ?_ | refine blk_alloc ?_ _)); refine blk_far ?_ NB431_435.out _; (with_reducible repeat (first | refine blk_drewN ?_ _ | refine blk_drew ?_ | refine blk_alloc ?_ _)); exact BK431.out⟩, ⟨by (with_reducible repeat (first | refine blk_drewN ?_ _ | refine blk_drew ?_ | refine blk_alloc ?_ _)); refine blk_far ?_ NB433_435.out _; (with_reducible repeat (first | refine blk_drewN ?_ _ | refine blk_drew ?_ | refine blk_alloc ?_ _)); refine blk_far ?_ NB433_435.out _; (with_reducible repeat (first | refine blk_drewN ?_ _ | refine blk_drew ?_ | refine blk_alloc ?_ _)); exact BK433.out⟩, ⟨bn3 HB GE431 GE433 GE435⟩⟩
                        · rw [if_neg c72] at H
                          have c72b0 : (((rd_T46 ((rd_T42 l0_2 x3_2).f3) x5_4).f1) == 0) = false := beq_eq_false_iff_ne.mpr c72; have c72b1 : (((rd_T46 ((rd_T42 l0_2 x3_2).f3) x5_4).f1) != 0) = true := bne_iff_ne.mpr c72; obtain rfl := Option.some.inj H; have hnb79 := NB433_431.out; have hnc79 := NB431_433.out; obtain ⟨hcz80_0, hcz80_1, hcz80_2, hcz80_3⟩ := cells4 BK433.out; obtain ⟨hfz80_0, hfz80_1, hfz80_2, hfz80_3⟩ := froz4 BK433.out; have p434 : 0 ≤ (x5_4 : Int) := of_decide_eq_true (by first | (with_reducible assumption) | assumption); have q434 : x5_4 < (((rd_T42 l0_2 x3_2).f3).length : Int) := of_decide_eq_true (by first | (with_reducible assumption) | assumption); obtain ⟨ad434, e434, hx434_0, hx434_1⟩ := at_T46 HR432_3.out x5_4 p434 q434
                          cases e434
                          replace hx434_0 := (HB.out.cell (World.block_lt_of_cell? w _ hx434_0)).trans hx434_0; replace hx434_1 := (HB.out.cell (World.block_lt_of_cell? w _ hx434_1)).trans hx434_1; replace p434 := eq_true p434; replace q434 := eq_true q434
                          go_wp2_with (first | ((with_reducible refine gate_dst (N := 6) rfl ?_); (try (refine gate_guard (by rfl) ?_; dsimp only)); refine box_event ?hg (N := 6) ?hd (cs := #[.int .i64 0, .int .i64 0]) (t := 46) ?hr ?_; (case hd => rfl); (case hg => rfl); (case hr => first | (go_simp; done) | (go_simp; rfl)); intro gb435 hg w81 hbox hb; have n0_ := Aside0.mk (blk_below (g := gb431) (o := .cells #[.int .i64 a0_0, .slice A0_1 l0_1.length c0_1, .slice (some ad432) l0_2.length c0_2] 25 (0, 0)) (bkn BK431) hb); have n1_ := Aside0.mk (blk_below (g := gb433) (o := .cells #[.int .i64 ((rd_T42 l0_2 x3_2).f0), .int .i64 ((rd_T42 l0_2 x3_2).f1), .int .i64 ((rd_T42 l0_2 x3_2).f2), .slice (some ad434) ((rd_T42 l0_2 x3_2).f3).length c432_3] 42 (0, 0)) (bkn BK433) hb); have n2_ := Aside0.mk (below_step (bn2 HB GE431 GE433) hb); have BK435 := Aside0.mk (hbox); have GW435 := Aside0.mk ((by rw [hg]; exact (below_size (bn2 HB GE431 GE433)) : w.heap.size ≤ gb435)); have GE435 := Aside0.mk ((by rw [hg]; exact (below_size (bn2 HB GE431 GE433)) : w.heap.size ≤ gb435)); have NB431_435 := Aside0.mk ((by rw [hg]; exact Nat.ne_of_lt (blk_lt (g := gb431) (o := .cells #[.int .i64 a0_0, .slice A0_1 l0_1.length c0_1, .slice (some ad432) l0_2.length c0_2] 25 (0, 0)) (bkn BK431)) : gb431 ≠ gb435)); have NB435_431 := Aside0.mk ((by rw [hg]; exact Nat.ne_of_gt (blk_lt (g := gb431) (o := .cells #[.int .i64 a0_0, .slice A0_1 l0_1.length c0_1, .slice (some ad432) l0_2.length c0_2] 25 (0, 0)) (bkn BK431)) : gb435 ≠ gb431)); have NB433_435 := Aside0.mk ((by rw [hg]; exact Nat.ne_of_lt (blk_lt (g := gb433) (o := .cells #[.int .i64 ((rd_T42 l0_2 x3_2).f0), .int .i64 ((rd_T42 l0_2 x3_2).f1), .int .i64 ((rd_T42 l0_2 x3_2).f2), .slice (some ad434) ((rd_T42 l0_2 x3_2).f3).length c432_3] 42 (0, 0)) (bkn BK433)) : gb433 ≠ gb435)); have NB435_433 := Aside0.mk ((by rw [hg]; exact Nat.ne_of_gt (blk_lt (g := gb433) (o := .cells #[.int .i64 ((rd_T42 l0_2 x3_2).f0), .int .i64 ((rd_T42 l0_2 x3_2).f1), .int .i64 ((rd_T42 l0_2 x3_2).f2), .slice (some ad434) ((rd_T42 l0_2 x3_2).f3).length c432_3] 42 (0, 0)) (bkn BK433)) : gb435 ≠ gb433)); replace BK431 := n0_; replace BK433 := n1_; replace HB := n2_; clear n0_ n1_ n2_; clear hb hbox hg; have hnb82 := NB435_431.out; have hnc82 := NB431_435.out; have hnb83 := NB435_433.out; have hnc83 := NB433_435.out; obtain ⟨hcz84_0, hcz84_1⟩ := cells2 BK435.out; obtain ⟨hfz84_0, hfz84_1⟩ := froz2 BK435.out) | (go_at_call 34; (with_reducible refine (casementref12_Has.calls ((rd_T46 ((rd_T42 l0_2 x3_2).f3) x5_4).f0) false _ A64.out).mono ?_); rintro e w' ⟨rfl, ⟨nd, rfl⟩⟩))
                          go_ret
                          exact ⟨by first | rfl | (simp [errW_none, errW_some] <;> rfl) | (simp [*, errW_none, errW_some] <;> rfl), bn3 HB GE431 GE433 GE435⟩
                · rw [if_neg c48] at H
                  have c48b0 : decide (x5_4 < (((rd_T42 l0_2 x3_2).f3).length : Int)) = false := decide_eq_false c48; clear c48; have H' := Aside0.mk H; clear H; have hnb85 := NB433_431.out; have hnc85 := NB431_433.out; obtain ⟨hcz86_0, hcz86_1, hcz86_2, hcz86_3⟩ := cells4 BK433.out; obtain ⟨hfz86_0, hfz86_1, hfz86_2, hfz86_3⟩ := froz4 BK433.out
                  go_wp2
                  go_roundg k4
                  case measure => have := HJ1.out; have := HK2.out; have := HJ15.out; have := HK4.out; omega
                  case rel => exact ⟨(wrap64 (x3_2 + 1)), (by first | rfl | (simp; done) | (simp [*]; done)), H', ⟨by have := HJ1.out; have := HK2.out; have := HJ15.out; have := HK4.out; omega⟩, ⟨by (with_reducible repeat (first | refine blk_drewN ?_ _ | refine blk_drew ?_ | refine blk_alloc ?_ _)); exact BK431.out⟩, ⟨bn2 HB GE431 GE433⟩⟩
        · rw [if_neg c14] at H
          have c14b0 : decide (x3_2 < (l0_2.length : Int)) = false := decide_eq_false c14; clear c14; obtain rfl := Option.some.inj H; obtain ⟨hcz87_0, hcz87_1, hcz87_2⟩ := cells3 BK431.out; obtain ⟨hfz87_0, hfz87_1, hfz87_2⟩ := froz3 BK431.out
          go_wp2
          go_ret
          exact ⟨by first | rfl | (simp [errW_none, errW_some] <;> rfl) | (simp [*, errW_none, errW_some] <;> rfl), bn1 HB GE431⟩

end Go.Proofs.Ytgngbbkaghmnpaa.Q
