-- written by a program of this session after the way of the kit's print; not the kit's own print. Lean checks it.
import Derived.Test.YtgngbbkaghmnpaaQx0
import Derived.Test.YtgngbbkaghmnpaaQx4
namespace Go.Proofs.Ytgngbbkaghmnpaa.Q
open Go.RowKit Go.Proofs.YtgngbbkaghmnpaaW.PrintWords Go.Proofs.YtgngbbkaghmnpaaW.PrintLast Go.Proofs.YtgngbbkaghmnpaaW.PrintMore
attribute [local go_sem] max2_int min2_int max_two min_two max_three min_three max_four min_four   -- for this text's walks alone
set_option linter.unusedVariables false
set_option linter.unusedSimpArgs false

/-! ### module_right: function 28 -/
mutual
def module_right.j0 : Nat → Bool → Int → List Int → List (S42) → Option (Bool)
  | 0, _, _, _, _ => none
  | k + 1, x34, x108000, x108001, x108002 => if x34 = true then (some false) else (module_right.l0 k x108002 (x108002.length : Int) 0)
def module_right.l0 : Nat → List (S42) → Int → Int → Option (Bool)
  | 0, _, _, _ => none
  | k + 1, x36, x37, x38 => if x38 < x37 then (if 0 ≤ x38 then (if x38 < (x36.length : Int) then (if ((rd_T42 x36 x38).f0) < 0 then (module_right.j2 k x36 x37 x38 true ((rd_T42 x36 x38).f0) ((rd_T42 x36 x38).f1) ((rd_T42 x36 x38).f2) ((rd_T42 x36 x38).f3)) else (if ((rd_T42 x36 x38).f0) > 8 then (module_right.j2 k x36 x37 x38 true ((rd_T42 x36 x38).f0) ((rd_T42 x36 x38).f1) ((rd_T42 x36 x38).f2) ((rd_T42 x36 x38).f3)) else (if ((rd_T42 x36 x38).f1) < 0 then (module_right.j2 k x36 x37 x38 true ((rd_T42 x36 x38).f0) ((rd_T42 x36 x38).f1) ((rd_T42 x36 x38).f2) ((rd_T42 x36 x38).f3)) else (if ((rd_T42 x36 x38).f1) > 1 then (module_right.j2 k x36 x37 x38 true ((rd_T42 x36 x38).f0) ((rd_T42 x36 x38).f1) ((rd_T42 x36 x38).f2) ((rd_T42 x36 x38).f3)) else (if ((rd_T42 x36 x38).f2) < 0 then (module_right.j2 k x36 x37 x38 true ((rd_T42 x36 x38).f0) ((rd_T42 x36 x38).f1) ((rd_T42 x36 x38).f2) ((rd_T42 x36 x38).f3)) else (if ((rd_T42 x36 x38).f2) > (wrap64 (16 - ((rd_T42 x36 x38).f0))) then (module_right.j2 k x36 x37 x38 true ((rd_T42 x36 x38).f0) ((rd_T42 x36 x38).f1) ((rd_T42 x36 x38).f2) ((rd_T42 x36 x38).f3)) else (if (((rd_T42 x36 x38).f3).length : Int) < 1 then (module_right.j2 k x36 x37 x38 true ((rd_T42 x36 x38).f0) ((rd_T42 x36 x38).f1) ((rd_T42 x36 x38).f2) ((rd_T42 x36 x38).f3)) else (module_right.j2 k x36 x37 x38 (decide ((((rd_T42 x36 x38).f3).length : Int) > 400)) ((rd_T42 x36 x38).f0) ((rd_T42 x36 x38).f1) ((rd_T42 x36 x38).f2) ((rd_T42 x36 x38).f3))))))))) else (none)) else (none)) else (some true)
def module_right.j2 : Nat → List (S42) → Int → Int → Bool → Int → Int → Int → List (S46) → Option (Bool)
  | 0, _, _, _, _, _, _, _, _ => none
  | k + 1, x36, x37, x38, x84, x110000, x110001, x110002, x110003 => if x84 = true then (some false) else (module_right.l1 k x36 x37 x38 x110003 (x110003.length : Int) 0)
def module_right.l1 : Nat → List (S42) → Int → Int → List (S46) → Int → Int → Option (Bool)
  | 0, _, _, _, _, _, _ => none
  | k + 1, x36, x37, x38, x86, x87, x88 => if x88 < x87 then (if 0 ≤ x88 then (if x88 < (x86.length : Int) then (if ((rd_T46 x86 x88).f0) < 0 then (some false) else (if ((rd_T46 x86 x88).f0) > 29 then (some false) else ((module_Has.f k ((rd_T46 x86 x88).f0)).bind fun t112 => (if t112 = true then (module_right.l1 k x36 x37 x38 x86 x87 (wrap64 (x88 + 1))) else (if ((rd_T46 x86 x88).f1) = 0 then (module_right.l1 k x36 x37 x38 x86 x87 (wrap64 (x88 + 1))) else (some false)))))) else (none)) else (none)) else (module_right.l0 k x36 x37 (wrap64 (x38 + 1)))
end
def module_right.f (k : Nat) (a0_0 : Int) (l0_1 : List Int) (l0_2 : List (S42)) : Option (Bool) := if a0_0 < 0 then (module_right.j0 k true a0_0 l0_1 l0_2) else (if a0_0 > 1024 then (module_right.j0 k true a0_0 l0_1 l0_2) else (if (l0_1.length : Int) > a0_0 then (module_right.j0 k true a0_0 l0_1 l0_2) else (if (l0_2.length : Int) < 1 then (module_right.j0 k true a0_0 l0_1 l0_2) else (module_right.j0 k (decide ((l0_2.length : Int) > 16)) a0_0 l0_1 l0_2))))
theorem module_right.mono_l : ∀ k, (∀ y0 y1 y2 y3, LeO (module_right.j0 k y0 y1 y2 y3) (module_right.j0 (k + 1) y0 y1 y2 y3)) ∧ (∀ y0 y1 y2, LeO (module_right.l0 k y0 y1 y2) (module_right.l0 (k + 1) y0 y1 y2)) ∧ (∀ y0 y1 y2 y3 y4 y5 y6 y7, LeO (module_right.j2 k y0 y1 y2 y3 y4 y5 y6 y7) (module_right.j2 (k + 1) y0 y1 y2 y3 y4 y5 y6 y7)) ∧ (∀ y0 y1 y2 y3 y4 y5, LeO (module_right.l1 k y0 y1 y2 y3 y4 y5) (module_right.l1 (k + 1) y0 y1 y2 y3 y4 y5))
  | 0 => ⟨fun _ _ _ _ r h => by simp [module_right.j0] at h, fun _ _ _ r h => by simp [module_right.l0] at h, fun _ _ _ _ _ _ _ _ r h => by simp [module_right.j2] at h, fun _ _ _ _ _ _ r h => by simp [module_right.l1] at h⟩
  | k + 1 => by
    obtain ⟨ih0, ih1, ih2, ih3⟩ := module_right.mono_l k
    refine ⟨?_, ?_, ?_, ?_⟩ <;> intros <;> (first | unfold module_right.j0 | unfold module_right.l0 | unfold module_right.j2 | unfold module_right.l1) <;>
      (repeat' first
      | (with_reducible exact ih0 _ _ _ _)
      | (with_reducible exact ih1 _ _ _)
      | (with_reducible exact ih2 _ _ _ _ _ _ _ _)
      | (with_reducible exact ih3 _ _ _ _ _ _)
      | (with_reducible exact module_Has.mono _ _)
      | (with_reducible exact LeO.refl _)
      | (with_reducible exact LeO.none _)
      | (with_reducible refine LeO.ite ?_ ?_)
      | (with_reducible refine LeO.bind ?_ (fun _ => ?_))
      | exact ih0 _ _ _ _
      | exact ih1 _ _ _
      | exact ih2 _ _ _ _ _ _ _ _
      | exact ih3 _ _ _ _ _ _
      | exact module_Has.mono _ _
      | exact LeO.none _
      | refine LeO.ite ?_ ?_
      | refine LeO.bind ?_ (fun _ => ?_))
theorem module_right.mono : ∀ a0 a1 a2 k, LeO (module_right.f k a0 a1 a2) (module_right.f (k + 1) a0 a1 a2) := by
  intro a0 a1 a2 k; obtain ⟨ih0, ih1, ih2, ih3⟩ := module_right.mono_l k
  unfold module_right.f
  repeat' first
      | (with_reducible exact ih0 _ _ _ _)
      | (with_reducible exact ih1 _ _ _)
      | (with_reducible exact ih2 _ _ _ _ _ _ _ _)
      | (with_reducible exact ih3 _ _ _ _ _ _)
      | (with_reducible exact module_Has.mono _ _)
      | (with_reducible exact LeO.refl _)
      | (with_reducible exact LeO.none _)
      | (with_reducible refine LeO.ite ?_ ?_)
      | (with_reducible refine LeO.bind ?_ (fun _ => ?_))
      | exact ih0 _ _ _ _
      | exact ih1 _ _ _
      | exact ih2 _ _ _ _ _ _ _ _
      | exact ih3 _ _ _ _ _ _
      | exact module_Has.mono _ _
      | exact LeO.none _
      | refine LeO.ite ?_ ?_
      | refine LeO.bind ?_ (fun _ => ?_)
set_option maxHeartbeats 8000000 in
set_option maxRecDepth 100000 in
theorem module_right.calls (k : Nat) (a0_0 : Int) (A0_1 : Option Addr) (c0_1 : Nat) (l0_1 : List Int) (A0_2 : Option Addr) (c0_2 : Nat) (l0_2 : List (S42)) (r : Bool) (w : World) (hr0_1 : Kd.C (Kd.int .u8) w A0_1 l0_1.length l0_1) (hc0_1 : l0_1.length ≤ c0_1) (hr0_2 : Kd.C k42 w A0_2 l0_2.length l0_2) (hc0_2 : l0_2.length ≤ c0_2) (h : module_right.f k a0_0 l0_1 l0_2 = some r) :
    Calls Try.prog 28 #[.agg #[.int .i64 a0_0, .slice A0_1 l0_1.length c0_1, .slice A0_2 l0_2.length c0_2]] w fun e w' => e = .returned (.bool r) ∧ Below w.heap.size w w' := by
  have hu25 := Try.underlying25; have hu42 := Try.underlying42; have hu46 := Try.underlying46; have HR0_1 := Aside0.mk hr0_1; have HC0_1 := Aside0.mk hc0_1; clear hr0_1 hc0_1; have HR0_2 := Aside0.mk hr0_2; have HC0_2 := Aside0.mk hc0_2; clear hr0_2 hc0_2; have HB := Aside0.mk (Below.refl w.heap.size w); have H : (if a0_0 < 0 then (module_right.j0 k true a0_0 l0_1 l0_2) else (if a0_0 > 1024 then (module_right.j0 k true a0_0 l0_1 l0_2) else (if (l0_1.length : Int) > a0_0 then (module_right.j0 k true a0_0 l0_1 l0_2) else (if (l0_2.length : Int) < 1 then (module_right.j0 k true a0_0 l0_1 l0_2) else (module_right.j0 k (decide ((l0_2.length : Int) > 16)) a0_0 l0_1 l0_2))))) = some r := h; clear h; have HC2 := Aside0.mk H; clear H
  go_enter Try.func28, Try.ntmps28
  go_upto_region 1 with (first | ((with_reducible refine gate_dst (N := 1) rfl ?_); (try (refine gate_guard (by rfl) ?_; dsimp only)); refine box_event ?hg (N := 1) ?hd (cs := #[.int .i64 a0_0, .slice A0_1 l0_1.length c0_1, .slice A0_2 l0_2.length c0_2]) (t := 25) ?hr ?_; (case hd => rfl); (case hg => rfl); (case hr => first | (go_simp; done) | (go_simp; rfl)); intro gb107 hg w3 hbox hb; have n0_ := Aside0.mk (below_step (bn0 HB) hb); have BK107 := Aside0.mk (hbox); have GW107 := Aside0.mk ((by rw [hg]; exact (below_size (bn0 HB)) : w.heap.size ≤ gb107)); have GE107 := Aside0.mk ((by rw [hg]; exact (below_size (bn0 HB)) : w.heap.size ≤ gb107)); replace HB := n0_; clear n0_; clear hb hbox hg))
  (try simp only [Act.put, List.setIfInBounds_toArray, List.set_cons_zero, List.set_cons_succ])
  go_cut [34] (fun v34 wc => ∃ (kq : Nat) (x34_1 : Bool), v34 = .bool x34_1 ∧ Aside0 (module_right.j0 kq x34_1 a0_0 l0_1 l0_2 = some r) ∧ Aside0 (kq ≤ k) ∧ Aside0 (wc.heap[gb107]? = some (.cells #[.int .i64 a0_0, (.slice A0_1 l0_1.length c0_1), (.slice A0_2 l0_2.length c0_2)] 25 (0, 0))) ∧ Aside0 (Below w.heap.size w wc))
  case first =>
    have H := HC2.out; clear HC2
    by_cases c4 : a0_0 < 0
    · rw [if_pos c4] at H
      have c4b0 : decide (a0_0 < 0) = true := decide_eq_true c4; clear c4
      (first | rw [c4b0] | (simp only [i64_w, i32_w]; rw [c4b0]) | skip)
      have H' := Aside0.mk H; clear H; obtain ⟨hcz5_0, hcz5_1, hcz5_2⟩ := cells3 BK107.out; obtain ⟨hfz5_0, hfz5_1, hfz5_2⟩ := froz3 BK107.out
      go_wp2
      go_meet
      case rel => exact ⟨_, (true), (by first | rfl | (simp; done) | (simp [*]; done)), H', ⟨by first | omega | exact Nat.le_refl _⟩, ⟨by (with_reducible repeat (first | refine blk_drewN ?_ _ | refine blk_drew ?_ | refine blk_alloc ?_ _)); exact BK107.out⟩, ⟨bn1 HB GE107⟩⟩
    · rw [if_neg c4] at H
      have c4b0 : decide (a0_0 < 0) = false := decide_eq_false c4; clear c4
      (first | rw [c4b0] | (simp only [i64_w, i32_w]; rw [c4b0]) | skip)
      by_cases c6 : a0_0 > 1024
      · rw [if_pos c6] at H
        have c6b0 : decide (1024 < a0_0) = true := decide_eq_true c6; clear c6; have H' := Aside0.mk H; clear H; obtain ⟨hcz7_0, hcz7_1, hcz7_2⟩ := cells3 BK107.out; obtain ⟨hfz7_0, hfz7_1, hfz7_2⟩ := froz3 BK107.out
        go_wp2
        go_meet
        case rel => exact ⟨_, (true), (by first | rfl | (simp; done) | (simp [*]; done)), H', ⟨by first | omega | exact Nat.le_refl _⟩, ⟨by (with_reducible repeat (first | refine blk_drewN ?_ _ | refine blk_drew ?_ | refine blk_alloc ?_ _)); exact BK107.out⟩, ⟨bn1 HB GE107⟩⟩
      · rw [if_neg c6] at H
        have c6b0 : decide (1024 < a0_0) = false := decide_eq_false c6; clear c6
        by_cases c8 : (l0_1.length : Int) > a0_0
        · rw [if_pos c8] at H
          have c8b0 : decide (a0_0 < (l0_1.length : Int)) = true := decide_eq_true c8; clear c8; have H' := Aside0.mk H; clear H; obtain ⟨hcz9_0, hcz9_1, hcz9_2⟩ := cells3 BK107.out; obtain ⟨hfz9_0, hfz9_1, hfz9_2⟩ := froz3 BK107.out
          go_wp2
          go_meet
          case rel => exact ⟨_, (true), (by first | rfl | (simp; done) | (simp [*]; done)), H', ⟨by first | omega | exact Nat.le_refl _⟩, ⟨by (with_reducible repeat (first | refine blk_drewN ?_ _ | refine blk_drew ?_ | refine blk_alloc ?_ _)); exact BK107.out⟩, ⟨bn1 HB GE107⟩⟩
        · rw [if_neg c8] at H
          have c8b0 : decide (a0_0 < (l0_1.length : Int)) = false := decide_eq_false c8; clear c8
          by_cases c10 : (l0_2.length : Int) < 1
          · rw [if_pos c10] at H
            have c10b0 : decide ((l0_2.length : Int) < 1) = true := decide_eq_true c10; have c10b1 : decide (l0_2.length < 1) = true := decide_eq_true (by omega); clear c10; have H' := Aside0.mk H; clear H; obtain ⟨hcz11_0, hcz11_1, hcz11_2⟩ := cells3 BK107.out; obtain ⟨hfz11_0, hfz11_1, hfz11_2⟩ := froz3 BK107.out
            go_wp2
            go_meet
            case rel => exact ⟨_, (true), (by first | rfl | (simp; done) | (simp [*]; done)), H', ⟨by first | omega | exact Nat.le_refl _⟩, ⟨by (with_reducible repeat (first | refine blk_drewN ?_ _ | refine blk_drew ?_ | refine blk_alloc ?_ _)); exact BK107.out⟩, ⟨bn1 HB GE107⟩⟩
          · rw [if_neg c10] at H
            have c10b0 : decide ((l0_2.length : Int) < 1) = false := decide_eq_false c10; have c10b1 : decide (l0_2.length < 1) = false := decide_eq_false (by omega); clear c10; have H' := Aside0.mk H; clear H; obtain ⟨hcz12_0, hcz12_1, hcz12_2⟩ := cells3 BK107.out; obtain ⟨hfz12_0, hfz12_1, hfz12_2⟩ := froz3 BK107.out
            go_wp2
            go_meet
            case rel => exact ⟨_, (decide ((l0_2.length : Int) > 16)), (by first | rfl | (simp; done) | (simp [*]; done)), H', ⟨by first | omega | exact Nat.le_refl _⟩, ⟨by (with_reducible repeat (first | refine blk_drewN ?_ _ | refine blk_drew ?_ | refine blk_alloc ?_ _)); exact BK107.out⟩, ⟨bn1 HB GE107⟩⟩
  case rest =>
    clear HC2
    try clear c1
    try clear c2
    try clear p2
    try clear c4
    try clear c4b0
    try clear c6
    try clear c6b0
    try clear c8
    try clear c8b0
    try clear c10
    try clear c10b0
    try clear c10b1
    try clear hcz11_0
    try clear hcz11_1
    try clear hcz11_2
    try clear hcz12_0
    try clear hcz12_1
    try clear hcz12_2
    try clear hcz5_0
    try clear hcz5_1
    try clear hcz5_2
    try clear hcz7_0
    try clear hcz7_1
    try clear hcz7_2
    try clear hcz9_0
    try clear hcz9_1
    try clear hcz9_2
    try clear hfz11_0
    try clear hfz11_1
    try clear hfz11_2
    try clear hfz12_0
    try clear hfz12_1
    try clear hfz12_2
    try clear hfz5_0
    try clear hfz5_1
    try clear hfz5_2
    try clear hfz7_0
    try clear hfz7_1
    try clear hfz7_2
    try clear hfz9_0
    try clear hfz9_1
    try clear hfz9_2
    obtain ⟨kq, x34_1, rfl, HA, HJ1, BK107, HB⟩ := hcut
    cases kq with
    | zero => exact absurd HA.out (by simp [module_right.j0])
    | succ kj1 => ?_
    have H := HA.out; clear HA; simp only [module_right.j0] at H
    by_cases c13 : x34_1 = true
    · subst c13
      have H1 : (some false) = some r := by rw [if_pos rfl] at H; exact H
      clear H; have H := H1; clear H1; obtain rfl := Option.some.inj H
      go_wp2
      go_ret
      exact ⟨by first | rfl | (simp [errW_none, errW_some] <;> rfl) | (simp [*, errW_none, errW_some] <;> rfl), bn1 HB GE107⟩
    · replace c13 := Bool.eq_false_iff.mpr c13
      subst c13
      have H1 : (module_right.l0 kj1 l0_2 (l0_2.length : Int) 0) = some r := by rw [if_neg (show ¬ (false = true) by decide)] at H; exact H
      clear H; have H := H1; clear H1; have H' := Aside0.mk H; clear H; obtain ⟨hcz14_0, hcz14_1, hcz14_2⟩ := cells3 BK107.out; obtain ⟨hfz14_0, hfz14_1, hfz14_2⟩ := froz3 BK107.out
      go_wp2
      go_loopg [38] kj1 (fun kq v38 w' => ∃ (x38_2 : Int), v38 = .int .i64 x38_2 ∧ Aside0 (module_right.l0 kq l0_2 (l0_2.length : Int) x38_2 = some r) ∧ Aside0 (kq ≤ kj1) ∧ Aside0 (w'.heap[gb107]? = some (.cells #[.int .i64 a0_0, (.slice A0_1 l0_1.length c0_1), (.slice A0_2 l0_2.length c0_2)] 25 (0, 0))) ∧ Aside0 (Below w.heap.size w w'))
      case atStart => exact ⟨(0), (by first | rfl | (simp; done) | (simp [*]; done)), H', ⟨Nat.le_refl _⟩, ⟨by (with_reducible repeat (first | refine blk_drewN ?_ _ | refine blk_drew ?_ | refine blk_alloc ?_ _)); exact BK107.out⟩, ⟨bn1 HB GE107⟩⟩
      case round =>
        clear H'
        try clear c1
        try clear c2
        try clear p2
        try clear c4
        try clear c4b0
        try clear c6
        try clear c6b0
        try clear c8
        try clear c8b0
        try clear c10
        try clear c10b0
        try clear c10b1
        try clear c13
        try clear hcz11_0
        try clear hcz11_1
        try clear hcz11_2
        try clear hcz12_0
        try clear hcz12_1
        try clear hcz12_2
        try clear hcz14_0
        try clear hcz14_1
        try clear hcz14_2
        try clear hcz5_0
        try clear hcz5_1
        try clear hcz5_2
        try clear hcz7_0
        try clear hcz7_1
        try clear hcz7_2
        try clear hcz9_0
        try clear hcz9_1
        try clear hcz9_2
        try clear hfz11_0
        try clear hfz11_1
        try clear hfz11_2
        try clear hfz12_0
        try clear hfz12_1
        try clear hfz12_2
        try clear hfz14_0
        try clear hfz14_1
        try clear hfz14_2
        try clear hfz5_0
        try clear hfz5_1
        try clear hfz5_2
        try clear hfz7_0
        try clear hfz7_1
        try clear hfz7_2
        try clear hfz9_0
        try clear hfz9_1
        try clear hfz9_2
        try clear p2
        obtain ⟨x38_2, rfl, HA, HK2, BK107, HB⟩ := hrel
        cases gk with
        | zero => exact absurd HA.out (by simp [module_right.l0])
        | succ k2 => ?_
        have H := HA.out; clear HA; simp only [module_right.l0] at H
        by_cases c15 : x38_2 < (l0_2.length : Int)
        · rw [if_pos c15] at H
          have c15b0 : decide (x38_2 < (l0_2.length : Int)) = true := decide_eq_true c15; clear c15
          by_cases c16 : 0 ≤ x38_2
          case neg => rw [if_neg c16] at H; exact absurd H (by simp)
          rw [if_pos c16] at H; have c16b0 : decide (0 ≤ x38_2) = true := decide_eq_true c16; clear c16
          by_cases c17 : x38_2 < (l0_2.length : Int)
          case neg => rw [if_neg c17] at H; exact absurd H (by simp)
          rw [if_pos c17] at H; have c17b0 : decide (x38_2 < (l0_2.length : Int)) = true := decide_eq_true c17; clear c17; have HC18 := Aside0.mk H; clear H; have p108 : 0 ≤ (x38_2 : Int) := of_decide_eq_true (by first | (with_reducible assumption) | assumption); have q108 : x38_2 < (l0_2.length : Int) := of_decide_eq_true (by first | (with_reducible assumption) | assumption); obtain ⟨ad108, A108_3, c108_3, e108, hx108_0, hx108_1, hx108_2, hx108_3, hl108_3, hi108_3⟩ := at_T42 HR0_2.out x38_2 p108 q108
          cases e108
          replace hx108_0 := (HB.out.cell (World.block_lt_of_cell? w _ hx108_0)).trans hx108_0; replace hx108_1 := (HB.out.cell (World.block_lt_of_cell? w _ hx108_1)).trans hx108_1; replace hx108_2 := (HB.out.cell (World.block_lt_of_cell? w _ hx108_2)).trans hx108_2; replace hx108_3 := (HB.out.cell (World.block_lt_of_cell? w _ hx108_3)).trans hx108_3; have HR108_3 := Aside0.mk hi108_3; have HC108_3 := Aside0.mk hl108_3; clear hi108_3 hl108_3; replace p108 := eq_true p108; replace q108 := eq_true q108
          go_upto_region 6 with (first | ((with_reducible refine gate_dst (N := 4) rfl ?_); (try (refine gate_guard (by rfl) ?_; dsimp only)); refine box_event ?hg (N := 4) ?hd (cs := #[.int .i64 0, .int .i64 0, .int .i64 0, .slice none 0 0]) (t := 42) ?hr ?_; (case hd => rfl); (case hg => rfl); (case hr => first | (go_simp; done) | (go_simp; rfl)); intro gb109 hg w19 hbox hb; have n0_ := Aside0.mk (blk_below (g := gb107) (o := .cells #[.int .i64 a0_0, .slice A0_1 l0_1.length c0_1, .slice (some ad108) l0_2.length c0_2] 25 (0, 0)) (bkn BK107) hb); have n1_ := Aside0.mk (below_step (bn1 HB GE107) hb); have BK109 := Aside0.mk (hbox); have GW109 := Aside0.mk ((by rw [hg]; exact (below_size (bn1 HB GE107)) : w.heap.size ≤ gb109)); have GE109 := Aside0.mk ((by rw [hg]; exact (below_size (bn1 HB GE107)) : w.heap.size ≤ gb109)); have NB107_109 := Aside0.mk ((by rw [hg]; exact Nat.ne_of_lt (blk_lt (g := gb107) (o := .cells #[.int .i64 a0_0, .slice A0_1 l0_1.length c0_1, .slice (some ad108) l0_2.length c0_2] 25 (0, 0)) (bkn BK107)) : gb107 ≠ gb109)); have NB109_107 := Aside0.mk ((by rw [hg]; exact Nat.ne_of_gt (blk_lt (g := gb107) (o := .cells #[.int .i64 a0_0, .slice A0_1 l0_1.length c0_1, .slice (some ad108) l0_2.length c0_2] 25 (0, 0)) (bkn BK107)) : gb109 ≠ gb107)); replace BK107 := n0_; replace HB := n1_; clear n0_ n1_; clear hb hbox hg; have hnb20 := NB109_107.out; have hnc20 := NB107_109.out; obtain ⟨hcz21_0, hcz21_1, hcz21_2, hcz21_3⟩ := cells4 BK109.out; obtain ⟨hfz21_0, hfz21_1, hfz21_2, hfz21_3⟩ := froz4 BK109.out))
          (try simp only [Act.put, List.setIfInBounds_toArray, List.set_cons_zero, List.set_cons_succ])
          go_cut [84] (fun v84 wc => ∃ (kq : Nat) (x84_17 : Bool), v84 = .bool x84_17 ∧ Aside0 (module_right.j2 kq l0_2 (l0_2.length : Int) x38_2 x84_17 ((rd_T42 l0_2 x38_2).f0) ((rd_T42 l0_2 x38_2).f1) ((rd_T42 l0_2 x38_2).f2) ((rd_T42 l0_2 x38_2).f3) = some r) ∧ Aside0 (kq ≤ k2) ∧ Aside0 (wc.heap[gb107]? = some (.cells #[.int .i64 a0_0, (.slice A0_1 l0_1.length c0_1), (.slice (some ad108) l0_2.length c0_2)] 25 (0, 0))) ∧ Aside0 (wc.heap[gb109]? = some (.cells #[.int .i64 ((rd_T42 l0_2 x38_2).f0), .int .i64 ((rd_T42 l0_2 x38_2).f1), .int .i64 ((rd_T42 l0_2 x38_2).f2), (.slice A108_3 ((rd_T42 l0_2 x38_2).f3).length c108_3)] 42 (0, 0))) ∧ Aside0 (Below w.heap.size w wc))
          case first =>
            have H := HC18.out; clear HC18
            by_cases c22 : ((rd_T42 l0_2 x38_2).f0) < 0
            · rw [if_pos c22] at H
              have c22b0 : decide (((rd_T42 l0_2 x38_2).f0) < 0) = true := decide_eq_true c22; clear c22
              (first | rw [c22b0] | (simp only [i64_w, i32_w]; rw [c22b0]) | skip)
              have H' := Aside0.mk H; clear H; have hnb23 := NB109_107.out; have hnc23 := NB107_109.out; obtain ⟨hcz24_0, hcz24_1, hcz24_2, hcz24_3⟩ := cells4 BK109.out; obtain ⟨hfz24_0, hfz24_1, hfz24_2, hfz24_3⟩ := froz4 BK109.out
              go_wp2
              go_meet
              case rel => exact ⟨_, (true), (by first | rfl | (simp; done) | (simp [*]; done)), H', ⟨by have := HJ1.out; have := HK2.out; first | omega | exact Nat.le_refl _⟩, ⟨by (with_reducible repeat (first | refine blk_drewN ?_ _ | refine blk_drew ?_ | refine blk_alloc ?_ _)); refine blk_far ?_ NB107_109.out _; (with_reducible repeat (first | refine blk_drewN ?_ _ | refine blk_drew ?_ | refine blk_alloc ?_ _)); refine blk_far ?_ NB107_109.out _; (with_reducible repeat (first | refine blk_drewN ?_ _ | refine blk_drew ?_ | refine blk_alloc ?_ _)); refine blk_far ?_ NB107_109.out _; (with_reducible repeat (first | refine blk_drewN ?_ _ | refine blk_drew ?_ | refine blk_alloc ?_ _)); refine blk_far ?_ NB107_109.out _; (with_reducible repeat (first | refine blk_drewN ?_ _ | refine blk_drew ?_ | refine blk_alloc ?_ _)); exact BK107.out⟩, ⟨by (with_reducible repeat (first | refine blk_drewN ?_ _ | refine blk_drew ?_ | refine blk_alloc ?_ _)); refine blk_put (cs := #[.int .i64 ((rd_T42 l0_2 x38_2).f0), .int .i64 ((rd_T42 l0_2 x38_2).f1), .int .i64 ((rd_T42 l0_2 x38_2).f2), .slice none 0 0]) ?_ 3 _ rfl; (with_reducible repeat (first | refine blk_drewN ?_ _ | refine blk_drew ?_ | refine blk_alloc ?_ _)); refine blk_put (cs := #[.int .i64 ((rd_T42 l0_2 x38_2).f0), .int .i64 ((rd_T42 l0_2 x38_2).f1), .int .i64 0, .slice none 0 0]) ?_ 2 _ rfl; (with_reducible repeat (first | refine blk_drewN ?_ _ | refine blk_drew ?_ | refine blk_alloc ?_ _)); refine blk_put (cs := #[.int .i64 ((rd_T42 l0_2 x38_2).f0), .int .i64 0, .int .i64 0, .slice none 0 0]) ?_ 1 _ rfl; (with_reducible repeat (first | refine blk_drewN ?_ _ | refine blk_drew ?_ | refine blk_alloc ?_ _)); refine blk_put (cs := #[.int .i64 0, .int .i64 0, .int .i64 0, .slice none 0 0]) ?_ 0 _ rfl; (with_reducible repeat (first | refine blk_drewN ?_ _ | refine blk_drew ?_ | refine blk_alloc ?_ _)); exact BK109.out⟩, ⟨bn2 HB GE107 GE109⟩⟩
            · rw [if_neg c22] at H
              have c22b0 : decide (((rd_T42 l0_2 x38_2).f0) < 0) = false := decide_eq_false c22; clear c22
              (first | rw [c22b0] | (simp only [i64_w, i32_w]; rw [c22b0]) | skip)
              by_cases c25 : ((rd_T42 l0_2 x38_2).f0) > 8
              · rw [if_pos c25] at H
                have c25b0 : decide (8 < ((rd_T42 l0_2 x38_2).f0)) = true := decide_eq_true c25; clear c25; have H' := Aside0.mk H; clear H; have hnb26 := NB109_107.out; have hnc26 := NB107_109.out; obtain ⟨hcz27_0, hcz27_1, hcz27_2, hcz27_3⟩ := cells4 BK109.out; obtain ⟨hfz27_0, hfz27_1, hfz27_2, hfz27_3⟩ := froz4 BK109.out
                go_wp2
                go_meet
                case rel => exact ⟨_, (true), (by first | rfl | (simp; done) | (simp [*]; done)), H', ⟨by have := HJ1.out; have := HK2.out; first | omega | exact Nat.le_refl _⟩, ⟨by (with_reducible repeat (first | refine blk_drewN ?_ _ | refine blk_drew ?_ | refine blk_alloc ?_ _)); refine blk_far ?_ NB107_109.out _; (with_reducible repeat (first | refine blk_drewN ?_ _ | refine blk_drew ?_ | refine blk_alloc ?_ _)); refine blk_far ?_ NB107_109.out _; (with_reducible repeat (first | refine blk_drewN ?_ _ | refine blk_drew ?_ | refine blk_alloc ?_ _)); refine blk_far ?_ NB107_109.out _; (with_reducible repeat (first | refine blk_drewN ?_ _ | refine blk_drew ?_ | refine blk_alloc ?_ _)); refine blk_far ?_ NB107_109.out _; (with_reducible repeat (first | refine blk_drewN ?_ _ | refine blk_drew ?_ | refine blk_alloc ?_ _)); exact BK107.out⟩, ⟨by (with_reducible repeat (first | refine blk_drewN ?_ _ | refine blk_drew ?_ | refine blk_alloc ?_ _)); refine blk_put (cs := #[.int .i64 ((rd_T42 l0_2 x38_2).f0), .int .i64 ((rd_T42 l0_2 x38_2).f1), .int .i64 ((rd_T42 l0_2 x38_2).f2), .slice none 0 0]) ?_ 3 _ rfl; (with_reducible repeat (first | refine blk_drewN ?_ _ | refine blk_drew ?_ | refine blk_alloc ?_ _)); refine blk_put (cs := #[.int .i64 ((rd_T42 l0_2 x38_2).f0), .int .i64 ((rd_T42 l0_2 x38_2).f1), .int .i64 0, .slice none 0 0]) ?_ 2 _ rfl; (with_reducible repeat (first | refine blk_drewN ?_ _ | refine blk_drew ?_ | refine blk_alloc ?_ _)); refine blk_put (cs := #[.int .i64 ((rd_T42 l0_2 x38_2).f0), .int .i64 0, .int .i64 0, .slice none 0 0]) ?_ 1 _ rfl; (with_reducible repeat (first | refine blk_drewN ?_ _ | refine blk_drew ?_ | refine blk_alloc ?_ _)); refine blk_put (cs := #[.int .i64 0, .int .i64 0, .int .i64 0, .slice none 0 0]) ?_ 0 _ rfl; (with_reducible repeat (first | refine blk_drewN ?_ _ | refine blk_drew ?_ | refine blk_alloc ?_ _)); exact BK109.out⟩, ⟨bn2 HB GE107 GE109⟩⟩
              · rw [if_neg c25] at H
                have c25b0 : decide (8 < ((rd_T42 l0_2 x38_2).f0)) = false := decide_eq_false c25; clear c25
                by_cases c28 : ((rd_T42 l0_2 x38_2).f1) < 0
                · rw [if_pos c28] at H
                  have c28b0 : decide (((rd_T42 l0_2 x38_2).f1) < 0) = true := decide_eq_true c28; clear c28; have H' := Aside0.mk H; clear H; have hnb29 := NB109_107.out; have hnc29 := NB107_109.out; obtain ⟨hcz30_0, hcz30_1, hcz30_2, hcz30_3⟩ := cells4 BK109.out; obtain ⟨hfz30_0, hfz30_1, hfz30_2, hfz30_3⟩ := froz4 BK109.out
                  go_wp2
                  go_meet
                  case rel => exact ⟨_, (true), (by first | rfl | (simp; done) | (simp [*]; done)), H', ⟨by have := HJ1.out; have := HK2.out; first | omega | exact Nat.le_refl _⟩, ⟨by (with_reducible repeat (first | refine blk_drewN ?_ _ | refine blk_drew ?_ | refine blk_alloc ?_ _)); refine blk_far ?_ NB107_109.out _; (with_reducible repeat (first | refine blk_drewN ?_ _ | refine blk_drew ?_ | refine blk_alloc ?_ _)); refine blk_far ?_ NB107_109.out _; (with_reducible repeat (first | refine blk_drewN ?_ _ | refine blk_drew ?_ | refine blk_alloc ?_ _)); refine blk_far ?_ NB107_109.out _; (with_reducible repeat (first | refine blk_drewN ?_ _ | refine blk_drew ?_ | refine blk_alloc ?_ _)); refine blk_far ?_ NB107_109.out _; (with_reducible repeat (first | refine blk_drewN ?_ _ | refine blk_drew ?_ | refine blk_alloc ?_ _)); exact BK107.out⟩, ⟨by (with_reducible repeat (first | refine blk_drewN ?_ _ | refine blk_drew ?_ | refine blk_alloc ?_ _)); refine blk_put (cs := #[.int .i64 ((rd_T42 l0_2 x38_2).f0), .int .i64 ((rd_T42 l0_2 x38_2).f1), .int .i64 ((rd_T42 l0_2 x38_2).f2), .slice none 0 0]) ?_ 3 _ rfl; (with_reducible repeat (first | refine blk_drewN ?_ _ | refine blk_drew ?_ | refine blk_alloc ?_ _)); refine blk_put (cs := #[.int .i64 ((rd_T42 l0_2 x38_2).f0), .int .i64 ((rd_T42 l0_2 x38_2).f1), .int .i64 0, .slice none 0 0]) ?_ 2 _ rfl; (with_reducible repeat (first | refine blk_drewN ?_ _ | refine blk_drew ?_ | refine blk_alloc ?_ _)); refine blk_put (cs := #[.int .i64 ((rd_T42 l0_2 x38_2).f0), .int .i64 0, .int .i64 0, .slice none 0 0]) ?_ 1 _ rfl; (with_reducible repeat (first | refine blk_drewN ?_ _ | refine blk_drew ?_ | refine blk_alloc ?_ _)); refine blk_put (cs := #[.int .i64 0, .int .i64 0, .int .i64 0, .slice none 0 0]) ?_ 0 _ rfl; (with_reducible repeat (first | refine blk_drewN ?_ _ | refine blk_drew ?_ | refine blk_alloc ?_ _)); exact BK109.out⟩, ⟨bn2 HB GE107 GE109⟩⟩
                · rw [if_neg c28] at H
                  have c28b0 : decide (((rd_T42 l0_2 x38_2).f1) < 0) = false := decide_eq_false c28; clear c28
                  by_cases c31 : ((rd_T42 l0_2 x38_2).f1) > 1
                  · rw [if_pos c31] at H
                    have c31b0 : decide (1 < ((rd_T42 l0_2 x38_2).f1)) = true := decide_eq_true c31; clear c31; have H' := Aside0.mk H; clear H; have hnb32 := NB109_107.out; have hnc32 := NB107_109.out; obtain ⟨hcz33_0, hcz33_1, hcz33_2, hcz33_3⟩ := cells4 BK109.out; obtain ⟨hfz33_0, hfz33_1, hfz33_2, hfz33_3⟩ := froz4 BK109.out
                    go_wp2
                    go_meet
                    case rel => exact ⟨_, (true), (by first | rfl | (simp; done) | (simp [*]; done)), H', ⟨by have := HJ1.out; have := HK2.out; first | omega | exact Nat.le_refl _⟩, ⟨by (with_reducible repeat (first | refine blk_drewN ?_ _ | refine blk_drew ?_ | refine blk_alloc ?_ _)); refine blk_far ?_ NB107_109.out _; (with_reducible repeat (first | refine blk_drewN ?_ _ | refine blk_drew ?_ | refine blk_alloc ?_ _)); refine blk_far ?_ NB107_109.out _; (with_reducible repeat (first | refine blk_drewN ?_ _ | refine blk_drew ?_ | refine blk_alloc ?_ _)); refine blk_far ?_ NB107_109.out _; (with_reducible repeat (first | refine blk_drewN ?_ _ | refine blk_drew ?_ | refine blk_alloc ?_ _)); refine blk_far ?_ NB107_109.out _; (with_reducible repeat (first | refine blk_drewN ?_ _ | refine blk_drew ?_ | refine blk_alloc ?_ _)); exact BK107.out⟩, ⟨by (with_reducible repeat (first | refine blk_drewN ?_ _ | refine blk_drew ?_ | refine blk_alloc ?_ _)); refine blk_put (cs := #[.int .i64 ((rd_T42 l0_2 x38_2).f0), .int .i64 ((rd_T42 l0_2 x38_2).f1), .int .i64 ((rd_T42 l0_2 x38_2).f2), .slice none 0 0]) ?_ 3 _ rfl; (with_reducible repeat (first | refine blk_drewN ?_ _ | refine blk_drew ?_ | refine blk_alloc ?_ _)); refine blk_put (cs := #[.int .i64 ((rd_T42 l0_2 x38_2).f0), .int .i64 ((rd_T42 l0_2 x38_2).f1), .int .i64 0, .slice none 0 0]) ?_ 2 _ rfl; (with_reducible repeat (first | refine blk_drewN ?_ _ | refine blk_drew ?_ | refine blk_alloc ?_ _)); refine blk_put (cs := #[.int .i64 ((rd_T42 l0_2 x38_2).f0), .int .i64 0, .int .i64 0, .slice none 0 0]) ?_ 1 _ rfl; (with_reducible repeat (first | refine blk_drewN ?_ _ | refine blk_drew ?_ | refine blk_alloc ?_ _)); refine blk_put (cs := #[.int .i64 0, .int .i64 0, .int .i64 0, .slice none 0 0]) ?_ 0 _ rfl; (with_reducible repeat (first | refine blk_drewN ?_ _ | refine blk_drew ?_ | refine blk_alloc ?_ _)); exact BK109.out⟩, ⟨bn2 HB GE107 GE109⟩⟩
                  · rw [if_neg c31] at H
                    have c31b0 : decide (1 < ((rd_T42 l0_2 x38_2).f1)) = false := decide_eq_false c31; clear c31
                    by_cases c34 : ((rd_T42 l0_2 x38_2).f2) < 0
                    · rw [if_pos c34] at H
                      have c34b0 : decide (((rd_T42 l0_2 x38_2).f2) < 0) = true := decide_eq_true c34; clear c34; have H' := Aside0.mk H; clear H; have hnb35 := NB109_107.out; have hnc35 := NB107_109.out; obtain ⟨hcz36_0, hcz36_1, hcz36_2, hcz36_3⟩ := cells4 BK109.out; obtain ⟨hfz36_0, hfz36_1, hfz36_2, hfz36_3⟩ := froz4 BK109.out
                      go_wp2
                      go_meet
                      case rel => exact ⟨_, (true), (by first | rfl | (simp; done) | (simp [*]; done)), H', ⟨by have := HJ1.out; have := HK2.out; first | omega | exact Nat.le_refl _⟩, ⟨by (with_reducible repeat (first | refine blk_drewN ?_ _ | refine blk_drew ?_ | refine blk_alloc ?_ _)); refine blk_far ?_ NB107_109.out _; (with_reducible repeat (first | refine blk_drewN ?_ _ | refine blk_drew ?_ | refine blk_alloc ?_ _)); refine blk_far ?_ NB107_109.out _; (with_reducible repeat (first | refine blk_drewN ?_ _ | refine blk_drew ?_ | refine blk_alloc ?_ _)); refine blk_far ?_ NB107_109.out _; (with_reducible repeat (first | refine blk_drewN ?_ _ | refine blk_drew ?_ | refine blk_alloc ?_ _)); refine blk_far ?_ NB107_109.out _; (with_reducible repeat (first | refine blk_drewN ?_ _ | refine blk_drew ?_ | refine blk_alloc ?_ _)); exact BK107.out⟩, ⟨by (with_reducible repeat (first | refine blk_drewN ?_ _ | refine blk_drew ?_ | refine blk_alloc ?_ _)); refine blk_put (cs := #[.int .i64 ((rd_T42 l0_2 x38_2).f0), .int .i64 ((rd_T42 l0_2 x38_2).f1), .int .i64 ((rd_T42 l0_2 x38_2).f2), .slice none 0 0]) ?_ 3 _ rfl; (with_reducible repeat (first | refine blk_drewN ?_ _ | refine blk_drew ?_ | refine blk_alloc ?_ _)); refine blk_put (cs := #[.int .i64 ((rd_T42 l0_2 x38_2).f0), .int .i64 ((rd_T42 l0_2 x38_2).f1), .int .i64 0, .slice none 0 0]) ?_ 2 _ rfl; (with_reducible repeat (first | refine blk_drewN ?_ _ | refine blk_drew ?_ | refine blk_alloc ?_ _)); refine blk_put (cs := #[.int .i64 ((rd_T42 l0_2 x38_2).f0), .int .i64 0, .int .i64 0, .slice none 0 0]) ?_ 1 _ rfl; (with_reducible repeat (first | refine blk_drewN ?_ _ | refine blk_drew ?_ | refine blk_alloc ?_ _)); refine blk_put (cs := #[.int .i64 0, .int .i64 0, .int .i64 0, .slice none 0 0]) ?_ 0 _ rfl; (with_reducible repeat (first | refine blk_drewN ?_ _ | refine blk_drew ?_ | refine blk_alloc ?_ _)); exact BK109.out⟩, ⟨bn2 HB GE107 GE109⟩⟩
                    · rw [if_neg c34] at H
                      have c34b0 : decide (((rd_T42 l0_2 x38_2).f2) < 0) = false := decide_eq_false c34; clear c34
                      by_cases c37 : ((rd_T42 l0_2 x38_2).f2) > (wrap64 (16 - ((rd_T42 l0_2 x38_2).f0)))
                      · rw [if_pos c37] at H
                        have c37b0 : decide ((wrap64 (16 - ((rd_T42 l0_2 x38_2).f0))) < ((rd_T42 l0_2 x38_2).f2)) = true := decide_eq_true c37; clear c37; have H' := Aside0.mk H; clear H; have hnb38 := NB109_107.out; have hnc38 := NB107_109.out; obtain ⟨hcz39_0, hcz39_1, hcz39_2, hcz39_3⟩ := cells4 BK109.out; obtain ⟨hfz39_0, hfz39_1, hfz39_2, hfz39_3⟩ := froz4 BK109.out
                        go_wp2
                        go_meet
                        case rel => exact ⟨_, (true), (by first | rfl | (simp; done) | (simp [*]; done)), H', ⟨by have := HJ1.out; have := HK2.out; first | omega | exact Nat.le_refl _⟩, ⟨by (with_reducible repeat (first | refine blk_drewN ?_ _ | refine blk_drew ?_ | refine blk_alloc ?_ _)); refine blk_far ?_ NB107_109.out _; (with_reducible repeat (first | refine blk_drewN ?_ _ | refine blk_drew ?_ | refine blk_alloc ?_ _)); refine blk_far ?_ NB107_109.out _; (with_reducible repeat (first | refine blk_drewN ?_ _ | refine blk_drew ?_ | refine blk_alloc ?_ _)); refine blk_far ?_ NB107_109.out _; (with_reducible repeat (first | refine blk_drewN ?_ _ | refine blk_drew ?_ | refine blk_alloc ?_ _)); refine blk_far ?_ NB107_109.out _; (with_reducible repeat (first | refine blk_drewN ?_ _ | refine blk_drew ?_ | refine blk_alloc ?_ _)); exact BK107.out⟩, ⟨by (with_reducible repeat (first | refine blk_drewN ?_ _ | refine blk_drew ?_ | refine blk_alloc ?_ _)); refine blk_put (cs := #[.int .i64 ((rd_T42 l0_2 x38_2).f0), .int .i64 ((rd_T42 l0_2 x38_2).f1), .int .i64 ((rd_T42 l0_2 x38_2).f2), .slice none 0 0]) ?_ 3 _ rfl; (with_reducible repeat (first | refine blk_drewN ?_ _ | refine blk_drew ?_ | refine blk_alloc ?_ _)); refine blk_put (cs := #[.int .i64 ((rd_T42 l0_2 x38_2).f0), .int .i64 ((rd_T42 l0_2 x38_2).f1), .int .i64 0, .slice none 0 0]) ?_ 2 _ rfl; (with_reducible repeat (first | refine blk_drewN ?_ _ | refine blk_drew ?_ | refine blk_alloc ?_ _)); refine blk_put (cs := #[.int .i64 ((rd_T42 l0_2 x38_2).f0), .int .i64 0, .int .i64 0, .slice none 0 0]) ?_ 1 _ rfl; (with_reducible repeat (first | refine blk_drewN ?_ _ | refine blk_drew ?_ | refine blk_alloc ?_ _)); refine blk_put (cs := #[.int .i64 0, .int .i64 0, .int .i64 0, .slice none 0 0]) ?_ 0 _ rfl; (with_reducible repeat (first | refine blk_drewN ?_ _ | refine blk_drew ?_ | refine blk_alloc ?_ _)); exact BK109.out⟩, ⟨bn2 HB GE107 GE109⟩⟩
                      · rw [if_neg c37] at H
                        have c37b0 : decide ((wrap64 (16 - ((rd_T42 l0_2 x38_2).f0))) < ((rd_T42 l0_2 x38_2).f2)) = false := decide_eq_false c37; clear c37
                        by_cases c40 : (((rd_T42 l0_2 x38_2).f3).length : Int) < 1
                        · rw [if_pos c40] at H
                          have c40b0 : decide ((((rd_T42 l0_2 x38_2).f3).length : Int) < 1) = true := decide_eq_true c40; have c40b1 : decide (((rd_T42 l0_2 x38_2).f3).length < 1) = true := decide_eq_true (by omega); clear c40; have H' := Aside0.mk H; clear H; have hnb41 := NB109_107.out; have hnc41 := NB107_109.out; obtain ⟨hcz42_0, hcz42_1, hcz42_2, hcz42_3⟩ := cells4 BK109.out; obtain ⟨hfz42_0, hfz42_1, hfz42_2, hfz42_3⟩ := froz4 BK109.out
                          go_wp2
                          go_meet
                          case rel => exact ⟨_, (true), (by first | rfl | (simp; done) | (simp [*]; done)), H', ⟨by have := HJ1.out; have := HK2.out; first | omega | exact Nat.le_refl _⟩, ⟨by (with_reducible repeat (first | refine blk_drewN ?_ _ | refine blk_drew ?_ | refine blk_alloc ?_ _)); refine blk_far ?_ NB107_109.out _; (with_reducible repeat (first | refine blk_drewN ?_ _ | refine blk_drew ?_ | refine blk_alloc ?_ _)); refine blk_far ?_ NB107_109.out _; (with_reducible repeat (first | refine blk_drewN ?_ _ | refine blk_drew ?_ | refine blk_alloc ?_ _)); refine blk_far ?_ NB107_109.out _; (with_reducible repeat (first | refine blk_drewN ?_ _ | refine blk_drew ?_ | refine blk_alloc ?_ _)); refine blk_far ?_ NB107_109.out _; (with_reducible repeat (first | refine blk_drewN ?_ _ | refine blk_drew ?_ | refine blk_alloc ?_ _)); exact BK107.out⟩, ⟨by (with_reducible repeat (first | refine blk_drewN ?_ _ | refine blk_drew ?_ | refine blk_alloc ?_ _)); refine blk_put (cs := #[.int .i64 ((rd_T42 l0_2 x38_2).f0), .int .i64 ((rd_T42 l0_2 x38_2).f1), .int .i64 ((rd_T42 l0_2 x38_2).f2), .slice none 0 0]) ?_ 3 _ rfl; (with_reducible repeat (first | refine blk_drewN ?_ _ | refine blk_drew ?_ | refine blk_alloc ?_ _)); refine blk_put (cs := #[.int .i64 ((rd_T42 l0_2 x38_2).f0), .int .i64 ((rd_T42 l0_2 x38_2).f1), .int .i64 0, .slice none 0 0]) ?_ 2 _ rfl; (with_reducible repeat (first | refine blk_drewN ?_ _ | refine blk_drew ?_ | refine blk_alloc ?_ _)); refine blk_put (cs := #[.int .i64 ((rd_T42 l0_2 x38_2).f0), .int .i64 0, .int .i64 0, .slice none 0 0]) ?_ 1 _ rfl; (with_reducible repeat (first | refine blk_drewN ?_ _ | refine blk_drew ?_ | refine blk_alloc ?_ _)); refine blk_put (cs := #[.int .i64 0, .int .i64 0, .int .i64 0, .slice none 0 0]) ?_ 0 _ rfl; (with_reducible repeat (first | refine blk_drewN ?_ _ | refine blk_drew ?_ | refine blk_alloc ?_ _)); exact BK109.out⟩, ⟨bn2 HB GE107 GE109⟩⟩
                        · rw [if_neg c40] at H
                          have c40b0 : decide ((((rd_T42 l0_2 x38_2).f3).length : Int) < 1) = false := decide_eq_false c40; have c40b1 : decide (((rd_T42 l0_2 x38_2).f3).length < 1) = false := decide_eq_false (by omega); clear c40; have H' := Aside0.mk H; clear H; have hnb43 := NB109_107.out; have hnc43 := NB107_109.out; obtain ⟨hcz44_0, hcz44_1, hcz44_2, hcz44_3⟩ := cells4 BK109.out; obtain ⟨hfz44_0, hfz44_1, hfz44_2, hfz44_3⟩ := froz4 BK109.out
                          go_wp2
                          go_meet
                          case rel => exact ⟨_, (decide ((((rd_T42 l0_2 x38_2).f3).length : Int) > 400)), (by first | rfl | (simp; done) | (simp [*]; done)), H', ⟨by have := HJ1.out; have := HK2.out; first | omega | exact Nat.le_refl _⟩, ⟨by (with_reducible repeat (first | refine blk_drewN ?_ _ | refine blk_drew ?_ | refine blk_alloc ?_ _)); refine blk_far ?_ NB107_109.out _; (with_reducible repeat (first | refine blk_drewN ?_ _ | refine blk_drew ?_ | refine blk_alloc ?_ _)); refine blk_far ?_ NB107_109.out _; (with_reducible repeat (first | refine blk_drewN ?_ _ | refine blk_drew ?_ | refine blk_alloc ?_ _)); refine blk_far ?_ NB107_109.out _; (with_reducible repeat (first | refine blk_drewN ?_ _ | refine blk_drew ?_ | refine blk_alloc ?_ _)); refine blk_far ?_ NB107_109.out _; (with_reducible repeat (first | refine blk_drewN ?_ _ | refine blk_drew ?_ | refine blk_alloc ?_ _)); exact BK107.out⟩, ⟨by (with_reducible repeat (first | refine blk_drewN ?_ _ | refine blk_drew ?_ | refine blk_alloc ?_ _)); refine blk_put (cs := #[.int .i64 ((rd_T42 l0_2 x38_2).f0), .int .i64 ((rd_T42 l0_2 x38_2).f1), .int .i64 ((rd_T42 l0_2 x38_2).f2), .slice none 0 0]) ?_ 3 _ rfl; (with_reducible repeat (first | refine blk_drewN ?_ _ | refine blk_drew ?_ | refine blk_alloc ?_ _)); refine blk_put (cs := #[.int .i64 ((rd_T42 l0_2 x38_2).f0), .int .i64 ((rd_T42 l0_2 x38_2).f1), .int .i64 0, .slice none 0 0]) ?_ 2 _ rfl; (with_reducible repeat (first | refine blk_drewN ?_ _ | refine blk_drew ?_ | refine blk_alloc ?_ _)); refine blk_put (cs := #[.int .i64 ((rd_T42 l0_2 x38_2).f0), .int .i64 0, .int .i64 0, .slice none 0 0]) ?_ 1 _ rfl; (with_reducible repeat (first | refine blk_drewN ?_ _ | refine blk_drew ?_ | refine blk_alloc ?_ _)); refine blk_put (cs := #[.int .i64 0, .int .i64 0, .int .i64 0, .slice none 0 0]) ?_ 0 _ rfl; (with_reducible repeat (first | refine blk_drewN ?_ _ | refine blk_drew ?_ | refine blk_alloc ?_ _)); exact BK109.out⟩, ⟨bn2 HB GE107 GE109⟩⟩
          case rest =>
            clear HC18
            try clear c1
            try clear p1
            try clear q1
            try clear hx1
            try clear c2
            try clear p2
            try clear c3
            try clear c4
            try clear c4b0
            try clear c6
            try clear c6b0
            try clear p6
            try clear c8
            try clear c8b0
            try clear c10
            try clear c10b0
            try clear c10b1
            try clear p10
            try clear q10
            try clear hx10
            try clear c13
            try clear c15
            try clear c15b0
            try clear c16
            try clear c16b0
            try clear c17
            try clear c17b0
            try clear c20
            try clear c22
            try clear c22b0
            try clear c23
            try clear c25
            try clear c25b0
            try clear c26
            try clear c28
            try clear c28b0
            try clear c29
            try clear c31
            try clear c31b0
            try clear c32
            try clear c34
            try clear c34b0
            try clear c35
            try clear c37
            try clear c37b0
            try clear c38
            try clear c40
            try clear c40b0
            try clear c40b1
            try clear c41
            try clear c43
            try clear hcz11_0
            try clear hcz11_1
            try clear hcz11_2
            try clear hcz12_0
            try clear hcz12_1
            try clear hcz12_2
            try clear hcz14_0
            try clear hcz14_1
            try clear hcz14_2
            try clear hcz21_0
            try clear hcz21_1
            try clear hcz21_2
            try clear hcz21_3
            try clear hcz24_0
            try clear hcz24_1
            try clear hcz24_2
            try clear hcz24_3
            try clear hcz27_0
            try clear hcz27_1
            try clear hcz27_2
            try clear hcz27_3
            try clear hcz30_0
            try clear hcz30_1
            try clear hcz30_2
            try clear hcz30_3
            try clear hcz33_0
            try clear hcz33_1
            try clear hcz33_2
            try clear hcz33_3
            try clear hcz36_0
            try clear hcz36_1
            try clear hcz36_2
            try clear hcz36_3
            try clear hcz39_0
            try clear hcz39_1
            try clear hcz39_2
            try clear hcz39_3
            try clear hcz42_0
            try clear hcz42_1
            try clear hcz42_2
            try clear hcz42_3
            try clear hcz44_0
            try clear hcz44_1
            try clear hcz44_2
            try clear hcz44_3
            try clear hcz5_0
            try clear hcz5_1
            try clear hcz5_2
            try clear hcz7_0
            try clear hcz7_1
            try clear hcz7_2
            try clear hcz9_0
            try clear hcz9_1
            try clear hcz9_2
            try clear hfz11_0
            try clear hfz11_1
            try clear hfz11_2
            try clear hfz12_0
            try clear hfz12_1
            try clear hfz12_2
            try clear hfz14_0
            try clear hfz14_1
            try clear hfz14_2
            try clear hfz21_0
            try clear hfz21_1
            try clear hfz21_2
            try clear hfz21_3
            try clear hfz24_0
            try clear hfz24_1
            try clear hfz24_2
            try clear hfz24_3
            try clear hfz27_0
            try clear hfz27_1
            try clear hfz27_2
            try clear hfz27_3
            try clear hfz30_0
            try clear hfz30_1
            try clear hfz30_2
            try clear hfz30_3
            try clear hfz33_0
            try clear hfz33_1
            try clear hfz33_2
            try clear hfz33_3
            try clear hfz36_0
            try clear hfz36_1
            try clear hfz36_2
            try clear hfz36_3
            try clear hfz39_0
            try clear hfz39_1
            try clear hfz39_2
            try clear hfz39_3
            try clear hfz42_0
            try clear hfz42_1
            try clear hfz42_2
            try clear hfz42_3
            try clear hfz44_0
            try clear hfz44_1
            try clear hfz44_2
            try clear hfz44_3
            try clear hfz5_0
            try clear hfz5_1
            try clear hfz5_2
            try clear hfz7_0
            try clear hfz7_1
            try clear hfz7_2
            try clear hfz9_0
            try clear hfz9_1
            try clear hfz9_2
            try clear hx108_0
            try clear hx108_1
            try clear hx108_2
            try clear hx108_3
            try clear p108
            try clear p2
            try clear q108
            obtain ⟨kq, x84_17, rfl, HA, HJ17, BK107, BK109, HB⟩ := hcut
            cases kq with
            | zero => exact absurd HA.out (by simp [module_right.j2])
            | succ kj17 => ?_
            have H := HA.out; clear HA; simp only [module_right.j2] at H
            by_cases c45 : x84_17 = true
            · subst c45
              have H1 : (some false) = some r := by rw [if_pos rfl] at H; exact H
              clear H; have H := H1; clear H1; obtain rfl := Option.some.inj H
              go_wp2
              go_ret
              exact ⟨by first | rfl | (simp [errW_none, errW_some] <;> rfl) | (simp [*, errW_none, errW_some] <;> rfl), bn2 HB GE107 GE109⟩
            · replace c45 := Bool.eq_false_iff.mpr c45
              subst c45
              have H1 : (module_right.l1 kj17 l0_2 (l0_2.length : Int) x38_2 ((rd_T42 l0_2 x38_2).f3) (((rd_T42 l0_2 x38_2).f3).length : Int) 0) = some r := by rw [if_neg (show ¬ (false = true) by decide)] at H; exact H
              clear H; have H := H1; clear H1; have H' := Aside0.mk H; clear H; have hnb46 := NB109_107.out; have hnc46 := NB107_109.out; obtain ⟨hcz47_0, hcz47_1, hcz47_2, hcz47_3⟩ := cells4 BK109.out; obtain ⟨hfz47_0, hfz47_1, hfz47_2, hfz47_3⟩ := froz4 BK109.out
              go_wp2
              go_loopg [88] kj17 (fun kq v88 w' => ∃ (x88_4 : Int), v88 = .int .i64 x88_4 ∧ Aside0 (module_right.l1 kq l0_2 (l0_2.length : Int) x38_2 ((rd_T42 l0_2 x38_2).f3) (((rd_T42 l0_2 x38_2).f3).length : Int) x88_4 = some r) ∧ Aside0 (kq ≤ kj17) ∧ Aside0 (w'.heap[gb107]? = some (.cells #[.int .i64 a0_0, (.slice A0_1 l0_1.length c0_1), (.slice (some ad108) l0_2.length c0_2)] 25 (0, 0))) ∧ Aside0 (w'.heap[gb109]? = some (.cells #[.int .i64 ((rd_T42 l0_2 x38_2).f0), .int .i64 ((rd_T42 l0_2 x38_2).f1), .int .i64 ((rd_T42 l0_2 x38_2).f2), (.slice A108_3 ((rd_T42 l0_2 x38_2).f3).length c108_3)] 42 (0, 0))) ∧ Aside0 (Below w.heap.size w w'))
              case atStart => exact ⟨(0), (by first | rfl | (simp; done) | (simp [*]; done)), H', ⟨Nat.le_refl _⟩, ⟨by (with_reducible repeat (first | refine blk_drewN ?_ _ | refine blk_drew ?_ | refine blk_alloc ?_ _)); exact BK107.out⟩, ⟨by (with_reducible repeat (first | refine blk_drewN ?_ _ | refine blk_drew ?_ | refine blk_alloc ?_ _)); exact BK109.out⟩, ⟨bn2 HB GE107 GE109⟩⟩
              case round =>
                clear H'
                try clear c1
                try clear p1
                try clear q1
                try clear hx1
                try clear c2
                try clear p2
                try clear c3
                try clear c4
                try clear c4b0
                try clear c6
                try clear c6b0
                try clear p6
                try clear c8
                try clear c8b0
                try clear c10
                try clear c10b0
                try clear c10b1
                try clear p10
                try clear q10
                try clear hx10
                try clear c13
                try clear c15
                try clear c15b0
                try clear c16
                try clear c16b0
                try clear c17
                try clear c17b0
                try clear c20
                try clear c22
                try clear c22b0
                try clear c23
                try clear c25
                try clear c25b0
                try clear c26
                try clear c28
                try clear c28b0
                try clear c29
                try clear c31
                try clear c31b0
                try clear c32
                try clear c34
                try clear c34b0
                try clear c35
                try clear c37
                try clear c37b0
                try clear c38
                try clear c40
                try clear c40b0
                try clear c40b1
                try clear c41
                try clear c43
                try clear c45
                try clear c46
                try clear hcz11_0
                try clear hcz11_1
                try clear hcz11_2
                try clear hcz12_0
                try clear hcz12_1
                try clear hcz12_2
                try clear hcz14_0
                try clear hcz14_1
                try clear hcz14_2
                try clear hcz21_0
                try clear hcz21_1
                try clear hcz21_2
                try clear hcz21_3
                try clear hcz24_0
                try clear hcz24_1
                try clear hcz24_2
                try clear hcz24_3
                try clear hcz27_0
                try clear hcz27_1
                try clear hcz27_2
                try clear hcz27_3
                try clear hcz30_0
                try clear hcz30_1
                try clear hcz30_2
                try clear hcz30_3
                try clear hcz33_0
                try clear hcz33_1
                try clear hcz33_2
                try clear hcz33_3
                try clear hcz36_0
                try clear hcz36_1
                try clear hcz36_2
                try clear hcz36_3
                try clear hcz39_0
                try clear hcz39_1
                try clear hcz39_2
                try clear hcz39_3
                try clear hcz42_0
                try clear hcz42_1
                try clear hcz42_2
                try clear hcz42_3
                try clear hcz44_0
                try clear hcz44_1
                try clear hcz44_2
                try clear hcz44_3
                try clear hcz47_0
                try clear hcz47_1
                try clear hcz47_2
                try clear hcz47_3
                try clear hcz5_0
                try clear hcz5_1
                try clear hcz5_2
                try clear hcz7_0
                try clear hcz7_1
                try clear hcz7_2
                try clear hcz9_0
                try clear hcz9_1
                try clear hcz9_2
                try clear hfz11_0
                try clear hfz11_1
                try clear hfz11_2
                try clear hfz12_0
                try clear hfz12_1
                try clear hfz12_2
                try clear hfz14_0
                try clear hfz14_1
                try clear hfz14_2
                try clear hfz21_0
                try clear hfz21_1
                try clear hfz21_2
                try clear hfz21_3
                try clear hfz24_0
                try clear hfz24_1
                try clear hfz24_2
                try clear hfz24_3
                try clear hfz27_0
                try clear hfz27_1
                try clear hfz27_2
                try clear hfz27_3
                try clear hfz30_0
                try clear hfz30_1
                try clear hfz30_2
                try clear hfz30_3
                try clear hfz33_0
                try clear hfz33_1
                try clear hfz33_2
                try clear hfz33_3
                try clear hfz36_0
                try clear hfz36_1
                try clear hfz36_2
                try clear hfz36_3
                try clear hfz39_0
                try clear hfz39_1
                try clear hfz39_2
                try clear hfz39_3
                try clear hfz42_0
                try clear hfz42_1
                try clear hfz42_2
                try clear hfz42_3
                try clear hfz44_0
                try clear hfz44_1
                try clear hfz44_2
                try clear hfz44_3
                try clear hfz47_0
                try clear hfz47_1
                try clear hfz47_2
                try clear hfz47_3
                try clear hfz5_0
                try clear hfz5_1
                try clear hfz5_2
                try clear hfz7_0
                try clear hfz7_1
                try clear hfz7_2
                try clear hfz9_0
                try clear hfz9_1
                try clear hfz9_2
                try clear hx108_0
                try clear hx108_1
                try clear hx108_2
                try clear hx108_3
                try clear p1
                try clear p10
                try clear p108
                try clear p2
                try clear p6
                try clear q1
                try clear q10
                try clear q108
                obtain ⟨x88_4, rfl, HA, HK4, BK107, BK109, HB⟩ := hrel
                cases gk with
                | zero => exact absurd HA.out (by simp [module_right.l1])
                | succ k4 => ?_
                have H := HA.out; clear HA; simp only [module_right.l1] at H
                by_cases c48 : x88_4 < (((rd_T42 l0_2 x38_2).f3).length : Int)
                · rw [if_pos c48] at H
                  have c48b0 : decide (x88_4 < (((rd_T42 l0_2 x38_2).f3).length : Int)) = true := decide_eq_true c48; clear c48
                  by_cases c49 : 0 ≤ x88_4
                  case neg => rw [if_neg c49] at H; exact absurd H (by simp)
                  rw [if_pos c49] at H; have c49b0 : decide (0 ≤ x88_4) = true := decide_eq_true c49; clear c49
                  by_cases c50 : x88_4 < (((rd_T42 l0_2 x38_2).f3).length : Int)
                  case neg => rw [if_neg c50] at H; exact absurd H (by simp)
                  rw [if_pos c50] at H; have c50b0 : decide (x88_4 < (((rd_T42 l0_2 x38_2).f3).length : Int)) = true := decide_eq_true c50; clear c50
                  by_cases c51 : ((rd_T46 ((rd_T42 l0_2 x38_2).f3) x88_4).f0) < 0
                  · rw [if_pos c51] at H
                    have c51b0 : decide (((rd_T46 ((rd_T42 l0_2 x38_2).f3) x88_4).f0) < 0) = true := decide_eq_true c51; clear c51; obtain rfl := Option.some.inj H; have p110 : 0 ≤ (x88_4 : Int) := of_decide_eq_true (by first | (with_reducible assumption) | assumption); have q110 : x88_4 < (((rd_T42 l0_2 x38_2).f3).length : Int) := of_decide_eq_true (by first | (with_reducible assumption) | assumption); obtain ⟨ad110, e110, hx110_0, hx110_1⟩ := at_T46 HR108_3.out x88_4 p110 q110
                    cases e110
                    replace hx110_0 := (HB.out.cell (World.block_lt_of_cell? w _ hx110_0)).trans hx110_0; replace hx110_1 := (HB.out.cell (World.block_lt_of_cell? w _ hx110_1)).trans hx110_1; replace p110 := eq_true p110; replace q110 := eq_true q110
                    go_wp2_with (first | ((with_reducible refine gate_dst (N := 6) rfl ?_); (try (refine gate_guard (by rfl) ?_; dsimp only)); refine box_event ?hg (N := 6) ?hd (cs := #[.int .i64 0, .int .i64 0]) (t := 46) ?hr ?_; (case hd => rfl); (case hg => rfl); (case hr => first | (go_simp; done) | (go_simp; rfl)); intro gb111 hg w52 hbox hb; have n0_ := Aside0.mk (blk_below (g := gb107) (o := .cells #[.int .i64 a0_0, .slice A0_1 l0_1.length c0_1, .slice (some ad108) l0_2.length c0_2] 25 (0, 0)) (bkn BK107) hb); have n1_ := Aside0.mk (blk_below (g := gb109) (o := .cells #[.int .i64 ((rd_T42 l0_2 x38_2).f0), .int .i64 ((rd_T42 l0_2 x38_2).f1), .int .i64 ((rd_T42 l0_2 x38_2).f2), .slice (some ad110) ((rd_T42 l0_2 x38_2).f3).length c108_3] 42 (0, 0)) (bkn BK109) hb); have n2_ := Aside0.mk (below_step (bn2 HB GE107 GE109) hb); have BK111 := Aside0.mk (hbox); have GW111 := Aside0.mk ((by rw [hg]; exact (below_size (bn2 HB GE107 GE109)) : w.heap.size ≤ gb111)); have GE111 := Aside0.mk ((by rw [hg]; exact (below_size (bn2 HB GE107 GE109)) : w.heap.size ≤ gb111)); have NB107_111 := Aside0.mk ((by rw [hg]; exact Nat.ne_of_lt (blk_lt (g := gb107) (o := .cells #[.int .i64 a0_0, .slice A0_1 l0_1.length c0_1, .slice (some ad108) l0_2.length c0_2] 25 (0, 0)) (bkn BK107)) : gb107 ≠ gb111)); have NB111_107 := Aside0.mk ((by rw [hg]; exact Nat.ne_of_gt (blk_lt (g := gb107) (o := .cells #[.int .i64 a0_0, .slice A0_1 l0_1.length c0_1, .slice (some ad108) l0_2.length c0_2] 25 (0, 0)) (bkn BK107)) : gb111 ≠ gb107)); have NB109_111 := Aside0.mk ((by rw [hg]; exact Nat.ne_of_lt (blk_lt (g := gb109) (o := .cells #[.int .i64 ((rd_T42 l0_2 x38_2).f0), .int .i64 ((rd_T42 l0_2 x38_2).f1), .int .i64 ((rd_T42 l0_2 x38_2).f2), .slice (some ad110) ((rd_T42 l0_2 x38_2).f3).length c108_3] 42 (0, 0)) (bkn BK109)) : gb109 ≠ gb111)); have NB111_109 := Aside0.mk ((by rw [hg]; exact Nat.ne_of_gt (blk_lt (g := gb109) (o := .cells #[.int .i64 ((rd_T42 l0_2 x38_2).f0), .int .i64 ((rd_T42 l0_2 x38_2).f1), .int .i64 ((rd_T42 l0_2 x38_2).f2), .slice (some ad110) ((rd_T42 l0_2 x38_2).f3).length c108_3] 42 (0, 0)) (bkn BK109)) : gb111 ≠ gb109)); replace BK107 := n0_; replace BK109 := n1_; replace HB := n2_; clear n0_ n1_ n2_; clear hb hbox hg; have hnb53 := NB111_107.out; have hnc53 := NB107_111.out; have hnb54 := NB111_109.out; have hnc54 := NB109_111.out; obtain ⟨hcz55_0, hcz55_1⟩ := cells2 BK111.out; obtain ⟨hfz55_0, hfz55_1⟩ := froz2 BK111.out))
                    go_ret
                    exact ⟨by first | rfl | (simp [errW_none, errW_some] <;> rfl) | (simp [*, errW_none, errW_some] <;> rfl), bn3 HB GE107 GE109 GE111⟩
                  · rw [if_neg c51] at H
                    have c51b0 : decide (((rd_T46 ((rd_T42 l0_2 x38_2).f3) x88_4).f0) < 0) = false := decide_eq_false c51; clear c51
                    by_cases c56 : ((rd_T46 ((rd_T42 l0_2 x38_2).f3) x88_4).f0) > 29
                    · rw [if_pos c56] at H
                      have c56b0 : decide (29 < ((rd_T46 ((rd_T42 l0_2 x38_2).f3) x88_4).f0)) = true := decide_eq_true c56; clear c56; obtain rfl := Option.some.inj H; have p110 : 0 ≤ (x88_4 : Int) := of_decide_eq_true (by first | (with_reducible assumption) | assumption); have q110 : x88_4 < (((rd_T42 l0_2 x38_2).f3).length : Int) := of_decide_eq_true (by first | (with_reducible assumption) | assumption); obtain ⟨ad110, e110, hx110_0, hx110_1⟩ := at_T46 HR108_3.out x88_4 p110 q110
                      cases e110
                      replace hx110_0 := (HB.out.cell (World.block_lt_of_cell? w _ hx110_0)).trans hx110_0; replace hx110_1 := (HB.out.cell (World.block_lt_of_cell? w _ hx110_1)).trans hx110_1; replace p110 := eq_true p110; replace q110 := eq_true q110
                      go_wp2_with (first | ((with_reducible refine gate_dst (N := 6) rfl ?_); (try (refine gate_guard (by rfl) ?_; dsimp only)); refine box_event ?hg (N := 6) ?hd (cs := #[.int .i64 0, .int .i64 0]) (t := 46) ?hr ?_; (case hd => rfl); (case hg => rfl); (case hr => first | (go_simp; done) | (go_simp; rfl)); intro gb111 hg w57 hbox hb; have n0_ := Aside0.mk (blk_below (g := gb107) (o := .cells #[.int .i64 a0_0, .slice A0_1 l0_1.length c0_1, .slice (some ad108) l0_2.length c0_2] 25 (0, 0)) (bkn BK107) hb); have n1_ := Aside0.mk (blk_below (g := gb109) (o := .cells #[.int .i64 ((rd_T42 l0_2 x38_2).f0), .int .i64 ((rd_T42 l0_2 x38_2).f1), .int .i64 ((rd_T42 l0_2 x38_2).f2), .slice (some ad110) ((rd_T42 l0_2 x38_2).f3).length c108_3] 42 (0, 0)) (bkn BK109) hb); have n2_ := Aside0.mk (below_step (bn2 HB GE107 GE109) hb); have BK111 := Aside0.mk (hbox); have GW111 := Aside0.mk ((by rw [hg]; exact (below_size (bn2 HB GE107 GE109)) : w.heap.size ≤ gb111)); have GE111 := Aside0.mk ((by rw [hg]; exact (below_size (bn2 HB GE107 GE109)) : w.heap.size ≤ gb111)); have NB107_111 := Aside0.mk ((by rw [hg]; exact Nat.ne_of_lt (blk_lt (g := gb107) (o := .cells #[.int .i64 a0_0, .slice A0_1 l0_1.length c0_1, .slice (some ad108) l0_2.length c0_2] 25 (0, 0)) (bkn BK107)) : gb107 ≠ gb111)); have NB111_107 := Aside0.mk ((by rw [hg]; exact Nat.ne_of_gt (blk_lt (g := gb107) (o := .cells #[.int .i64 a0_0, .slice A0_1 l0_1.length c0_1, .slice (some ad108) l0_2.length c0_2] 25 (0, 0)) (bkn BK107)) : gb111 ≠ gb107)); have NB109_111 := Aside0.mk ((by rw [hg]; exact Nat.ne_of_lt (blk_lt (g := gb109) (o := .cells #[.int .i64 ((rd_T42 l0_2 x38_2).f0), .int .i64 ((rd_T42 l0_2 x38_2).f1), .int .i64 ((rd_T42 l0_2 x38_2).f2), .slice (some ad110) ((rd_T42 l0_2 x38_2).f3).length c108_3] 42 (0, 0)) (bkn BK109)) : gb109 ≠ gb111)); have NB111_109 := Aside0.mk ((by rw [hg]; exact Nat.ne_of_gt (blk_lt (g := gb109) (o := .cells #[.int .i64 ((rd_T42 l0_2 x38_2).f0), .int .i64 ((rd_T42 l0_2 x38_2).f1), .int .i64 ((rd_T42 l0_2 x38_2).f2), .slice (some ad110) ((rd_T42 l0_2 x38_2).f3).length c108_3] 42 (0, 0)) (bkn BK109)) : gb111 ≠ gb109)); replace BK107 := n0_; replace BK109 := n1_; replace HB := n2_; clear n0_ n1_ n2_; clear hb hbox hg; have hnb58 := NB111_107.out; have hnc58 := NB107_111.out; have hnb59 := NB111_109.out; have hnc59 := NB109_111.out; obtain ⟨hcz60_0, hcz60_1⟩ := cells2 BK111.out; obtain ⟨hfz60_0, hfz60_1⟩ := froz2 BK111.out))
                      go_ret
                      exact ⟨by first | rfl | (simp [errW_none, errW_some] <;> rfl) | (simp [*, errW_none, errW_some] <;> rfl), bn3 HB GE107 GE109 GE111⟩
                    · rw [if_neg c56] at H
                      have c56b0 : decide (29 < ((rd_T46 ((rd_T42 l0_2 x38_2).f3) x88_4).f0)) = false := decide_eq_false c56; clear c56; replace H := Option.bind_eq_some_iff.mp H; obtain ⟨t112, A610, H⟩ := H; replace H : (if t112 = true then (module_right.l1 k4 l0_2 (l0_2.length : Int) x38_2 ((rd_T42 l0_2 x38_2).f3) (((rd_T42 l0_2 x38_2).f3).length : Int) (wrap64 (x88_4 + 1))) else (if ((rd_T46 ((rd_T42 l0_2 x38_2).f3) x88_4).f1) = 0 then (module_right.l1 k4 l0_2 (l0_2.length : Int) x38_2 ((rd_T42 l0_2 x38_2).f3) (((rd_T42 l0_2 x38_2).f3).length : Int) (wrap64 (x88_4 + 1))) else (some false))) = some r := H; have A61 := Aside0.mk A610; clear A610
                      by_cases c62 : t112 = true
                      · subst c62
                        have H1 : (module_right.l1 k4 l0_2 (l0_2.length : Int) x38_2 ((rd_T42 l0_2 x38_2).f3) (((rd_T42 l0_2 x38_2).f3).length : Int) (wrap64 (x88_4 + 1))) = some r := by rw [if_pos rfl] at H; exact H
                        clear H; have H := H1; clear H1; have H' := Aside0.mk H; clear H; have p110 : 0 ≤ (x88_4 : Int) := of_decide_eq_true (by first | (with_reducible assumption) | assumption); have q110 : x88_4 < (((rd_T42 l0_2 x38_2).f3).length : Int) := of_decide_eq_true (by first | (with_reducible assumption) | assumption); obtain ⟨ad110, e110, hx110_0, hx110_1⟩ := at_T46 HR108_3.out x88_4 p110 q110
                        cases e110
                        replace hx110_0 := (HB.out.cell (World.block_lt_of_cell? w _ hx110_0)).trans hx110_0; replace hx110_1 := (HB.out.cell (World.block_lt_of_cell? w _ hx110_1)).trans hx110_1; replace p110 := eq_true p110; replace q110 := eq_true q110
                        go_wp2_with (first | ((with_reducible refine gate_dst (N := 6) rfl ?_); (try (refine gate_guard (by rfl) ?_; dsimp only)); refine box_event ?hg (N := 6) ?hd (cs := #[.int .i64 0, .int .i64 0]) (t := 46) ?hr ?_; (case hd => rfl); (case hg => rfl); (case hr => first | (go_simp; done) | (go_simp; rfl)); intro gb111 hg w63 hbox hb; have n0_ := Aside0.mk (blk_below (g := gb107) (o := .cells #[.int .i64 a0_0, .slice A0_1 l0_1.length c0_1, .slice (some ad108) l0_2.length c0_2] 25 (0, 0)) (bkn BK107) hb); have n1_ := Aside0.mk (blk_below (g := gb109) (o := .cells #[.int .i64 ((rd_T42 l0_2 x38_2).f0), .int .i64 ((rd_T42 l0_2 x38_2).f1), .int .i64 ((rd_T42 l0_2 x38_2).f2), .slice (some ad110) ((rd_T42 l0_2 x38_2).f3).length c108_3] 42 (0, 0)) (bkn BK109) hb); have n2_ := Aside0.mk (below_step (bn2 HB GE107 GE109) hb); have BK111 := Aside0.mk (hbox); have GW111 := Aside0.mk ((by rw [hg]; exact (below_size (bn2 HB GE107 GE109)) : w.heap.size ≤ gb111)); have GE111 := Aside0.mk ((by rw [hg]; exact (below_size (bn2 HB GE107 GE109)) : w.heap.size ≤ gb111)); have NB107_111 := Aside0.mk ((by rw [hg]; exact Nat.ne_of_lt (blk_lt (g := gb107) (o := .cells #[.int .i64 a0_0, .slice A0_1 l0_1.length c0_1, .slice (some ad108) l0_2.length c0_2] 25 (0, 0)) (bkn BK107)) : gb107 ≠ gb111)); have NB111_107 := Aside0.mk ((by rw [hg]; exact Nat.ne_of_gt (blk_lt (g := gb107) (o := .cells #[.int .i64 a0_0, .slice A0_1 l0_1.length c0_1, .slice (some ad108) l0_2.length c0_2] 25 (0, 0)) (bkn BK107)) : gb111 ≠ gb107)); have NB109_111 := Aside0.mk ((by rw [hg]; exact Nat.ne_of_lt (blk_lt (g := gb109) (o := .cells #[.int .i64 ((rd_T42 l0_2 x38_2).f0), .int .i64 ((rd_T42 l0_2 x38_2).f1), .int .i64 ((rd_T42 l0_2 x38_2).f2), .slice (some ad110) ((rd_T42 l0_2 x38_2).f3).length c108_3] 42 (0, 0)) (bkn BK109)) : gb109 ≠ gb111)); have NB111_109 := Aside0.mk ((by rw [hg]; exact Nat.ne_of_gt (blk_lt (g := gb109) (o := .cells #[.int .i64 ((rd_T42 l0_2 x38_2).f0), .int .i64 ((rd_T42 l0_2 x38_2).f1), .int .i64 ((rd_T42 l0_2 x38_2).f2), .slice (some ad110) ((rd_T42 l0_2 x38_2).f3).length c108_3] 42 (0, 0)) (bkn BK109)) : gb111 ≠ gb109)); replace BK107 := n0_; replace BK109 := n1_; replace HB := n2_; clear n0_ n1_ n2_; clear hb hbox hg; have hnb64 := NB111_107.out; have hnc64 := NB107_111.out; have hnb65 := NB111_109.out; have hnc65 := NB109_111.out; obtain ⟨hcz66_0, hcz66_1⟩ := cells2 BK111.out; obtain ⟨hfz66_0, hfz66_1⟩ := froz2 BK111.out) | (go_at_call 17; (with_reducible refine (module_Has.calls k4 ((rd_T46 ((rd_T42 l0_2 x38_2).f3) x88_4).f0) true _ A61.out).mono ?_); rintro e w67 ⟨rfl, hb⟩; replace BK107 := Aside0.mk (blk_below (g := gb107) (o := .cells #[.int .i64 a0_0, .slice A0_1 l0_1.length c0_1, .slice (some ad108) l0_2.length c0_2] 25 (0, 0)) (by (with_reducible repeat (first | refine blk_drewN ?_ _ | refine blk_drew ?_ | refine blk_alloc ?_ _)); refine blk_far ?_ NB107_111.out _; (with_reducible repeat (first | refine blk_drewN ?_ _ | refine blk_drew ?_ | refine blk_alloc ?_ _)); refine blk_far ?_ NB107_111.out _; (with_reducible repeat (first | refine blk_drewN ?_ _ | refine blk_drew ?_ | refine blk_alloc ?_ _)); exact BK107.out) hb); replace BK109 := Aside0.mk (blk_below (g := gb109) (o := .cells #[.int .i64 ((rd_T42 l0_2 x38_2).f0), .int .i64 ((rd_T42 l0_2 x38_2).f1), .int .i64 ((rd_T42 l0_2 x38_2).f2), .slice (some ad110) ((rd_T42 l0_2 x38_2).f3).length c108_3] 42 (0, 0)) (by (with_reducible repeat (first | refine blk_drewN ?_ _ | refine blk_drew ?_ | refine blk_alloc ?_ _)); refine blk_far ?_ NB109_111.out _; (with_reducible repeat (first | refine blk_drewN ?_ _ | refine blk_drew ?_ | refine blk_alloc ?_ _)); refine blk_far ?_ NB109_111.out _; (with_reducible repeat (first | refine blk_drewN ?_ _ | refine blk_drew ?_ | refine blk_alloc ?_ _)); exact BK109.out) hb); replace BK111 := Aside0.mk (blk_below (g := gb111) (o := .cells #[.int .i64 ((rd_T46 ((rd_T42 l0_2 x38_2).f3) x88_4).f0), .int .i64 ((rd_T46 ((rd_T42 l0_2 x38_2).f3) x88_4).f1)] 46 (0, 0)) (by (with_reducible repeat (first | refine blk_drewN ?_ _ | refine blk_drew ?_ | refine blk_alloc ?_ _)); refine blk_put (cs := #[.int .i64 ((rd_T46 ((rd_T42 l0_2 x38_2).f3) x88_4).f0), .int .i64 0]) ?_ 1 _ rfl; (with_reducible repeat (first | refine blk_drewN ?_ _ | refine blk_drew ?_ | refine blk_alloc ?_ _)); refine blk_put (cs := #[.int .i64 0, .int .i64 0]) ?_ 0 _ rfl; (with_reducible repeat (first | refine blk_drewN ?_ _ | refine blk_drew ?_ | refine blk_alloc ?_ _)); exact BK111.out) hb); replace HB := Aside0.mk (below_step (bn3 HB GE107 GE109 GE111) hb); (try clear hb)))
                        go_roundg k4
                        case measure => have := HJ1.out; have := HK2.out; have := HJ17.out; have := HK4.out; omega
                        case rel => exact ⟨(wrap64 (x88_4 + 1)), (by first | rfl | (simp; done) | (simp [*]; done)), H', ⟨by have := HJ1.out; have := HK2.out; have := HJ17.out; have := HK4.out; omega⟩, ⟨by (with_reducible repeat (first | refine blk_drewN ?_ _ | refine blk_drew ?_ | refine blk_alloc ?_ _)); exact BK107.out⟩, ⟨by (with_reducible repeat (first | refine blk_drewN ?_ _ | refine blk_drew ?_ | refine blk_alloc ?_ _)); exact BK109.out⟩, ⟨bn3 HB GE107 GE109 GE111⟩⟩
                      · replace c62 := Bool.eq_false_iff.mpr c62
                        subst c62
                        have H1 : (if ((rd_T46 ((rd_T42 l0_2 x38_2).f3) x88_4).f1) = 0 then (module_right.l1 k4 l0_2 (l0_2.length : Int) x38_2 ((rd_T42 l0_2 x38_2).f3) (((rd_T42 l0_2 x38_2).f3).length : Int) (wrap64 (x88_4 + 1))) else (some false)) = some r := by rw [if_neg (show ¬ (false = true) by decide)] at H; exact H
                        clear H; have H := H1; clear H1
                        by_cases c68 : ((rd_T46 ((rd_T42 l0_2 x38_2).f3) x88_4).f1) = 0
                        · rw [if_pos c68] at H
                          have c68b0 : (((rd_T46 ((rd_T42 l0_2 x38_2).f3) x88_4).f1) == 0) = true := beq_iff_eq.mpr c68; have c68b1 : (((rd_T46 ((rd_T42 l0_2 x38_2).f3) x88_4).f1) != 0) = false := bne_eq_false_iff_eq.mpr c68; clear c68; have H' := Aside0.mk H; clear H; have p110 : 0 ≤ (x88_4 : Int) := of_decide_eq_true (by first | (with_reducible assumption) | assumption); have q110 : x88_4 < (((rd_T42 l0_2 x38_2).f3).length : Int) := of_decide_eq_true (by first | (with_reducible assumption) | assumption); obtain ⟨ad110, e110, hx110_0, hx110_1⟩ := at_T46 HR108_3.out x88_4 p110 q110
                          cases e110
                          replace hx110_0 := (HB.out.cell (World.block_lt_of_cell? w _ hx110_0)).trans hx110_0; replace hx110_1 := (HB.out.cell (World.block_lt_of_cell? w _ hx110_1)).trans hx110_1; replace p110 := eq_true p110; replace q110 := eq_true q110
                          go_wp2_with (first | ((with_reducible refine gate_dst (N := 6) rfl ?_); (try (refine gate_guard (by rfl) ?_; dsimp only)); refine box_event ?hg (N := 6) ?hd (cs := #[.int .i64 0, .int .i64 0]) (t := 46) ?hr ?_; (case hd => rfl); (case hg => rfl); (case hr => first | (go_simp; done) | (go_simp; rfl)); intro gb111 hg w69 hbox hb; have n0_ := Aside0.mk (blk_below (g := gb107) (o := .cells #[.int .i64 a0_0, .slice A0_1 l0_1.length c0_1, .slice (some ad108) l0_2.length c0_2] 25 (0, 0)) (bkn BK107) hb); have n1_ := Aside0.mk (blk_below (g := gb109) (o := .cells #[.int .i64 ((rd_T42 l0_2 x38_2).f0), .int .i64 ((rd_T42 l0_2 x38_2).f1), .int .i64 ((rd_T42 l0_2 x38_2).f2), .slice (some ad110) ((rd_T42 l0_2 x38_2).f3).length c108_3] 42 (0, 0)) (bkn BK109) hb); have n2_ := Aside0.mk (below_step (bn2 HB GE107 GE109) hb); have BK111 := Aside0.mk (hbox); have GW111 := Aside0.mk ((by rw [hg]; exact (below_size (bn2 HB GE107 GE109)) : w.heap.size ≤ gb111)); have GE111 := Aside0.mk ((by rw [hg]; exact (below_size (bn2 HB GE107 GE109)) : w.heap.size ≤ gb111)); have NB107_111 := Aside0.mk ((by rw [hg]; exact Nat.ne_of_lt (blk_lt (g := gb107) (o := .cells #[.int .i64 a0_0, .slice A0_1 l0_1.length c0_1, .slice (some ad108) l0_2.length c0_2] 25 (0, 0)) (bkn BK107)) : gb107 ≠ gb111)); have NB111_107 := Aside0.mk ((by rw [hg]; exact Nat.ne_of_gt (blk_lt (g := gb107) (o := .cells #[.int .i64 a0_0, .slice A0_1 l0_1.length c0_1, .slice (some ad108) l0_2.length c0_2] 25 (0, 0)) (bkn BK107)) : gb111 ≠ gb107)); have NB109_111 := Aside0.mk ((by rw [hg]; exact Nat.ne_of_lt (blk_lt (g := gb109) (o := .cells #[.int .i64 ((rd_T42 l0_2 x38_2).f0), .int .i64 ((rd_T42 l0_2 x38_2).f1), .int .i64 ((rd_T42 l0_2 x38_2).f2), .slice (some ad110) ((rd_T42 l0_2 x38_2).f3).length c108_3] 42 (0, 0)) (bkn BK109)) : gb109 ≠ gb111)); have NB111_109 := Aside0.mk ((by rw [hg]; exact Nat.ne_of_gt (blk_lt (g := gb109) (o := .cells #[.int .i64 ((rd_T42 l0_2 x38_2).f0), .int .i64 ((rd_T42 l0_2 x38_2).f1), .int .i64 ((rd_T42 l0_2 x38_2).f2), .slice (some ad110) ((rd_T42 l0_2 x38_2).f3).length c108_3] 42 (0, 0)) (bkn BK109)) : gb111 ≠ gb109)); replace BK107 := n0_; replace BK109 := n1_; replace HB := n2_; clear n0_ n1_ n2_; clear hb hbox hg; have hnb70 := NB111_107.out; have hnc70 := NB107_111.out; have hnb71 := NB111_109.out; have hnc71 := NB109_111.out; obtain ⟨hcz72_0, hcz72_1⟩ := cells2 BK111.out; obtain ⟨hfz72_0, hfz72_1⟩ := froz2 BK111.out) | (go_at_call 17; (with_reducible refine (module_Has.calls k4 ((rd_T46 ((rd_T42 l0_2 x38_2).f3) x88_4).f0) false _ A61.out).mono ?_); rintro e w73 ⟨rfl, hb⟩; replace BK107 := Aside0.mk (blk_below (g := gb107) (o := .cells #[.int .i64 a0_0, .slice A0_1 l0_1.length c0_1, .slice (some ad108) l0_2.length c0_2] 25 (0, 0)) (by (with_reducible repeat (first | refine blk_drewN ?_ _ | refine blk_drew ?_ | refine blk_alloc ?_ _)); refine blk_far ?_ NB107_111.out _; (with_reducible repeat (first | refine blk_drewN ?_ _ | refine blk_drew ?_ | refine blk_alloc ?_ _)); refine blk_far ?_ NB107_111.out _; (with_reducible repeat (first | refine blk_drewN ?_ _ | refine blk_drew ?_ | refine blk_alloc ?_ _)); exact BK107.out) hb); replace BK109 := Aside0.mk (blk_below (g := gb109) (o := .cells #[.int .i64 ((rd_T42 l0_2 x38_2).f0), .int .i64 ((rd_T42 l0_2 x38_2).f1), .int .i64 ((rd_T42 l0_2 x38_2).f2), .slice (some ad110) ((rd_T42 l0_2 x38_2).f3).length c108_3] 42 (0, 0)) (by (with_reducible repeat (first | refine blk_drewN ?_ _ | refine blk_drew ?_ | refine blk_alloc ?_ _)); refine blk_far ?_ NB109_111.out _; (with_reducible repeat (first | refine blk_drewN ?_ _ | refine blk_drew ?_ | refine blk_alloc ?_ _)); refine blk_far ?_ NB109_111.out _; (with_reducible repeat (first | refine blk_drewN ?_ _ | refine blk_drew ?_ | refine blk_alloc ?_ _)); exact BK109.out) hb); replace BK111 := Aside0.mk (blk_below (g := gb111) (o := .cells #[.int .i64 ((rd_T46 ((rd_T42 l0_2 x38_2).f3) x88_4).f0), .int .i64 ((rd_T46 ((rd_T42 l0_2 x38_2).f3) x88_4).f1)] 46 (0, 0)) (by (with_reducible repeat (first | refine blk_drewN ?_ _ | refine blk_drew ?_ | refine blk_alloc ?_ _)); refine blk_put (cs := #[.int .i64 ((rd_T46 ((rd_T42 l0_2 x38_2).f3) x88_4).f0), .int .i64 0]) ?_ 1 _ rfl; (with_reducible repeat (first | refine blk_drewN ?_ _ | refine blk_drew ?_ | refine blk_alloc ?_ _)); refine blk_put (cs := #[.int .i64 0, .int .i64 0]) ?_ 0 _ rfl; (with_reducible repeat (first | refine blk_drewN ?_ _ | refine blk_drew ?_ | refine blk_alloc ?_ _)); exact BK111.out) hb); replace HB := Aside0.mk (below_step (bn3 HB GE107 GE109 GE111) hb); (try clear hb); obtain ⟨hcz74_0, hcz74_1⟩ := cells2 BK111.out; obtain ⟨hfz74_0, hfz74_1⟩ := froz2 BK111.out))
                          go_roundg k4
                          case measure => have := HJ1.out; have := HK2.out; have := HJ17.out; have := HK4.out; omega
                          case rel => exact ⟨(wrap64 (x88_4 + 1)), (by first | rfl | (simp; done) | (simp [*]; done)), H', ⟨by have := HJ1.out; have := HK2.out; have := HJ17.out; have := HK4.out; omega⟩, ⟨by (with_reducible repeat (first | refine blk_drewN ?_ _ | refine blk_drew ?_ | refine blk_alloc ?_ _)); exact BK107.out⟩, ⟨by (with_reducible repeat (first | refine blk_drewN ?_ _ | refine blk_drew ?_ | refine blk_alloc ?_ _)); exact BK109.out⟩, ⟨bn3 HB GE107 GE109 GE111⟩⟩
                        · rw [if_neg c68] at H
                          have c68b0 : (((rd_T46 ((rd_T42 l0_2 x38_2).f3) x88_4).f1) == 0) = false := beq_eq_false_iff_ne.mpr c68; have c68b1 : (((rd_T46 ((rd_T42 l0_2 x38_2).f3) x88_4).f1) != 0) = true := bne_iff_ne.mpr c68; obtain rfl := Option.some.inj H; have p110 : 0 ≤ (x88_4 : Int) := of_decide_eq_true (by first | (with_reducible assumption) | assumption); have q110 : x88_4 < (((rd_T42 l0_2 x38_2).f3).length : Int) := of_decide_eq_true (by first | (with_reducible assumption) | assumption); obtain ⟨ad110, e110, hx110_0, hx110_1⟩ := at_T46 HR108_3.out x88_4 p110 q110
                          cases e110
                          replace hx110_0 := (HB.out.cell (World.block_lt_of_cell? w _ hx110_0)).trans hx110_0; replace hx110_1 := (HB.out.cell (World.block_lt_of_cell? w _ hx110_1)).trans hx110_1; replace p110 := eq_true p110; replace q110 := eq_true q110
                          go_wp2_with (first | ((with_reducible refine gate_dst (N := 6) rfl ?_); (try (refine gate_guard (by rfl) ?_; dsimp only)); refine box_event ?hg (N := 6) ?hd (cs := #[.int .i64 0, .int .i64 0]) (t := 46) ?hr ?_; (case hd => rfl); (case hg => rfl); (case hr => first | (go_simp; done) | (go_simp; rfl)); intro gb111 hg w75 hbox hb; have n0_ := Aside0.mk (blk_below (g := gb107) (o := .cells #[.int .i64 a0_0, .slice A0_1 l0_1.length c0_1, .slice (some ad108) l0_2.length c0_2] 25 (0, 0)) (bkn BK107) hb); have n1_ := Aside0.mk (blk_below (g := gb109) (o := .cells #[.int .i64 ((rd_T42 l0_2 x38_2).f0), .int .i64 ((rd_T42 l0_2 x38_2).f1), .int .i64 ((rd_T42 l0_2 x38_2).f2), .slice (some ad110) ((rd_T42 l0_2 x38_2).f3).length c108_3] 42 (0, 0)) (bkn BK109) hb); have n2_ := Aside0.mk (below_step (bn2 HB GE107 GE109) hb); have BK111 := Aside0.mk (hbox); have GW111 := Aside0.mk ((by rw [hg]; exact (below_size (bn2 HB GE107 GE109)) : w.heap.size ≤ gb111)); have GE111 := Aside0.mk ((by rw [hg]; exact (below_size (bn2 HB GE107 GE109)) : w.heap.size ≤ gb111)); have NB107_111 := Aside0.mk ((by rw [hg]; exact Nat.ne_of_lt (blk_lt (g := gb107) (o := .cells #[.int .i64 a0_0, .slice A0_1 l0_1.length c0_1, .slice (some ad108) l0_2.length c0_2] 25 (0, 0)) (bkn BK107)) : gb107 ≠ gb111)); have NB111_107 := Aside0.mk ((by rw [hg]; exact Nat.ne_of_gt (blk_lt (g := gb107) (o := .cells #[.int .i64 a0_0, .slice A0_1 l0_1.length c0_1, .slice (some ad108) l0_2.length c0_2] 25 (0, 0)) (bkn BK107)) : gb111 ≠ gb107)); have NB109_111 := Aside0.mk ((by rw [hg]; exact Nat.ne_of_lt (blk_lt (g := gb109) (o := .cells #[.int .i64 ((rd_T42 l0_2 x38_2).f0), .int .i64 ((rd_T42 l0_2 x38_2).f1), .int .i64 ((rd_T42 l0_2 x38_2).f2), .slice (some ad110) ((rd_T42 l0_2 x38_2).f3).length c108_3] 42 (0, 0)) (bkn BK109)) : gb109 ≠ gb111)); have NB111_109 := Aside0.mk ((by rw [hg]; exact Nat.ne_of_gt (blk_lt (g := gb109) (o := .cells #[.int .i64 ((rd_T42 l0_2 x38_2).f0), .int .i64 ((rd_T42 l0_2 x38_2).f1), .int .i64 ((rd_T42 l0_2 x38_2).f2), .slice (some ad110) ((rd_T42 l0_2 x38_2).f3).length c108_3] 42 (0, 0)) (bkn BK109)) : gb111 ≠ gb109)); replace BK107 := n0_; replace BK109 := n1_; replace HB := n2_; clear n0_ n1_ n2_; clear hb hbox hg; have hnb76 := NB111_107.out; have hnc76 := NB107_111.out; have hnb77 := NB111_109.out; have hnc77 := NB109_111.out; obtain ⟨hcz78_0, hcz78_1⟩ := cells2 BK111.out; obtain ⟨hfz78_0, hfz78_1⟩ := froz2 BK111.out) | (go_at_call 17; (with_reducible refine (module_Has.calls k4 ((rd_T46 ((rd_T42 l0_2 x38_2).f3) x88_4).f0) false _ A61.out).mono ?_); rintro e w79 ⟨rfl, hb⟩; replace BK107 := Aside0.mk (blk_below (g := gb107) (o := .cells #[.int .i64 a0_0, .slice A0_1 l0_1.length c0_1, .slice (some ad108) l0_2.length c0_2] 25 (0, 0)) (by (with_reducible repeat (first | refine blk_drewN ?_ _ | refine blk_drew ?_ | refine blk_alloc ?_ _)); refine blk_far ?_ NB107_111.out _; (with_reducible repeat (first | refine blk_drewN ?_ _ | refine blk_drew ?_ | refine blk_alloc ?_ _)); refine blk_far ?_ NB107_111.out _; (with_reducible repeat (first | refine blk_drewN ?_ _ | refine blk_drew ?_ | refine blk_alloc ?_ _)); exact BK107.out) hb); replace BK109 := Aside0.mk (blk_below (g := gb109) (o := .cells #[.int .i64 ((rd_T42 l0_2 x38_2).f0), .int .i64 ((rd_T42 l0_2 x38_2).f1), .int .i64 ((rd_T42 l0_2 x38_2).f2), .slice (some ad110) ((rd_T42 l0_2 x38_2).f3).length c108_3] 42 (0, 0)) (by (with_reducible repeat (first | refine blk_drewN ?_ _ | refine blk_drew ?_ | refine blk_alloc ?_ _)); refine blk_far ?_ NB109_111.out _; (with_reducible repeat (first | refine blk_drewN ?_ _ | refine blk_drew ?_ | refine blk_alloc ?_ _)); refine blk_far ?_ NB109_111.out _; (with_reducible repeat (first | refine blk_drewN ?_ _ | refine blk_drew ?_ | refine blk_alloc ?_ _)); exact BK109.out) hb); replace BK111 := Aside0.mk (blk_below (g := gb111) (o := .cells #[.int .i64 ((rd_T46 ((rd_T42 l0_2 x38_2).f3) x88_4).f0), .int .i64 ((rd_T46 ((rd_T42 l0_2 x38_2).f3) x88_4).f1)] 46 (0, 0)) (by (with_reducible repeat (first | refine blk_drewN ?_ _ | refine blk_drew ?_ | refine blk_alloc ?_ _)); refine blk_put (cs := #[.int .i64 ((rd_T46 ((rd_T42 l0_2 x38_2).f3) x88_4).f0), .int .i64 0]) ?_ 1 _ rfl; (with_reducible repeat (first | refine blk_drewN ?_ _ | refine blk_drew ?_ | refine blk_alloc ?_ _)); refine blk_put (cs := #[.int .i64 0, .int .i64 0]) ?_ 0 _ rfl; (with_reducible repeat (first | refine blk_drewN ?_ _ | refine blk_drew ?_ | refine blk_alloc ?_ _)); exact BK111.out) hb); replace HB := Aside0.mk (below_step (bn3 HB GE107 GE109 GE111) hb); (try clear hb); obtain ⟨hcz80_0, hcz80_1⟩ := cells2 BK111.out; obtain ⟨hfz80_0, hfz80_1⟩ := froz2 BK111.out))
                          go_ret
                          exact ⟨by first | rfl | (simp [errW_none, errW_some] <;> rfl) | (simp [*, errW_none, errW_some] <;> rfl), bn3 HB GE107 GE109 GE111⟩
                · rw [if_neg c48] at H
                  have c48b0 : decide (x88_4 < (((rd_T42 l0_2 x38_2).f3).length : Int)) = false := decide_eq_false c48; clear c48; have H' := Aside0.mk H; clear H
                  go_wp2
                  go_roundg k4
                  case measure => have := HJ1.out; have := HK2.out; have := HJ17.out; have := HK4.out; omega
                  case rel => exact ⟨(wrap64 (x38_2 + 1)), (by first | rfl | (simp; done) | (simp [*]; done)), H', ⟨by have := HJ1.out; have := HK2.out; have := HJ17.out; have := HK4.out; omega⟩, ⟨by (with_reducible repeat (first | refine blk_drewN ?_ _ | refine blk_drew ?_ | refine blk_alloc ?_ _)); exact BK107.out⟩, ⟨bn2 HB GE107 GE109⟩⟩
        · rw [if_neg c15] at H
          have c15b0 : decide (x38_2 < (l0_2.length : Int)) = false := decide_eq_false c15; clear c15; obtain rfl := Option.some.inj H
          go_wp2
          go_ret
          exact ⟨by first | rfl | (simp [errW_none, errW_some] <;> rfl) | (simp [*, errW_none, errW_some] <;> rfl), bn1 HB GE107⟩

end Go.Proofs.Ytgngbbkaghmnpaa.Q
