-- written by a program of this session after the way of the kit's print; not the kit's own print. Lean checks it.
import Derived.Test.YthllpilgfipkpaaQx0
import Derived.Test.YthllpilgfipkpaaQx10
namespace Go.Proofs.Ythllpilgfipkpaa.Q
open Go.RowKit Go.Proofs.YthllpilgfipkpaaW.PrintWords Go.Proofs.YthllpilgfipkpaaW.PrintLast Go.Proofs.YthllpilgfipkpaaW.PrintMore
attribute [local go_sem] max2_int min2_int max_two min_two max_three min_three max_four min_four   -- for this text's walks alone
set_option linter.unusedVariables false
set_option linter.unusedSimpArgs false

/-! ### casementref09_Least: function 42 -/
mutual
def casementref09_Least.l0 : Nat → List (S70) → Int → Int → Option (Int)
  | 0, _, _, _ => none
  | k + 1, x0, x3, x4 => if x4 < (x0.length : Int) then (casementref09_Least.j1 k x0 x3 x4 (decide (x4 < 16))) else (casementref09_Least.j1 k x0 x3 x4 false)
def casementref09_Least.j1 : Nat → List (S70) → Int → Int → Bool → Option (Int)
  | 0, _, _, _, _ => none
  | k + 1, x0, x3, x4, x12 => if x12 = true then (if 0 ≤ x4 then (if x4 < (x0.length : Int) then (if ((rd_T70 x0 x4).f0) = 1 then ((casementref09_Right.f ((rd_T70 x0 x4).f0) ((rd_T70 x0 x4).f1)).bind fun t246 => (if t246 = true then (casementref09_Least.l0 k x0 (wrap64 (x3 + ((rd_T70 x0 x4).f1))) (wrap64 (x4 + 1))) else (casementref09_Least.l0 k x0 (wrap64 (x3 + 1)) (wrap64 (x4 + 1))))) else (casementref09_Least.l0 k x0 (wrap64 (x3 + 1)) (wrap64 (x4 + 1)))) else (none)) else (none)) else (some x3)
end
def casementref09_Least.f (k : Nat) (l0 : List (S70)) : Option (Int) := casementref09_Least.l0 k l0 0 0
theorem casementref09_Least.mono_l : ∀ k, (∀ y0 y1 y2, LeO (casementref09_Least.l0 k y0 y1 y2) (casementref09_Least.l0 (k + 1) y0 y1 y2)) ∧ (∀ y0 y1 y2 y3, LeO (casementref09_Least.j1 k y0 y1 y2 y3) (casementref09_Least.j1 (k + 1) y0 y1 y2 y3))
  | 0 => ⟨fun _ _ _ r h => by simp [casementref09_Least.l0] at h, fun _ _ _ _ r h => by simp [casementref09_Least.j1] at h⟩
  | k + 1 => by
    obtain ⟨ih0, ih1⟩ := casementref09_Least.mono_l k
    refine ⟨?_, ?_⟩
    · intro y0 y1 y2
      unfold casementref09_Least.l0
      repeat' first
      | (with_reducible exact ih0 _ _ _)
      | (with_reducible exact ih1 _ _ _ _)
      | (with_reducible exact LeO.refl _)
      | (with_reducible exact LeO.none _)
      | (with_reducible refine LeO.ite ?_ ?_)
      | (with_reducible refine LeO.bind ?_ (fun _ => ?_))
      | exact ih0 _ _ _
      | exact ih1 _ _ _ _
      | exact LeO.none _
      | refine LeO.ite ?_ ?_
      | refine LeO.bind ?_ (fun _ => ?_)
    · intro y0 y1 y2 y3
      unfold casementref09_Least.j1
      repeat' first
      | (with_reducible exact ih0 _ _ _)
      | (with_reducible exact ih1 _ _ _ _)
      | (with_reducible exact LeO.refl _)
      | (with_reducible exact LeO.none _)
      | (with_reducible refine LeO.ite ?_ ?_)
      | (with_reducible refine LeO.bind ?_ (fun _ => ?_))
      | exact ih0 _ _ _
      | exact ih1 _ _ _ _
      | exact LeO.none _
      | refine LeO.ite ?_ ?_
      | refine LeO.bind ?_ (fun _ => ?_)
theorem casementref09_Least.mono : ∀ a0 k, LeO (casementref09_Least.f k a0) (casementref09_Least.f (k + 1) a0) := by
  intro a0 k
  obtain ⟨ih0, ih1⟩ := casementref09_Least.mono_l k
  unfold casementref09_Least.f
  repeat' first
      | (with_reducible exact ih0 _ _ _)
      | (with_reducible exact ih1 _ _ _ _)
      | (with_reducible exact LeO.refl _)
      | (with_reducible exact LeO.none _)
      | (with_reducible refine LeO.ite ?_ ?_)
      | (with_reducible refine LeO.bind ?_ (fun _ => ?_))
      | exact ih0 _ _ _
      | exact ih1 _ _ _ _
      | exact LeO.none _
      | refine LeO.ite ?_ ?_
      | refine LeO.bind ?_ (fun _ => ?_)
set_option maxHeartbeats 8000000 in
set_option maxRecDepth 100000 in
theorem casementref09_Least.calls (k : Nat) (A0 : Option Addr) (c0 : Nat) (l0 : List (S70)) (r : Int) (w : World) (hr0 : Kd.C k70 w A0 l0.length l0) (hc0 : l0.length ≤ c0) (h : casementref09_Least.f k l0 = some r) :
    Calls Try.prog 42 #[.slice A0 l0.length c0] w fun e w' => e = .returned (.int .i64 r) ∧ Below w.heap.size w w' := by
  have hu70 := Try.underlying70
  have HR0 := Aside0.mk hr0
  have HC0 := Aside0.mk hc0
  clear hr0 hc0
  have HB := Aside0.mk (Below.refl w.heap.size w)
  have H : (casementref09_Least.l0 k l0 0 0) = some r := h
  clear h
  have H' := Aside0.mk H
  clear H
  go_enter Try.func42, Try.ntmps42
  go_wp2
  go_loopg [3, 4] k (fun kq v3 v4 w' => ∃ (x3_1 : Int) (x4_1 : Int), v3 = .int .i64 x3_1 ∧ v4 = .int .i64 x4_1 ∧ Aside0 (casementref09_Least.l0 kq l0 x3_1 x4_1 = some r) ∧ Aside0 (kq ≤ k) ∧ Aside0 (Below w.heap.size w w'))
  case atStart => exact ⟨(0), (0), (by first | rfl | (simp; done) | (simp [*]; done)), (by first | rfl | (simp; done) | (simp [*]; done)), H', ⟨Nat.le_refl _⟩, ⟨by repeat (first | (with_reducible first | exact HB.out | apply below_alloc | apply pw_below_drewN | apply below_drew1) | exact HB.out)⟩⟩
  case round =>
    clear H'
    obtain ⟨x3_1, x4_1, rfl, rfl, HA, HK1, HB⟩ := hrel
    cases gk with
    | zero => exact absurd HA.out (by simp [casementref09_Least.l0])
    | succ k1 =>
      have H := HA.out
      clear HA
      simp only [casementref09_Least.l0] at H
      have HC2 := Aside0.mk H
      clear H
      go_upto_region 3 with (fail)
      go_cut [12] (fun v12 wc => ∃ (kq : Nat) (x12_1 : Bool), v12 = .bool x12_1 ∧ Aside0 (casementref09_Least.j1 kq l0 x3_1 x4_1 x12_1 = some r) ∧ Aside0 (kq ≤ k1) ∧ Aside0 (Below w.heap.size w wc))
      case first =>
        have H := HC2.out
        clear HC2
        by_cases c3 : x4_1 < (l0.length : Int)
        · rw [if_pos c3] at H
          have c3b0 : decide (x4_1 < (l0.length : Int)) = true := decide_eq_true c3
          clear c3
          (first | rw [c3b0] | (simp only [i64_w, i32_w]; rw [c3b0]) | skip)
          have H' := Aside0.mk H
          clear H
          go_wp2
          go_meet
          case rel => exact ⟨_, (decide (x4_1 < 16)), (by first | rfl | (simp; done) | (simp [*]; done)), H', ⟨by have := HK1.out; first | omega | exact Nat.le_refl _⟩, ⟨by repeat (first | (with_reducible first | exact HB.out | apply below_alloc | apply pw_below_drewN | apply below_drew1) | exact HB.out)⟩⟩
        · rw [if_neg c3] at H
          have c3b0 : decide (x4_1 < (l0.length : Int)) = false := decide_eq_false c3
          clear c3
          (first | rw [c3b0] | (simp only [i64_w, i32_w]; rw [c3b0]) | skip)
          have H' := Aside0.mk H
          clear H
          go_wp2
          go_meet
          case rel => exact ⟨_, (false), (by first | rfl | (simp; done) | (simp [*]; done)), H', ⟨by have := HK1.out; first | omega | exact Nat.le_refl _⟩, ⟨by repeat (first | (with_reducible first | exact HB.out | apply below_alloc | apply pw_below_drewN | apply below_drew1) | exact HB.out)⟩⟩
      case rest =>
        clear HC2
        try clear p2
        try clear c3
        try clear c3b0
        obtain ⟨kq, x12_1, rfl, HA, HJ1, HB⟩ := hcut
        cases kq with
        | zero => exact absurd HA.out (by simp [casementref09_Least.j1])
        | succ kj1 =>
          have H := HA.out
          clear HA
          simp only [casementref09_Least.j1] at H
          by_cases c4 : x12_1 = true
          · subst c4
            have H1 : (if 0 ≤ x4_1 then (if x4_1 < (l0.length : Int) then (if ((rd_T70 l0 x4_1).f0) = 1 then ((casementref09_Right.f ((rd_T70 l0 x4_1).f0) ((rd_T70 l0 x4_1).f1)).bind fun t246 => (if t246 = true then (casementref09_Least.l0 kj1 l0 (wrap64 (x3_1 + ((rd_T70 l0 x4_1).f1))) (wrap64 (x4_1 + 1))) else (casementref09_Least.l0 kj1 l0 (wrap64 (x3_1 + 1)) (wrap64 (x4_1 + 1))))) else (casementref09_Least.l0 kj1 l0 (wrap64 (x3_1 + 1)) (wrap64 (x4_1 + 1)))) else (none)) else (none)) = some r := by rw [if_pos rfl] at H; exact H
            clear H
            have H := H1
            clear H1
            by_cases c5 : 0 ≤ x4_1
            · rw [if_pos c5] at H
              have c5b0 : decide (0 ≤ x4_1) = true := decide_eq_true c5
              clear c5
              by_cases c6 : x4_1 < (l0.length : Int)
              · rw [if_pos c6] at H
                have c6b0 : decide (x4_1 < (l0.length : Int)) = true := decide_eq_true c6
                clear c6
                by_cases c7 : ((rd_T70 l0 x4_1).f0) = 1
                · rw [if_pos c7] at H
                  have c7b0 : (((rd_T70 l0 x4_1).f0) == 1) = true := beq_iff_eq.mpr c7
                  have c7b1 : (((rd_T70 l0 x4_1).f0) != 1) = false := bne_eq_false_iff_eq.mpr c7
                  clear c7
                  replace H := Option.bind_eq_some_iff.mp H
                  obtain ⟨t246, A80, H⟩ := H
                  replace H : (if t246 = true then (casementref09_Least.l0 kj1 l0 (wrap64 (x3_1 + ((rd_T70 l0 x4_1).f1))) (wrap64 (x4_1 + 1))) else (casementref09_Least.l0 kj1 l0 (wrap64 (x3_1 + 1)) (wrap64 (x4_1 + 1)))) = some r := H
                  have A8 := Aside0.mk A80
                  clear A80
                  by_cases c9 : t246 = true
                  · subst c9
                    have H1 : (casementref09_Least.l0 kj1 l0 (wrap64 (x3_1 + ((rd_T70 l0 x4_1).f1))) (wrap64 (x4_1 + 1))) = some r := by rw [if_pos rfl] at H; exact H
                    clear H
                    have H := H1
                    clear H1
                    have H' := Aside0.mk H
                    clear H
                    have p244 : 0 ≤ (x4_1 : Int) := of_decide_eq_true (by first | (with_reducible assumption) | assumption)
                    have q244 : x4_1 < (l0.length : Int) := of_decide_eq_true (by first | (with_reducible assumption) | assumption)
                    obtain ⟨ad244, e244, hx244_0, hx244_1⟩ := at_T70 HR0.out x4_1 p244 q244
                    cases e244
                    replace hx244_0 := (HB.out.cell (World.block_lt_of_cell? w _ hx244_0)).trans hx244_0
                    replace hx244_1 := (HB.out.cell (World.block_lt_of_cell? w _ hx244_1)).trans hx244_1
                    replace p244 := eq_true p244
                    replace q244 := eq_true q244
                    have p245 : 0 ≤ (x4_1 : Int) := of_decide_eq_true (by first | (with_reducible assumption) | assumption)
                    have q245 : x4_1 < (l0.length : Int) := of_decide_eq_true (by first | (with_reducible assumption) | assumption)
                    obtain ⟨ad245, e245, hx245_0, hx245_1⟩ := at_T70 HR0.out x4_1 p245 q245
                    obtain rfl : ad244 = ad245 := (by injection e245)
                    replace hx245_0 := (HB.out.cell (World.block_lt_of_cell? w _ hx245_0)).trans hx245_0
                    replace hx245_1 := (HB.out.cell (World.block_lt_of_cell? w _ hx245_1)).trans hx245_1
                    replace p245 := eq_true p245
                    replace q245 := eq_true q245
                    go_wp2_with (first | (go_at_call 44; (with_reducible refine (casementref09_Right.calls ((rd_T70 l0 x4_1).f0) ((rd_T70 l0 x4_1).f1) true _ A8.out).mono ?_); rintro e w10 ⟨rfl, hb⟩; have n0_ := Aside0.mk (below_step (by repeat (first | (with_reducible first | exact HB.out | apply below_alloc | apply pw_below_drewN | apply below_drew1) | exact HB.out)) hb); clear HB; have HB := n0_; clear n0_; (try clear hb); (try clear hb2); (try clear hk); (try clear hi); have p247 : 0 ≤ (x4_1 : Int) := of_decide_eq_true (by first | (with_reducible assumption) | assumption); have q247 : x4_1 < (l0.length : Int) := of_decide_eq_true (by first | (with_reducible assumption) | assumption); obtain ⟨ad247, e247, hx247_0, hx247_1⟩ := at_T70 HR0.out x4_1 p247 q247; obtain rfl : ad244 = ad247 := (by injection e247); replace hx247_0 := (HB.out.cell (World.block_lt_of_cell? w _ hx247_0)).trans hx247_0; replace hx247_1 := (HB.out.cell (World.block_lt_of_cell? w _ hx247_1)).trans hx247_1; replace p247 := eq_true p247; replace q247 := eq_true q247))
                    go_roundg kj1
                    case measure => have := HK1.out; have := HJ1.out; omega
                    case rel => exact ⟨(wrap64 (x3_1 + ((rd_T70 l0 x4_1).f1))), (wrap64 (x4_1 + 1)), (by first | rfl | (simp; done) | (simp [*]; done)), (by first | rfl | (simp; done) | (simp [*]; done)), H', ⟨by have := HK1.out; have := HJ1.out; omega⟩, ⟨by repeat (first | (with_reducible first | exact HB.out | apply below_alloc | apply pw_below_drewN | apply below_drew1) | exact HB.out)⟩⟩
                  · replace c9 := Bool.eq_false_iff.mpr c9
                    subst c9
                    have H1 : (casementref09_Least.l0 kj1 l0 (wrap64 (x3_1 + 1)) (wrap64 (x4_1 + 1))) = some r := by rw [if_neg (show ¬ (false = true) by decide)] at H; exact H
                    clear H
                    have H := H1
                    clear H1
                    have H' := Aside0.mk H
                    clear H
                    have p244 : 0 ≤ (x4_1 : Int) := of_decide_eq_true (by first | (with_reducible assumption) | assumption)
                    have q244 : x4_1 < (l0.length : Int) := of_decide_eq_true (by first | (with_reducible assumption) | assumption)
                    obtain ⟨ad244, e244, hx244_0, hx244_1⟩ := at_T70 HR0.out x4_1 p244 q244
                    cases e244
                    replace hx244_0 := (HB.out.cell (World.block_lt_of_cell? w _ hx244_0)).trans hx244_0
                    replace hx244_1 := (HB.out.cell (World.block_lt_of_cell? w _ hx244_1)).trans hx244_1
                    replace p244 := eq_true p244
                    replace q244 := eq_true q244
                    have p245 : 0 ≤ (x4_1 : Int) := of_decide_eq_true (by first | (with_reducible assumption) | assumption)
                    have q245 : x4_1 < (l0.length : Int) := of_decide_eq_true (by first | (with_reducible assumption) | assumption)
                    obtain ⟨ad245, e245, hx245_0, hx245_1⟩ := at_T70 HR0.out x4_1 p245 q245
                    obtain rfl : ad244 = ad245 := (by injection e245)
                    replace hx245_0 := (HB.out.cell (World.block_lt_of_cell? w _ hx245_0)).trans hx245_0
                    replace hx245_1 := (HB.out.cell (World.block_lt_of_cell? w _ hx245_1)).trans hx245_1
                    replace p245 := eq_true p245
                    replace q245 := eq_true q245
                    go_wp2_with (first | (go_at_call 44; (with_reducible refine (casementref09_Right.calls ((rd_T70 l0 x4_1).f0) ((rd_T70 l0 x4_1).f1) false _ A8.out).mono ?_); rintro e w11 ⟨rfl, hb⟩; have n0_ := Aside0.mk (below_step (by repeat (first | (with_reducible first | exact HB.out | apply below_alloc | apply pw_below_drewN | apply below_drew1) | exact HB.out)) hb); clear HB; have HB := n0_; clear n0_; (try clear hb); (try clear hb2); (try clear hk); (try clear hi)))
                    go_roundg kj1
                    case measure => have := HK1.out; have := HJ1.out; omega
                    case rel => exact ⟨(wrap64 (x3_1 + 1)), (wrap64 (x4_1 + 1)), (by first | rfl | (simp; done) | (simp [*]; done)), (by first | rfl | (simp; done) | (simp [*]; done)), H', ⟨by have := HK1.out; have := HJ1.out; omega⟩, ⟨by repeat (first | (with_reducible first | exact HB.out | apply below_alloc | apply pw_below_drewN | apply below_drew1) | exact HB.out)⟩⟩
                · rw [if_neg c7] at H
                  have c7b0 : (((rd_T70 l0 x4_1).f0) == 1) = false := beq_eq_false_iff_ne.mpr c7
                  have c7b1 : (((rd_T70 l0 x4_1).f0) != 1) = true := bne_iff_ne.mpr c7
                  have H' := Aside0.mk H
                  clear H
                  have p244 : 0 ≤ (x4_1 : Int) := of_decide_eq_true (by first | (with_reducible assumption) | assumption)
                  have q244 : x4_1 < (l0.length : Int) := of_decide_eq_true (by first | (with_reducible assumption) | assumption)
                  obtain ⟨ad244, e244, hx244_0, hx244_1⟩ := at_T70 HR0.out x4_1 p244 q244
                  cases e244
                  replace hx244_0 := (HB.out.cell (World.block_lt_of_cell? w _ hx244_0)).trans hx244_0
                  replace hx244_1 := (HB.out.cell (World.block_lt_of_cell? w _ hx244_1)).trans hx244_1
                  replace p244 := eq_true p244
                  replace q244 := eq_true q244
                  go_wp2
                  go_roundg kj1
                  case measure => have := HK1.out; have := HJ1.out; omega
                  case rel => exact ⟨(wrap64 (x3_1 + 1)), (wrap64 (x4_1 + 1)), (by first | rfl | (simp; done) | (simp [*]; done)), (by first | rfl | (simp; done) | (simp [*]; done)), H', ⟨by have := HK1.out; have := HJ1.out; omega⟩, ⟨by repeat (first | (with_reducible first | exact HB.out | apply below_alloc | apply pw_below_drewN | apply below_drew1) | exact HB.out)⟩⟩
              · rw [if_neg c6] at H
                exact absurd H (by simp)
            · rw [if_neg c5] at H
              exact absurd H (by simp)
          · replace c4 := Bool.eq_false_iff.mpr c4
            subst c4
            have H1 : (some x3_1) = some r := by rw [if_neg (show ¬ (false = true) by decide)] at H; exact H
            clear H
            have H := H1
            clear H1
            obtain rfl := Option.some.inj H
            go_wp2
            go_ret
            exact ⟨by first | rfl | (simp [errW_none, errW_some] <;> rfl) | (simp [*, errW_none, errW_some] <;> rfl), by repeat (first | (with_reducible first | exact HB.out | apply below_alloc | apply pw_below_drewN | apply below_drew1) | exact HB.out)⟩

end Go.Proofs.Ythllpilgfipkpaa.Q
