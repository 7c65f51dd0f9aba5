-- written by a program of this session after the way of the kit's print; not the kit's own print. Lean checks it.
import Derived.Test.YtmokmkaipcojkaaQx0
import Derived.Test.YtmokmkaipcojkaaQx16
import Derived.Test.YtmokmkaipcojkaaQx17
namespace Go.Proofs.Ytmokmkaipcojkaa.Q
open Go.RowKit Go.Proofs.YtmokmkaipcojkaaW.PrintWords Go.Proofs.YtmokmkaipcojkaaW.PrintLast Go.Proofs.YtmokmkaipcojkaaW.PrintMore
attribute [local go_sem] max2_int min2_int max_two min_two max_three min_three max_four min_four   -- for this text's walks alone
set_option linter.unusedVariables false
set_option linter.unusedSimpArgs false

/-! ### casementref02_Cover: function 15 -/
mutual
def casementref02_Cover.l0 : Nat → List (S26) → Int → Int → Option (Int)
  | 0, _, _, _ => none
  | k + 1, x0, x3, x4 => if x4 < (x0.length : Int) then (casementref02_Cover.j1 k x0 x3 x4 (decide (x4 < 24))) else (casementref02_Cover.j1 k x0 x3 x4 false)
def casementref02_Cover.j1 : Nat → List (S26) → Int → Int → Bool → Option (Int)
  | 0, _, _, _, _ => none
  | k + 1, x0, x3, x4, x17 => if x17 = true then (if 0 ≤ x4 then (if x4 < (x0.length : Int) then ((casementref02_Clean.f k ((rd_T26 x0 x4).f0) ((rd_T26 x0 x4).f1) ((rd_T26 x0 x4).f2) ((rd_T26 x0 x4).f3)).bind fun bt333 => (casementref02_Cover.l1 k x0 x3 x4 bt333.2.1 bt333.1 bt333.2.1 bt333.2.2.1 bt333.2.2.2)) else (none)) else (none)) else (some x3)
def casementref02_Cover.l1 : Nat → List (S26) → Int → Int → Int → Int → Int → Int → Int → Option (Int)
  | 0, _, _, _, _, _, _, _, _ => none
  | k + 1, x0, x3, x4, x6, x338000, x338001, x338002, x338003 => if x6 < (wrap64 (x338001 + x338003)) then (casementref02_Cover.l2 k x0 x3 x4 x6 x338000 x338000 x338001 x338002 x338003) else (casementref02_Cover.l0 k x0 x3 (wrap64 (x4 + 1)))
def casementref02_Cover.l2 : Nat → List (S26) → Int → Int → Int → Int → Int → Int → Int → Int → Option (Int)
  | 0, _, _, _, _, _, _, _, _, _ => none
  | k + 1, x0, x3, x4, x6, x7, x338000, x338001, x338002, x338003 => if x7 < (wrap64 (x338000 + x338002)) then (casementref02_Cover.l3 k x0 x3 x4 x6 x7 false 0 x338000 x338001 x338002 x338003) else (casementref02_Cover.l1 k x0 x3 x4 (wrap64 (x6 + 1)) x338000 x338001 x338002 x338003)
def casementref02_Cover.l3 : Nat → List (S26) → Int → Int → Int → Int → Bool → Int → Int → Int → Int → Int → Option (Int)
  | 0, _, _, _, _, _, _, _, _, _, _, _ => none
  | k + 1, x0, x3, x4, x6, x7, x8, x9, x338000, x338001, x338002, x338003 => if x9 < x4 then (casementref02_Cover.j5 k x0 x3 x4 x6 x7 x8 x9 (!x8) x338000 x338001 x338002 x338003) else (casementref02_Cover.j5 k x0 x3 x4 x6 x7 x8 x9 false x338000 x338001 x338002 x338003)
def casementref02_Cover.j5 : Nat → List (S26) → Int → Int → Int → Int → Bool → Int → Bool → Int → Int → Int → Int → Option (Int)
  | 0, _, _, _, _, _, _, _, _, _, _, _, _ => none
  | k + 1, x0, x3, x4, x6, x7, x8, x9, x53, x338000, x338001, x338002, x338003 => if x53 = true then (if 0 ≤ x9 then (if x9 < (x0.length : Int) then ((casementref02_Clean.f k ((rd_T26 x0 x9).f0) ((rd_T26 x0 x9).f1) ((rd_T26 x0 x9).f2) ((rd_T26 x0 x9).f3)).bind fun bt339 => ((casementref02_Has.f bt339.1 bt339.2.1 bt339.2.2.1 bt339.2.2.2 x7 x6).bind fun t343 => (casementref02_Cover.l3 k x0 x3 x4 x6 x7 t343 (wrap64 (x9 + 1)) x338000 x338001 x338002 x338003))) else (none)) else (none)) else (if x8 = true then (casementref02_Cover.l2 k x0 x3 x4 x6 (wrap64 (x7 + 1)) x338000 x338001 x338002 x338003) else (casementref02_Cover.l2 k x0 (wrap64 (x3 + 1)) x4 x6 (wrap64 (x7 + 1)) x338000 x338001 x338002 x338003))
end
def casementref02_Cover.f (k : Nat) (l0 : List (S26)) : Option (Int) := casementref02_Cover.l0 k l0 0 0
theorem casementref02_Cover.mono_l : ∀ k, (∀ y0 y1 y2, LeO (casementref02_Cover.l0 k y0 y1 y2) (casementref02_Cover.l0 (k + 1) y0 y1 y2)) ∧ (∀ y0 y1 y2 y3, LeO (casementref02_Cover.j1 k y0 y1 y2 y3) (casementref02_Cover.j1 (k + 1) y0 y1 y2 y3)) ∧ (∀ y0 y1 y2 y3 y4 y5 y6 y7, LeO (casementref02_Cover.l1 k y0 y1 y2 y3 y4 y5 y6 y7) (casementref02_Cover.l1 (k + 1) y0 y1 y2 y3 y4 y5 y6 y7)) ∧ (∀ y0 y1 y2 y3 y4 y5 y6 y7 y8, LeO (casementref02_Cover.l2 k y0 y1 y2 y3 y4 y5 y6 y7 y8) (casementref02_Cover.l2 (k + 1) y0 y1 y2 y3 y4 y5 y6 y7 y8)) ∧ (∀ y0 y1 y2 y3 y4 y5 y6 y7 y8 y9 y10, LeO (casementref02_Cover.l3 k y0 y1 y2 y3 y4 y5 y6 y7 y8 y9 y10) (casementref02_Cover.l3 (k + 1) y0 y1 y2 y3 y4 y5 y6 y7 y8 y9 y10)) ∧ (∀ y0 y1 y2 y3 y4 y5 y6 y7 y8 y9 y10 y11, LeO (casementref02_Cover.j5 k y0 y1 y2 y3 y4 y5 y6 y7 y8 y9 y10 y11) (casementref02_Cover.j5 (k + 1) y0 y1 y2 y3 y4 y5 y6 y7 y8 y9 y10 y11))
  | 0 => ⟨fun _ _ _ r h => by simp [casementref02_Cover.l0] at h, fun _ _ _ _ r h => by simp [casementref02_Cover.j1] at h, fun _ _ _ _ _ _ _ _ r h => by simp [casementref02_Cover.l1] at h, fun _ _ _ _ _ _ _ _ _ r h => by simp [casementref02_Cover.l2] at h, fun _ _ _ _ _ _ _ _ _ _ _ r h => by simp [casementref02_Cover.l3] at h, fun _ _ _ _ _ _ _ _ _ _ _ _ r h => by simp [casementref02_Cover.j5] at h⟩
  | k + 1 => by
    obtain ⟨ih0, ih1, ih2, ih3, ih4, ih5⟩ := casementref02_Cover.mono_l k
    refine ⟨?_, ?_, ?_, ?_, ?_, ?_⟩
    · intro y0 y1 y2
      unfold casementref02_Cover.l0
      repeat' first
      | (with_reducible exact ih0 _ _ _)
      | (with_reducible exact ih1 _ _ _ _)
      | (with_reducible exact ih2 _ _ _ _ _ _ _ _)
      | (with_reducible exact ih3 _ _ _ _ _ _ _ _ _)
      | (with_reducible exact ih4 _ _ _ _ _ _ _ _ _ _ _)
      | (with_reducible exact ih5 _ _ _ _ _ _ _ _ _ _ _ _)
      | (with_reducible exact casementref02_Clean.mono _ _ _ _ _)
      | (with_reducible exact LeO.refl _)
      | (with_reducible exact LeO.none _)
      | (with_reducible refine LeO.ite ?_ ?_)
      | (with_reducible refine LeO.bind ?_ (fun _ => ?_))
      | exact ih0 _ _ _
      | exact ih1 _ _ _ _
      | exact ih2 _ _ _ _ _ _ _ _
      | exact ih3 _ _ _ _ _ _ _ _ _
      | exact ih4 _ _ _ _ _ _ _ _ _ _ _
      | exact ih5 _ _ _ _ _ _ _ _ _ _ _ _
      | exact casementref02_Clean.mono _ _ _ _ _
      | exact LeO.none _
      | refine LeO.ite ?_ ?_
      | refine LeO.bind ?_ (fun _ => ?_)
    · intro y0 y1 y2 y3
      unfold casementref02_Cover.j1
      repeat' first
      | (with_reducible exact ih0 _ _ _)
      | (with_reducible exact ih1 _ _ _ _)
      | (with_reducible exact ih2 _ _ _ _ _ _ _ _)
      | (with_reducible exact ih3 _ _ _ _ _ _ _ _ _)
      | (with_reducible exact ih4 _ _ _ _ _ _ _ _ _ _ _)
      | (with_reducible exact ih5 _ _ _ _ _ _ _ _ _ _ _ _)
      | (with_reducible exact casementref02_Clean.mono _ _ _ _ _)
      | (with_reducible exact LeO.refl _)
      | (with_reducible exact LeO.none _)
      | (with_reducible refine LeO.ite ?_ ?_)
      | (with_reducible refine LeO.bind ?_ (fun _ => ?_))
      | exact ih0 _ _ _
      | exact ih1 _ _ _ _
      | exact ih2 _ _ _ _ _ _ _ _
      | exact ih3 _ _ _ _ _ _ _ _ _
      | exact ih4 _ _ _ _ _ _ _ _ _ _ _
      | exact ih5 _ _ _ _ _ _ _ _ _ _ _ _
      | exact casementref02_Clean.mono _ _ _ _ _
      | exact LeO.none _
      | refine LeO.ite ?_ ?_
      | refine LeO.bind ?_ (fun _ => ?_)
    · intro y0 y1 y2 y3 y4 y5 y6 y7
      unfold casementref02_Cover.l1
      repeat' first
      | (with_reducible exact ih0 _ _ _)
      | (with_reducible exact ih1 _ _ _ _)
      | (with_reducible exact ih2 _ _ _ _ _ _ _ _)
      | (with_reducible exact ih3 _ _ _ _ _ _ _ _ _)
      | (with_reducible exact ih4 _ _ _ _ _ _ _ _ _ _ _)
      | (with_reducible exact ih5 _ _ _ _ _ _ _ _ _ _ _ _)
      | (with_reducible exact casementref02_Clean.mono _ _ _ _ _)
      | (with_reducible exact LeO.refl _)
      | (with_reducible exact LeO.none _)
      | (with_reducible refine LeO.ite ?_ ?_)
      | (with_reducible refine LeO.bind ?_ (fun _ => ?_))
      | exact ih0 _ _ _
      | exact ih1 _ _ _ _
      | exact ih2 _ _ _ _ _ _ _ _
      | exact ih3 _ _ _ _ _ _ _ _ _
      | exact ih4 _ _ _ _ _ _ _ _ _ _ _
      | exact ih5 _ _ _ _ _ _ _ _ _ _ _ _
      | exact casementref02_Clean.mono _ _ _ _ _
      | exact LeO.none _
      | refine LeO.ite ?_ ?_
      | refine LeO.bind ?_ (fun _ => ?_)
    · intro y0 y1 y2 y3 y4 y5 y6 y7 y8
      unfold casementref02_Cover.l2
      repeat' first
      | (with_reducible exact ih0 _ _ _)
      | (with_reducible exact ih1 _ _ _ _)
      | (with_reducible exact ih2 _ _ _ _ _ _ _ _)
      | (with_reducible exact ih3 _ _ _ _ _ _ _ _ _)
      | (with_reducible exact ih4 _ _ _ _ _ _ _ _ _ _ _)
      | (with_reducible exact ih5 _ _ _ _ _ _ _ _ _ _ _ _)
      | (with_reducible exact casementref02_Clean.mono _ _ _ _ _)
      | (with_reducible exact LeO.refl _)
      | (with_reducible exact LeO.none _)
      | (with_reducible refine LeO.ite ?_ ?_)
      | (with_reducible refine LeO.bind ?_ (fun _ => ?_))
      | exact ih0 _ _ _
      | exact ih1 _ _ _ _
      | exact ih2 _ _ _ _ _ _ _ _
      | exact ih3 _ _ _ _ _ _ _ _ _
      | exact ih4 _ _ _ _ _ _ _ _ _ _ _
      | exact ih5 _ _ _ _ _ _ _ _ _ _ _ _
      | exact casementref02_Clean.mono _ _ _ _ _
      | exact LeO.none _
      | refine LeO.ite ?_ ?_
      | refine LeO.bind ?_ (fun _ => ?_)
    · intro y0 y1 y2 y3 y4 y5 y6 y7 y8 y9 y10
      unfold casementref02_Cover.l3
      repeat' first
      | (with_reducible exact ih0 _ _ _)
      | (with_reducible exact ih1 _ _ _ _)
      | (with_reducible exact ih2 _ _ _ _ _ _ _ _)
      | (with_reducible exact ih3 _ _ _ _ _ _ _ _ _)
      | (with_reducible exact ih4 _ _ _ _ _ _ _ _ _ _ _)
      | (with_reducible exact ih5 _ _ _ _ _ _ _ _ _ _ _ _)
      | (with_reducible exact casementref02_Clean.mono _ _ _ _ _)
      | (with_reducible exact LeO.refl _)
      | (with_reducible exact LeO.none _)
      | (with_reducible refine LeO.ite ?_ ?_)
      | (with_reducible refine LeO.bind ?_ (fun _ => ?_))
      | exact ih0 _ _ _
      | exact ih1 _ _ _ _
      | exact ih2 _ _ _ _ _ _ _ _
      | exact ih3 _ _ _ _ _ _ _ _ _
      | exact ih4 _ _ _ _ _ _ _ _ _ _ _
      | exact ih5 _ _ _ _ _ _ _ _ _ _ _ _
      | exact casementref02_Clean.mono _ _ _ _ _
      | exact LeO.none _
      | refine LeO.ite ?_ ?_
      | refine LeO.bind ?_ (fun _ => ?_)
    · intro y0 y1 y2 y3 y4 y5 y6 y7 y8 y9 y10 y11
      unfold casementref02_Cover.j5
      repeat' first
      | (with_reducible exact ih0 _ _ _)
      | (with_reducible exact ih1 _ _ _ _)
      | (with_reducible exact ih2 _ _ _ _ _ _ _ _)
      | (with_reducible exact ih3 _ _ _ _ _ _ _ _ _)
      | (with_reducible exact ih4 _ _ _ _ _ _ _ _ _ _ _)
      | (with_reducible exact ih5 _ _ _ _ _ _ _ _ _ _ _ _)
      | (with_reducible exact casementref02_Clean.mono _ _ _ _ _)
      | (with_reducible exact LeO.refl _)
      | (with_reducible exact LeO.none _)
      | (with_reducible refine LeO.ite ?_ ?_)
      | (with_reducible refine LeO.bind ?_ (fun _ => ?_))
      | exact ih0 _ _ _
      | exact ih1 _ _ _ _
      | exact ih2 _ _ _ _ _ _ _ _
      | exact ih3 _ _ _ _ _ _ _ _ _
      | exact ih4 _ _ _ _ _ _ _ _ _ _ _
      | exact ih5 _ _ _ _ _ _ _ _ _ _ _ _
      | exact casementref02_Clean.mono _ _ _ _ _
      | exact LeO.none _
      | refine LeO.ite ?_ ?_
      | refine LeO.bind ?_ (fun _ => ?_)
theorem casementref02_Cover.mono : ∀ a0 k, LeO (casementref02_Cover.f k a0) (casementref02_Cover.f (k + 1) a0) := by
  intro a0 k
  obtain ⟨ih0, ih1, ih2, ih3, ih4, ih5⟩ := casementref02_Cover.mono_l k
  unfold casementref02_Cover.f
  repeat' first
      | (with_reducible exact ih0 _ _ _)
      | (with_reducible exact ih1 _ _ _ _)
      | (with_reducible exact ih2 _ _ _ _ _ _ _ _)
      | (with_reducible exact ih3 _ _ _ _ _ _ _ _ _)
      | (with_reducible exact ih4 _ _ _ _ _ _ _ _ _ _ _)
      | (with_reducible exact ih5 _ _ _ _ _ _ _ _ _ _ _ _)
      | (with_reducible exact casementref02_Clean.mono _ _ _ _ _)
      | (with_reducible exact LeO.refl _)
      | (with_reducible exact LeO.none _)
      | (with_reducible refine LeO.ite ?_ ?_)
      | (with_reducible refine LeO.bind ?_ (fun _ => ?_))
      | exact ih0 _ _ _
      | exact ih1 _ _ _ _
      | exact ih2 _ _ _ _ _ _ _ _
      | exact ih3 _ _ _ _ _ _ _ _ _
      | exact ih4 _ _ _ _ _ _ _ _ _ _ _
      | exact ih5 _ _ _ _ _ _ _ _ _ _ _ _
      | exact casementref02_Clean.mono _ _ _ _ _
      | exact LeO.none _
      | refine LeO.ite ?_ ?_
      | refine LeO.bind ?_ (fun _ => ?_)
set_option maxHeartbeats 8000000 in
set_option maxRecDepth 100000 in
theorem casementref02_Cover.calls (k : Nat) (A0 : Option Addr) (c0 : Nat) (l0 : List (S26)) (r : Int) (w : World) (hr0 : Kd.C k26 w A0 l0.length l0) (hc0 : l0.length ≤ c0) (h : casementref02_Cover.f k l0 = some r) :
    Calls Try.prog 15 #[.slice A0 l0.length c0] w fun e w' => e = .returned (.int .i64 r) ∧ Below w.heap.size w w' := by
  have hu26 := Try.underlying26
  have HR0 := Aside0.mk hr0
  have HC0 := Aside0.mk hc0
  clear hr0 hc0
  have HB := Aside0.mk (Below.refl w.heap.size w)
  have H : (casementref02_Cover.l0 k l0 0 0) = some r := h
  clear h
  have H' := Aside0.mk H
  clear H
  go_enter Try.func15, Try.ntmps15
  go_wp2
  go_loopg [3, 4] k (fun kq v3 v4 w' => ∃ (x3_1 : Int) (x4_1 : Int), v3 = .int .i64 x3_1 ∧ v4 = .int .i64 x4_1 ∧ Aside0 (casementref02_Cover.l0 kq l0 x3_1 x4_1 = some r) ∧ Aside0 (kq ≤ k) ∧ Aside0 (Below w.heap.size w w'))
  case atStart => exact ⟨(0), (0), (by first | rfl | (simp; done) | (simp [*]; done)), (by first | rfl | (simp; done) | (simp [*]; done)), H', ⟨Nat.le_refl _⟩, ⟨by repeat (first | (with_reducible first | exact HB.out | apply below_alloc | apply pw_below_drewN | apply below_drew1) | exact HB.out)⟩⟩
  case round =>
    clear H'
    try clear c1
    obtain ⟨x3_1, x4_1, rfl, rfl, HA, HK1, HB⟩ := hrel
    cases gk with
    | zero => exact absurd HA.out (by simp [casementref02_Cover.l0])
    | succ k1 =>
      have H := HA.out
      clear HA
      simp only [casementref02_Cover.l0] at H
      have HC2 := Aside0.mk H
      clear H
      go_upto_region 3 with (fail)
      go_cut [17] (fun v17 wc => ∃ (kq : Nat) (x17_1 : Bool), v17 = .bool x17_1 ∧ Aside0 (casementref02_Cover.j1 kq l0 x3_1 x4_1 x17_1 = some r) ∧ Aside0 (kq ≤ k1) ∧ Aside0 (Below w.heap.size w wc))
      case first =>
        have H := HC2.out
        clear HC2
        by_cases c3 : x4_1 < (l0.length : Int)
        · rw [if_pos c3] at H
          have c3b0 : decide (x4_1 < (l0.length : Int)) = true := decide_eq_true c3
          clear c3
          (first | rw [c3b0] | (simp only [i64_w, i32_w]; rw [c3b0]) | skip)
          have H' := Aside0.mk H
          clear H
          go_wp2
          go_meet
          case rel => exact ⟨_, (decide (x4_1 < 24)), (by first | rfl | (simp; done) | (simp [*]; done)), H', ⟨by have := HK1.out; first | omega | exact Nat.le_refl _⟩, ⟨by repeat (first | (with_reducible first | exact HB.out | apply below_alloc | apply pw_below_drewN | apply below_drew1) | exact HB.out)⟩⟩
        · rw [if_neg c3] at H
          have c3b0 : decide (x4_1 < (l0.length : Int)) = false := decide_eq_false c3
          clear c3
          (first | rw [c3b0] | (simp only [i64_w, i32_w]; rw [c3b0]) | skip)
          have H' := Aside0.mk H
          clear H
          go_wp2
          go_meet
          case rel => exact ⟨_, (false), (by first | rfl | (simp; done) | (simp [*]; done)), H', ⟨by have := HK1.out; first | omega | exact Nat.le_refl _⟩, ⟨by repeat (first | (with_reducible first | exact HB.out | apply below_alloc | apply pw_below_drewN | apply below_drew1) | exact HB.out)⟩⟩
      case rest =>
        clear HC2
        try clear c1
        try clear p2
        try clear c3
        try clear c3b0
        obtain ⟨kq, x17_1, rfl, HA, HJ1, HB⟩ := hcut
        cases kq with
        | zero => exact absurd HA.out (by simp [casementref02_Cover.j1])
        | succ kj1 =>
          have H := HA.out
          clear HA
          simp only [casementref02_Cover.j1] at H
          by_cases c4 : x17_1 = true
          · subst c4
            have H1 : (if 0 ≤ x4_1 then (if x4_1 < (l0.length : Int) then ((casementref02_Clean.f kj1 ((rd_T26 l0 x4_1).f0) ((rd_T26 l0 x4_1).f1) ((rd_T26 l0 x4_1).f2) ((rd_T26 l0 x4_1).f3)).bind fun bt333 => (casementref02_Cover.l1 kj1 l0 x3_1 x4_1 bt333.2.1 bt333.1 bt333.2.1 bt333.2.2.1 bt333.2.2.2)) else (none)) else (none)) = some r := by rw [if_pos rfl] at H; exact H
            clear H
            have H := H1
            clear H1
            by_cases c5 : 0 ≤ x4_1
            · rw [if_pos c5] at H
              have c5b0 : decide (0 ≤ x4_1) = true := decide_eq_true c5
              clear c5
              by_cases c6 : x4_1 < (l0.length : Int)
              · rw [if_pos c6] at H
                have c6b0 : decide (x4_1 < (l0.length : Int)) = true := decide_eq_true c6
                clear c6
                replace H := Option.bind_eq_some_iff.mp H
                obtain ⟨⟨t333, t334, t335, t336⟩, A70, H⟩ := H
                replace H : (casementref02_Cover.l1 kj1 l0 x3_1 x4_1 t334 t333 t334 t335 t336) = some r := H
                have A7 := Aside0.mk A70
                clear A70
                have H' := Aside0.mk H
                clear H
                have p332 : 0 ≤ (x4_1 : Int) := of_decide_eq_true (by first | (with_reducible assumption) | assumption)
                have q332 : x4_1 < (l0.length : Int) := of_decide_eq_true (by first | (with_reducible assumption) | assumption)
                obtain ⟨ad332, e332, hx332_0, hx332_1, hx332_2, hx332_3⟩ := at_T26 HR0.out x4_1 p332 q332
                cases e332
                replace hx332_0 := (HB.out.cell (World.block_lt_of_cell? w _ hx332_0)).trans hx332_0
                replace hx332_1 := (HB.out.cell (World.block_lt_of_cell? w _ hx332_1)).trans hx332_1
                replace hx332_2 := (HB.out.cell (World.block_lt_of_cell? w _ hx332_2)).trans hx332_2
                replace hx332_3 := (HB.out.cell (World.block_lt_of_cell? w _ hx332_3)).trans hx332_3
                replace p332 := eq_true p332
                replace q332 := eq_true q332
                go_wp2_with (first | ((with_reducible refine gate_callee (f := 18) rfl ?_); refine goesL_ (some 24) rfl rfl Try.func18 (by kernel_rfl) rfl #[.agg #[.int .i64 ((rd_T26 l0 x4_1).f0), .int .i64 ((rd_T26 l0 x4_1).f1), .int .i64 ((rd_T26 l0 x4_1).f2), .int .i64 ((rd_T26 l0 x4_1).f3)]] rfl (by (try simp only [List.map_toArray, List.map_cons, List.map_nil]); first | done | rfl | (simp only [List.length_drop, List.length_take]; rfl)) ?_; (with_reducible refine (casementref02_Clean.calls kj1 ((rd_T26 l0 x4_1).f0) ((rd_T26 l0 x4_1).f1) ((rd_T26 l0 x4_1).f2) ((rd_T26 l0 x4_1).f3) t333 t334 t335 t336 _ A7.out).mono ?_); rintro e w8 ⟨rfl, hb⟩; refine ⟨_, rfl, ?_⟩; have n0_ := Aside0.mk (below_step (by repeat (first | (with_reducible first | exact HB.out | apply below_alloc | apply pw_below_drewN | apply below_drew1) | exact HB.out)) hb); clear HB; have HB := n0_; clear n0_; (try clear hb); (try clear hb2); (try clear hk); (try clear hi)) | ((with_reducible refine gate_dst (N := 5) rfl ?_); refine box_event ?hg (N := 5) ?hd (cs := #[.int .i64 0, .int .i64 0, .int .i64 0, .int .i64 0]) (t := 26) ?hr ?_; (case hd => rfl); (case hg => rfl); (case hr => first | (go_simp; done) | (go_simp; rfl)); intro gb337 hg w9 hbox hb; have n0_ := Aside0.mk (below_step (by repeat (first | (with_reducible first | exact HB.out | apply below_alloc | apply pw_below_drewN | apply below_drew1) | exact HB.out)) hb); have n1_ := Aside0.mk (hbox); have n2_ := Aside0.mk ((by rw [hg]; exact (below_size (by repeat (first | (with_reducible first | exact HB.out | apply below_alloc | apply pw_below_drewN | apply below_drew1) | exact HB.out))) : w.heap.size ≤ gb337)); have n3_ := Aside0.mk ((by rw [hg]; exact (below_size (by repeat (first | (with_reducible first | exact HB.out | apply below_alloc | apply pw_below_drewN | apply below_drew1) | exact HB.out))) : w.heap.size ≤ gb337)); clear HB; have HB := n0_; have BK337 := n1_; have GW337 := n2_; have GE337 := n3_; clear n0_ n1_ n2_ n3_; clear hb hbox hg; have hcz10_0 : w9.cell? ⟨gb337, 0, none⟩ = some (.int .i64 0) := (blk_cell BK337.out 0).trans rfl; have hcz10_1 : w9.cell? ⟨gb337, 1, none⟩ = some (.int .i64 0) := (blk_cell BK337.out 1).trans rfl; have hcz10_2 : w9.cell? ⟨gb337, 2, none⟩ = some (.int .i64 0) := (blk_cell BK337.out 2).trans rfl; have hcz10_3 : w9.cell? ⟨gb337, 3, none⟩ = some (.int .i64 0) := (blk_cell BK337.out 3).trans rfl; have hfz10_0 := blk_frozen BK337.out 0; have hfz10_1 := blk_frozen BK337.out 1; have hfz10_2 := blk_frozen BK337.out 2; have hfz10_3 := blk_frozen BK337.out 3))
                go_loopg [3, 6] kj1 (fun kq v3 v6 w' => ∃ (x3_3 : Int) (x6_3 : Int), v3 = .int .i64 x3_3 ∧ v6 = .int .i64 x6_3 ∧ Aside0 (casementref02_Cover.l1 kq l0 x3_3 x4_1 x6_3 t333 t334 t335 t336 = some r) ∧ Aside0 (kq ≤ kj1) ∧ Aside0 (w'.heap[gb337]? = some (.cells #[.int .i64 t333, .int .i64 t334, .int .i64 t335, .int .i64 t336] 26 (0, 0))) ∧ Aside0 (Below w.heap.size w w'))
                case atStart => exact ⟨(x3_1), (t334), (by first | rfl | (simp; done) | (simp [*]; done)), (by first | rfl | (simp; done) | (simp [*]; done)), H', ⟨Nat.le_refl _⟩, ⟨by (with_reducible repeat (first | refine blk_drewN ?_ _ | refine blk_drew ?_ | refine blk_alloc ?_ _)); refine blk_put (cs := #[.int .i64 t333, .int .i64 t334, .int .i64 t335, .int .i64 0]) ?_ 3 _ rfl; (with_reducible repeat (first | refine blk_drewN ?_ _ | refine blk_drew ?_ | refine blk_alloc ?_ _)); refine blk_put (cs := #[.int .i64 t333, .int .i64 t334, .int .i64 0, .int .i64 0]) ?_ 2 _ rfl; (with_reducible repeat (first | refine blk_drewN ?_ _ | refine blk_drew ?_ | refine blk_alloc ?_ _)); refine blk_put (cs := #[.int .i64 t333, .int .i64 0, .int .i64 0, .int .i64 0]) ?_ 1 _ rfl; (with_reducible repeat (first | refine blk_drewN ?_ _ | refine blk_drew ?_ | refine blk_alloc ?_ _)); refine blk_put (cs := #[.int .i64 0, .int .i64 0, .int .i64 0, .int .i64 0]) ?_ 0 _ rfl; (with_reducible repeat (first | refine blk_drewN ?_ _ | refine blk_drew ?_ | refine blk_alloc ?_ _)); exact BK337.out⟩, ⟨by repeat (first | (with_reducible first | exact HB.out | apply below_alloc | apply pw_below_drewN | apply below_drew1 | refine below_set ?_ GE337.out) | exact HB.out)⟩⟩
                case round =>
                  clear H'
                  try clear c1
                  try clear p2
                  try clear c3
                  try clear c3b0
                  try clear p3
                  try clear q3
                  try clear hx3
                  try clear c4
                  try clear c5
                  try clear c5b0
                  try clear c6
                  try clear c6b0
                  try clear hcz10_0
                  try clear hcz10_1
                  try clear hcz10_2
                  try clear hcz10_3
                  try clear hfz10_0
                  try clear hfz10_1
                  try clear hfz10_2
                  try clear hfz10_3
                  try clear hx332_0
                  try clear hx332_1
                  try clear hx332_2
                  try clear hx332_3
                  try clear p2
                  try clear p332
                  try clear q332
                  obtain ⟨x3_3, x6_3, rfl, rfl, HA, HK3, BK337, HB⟩ := hrel
                  cases gk with
                  | zero => exact absurd HA.out (by simp [casementref02_Cover.l1])
                  | succ k3 =>
                    have H := HA.out
                    clear HA
                    simp only [casementref02_Cover.l1] at H
                    by_cases c11 : x6_3 < (wrap64 (t334 + t336))
                    · rw [if_pos c11] at H
                      have c11b0 : decide (x6_3 < (wrap64 (t334 + t336))) = true := decide_eq_true c11
                      clear c11
                      have H' := Aside0.mk H
                      clear H
                      have hcz12_0 : wr.cell? ⟨gb337, 0, none⟩ = some (.int .i64 t333) := (blk_cell BK337.out 0).trans rfl
                      have hcz12_1 : wr.cell? ⟨gb337, 1, none⟩ = some (.int .i64 t334) := (blk_cell BK337.out 1).trans rfl
                      have hcz12_2 : wr.cell? ⟨gb337, 2, none⟩ = some (.int .i64 t335) := (blk_cell BK337.out 2).trans rfl
                      have hcz12_3 : wr.cell? ⟨gb337, 3, none⟩ = some (.int .i64 t336) := (blk_cell BK337.out 3).trans rfl
                      have hfz12_0 := blk_frozen BK337.out 0
                      have hfz12_1 := blk_frozen BK337.out 1
                      have hfz12_2 := blk_frozen BK337.out 2
                      have hfz12_3 := blk_frozen BK337.out 3
                      go_wp2
                      go_loopg [3, 7] k3 (fun kq v3 v7 w' => ∃ (x3_4 : Int) (x7_4 : Int), v3 = .int .i64 x3_4 ∧ v7 = .int .i64 x7_4 ∧ Aside0 (casementref02_Cover.l2 kq l0 x3_4 x4_1 x6_3 x7_4 t333 t334 t335 t336 = some r) ∧ Aside0 (kq ≤ k3) ∧ Aside0 (w'.heap[gb337]? = some (.cells #[.int .i64 t333, .int .i64 t334, .int .i64 t335, .int .i64 t336] 26 (0, 0))) ∧ Aside0 (Below w.heap.size w w'))
                      case atStart => exact ⟨(x3_3), (t333), (by first | rfl | (simp; done) | (simp [*]; done)), (by first | rfl | (simp; done) | (simp [*]; done)), H', ⟨Nat.le_refl _⟩, ⟨by (with_reducible repeat (first | refine blk_drewN ?_ _ | refine blk_drew ?_ | refine blk_alloc ?_ _)); exact BK337.out⟩, ⟨by repeat (first | (with_reducible first | exact HB.out | apply below_alloc | apply pw_below_drewN | apply below_drew1 | refine below_set ?_ GE337.out) | exact HB.out)⟩⟩
                      case round =>
                        clear H'
                        try clear c1
                        try clear p2
                        try clear c3
                        try clear c3b0
                        try clear p3
                        try clear q3
                        try clear hx3
                        try clear c4
                        try clear c5
                        try clear c5b0
                        try clear c6
                        try clear c6b0
                        try clear p6
                        try clear c11
                        try clear c11b0
                        try clear hcz10_0
                        try clear hcz10_1
                        try clear hcz10_2
                        try clear hcz10_3
                        try clear hcz12_0
                        try clear hcz12_1
                        try clear hcz12_2
                        try clear hcz12_3
                        try clear hfz10_0
                        try clear hfz10_1
                        try clear hfz10_2
                        try clear hfz10_3
                        try clear hfz12_0
                        try clear hfz12_1
                        try clear hfz12_2
                        try clear hfz12_3
                        try clear hx332_0
                        try clear hx332_1
                        try clear hx332_2
                        try clear hx332_3
                        try clear p2
                        try clear p3
                        try clear p332
                        try clear q3
                        try clear q332
                        obtain ⟨x3_4, x7_4, rfl, rfl, HA, HK4, BK337, HB⟩ := hrel
                        cases gk with
                        | zero => exact absurd HA.out (by simp [casementref02_Cover.l2])
                        | succ k4 =>
                          have H := HA.out
                          clear HA
                          simp only [casementref02_Cover.l2] at H
                          by_cases c13 : x7_4 < (wrap64 (t333 + t335))
                          · rw [if_pos c13] at H
                            have c13b0 : decide (x7_4 < (wrap64 (t333 + t335))) = true := decide_eq_true c13
                            clear c13
                            have H' := Aside0.mk H
                            clear H
                            have hcz14_0 : wr.cell? ⟨gb337, 0, none⟩ = some (.int .i64 t333) := (blk_cell BK337.out 0).trans rfl
                            have hcz14_1 : wr.cell? ⟨gb337, 1, none⟩ = some (.int .i64 t334) := (blk_cell BK337.out 1).trans rfl
                            have hcz14_2 : wr.cell? ⟨gb337, 2, none⟩ = some (.int .i64 t335) := (blk_cell BK337.out 2).trans rfl
                            have hcz14_3 : wr.cell? ⟨gb337, 3, none⟩ = some (.int .i64 t336) := (blk_cell BK337.out 3).trans rfl
                            have hfz14_0 := blk_frozen BK337.out 0
                            have hfz14_1 := blk_frozen BK337.out 1
                            have hfz14_2 := blk_frozen BK337.out 2
                            have hfz14_3 := blk_frozen BK337.out 3
                            go_wp2
                            go_loopg [8, 9] k4 (fun kq v8 v9 w' => ∃ (x8_5 : Bool) (x9_5 : Int), v8 = .bool x8_5 ∧ v9 = .int .i64 x9_5 ∧ Aside0 (casementref02_Cover.l3 kq l0 x3_4 x4_1 x6_3 x7_4 x8_5 x9_5 t333 t334 t335 t336 = some r) ∧ Aside0 (kq ≤ k4) ∧ Aside0 (w'.heap[gb337]? = some (.cells #[.int .i64 t333, .int .i64 t334, .int .i64 t335, .int .i64 t336] 26 (0, 0))) ∧ Aside0 (Below w.heap.size w w'))
                            case atStart => exact ⟨(false), (0), (by first | rfl | (simp; done) | (simp [*]; done)), (by first | rfl | (simp; done) | (simp [*]; done)), H', ⟨Nat.le_refl _⟩, ⟨by (with_reducible repeat (first | refine blk_drewN ?_ _ | refine blk_drew ?_ | refine blk_alloc ?_ _)); exact BK337.out⟩, ⟨by repeat (first | (with_reducible first | exact HB.out | apply below_alloc | apply pw_below_drewN | apply below_drew1 | refine below_set ?_ GE337.out) | exact HB.out)⟩⟩
                            case round =>
                              clear H'
                              try clear c1
                              try clear p2
                              try clear c3
                              try clear c3b0
                              try clear p3
                              try clear q3
                              try clear hx3
                              try clear c4
                              try clear c5
                              try clear c5b0
                              try clear c6
                              try clear c6b0
                              try clear p6
                              try clear c11
                              try clear c11b0
                              try clear c13
                              try clear c13b0
                              try clear hcz10_0
                              try clear hcz10_1
                              try clear hcz10_2
                              try clear hcz10_3
                              try clear hcz12_0
                              try clear hcz12_1
                              try clear hcz12_2
                              try clear hcz12_3
                              try clear hcz14_0
                              try clear hcz14_1
                              try clear hcz14_2
                              try clear hcz14_3
                              try clear hfz10_0
                              try clear hfz10_1
                              try clear hfz10_2
                              try clear hfz10_3
                              try clear hfz12_0
                              try clear hfz12_1
                              try clear hfz12_2
                              try clear hfz12_3
                              try clear hfz14_0
                              try clear hfz14_1
                              try clear hfz14_2
                              try clear hfz14_3
                              try clear hx332_0
                              try clear hx332_1
                              try clear hx332_2
                              try clear hx332_3
                              try clear p2
                              try clear p3
                              try clear p332
                              try clear p6
                              try clear q3
                              try clear q332
                              obtain ⟨x8_5, x9_5, rfl, rfl, HA, HK5, BK337, HB⟩ := hrel
                              cases gk with
                              | zero => exact absurd HA.out (by simp [casementref02_Cover.l3])
                              | succ k5 =>
                                have H := HA.out
                                clear HA
                                simp only [casementref02_Cover.l3] at H
                                have HC15 := Aside0.mk H
                                clear H
                                go_upto_region 14 with (fail)
                                go_cut [53] (fun v53 wc => ∃ (kq : Nat) (x53_14 : Bool), v53 = .bool x53_14 ∧ Aside0 (casementref02_Cover.j5 kq l0 x3_4 x4_1 x6_3 x7_4 x8_5 x9_5 x53_14 t333 t334 t335 t336 = some r) ∧ Aside0 (kq ≤ k5) ∧ Aside0 (wc.heap[gb337]? = some (.cells #[.int .i64 t333, .int .i64 t334, .int .i64 t335, .int .i64 t336] 26 (0, 0))) ∧ Aside0 (Below w.heap.size w wc))
                                case first =>
                                  have H := HC15.out
                                  clear HC15
                                  by_cases c16 : x9_5 < x4_1
                                  · rw [if_pos c16] at H
                                    have c16b0 : decide (x9_5 < x4_1) = true := decide_eq_true c16
                                    clear c16
                                    (first | rw [c16b0] | (simp only [i64_w, i32_w]; rw [c16b0]) | skip)
                                    have H' := Aside0.mk H
                                    clear H
                                    go_wp2
                                    go_meet
                                    case rel => exact ⟨_, (!x8_5), (by first | rfl | (simp; done) | (simp [*]; done)), H', ⟨by have := HK1.out; have := HJ1.out; have := HK3.out; have := HK4.out; have := HK5.out; first | omega | exact Nat.le_refl _⟩, ⟨by (with_reducible repeat (first | refine blk_drewN ?_ _ | refine blk_drew ?_ | refine blk_alloc ?_ _)); exact BK337.out⟩, ⟨by repeat (first | (with_reducible first | exact HB.out | apply below_alloc | apply pw_below_drewN | apply below_drew1 | refine below_set ?_ GE337.out) | exact HB.out)⟩⟩
                                  · rw [if_neg c16] at H
                                    have c16b0 : decide (x9_5 < x4_1) = false := decide_eq_false c16
                                    clear c16
                                    (first | rw [c16b0] | (simp only [i64_w, i32_w]; rw [c16b0]) | skip)
                                    have H' := Aside0.mk H
                                    clear H
                                    go_wp2
                                    go_meet
                                    case rel => exact ⟨_, (false), (by first | rfl | (simp; done) | (simp [*]; done)), H', ⟨by have := HK1.out; have := HJ1.out; have := HK3.out; have := HK4.out; have := HK5.out; first | omega | exact Nat.le_refl _⟩, ⟨by (with_reducible repeat (first | refine blk_drewN ?_ _ | refine blk_drew ?_ | refine blk_alloc ?_ _)); exact BK337.out⟩, ⟨by repeat (first | (with_reducible first | exact HB.out | apply below_alloc | apply pw_below_drewN | apply below_drew1 | refine below_set ?_ GE337.out) | exact HB.out)⟩⟩
                                case rest =>
                                  clear HC15
                                  try clear c1
                                  try clear p2
                                  try clear c3
                                  try clear c3b0
                                  try clear p3
                                  try clear q3
                                  try clear hx3
                                  try clear c4
                                  try clear c5
                                  try clear c5b0
                                  try clear c6
                                  try clear c6b0
                                  try clear p6
                                  try clear c11
                                  try clear c11b0
                                  try clear c13
                                  try clear c13b0
                                  try clear c15
                                  try clear c16
                                  try clear c16b0
                                  try clear hcz10_0
                                  try clear hcz10_1
                                  try clear hcz10_2
                                  try clear hcz10_3
                                  try clear hcz12_0
                                  try clear hcz12_1
                                  try clear hcz12_2
                                  try clear hcz12_3
                                  try clear hcz14_0
                                  try clear hcz14_1
                                  try clear hcz14_2
                                  try clear hcz14_3
                                  try clear hfz10_0
                                  try clear hfz10_1
                                  try clear hfz10_2
                                  try clear hfz10_3
                                  try clear hfz12_0
                                  try clear hfz12_1
                                  try clear hfz12_2
                                  try clear hfz12_3
                                  try clear hfz14_0
                                  try clear hfz14_1
                                  try clear hfz14_2
                                  try clear hfz14_3
                                  try clear hx332_0
                                  try clear hx332_1
                                  try clear hx332_2
                                  try clear hx332_3
                                  try clear p2
                                  try clear p3
                                  try clear p332
                                  try clear p6
                                  try clear q3
                                  try clear q332
                                  obtain ⟨kq, x53_14, rfl, HA, HJ14, BK337, HB⟩ := hcut
                                  cases kq with
                                  | zero => exact absurd HA.out (by simp [casementref02_Cover.j5])
                                  | succ kj14 =>
                                    have H := HA.out
                                    clear HA
                                    simp only [casementref02_Cover.j5] at H
                                    by_cases c17 : x53_14 = true
                                    · subst c17
                                      have H1 : (if 0 ≤ x9_5 then (if x9_5 < (l0.length : Int) then ((casementref02_Clean.f kj14 ((rd_T26 l0 x9_5).f0) ((rd_T26 l0 x9_5).f1) ((rd_T26 l0 x9_5).f2) ((rd_T26 l0 x9_5).f3)).bind fun bt339 => ((casementref02_Has.f bt339.1 bt339.2.1 bt339.2.2.1 bt339.2.2.2 x7_4 x6_3).bind fun t343 => (casementref02_Cover.l3 kj14 l0 x3_4 x4_1 x6_3 x7_4 t343 (wrap64 (x9_5 + 1)) t333 t334 t335 t336))) else (none)) else (none)) = some r := by rw [if_pos rfl] at H; exact H
                                      clear H
                                      have H := H1
                                      clear H1
                                      by_cases c18 : 0 ≤ x9_5
                                      · rw [if_pos c18] at H
                                        have c18b0 : decide (0 ≤ x9_5) = true := decide_eq_true c18
                                        clear c18
                                        by_cases c19 : x9_5 < (l0.length : Int)
                                        · rw [if_pos c19] at H
                                          have c19b0 : decide (x9_5 < (l0.length : Int)) = true := decide_eq_true c19
                                          clear c19
                                          replace H := Option.bind_eq_some_iff.mp H
                                          obtain ⟨⟨t339, t340, t341, t342⟩, A200, H⟩ := H
                                          replace H : ((casementref02_Has.f t339 t340 t341 t342 x7_4 x6_3).bind fun t343 => (casementref02_Cover.l3 kj14 l0 x3_4 x4_1 x6_3 x7_4 t343 (wrap64 (x9_5 + 1)) t333 t334 t335 t336)) = some r := H
                                          have A20 := Aside0.mk A200
                                          clear A200
                                          replace H := Option.bind_eq_some_iff.mp H
                                          obtain ⟨t343, A210, H⟩ := H
                                          replace H : (casementref02_Cover.l3 kj14 l0 x3_4 x4_1 x6_3 x7_4 t343 (wrap64 (x9_5 + 1)) t333 t334 t335 t336) = some r := H
                                          have A21 := Aside0.mk A210
                                          clear A210
                                          have H' := Aside0.mk H
                                          clear H
                                          have p338 : 0 ≤ (x9_5 : Int) := of_decide_eq_true (by first | (with_reducible assumption) | assumption)
                                          have q338 : x9_5 < (l0.length : Int) := of_decide_eq_true (by first | (with_reducible assumption) | assumption)
                                          obtain ⟨ad338, e338, hx338_0, hx338_1, hx338_2, hx338_3⟩ := at_T26 HR0.out x9_5 p338 q338
                                          obtain rfl : ad332 = ad338 := (by injection e338)
                                          replace hx338_0 := (HB.out.cell (World.block_lt_of_cell? w _ hx338_0)).trans hx338_0
                                          replace hx338_1 := (HB.out.cell (World.block_lt_of_cell? w _ hx338_1)).trans hx338_1
                                          replace hx338_2 := (HB.out.cell (World.block_lt_of_cell? w _ hx338_2)).trans hx338_2
                                          replace hx338_3 := (HB.out.cell (World.block_lt_of_cell? w _ hx338_3)).trans hx338_3
                                          replace p338 := eq_true p338
                                          replace q338 := eq_true q338
                                          go_wp2_with (first | ((with_reducible refine gate_callee (f := 18) rfl ?_); refine goesL_ (some 60) rfl rfl Try.func18 (by kernel_rfl) rfl #[.agg #[.int .i64 ((rd_T26 l0 x9_5).f0), .int .i64 ((rd_T26 l0 x9_5).f1), .int .i64 ((rd_T26 l0 x9_5).f2), .int .i64 ((rd_T26 l0 x9_5).f3)]] rfl (by (try simp only [List.map_toArray, List.map_cons, List.map_nil]); first | done | rfl | (simp only [List.length_drop, List.length_take]; rfl)) ?_; (with_reducible refine (casementref02_Clean.calls kj14 ((rd_T26 l0 x9_5).f0) ((rd_T26 l0 x9_5).f1) ((rd_T26 l0 x9_5).f2) ((rd_T26 l0 x9_5).f3) t339 t340 t341 t342 _ A20.out).mono ?_); rintro e w22 ⟨rfl, hb⟩; refine ⟨_, rfl, ?_⟩; have n0_ := Aside0.mk (blk_below (g := gb337) (o := .cells #[.int .i64 t333, .int .i64 t334, .int .i64 t335, .int .i64 t336] 26 (0, 0)) (by (with_reducible repeat (first | refine blk_drewN ?_ _ | refine blk_drew ?_ | refine blk_alloc ?_ _)); exact BK337.out) hb); have n1_ := Aside0.mk (below_step (by repeat (first | (with_reducible first | exact HB.out | apply below_alloc | apply pw_below_drewN | apply below_drew1 | refine below_set ?_ GE337.out) | exact HB.out)) hb); clear BK337; clear HB; have BK337 := n0_; have HB := n1_; clear n0_ n1_; (try clear hb); (try clear hb2); (try clear hk); (try clear hi)) | ((with_reducible refine gate_callee (f := 23) rfl ?_); refine goesL_ (some 63) rfl rfl Try.func23 (by kernel_rfl) rfl #[.agg #[.int .i64 t339, .int .i64 t340, .int .i64 t341, .int .i64 t342], .int .i64 x7_4, .int .i64 x6_3] rfl (by (try simp only [List.map_toArray, List.map_cons, List.map_nil]); first | done | rfl | (simp only [List.length_drop, List.length_take]; rfl)) ?_; (with_reducible refine (casementref02_Has.calls t339 t340 t341 t342 x7_4 x6_3 t343 _ A21.out).mono ?_); rintro e w23 ⟨rfl, hb⟩; refine ⟨_, rfl, ?_⟩; have n0_ := Aside0.mk (blk_below (g := gb337) (o := .cells #[.int .i64 t333, .int .i64 t334, .int .i64 t335, .int .i64 t336] 26 (0, 0)) (by (with_reducible repeat (first | refine blk_drewN ?_ _ | refine blk_drew ?_ | refine blk_alloc ?_ _)); exact BK337.out) hb); have n1_ := Aside0.mk (below_step (by repeat (first | (with_reducible first | exact HB.out | apply below_alloc | apply pw_below_drewN | apply below_drew1 | refine below_set ?_ GE337.out) | exact HB.out)) hb); clear BK337; clear HB; have BK337 := n0_; have HB := n1_; clear n0_ n1_; (try clear hb); (try clear hb2); (try clear hk); (try clear hi)))
                                          go_roundg kj14
                                          case measure => have := HK1.out; have := HJ1.out; have := HK3.out; have := HK4.out; have := HK5.out; have := HJ14.out; omega
                                          case rel => exact ⟨(t343), (wrap64 (x9_5 + 1)), (by first | rfl | (simp; done) | (simp [*]; done)), (by first | rfl | (simp; done) | (simp [*]; done)), H', ⟨by have := HK1.out; have := HJ1.out; have := HK3.out; have := HK4.out; have := HK5.out; have := HJ14.out; omega⟩, ⟨by (with_reducible repeat (first | refine blk_drewN ?_ _ | refine blk_drew ?_ | refine blk_alloc ?_ _)); exact BK337.out⟩, ⟨by repeat (first | (with_reducible first | exact HB.out | apply below_alloc | apply pw_below_drewN | apply below_drew1 | refine below_set ?_ GE337.out) | exact HB.out)⟩⟩
                                        · rw [if_neg c19] at H
                                          exact absurd H (by simp)
                                      · rw [if_neg c18] at H
                                        exact absurd H (by simp)
                                    · replace c17 := Bool.eq_false_iff.mpr c17
                                      subst c17
                                      have H1 : (if x8_5 = true then (casementref02_Cover.l2 kj14 l0 x3_4 x4_1 x6_3 (wrap64 (x7_4 + 1)) t333 t334 t335 t336) else (casementref02_Cover.l2 kj14 l0 (wrap64 (x3_4 + 1)) x4_1 x6_3 (wrap64 (x7_4 + 1)) t333 t334 t335 t336)) = some r := by rw [if_neg (show ¬ (false = true) by decide)] at H; exact H
                                      clear H
                                      have H := H1
                                      clear H1
                                      by_cases c24 : x8_5 = true
                                      · subst c24
                                        have H1 : (casementref02_Cover.l2 kj14 l0 x3_4 x4_1 x6_3 (wrap64 (x7_4 + 1)) t333 t334 t335 t336) = some r := by rw [if_pos rfl] at H; exact H
                                        clear H
                                        have H := H1
                                        clear H1
                                        have H' := Aside0.mk H
                                        clear H
                                        go_wp2
                                        go_roundg kj14
                                        case measure => have := HK1.out; have := HJ1.out; have := HK3.out; have := HK4.out; have := HK5.out; have := HJ14.out; omega
                                        case rel => exact ⟨(x3_4), (wrap64 (x7_4 + 1)), (by first | rfl | (simp; done) | (simp [*]; done)), (by first | rfl | (simp; done) | (simp [*]; done)), H', ⟨by have := HK1.out; have := HJ1.out; have := HK3.out; have := HK4.out; have := HK5.out; have := HJ14.out; omega⟩, ⟨by (with_reducible repeat (first | refine blk_drewN ?_ _ | refine blk_drew ?_ | refine blk_alloc ?_ _)); exact BK337.out⟩, ⟨by repeat (first | (with_reducible first | exact HB.out | apply below_alloc | apply pw_below_drewN | apply below_drew1 | refine below_set ?_ GE337.out) | exact HB.out)⟩⟩
                                      · replace c24 := Bool.eq_false_iff.mpr c24
                                        subst c24
                                        have H1 : (casementref02_Cover.l2 kj14 l0 (wrap64 (x3_4 + 1)) x4_1 x6_3 (wrap64 (x7_4 + 1)) t333 t334 t335 t336) = some r := by rw [if_neg (show ¬ (false = true) by decide)] at H; exact H
                                        clear H
                                        have H := H1
                                        clear H1
                                        have H' := Aside0.mk H
                                        clear H
                                        go_wp2
                                        go_roundg kj14
                                        case measure => have := HK1.out; have := HJ1.out; have := HK3.out; have := HK4.out; have := HK5.out; have := HJ14.out; omega
                                        case rel => exact ⟨(wrap64 (x3_4 + 1)), (wrap64 (x7_4 + 1)), (by first | rfl | (simp; done) | (simp [*]; done)), (by first | rfl | (simp; done) | (simp [*]; done)), H', ⟨by have := HK1.out; have := HJ1.out; have := HK3.out; have := HK4.out; have := HK5.out; have := HJ14.out; omega⟩, ⟨by (with_reducible repeat (first | refine blk_drewN ?_ _ | refine blk_drew ?_ | refine blk_alloc ?_ _)); exact BK337.out⟩, ⟨by repeat (first | (with_reducible first | exact HB.out | apply below_alloc | apply pw_below_drewN | apply below_drew1 | refine below_set ?_ GE337.out) | exact HB.out)⟩⟩
                          · rw [if_neg c13] at H
                            have c13b0 : decide (x7_4 < (wrap64 (t333 + t335))) = false := decide_eq_false c13
                            clear c13
                            have H' := Aside0.mk H
                            clear H
                            have hcz25_0 : wr.cell? ⟨gb337, 0, none⟩ = some (.int .i64 t333) := (blk_cell BK337.out 0).trans rfl
                            have hcz25_1 : wr.cell? ⟨gb337, 1, none⟩ = some (.int .i64 t334) := (blk_cell BK337.out 1).trans rfl
                            have hcz25_2 : wr.cell? ⟨gb337, 2, none⟩ = some (.int .i64 t335) := (blk_cell BK337.out 2).trans rfl
                            have hcz25_3 : wr.cell? ⟨gb337, 3, none⟩ = some (.int .i64 t336) := (blk_cell BK337.out 3).trans rfl
                            have hfz25_0 := blk_frozen BK337.out 0
                            have hfz25_1 := blk_frozen BK337.out 1
                            have hfz25_2 := blk_frozen BK337.out 2
                            have hfz25_3 := blk_frozen BK337.out 3
                            go_wp2
                            go_roundg k4
                            case measure => have := HK1.out; have := HJ1.out; have := HK3.out; have := HK4.out; omega
                            case rel => exact ⟨(x3_4), (wrap64 (x6_3 + 1)), (by first | rfl | (simp; done) | (simp [*]; done)), (by first | rfl | (simp; done) | (simp [*]; done)), H', ⟨by have := HK1.out; have := HJ1.out; have := HK3.out; have := HK4.out; omega⟩, ⟨by (with_reducible repeat (first | refine blk_drewN ?_ _ | refine blk_drew ?_ | refine blk_alloc ?_ _)); exact BK337.out⟩, ⟨by repeat (first | (with_reducible first | exact HB.out | apply below_alloc | apply pw_below_drewN | apply below_drew1 | refine below_set ?_ GE337.out) | exact HB.out)⟩⟩
                    · rw [if_neg c11] at H
                      have c11b0 : decide (x6_3 < (wrap64 (t334 + t336))) = false := decide_eq_false c11
                      clear c11
                      have H' := Aside0.mk H
                      clear H
                      have hcz26_0 : wr.cell? ⟨gb337, 0, none⟩ = some (.int .i64 t333) := (blk_cell BK337.out 0).trans rfl
                      have hcz26_1 : wr.cell? ⟨gb337, 1, none⟩ = some (.int .i64 t334) := (blk_cell BK337.out 1).trans rfl
                      have hcz26_2 : wr.cell? ⟨gb337, 2, none⟩ = some (.int .i64 t335) := (blk_cell BK337.out 2).trans rfl
                      have hcz26_3 : wr.cell? ⟨gb337, 3, none⟩ = some (.int .i64 t336) := (blk_cell BK337.out 3).trans rfl
                      have hfz26_0 := blk_frozen BK337.out 0
                      have hfz26_1 := blk_frozen BK337.out 1
                      have hfz26_2 := blk_frozen BK337.out 2
                      have hfz26_3 := blk_frozen BK337.out 3
                      go_wp2
                      go_roundg k3
                      case measure => have := HK1.out; have := HJ1.out; have := HK3.out; omega
                      case rel => exact ⟨(x3_3), (wrap64 (x4_1 + 1)), (by first | rfl | (simp; done) | (simp [*]; done)), (by first | rfl | (simp; done) | (simp [*]; done)), H', ⟨by have := HK1.out; have := HJ1.out; have := HK3.out; omega⟩, ⟨by repeat (first | (with_reducible first | exact HB.out | apply below_alloc | apply pw_below_drewN | apply below_drew1 | refine below_set ?_ GE337.out) | exact HB.out)⟩⟩
              · rw [if_neg c6] at H
                exact absurd H (by simp)
            · rw [if_neg c5] at H
              exact absurd H (by simp)
          · replace c4 := Bool.eq_false_iff.mpr c4
            subst c4
            have H1 : (some x3_1) = some r := by rw [if_neg (show ¬ (false = true) by decide)] at H; exact H
            clear H
            have H := H1
            clear H1
            obtain rfl := Option.some.inj H
            go_wp2
            go_ret
            exact ⟨by first | rfl | (simp [errW_none, errW_some] <;> rfl) | (simp [*, errW_none, errW_some] <;> rfl), by repeat (first | (with_reducible first | exact HB.out | apply below_alloc | apply pw_below_drewN | apply below_drew1) | exact HB.out)⟩

end Go.Proofs.Ytmokmkaipcojkaa.Q
