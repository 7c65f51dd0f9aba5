-- written by a program of this session after the way of the kit's print; not the kit's own print. Lean checks it.
import Derived.Test.YtgngbbkaghmnpaaQx0
import Derived.Test.YtgngbbkaghmnpaaQx1
import Derived.Test.YtgngbbkaghmnpaaQx10
import Derived.Test.YtgngbbkaghmnpaaQx14
import Derived.Test.YtgngbbkaghmnpaaQx15
import Derived.Test.YtgngbbkaghmnpaaQx19
namespace Go.Proofs.Ytgngbbkaghmnpaa.Q
open Go.RowKit Go.Proofs.YtgngbbkaghmnpaaW.PrintWords Go.Proofs.YtgngbbkaghmnpaaW.PrintLast Go.Proofs.YtgngbbkaghmnpaaW.PrintMore
attribute [local go_sem] max2_int min2_int max_two min_two max_three min_three max_four min_four   -- for this text's walks alone
set_option linter.unusedVariables false
set_option linter.unusedSimpArgs false

attribute [local go_sem high] eqA29
/-! ### casementlaw13_CheckSound: function 5 -/
mutual
def casementlaw13_CheckSound.l0 : Nat → List (S42) → Int → Int → Int → List Int → List (S42) → Option (Bool)
  | 0, _, _, _, _, _, _ => none
  | k + 1, x19, x20, x21, x568000, x568001, x568002 => if x21 < x20 then (if 0 ≤ x21 then (if x21 < (x19.length : Int) then ((check_Heights.f k x568000 x568001 x568002 x21).bind fun t574 => (if (t574.length : Int) = (((rd_T42 x19 x21).f3).length : Int) then (if 0 < (t574.length : Int) then (casementlaw13_CheckSound.j1 k x21 t574 x19 x20 x21 ((rd t574 0) != 0) x568000 x568001 x568002 ((rd_T42 x19 x21).f0) ((rd_T42 x19 x21).f1) ((rd_T42 x19 x21).f2) ((rd_T42 x19 x21).f3)) else (none)) else (casementlaw13_CheckSound.j1 k x21 t574 x19 x20 x21 true x568000 x568001 x568002 ((rd_T42 x19 x21).f0) ((rd_T42 x19 x21).f1) ((rd_T42 x19 x21).f2) ((rd_T42 x19 x21).f3)))) else (none)) else (none)) else (some true)
def casementlaw13_CheckSound.j1 : Nat → Int → List Int → List (S42) → Int → Int → Bool → Int → List Int → List (S42) → Int → Int → Int → List (S46) → Option (Bool)
  | 0, _, _, _, _, _, _, _, _, _, _, _, _, _ => none
  | k + 1, x3, x5, x19, x20, x21, x40, x568000, x568001, x568002, x574000, x574001, x574002, x574003 => if x40 = true then (some false) else (casementlaw13_CheckSound.l1 k x3 x5 x19 x20 x21 x574003 (x574003.length : Int) 0 x568000 x568001 x568002 x574000 x574001 x574002 x574003)
def casementlaw13_CheckSound.l1 : Nat → Int → List Int → List (S42) → Int → Int → List (S46) → Int → Int → Int → List Int → List (S42) → Int → Int → Int → List (S46) → Option (Bool)
  | 0, _, _, _, _, _, _, _, _, _, _, _, _, _, _, _ => none
  | k + 1, x3, x5, x19, x20, x21, x42, x43, x44, x568000, x568001, x568002, x574000, x574001, x574002, x574003 => if x44 < x43 then (if 0 ≤ x44 then (if x44 < (x42.length : Int) then (if x44 < (x5.length : Int) then (if (rd x5 x44) < 0 then (casementlaw13_CheckSound.l1 k x3 x5 x19 x20 x21 x42 x43 (wrap64 (x44 + 1)) x568000 x568001 x568002 x574000 x574001 x574002 x574003) else ((check_Effect.f k x568000 x568001 x568002 x3 ((rd_T46 x42 x44).f0) ((rd_T46 x42 x44).f1)).bind fun bt581 => (if bt581.2.2 = true then (if (rd x5 x44) < bt581.1 then (casementlaw13_CheckSound.j3 k x3 x5 x44 (wrap64 ((wrap64 ((rd x5 x44) - bt581.1)) + bt581.2.1)) x19 x20 x21 x42 x43 x44 true x568000 x568001 x568002 x574000 x574001 x574002 x574003 ((rd_T46 x42 x44).f0) ((rd_T46 x42 x44).f1)) else (if (wrap64 ((wrap64 ((rd x5 x44) - bt581.1)) + bt581.2.1)) > 64 then (casementlaw13_CheckSound.j3 k x3 x5 x44 (wrap64 ((wrap64 ((rd x5 x44) - bt581.1)) + bt581.2.1)) x19 x20 x21 x42 x43 x44 true x568000 x568001 x568002 x574000 x574001 x574002 x574003 ((rd_T46 x42 x44).f0) ((rd_T46 x42 x44).f1)) else (casementlaw13_CheckSound.j3 k x3 x5 x44 (wrap64 ((wrap64 ((rd x5 x44) - bt581.1)) + bt581.2.1)) x19 x20 x21 x42 x43 x44 (decide ((rd x5 x44) > 64)) x568000 x568001 x568002 x574000 x574001 x574002 x574003 ((rd_T46 x42 x44).f0) ((rd_T46 x42 x44).f1)))) else (casementlaw13_CheckSound.j3 k x3 x5 x44 (wrap64 ((wrap64 ((rd x5 x44) - bt581.1)) + bt581.2.1)) x19 x20 x21 x42 x43 x44 true x568000 x568001 x568002 x574000 x574001 x574002 x574003 ((rd_T46 x42 x44).f0) ((rd_T46 x42 x44).f1))))) else (none)) else (none)) else (none)) else (casementlaw13_CheckSound.l0 k x19 x20 (wrap64 (x21 + 1)) x568000 x568001 x568002)
def casementlaw13_CheckSound.j3 : Nat → Int → List Int → Int → Int → List (S42) → Int → Int → List (S46) → Int → Int → Bool → Int → List Int → List (S42) → Int → Int → Int → List (S46) → Int → Int → Option (Bool)
  | 0, _, _, _, _, _, _, _, _, _, _, _, _, _, _, _, _, _, _, _, _ => none
  | k + 1, x3, x5, x6, x11, x19, x20, x21, x42, x43, x44, x90, x568000, x568001, x568002, x574000, x574001, x574002, x574003, x580000, x580001 => if x90 = true then (some false) else (if x580000 = 27 then (if 0 ≤ x6 then (if x6 < (x5.length : Int) then (if (rd x5 x6) = x574001 then (casementlaw13_CheckSound.l1 k x3 x5 x19 x20 x21 x42 x43 (wrap64 (x44 + 1)) x568000 x568001 x568002 x574000 x574001 x574002 x574003) else (some false)) else (none)) else (none)) else (if x580000 = 24 then (if 0 ≤ x580001 then (if x580001 < (x5.length : Int) then (casementlaw13_CheckSound.j4 k x3 x5 x6 x11 x19 x20 x21 x42 x43 x44 ((rd x5 x580001) != x11) x568000 x568001 x568002 x574000 x574001 x574002 x574003 x580000 x580001) else (none)) else (none)) else (if x580000 = 25 then (if 0 ≤ x580001 then (if x580001 < (x5.length : Int) then (casementlaw13_CheckSound.j4 k x3 x5 x6 x11 x19 x20 x21 x42 x43 x44 ((rd x5 x580001) != x11) x568000 x568001 x568002 x574000 x574001 x574002 x574003 x580000 x580001) else (none)) else (none)) else (casementlaw13_CheckSound.j4 k x3 x5 x6 x11 x19 x20 x21 x42 x43 x44 false x568000 x568001 x568002 x574000 x574001 x574002 x574003 x580000 x580001))))
def casementlaw13_CheckSound.j4 : Nat → Int → List Int → Int → Int → List (S42) → Int → Int → List (S46) → Int → Int → Bool → Int → List Int → List (S42) → Int → Int → Int → List (S46) → Int → Int → Option (Bool)
  | 0, _, _, _, _, _, _, _, _, _, _, _, _, _, _, _, _, _, _, _, _ => none
  | k + 1, x3, x5, x6, x11, x19, x20, x21, x42, x43, x44, x117, x568000, x568001, x568002, x574000, x574001, x574002, x574003, x580000, x580001 => if x117 = true then (some false) else (if x580000 = 24 then (casementlaw13_CheckSound.l1 k x3 x5 x19 x20 x21 x42 x43 (wrap64 (x44 + 1)) x568000 x568001 x568002 x574000 x574001 x574002 x574003) else (if x580000 = 29 then (casementlaw13_CheckSound.l1 k x3 x5 x19 x20 x21 x42 x43 (wrap64 (x44 + 1)) x568000 x568001 x568002 x574000 x574001 x574002 x574003) else (if (wrap64 (x6 + 1)) ≥ (x574003.length : Int) then (some false) else (if 0 ≤ (wrap64 (x6 + 1)) then (if (wrap64 (x6 + 1)) < (x5.length : Int) then (if (rd x5 (wrap64 (x6 + 1))) = x11 then (casementlaw13_CheckSound.l1 k x3 x5 x19 x20 x21 x42 x43 (wrap64 (x44 + 1)) x568000 x568001 x568002 x574000 x574001 x574002 x574003) else (some false)) else (none)) else (none)))))
end
def casementlaw13_CheckSound.f (k : Nat) (a0_0 : Int) (l0_1 : List Int) (l0_2 : List (S42)) : Option (Bool) := (casementlaw13_alive.f k).bind fun t568 => (if t568 = true then ((check_Check.f k a0_0 l0_1 l0_2).bind fun bt569 => (if (!(bt569.1 == 0) || (!(bt569.2.1 == 0) || (!(bt569.2.2 == 0)))) = true then (some true) else (casementlaw13_CheckSound.l0 k l0_2 (l0_2.length : Int) 0 a0_0 l0_1 l0_2))) else (some false))
theorem casementlaw13_CheckSound.mono_l : ∀ k, (∀ y0 y1 y2 y3 y4 y5, LeO (casementlaw13_CheckSound.l0 k y0 y1 y2 y3 y4 y5) (casementlaw13_CheckSound.l0 (k + 1) y0 y1 y2 y3 y4 y5)) ∧ (∀ y0 y1 y2 y3 y4 y5 y6 y7 y8 y9 y10 y11 y12, LeO (casementlaw13_CheckSound.j1 k y0 y1 y2 y3 y4 y5 y6 y7 y8 y9 y10 y11 y12) (casementlaw13_CheckSound.j1 (k + 1) y0 y1 y2 y3 y4 y5 y6 y7 y8 y9 y10 y11 y12)) ∧ (∀ y0 y1 y2 y3 y4 y5 y6 y7 y8 y9 y10 y11 y12 y13 y14, LeO (casementlaw13_CheckSound.l1 k y0 y1 y2 y3 y4 y5 y6 y7 y8 y9 y10 y11 y12 y13 y14) (casementlaw13_CheckSound.l1 (k + 1) y0 y1 y2 y3 y4 y5 y6 y7 y8 y9 y10 y11 y12 y13 y14)) ∧ (∀ y0 y1 y2 y3 y4 y5 y6 y7 y8 y9 y10 y11 y12 y13 y14 y15 y16 y17 y18 y19, LeO (casementlaw13_CheckSound.j3 k y0 y1 y2 y3 y4 y5 y6 y7 y8 y9 y10 y11 y12 y13 y14 y15 y16 y17 y18 y19) (casementlaw13_CheckSound.j3 (k + 1) y0 y1 y2 y3 y4 y5 y6 y7 y8 y9 y10 y11 y12 y13 y14 y15 y16 y17 y18 y19)) ∧ (∀ y0 y1 y2 y3 y4 y5 y6 y7 y8 y9 y10 y11 y12 y13 y14 y15 y16 y17 y18 y19, LeO (casementlaw13_CheckSound.j4 k y0 y1 y2 y3 y4 y5 y6 y7 y8 y9 y10 y11 y12 y13 y14 y15 y16 y17 y18 y19) (casementlaw13_CheckSound.j4 (k + 1) y0 y1 y2 y3 y4 y5 y6 y7 y8 y9 y10 y11 y12 y13 y14 y15 y16 y17 y18 y19))
  | 0 => ⟨fun _ _ _ _ _ _ r h => by simp [casementlaw13_CheckSound.l0] at h, fun _ _ _ _ _ _ _ _ _ _ _ _ _ r h => by simp [casementlaw13_CheckSound.j1] at h, fun _ _ _ _ _ _ _ _ _ _ _ _ _ _ _ r h => by simp [casementlaw13_CheckSound.l1] at h, fun _ _ _ _ _ _ _ _ _ _ _ _ _ _ _ _ _ _ _ _ r h => by simp [casementlaw13_CheckSound.j3] at h, fun _ _ _ _ _ _ _ _ _ _ _ _ _ _ _ _ _ _ _ _ r h => by simp [casementlaw13_CheckSound.j4] at h⟩
  | k + 1 => by
    obtain ⟨ih0, ih1, ih2, ih3, ih4⟩ := casementlaw13_CheckSound.mono_l k
    refine ⟨?_, ?_, ?_, ?_, ?_⟩
    · intro y0 y1 y2 y3 y4 y5
      unfold casementlaw13_CheckSound.l0
      repeat' first
      | (with_reducible exact ih0 _ _ _ _ _ _)
      | (with_reducible exact ih1 _ _ _ _ _ _ _ _ _ _ _ _ _)
      | (with_reducible exact ih2 _ _ _ _ _ _ _ _ _ _ _ _ _ _ _)
      | (with_reducible exact ih3 _ _ _ _ _ _ _ _ _ _ _ _ _ _ _ _ _ _ _ _)
      | (with_reducible exact ih4 _ _ _ _ _ _ _ _ _ _ _ _ _ _ _ _ _ _ _ _)
      | (with_reducible exact casementlaw13_alive.mono _)
      | (with_reducible exact check_Check.mono _ _ _ _)
      | (with_reducible exact check_Effect.mono _ _ _ _ _ _ _)
      | (with_reducible exact check_Heights.mono _ _ _ _ _)
      | (with_reducible exact LeO.refl _)
      | (with_reducible exact LeO.none _)
      | (with_reducible refine LeO.ite ?_ ?_)
      | (with_reducible refine LeO.bind ?_ (fun _ => ?_))
      | exact ih0 _ _ _ _ _ _
      | exact ih1 _ _ _ _ _ _ _ _ _ _ _ _ _
      | exact ih2 _ _ _ _ _ _ _ _ _ _ _ _ _ _ _
      | exact ih3 _ _ _ _ _ _ _ _ _ _ _ _ _ _ _ _ _ _ _ _
      | exact ih4 _ _ _ _ _ _ _ _ _ _ _ _ _ _ _ _ _ _ _ _
      | exact casementlaw13_alive.mono _
      | exact check_Check.mono _ _ _ _
      | exact check_Effect.mono _ _ _ _ _ _ _
      | exact check_Heights.mono _ _ _ _ _
      | exact LeO.none _
      | refine LeO.ite ?_ ?_
      | refine LeO.bind ?_ (fun _ => ?_)
    · intro y0 y1 y2 y3 y4 y5 y6 y7 y8 y9 y10 y11 y12
      unfold casementlaw13_CheckSound.j1
      repeat' first
      | (with_reducible exact ih0 _ _ _ _ _ _)
      | (with_reducible exact ih1 _ _ _ _ _ _ _ _ _ _ _ _ _)
      | (with_reducible exact ih2 _ _ _ _ _ _ _ _ _ _ _ _ _ _ _)
      | (with_reducible exact ih3 _ _ _ _ _ _ _ _ _ _ _ _ _ _ _ _ _ _ _ _)
      | (with_reducible exact ih4 _ _ _ _ _ _ _ _ _ _ _ _ _ _ _ _ _ _ _ _)
      | (with_reducible exact casementlaw13_alive.mono _)
      | (with_reducible exact check_Check.mono _ _ _ _)
      | (with_reducible exact check_Effect.mono _ _ _ _ _ _ _)
      | (with_reducible exact check_Heights.mono _ _ _ _ _)
      | (with_reducible exact LeO.refl _)
      | (with_reducible exact LeO.none _)
      | (with_reducible refine LeO.ite ?_ ?_)
      | (with_reducible refine LeO.bind ?_ (fun _ => ?_))
      | exact ih0 _ _ _ _ _ _
      | exact ih1 _ _ _ _ _ _ _ _ _ _ _ _ _
      | exact ih2 _ _ _ _ _ _ _ _ _ _ _ _ _ _ _
      | exact ih3 _ _ _ _ _ _ _ _ _ _ _ _ _ _ _ _ _ _ _ _
      | exact ih4 _ _ _ _ _ _ _ _ _ _ _ _ _ _ _ _ _ _ _ _
      | exact casementlaw13_alive.mono _
      | exact check_Check.mono _ _ _ _
      | exact check_Effect.mono _ _ _ _ _ _ _
      | exact check_Heights.mono _ _ _ _ _
      | exact LeO.none _
      | refine LeO.ite ?_ ?_
      | refine LeO.bind ?_ (fun _ => ?_)
    · intro y0 y1 y2 y3 y4 y5 y6 y7 y8 y9 y10 y11 y12 y13 y14
      unfold casementlaw13_CheckSound.l1
      repeat' first
      | (with_reducible exact ih0 _ _ _ _ _ _)
      | (with_reducible exact ih1 _ _ _ _ _ _ _ _ _ _ _ _ _)
      | (with_reducible exact ih2 _ _ _ _ _ _ _ _ _ _ _ _ _ _ _)
      | (with_reducible exact ih3 _ _ _ _ _ _ _ _ _ _ _ _ _ _ _ _ _ _ _ _)
      | (with_reducible exact ih4 _ _ _ _ _ _ _ _ _ _ _ _ _ _ _ _ _ _ _ _)
      | (with_reducible exact casementlaw13_alive.mono _)
      | (with_reducible exact check_Check.mono _ _ _ _)
      | (with_reducible exact check_Effect.mono _ _ _ _ _ _ _)
      | (with_reducible exact check_Heights.mono _ _ _ _ _)
      | (with_reducible exact LeO.refl _)
      | (with_reducible exact LeO.none _)
      | (with_reducible refine LeO.ite ?_ ?_)
      | (with_reducible refine LeO.bind ?_ (fun _ => ?_))
      | exact ih0 _ _ _ _ _ _
      | exact ih1 _ _ _ _ _ _ _ _ _ _ _ _ _
      | exact ih2 _ _ _ _ _ _ _ _ _ _ _ _ _ _ _
      | exact ih3 _ _ _ _ _ _ _ _ _ _ _ _ _ _ _ _ _ _ _ _
      | exact ih4 _ _ _ _ _ _ _ _ _ _ _ _ _ _ _ _ _ _ _ _
      | exact casementlaw13_alive.mono _
      | exact check_Check.mono _ _ _ _
      | exact check_Effect.mono _ _ _ _ _ _ _
      | exact check_Heights.mono _ _ _ _ _
      | exact LeO.none _
      | refine LeO.ite ?_ ?_
      | refine LeO.bind ?_ (fun _ => ?_)
    · intro y0 y1 y2 y3 y4 y5 y6 y7 y8 y9 y10 y11 y12 y13 y14 y15 y16 y17 y18 y19
      unfold casementlaw13_CheckSound.j3
      repeat' first
      | (with_reducible exact ih0 _ _ _ _ _ _)
      | (with_reducible exact ih1 _ _ _ _ _ _ _ _ _ _ _ _ _)
      | (with_reducible exact ih2 _ _ _ _ _ _ _ _ _ _ _ _ _ _ _)
      | (with_reducible exact ih3 _ _ _ _ _ _ _ _ _ _ _ _ _ _ _ _ _ _ _ _)
      | (with_reducible exact ih4 _ _ _ _ _ _ _ _ _ _ _ _ _ _ _ _ _ _ _ _)
      | (with_reducible exact casementlaw13_alive.mono _)
      | (with_reducible exact check_Check.mono _ _ _ _)
      | (with_reducible exact check_Effect.mono _ _ _ _ _ _ _)
      | (with_reducible exact check_Heights.mono _ _ _ _ _)
      | (with_reducible exact LeO.refl _)
      | (with_reducible exact LeO.none _)
      | (with_reducible refine LeO.ite ?_ ?_)
      | (with_reducible refine LeO.bind ?_ (fun _ => ?_))
      | exact ih0 _ _ _ _ _ _
      | exact ih1 _ _ _ _ _ _ _ _ _ _ _ _ _
      | exact ih2 _ _ _ _ _ _ _ _ _ _ _ _ _ _ _
      | exact ih3 _ _ _ _ _ _ _ _ _ _ _ _ _ _ _ _ _ _ _ _
      | exact ih4 _ _ _ _ _ _ _ _ _ _ _ _ _ _ _ _ _ _ _ _
      | exact casementlaw13_alive.mono _
      | exact check_Check.mono _ _ _ _
      | exact check_Effect.mono _ _ _ _ _ _ _
      | exact check_Heights.mono _ _ _ _ _
      | exact LeO.none _
      | refine LeO.ite ?_ ?_
      | refine LeO.bind ?_ (fun _ => ?_)
    · intro y0 y1 y2 y3 y4 y5 y6 y7 y8 y9 y10 y11 y12 y13 y14 y15 y16 y17 y18 y19
      unfold casementlaw13_CheckSound.j4
      repeat' first
      | (with_reducible exact ih0 _ _ _ _ _ _)
      | (with_reducible exact ih1 _ _ _ _ _ _ _ _ _ _ _ _ _)
      | (with_reducible exact ih2 _ _ _ _ _ _ _ _ _ _ _ _ _ _ _)
      | (with_reducible exact ih3 _ _ _ _ _ _ _ _ _ _ _ _ _ _ _ _ _ _ _ _)
      | (with_reducible exact ih4 _ _ _ _ _ _ _ _ _ _ _ _ _ _ _ _ _ _ _ _)
      | (with_reducible exact casementlaw13_alive.mono _)
      | (with_reducible exact check_Check.mono _ _ _ _)
      | (with_reducible exact check_Effect.mono _ _ _ _ _ _ _)
      | (with_reducible exact check_Heights.mono _ _ _ _ _)
      | (with_reducible exact LeO.refl _)
      | (with_reducible exact LeO.none _)
      | (with_reducible refine LeO.ite ?_ ?_)
      | (with_reducible refine LeO.bind ?_ (fun _ => ?_))
      | exact ih0 _ _ _ _ _ _
      | exact ih1 _ _ _ _ _ _ _ _ _ _ _ _ _
      | exact ih2 _ _ _ _ _ _ _ _ _ _ _ _ _ _ _
      | exact ih3 _ _ _ _ _ _ _ _ _ _ _ _ _ _ _ _ _ _ _ _
      | exact ih4 _ _ _ _ _ _ _ _ _ _ _ _ _ _ _ _ _ _ _ _
      | exact casementlaw13_alive.mono _
      | exact check_Check.mono _ _ _ _
      | exact check_Effect.mono _ _ _ _ _ _ _
      | exact check_Heights.mono _ _ _ _ _
      | exact LeO.none _
      | refine LeO.ite ?_ ?_
      | refine LeO.bind ?_ (fun _ => ?_)
theorem casementlaw13_CheckSound.mono : ∀ a0 a1 a2 k, LeO (casementlaw13_CheckSound.f k a0 a1 a2) (casementlaw13_CheckSound.f (k + 1) a0 a1 a2) := by
  intro a0 a1 a2 k
  obtain ⟨ih0, ih1, ih2, ih3, ih4⟩ := casementlaw13_CheckSound.mono_l k
  unfold casementlaw13_CheckSound.f
  repeat' first
      | (with_reducible exact ih0 _ _ _ _ _ _)
      | (with_reducible exact ih1 _ _ _ _ _ _ _ _ _ _ _ _ _)
      | (with_reducible exact ih2 _ _ _ _ _ _ _ _ _ _ _ _ _ _ _)
      | (with_reducible exact ih3 _ _ _ _ _ _ _ _ _ _ _ _ _ _ _ _ _ _ _ _)
      | (with_reducible exact ih4 _ _ _ _ _ _ _ _ _ _ _ _ _ _ _ _ _ _ _ _)
      | (with_reducible exact casementlaw13_alive.mono _)
      | (with_reducible exact check_Check.mono _ _ _ _)
      | (with_reducible exact check_Effect.mono _ _ _ _ _ _ _)
      | (with_reducible exact check_Heights.mono _ _ _ _ _)
      | (with_reducible exact LeO.refl _)
      | (with_reducible exact LeO.none _)
      | (with_reducible refine LeO.ite ?_ ?_)
      | (with_reducible refine LeO.bind ?_ (fun _ => ?_))
      | exact ih0 _ _ _ _ _ _
      | exact ih1 _ _ _ _ _ _ _ _ _ _ _ _ _
      | exact ih2 _ _ _ _ _ _ _ _ _ _ _ _ _ _ _
      | exact ih3 _ _ _ _ _ _ _ _ _ _ _ _ _ _ _ _ _ _ _ _
      | exact ih4 _ _ _ _ _ _ _ _ _ _ _ _ _ _ _ _ _ _ _ _
      | exact casementlaw13_alive.mono _
      | exact check_Check.mono _ _ _ _
      | exact check_Effect.mono _ _ _ _ _ _ _
      | exact check_Heights.mono _ _ _ _ _
      | exact LeO.none _
      | refine LeO.ite ?_ ?_
      | refine LeO.bind ?_ (fun _ => ?_)
set_option maxHeartbeats 8000000 in
set_option maxRecDepth 100000 in
theorem casementlaw13_CheckSound.calls (k : Nat) (a0_0 : Int) (A0_1 : Option Addr) (c0_1 : Nat) (l0_1 : List Int) (A0_2 : Option Addr) (c0_2 : Nat) (l0_2 : List (S42)) (r : Bool) (w : World) (hr0_1 : Kd.C (Kd.int .u8) w A0_1 l0_1.length l0_1) (hc0_1 : l0_1.length ≤ c0_1) (hr0_2 : Kd.C k42 w A0_2 l0_2.length l0_2) (hc0_2 : l0_2.length ≤ c0_2) (h : casementlaw13_CheckSound.f k a0_0 l0_1 l0_2 = some r) (hr : r = true) :
    Calls Try.prog 5 #[.agg #[.int .i64 a0_0, .slice A0_1 l0_1.length c0_1, .slice A0_2 l0_2.length c0_2]] w fun e w' => e = .returned (.bool r) ∧ Below w.heap.size w w' := by
  have hu25 := Try.underlying25
  have hu29 := Try.underlying29
  have hu42 := Try.underlying42
  have hu46 := Try.underlying46
  have HRT := Aside0.mk hr
  clear hr
  have HR0_1 := Aside0.mk hr0_1
  have HC0_1 := Aside0.mk hc0_1
  clear hr0_1 hc0_1
  have HR0_2 := Aside0.mk hr0_2
  have HC0_2 := Aside0.mk hc0_2
  clear hr0_2 hc0_2
  have HB := Aside0.mk (Below.refl w.heap.size w)
  have H : ((casementlaw13_alive.f k).bind fun t568 => (if t568 = true then ((check_Check.f k a0_0 l0_1 l0_2).bind fun bt569 => (if (!(bt569.1 == 0) || (!(bt569.2.1 == 0) || (!(bt569.2.2 == 0)))) = true then (some true) else (casementlaw13_CheckSound.l0 k l0_2 (l0_2.length : Int) 0 a0_0 l0_1 l0_2))) else (some false))) = some r := h
  clear h
  replace H := Option.bind_eq_some_iff.mp H
  obtain ⟨t568, A20, H⟩ := H
  replace H : (if t568 = true then ((check_Check.f k a0_0 l0_1 l0_2).bind fun bt569 => (if (!(bt569.1 == 0) || (!(bt569.2.1 == 0) || (!(bt569.2.2 == 0)))) = true then (some true) else (casementlaw13_CheckSound.l0 k l0_2 (l0_2.length : Int) 0 a0_0 l0_1 l0_2))) else (some false)) = some r := H
  have A2 := Aside0.mk A20
  clear A20
  by_cases c3 : t568 = true
  · subst c3
    have H1 : ((check_Check.f k a0_0 l0_1 l0_2).bind fun bt569 => (if (!(bt569.1 == 0) || (!(bt569.2.1 == 0) || (!(bt569.2.2 == 0)))) = true then (some true) else (casementlaw13_CheckSound.l0 k l0_2 (l0_2.length : Int) 0 a0_0 l0_1 l0_2))) = some r := by rw [if_pos rfl] at H; exact H
    clear H
    have H := H1
    clear H1
    replace H := Option.bind_eq_some_iff.mp H
    obtain ⟨⟨t569, t570, t571⟩, A40, H⟩ := H
    replace H : (if (!(t569 == 0) || (!(t570 == 0) || (!(t571 == 0)))) = true then (some true) else (casementlaw13_CheckSound.l0 k l0_2 (l0_2.length : Int) 0 a0_0 l0_1 l0_2)) = some r := H
    have A4 := Aside0.mk A40
    clear A40
    by_cases c5 : (!(t569 == 0) || (!(t570 == 0) || (!(t571 == 0)))) = true
    · rw [if_pos c5] at H
      have c5b0 : (!(t569 == 0) || (!(t570 == 0) || (!(t571 == 0)))) = true := c5
      clear c5
      obtain rfl := Option.some.inj H
      go_enter Try.func5, Try.ntmps5
      go_wp2_with (first | ((with_reducible refine gate_dst (N := 1) rfl ?_); (try (refine gate_guard (by rfl) ?_; dsimp only)); refine box_event ?hg (N := 1) ?hd (cs := #[.int .i64 a0_0, .slice A0_1 l0_1.length c0_1, .slice A0_2 l0_2.length c0_2]) (t := 25) ?hr ?_; (case hd => rfl); (case hg => rfl); (case hr => first | (go_simp; done) | (go_simp; rfl)); intro gb567 hg w6 hbox hb; have n0_ := Aside0.mk (below_step (by repeat (first | (with_reducible first | exact HB.out | apply below_alloc | apply pw_below_drewN | apply below_drew1) | exact HB.out)) hb); have n1_ := Aside0.mk (hbox); have n2_ := Aside0.mk ((by rw [hg]; exact (below_size (by repeat (first | (with_reducible first | exact HB.out | apply below_alloc | apply pw_below_drewN | apply below_drew1) | exact HB.out))) : w.heap.size ≤ gb567)); have n3_ := Aside0.mk ((by rw [hg]; exact (below_size (by repeat (first | (with_reducible first | exact HB.out | apply below_alloc | apply pw_below_drewN | apply below_drew1) | exact HB.out))) : w.heap.size ≤ gb567)); clear HB; have HB := n0_; have BK567 := n1_; have GW567 := n2_; have GE567 := n3_; clear n0_ n1_ n2_ n3_; clear hb hbox hg) | (go_at_call 8; (with_reducible refine (casementlaw13_alive.calls k  true _ A2.out (by first | rfl | assumption)).mono ?_); rintro e w7 ⟨rfl, hb⟩; have n0_ := Aside0.mk (blk_below (g := gb567) (o := .cells #[.int .i64 a0_0, .slice A0_1 l0_1.length c0_1, .slice A0_2 l0_2.length c0_2] 25 (0, 0)) (by (with_reducible repeat (first | refine blk_drewN ?_ _ | refine blk_drew ?_ | refine blk_alloc ?_ _)); exact BK567.out) hb); have n1_ := Aside0.mk (below_step (by repeat (first | (with_reducible first | exact HB.out | apply below_alloc | apply pw_below_drewN | apply below_drew1 | refine below_set ?_ GE567.out) | exact HB.out)) hb); clear BK567; clear HB; have BK567 := n0_; have HB := n1_; clear n0_ n1_; (try clear hb); (try clear hb2); (try clear hk); (try clear hi); have hcz8_0 : w7.cell? ⟨gb567, 0, none⟩ = some (.int .i64 a0_0) := (blk_cell BK567.out 0).trans rfl; have hcz8_1 : w7.cell? ⟨gb567, 1, none⟩ = some (.slice A0_1 l0_1.length c0_1) := (blk_cell BK567.out 1).trans rfl; have hcz8_2 : w7.cell? ⟨gb567, 2, none⟩ = some (.slice A0_2 l0_2.length c0_2) := (blk_cell BK567.out 2).trans rfl; have hfz8_0 := blk_frozen BK567.out 0; have hfz8_1 := blk_frozen BK567.out 1; have hfz8_2 := blk_frozen BK567.out 2) | (go_at_call 9; (with_reducible refine (check_Check.calls k a0_0 _ _ l0_1 _ _ l0_2 t569 t570 t571 _ ?side1 ?side2 ?side3 ?side4 A4.out).mono ?_); (case side1 => repeat (first | exact (Kd.C_below HR0_1.out HB.out) | (with_reducible refine Kd.C_alloc ?_ _) | (with_reducible refine Kd.C_drewN ?_ _) | (with_reducible refine Kd.C_drew ?_))); (case side2 => exact HC0_1.out); (case side3 => repeat (first | exact (Kd.C_below HR0_2.out HB.out) | (with_reducible refine Kd.C_alloc ?_ _) | (with_reducible refine Kd.C_drewN ?_ _) | (with_reducible refine Kd.C_drew ?_))); (case side4 => exact HC0_2.out); rintro e w9 ⟨rfl, hb⟩; have n0_ := Aside0.mk (blk_below (g := gb567) (o := .cells #[.int .i64 a0_0, .slice A0_1 l0_1.length c0_1, .slice A0_2 l0_2.length c0_2] 25 (0, 0)) (by (with_reducible repeat (first | refine blk_drewN ?_ _ | refine blk_drew ?_ | refine blk_alloc ?_ _)); exact BK567.out) hb); have n1_ := Aside0.mk (below_step (by repeat (first | (with_reducible first | exact HB.out | apply below_alloc | apply pw_below_drewN | apply below_drew1 | refine below_set ?_ GE567.out) | exact HB.out)) hb); clear BK567; clear HB; have BK567 := n0_; have HB := n1_; clear n0_ n1_; (try clear hb); (try clear hb2); (try clear hk); (try clear hi)))
      repeat (go_quiet (first | ((with_reducible refine gate_dst (N := 1) rfl ?_); (try (refine gate_guard (by rfl) ?_; dsimp only)); refine box_event ?hg (N := 1) ?hd (cs := #[.int .i64 a0_0, .slice A0_1 l0_1.length c0_1, .slice A0_2 l0_2.length c0_2]) (t := 25) ?hr ?_; (case hd => rfl); (case hg => rfl); (case hr => first | (go_simp; done) | (go_simp; rfl)); intro gb567 hg w6 hbox hb; have n0_ := Aside0.mk (below_step (by repeat (first | (with_reducible first | exact HB.out | apply below_alloc | apply pw_below_drewN | apply below_drew1) | exact HB.out)) hb); have n1_ := Aside0.mk (hbox); have n2_ := Aside0.mk ((by rw [hg]; exact (below_size (by repeat (first | (with_reducible first | exact HB.out | apply below_alloc | apply pw_below_drewN | apply below_drew1) | exact HB.out))) : w.heap.size ≤ gb567)); have n3_ := Aside0.mk ((by rw [hg]; exact (below_size (by repeat (first | (with_reducible first | exact HB.out | apply below_alloc | apply pw_below_drewN | apply below_drew1) | exact HB.out))) : w.heap.size ≤ gb567)); clear HB; have HB := n0_; have BK567 := n1_; have GW567 := n2_; have GE567 := n3_; clear n0_ n1_ n2_ n3_; clear hb hbox hg) | (go_at_call 8; (with_reducible refine (casementlaw13_alive.calls k  true _ A2.out (by first | rfl | assumption)).mono ?_); rintro e w7 ⟨rfl, hb⟩; have n0_ := Aside0.mk (blk_below (g := gb567) (o := .cells #[.int .i64 a0_0, .slice A0_1 l0_1.length c0_1, .slice A0_2 l0_2.length c0_2] 25 (0, 0)) (by (with_reducible repeat (first | refine blk_drewN ?_ _ | refine blk_drew ?_ | refine blk_alloc ?_ _)); exact BK567.out) hb); have n1_ := Aside0.mk (below_step (by repeat (first | (with_reducible first | exact HB.out | apply below_alloc | apply pw_below_drewN | apply below_drew1 | refine below_set ?_ GE567.out) | exact HB.out)) hb); clear BK567; clear HB; have BK567 := n0_; have HB := n1_; clear n0_ n1_; (try clear hb); (try clear hb2); (try clear hk); (try clear hi); have hcz8_0 : w7.cell? ⟨gb567, 0, none⟩ = some (.int .i64 a0_0) := (blk_cell BK567.out 0).trans rfl; have hcz8_1 : w7.cell? ⟨gb567, 1, none⟩ = some (.slice A0_1 l0_1.length c0_1) := (blk_cell BK567.out 1).trans rfl; have hcz8_2 : w7.cell? ⟨gb567, 2, none⟩ = some (.slice A0_2 l0_2.length c0_2) := (blk_cell BK567.out 2).trans rfl; have hfz8_0 := blk_frozen BK567.out 0; have hfz8_1 := blk_frozen BK567.out 1; have hfz8_2 := blk_frozen BK567.out 2) | (go_at_call 9; (with_reducible refine (check_Check.calls k a0_0 _ _ l0_1 _ _ l0_2 t569 t570 t571 _ ?side1 ?side2 ?side3 ?side4 A4.out).mono ?_); (case side1 => repeat (first | exact (Kd.C_below HR0_1.out HB.out) | (with_reducible refine Kd.C_alloc ?_ _) | (with_reducible refine Kd.C_drewN ?_ _) | (with_reducible refine Kd.C_drew ?_))); (case side2 => exact HC0_1.out); (case side3 => repeat (first | exact (Kd.C_below HR0_2.out HB.out) | (with_reducible refine Kd.C_alloc ?_ _) | (with_reducible refine Kd.C_drewN ?_ _) | (with_reducible refine Kd.C_drew ?_))); (case side4 => exact HC0_2.out); rintro e w9 ⟨rfl, hb⟩; have n0_ := Aside0.mk (blk_below (g := gb567) (o := .cells #[.int .i64 a0_0, .slice A0_1 l0_1.length c0_1, .slice A0_2 l0_2.length c0_2] 25 (0, 0)) (by (with_reducible repeat (first | refine blk_drewN ?_ _ | refine blk_drew ?_ | refine blk_alloc ?_ _)); exact BK567.out) hb); have n1_ := Aside0.mk (below_step (by repeat (first | (with_reducible first | exact HB.out | apply below_alloc | apply pw_below_drewN | apply below_drew1 | refine below_set ?_ GE567.out) | exact HB.out)) hb); clear BK567; clear HB; have BK567 := n0_; have HB := n1_; clear n0_ n1_; (try clear hb); (try clear hb2); (try clear hk); (try clear hi))); try go_wp2_with (first | ((with_reducible refine gate_dst (N := 1) rfl ?_); (try (refine gate_guard (by rfl) ?_; dsimp only)); refine box_event ?hg (N := 1) ?hd (cs := #[.int .i64 a0_0, .slice A0_1 l0_1.length c0_1, .slice A0_2 l0_2.length c0_2]) (t := 25) ?hr ?_; (case hd => rfl); (case hg => rfl); (case hr => first | (go_simp; done) | (go_simp; rfl)); intro gb567 hg w6 hbox hb; have n0_ := Aside0.mk (below_step (by repeat (first | (with_reducible first | exact HB.out | apply below_alloc | apply pw_below_drewN | apply below_drew1) | exact HB.out)) hb); have n1_ := Aside0.mk (hbox); have n2_ := Aside0.mk ((by rw [hg]; exact (below_size (by repeat (first | (with_reducible first | exact HB.out | apply below_alloc | apply pw_below_drewN | apply below_drew1) | exact HB.out))) : w.heap.size ≤ gb567)); have n3_ := Aside0.mk ((by rw [hg]; exact (below_size (by repeat (first | (with_reducible first | exact HB.out | apply below_alloc | apply pw_below_drewN | apply below_drew1) | exact HB.out))) : w.heap.size ≤ gb567)); clear HB; have HB := n0_; have BK567 := n1_; have GW567 := n2_; have GE567 := n3_; clear n0_ n1_ n2_ n3_; clear hb hbox hg) | (go_at_call 8; (with_reducible refine (casementlaw13_alive.calls k  true _ A2.out (by first | rfl | assumption)).mono ?_); rintro e w7 ⟨rfl, hb⟩; have n0_ := Aside0.mk (blk_below (g := gb567) (o := .cells #[.int .i64 a0_0, .slice A0_1 l0_1.length c0_1, .slice A0_2 l0_2.length c0_2] 25 (0, 0)) (by (with_reducible repeat (first | refine blk_drewN ?_ _ | refine blk_drew ?_ | refine blk_alloc ?_ _)); exact BK567.out) hb); have n1_ := Aside0.mk (below_step (by repeat (first | (with_reducible first | exact HB.out | apply below_alloc | apply pw_below_drewN | apply below_drew1 | refine below_set ?_ GE567.out) | exact HB.out)) hb); clear BK567; clear HB; have BK567 := n0_; have HB := n1_; clear n0_ n1_; (try clear hb); (try clear hb2); (try clear hk); (try clear hi); have hcz8_0 : w7.cell? ⟨gb567, 0, none⟩ = some (.int .i64 a0_0) := (blk_cell BK567.out 0).trans rfl; have hcz8_1 : w7.cell? ⟨gb567, 1, none⟩ = some (.slice A0_1 l0_1.length c0_1) := (blk_cell BK567.out 1).trans rfl; have hcz8_2 : w7.cell? ⟨gb567, 2, none⟩ = some (.slice A0_2 l0_2.length c0_2) := (blk_cell BK567.out 2).trans rfl; have hfz8_0 := blk_frozen BK567.out 0; have hfz8_1 := blk_frozen BK567.out 1; have hfz8_2 := blk_frozen BK567.out 2) | (go_at_call 9; (with_reducible refine (check_Check.calls k a0_0 _ _ l0_1 _ _ l0_2 t569 t570 t571 _ ?side1 ?side2 ?side3 ?side4 A4.out).mono ?_); (case side1 => repeat (first | exact (Kd.C_below HR0_1.out HB.out) | (with_reducible refine Kd.C_alloc ?_ _) | (with_reducible refine Kd.C_drewN ?_ _) | (with_reducible refine Kd.C_drew ?_))); (case side2 => exact HC0_1.out); (case side3 => repeat (first | exact (Kd.C_below HR0_2.out HB.out) | (with_reducible refine Kd.C_alloc ?_ _) | (with_reducible refine Kd.C_drewN ?_ _) | (with_reducible refine Kd.C_drew ?_))); (case side4 => exact HC0_2.out); rintro e w9 ⟨rfl, hb⟩; have n0_ := Aside0.mk (blk_below (g := gb567) (o := .cells #[.int .i64 a0_0, .slice A0_1 l0_1.length c0_1, .slice A0_2 l0_2.length c0_2] 25 (0, 0)) (by (with_reducible repeat (first | refine blk_drewN ?_ _ | refine blk_drew ?_ | refine blk_alloc ?_ _)); exact BK567.out) hb); have n1_ := Aside0.mk (below_step (by repeat (first | (with_reducible first | exact HB.out | apply below_alloc | apply pw_below_drewN | apply below_drew1 | refine below_set ?_ GE567.out) | exact HB.out)) hb); clear BK567; clear HB; have BK567 := n0_; have HB := n1_; clear n0_ n1_; (try clear hb); (try clear hb2); (try clear hk); (try clear hi))))
      go_ret
      exact ⟨by first | rfl | (simp [errW_none, errW_some] <;> rfl) | (simp [*, errW_none, errW_some] <;> rfl), by repeat (first | (with_reducible first | exact HB.out | apply below_alloc | apply pw_below_drewN | apply below_drew1 | refine below_set ?_ GE567.out) | exact HB.out)⟩
    · rw [if_neg c5] at H
      have c5b0 : (!(t569 == 0) || (!(t570 == 0) || (!(t571 == 0)))) = false := by simpa using c5
      clear c5
      have H' := Aside0.mk H
      clear H
      go_enter Try.func5, Try.ntmps5
      go_wp2_with (first | ((with_reducible refine gate_dst (N := 1) rfl ?_); (try (refine gate_guard (by rfl) ?_; dsimp only)); refine box_event ?hg (N := 1) ?hd (cs := #[.int .i64 a0_0, .slice A0_1 l0_1.length c0_1, .slice A0_2 l0_2.length c0_2]) (t := 25) ?hr ?_; (case hd => rfl); (case hg => rfl); (case hr => first | (go_simp; done) | (go_simp; rfl)); intro gb567 hg w10 hbox hb; have n0_ := Aside0.mk (below_step (by repeat (first | (with_reducible first | exact HB.out | apply below_alloc | apply pw_below_drewN | apply below_drew1) | exact HB.out)) hb); have n1_ := Aside0.mk (hbox); have n2_ := Aside0.mk ((by rw [hg]; exact (below_size (by repeat (first | (with_reducible first | exact HB.out | apply below_alloc | apply pw_below_drewN | apply below_drew1) | exact HB.out))) : w.heap.size ≤ gb567)); have n3_ := Aside0.mk ((by rw [hg]; exact (below_size (by repeat (first | (with_reducible first | exact HB.out | apply below_alloc | apply pw_below_drewN | apply below_drew1) | exact HB.out))) : w.heap.size ≤ gb567)); clear HB; have HB := n0_; have BK567 := n1_; have GW567 := n2_; have GE567 := n3_; clear n0_ n1_ n2_ n3_; clear hb hbox hg) | (go_at_call 8; (with_reducible refine (casementlaw13_alive.calls k  true _ A2.out (by first | rfl | assumption)).mono ?_); rintro e w11 ⟨rfl, hb⟩; have n0_ := Aside0.mk (blk_below (g := gb567) (o := .cells #[.int .i64 a0_0, .slice A0_1 l0_1.length c0_1, .slice A0_2 l0_2.length c0_2] 25 (0, 0)) (by (with_reducible repeat (first | refine blk_drewN ?_ _ | refine blk_drew ?_ | refine blk_alloc ?_ _)); exact BK567.out) hb); have n1_ := Aside0.mk (below_step (by repeat (first | (with_reducible first | exact HB.out | apply below_alloc | apply pw_below_drewN | apply below_drew1 | refine below_set ?_ GE567.out) | exact HB.out)) hb); clear BK567; clear HB; have BK567 := n0_; have HB := n1_; clear n0_ n1_; (try clear hb); (try clear hb2); (try clear hk); (try clear hi); have hcz12_0 : w11.cell? ⟨gb567, 0, none⟩ = some (.int .i64 a0_0) := (blk_cell BK567.out 0).trans rfl; have hcz12_1 : w11.cell? ⟨gb567, 1, none⟩ = some (.slice A0_1 l0_1.length c0_1) := (blk_cell BK567.out 1).trans rfl; have hcz12_2 : w11.cell? ⟨gb567, 2, none⟩ = some (.slice A0_2 l0_2.length c0_2) := (blk_cell BK567.out 2).trans rfl; have hfz12_0 := blk_frozen BK567.out 0; have hfz12_1 := blk_frozen BK567.out 1; have hfz12_2 := blk_frozen BK567.out 2) | (go_at_call 9; (with_reducible refine (check_Check.calls k a0_0 _ _ l0_1 _ _ l0_2 t569 t570 t571 _ ?side1 ?side2 ?side3 ?side4 A4.out).mono ?_); (case side1 => repeat (first | exact (Kd.C_below HR0_1.out HB.out) | (with_reducible refine Kd.C_alloc ?_ _) | (with_reducible refine Kd.C_drewN ?_ _) | (with_reducible refine Kd.C_drew ?_))); (case side2 => exact HC0_1.out); (case side3 => repeat (first | exact (Kd.C_below HR0_2.out HB.out) | (with_reducible refine Kd.C_alloc ?_ _) | (with_reducible refine Kd.C_drewN ?_ _) | (with_reducible refine Kd.C_drew ?_))); (case side4 => exact HC0_2.out); rintro e w13 ⟨rfl, hb⟩; have n0_ := Aside0.mk (blk_below (g := gb567) (o := .cells #[.int .i64 a0_0, .slice A0_1 l0_1.length c0_1, .slice A0_2 l0_2.length c0_2] 25 (0, 0)) (by (with_reducible repeat (first | refine blk_drewN ?_ _ | refine blk_drew ?_ | refine blk_alloc ?_ _)); exact BK567.out) hb); have n1_ := Aside0.mk (below_step (by repeat (first | (with_reducible first | exact HB.out | apply below_alloc | apply pw_below_drewN | apply below_drew1 | refine below_set ?_ GE567.out) | exact HB.out)) hb); clear BK567; clear HB; have BK567 := n0_; have HB := n1_; clear n0_ n1_; (try clear hb); (try clear hb2); (try clear hk); (try clear hi); have hcz14_0 : w13.cell? ⟨gb567, 0, none⟩ = some (.int .i64 a0_0) := (blk_cell BK567.out 0).trans rfl; have hcz14_1 : w13.cell? ⟨gb567, 1, none⟩ = some (.slice A0_1 l0_1.length c0_1) := (blk_cell BK567.out 1).trans rfl; have hcz14_2 : w13.cell? ⟨gb567, 2, none⟩ = some (.slice A0_2 l0_2.length c0_2) := (blk_cell BK567.out 2).trans rfl; have hfz14_0 := blk_frozen BK567.out 0; have hfz14_1 := blk_frozen BK567.out 1; have hfz14_2 := blk_frozen BK567.out 2))
      repeat (go_quiet (first | ((with_reducible refine gate_dst (N := 1) rfl ?_); (try (refine gate_guard (by rfl) ?_; dsimp only)); refine box_event ?hg (N := 1) ?hd (cs := #[.int .i64 a0_0, .slice A0_1 l0_1.length c0_1, .slice A0_2 l0_2.length c0_2]) (t := 25) ?hr ?_; (case hd => rfl); (case hg => rfl); (case hr => first | (go_simp; done) | (go_simp; rfl)); intro gb567 hg w10 hbox hb; have n0_ := Aside0.mk (below_step (by repeat (first | (with_reducible first | exact HB.out | apply below_alloc | apply pw_below_drewN | apply below_drew1) | exact HB.out)) hb); have n1_ := Aside0.mk (hbox); have n2_ := Aside0.mk ((by rw [hg]; exact (below_size (by repeat (first | (with_reducible first | exact HB.out | apply below_alloc | apply pw_below_drewN | apply below_drew1) | exact HB.out))) : w.heap.size ≤ gb567)); have n3_ := Aside0.mk ((by rw [hg]; exact (below_size (by repeat (first | (with_reducible first | exact HB.out | apply below_alloc | apply pw_below_drewN | apply below_drew1) | exact HB.out))) : w.heap.size ≤ gb567)); clear HB; have HB := n0_; have BK567 := n1_; have GW567 := n2_; have GE567 := n3_; clear n0_ n1_ n2_ n3_; clear hb hbox hg) | (go_at_call 8; (with_reducible refine (casementlaw13_alive.calls k  true _ A2.out (by first | rfl | assumption)).mono ?_); rintro e w11 ⟨rfl, hb⟩; have n0_ := Aside0.mk (blk_below (g := gb567) (o := .cells #[.int .i64 a0_0, .slice A0_1 l0_1.length c0_1, .slice A0_2 l0_2.length c0_2] 25 (0, 0)) (by (with_reducible repeat (first | refine blk_drewN ?_ _ | refine blk_drew ?_ | refine blk_alloc ?_ _)); exact BK567.out) hb); have n1_ := Aside0.mk (below_step (by repeat (first | (with_reducible first | exact HB.out | apply below_alloc | apply pw_below_drewN | apply below_drew1 | refine below_set ?_ GE567.out) | exact HB.out)) hb); clear BK567; clear HB; have BK567 := n0_; have HB := n1_; clear n0_ n1_; (try clear hb); (try clear hb2); (try clear hk); (try clear hi); have hcz12_0 : w11.cell? ⟨gb567, 0, none⟩ = some (.int .i64 a0_0) := (blk_cell BK567.out 0).trans rfl; have hcz12_1 : w11.cell? ⟨gb567, 1, none⟩ = some (.slice A0_1 l0_1.length c0_1) := (blk_cell BK567.out 1).trans rfl; have hcz12_2 : w11.cell? ⟨gb567, 2, none⟩ = some (.slice A0_2 l0_2.length c0_2) := (blk_cell BK567.out 2).trans rfl; have hfz12_0 := blk_frozen BK567.out 0; have hfz12_1 := blk_frozen BK567.out 1; have hfz12_2 := blk_frozen BK567.out 2) | (go_at_call 9; (with_reducible refine (check_Check.calls k a0_0 _ _ l0_1 _ _ l0_2 t569 t570 t571 _ ?side1 ?side2 ?side3 ?side4 A4.out).mono ?_); (case side1 => repeat (first | exact (Kd.C_below HR0_1.out HB.out) | (with_reducible refine Kd.C_alloc ?_ _) | (with_reducible refine Kd.C_drewN ?_ _) | (with_reducible refine Kd.C_drew ?_))); (case side2 => exact HC0_1.out); (case side3 => repeat (first | exact (Kd.C_below HR0_2.out HB.out) | (with_reducible refine Kd.C_alloc ?_ _) | (with_reducible refine Kd.C_drewN ?_ _) | (with_reducible refine Kd.C_drew ?_))); (case side4 => exact HC0_2.out); rintro e w13 ⟨rfl, hb⟩; have n0_ := Aside0.mk (blk_below (g := gb567) (o := .cells #[.int .i64 a0_0, .slice A0_1 l0_1.length c0_1, .slice A0_2 l0_2.length c0_2] 25 (0, 0)) (by (with_reducible repeat (first | refine blk_drewN ?_ _ | refine blk_drew ?_ | refine blk_alloc ?_ _)); exact BK567.out) hb); have n1_ := Aside0.mk (below_step (by repeat (first | (with_reducible first | exact HB.out | apply below_alloc | apply pw_below_drewN | apply below_drew1 | refine below_set ?_ GE567.out) | exact HB.out)) hb); clear BK567; clear HB; have BK567 := n0_; have HB := n1_; clear n0_ n1_; (try clear hb); (try clear hb2); (try clear hk); (try clear hi); have hcz14_0 : w13.cell? ⟨gb567, 0, none⟩ = some (.int .i64 a0_0) := (blk_cell BK567.out 0).trans rfl; have hcz14_1 : w13.cell? ⟨gb567, 1, none⟩ = some (.slice A0_1 l0_1.length c0_1) := (blk_cell BK567.out 1).trans rfl; have hcz14_2 : w13.cell? ⟨gb567, 2, none⟩ = some (.slice A0_2 l0_2.length c0_2) := (blk_cell BK567.out 2).trans rfl; have hfz14_0 := blk_frozen BK567.out 0; have hfz14_1 := blk_frozen BK567.out 1; have hfz14_2 := blk_frozen BK567.out 2)); try go_wp2_with (first | ((with_reducible refine gate_dst (N := 1) rfl ?_); (try (refine gate_guard (by rfl) ?_; dsimp only)); refine box_event ?hg (N := 1) ?hd (cs := #[.int .i64 a0_0, .slice A0_1 l0_1.length c0_1, .slice A0_2 l0_2.length c0_2]) (t := 25) ?hr ?_; (case hd => rfl); (case hg => rfl); (case hr => first | (go_simp; done) | (go_simp; rfl)); intro gb567 hg w10 hbox hb; have n0_ := Aside0.mk (below_step (by repeat (first | (with_reducible first | exact HB.out | apply below_alloc | apply pw_below_drewN | apply below_drew1) | exact HB.out)) hb); have n1_ := Aside0.mk (hbox); have n2_ := Aside0.mk ((by rw [hg]; exact (below_size (by repeat (first | (with_reducible first | exact HB.out | apply below_alloc | apply pw_below_drewN | apply below_drew1) | exact HB.out))) : w.heap.size ≤ gb567)); have n3_ := Aside0.mk ((by rw [hg]; exact (below_size (by repeat (first | (with_reducible first | exact HB.out | apply below_alloc | apply pw_below_drewN | apply below_drew1) | exact HB.out))) : w.heap.size ≤ gb567)); clear HB; have HB := n0_; have BK567 := n1_; have GW567 := n2_; have GE567 := n3_; clear n0_ n1_ n2_ n3_; clear hb hbox hg) | (go_at_call 8; (with_reducible refine (casementlaw13_alive.calls k  true _ A2.out (by first | rfl | assumption)).mono ?_); rintro e w11 ⟨rfl, hb⟩; have n0_ := Aside0.mk (blk_below (g := gb567) (o := .cells #[.int .i64 a0_0, .slice A0_1 l0_1.length c0_1, .slice A0_2 l0_2.length c0_2] 25 (0, 0)) (by (with_reducible repeat (first | refine blk_drewN ?_ _ | refine blk_drew ?_ | refine blk_alloc ?_ _)); exact BK567.out) hb); have n1_ := Aside0.mk (below_step (by repeat (first | (with_reducible first | exact HB.out | apply below_alloc | apply pw_below_drewN | apply below_drew1 | refine below_set ?_ GE567.out) | exact HB.out)) hb); clear BK567; clear HB; have BK567 := n0_; have HB := n1_; clear n0_ n1_; (try clear hb); (try clear hb2); (try clear hk); (try clear hi); have hcz12_0 : w11.cell? ⟨gb567, 0, none⟩ = some (.int .i64 a0_0) := (blk_cell BK567.out 0).trans rfl; have hcz12_1 : w11.cell? ⟨gb567, 1, none⟩ = some (.slice A0_1 l0_1.length c0_1) := (blk_cell BK567.out 1).trans rfl; have hcz12_2 : w11.cell? ⟨gb567, 2, none⟩ = some (.slice A0_2 l0_2.length c0_2) := (blk_cell BK567.out 2).trans rfl; have hfz12_0 := blk_frozen BK567.out 0; have hfz12_1 := blk_frozen BK567.out 1; have hfz12_2 := blk_frozen BK567.out 2) | (go_at_call 9; (with_reducible refine (check_Check.calls k a0_0 _ _ l0_1 _ _ l0_2 t569 t570 t571 _ ?side1 ?side2 ?side3 ?side4 A4.out).mono ?_); (case side1 => repeat (first | exact (Kd.C_below HR0_1.out HB.out) | (with_reducible refine Kd.C_alloc ?_ _) | (with_reducible refine Kd.C_drewN ?_ _) | (with_reducible refine Kd.C_drew ?_))); (case side2 => exact HC0_1.out); (case side3 => repeat (first | exact (Kd.C_below HR0_2.out HB.out) | (with_reducible refine Kd.C_alloc ?_ _) | (with_reducible refine Kd.C_drewN ?_ _) | (with_reducible refine Kd.C_drew ?_))); (case side4 => exact HC0_2.out); rintro e w13 ⟨rfl, hb⟩; have n0_ := Aside0.mk (blk_below (g := gb567) (o := .cells #[.int .i64 a0_0, .slice A0_1 l0_1.length c0_1, .slice A0_2 l0_2.length c0_2] 25 (0, 0)) (by (with_reducible repeat (first | refine blk_drewN ?_ _ | refine blk_drew ?_ | refine blk_alloc ?_ _)); exact BK567.out) hb); have n1_ := Aside0.mk (below_step (by repeat (first | (with_reducible first | exact HB.out | apply below_alloc | apply pw_below_drewN | apply below_drew1 | refine below_set ?_ GE567.out) | exact HB.out)) hb); clear BK567; clear HB; have BK567 := n0_; have HB := n1_; clear n0_ n1_; (try clear hb); (try clear hb2); (try clear hk); (try clear hi); have hcz14_0 : w13.cell? ⟨gb567, 0, none⟩ = some (.int .i64 a0_0) := (blk_cell BK567.out 0).trans rfl; have hcz14_1 : w13.cell? ⟨gb567, 1, none⟩ = some (.slice A0_1 l0_1.length c0_1) := (blk_cell BK567.out 1).trans rfl; have hcz14_2 : w13.cell? ⟨gb567, 2, none⟩ = some (.slice A0_2 l0_2.length c0_2) := (blk_cell BK567.out 2).trans rfl; have hfz14_0 := blk_frozen BK567.out 0; have hfz14_1 := blk_frozen BK567.out 1; have hfz14_2 := blk_frozen BK567.out 2)))
      go_loopg [21] k (fun kq v21 w' => ∃ (x21_1 : Int), v21 = .int .i64 x21_1 ∧ Aside0 (casementlaw13_CheckSound.l0 kq l0_2 (l0_2.length : Int) x21_1 a0_0 l0_1 l0_2 = some r) ∧ Aside0 (kq ≤ k) ∧ Aside0 (w'.heap[gb567]? = some (.cells #[.int .i64 a0_0, (.slice A0_1 l0_1.length c0_1), (.slice A0_2 l0_2.length c0_2)] 25 (0, 0))) ∧ Aside0 (Below w.heap.size w w'))
      case atStart => exact ⟨(0), (by first | rfl | (simp; done) | (simp [*]; done)), H', ⟨Nat.le_refl _⟩, ⟨by (with_reducible repeat (first | refine blk_drewN ?_ _ | refine blk_drew ?_ | refine blk_alloc ?_ _)); exact BK567.out⟩, ⟨by repeat (first | (with_reducible first | exact HB.out | apply below_alloc | apply pw_below_drewN | apply below_drew1 | refine below_set ?_ GE567.out) | exact HB.out)⟩⟩
      case round =>
        clear H'
        try clear p2
        try clear c3
        try clear c5
        try clear c5b0
        try clear hcz12_0
        try clear hcz12_1
        try clear hcz12_2
        try clear hcz14_0
        try clear hcz14_1
        try clear hcz14_2
        try clear hcz8_0
        try clear hcz8_1
        try clear hcz8_2
        try clear hfz12_0
        try clear hfz12_1
        try clear hfz12_2
        try clear hfz14_0
        try clear hfz14_1
        try clear hfz14_2
        try clear hfz8_0
        try clear hfz8_1
        try clear hfz8_2
        obtain ⟨x21_1, rfl, HA, HK1, BK567, HB⟩ := hrel
        cases gk with
        | zero => exact absurd HA.out (by simp [casementlaw13_CheckSound.l0])
        | succ k1 =>
          have H := HA.out
          clear HA
          simp only [casementlaw13_CheckSound.l0] at H
          by_cases c15 : x21_1 < (l0_2.length : Int)
          · rw [if_pos c15] at H
            have c15b0 : decide (x21_1 < (l0_2.length : Int)) = true := decide_eq_true c15
            clear c15
            by_cases c16 : 0 ≤ x21_1
            · rw [if_pos c16] at H
              have c16b0 : decide (0 ≤ x21_1) = true := decide_eq_true c16
              clear c16
              by_cases c17 : x21_1 < (l0_2.length : Int)
              · rw [if_pos c17] at H
                have c17b0 : decide (x21_1 < (l0_2.length : Int)) = true := decide_eq_true c17
                clear c17
                replace H := Option.bind_eq_some_iff.mp H
                obtain ⟨t574, A180, H⟩ := H
                replace H : (if (t574.length : Int) = (((rd_T42 l0_2 x21_1).f3).length : Int) then (if 0 < (t574.length : Int) then (casementlaw13_CheckSound.j1 k1 x21_1 t574 l0_2 (l0_2.length : Int) x21_1 ((rd t574 0) != 0) a0_0 l0_1 l0_2 ((rd_T42 l0_2 x21_1).f0) ((rd_T42 l0_2 x21_1).f1) ((rd_T42 l0_2 x21_1).f2) ((rd_T42 l0_2 x21_1).f3)) else (none)) else (casementlaw13_CheckSound.j1 k1 x21_1 t574 l0_2 (l0_2.length : Int) x21_1 true a0_0 l0_1 l0_2 ((rd_T42 l0_2 x21_1).f0) ((rd_T42 l0_2 x21_1).f1) ((rd_T42 l0_2 x21_1).f2) ((rd_T42 l0_2 x21_1).f3))) = some r := H
                have A18 := Aside0.mk A180
                clear A180
                have HC19 := Aside0.mk H
                clear H
                have p572 : 0 ≤ (x21_1 : Int) := of_decide_eq_true (by first | (with_reducible assumption) | assumption)
                have q572 : x21_1 < (l0_2.length : Int) := of_decide_eq_true (by first | (with_reducible assumption) | assumption)
                obtain ⟨ad572, A572_3, c572_3, e572, hx572_0, hx572_1, hx572_2, hx572_3, hl572_3, hi572_3⟩ := at_T42 HR0_2.out x21_1 p572 q572
                cases e572
                replace hx572_0 := (HB.out.cell (World.block_lt_of_cell? w _ hx572_0)).trans hx572_0
                replace hx572_1 := (HB.out.cell (World.block_lt_of_cell? w _ hx572_1)).trans hx572_1
                replace hx572_2 := (HB.out.cell (World.block_lt_of_cell? w _ hx572_2)).trans hx572_2
                replace hx572_3 := (HB.out.cell (World.block_lt_of_cell? w _ hx572_3)).trans hx572_3
                have HR572_3 := Aside0.mk hi572_3
                have HC572_3 := Aside0.mk hl572_3
                clear hi572_3 hl572_3
                replace p572 := eq_true p572
                replace q572 := eq_true q572
                go_upto_region 9 with (first | ((with_reducible refine gate_dst (N := 4) rfl ?_); (try (refine gate_guard (by rfl) ?_; dsimp only)); refine box_event ?hg (N := 4) ?hd (cs := #[.int .i64 0, .int .i64 0, .int .i64 0, .slice none 0 0]) (t := 42) ?hr ?_; (case hd => rfl); (case hg => rfl); (case hr => first | (go_simp; done) | (go_simp; rfl)); intro gb573 hg w20 hbox hb; have n0_ := Aside0.mk (blk_below (g := gb567) (o := .cells #[.int .i64 a0_0, .slice A0_1 l0_1.length c0_1, .slice (some ad572) l0_2.length c0_2] 25 (0, 0)) (by (with_reducible repeat (first | refine blk_drewN ?_ _ | refine blk_drew ?_ | refine blk_alloc ?_ _)); exact BK567.out) hb); have n1_ := Aside0.mk (below_step (by repeat (first | (with_reducible first | exact HB.out | apply below_alloc | apply pw_below_drewN | apply below_drew1 | refine below_set ?_ GE567.out) | exact HB.out)) hb); have n2_ := Aside0.mk (hbox); have n3_ := Aside0.mk ((by rw [hg]; exact (below_size (by repeat (first | (with_reducible first | exact HB.out | apply below_alloc | apply pw_below_drewN | apply below_drew1 | refine below_set ?_ GE567.out) | exact HB.out))) : w.heap.size ≤ gb573)); have n4_ := Aside0.mk ((by rw [hg]; exact (below_size (by repeat (first | (with_reducible first | exact HB.out | apply below_alloc | apply pw_below_drewN | apply below_drew1 | refine below_set ?_ GE567.out) | exact HB.out))) : w.heap.size ≤ gb573)); have n5_ := Aside0.mk ((by rw [hg]; exact Nat.ne_of_lt (blk_lt (g := gb567) (o := .cells #[.int .i64 a0_0, .slice A0_1 l0_1.length c0_1, .slice (some ad572) l0_2.length c0_2] 25 (0, 0)) (by (with_reducible repeat (first | refine blk_drewN ?_ _ | refine blk_drew ?_ | refine blk_alloc ?_ _)); exact BK567.out)) : gb567 ≠ gb573)); have n6_ := Aside0.mk ((by rw [hg]; exact Nat.ne_of_gt (blk_lt (g := gb567) (o := .cells #[.int .i64 a0_0, .slice A0_1 l0_1.length c0_1, .slice (some ad572) l0_2.length c0_2] 25 (0, 0)) (by (with_reducible repeat (first | refine blk_drewN ?_ _ | refine blk_drew ?_ | refine blk_alloc ?_ _)); exact BK567.out)) : gb573 ≠ gb567)); clear BK567; clear HB; have BK567 := n0_; have HB := n1_; have BK573 := n2_; have GW573 := n3_; have GE573 := n4_; have NB567_573 := n5_; have NB573_567 := n6_; clear n0_ n1_ n2_ n3_ n4_ n5_ n6_; clear hb hbox hg; have hnb21 := NB573_567.out; have hnc21 := NB567_573.out; have hcz22_0 : w20.cell? ⟨gb573, 0, none⟩ = some (.int .i64 0) := (blk_cell BK573.out 0).trans rfl; have hcz22_1 : w20.cell? ⟨gb573, 1, none⟩ = some (.int .i64 0) := (blk_cell BK573.out 1).trans rfl; have hcz22_2 : w20.cell? ⟨gb573, 2, none⟩ = some (.int .i64 0) := (blk_cell BK573.out 2).trans rfl; have hcz22_3 : w20.cell? ⟨gb573, 3, none⟩ = some (.slice none 0 0) := (blk_cell BK573.out 3).trans rfl; have hfz22_0 := blk_frozen BK573.out 0; have hfz22_1 := blk_frozen BK573.out 1; have hfz22_2 := blk_frozen BK573.out 2; have hfz22_3 := blk_frozen BK573.out 3; have hcz23_0 : w20.cell? ⟨gb567, 0, none⟩ = some (.int .i64 a0_0) := (blk_cell BK567.out 0).trans rfl; have hcz23_1 : w20.cell? ⟨gb567, 1, none⟩ = some (.slice A0_1 l0_1.length c0_1) := (blk_cell BK567.out 1).trans rfl; have hcz23_2 : w20.cell? ⟨gb567, 2, none⟩ = some (.slice (some ad572) l0_2.length c0_2) := (blk_cell BK567.out 2).trans rfl; have hfz23_0 := blk_frozen BK567.out 0; have hfz23_1 := blk_frozen BK567.out 1; have hfz23_2 := blk_frozen BK567.out 2) | (go_at_call 11; (with_reducible refine (check_Heights.calls k1 a0_0 _ _ l0_1 _ _ l0_2 x21_1 t574 _ ?side1 ?side2 ?side3 ?side4 A18.out).mono ?_); (case side1 => exact Kd.C_below HR0_1.out (by repeat (first | (with_reducible first | exact HB.out | apply below_alloc | apply pw_below_drewN | apply below_drew1 | refine below_set ?_ GE567.out | refine below_set ?_ GE573.out) | exact HB.out))); (case side2 => exact HC0_1.out); (case side3 => exact Kd.C_below HR0_2.out (by repeat (first | (with_reducible first | exact HB.out | apply below_alloc | apply pw_below_drewN | apply below_drew1 | refine below_set ?_ GE567.out | refine below_set ?_ GE573.out) | exact HB.out))); (case side4 => exact HC0_2.out); rintro e w24 ⟨v575, rfl, ho0, hb⟩; have n0_ := Aside0.mk (Kd.R_lower ho0 (below_size (by repeat (first | (with_reducible first | exact HB.out | apply below_alloc | apply pw_below_drewN | apply below_drew1 | refine below_set ?_ GE567.out | refine below_set ?_ GE573.out) | exact HB.out)))); have n1_ := Aside0.mk (blk_below (g := gb567) (o := .cells #[.int .i64 a0_0, .slice A0_1 l0_1.length c0_1, .slice (some ad572) l0_2.length c0_2] 25 (0, 0)) (by (with_reducible repeat (first | refine blk_drewN ?_ _ | refine blk_drew ?_ | refine blk_alloc ?_ _)); refine blk_far ?_ NB567_573.out _; (with_reducible repeat (first | refine blk_drewN ?_ _ | refine blk_drew ?_ | refine blk_alloc ?_ _)); refine blk_far ?_ NB567_573.out _; (with_reducible repeat (first | refine blk_drewN ?_ _ | refine blk_drew ?_ | refine blk_alloc ?_ _)); refine blk_far ?_ NB567_573.out _; (with_reducible repeat (first | refine blk_drewN ?_ _ | refine blk_drew ?_ | refine blk_alloc ?_ _)); refine blk_far ?_ NB567_573.out _; (with_reducible repeat (first | refine blk_drewN ?_ _ | refine blk_drew ?_ | refine blk_alloc ?_ _)); exact BK567.out) hb); have n2_ := Aside0.mk (blk_below (g := gb573) (o := .cells #[.int .i64 ((rd_T42 l0_2 x21_1).f0), .int .i64 ((rd_T42 l0_2 x21_1).f1), .int .i64 ((rd_T42 l0_2 x21_1).f2), .slice A572_3 ((rd_T42 l0_2 x21_1).f3).length c572_3] 42 (0, 0)) (by (with_reducible repeat (first | refine blk_drewN ?_ _ | refine blk_drew ?_ | refine blk_alloc ?_ _)); refine blk_put (cs := #[.int .i64 ((rd_T42 l0_2 x21_1).f0), .int .i64 ((rd_T42 l0_2 x21_1).f1), .int .i64 ((rd_T42 l0_2 x21_1).f2), .slice none 0 0]) ?_ 3 _ rfl; (with_reducible repeat (first | refine blk_drewN ?_ _ | refine blk_drew ?_ | refine blk_alloc ?_ _)); refine blk_put (cs := #[.int .i64 ((rd_T42 l0_2 x21_1).f0), .int .i64 ((rd_T42 l0_2 x21_1).f1), .int .i64 0, .slice none 0 0]) ?_ 2 _ rfl; (with_reducible repeat (first | refine blk_drewN ?_ _ | refine blk_drew ?_ | refine blk_alloc ?_ _)); refine blk_put (cs := #[.int .i64 ((rd_T42 l0_2 x21_1).f0), .int .i64 0, .int .i64 0, .slice none 0 0]) ?_ 1 _ rfl; (with_reducible repeat (first | refine blk_drewN ?_ _ | refine blk_drew ?_ | refine blk_alloc ?_ _)); refine blk_put (cs := #[.int .i64 0, .int .i64 0, .int .i64 0, .slice none 0 0]) ?_ 0 _ rfl; (with_reducible repeat (first | refine blk_drewN ?_ _ | refine blk_drew ?_ | refine blk_alloc ?_ _)); exact BK573.out) hb); have n3_ := Aside0.mk (below_step (by repeat (first | (with_reducible first | exact HB.out | apply below_alloc | apply pw_below_drewN | apply below_drew1 | refine below_set ?_ GE567.out | refine below_set ?_ GE573.out) | exact HB.out)) hb); clear BK567; clear BK573; clear HB; have HO576 := n0_; have BK567 := n1_; have BK573 := n2_; have HB := n3_; clear n0_ n1_ n2_ n3_; (try clear hb); (try clear hb2); (try clear hk); (try clear hi); (try clear ho0)))
                repeat (go_quiet (first | ((with_reducible refine gate_dst (N := 4) rfl ?_); (try (refine gate_guard (by rfl) ?_; dsimp only)); refine box_event ?hg (N := 4) ?hd (cs := #[.int .i64 0, .int .i64 0, .int .i64 0, .slice none 0 0]) (t := 42) ?hr ?_; (case hd => rfl); (case hg => rfl); (case hr => first | (go_simp; done) | (go_simp; rfl)); intro gb573 hg w20 hbox hb; have n0_ := Aside0.mk (blk_below (g := gb567) (o := .cells #[.int .i64 a0_0, .slice A0_1 l0_1.length c0_1, .slice (some ad572) l0_2.length c0_2] 25 (0, 0)) (by (with_reducible repeat (first | refine blk_drewN ?_ _ | refine blk_drew ?_ | refine blk_alloc ?_ _)); exact BK567.out) hb); have n1_ := Aside0.mk (below_step (by repeat (first | (with_reducible first | exact HB.out | apply below_alloc | apply pw_below_drewN | apply below_drew1 | refine below_set ?_ GE567.out) | exact HB.out)) hb); have n2_ := Aside0.mk (hbox); have n3_ := Aside0.mk ((by rw [hg]; exact (below_size (by repeat (first | (with_reducible first | exact HB.out | apply below_alloc | apply pw_below_drewN | apply below_drew1 | refine below_set ?_ GE567.out) | exact HB.out))) : w.heap.size ≤ gb573)); have n4_ := Aside0.mk ((by rw [hg]; exact (below_size (by repeat (first | (with_reducible first | exact HB.out | apply below_alloc | apply pw_below_drewN | apply below_drew1 | refine below_set ?_ GE567.out) | exact HB.out))) : w.heap.size ≤ gb573)); have n5_ := Aside0.mk ((by rw [hg]; exact Nat.ne_of_lt (blk_lt (g := gb567) (o := .cells #[.int .i64 a0_0, .slice A0_1 l0_1.length c0_1, .slice (some ad572) l0_2.length c0_2] 25 (0, 0)) (by (with_reducible repeat (first | refine blk_drewN ?_ _ | refine blk_drew ?_ | refine blk_alloc ?_ _)); exact BK567.out)) : gb567 ≠ gb573)); have n6_ := Aside0.mk ((by rw [hg]; exact Nat.ne_of_gt (blk_lt (g := gb567) (o := .cells #[.int .i64 a0_0, .slice A0_1 l0_1.length c0_1, .slice (some ad572) l0_2.length c0_2] 25 (0, 0)) (by (with_reducible repeat (first | refine blk_drewN ?_ _ | refine blk_drew ?_ | refine blk_alloc ?_ _)); exact BK567.out)) : gb573 ≠ gb567)); clear BK567; clear HB; have BK567 := n0_; have HB := n1_; have BK573 := n2_; have GW573 := n3_; have GE573 := n4_; have NB567_573 := n5_; have NB573_567 := n6_; clear n0_ n1_ n2_ n3_ n4_ n5_ n6_; clear hb hbox hg; have hnb21 := NB573_567.out; have hnc21 := NB567_573.out; have hcz22_0 : w20.cell? ⟨gb573, 0, none⟩ = some (.int .i64 0) := (blk_cell BK573.out 0).trans rfl; have hcz22_1 : w20.cell? ⟨gb573, 1, none⟩ = some (.int .i64 0) := (blk_cell BK573.out 1).trans rfl; have hcz22_2 : w20.cell? ⟨gb573, 2, none⟩ = some (.int .i64 0) := (blk_cell BK573.out 2).trans rfl; have hcz22_3 : w20.cell? ⟨gb573, 3, none⟩ = some (.slice none 0 0) := (blk_cell BK573.out 3).trans rfl; have hfz22_0 := blk_frozen BK573.out 0; have hfz22_1 := blk_frozen BK573.out 1; have hfz22_2 := blk_frozen BK573.out 2; have hfz22_3 := blk_frozen BK573.out 3; have hcz23_0 : w20.cell? ⟨gb567, 0, none⟩ = some (.int .i64 a0_0) := (blk_cell BK567.out 0).trans rfl; have hcz23_1 : w20.cell? ⟨gb567, 1, none⟩ = some (.slice A0_1 l0_1.length c0_1) := (blk_cell BK567.out 1).trans rfl; have hcz23_2 : w20.cell? ⟨gb567, 2, none⟩ = some (.slice (some ad572) l0_2.length c0_2) := (blk_cell BK567.out 2).trans rfl; have hfz23_0 := blk_frozen BK567.out 0; have hfz23_1 := blk_frozen BK567.out 1; have hfz23_2 := blk_frozen BK567.out 2) | (go_at_call 11; (with_reducible refine (check_Heights.calls k1 a0_0 _ _ l0_1 _ _ l0_2 x21_1 t574 _ ?side1 ?side2 ?side3 ?side4 A18.out).mono ?_); (case side1 => exact Kd.C_below HR0_1.out (by repeat (first | (with_reducible first | exact HB.out | apply below_alloc | apply pw_below_drewN | apply below_drew1 | refine below_set ?_ GE567.out | refine below_set ?_ GE573.out) | exact HB.out))); (case side2 => exact HC0_1.out); (case side3 => exact Kd.C_below HR0_2.out (by repeat (first | (with_reducible first | exact HB.out | apply below_alloc | apply pw_below_drewN | apply below_drew1 | refine below_set ?_ GE567.out | refine below_set ?_ GE573.out) | exact HB.out))); (case side4 => exact HC0_2.out); rintro e w24 ⟨v575, rfl, ho0, hb⟩; have n0_ := Aside0.mk (Kd.R_lower ho0 (below_size (by repeat (first | (with_reducible first | exact HB.out | apply below_alloc | apply pw_below_drewN | apply below_drew1 | refine below_set ?_ GE567.out | refine below_set ?_ GE573.out) | exact HB.out)))); have n1_ := Aside0.mk (blk_below (g := gb567) (o := .cells #[.int .i64 a0_0, .slice A0_1 l0_1.length c0_1, .slice (some ad572) l0_2.length c0_2] 25 (0, 0)) (by (with_reducible repeat (first | refine blk_drewN ?_ _ | refine blk_drew ?_ | refine blk_alloc ?_ _)); refine blk_far ?_ NB567_573.out _; (with_reducible repeat (first | refine blk_drewN ?_ _ | refine blk_drew ?_ | refine blk_alloc ?_ _)); refine blk_far ?_ NB567_573.out _; (with_reducible repeat (first | refine blk_drewN ?_ _ | refine blk_drew ?_ | refine blk_alloc ?_ _)); refine blk_far ?_ NB567_573.out _; (with_reducible repeat (first | refine blk_drewN ?_ _ | refine blk_drew ?_ | refine blk_alloc ?_ _)); refine blk_far ?_ NB567_573.out _; (with_reducible repeat (first | refine blk_drewN ?_ _ | refine blk_drew ?_ | refine blk_alloc ?_ _)); exact BK567.out) hb); have n2_ := Aside0.mk (blk_below (g := gb573) (o := .cells #[.int .i64 ((rd_T42 l0_2 x21_1).f0), .int .i64 ((rd_T42 l0_2 x21_1).f1), .int .i64 ((rd_T42 l0_2 x21_1).f2), .slice A572_3 ((rd_T42 l0_2 x21_1).f3).length c572_3] 42 (0, 0)) (by (with_reducible repeat (first | refine blk_drewN ?_ _ | refine blk_drew ?_ | refine blk_alloc ?_ _)); refine blk_put (cs := #[.int .i64 ((rd_T42 l0_2 x21_1).f0), .int .i64 ((rd_T42 l0_2 x21_1).f1), .int .i64 ((rd_T42 l0_2 x21_1).f2), .slice none 0 0]) ?_ 3 _ rfl; (with_reducible repeat (first | refine blk_drewN ?_ _ | refine blk_drew ?_ | refine blk_alloc ?_ _)); refine blk_put (cs := #[.int .i64 ((rd_T42 l0_2 x21_1).f0), .int .i64 ((rd_T42 l0_2 x21_1).f1), .int .i64 0, .slice none 0 0]) ?_ 2 _ rfl; (with_reducible repeat (first | refine blk_drewN ?_ _ | refine blk_drew ?_ | refine blk_alloc ?_ _)); refine blk_put (cs := #[.int .i64 ((rd_T42 l0_2 x21_1).f0), .int .i64 0, .int .i64 0, .slice none 0 0]) ?_ 1 _ rfl; (with_reducible repeat (first | refine blk_drewN ?_ _ | refine blk_drew ?_ | refine blk_alloc ?_ _)); refine blk_put (cs := #[.int .i64 0, .int .i64 0, .int .i64 0, .slice none 0 0]) ?_ 0 _ rfl; (with_reducible repeat (first | refine blk_drewN ?_ _ | refine blk_drew ?_ | refine blk_alloc ?_ _)); exact BK573.out) hb); have n3_ := Aside0.mk (below_step (by repeat (first | (with_reducible first | exact HB.out | apply below_alloc | apply pw_below_drewN | apply below_drew1 | refine below_set ?_ GE567.out | refine below_set ?_ GE573.out) | exact HB.out)) hb); clear BK567; clear BK573; clear HB; have HO576 := n0_; have BK567 := n1_; have BK573 := n2_; have HB := n3_; clear n0_ n1_ n2_ n3_; (try clear hb); (try clear hb2); (try clear hk); (try clear hi); (try clear ho0))); go_upto_region 9 with (first | ((with_reducible refine gate_dst (N := 4) rfl ?_); (try (refine gate_guard (by rfl) ?_; dsimp only)); refine box_event ?hg (N := 4) ?hd (cs := #[.int .i64 0, .int .i64 0, .int .i64 0, .slice none 0 0]) (t := 42) ?hr ?_; (case hd => rfl); (case hg => rfl); (case hr => first | (go_simp; done) | (go_simp; rfl)); intro gb573 hg w20 hbox hb; have n0_ := Aside0.mk (blk_below (g := gb567) (o := .cells #[.int .i64 a0_0, .slice A0_1 l0_1.length c0_1, .slice (some ad572) l0_2.length c0_2] 25 (0, 0)) (by (with_reducible repeat (first | refine blk_drewN ?_ _ | refine blk_drew ?_ | refine blk_alloc ?_ _)); exact BK567.out) hb); have n1_ := Aside0.mk (below_step (by repeat (first | (with_reducible first | exact HB.out | apply below_alloc | apply pw_below_drewN | apply below_drew1 | refine below_set ?_ GE567.out) | exact HB.out)) hb); have n2_ := Aside0.mk (hbox); have n3_ := Aside0.mk ((by rw [hg]; exact (below_size (by repeat (first | (with_reducible first | exact HB.out | apply below_alloc | apply pw_below_drewN | apply below_drew1 | refine below_set ?_ GE567.out) | exact HB.out))) : w.heap.size ≤ gb573)); have n4_ := Aside0.mk ((by rw [hg]; exact (below_size (by repeat (first | (with_reducible first | exact HB.out | apply below_alloc | apply pw_below_drewN | apply below_drew1 | refine below_set ?_ GE567.out) | exact HB.out))) : w.heap.size ≤ gb573)); have n5_ := Aside0.mk ((by rw [hg]; exact Nat.ne_of_lt (blk_lt (g := gb567) (o := .cells #[.int .i64 a0_0, .slice A0_1 l0_1.length c0_1, .slice (some ad572) l0_2.length c0_2] 25 (0, 0)) (by (with_reducible repeat (first | refine blk_drewN ?_ _ | refine blk_drew ?_ | refine blk_alloc ?_ _)); exact BK567.out)) : gb567 ≠ gb573)); have n6_ := Aside0.mk ((by rw [hg]; exact Nat.ne_of_gt (blk_lt (g := gb567) (o := .cells #[.int .i64 a0_0, .slice A0_1 l0_1.length c0_1, .slice (some ad572) l0_2.length c0_2] 25 (0, 0)) (by (with_reducible repeat (first | refine blk_drewN ?_ _ | refine blk_drew ?_ | refine blk_alloc ?_ _)); exact BK567.out)) : gb573 ≠ gb567)); clear BK567; clear HB; have BK567 := n0_; have HB := n1_; have BK573 := n2_; have GW573 := n3_; have GE573 := n4_; have NB567_573 := n5_; have NB573_567 := n6_; clear n0_ n1_ n2_ n3_ n4_ n5_ n6_; clear hb hbox hg; have hnb21 := NB573_567.out; have hnc21 := NB567_573.out; have hcz22_0 : w20.cell? ⟨gb573, 0, none⟩ = some (.int .i64 0) := (blk_cell BK573.out 0).trans rfl; have hcz22_1 : w20.cell? ⟨gb573, 1, none⟩ = some (.int .i64 0) := (blk_cell BK573.out 1).trans rfl; have hcz22_2 : w20.cell? ⟨gb573, 2, none⟩ = some (.int .i64 0) := (blk_cell BK573.out 2).trans rfl; have hcz22_3 : w20.cell? ⟨gb573, 3, none⟩ = some (.slice none 0 0) := (blk_cell BK573.out 3).trans rfl; have hfz22_0 := blk_frozen BK573.out 0; have hfz22_1 := blk_frozen BK573.out 1; have hfz22_2 := blk_frozen BK573.out 2; have hfz22_3 := blk_frozen BK573.out 3; have hcz23_0 : w20.cell? ⟨gb567, 0, none⟩ = some (.int .i64 a0_0) := (blk_cell BK567.out 0).trans rfl; have hcz23_1 : w20.cell? ⟨gb567, 1, none⟩ = some (.slice A0_1 l0_1.length c0_1) := (blk_cell BK567.out 1).trans rfl; have hcz23_2 : w20.cell? ⟨gb567, 2, none⟩ = some (.slice (some ad572) l0_2.length c0_2) := (blk_cell BK567.out 2).trans rfl; have hfz23_0 := blk_frozen BK567.out 0; have hfz23_1 := blk_frozen BK567.out 1; have hfz23_2 := blk_frozen BK567.out 2) | (go_at_call 11; (with_reducible refine (check_Heights.calls k1 a0_0 _ _ l0_1 _ _ l0_2 x21_1 t574 _ ?side1 ?side2 ?side3 ?side4 A18.out).mono ?_); (case side1 => exact Kd.C_below HR0_1.out (by repeat (first | (with_reducible first | exact HB.out | apply below_alloc | apply pw_below_drewN | apply below_drew1 | refine below_set ?_ GE567.out | refine below_set ?_ GE573.out) | exact HB.out))); (case side2 => exact HC0_1.out); (case side3 => exact Kd.C_below HR0_2.out (by repeat (first | (with_reducible first | exact HB.out | apply below_alloc | apply pw_below_drewN | apply below_drew1 | refine below_set ?_ GE567.out | refine below_set ?_ GE573.out) | exact HB.out))); (case side4 => exact HC0_2.out); rintro e w24 ⟨v575, rfl, ho0, hb⟩; have n0_ := Aside0.mk (Kd.R_lower ho0 (below_size (by repeat (first | (with_reducible first | exact HB.out | apply below_alloc | apply pw_below_drewN | apply below_drew1 | refine below_set ?_ GE567.out | refine below_set ?_ GE573.out) | exact HB.out)))); have n1_ := Aside0.mk (blk_below (g := gb567) (o := .cells #[.int .i64 a0_0, .slice A0_1 l0_1.length c0_1, .slice (some ad572) l0_2.length c0_2] 25 (0, 0)) (by (with_reducible repeat (first | refine blk_drewN ?_ _ | refine blk_drew ?_ | refine blk_alloc ?_ _)); refine blk_far ?_ NB567_573.out _; (with_reducible repeat (first | refine blk_drewN ?_ _ | refine blk_drew ?_ | refine blk_alloc ?_ _)); refine blk_far ?_ NB567_573.out _; (with_reducible repeat (first | refine blk_drewN ?_ _ | refine blk_drew ?_ | refine blk_alloc ?_ _)); refine blk_far ?_ NB567_573.out _; (with_reducible repeat (first | refine blk_drewN ?_ _ | refine blk_drew ?_ | refine blk_alloc ?_ _)); refine blk_far ?_ NB567_573.out _; (with_reducible repeat (first | refine blk_drewN ?_ _ | refine blk_drew ?_ | refine blk_alloc ?_ _)); exact BK567.out) hb); have n2_ := Aside0.mk (blk_below (g := gb573) (o := .cells #[.int .i64 ((rd_T42 l0_2 x21_1).f0), .int .i64 ((rd_T42 l0_2 x21_1).f1), .int .i64 ((rd_T42 l0_2 x21_1).f2), .slice A572_3 ((rd_T42 l0_2 x21_1).f3).length c572_3] 42 (0, 0)) (by (with_reducible repeat (first | refine blk_drewN ?_ _ | refine blk_drew ?_ | refine blk_alloc ?_ _)); refine blk_put (cs := #[.int .i64 ((rd_T42 l0_2 x21_1).f0), .int .i64 ((rd_T42 l0_2 x21_1).f1), .int .i64 ((rd_T42 l0_2 x21_1).f2), .slice none 0 0]) ?_ 3 _ rfl; (with_reducible repeat (first | refine blk_drewN ?_ _ | refine blk_drew ?_ | refine blk_alloc ?_ _)); refine blk_put (cs := #[.int .i64 ((rd_T42 l0_2 x21_1).f0), .int .i64 ((rd_T42 l0_2 x21_1).f1), .int .i64 0, .slice none 0 0]) ?_ 2 _ rfl; (with_reducible repeat (first | refine blk_drewN ?_ _ | refine blk_drew ?_ | refine blk_alloc ?_ _)); refine blk_put (cs := #[.int .i64 ((rd_T42 l0_2 x21_1).f0), .int .i64 0, .int .i64 0, .slice none 0 0]) ?_ 1 _ rfl; (with_reducible repeat (first | refine blk_drewN ?_ _ | refine blk_drew ?_ | refine blk_alloc ?_ _)); refine blk_put (cs := #[.int .i64 0, .int .i64 0, .int .i64 0, .slice none 0 0]) ?_ 0 _ rfl; (with_reducible repeat (first | refine blk_drewN ?_ _ | refine blk_drew ?_ | refine blk_alloc ?_ _)); exact BK573.out) hb); have n3_ := Aside0.mk (below_step (by repeat (first | (with_reducible first | exact HB.out | apply below_alloc | apply pw_below_drewN | apply below_drew1 | refine below_set ?_ GE567.out | refine below_set ?_ GE573.out) | exact HB.out)) hb); clear BK567; clear BK573; clear HB; have HO576 := n0_; have BK567 := n1_; have BK573 := n2_; have HB := n3_; clear n0_ n1_ n2_ n3_; (try clear hb); (try clear hb2); (try clear hk); (try clear hi); (try clear ho0))))
                (try simp only [Act.put, List.setIfInBounds_toArray, List.set_cons_zero, List.set_cons_succ])
                go_cut [40] (fun v40 wc => ∃ (kq : Nat) (x40_18 : Bool), v40 = .bool x40_18 ∧ Aside0 (casementlaw13_CheckSound.j1 kq x21_1 t574 l0_2 (l0_2.length : Int) x21_1 x40_18 a0_0 l0_1 l0_2 ((rd_T42 l0_2 x21_1).f0) ((rd_T42 l0_2 x21_1).f1) ((rd_T42 l0_2 x21_1).f2) ((rd_T42 l0_2 x21_1).f3) = some r) ∧ Aside0 (kq ≤ k1) ∧ Aside0 (Kd.R (Kd.int .i64) 3 wc w.heap.size (fun _ => True) v575 t574) ∧ Aside0 (wc.heap[gb567]? = some (.cells #[.int .i64 a0_0, (.slice A0_1 l0_1.length c0_1), (.slice (some ad572) l0_2.length c0_2)] 25 (0, 0))) ∧ Aside0 (wc.heap[gb573]? = some (.cells #[.int .i64 ((rd_T42 l0_2 x21_1).f0), .int .i64 ((rd_T42 l0_2 x21_1).f1), .int .i64 ((rd_T42 l0_2 x21_1).f2), (.slice A572_3 ((rd_T42 l0_2 x21_1).f3).length c572_3)] 42 (0, 0))) ∧ Aside0 (Below w.heap.size w wc))
                case first =>
                  have H := HC19.out
                  clear HC19
                  by_cases c25 : (t574.length : Int) = (((rd_T42 l0_2 x21_1).f3).length : Int)
                  · rw [if_pos c25] at H
                    have c25b0 : ((t574.length : Int) == (((rd_T42 l0_2 x21_1).f3).length : Int)) = true := beq_iff_eq.mpr c25
                    have c25b1 : ((t574.length : Int) != (((rd_T42 l0_2 x21_1).f3).length : Int)) = false := bne_eq_false_iff_eq.mpr c25
                    have c25b2 : (t574.length == ((rd_T42 l0_2 x21_1).f3).length) = true := by first | simpa using c25 | (simp at c25 ⊢; omega)
                    clear c25
                    (first | rw [c25b0] | (simp only [i64_w, i32_w]; rw [c25b0]) | skip)
                    by_cases c26 : 0 < (t574.length : Int)
                    · rw [if_pos c26] at H
                      have c26b0 : decide (0 < (t574.length : Int)) = true := decide_eq_true c26
                      have c26b1 : decide (0 < t574.length) = true := decide_eq_true (by omega)
                      clear c26
                      have H' := Aside0.mk H
                      clear H
                      obtain ⟨Ao27, co27, eo27⟩ := Kd.R_slice HO576.out
                      subst eo27
                      have hnb28 := NB573_567.out
                      have hnc28 := NB567_573.out
                      have hcz29_0 : w24.cell? ⟨gb573, 0, none⟩ = some (.int .i64 ((rd_T42 l0_2 x21_1).f0)) := (blk_cell BK573.out 0).trans rfl
                      have hcz29_1 : w24.cell? ⟨gb573, 1, none⟩ = some (.int .i64 ((rd_T42 l0_2 x21_1).f1)) := (blk_cell BK573.out 1).trans rfl
                      have hcz29_2 : w24.cell? ⟨gb573, 2, none⟩ = some (.int .i64 ((rd_T42 l0_2 x21_1).f2)) := (blk_cell BK573.out 2).trans rfl
                      have hcz29_3 : w24.cell? ⟨gb573, 3, none⟩ = some (.slice A572_3 ((rd_T42 l0_2 x21_1).f3).length c572_3) := (blk_cell BK573.out 3).trans rfl
                      have hfz29_0 := blk_frozen BK573.out 0
                      have hfz29_1 := blk_frozen BK573.out 1
                      have hfz29_2 := blk_frozen BK573.out 2
                      have hfz29_3 := blk_frozen BK573.out 3
                      have p577 : 0 ≤ (0 : Int) := (by omega)
                      have q577 : 0 < (t574.length : Int) := of_decide_eq_true (by first | (with_reducible assumption) | assumption)
                      obtain ⟨ad577, e577, hx577_0⟩ := Kd.at_int (Kd.R_reads' HO576.out).2.2 0 p577 q577
                      cases e577
                      have qi577 : (0 < t574.length) = True := eq_true (by omega)
                      (try rw [show ((0 : Int)).toNat = 0 from rfl] at hx577_0)
                      (try rw [Addr.add_zero'] at hx577_0)
                      replace p577 := eq_true p577
                      replace q577 := eq_true q577
                      go_wp2
                      repeat (go_quiet (fail); try go_wp2)
                      go_meet
                      case rel => exact ⟨_, (((rd t574 0) != 0)), (by first | rfl | (simp; done) | (simp [*]; done)), H', ⟨by have := HK1.out; first | omega | exact Nat.le_refl _⟩, ⟨by (with_reducible repeat (first | apply Kd.R_alloc | apply Kd.R_drewN | apply Kd.R_drew)); exact HO576.out⟩, ⟨by (with_reducible repeat (first | refine blk_drewN ?_ _ | refine blk_drew ?_ | refine blk_alloc ?_ _)); exact BK567.out⟩, ⟨by (with_reducible repeat (first | refine blk_drewN ?_ _ | refine blk_drew ?_ | refine blk_alloc ?_ _)); exact BK573.out⟩, ⟨by repeat (first | (with_reducible first | exact HB.out | apply below_alloc | apply pw_below_drewN | apply below_drew1 | refine below_set ?_ GE567.out | refine below_set ?_ GE573.out) | exact HB.out)⟩⟩
                    · rw [if_neg c26] at H
                      exact absurd H (by simp)
                  · rw [if_neg c25] at H
                    have c25b0 : ((t574.length : Int) == (((rd_T42 l0_2 x21_1).f3).length : Int)) = false := beq_eq_false_iff_ne.mpr c25
                    have c25b1 : ((t574.length : Int) != (((rd_T42 l0_2 x21_1).f3).length : Int)) = true := bne_iff_ne.mpr c25
                    have c25b2 : (t574.length == ((rd_T42 l0_2 x21_1).f3).length) = false := by first | simpa using c25 | (simp at c25 ⊢; omega)
                    (first | rw [c25b0] | (simp only [i64_w, i32_w]; rw [c25b0]) | skip)
                    have H' := Aside0.mk H
                    clear H
                    obtain ⟨Ao30, co30, eo30⟩ := Kd.R_slice HO576.out
                    subst eo30
                    have hnb31 := NB573_567.out
                    have hnc31 := NB567_573.out
                    have hcz32_0 : w24.cell? ⟨gb573, 0, none⟩ = some (.int .i64 ((rd_T42 l0_2 x21_1).f0)) := (blk_cell BK573.out 0).trans rfl
                    have hcz32_1 : w24.cell? ⟨gb573, 1, none⟩ = some (.int .i64 ((rd_T42 l0_2 x21_1).f1)) := (blk_cell BK573.out 1).trans rfl
                    have hcz32_2 : w24.cell? ⟨gb573, 2, none⟩ = some (.int .i64 ((rd_T42 l0_2 x21_1).f2)) := (blk_cell BK573.out 2).trans rfl
                    have hcz32_3 : w24.cell? ⟨gb573, 3, none⟩ = some (.slice A572_3 ((rd_T42 l0_2 x21_1).f3).length c572_3) := (blk_cell BK573.out 3).trans rfl
                    have hfz32_0 := blk_frozen BK573.out 0
                    have hfz32_1 := blk_frozen BK573.out 1
                    have hfz32_2 := blk_frozen BK573.out 2
                    have hfz32_3 := blk_frozen BK573.out 3
                    go_wp2
                    repeat (go_quiet (fail); try go_wp2)
                    go_meet
                    case rel => exact ⟨_, (true), (by first | rfl | (simp; done) | (simp [*]; done)), H', ⟨by have := HK1.out; first | omega | exact Nat.le_refl _⟩, ⟨by (with_reducible repeat (first | apply Kd.R_alloc | apply Kd.R_drewN | apply Kd.R_drew)); exact HO576.out⟩, ⟨by (with_reducible repeat (first | refine blk_drewN ?_ _ | refine blk_drew ?_ | refine blk_alloc ?_ _)); exact BK567.out⟩, ⟨by (with_reducible repeat (first | refine blk_drewN ?_ _ | refine blk_drew ?_ | refine blk_alloc ?_ _)); exact BK573.out⟩, ⟨by repeat (first | (with_reducible first | exact HB.out | apply below_alloc | apply pw_below_drewN | apply below_drew1 | refine below_set ?_ GE567.out | refine below_set ?_ GE573.out) | exact HB.out)⟩⟩
                case rest =>
                  clear HC19
                  try clear c1
                  try clear c2
                  try clear p2
                  try clear c3
                  try clear c5
                  try clear c5b0
                  try clear p5
                  try clear q5
                  try clear hx5
                  try clear qi5
                  try clear c15
                  try clear c15b0
                  try clear c16
                  try clear c16b0
                  try clear c17
                  try clear c17b0
                  try clear c21
                  try clear c25
                  try clear c25b0
                  try clear c25b1
                  try clear c25b2
                  try clear c26
                  try clear c26b0
                  try clear c26b1
                  try clear c28
                  try clear c31
                  try clear hcz12_0
                  try clear hcz12_1
                  try clear hcz12_2
                  try clear hcz14_0
                  try clear hcz14_1
                  try clear hcz14_2
                  try clear hcz22_0
                  try clear hcz22_1
                  try clear hcz22_2
                  try clear hcz22_3
                  try clear hcz23_0
                  try clear hcz23_1
                  try clear hcz23_2
                  try clear hcz29_0
                  try clear hcz29_1
                  try clear hcz29_2
                  try clear hcz29_3
                  try clear hcz32_0
                  try clear hcz32_1
                  try clear hcz32_2
                  try clear hcz32_3
                  try clear hcz8_0
                  try clear hcz8_1
                  try clear hcz8_2
                  try clear hfz12_0
                  try clear hfz12_1
                  try clear hfz12_2
                  try clear hfz14_0
                  try clear hfz14_1
                  try clear hfz14_2
                  try clear hfz22_0
                  try clear hfz22_1
                  try clear hfz22_2
                  try clear hfz22_3
                  try clear hfz23_0
                  try clear hfz23_1
                  try clear hfz23_2
                  try clear hfz29_0
                  try clear hfz29_1
                  try clear hfz29_2
                  try clear hfz29_3
                  try clear hfz32_0
                  try clear hfz32_1
                  try clear hfz32_2
                  try clear hfz32_3
                  try clear hfz8_0
                  try clear hfz8_1
                  try clear hfz8_2
                  try clear hx572_0
                  try clear hx572_1
                  try clear hx572_2
                  try clear hx572_3
                  try clear hx577_0
                  try clear p2
                  try clear p572
                  try clear p577
                  try clear q572
                  try clear q577
                  obtain ⟨kq, x40_18, rfl, HA, HJ18, HO_5, BK567, BK573, HB⟩ := hcut
                  cases kq with
                  | zero => exact absurd HA.out (by simp [casementlaw13_CheckSound.j1])
                  | succ kj18 =>
                    have H := HA.out
                    clear HA
                    simp only [casementlaw13_CheckSound.j1] at H
                    by_cases c33 : x40_18 = true
                    · subst c33
                      have H1 : (some false) = some r := by rw [if_pos rfl] at H; exact H
                      clear H
                      have H := H1
                      clear H1
                      exact absurd ((Option.some.inj H).trans HRT.out) (by decide)
                    · replace c33 := Bool.eq_false_iff.mpr c33
                      subst c33
                      have H1 : (casementlaw13_CheckSound.l1 kj18 x21_1 t574 l0_2 (l0_2.length : Int) x21_1 ((rd_T42 l0_2 x21_1).f3) (((rd_T42 l0_2 x21_1).f3).length : Int) 0 a0_0 l0_1 l0_2 ((rd_T42 l0_2 x21_1).f0) ((rd_T42 l0_2 x21_1).f1) ((rd_T42 l0_2 x21_1).f2) ((rd_T42 l0_2 x21_1).f3)) = some r := by rw [if_neg (show ¬ (false = true) by decide)] at H; exact H
                      clear H
                      have H := H1
                      clear H1
                      have H' := Aside0.mk H
                      clear H
                      have hnb34 := NB573_567.out
                      have hnc34 := NB567_573.out
                      have hcz35_0 : wc.cell? ⟨gb573, 0, none⟩ = some (.int .i64 ((rd_T42 l0_2 x21_1).f0)) := (blk_cell BK573.out 0).trans rfl
                      have hcz35_1 : wc.cell? ⟨gb573, 1, none⟩ = some (.int .i64 ((rd_T42 l0_2 x21_1).f1)) := (blk_cell BK573.out 1).trans rfl
                      have hcz35_2 : wc.cell? ⟨gb573, 2, none⟩ = some (.int .i64 ((rd_T42 l0_2 x21_1).f2)) := (blk_cell BK573.out 2).trans rfl
                      have hcz35_3 : wc.cell? ⟨gb573, 3, none⟩ = some (.slice A572_3 ((rd_T42 l0_2 x21_1).f3).length c572_3) := (blk_cell BK573.out 3).trans rfl
                      have hfz35_0 := blk_frozen BK573.out 0
                      have hfz35_1 := blk_frozen BK573.out 1
                      have hfz35_2 := blk_frozen BK573.out 2
                      have hfz35_3 := blk_frozen BK573.out 3
                      go_wp2
                      repeat (go_quiet (fail); try go_wp2)
                      go_loopg [44] kj18 (fun kq v44 w' => ∃ (x44_3 : Int), v44 = .int .i64 x44_3 ∧ Aside0 (casementlaw13_CheckSound.l1 kq x21_1 t574 l0_2 (l0_2.length : Int) x21_1 ((rd_T42 l0_2 x21_1).f3) (((rd_T42 l0_2 x21_1).f3).length : Int) x44_3 a0_0 l0_1 l0_2 ((rd_T42 l0_2 x21_1).f0) ((rd_T42 l0_2 x21_1).f1) ((rd_T42 l0_2 x21_1).f2) ((rd_T42 l0_2 x21_1).f3) = some r) ∧ Aside0 (kq ≤ kj18) ∧ Aside0 (Kd.R (Kd.int .i64) 3 w' w.heap.size (fun _ => True) v575 t574) ∧ Aside0 (w'.heap[gb567]? = some (.cells #[.int .i64 a0_0, (.slice A0_1 l0_1.length c0_1), (.slice (some ad572) l0_2.length c0_2)] 25 (0, 0))) ∧ Aside0 (w'.heap[gb573]? = some (.cells #[.int .i64 ((rd_T42 l0_2 x21_1).f0), .int .i64 ((rd_T42 l0_2 x21_1).f1), .int .i64 ((rd_T42 l0_2 x21_1).f2), (.slice A572_3 ((rd_T42 l0_2 x21_1).f3).length c572_3)] 42 (0, 0))) ∧ Aside0 (Below w.heap.size w w'))
                      case atStart => exact ⟨(0), (by first | rfl | (simp; done) | (simp [*]; done)), H', ⟨Nat.le_refl _⟩, ⟨by (with_reducible repeat (first | apply Kd.R_alloc | apply Kd.R_drewN | apply Kd.R_drew)); exact HO_5.out⟩, ⟨by (with_reducible repeat (first | refine blk_drewN ?_ _ | refine blk_drew ?_ | refine blk_alloc ?_ _)); exact BK567.out⟩, ⟨by (with_reducible repeat (first | refine blk_drewN ?_ _ | refine blk_drew ?_ | refine blk_alloc ?_ _)); exact BK573.out⟩, ⟨by repeat (first | (with_reducible first | exact HB.out | apply below_alloc | apply pw_below_drewN | apply below_drew1 | refine below_set ?_ GE567.out | refine below_set ?_ GE573.out) | exact HB.out)⟩⟩
                      case round =>
                        clear H'
                        try clear c1
                        try clear c2
                        try clear p2
                        try clear c3
                        try clear c5
                        try clear c5b0
                        try clear p5
                        try clear q5
                        try clear hx5
                        try clear qi5
                        try clear c15
                        try clear c15b0
                        try clear c16
                        try clear c16b0
                        try clear c17
                        try clear c17b0
                        try clear c21
                        try clear c25
                        try clear c25b0
                        try clear c25b1
                        try clear c25b2
                        try clear c26
                        try clear c26b0
                        try clear c26b1
                        try clear c28
                        try clear c31
                        try clear c33
                        try clear c34
                        try clear hcz12_0
                        try clear hcz12_1
                        try clear hcz12_2
                        try clear hcz14_0
                        try clear hcz14_1
                        try clear hcz14_2
                        try clear hcz22_0
                        try clear hcz22_1
                        try clear hcz22_2
                        try clear hcz22_3
                        try clear hcz23_0
                        try clear hcz23_1
                        try clear hcz23_2
                        try clear hcz29_0
                        try clear hcz29_1
                        try clear hcz29_2
                        try clear hcz29_3
                        try clear hcz32_0
                        try clear hcz32_1
                        try clear hcz32_2
                        try clear hcz32_3
                        try clear hcz35_0
                        try clear hcz35_1
                        try clear hcz35_2
                        try clear hcz35_3
                        try clear hcz8_0
                        try clear hcz8_1
                        try clear hcz8_2
                        try clear hfz12_0
                        try clear hfz12_1
                        try clear hfz12_2
                        try clear hfz14_0
                        try clear hfz14_1
                        try clear hfz14_2
                        try clear hfz22_0
                        try clear hfz22_1
                        try clear hfz22_2
                        try clear hfz22_3
                        try clear hfz23_0
                        try clear hfz23_1
                        try clear hfz23_2
                        try clear hfz29_0
                        try clear hfz29_1
                        try clear hfz29_2
                        try clear hfz29_3
                        try clear hfz32_0
                        try clear hfz32_1
                        try clear hfz32_2
                        try clear hfz32_3
                        try clear hfz35_0
                        try clear hfz35_1
                        try clear hfz35_2
                        try clear hfz35_3
                        try clear hfz8_0
                        try clear hfz8_1
                        try clear hfz8_2
                        try clear hx572_0
                        try clear hx572_1
                        try clear hx572_2
                        try clear hx572_3
                        try clear hx577_0
                        try clear p2
                        try clear p5
                        try clear p572
                        try clear p577
                        try clear q5
                        try clear q572
                        try clear q577
                        obtain ⟨x44_3, rfl, HA, HK3, HO_5, BK567, BK573, HB⟩ := hrel
                        cases gk with
                        | zero => exact absurd HA.out (by simp [casementlaw13_CheckSound.l1])
                        | succ k3 =>
                          have H := HA.out
                          clear HA
                          simp only [casementlaw13_CheckSound.l1] at H
                          by_cases c36 : x44_3 < (((rd_T42 l0_2 x21_1).f3).length : Int)
                          · rw [if_pos c36] at H
                            have c36b0 : decide (x44_3 < (((rd_T42 l0_2 x21_1).f3).length : Int)) = true := decide_eq_true c36
                            clear c36
                            by_cases c37 : 0 ≤ x44_3
                            · rw [if_pos c37] at H
                              have c37b0 : decide (0 ≤ x44_3) = true := decide_eq_true c37
                              clear c37
                              by_cases c38 : x44_3 < (((rd_T42 l0_2 x21_1).f3).length : Int)
                              · rw [if_pos c38] at H
                                have c38b0 : decide (x44_3 < (((rd_T42 l0_2 x21_1).f3).length : Int)) = true := decide_eq_true c38
                                clear c38
                                by_cases c39 : x44_3 < (t574.length : Int)
                                · rw [if_pos c39] at H
                                  have c39b0 : decide (x44_3 < (t574.length : Int)) = true := decide_eq_true c39
                                  clear c39
                                  by_cases c40 : (rd t574 x44_3) < 0
                                  · rw [if_pos c40] at H
                                    have c40b0 : decide ((rd t574 x44_3) < 0) = true := decide_eq_true c40
                                    clear c40
                                    have H' := Aside0.mk H
                                    clear H
                                    have p578 : 0 ≤ (x44_3 : Int) := of_decide_eq_true (by first | (with_reducible assumption) | assumption)
                                    have q578 : x44_3 < (((rd_T42 l0_2 x21_1).f3).length : Int) := of_decide_eq_true (by first | (with_reducible assumption) | assumption)
                                    obtain ⟨ad578, e578, hx578_0, hx578_1⟩ := at_T46 HR572_3.out x44_3 p578 q578
                                    cases e578
                                    replace hx578_0 := (HB.out.cell (World.block_lt_of_cell? w _ hx578_0)).trans hx578_0
                                    replace hx578_1 := (HB.out.cell (World.block_lt_of_cell? w _ hx578_1)).trans hx578_1
                                    replace p578 := eq_true p578
                                    replace q578 := eq_true q578
                                    go_wp2_with (first | ((with_reducible refine gate_dst (N := 7) rfl ?_); (try (refine gate_guard (by rfl) ?_; dsimp only)); refine box_event ?hg (N := 7) ?hd (cs := #[.int .i64 0, .int .i64 0]) (t := 46) ?hr ?_; (case hd => rfl); (case hg => rfl); (case hr => first | (go_simp; done) | (go_simp; rfl)); intro gb579 hg w41 hbox hb; have n0_ := Aside0.mk (Kd.R_below (by (with_reducible repeat (first | apply Kd.R_alloc | apply Kd.R_drewN | apply Kd.R_drew)); exact HO_5.out) hb); have n1_ := Aside0.mk (blk_below (g := gb567) (o := .cells #[.int .i64 a0_0, .slice A0_1 l0_1.length c0_1, .slice (some ad572) l0_2.length c0_2] 25 (0, 0)) (by (with_reducible repeat (first | refine blk_drewN ?_ _ | refine blk_drew ?_ | refine blk_alloc ?_ _)); exact BK567.out) hb); have n2_ := Aside0.mk (blk_below (g := gb573) (o := .cells #[.int .i64 ((rd_T42 l0_2 x21_1).f0), .int .i64 ((rd_T42 l0_2 x21_1).f1), .int .i64 ((rd_T42 l0_2 x21_1).f2), .slice (some ad578) ((rd_T42 l0_2 x21_1).f3).length c572_3] 42 (0, 0)) (by (with_reducible repeat (first | refine blk_drewN ?_ _ | refine blk_drew ?_ | refine blk_alloc ?_ _)); exact BK573.out) hb); have n3_ := Aside0.mk (below_step (by repeat (first | (with_reducible first | exact HB.out | apply below_alloc | apply pw_below_drewN | apply below_drew1 | refine below_set ?_ GE567.out | refine below_set ?_ GE573.out) | exact HB.out)) hb); have n4_ := Aside0.mk (hbox); have n5_ := Aside0.mk ((by rw [hg]; exact (below_size (by repeat (first | (with_reducible first | exact HB.out | apply below_alloc | apply pw_below_drewN | apply below_drew1 | refine below_set ?_ GE567.out | refine below_set ?_ GE573.out) | exact HB.out))) : w.heap.size ≤ gb579)); have n6_ := Aside0.mk ((by rw [hg]; exact (below_size (by repeat (first | (with_reducible first | exact HB.out | apply below_alloc | apply pw_below_drewN | apply below_drew1 | refine below_set ?_ GE567.out | refine below_set ?_ GE573.out) | exact HB.out))) : w.heap.size ≤ gb579)); have n7_ := Aside0.mk ((by rw [hg]; exact Nat.ne_of_lt (blk_lt (g := gb567) (o := .cells #[.int .i64 a0_0, .slice A0_1 l0_1.length c0_1, .slice (some ad572) l0_2.length c0_2] 25 (0, 0)) (by (with_reducible repeat (first | refine blk_drewN ?_ _ | refine blk_drew ?_ | refine blk_alloc ?_ _)); exact BK567.out)) : gb567 ≠ gb579)); have n8_ := Aside0.mk ((by rw [hg]; exact Nat.ne_of_gt (blk_lt (g := gb567) (o := .cells #[.int .i64 a0_0, .slice A0_1 l0_1.length c0_1, .slice (some ad572) l0_2.length c0_2] 25 (0, 0)) (by (with_reducible repeat (first | refine blk_drewN ?_ _ | refine blk_drew ?_ | refine blk_alloc ?_ _)); exact BK567.out)) : gb579 ≠ gb567)); have n9_ := Aside0.mk ((by rw [hg]; exact Nat.ne_of_lt (blk_lt (g := gb573) (o := .cells #[.int .i64 ((rd_T42 l0_2 x21_1).f0), .int .i64 ((rd_T42 l0_2 x21_1).f1), .int .i64 ((rd_T42 l0_2 x21_1).f2), .slice (some ad578) ((rd_T42 l0_2 x21_1).f3).length c572_3] 42 (0, 0)) (by (with_reducible repeat (first | refine blk_drewN ?_ _ | refine blk_drew ?_ | refine blk_alloc ?_ _)); exact BK573.out)) : gb573 ≠ gb579)); have n10_ := Aside0.mk ((by rw [hg]; exact Nat.ne_of_gt (blk_lt (g := gb573) (o := .cells #[.int .i64 ((rd_T42 l0_2 x21_1).f0), .int .i64 ((rd_T42 l0_2 x21_1).f1), .int .i64 ((rd_T42 l0_2 x21_1).f2), .slice (some ad578) ((rd_T42 l0_2 x21_1).f3).length c572_3] 42 (0, 0)) (by (with_reducible repeat (first | refine blk_drewN ?_ _ | refine blk_drew ?_ | refine blk_alloc ?_ _)); exact BK573.out)) : gb579 ≠ gb573)); clear HO_5; clear BK567; clear BK573; clear HB; have HO_5 := n0_; have BK567 := n1_; have BK573 := n2_; have HB := n3_; have BK579 := n4_; have GW579 := n5_; have GE579 := n6_; have NB567_579 := n7_; have NB579_567 := n8_; have NB573_579 := n9_; have NB579_573 := n10_; clear n0_ n1_ n2_ n3_ n4_ n5_ n6_ n7_ n8_ n9_ n10_; clear hb hbox hg; have hnb42 := NB579_567.out; have hnc42 := NB567_579.out; have hnb43 := NB579_573.out; have hnc43 := NB573_579.out; have hcz44_0 : w41.cell? ⟨gb579, 0, none⟩ = some (.int .i64 0) := (blk_cell BK579.out 0).trans rfl; have hcz44_1 : w41.cell? ⟨gb579, 1, none⟩ = some (.int .i64 0) := (blk_cell BK579.out 1).trans rfl; have hfz44_0 := blk_frozen BK579.out 0; have hfz44_1 := blk_frozen BK579.out 1; obtain ⟨Ao45, co45, eo45⟩ := Kd.R_slice HO_5.out; subst eo45; have p580 : 0 ≤ (x44_3 : Int) := of_decide_eq_true (by first | (with_reducible assumption) | assumption); have q580 : x44_3 < (t574.length : Int) := of_decide_eq_true (by first | (with_reducible assumption) | assumption); obtain ⟨ad580, e580, hx580_0⟩ := Kd.at_int (Kd.R_reads' HO_5.out).2.2 x44_3 p580 q580; cases e580; have hn580_0 : ad580.block ≠ gb579 := Kd.own_blk (Kd.R_ne HO_5.out BK579.out (by decide)); have hn580_1 : ad580.block ≠ gb579 := Kd.own_blk (Kd.R_ne HO_5.out BK579.out (by decide)); replace hx580_0 := (cell_far (p := ⟨gb579, 0, none⟩) (by first | (rw [add_block]; exact hn580_0) | (show (Addr.add _ _).block ≠ _; rw [add_block]; exact hn580_0) | exact hn580_0) (.int .i64 ((rd_T46 ((rd_T42 l0_2 x21_1).f3) x44_3).f0))).trans hx580_0; replace hx580_0 := (cell_far (p := ⟨gb579, 1, none⟩) (by first | (rw [add_block]; exact hn580_1) | (show (Addr.add _ _).block ≠ _; rw [add_block]; exact hn580_1) | exact hn580_1) (.int .i64 ((rd_T46 ((rd_T42 l0_2 x21_1).f3) x44_3).f1))).trans hx580_0; (try have hy580_0 := fun (n_ : Nat) => (show ((((w41.drewN n_).setCell ⟨gb579, 0, none⟩ (.int .i64 ((rd_T46 ((rd_T42 l0_2 x21_1).f3) x44_3).f0))).setCell ⟨gb579, 1, none⟩ (.int .i64 ((rd_T46 ((rd_T42 l0_2 x21_1).f3) x44_3).f1)))).cell? _ = some _ from hx580_0)); clear hn580_0; clear hn580_1; replace p580 := eq_true p580; replace q580 := eq_true q580))
                                    repeat (go_quiet (first | ((with_reducible refine gate_dst (N := 7) rfl ?_); (try (refine gate_guard (by rfl) ?_; dsimp only)); refine box_event ?hg (N := 7) ?hd (cs := #[.int .i64 0, .int .i64 0]) (t := 46) ?hr ?_; (case hd => rfl); (case hg => rfl); (case hr => first | (go_simp; done) | (go_simp; rfl)); intro gb579 hg w41 hbox hb; have n0_ := Aside0.mk (Kd.R_below (by (with_reducible repeat (first | apply Kd.R_alloc | apply Kd.R_drewN | apply Kd.R_drew)); exact HO_5.out) hb); have n1_ := Aside0.mk (blk_below (g := gb567) (o := .cells #[.int .i64 a0_0, .slice A0_1 l0_1.length c0_1, .slice (some ad572) l0_2.length c0_2] 25 (0, 0)) (by (with_reducible repeat (first | refine blk_drewN ?_ _ | refine blk_drew ?_ | refine blk_alloc ?_ _)); exact BK567.out) hb); have n2_ := Aside0.mk (blk_below (g := gb573) (o := .cells #[.int .i64 ((rd_T42 l0_2 x21_1).f0), .int .i64 ((rd_T42 l0_2 x21_1).f1), .int .i64 ((rd_T42 l0_2 x21_1).f2), .slice (some ad578) ((rd_T42 l0_2 x21_1).f3).length c572_3] 42 (0, 0)) (by (with_reducible repeat (first | refine blk_drewN ?_ _ | refine blk_drew ?_ | refine blk_alloc ?_ _)); exact BK573.out) hb); have n3_ := Aside0.mk (below_step (by repeat (first | (with_reducible first | exact HB.out | apply below_alloc | apply pw_below_drewN | apply below_drew1 | refine below_set ?_ GE567.out | refine below_set ?_ GE573.out) | exact HB.out)) hb); have n4_ := Aside0.mk (hbox); have n5_ := Aside0.mk ((by rw [hg]; exact (below_size (by repeat (first | (with_reducible first | exact HB.out | apply below_alloc | apply pw_below_drewN | apply below_drew1 | refine below_set ?_ GE567.out | refine below_set ?_ GE573.out) | exact HB.out))) : w.heap.size ≤ gb579)); have n6_ := Aside0.mk ((by rw [hg]; exact (below_size (by repeat (first | (with_reducible first | exact HB.out | apply below_alloc | apply pw_below_drewN | apply below_drew1 | refine below_set ?_ GE567.out | refine below_set ?_ GE573.out) | exact HB.out))) : w.heap.size ≤ gb579)); have n7_ := Aside0.mk ((by rw [hg]; exact Nat.ne_of_lt (blk_lt (g := gb567) (o := .cells #[.int .i64 a0_0, .slice A0_1 l0_1.length c0_1, .slice (some ad572) l0_2.length c0_2] 25 (0, 0)) (by (with_reducible repeat (first | refine blk_drewN ?_ _ | refine blk_drew ?_ | refine blk_alloc ?_ _)); exact BK567.out)) : gb567 ≠ gb579)); have n8_ := Aside0.mk ((by rw [hg]; exact Nat.ne_of_gt (blk_lt (g := gb567) (o := .cells #[.int .i64 a0_0, .slice A0_1 l0_1.length c0_1, .slice (some ad572) l0_2.length c0_2] 25 (0, 0)) (by (with_reducible repeat (first | refine blk_drewN ?_ _ | refine blk_drew ?_ | refine blk_alloc ?_ _)); exact BK567.out)) : gb579 ≠ gb567)); have n9_ := Aside0.mk ((by rw [hg]; exact Nat.ne_of_lt (blk_lt (g := gb573) (o := .cells #[.int .i64 ((rd_T42 l0_2 x21_1).f0), .int .i64 ((rd_T42 l0_2 x21_1).f1), .int .i64 ((rd_T42 l0_2 x21_1).f2), .slice (some ad578) ((rd_T42 l0_2 x21_1).f3).length c572_3] 42 (0, 0)) (by (with_reducible repeat (first | refine blk_drewN ?_ _ | refine blk_drew ?_ | refine blk_alloc ?_ _)); exact BK573.out)) : gb573 ≠ gb579)); have n10_ := Aside0.mk ((by rw [hg]; exact Nat.ne_of_gt (blk_lt (g := gb573) (o := .cells #[.int .i64 ((rd_T42 l0_2 x21_1).f0), .int .i64 ((rd_T42 l0_2 x21_1).f1), .int .i64 ((rd_T42 l0_2 x21_1).f2), .slice (some ad578) ((rd_T42 l0_2 x21_1).f3).length c572_3] 42 (0, 0)) (by (with_reducible repeat (first | refine blk_drewN ?_ _ | refine blk_drew ?_ | refine blk_alloc ?_ _)); exact BK573.out)) : gb579 ≠ gb573)); clear HO_5; clear BK567; clear BK573; clear HB; have HO_5 := n0_; have BK567 := n1_; have BK573 := n2_; have HB := n3_; have BK579 := n4_; have GW579 := n5_; have GE579 := n6_; have NB567_579 := n7_; have NB579_567 := n8_; have NB573_579 := n9_; have NB579_573 := n10_; clear n0_ n1_ n2_ n3_ n4_ n5_ n6_ n7_ n8_ n9_ n10_; clear hb hbox hg; have hnb42 := NB579_567.out; have hnc42 := NB567_579.out; have hnb43 := NB579_573.out; have hnc43 := NB573_579.out; have hcz44_0 : w41.cell? ⟨gb579, 0, none⟩ = some (.int .i64 0) := (blk_cell BK579.out 0).trans rfl; have hcz44_1 : w41.cell? ⟨gb579, 1, none⟩ = some (.int .i64 0) := (blk_cell BK579.out 1).trans rfl; have hfz44_0 := blk_frozen BK579.out 0; have hfz44_1 := blk_frozen BK579.out 1; obtain ⟨Ao45, co45, eo45⟩ := Kd.R_slice HO_5.out; subst eo45; have p580 : 0 ≤ (x44_3 : Int) := of_decide_eq_true (by first | (with_reducible assumption) | assumption); have q580 : x44_3 < (t574.length : Int) := of_decide_eq_true (by first | (with_reducible assumption) | assumption); obtain ⟨ad580, e580, hx580_0⟩ := Kd.at_int (Kd.R_reads' HO_5.out).2.2 x44_3 p580 q580; cases e580; have hn580_0 : ad580.block ≠ gb579 := Kd.own_blk (Kd.R_ne HO_5.out BK579.out (by decide)); have hn580_1 : ad580.block ≠ gb579 := Kd.own_blk (Kd.R_ne HO_5.out BK579.out (by decide)); replace hx580_0 := (cell_far (p := ⟨gb579, 0, none⟩) (by first | (rw [add_block]; exact hn580_0) | (show (Addr.add _ _).block ≠ _; rw [add_block]; exact hn580_0) | exact hn580_0) (.int .i64 ((rd_T46 ((rd_T42 l0_2 x21_1).f3) x44_3).f0))).trans hx580_0; replace hx580_0 := (cell_far (p := ⟨gb579, 1, none⟩) (by first | (rw [add_block]; exact hn580_1) | (show (Addr.add _ _).block ≠ _; rw [add_block]; exact hn580_1) | exact hn580_1) (.int .i64 ((rd_T46 ((rd_T42 l0_2 x21_1).f3) x44_3).f1))).trans hx580_0; (try have hy580_0 := fun (n_ : Nat) => (show ((((w41.drewN n_).setCell ⟨gb579, 0, none⟩ (.int .i64 ((rd_T46 ((rd_T42 l0_2 x21_1).f3) x44_3).f0))).setCell ⟨gb579, 1, none⟩ (.int .i64 ((rd_T46 ((rd_T42 l0_2 x21_1).f3) x44_3).f1)))).cell? _ = some _ from hx580_0)); clear hn580_0; clear hn580_1; replace p580 := eq_true p580; replace q580 := eq_true q580)); try go_wp2_with (first | ((with_reducible refine gate_dst (N := 7) rfl ?_); (try (refine gate_guard (by rfl) ?_; dsimp only)); refine box_event ?hg (N := 7) ?hd (cs := #[.int .i64 0, .int .i64 0]) (t := 46) ?hr ?_; (case hd => rfl); (case hg => rfl); (case hr => first | (go_simp; done) | (go_simp; rfl)); intro gb579 hg w41 hbox hb; have n0_ := Aside0.mk (Kd.R_below (by (with_reducible repeat (first | apply Kd.R_alloc | apply Kd.R_drewN | apply Kd.R_drew)); exact HO_5.out) hb); have n1_ := Aside0.mk (blk_below (g := gb567) (o := .cells #[.int .i64 a0_0, .slice A0_1 l0_1.length c0_1, .slice (some ad572) l0_2.length c0_2] 25 (0, 0)) (by (with_reducible repeat (first | refine blk_drewN ?_ _ | refine blk_drew ?_ | refine blk_alloc ?_ _)); exact BK567.out) hb); have n2_ := Aside0.mk (blk_below (g := gb573) (o := .cells #[.int .i64 ((rd_T42 l0_2 x21_1).f0), .int .i64 ((rd_T42 l0_2 x21_1).f1), .int .i64 ((rd_T42 l0_2 x21_1).f2), .slice (some ad578) ((rd_T42 l0_2 x21_1).f3).length c572_3] 42 (0, 0)) (by (with_reducible repeat (first | refine blk_drewN ?_ _ | refine blk_drew ?_ | refine blk_alloc ?_ _)); exact BK573.out) hb); have n3_ := Aside0.mk (below_step (by repeat (first | (with_reducible first | exact HB.out | apply below_alloc | apply pw_below_drewN | apply below_drew1 | refine below_set ?_ GE567.out | refine below_set ?_ GE573.out) | exact HB.out)) hb); have n4_ := Aside0.mk (hbox); have n5_ := Aside0.mk ((by rw [hg]; exact (below_size (by repeat (first | (with_reducible first | exact HB.out | apply below_alloc | apply pw_below_drewN | apply below_drew1 | refine below_set ?_ GE567.out | refine below_set ?_ GE573.out) | exact HB.out))) : w.heap.size ≤ gb579)); have n6_ := Aside0.mk ((by rw [hg]; exact (below_size (by repeat (first | (with_reducible first | exact HB.out | apply below_alloc | apply pw_below_drewN | apply below_drew1 | refine below_set ?_ GE567.out | refine below_set ?_ GE573.out) | exact HB.out))) : w.heap.size ≤ gb579)); have n7_ := Aside0.mk ((by rw [hg]; exact Nat.ne_of_lt (blk_lt (g := gb567) (o := .cells #[.int .i64 a0_0, .slice A0_1 l0_1.length c0_1, .slice (some ad572) l0_2.length c0_2] 25 (0, 0)) (by (with_reducible repeat (first | refine blk_drewN ?_ _ | refine blk_drew ?_ | refine blk_alloc ?_ _)); exact BK567.out)) : gb567 ≠ gb579)); have n8_ := Aside0.mk ((by rw [hg]; exact Nat.ne_of_gt (blk_lt (g := gb567) (o := .cells #[.int .i64 a0_0, .slice A0_1 l0_1.length c0_1, .slice (some ad572) l0_2.length c0_2] 25 (0, 0)) (by (with_reducible repeat (first | refine blk_drewN ?_ _ | refine blk_drew ?_ | refine blk_alloc ?_ _)); exact BK567.out)) : gb579 ≠ gb567)); have n9_ := Aside0.mk ((by rw [hg]; exact Nat.ne_of_lt (blk_lt (g := gb573) (o := .cells #[.int .i64 ((rd_T42 l0_2 x21_1).f0), .int .i64 ((rd_T42 l0_2 x21_1).f1), .int .i64 ((rd_T42 l0_2 x21_1).f2), .slice (some ad578) ((rd_T42 l0_2 x21_1).f3).length c572_3] 42 (0, 0)) (by (with_reducible repeat (first | refine blk_drewN ?_ _ | refine blk_drew ?_ | refine blk_alloc ?_ _)); exact BK573.out)) : gb573 ≠ gb579)); have n10_ := Aside0.mk ((by rw [hg]; exact Nat.ne_of_gt (blk_lt (g := gb573) (o := .cells #[.int .i64 ((rd_T42 l0_2 x21_1).f0), .int .i64 ((rd_T42 l0_2 x21_1).f1), .int .i64 ((rd_T42 l0_2 x21_1).f2), .slice (some ad578) ((rd_T42 l0_2 x21_1).f3).length c572_3] 42 (0, 0)) (by (with_reducible repeat (first | refine blk_drewN ?_ _ | refine blk_drew ?_ | refine blk_alloc ?_ _)); exact BK573.out)) : gb579 ≠ gb573)); clear HO_5; clear BK567; clear BK573; clear HB; have HO_5 := n0_; have BK567 := n1_; have BK573 := n2_; have HB := n3_; have BK579 := n4_; have GW579 := n5_; have GE579 := n6_; have NB567_579 := n7_; have NB579_567 := n8_; have NB573_579 := n9_; have NB579_573 := n10_; clear n0_ n1_ n2_ n3_ n4_ n5_ n6_ n7_ n8_ n9_ n10_; clear hb hbox hg; have hnb42 := NB579_567.out; have hnc42 := NB567_579.out; have hnb43 := NB579_573.out; have hnc43 := NB573_579.out; have hcz44_0 : w41.cell? ⟨gb579, 0, none⟩ = some (.int .i64 0) := (blk_cell BK579.out 0).trans rfl; have hcz44_1 : w41.cell? ⟨gb579, 1, none⟩ = some (.int .i64 0) := (blk_cell BK579.out 1).trans rfl; have hfz44_0 := blk_frozen BK579.out 0; have hfz44_1 := blk_frozen BK579.out 1; obtain ⟨Ao45, co45, eo45⟩ := Kd.R_slice HO_5.out; subst eo45; have p580 : 0 ≤ (x44_3 : Int) := of_decide_eq_true (by first | (with_reducible assumption) | assumption); have q580 : x44_3 < (t574.length : Int) := of_decide_eq_true (by first | (with_reducible assumption) | assumption); obtain ⟨ad580, e580, hx580_0⟩ := Kd.at_int (Kd.R_reads' HO_5.out).2.2 x44_3 p580 q580; cases e580; have hn580_0 : ad580.block ≠ gb579 := Kd.own_blk (Kd.R_ne HO_5.out BK579.out (by decide)); have hn580_1 : ad580.block ≠ gb579 := Kd.own_blk (Kd.R_ne HO_5.out BK579.out (by decide)); replace hx580_0 := (cell_far (p := ⟨gb579, 0, none⟩) (by first | (rw [add_block]; exact hn580_0) | (show (Addr.add _ _).block ≠ _; rw [add_block]; exact hn580_0) | exact hn580_0) (.int .i64 ((rd_T46 ((rd_T42 l0_2 x21_1).f3) x44_3).f0))).trans hx580_0; replace hx580_0 := (cell_far (p := ⟨gb579, 1, none⟩) (by first | (rw [add_block]; exact hn580_1) | (show (Addr.add _ _).block ≠ _; rw [add_block]; exact hn580_1) | exact hn580_1) (.int .i64 ((rd_T46 ((rd_T42 l0_2 x21_1).f3) x44_3).f1))).trans hx580_0; (try have hy580_0 := fun (n_ : Nat) => (show ((((w41.drewN n_).setCell ⟨gb579, 0, none⟩ (.int .i64 ((rd_T46 ((rd_T42 l0_2 x21_1).f3) x44_3).f0))).setCell ⟨gb579, 1, none⟩ (.int .i64 ((rd_T46 ((rd_T42 l0_2 x21_1).f3) x44_3).f1)))).cell? _ = some _ from hx580_0)); clear hn580_0; clear hn580_1; replace p580 := eq_true p580; replace q580 := eq_true q580)))
                                    go_roundg k3
                                    case measure => have := HK1.out; have := HJ18.out; have := HK3.out; omega
                                    case rel => exact ⟨(wrap64 (x44_3 + 1)), (by first | rfl | (simp; done) | (simp [*]; done)), H', ⟨by have := HK1.out; have := HJ18.out; have := HK3.out; omega⟩, ⟨by (with_reducible repeat (first | apply Kd.R_alloc | apply Kd.R_drewN | apply Kd.R_drew)); exact Kd.R_mono (Kd.R_far (p := ⟨gb579, 1, none⟩) (Kd.R_far (p := ⟨gb579, 0, none⟩) (Kd.R_types HO_5.out BK579.out (by decide)) (fun _ hk => hk.2) (.int .i64 ((rd_T46 ((rd_T42 l0_2 x21_1).f3) x44_3).f0))) (fun _ hk => hk.2) (.int .i64 ((rd_T46 ((rd_T42 l0_2 x21_1).f3) x44_3).f1))) (fun _ hk => trivial)⟩, ⟨by (with_reducible repeat (first | refine blk_drewN ?_ _ | refine blk_drew ?_ | refine blk_alloc ?_ _)); refine blk_far ?_ NB567_579.out _; (with_reducible repeat (first | refine blk_drewN ?_ _ | refine blk_drew ?_ | refine blk_alloc ?_ _)); refine blk_far ?_ NB567_579.out _; (with_reducible repeat (first | refine blk_drewN ?_ _ | refine blk_drew ?_ | refine blk_alloc ?_ _)); exact BK567.out⟩, ⟨by (with_reducible repeat (first | refine blk_drewN ?_ _ | refine blk_drew ?_ | refine blk_alloc ?_ _)); refine blk_far ?_ NB573_579.out _; (with_reducible repeat (first | refine blk_drewN ?_ _ | refine blk_drew ?_ | refine blk_alloc ?_ _)); refine blk_far ?_ NB573_579.out _; (with_reducible repeat (first | refine blk_drewN ?_ _ | refine blk_drew ?_ | refine blk_alloc ?_ _)); exact BK573.out⟩, ⟨by repeat (first | (with_reducible first | exact HB.out | apply below_alloc | apply pw_below_drewN | apply below_drew1 | refine below_set ?_ GE567.out | refine below_set ?_ GE573.out | refine below_set ?_ GE579.out) | exact HB.out)⟩⟩
                                  · rw [if_neg c40] at H
                                    have c40b0 : decide ((rd t574 x44_3) < 0) = false := decide_eq_false c40
                                    clear c40
                                    replace H := Option.bind_eq_some_iff.mp H
                                    obtain ⟨⟨t581, t582, t583⟩, A460, H⟩ := H
                                    replace H : (if t583 = true then (if (rd t574 x44_3) < t581 then (casementlaw13_CheckSound.j3 k3 x21_1 t574 x44_3 (wrap64 ((wrap64 ((rd t574 x44_3) - t581)) + t582)) l0_2 (l0_2.length : Int) x21_1 ((rd_T42 l0_2 x21_1).f3) (((rd_T42 l0_2 x21_1).f3).length : Int) x44_3 true a0_0 l0_1 l0_2 ((rd_T42 l0_2 x21_1).f0) ((rd_T42 l0_2 x21_1).f1) ((rd_T42 l0_2 x21_1).f2) ((rd_T42 l0_2 x21_1).f3) ((rd_T46 ((rd_T42 l0_2 x21_1).f3) x44_3).f0) ((rd_T46 ((rd_T42 l0_2 x21_1).f3) x44_3).f1)) else (if (wrap64 ((wrap64 ((rd t574 x44_3) - t581)) + t582)) > 64 then (casementlaw13_CheckSound.j3 k3 x21_1 t574 x44_3 (wrap64 ((wrap64 ((rd t574 x44_3) - t581)) + t582)) l0_2 (l0_2.length : Int) x21_1 ((rd_T42 l0_2 x21_1).f3) (((rd_T42 l0_2 x21_1).f3).length : Int) x44_3 true a0_0 l0_1 l0_2 ((rd_T42 l0_2 x21_1).f0) ((rd_T42 l0_2 x21_1).f1) ((rd_T42 l0_2 x21_1).f2) ((rd_T42 l0_2 x21_1).f3) ((rd_T46 ((rd_T42 l0_2 x21_1).f3) x44_3).f0) ((rd_T46 ((rd_T42 l0_2 x21_1).f3) x44_3).f1)) else (casementlaw13_CheckSound.j3 k3 x21_1 t574 x44_3 (wrap64 ((wrap64 ((rd t574 x44_3) - t581)) + t582)) l0_2 (l0_2.length : Int) x21_1 ((rd_T42 l0_2 x21_1).f3) (((rd_T42 l0_2 x21_1).f3).length : Int) x44_3 (decide ((rd t574 x44_3) > 64)) a0_0 l0_1 l0_2 ((rd_T42 l0_2 x21_1).f0) ((rd_T42 l0_2 x21_1).f1) ((rd_T42 l0_2 x21_1).f2) ((rd_T42 l0_2 x21_1).f3) ((rd_T46 ((rd_T42 l0_2 x21_1).f3) x44_3).f0) ((rd_T46 ((rd_T42 l0_2 x21_1).f3) x44_3).f1)))) else (casementlaw13_CheckSound.j3 k3 x21_1 t574 x44_3 (wrap64 ((wrap64 ((rd t574 x44_3) - t581)) + t582)) l0_2 (l0_2.length : Int) x21_1 ((rd_T42 l0_2 x21_1).f3) (((rd_T42 l0_2 x21_1).f3).length : Int) x44_3 true a0_0 l0_1 l0_2 ((rd_T42 l0_2 x21_1).f0) ((rd_T42 l0_2 x21_1).f1) ((rd_T42 l0_2 x21_1).f2) ((rd_T42 l0_2 x21_1).f3) ((rd_T46 ((rd_T42 l0_2 x21_1).f3) x44_3).f0) ((rd_T46 ((rd_T42 l0_2 x21_1).f3) x44_3).f1))) = some r := H
                                    have A46 := Aside0.mk A460
                                    clear A460
                                    have HC47 := Aside0.mk H
                                    clear H
                                    have p578 : 0 ≤ (x44_3 : Int) := of_decide_eq_true (by first | (with_reducible assumption) | assumption)
                                    have q578 : x44_3 < (((rd_T42 l0_2 x21_1).f3).length : Int) := of_decide_eq_true (by first | (with_reducible assumption) | assumption)
                                    obtain ⟨ad578, e578, hx578_0, hx578_1⟩ := at_T46 HR572_3.out x44_3 p578 q578
                                    cases e578
                                    replace hx578_0 := (HB.out.cell (World.block_lt_of_cell? w _ hx578_0)).trans hx578_0
                                    replace hx578_1 := (HB.out.cell (World.block_lt_of_cell? w _ hx578_1)).trans hx578_1
                                    replace p578 := eq_true p578
                                    replace q578 := eq_true q578
                                    go_upto_region 17 with (first | ((with_reducible refine gate_dst (N := 7) rfl ?_); (try (refine gate_guard (by rfl) ?_; dsimp only)); refine box_event ?hg (N := 7) ?hd (cs := #[.int .i64 0, .int .i64 0]) (t := 46) ?hr ?_; (case hd => rfl); (case hg => rfl); (case hr => first | (go_simp; done) | (go_simp; rfl)); intro gb579 hg w48 hbox hb; have n0_ := Aside0.mk (Kd.R_below (by (with_reducible repeat (first | apply Kd.R_alloc | apply Kd.R_drewN | apply Kd.R_drew)); exact HO_5.out) hb); have n1_ := Aside0.mk (blk_below (g := gb567) (o := .cells #[.int .i64 a0_0, .slice A0_1 l0_1.length c0_1, .slice (some ad572) l0_2.length c0_2] 25 (0, 0)) (by (with_reducible repeat (first | refine blk_drewN ?_ _ | refine blk_drew ?_ | refine blk_alloc ?_ _)); exact BK567.out) hb); have n2_ := Aside0.mk (blk_below (g := gb573) (o := .cells #[.int .i64 ((rd_T42 l0_2 x21_1).f0), .int .i64 ((rd_T42 l0_2 x21_1).f1), .int .i64 ((rd_T42 l0_2 x21_1).f2), .slice (some ad578) ((rd_T42 l0_2 x21_1).f3).length c572_3] 42 (0, 0)) (by (with_reducible repeat (first | refine blk_drewN ?_ _ | refine blk_drew ?_ | refine blk_alloc ?_ _)); exact BK573.out) hb); have n3_ := Aside0.mk (below_step (by repeat (first | (with_reducible first | exact HB.out | apply below_alloc | apply pw_below_drewN | apply below_drew1 | refine below_set ?_ GE567.out | refine below_set ?_ GE573.out) | exact HB.out)) hb); have n4_ := Aside0.mk (hbox); have n5_ := Aside0.mk ((by rw [hg]; exact (below_size (by repeat (first | (with_reducible first | exact HB.out | apply below_alloc | apply pw_below_drewN | apply below_drew1 | refine below_set ?_ GE567.out | refine below_set ?_ GE573.out) | exact HB.out))) : w.heap.size ≤ gb579)); have n6_ := Aside0.mk ((by rw [hg]; exact (below_size (by repeat (first | (with_reducible first | exact HB.out | apply below_alloc | apply pw_below_drewN | apply below_drew1 | refine below_set ?_ GE567.out | refine below_set ?_ GE573.out) | exact HB.out))) : w.heap.size ≤ gb579)); have n7_ := Aside0.mk ((by rw [hg]; exact Nat.ne_of_lt (blk_lt (g := gb567) (o := .cells #[.int .i64 a0_0, .slice A0_1 l0_1.length c0_1, .slice (some ad572) l0_2.length c0_2] 25 (0, 0)) (by (with_reducible repeat (first | refine blk_drewN ?_ _ | refine blk_drew ?_ | refine blk_alloc ?_ _)); exact BK567.out)) : gb567 ≠ gb579)); have n8_ := Aside0.mk ((by rw [hg]; exact Nat.ne_of_gt (blk_lt (g := gb567) (o := .cells #[.int .i64 a0_0, .slice A0_1 l0_1.length c0_1, .slice (some ad572) l0_2.length c0_2] 25 (0, 0)) (by (with_reducible repeat (first | refine blk_drewN ?_ _ | refine blk_drew ?_ | refine blk_alloc ?_ _)); exact BK567.out)) : gb579 ≠ gb567)); have n9_ := Aside0.mk ((by rw [hg]; exact Nat.ne_of_lt (blk_lt (g := gb573) (o := .cells #[.int .i64 ((rd_T42 l0_2 x21_1).f0), .int .i64 ((rd_T42 l0_2 x21_1).f1), .int .i64 ((rd_T42 l0_2 x21_1).f2), .slice (some ad578) ((rd_T42 l0_2 x21_1).f3).length c572_3] 42 (0, 0)) (by (with_reducible repeat (first | refine blk_drewN ?_ _ | refine blk_drew ?_ | refine blk_alloc ?_ _)); exact BK573.out)) : gb573 ≠ gb579)); have n10_ := Aside0.mk ((by rw [hg]; exact Nat.ne_of_gt (blk_lt (g := gb573) (o := .cells #[.int .i64 ((rd_T42 l0_2 x21_1).f0), .int .i64 ((rd_T42 l0_2 x21_1).f1), .int .i64 ((rd_T42 l0_2 x21_1).f2), .slice (some ad578) ((rd_T42 l0_2 x21_1).f3).length c572_3] 42 (0, 0)) (by (with_reducible repeat (first | refine blk_drewN ?_ _ | refine blk_drew ?_ | refine blk_alloc ?_ _)); exact BK573.out)) : gb579 ≠ gb573)); clear HO_5; clear BK567; clear BK573; clear HB; have HO_5 := n0_; have BK567 := n1_; have BK573 := n2_; have HB := n3_; have BK579 := n4_; have GW579 := n5_; have GE579 := n6_; have NB567_579 := n7_; have NB579_567 := n8_; have NB573_579 := n9_; have NB579_573 := n10_; clear n0_ n1_ n2_ n3_ n4_ n5_ n6_ n7_ n8_ n9_ n10_; clear hb hbox hg; have hnb49 := NB579_567.out; have hnc49 := NB567_579.out; have hnb50 := NB579_573.out; have hnc50 := NB573_579.out; have hcz51_0 : w48.cell? ⟨gb579, 0, none⟩ = some (.int .i64 0) := (blk_cell BK579.out 0).trans rfl; have hcz51_1 : w48.cell? ⟨gb579, 1, none⟩ = some (.int .i64 0) := (blk_cell BK579.out 1).trans rfl; have hfz51_0 := blk_frozen BK579.out 0; have hfz51_1 := blk_frozen BK579.out 1; obtain ⟨Ao52, co52, eo52⟩ := Kd.R_slice HO_5.out; subst eo52; have p580 : 0 ≤ (x44_3 : Int) := of_decide_eq_true (by first | (with_reducible assumption) | assumption); have q580 : x44_3 < (t574.length : Int) := of_decide_eq_true (by first | (with_reducible assumption) | assumption); obtain ⟨ad580, e580, hx580_0⟩ := Kd.at_int (Kd.R_reads' HO_5.out).2.2 x44_3 p580 q580; cases e580; have hn580_0 : ad580.block ≠ gb579 := Kd.own_blk (Kd.R_ne HO_5.out BK579.out (by decide)); have hn580_1 : ad580.block ≠ gb579 := Kd.own_blk (Kd.R_ne HO_5.out BK579.out (by decide)); replace hx580_0 := (cell_far (p := ⟨gb579, 0, none⟩) (by first | (rw [add_block]; exact hn580_0) | (show (Addr.add _ _).block ≠ _; rw [add_block]; exact hn580_0) | exact hn580_0) (.int .i64 ((rd_T46 ((rd_T42 l0_2 x21_1).f3) x44_3).f0))).trans hx580_0; replace hx580_0 := (cell_far (p := ⟨gb579, 1, none⟩) (by first | (rw [add_block]; exact hn580_1) | (show (Addr.add _ _).block ≠ _; rw [add_block]; exact hn580_1) | exact hn580_1) (.int .i64 ((rd_T46 ((rd_T42 l0_2 x21_1).f3) x44_3).f1))).trans hx580_0; (try have hy580_0 := fun (n_ : Nat) => (show ((((w48.drewN n_).setCell ⟨gb579, 0, none⟩ (.int .i64 ((rd_T46 ((rd_T42 l0_2 x21_1).f3) x44_3).f0))).setCell ⟨gb579, 1, none⟩ (.int .i64 ((rd_T46 ((rd_T42 l0_2 x21_1).f3) x44_3).f1)))).cell? _ = some _ from hx580_0)); clear hn580_0; clear hn580_1; replace p580 := eq_true p580; replace q580 := eq_true q580; have hnb53 := NB567_573.out; have hnc53 := NB573_567.out; have hcz54_0 : w48.cell? ⟨gb567, 0, none⟩ = some (.int .i64 a0_0) := (blk_cell BK567.out 0).trans rfl; have hcz54_1 : w48.cell? ⟨gb567, 1, none⟩ = some (.slice A0_1 l0_1.length c0_1) := (blk_cell BK567.out 1).trans rfl; have hcz54_2 : w48.cell? ⟨gb567, 2, none⟩ = some (.slice (some ad572) l0_2.length c0_2) := (blk_cell BK567.out 2).trans rfl; have hfz54_0 := blk_frozen BK567.out 0; have hfz54_1 := blk_frozen BK567.out 1; have hfz54_2 := blk_frozen BK567.out 2) | (go_at_call 14; (with_reducible refine (check_Effect.calls k3 a0_0 _ _ l0_1 _ _ l0_2 x21_1 ((rd_T46 ((rd_T42 l0_2 x21_1).f3) x44_3).f0) ((rd_T46 ((rd_T42 l0_2 x21_1).f3) x44_3).f1) t581 t582 t583 _ ?side1 ?side2 ?side3 ?side4 A46.out).mono ?_); (case side1 => exact Kd.C_below HR0_1.out (by repeat (first | (with_reducible first | exact HB.out | apply below_alloc | apply pw_below_drewN | apply below_drew1 | refine below_set ?_ GE567.out | refine below_set ?_ GE573.out | refine below_set ?_ GE579.out) | exact HB.out))); (case side2 => exact HC0_1.out); (case side3 => exact Kd.C_below HR0_2.out (by repeat (first | (with_reducible first | exact HB.out | apply below_alloc | apply pw_below_drewN | apply below_drew1 | refine below_set ?_ GE567.out | refine below_set ?_ GE573.out | refine below_set ?_ GE579.out) | exact HB.out))); (case side4 => exact HC0_2.out); rintro e w55 ⟨rfl, hb⟩; have n0_ := Aside0.mk (Kd.R_below (by (with_reducible repeat (first | apply Kd.R_alloc | apply Kd.R_drewN | apply Kd.R_drew)); exact (Kd.R_mono (Kd.R_far (p := ⟨gb579, 1, none⟩) (Kd.R_far (p := ⟨gb579, 0, none⟩) (Kd.R_types HO_5.out BK579.out (by decide)) (fun _ hk => hk.2) (.int .i64 ((rd_T46 ((rd_T42 l0_2 x21_1).f3) x44_3).f0))) (fun _ hk => hk.2) (.int .i64 ((rd_T46 ((rd_T42 l0_2 x21_1).f3) x44_3).f1))) (fun _ h_ => h_.1))) hb); have n1_ := Aside0.mk (blk_below (g := gb567) (o := .cells #[.int .i64 a0_0, .slice A0_1 l0_1.length c0_1, .slice (some ad572) l0_2.length c0_2] 25 (0, 0)) (by (with_reducible repeat (first | refine blk_drewN ?_ _ | refine blk_drew ?_ | refine blk_alloc ?_ _)); refine blk_far ?_ NB567_579.out _; (with_reducible repeat (first | refine blk_drewN ?_ _ | refine blk_drew ?_ | refine blk_alloc ?_ _)); refine blk_far ?_ NB567_579.out _; (with_reducible repeat (first | refine blk_drewN ?_ _ | refine blk_drew ?_ | refine blk_alloc ?_ _)); exact BK567.out) hb); have n2_ := Aside0.mk (blk_below (g := gb573) (o := .cells #[.int .i64 ((rd_T42 l0_2 x21_1).f0), .int .i64 ((rd_T42 l0_2 x21_1).f1), .int .i64 ((rd_T42 l0_2 x21_1).f2), .slice (some ad578) ((rd_T42 l0_2 x21_1).f3).length c572_3] 42 (0, 0)) (by (with_reducible repeat (first | refine blk_drewN ?_ _ | refine blk_drew ?_ | refine blk_alloc ?_ _)); refine blk_far ?_ NB573_579.out _; (with_reducible repeat (first | refine blk_drewN ?_ _ | refine blk_drew ?_ | refine blk_alloc ?_ _)); refine blk_far ?_ NB573_579.out _; (with_reducible repeat (first | refine blk_drewN ?_ _ | refine blk_drew ?_ | refine blk_alloc ?_ _)); exact BK573.out) hb); have n3_ := Aside0.mk (blk_below (g := gb579) (o := .cells #[.int .i64 ((rd_T46 ((rd_T42 l0_2 x21_1).f3) x44_3).f0), .int .i64 ((rd_T46 ((rd_T42 l0_2 x21_1).f3) x44_3).f1)] 46 (0, 0)) (by (with_reducible repeat (first | refine blk_drewN ?_ _ | refine blk_drew ?_ | refine blk_alloc ?_ _)); refine blk_put (cs := #[.int .i64 ((rd_T46 ((rd_T42 l0_2 x21_1).f3) x44_3).f0), .int .i64 0]) ?_ 1 _ rfl; (with_reducible repeat (first | refine blk_drewN ?_ _ | refine blk_drew ?_ | refine blk_alloc ?_ _)); refine blk_put (cs := #[.int .i64 0, .int .i64 0]) ?_ 0 _ rfl; (with_reducible repeat (first | refine blk_drewN ?_ _ | refine blk_drew ?_ | refine blk_alloc ?_ _)); exact BK579.out) hb); have n4_ := Aside0.mk (below_step (by repeat (first | (with_reducible first | exact HB.out | apply below_alloc | apply pw_below_drewN | apply below_drew1 | refine below_set ?_ GE567.out | refine below_set ?_ GE573.out | refine below_set ?_ GE579.out) | exact HB.out)) hb); clear HO_5; clear BK567; clear BK573; clear BK579; clear HB; have HO_5 := n0_; have BK567 := n1_; have BK573 := n2_; have BK579 := n3_; have HB := n4_; clear n0_ n1_ n2_ n3_ n4_; (try clear hb); (try clear hb2); (try clear hk); (try clear hi); have p584 : 0 ≤ (x44_3 : Int) := of_decide_eq_true (by first | (with_reducible assumption) | assumption); have q584 : x44_3 < (t574.length : Int) := of_decide_eq_true (by first | (with_reducible assumption) | assumption); obtain ⟨ad584, e584, hx584_0⟩ := Kd.at_int (Kd.R_reads' HO_5.out).2.2 x44_3 p584 q584; obtain rfl : ad580 = ad584 := (by injection e584); replace p584 := eq_true p584; replace q584 := eq_true q584))
                                    repeat (go_quiet (first | ((with_reducible refine gate_dst (N := 7) rfl ?_); (try (refine gate_guard (by rfl) ?_; dsimp only)); refine box_event ?hg (N := 7) ?hd (cs := #[.int .i64 0, .int .i64 0]) (t := 46) ?hr ?_; (case hd => rfl); (case hg => rfl); (case hr => first | (go_simp; done) | (go_simp; rfl)); intro gb579 hg w48 hbox hb; have n0_ := Aside0.mk (Kd.R_below (by (with_reducible repeat (first | apply Kd.R_alloc | apply Kd.R_drewN | apply Kd.R_drew)); exact HO_5.out) hb); have n1_ := Aside0.mk (blk_below (g := gb567) (o := .cells #[.int .i64 a0_0, .slice A0_1 l0_1.length c0_1, .slice (some ad572) l0_2.length c0_2] 25 (0, 0)) (by (with_reducible repeat (first | refine blk_drewN ?_ _ | refine blk_drew ?_ | refine blk_alloc ?_ _)); exact BK567.out) hb); have n2_ := Aside0.mk (blk_below (g := gb573) (o := .cells #[.int .i64 ((rd_T42 l0_2 x21_1).f0), .int .i64 ((rd_T42 l0_2 x21_1).f1), .int .i64 ((rd_T42 l0_2 x21_1).f2), .slice (some ad578) ((rd_T42 l0_2 x21_1).f3).length c572_3] 42 (0, 0)) (by (with_reducible repeat (first | refine blk_drewN ?_ _ | refine blk_drew ?_ | refine blk_alloc ?_ _)); exact BK573.out) hb); have n3_ := Aside0.mk (below_step (by repeat (first | (with_reducible first | exact HB.out | apply below_alloc | apply pw_below_drewN | apply below_drew1 | refine below_set ?_ GE567.out | refine below_set ?_ GE573.out) | exact HB.out)) hb); have n4_ := Aside0.mk (hbox); have n5_ := Aside0.mk ((by rw [hg]; exact (below_size (by repeat (first | (with_reducible first | exact HB.out | apply below_alloc | apply pw_below_drewN | apply below_drew1 | refine below_set ?_ GE567.out | refine below_set ?_ GE573.out) | exact HB.out))) : w.heap.size ≤ gb579)); have n6_ := Aside0.mk ((by rw [hg]; exact (below_size (by repeat (first | (with_reducible first | exact HB.out | apply below_alloc | apply pw_below_drewN | apply below_drew1 | refine below_set ?_ GE567.out | refine below_set ?_ GE573.out) | exact HB.out))) : w.heap.size ≤ gb579)); have n7_ := Aside0.mk ((by rw [hg]; exact Nat.ne_of_lt (blk_lt (g := gb567) (o := .cells #[.int .i64 a0_0, .slice A0_1 l0_1.length c0_1, .slice (some ad572) l0_2.length c0_2] 25 (0, 0)) (by (with_reducible repeat (first | refine blk_drewN ?_ _ | refine blk_drew ?_ | refine blk_alloc ?_ _)); exact BK567.out)) : gb567 ≠ gb579)); have n8_ := Aside0.mk ((by rw [hg]; exact Nat.ne_of_gt (blk_lt (g := gb567) (o := .cells #[.int .i64 a0_0, .slice A0_1 l0_1.length c0_1, .slice (some ad572) l0_2.length c0_2] 25 (0, 0)) (by (with_reducible repeat (first | refine blk_drewN ?_ _ | refine blk_drew ?_ | refine blk_alloc ?_ _)); exact BK567.out)) : gb579 ≠ gb567)); have n9_ := Aside0.mk ((by rw [hg]; exact Nat.ne_of_lt (blk_lt (g := gb573) (o := .cells #[.int .i64 ((rd_T42 l0_2 x21_1).f0), .int .i64 ((rd_T42 l0_2 x21_1).f1), .int .i64 ((rd_T42 l0_2 x21_1).f2), .slice (some ad578) ((rd_T42 l0_2 x21_1).f3).length c572_3] 42 (0, 0)) (by (with_reducible repeat (first | refine blk_drewN ?_ _ | refine blk_drew ?_ | refine blk_alloc ?_ _)); exact BK573.out)) : gb573 ≠ gb579)); have n10_ := Aside0.mk ((by rw [hg]; exact Nat.ne_of_gt (blk_lt (g := gb573) (o := .cells #[.int .i64 ((rd_T42 l0_2 x21_1).f0), .int .i64 ((rd_T42 l0_2 x21_1).f1), .int .i64 ((rd_T42 l0_2 x21_1).f2), .slice (some ad578) ((rd_T42 l0_2 x21_1).f3).length c572_3] 42 (0, 0)) (by (with_reducible repeat (first | refine blk_drewN ?_ _ | refine blk_drew ?_ | refine blk_alloc ?_ _)); exact BK573.out)) : gb579 ≠ gb573)); clear HO_5; clear BK567; clear BK573; clear HB; have HO_5 := n0_; have BK567 := n1_; have BK573 := n2_; have HB := n3_; have BK579 := n4_; have GW579 := n5_; have GE579 := n6_; have NB567_579 := n7_; have NB579_567 := n8_; have NB573_579 := n9_; have NB579_573 := n10_; clear n0_ n1_ n2_ n3_ n4_ n5_ n6_ n7_ n8_ n9_ n10_; clear hb hbox hg; have hnb49 := NB579_567.out; have hnc49 := NB567_579.out; have hnb50 := NB579_573.out; have hnc50 := NB573_579.out; have hcz51_0 : w48.cell? ⟨gb579, 0, none⟩ = some (.int .i64 0) := (blk_cell BK579.out 0).trans rfl; have hcz51_1 : w48.cell? ⟨gb579, 1, none⟩ = some (.int .i64 0) := (blk_cell BK579.out 1).trans rfl; have hfz51_0 := blk_frozen BK579.out 0; have hfz51_1 := blk_frozen BK579.out 1; obtain ⟨Ao52, co52, eo52⟩ := Kd.R_slice HO_5.out; subst eo52; have p580 : 0 ≤ (x44_3 : Int) := of_decide_eq_true (by first | (with_reducible assumption) | assumption); have q580 : x44_3 < (t574.length : Int) := of_decide_eq_true (by first | (with_reducible assumption) | assumption); obtain ⟨ad580, e580, hx580_0⟩ := Kd.at_int (Kd.R_reads' HO_5.out).2.2 x44_3 p580 q580; cases e580; have hn580_0 : ad580.block ≠ gb579 := Kd.own_blk (Kd.R_ne HO_5.out BK579.out (by decide)); have hn580_1 : ad580.block ≠ gb579 := Kd.own_blk (Kd.R_ne HO_5.out BK579.out (by decide)); replace hx580_0 := (cell_far (p := ⟨gb579, 0, none⟩) (by first | (rw [add_block]; exact hn580_0) | (show (Addr.add _ _).block ≠ _; rw [add_block]; exact hn580_0) | exact hn580_0) (.int .i64 ((rd_T46 ((rd_T42 l0_2 x21_1).f3) x44_3).f0))).trans hx580_0; replace hx580_0 := (cell_far (p := ⟨gb579, 1, none⟩) (by first | (rw [add_block]; exact hn580_1) | (show (Addr.add _ _).block ≠ _; rw [add_block]; exact hn580_1) | exact hn580_1) (.int .i64 ((rd_T46 ((rd_T42 l0_2 x21_1).f3) x44_3).f1))).trans hx580_0; (try have hy580_0 := fun (n_ : Nat) => (show ((((w48.drewN n_).setCell ⟨gb579, 0, none⟩ (.int .i64 ((rd_T46 ((rd_T42 l0_2 x21_1).f3) x44_3).f0))).setCell ⟨gb579, 1, none⟩ (.int .i64 ((rd_T46 ((rd_T42 l0_2 x21_1).f3) x44_3).f1)))).cell? _ = some _ from hx580_0)); clear hn580_0; clear hn580_1; replace p580 := eq_true p580; replace q580 := eq_true q580; have hnb53 := NB567_573.out; have hnc53 := NB573_567.out; have hcz54_0 : w48.cell? ⟨gb567, 0, none⟩ = some (.int .i64 a0_0) := (blk_cell BK567.out 0).trans rfl; have hcz54_1 : w48.cell? ⟨gb567, 1, none⟩ = some (.slice A0_1 l0_1.length c0_1) := (blk_cell BK567.out 1).trans rfl; have hcz54_2 : w48.cell? ⟨gb567, 2, none⟩ = some (.slice (some ad572) l0_2.length c0_2) := (blk_cell BK567.out 2).trans rfl; have hfz54_0 := blk_frozen BK567.out 0; have hfz54_1 := blk_frozen BK567.out 1; have hfz54_2 := blk_frozen BK567.out 2) | (go_at_call 14; (with_reducible refine (check_Effect.calls k3 a0_0 _ _ l0_1 _ _ l0_2 x21_1 ((rd_T46 ((rd_T42 l0_2 x21_1).f3) x44_3).f0) ((rd_T46 ((rd_T42 l0_2 x21_1).f3) x44_3).f1) t581 t582 t583 _ ?side1 ?side2 ?side3 ?side4 A46.out).mono ?_); (case side1 => exact Kd.C_below HR0_1.out (by repeat (first | (with_reducible first | exact HB.out | apply below_alloc | apply pw_below_drewN | apply below_drew1 | refine below_set ?_ GE567.out | refine below_set ?_ GE573.out | refine below_set ?_ GE579.out) | exact HB.out))); (case side2 => exact HC0_1.out); (case side3 => exact Kd.C_below HR0_2.out (by repeat (first | (with_reducible first | exact HB.out | apply below_alloc | apply pw_below_drewN | apply below_drew1 | refine below_set ?_ GE567.out | refine below_set ?_ GE573.out | refine below_set ?_ GE579.out) | exact HB.out))); (case side4 => exact HC0_2.out); rintro e w55 ⟨rfl, hb⟩; have n0_ := Aside0.mk (Kd.R_below (by (with_reducible repeat (first | apply Kd.R_alloc | apply Kd.R_drewN | apply Kd.R_drew)); exact (Kd.R_mono (Kd.R_far (p := ⟨gb579, 1, none⟩) (Kd.R_far (p := ⟨gb579, 0, none⟩) (Kd.R_types HO_5.out BK579.out (by decide)) (fun _ hk => hk.2) (.int .i64 ((rd_T46 ((rd_T42 l0_2 x21_1).f3) x44_3).f0))) (fun _ hk => hk.2) (.int .i64 ((rd_T46 ((rd_T42 l0_2 x21_1).f3) x44_3).f1))) (fun _ h_ => h_.1))) hb); have n1_ := Aside0.mk (blk_below (g := gb567) (o := .cells #[.int .i64 a0_0, .slice A0_1 l0_1.length c0_1, .slice (some ad572) l0_2.length c0_2] 25 (0, 0)) (by (with_reducible repeat (first | refine blk_drewN ?_ _ | refine blk_drew ?_ | refine blk_alloc ?_ _)); refine blk_far ?_ NB567_579.out _; (with_reducible repeat (first | refine blk_drewN ?_ _ | refine blk_drew ?_ | refine blk_alloc ?_ _)); refine blk_far ?_ NB567_579.out _; (with_reducible repeat (first | refine blk_drewN ?_ _ | refine blk_drew ?_ | refine blk_alloc ?_ _)); exact BK567.out) hb); have n2_ := Aside0.mk (blk_below (g := gb573) (o := .cells #[.int .i64 ((rd_T42 l0_2 x21_1).f0), .int .i64 ((rd_T42 l0_2 x21_1).f1), .int .i64 ((rd_T42 l0_2 x21_1).f2), .slice (some ad578) ((rd_T42 l0_2 x21_1).f3).length c572_3] 42 (0, 0)) (by (with_reducible repeat (first | refine blk_drewN ?_ _ | refine blk_drew ?_ | refine blk_alloc ?_ _)); refine blk_far ?_ NB573_579.out _; (with_reducible repeat (first | refine blk_drewN ?_ _ | refine blk_drew ?_ | refine blk_alloc ?_ _)); refine blk_far ?_ NB573_579.out _; (with_reducible repeat (first | refine blk_drewN ?_ _ | refine blk_drew ?_ | refine blk_alloc ?_ _)); exact BK573.out) hb); have n3_ := Aside0.mk (blk_below (g := gb579) (o := .cells #[.int .i64 ((rd_T46 ((rd_T42 l0_2 x21_1).f3) x44_3).f0), .int .i64 ((rd_T46 ((rd_T42 l0_2 x21_1).f3) x44_3).f1)] 46 (0, 0)) (by (with_reducible repeat (first | refine blk_drewN ?_ _ | refine blk_drew ?_ | refine blk_alloc ?_ _)); refine blk_put (cs := #[.int .i64 ((rd_T46 ((rd_T42 l0_2 x21_1).f3) x44_3).f0), .int .i64 0]) ?_ 1 _ rfl; (with_reducible repeat (first | refine blk_drewN ?_ _ | refine blk_drew ?_ | refine blk_alloc ?_ _)); refine blk_put (cs := #[.int .i64 0, .int .i64 0]) ?_ 0 _ rfl; (with_reducible repeat (first | refine blk_drewN ?_ _ | refine blk_drew ?_ | refine blk_alloc ?_ _)); exact BK579.out) hb); have n4_ := Aside0.mk (below_step (by repeat (first | (with_reducible first | exact HB.out | apply below_alloc | apply pw_below_drewN | apply below_drew1 | refine below_set ?_ GE567.out | refine below_set ?_ GE573.out | refine below_set ?_ GE579.out) | exact HB.out)) hb); clear HO_5; clear BK567; clear BK573; clear BK579; clear HB; have HO_5 := n0_; have BK567 := n1_; have BK573 := n2_; have BK579 := n3_; have HB := n4_; clear n0_ n1_ n2_ n3_ n4_; (try clear hb); (try clear hb2); (try clear hk); (try clear hi); have p584 : 0 ≤ (x44_3 : Int) := of_decide_eq_true (by first | (with_reducible assumption) | assumption); have q584 : x44_3 < (t574.length : Int) := of_decide_eq_true (by first | (with_reducible assumption) | assumption); obtain ⟨ad584, e584, hx584_0⟩ := Kd.at_int (Kd.R_reads' HO_5.out).2.2 x44_3 p584 q584; obtain rfl : ad580 = ad584 := (by injection e584); replace p584 := eq_true p584; replace q584 := eq_true q584)); go_upto_region 17 with (first | ((with_reducible refine gate_dst (N := 7) rfl ?_); (try (refine gate_guard (by rfl) ?_; dsimp only)); refine box_event ?hg (N := 7) ?hd (cs := #[.int .i64 0, .int .i64 0]) (t := 46) ?hr ?_; (case hd => rfl); (case hg => rfl); (case hr => first | (go_simp; done) | (go_simp; rfl)); intro gb579 hg w48 hbox hb; have n0_ := Aside0.mk (Kd.R_below (by (with_reducible repeat (first | apply Kd.R_alloc | apply Kd.R_drewN | apply Kd.R_drew)); exact HO_5.out) hb); have n1_ := Aside0.mk (blk_below (g := gb567) (o := .cells #[.int .i64 a0_0, .slice A0_1 l0_1.length c0_1, .slice (some ad572) l0_2.length c0_2] 25 (0, 0)) (by (with_reducible repeat (first | refine blk_drewN ?_ _ | refine blk_drew ?_ | refine blk_alloc ?_ _)); exact BK567.out) hb); have n2_ := Aside0.mk (blk_below (g := gb573) (o := .cells #[.int .i64 ((rd_T42 l0_2 x21_1).f0), .int .i64 ((rd_T42 l0_2 x21_1).f1), .int .i64 ((rd_T42 l0_2 x21_1).f2), .slice (some ad578) ((rd_T42 l0_2 x21_1).f3).length c572_3] 42 (0, 0)) (by (with_reducible repeat (first | refine blk_drewN ?_ _ | refine blk_drew ?_ | refine blk_alloc ?_ _)); exact BK573.out) hb); have n3_ := Aside0.mk (below_step (by repeat (first | (with_reducible first | exact HB.out | apply below_alloc | apply pw_below_drewN | apply below_drew1 | refine below_set ?_ GE567.out | refine below_set ?_ GE573.out) | exact HB.out)) hb); have n4_ := Aside0.mk (hbox); have n5_ := Aside0.mk ((by rw [hg]; exact (below_size (by repeat (first | (with_reducible first | exact HB.out | apply below_alloc | apply pw_below_drewN | apply below_drew1 | refine below_set ?_ GE567.out | refine below_set ?_ GE573.out) | exact HB.out))) : w.heap.size ≤ gb579)); have n6_ := Aside0.mk ((by rw [hg]; exact (below_size (by repeat (first | (with_reducible first | exact HB.out | apply below_alloc | apply pw_below_drewN | apply below_drew1 | refine below_set ?_ GE567.out | refine below_set ?_ GE573.out) | exact HB.out))) : w.heap.size ≤ gb579)); have n7_ := Aside0.mk ((by rw [hg]; exact Nat.ne_of_lt (blk_lt (g := gb567) (o := .cells #[.int .i64 a0_0, .slice A0_1 l0_1.length c0_1, .slice (some ad572) l0_2.length c0_2] 25 (0, 0)) (by (with_reducible repeat (first | refine blk_drewN ?_ _ | refine blk_drew ?_ | refine blk_alloc ?_ _)); exact BK567.out)) : gb567 ≠ gb579)); have n8_ := Aside0.mk ((by rw [hg]; exact Nat.ne_of_gt (blk_lt (g := gb567) (o := .cells #[.int .i64 a0_0, .slice A0_1 l0_1.length c0_1, .slice (some ad572) l0_2.length c0_2] 25 (0, 0)) (by (with_reducible repeat (first | refine blk_drewN ?_ _ | refine blk_drew ?_ | refine blk_alloc ?_ _)); exact BK567.out)) : gb579 ≠ gb567)); have n9_ := Aside0.mk ((by rw [hg]; exact Nat.ne_of_lt (blk_lt (g := gb573) (o := .cells #[.int .i64 ((rd_T42 l0_2 x21_1).f0), .int .i64 ((rd_T42 l0_2 x21_1).f1), .int .i64 ((rd_T42 l0_2 x21_1).f2), .slice (some ad578) ((rd_T42 l0_2 x21_1).f3).length c572_3] 42 (0, 0)) (by (with_reducible repeat (first | refine blk_drewN ?_ _ | refine blk_drew ?_ | refine blk_alloc ?_ _)); exact BK573.out)) : gb573 ≠ gb579)); have n10_ := Aside0.mk ((by rw [hg]; exact Nat.ne_of_gt (blk_lt (g := gb573) (o := .cells #[.int .i64 ((rd_T42 l0_2 x21_1).f0), .int .i64 ((rd_T42 l0_2 x21_1).f1), .int .i64 ((rd_T42 l0_2 x21_1).f2), .slice (some ad578) ((rd_T42 l0_2 x21_1).f3).length c572_3] 42 (0, 0)) (by (with_reducible repeat (first | refine blk_drewN ?_ _ | refine blk_drew ?_ | refine blk_alloc ?_ _)); exact BK573.out)) : gb579 ≠ gb573)); clear HO_5; clear BK567; clear BK573; clear HB; have HO_5 := n0_; have BK567 := n1_; have BK573 := n2_; have HB := n3_; have BK579 := n4_; have GW579 := n5_; have GE579 := n6_; have NB567_579 := n7_; have NB579_567 := n8_; have NB573_579 := n9_; have NB579_573 := n10_; clear n0_ n1_ n2_ n3_ n4_ n5_ n6_ n7_ n8_ n9_ n10_; clear hb hbox hg; have hnb49 := NB579_567.out; have hnc49 := NB567_579.out; have hnb50 := NB579_573.out; have hnc50 := NB573_579.out; have hcz51_0 : w48.cell? ⟨gb579, 0, none⟩ = some (.int .i64 0) := (blk_cell BK579.out 0).trans rfl; have hcz51_1 : w48.cell? ⟨gb579, 1, none⟩ = some (.int .i64 0) := (blk_cell BK579.out 1).trans rfl; have hfz51_0 := blk_frozen BK579.out 0; have hfz51_1 := blk_frozen BK579.out 1; obtain ⟨Ao52, co52, eo52⟩ := Kd.R_slice HO_5.out; subst eo52; have p580 : 0 ≤ (x44_3 : Int) := of_decide_eq_true (by first | (with_reducible assumption) | assumption); have q580 : x44_3 < (t574.length : Int) := of_decide_eq_true (by first | (with_reducible assumption) | assumption); obtain ⟨ad580, e580, hx580_0⟩ := Kd.at_int (Kd.R_reads' HO_5.out).2.2 x44_3 p580 q580; cases e580; have hn580_0 : ad580.block ≠ gb579 := Kd.own_blk (Kd.R_ne HO_5.out BK579.out (by decide)); have hn580_1 : ad580.block ≠ gb579 := Kd.own_blk (Kd.R_ne HO_5.out BK579.out (by decide)); replace hx580_0 := (cell_far (p := ⟨gb579, 0, none⟩) (by first | (rw [add_block]; exact hn580_0) | (show (Addr.add _ _).block ≠ _; rw [add_block]; exact hn580_0) | exact hn580_0) (.int .i64 ((rd_T46 ((rd_T42 l0_2 x21_1).f3) x44_3).f0))).trans hx580_0; replace hx580_0 := (cell_far (p := ⟨gb579, 1, none⟩) (by first | (rw [add_block]; exact hn580_1) | (show (Addr.add _ _).block ≠ _; rw [add_block]; exact hn580_1) | exact hn580_1) (.int .i64 ((rd_T46 ((rd_T42 l0_2 x21_1).f3) x44_3).f1))).trans hx580_0; (try have hy580_0 := fun (n_ : Nat) => (show ((((w48.drewN n_).setCell ⟨gb579, 0, none⟩ (.int .i64 ((rd_T46 ((rd_T42 l0_2 x21_1).f3) x44_3).f0))).setCell ⟨gb579, 1, none⟩ (.int .i64 ((rd_T46 ((rd_T42 l0_2 x21_1).f3) x44_3).f1)))).cell? _ = some _ from hx580_0)); clear hn580_0; clear hn580_1; replace p580 := eq_true p580; replace q580 := eq_true q580; have hnb53 := NB567_573.out; have hnc53 := NB573_567.out; have hcz54_0 : w48.cell? ⟨gb567, 0, none⟩ = some (.int .i64 a0_0) := (blk_cell BK567.out 0).trans rfl; have hcz54_1 : w48.cell? ⟨gb567, 1, none⟩ = some (.slice A0_1 l0_1.length c0_1) := (blk_cell BK567.out 1).trans rfl; have hcz54_2 : w48.cell? ⟨gb567, 2, none⟩ = some (.slice (some ad572) l0_2.length c0_2) := (blk_cell BK567.out 2).trans rfl; have hfz54_0 := blk_frozen BK567.out 0; have hfz54_1 := blk_frozen BK567.out 1; have hfz54_2 := blk_frozen BK567.out 2) | (go_at_call 14; (with_reducible refine (check_Effect.calls k3 a0_0 _ _ l0_1 _ _ l0_2 x21_1 ((rd_T46 ((rd_T42 l0_2 x21_1).f3) x44_3).f0) ((rd_T46 ((rd_T42 l0_2 x21_1).f3) x44_3).f1) t581 t582 t583 _ ?side1 ?side2 ?side3 ?side4 A46.out).mono ?_); (case side1 => exact Kd.C_below HR0_1.out (by repeat (first | (with_reducible first | exact HB.out | apply below_alloc | apply pw_below_drewN | apply below_drew1 | refine below_set ?_ GE567.out | refine below_set ?_ GE573.out | refine below_set ?_ GE579.out) | exact HB.out))); (case side2 => exact HC0_1.out); (case side3 => exact Kd.C_below HR0_2.out (by repeat (first | (with_reducible first | exact HB.out | apply below_alloc | apply pw_below_drewN | apply below_drew1 | refine below_set ?_ GE567.out | refine below_set ?_ GE573.out | refine below_set ?_ GE579.out) | exact HB.out))); (case side4 => exact HC0_2.out); rintro e w55 ⟨rfl, hb⟩; have n0_ := Aside0.mk (Kd.R_below (by (with_reducible repeat (first | apply Kd.R_alloc | apply Kd.R_drewN | apply Kd.R_drew)); exact (Kd.R_mono (Kd.R_far (p := ⟨gb579, 1, none⟩) (Kd.R_far (p := ⟨gb579, 0, none⟩) (Kd.R_types HO_5.out BK579.out (by decide)) (fun _ hk => hk.2) (.int .i64 ((rd_T46 ((rd_T42 l0_2 x21_1).f3) x44_3).f0))) (fun _ hk => hk.2) (.int .i64 ((rd_T46 ((rd_T42 l0_2 x21_1).f3) x44_3).f1))) (fun _ h_ => h_.1))) hb); have n1_ := Aside0.mk (blk_below (g := gb567) (o := .cells #[.int .i64 a0_0, .slice A0_1 l0_1.length c0_1, .slice (some ad572) l0_2.length c0_2] 25 (0, 0)) (by (with_reducible repeat (first | refine blk_drewN ?_ _ | refine blk_drew ?_ | refine blk_alloc ?_ _)); refine blk_far ?_ NB567_579.out _; (with_reducible repeat (first | refine blk_drewN ?_ _ | refine blk_drew ?_ | refine blk_alloc ?_ _)); refine blk_far ?_ NB567_579.out _; (with_reducible repeat (first | refine blk_drewN ?_ _ | refine blk_drew ?_ | refine blk_alloc ?_ _)); exact BK567.out) hb); have n2_ := Aside0.mk (blk_below (g := gb573) (o := .cells #[.int .i64 ((rd_T42 l0_2 x21_1).f0), .int .i64 ((rd_T42 l0_2 x21_1).f1), .int .i64 ((rd_T42 l0_2 x21_1).f2), .slice (some ad578) ((rd_T42 l0_2 x21_1).f3).length c572_3] 42 (0, 0)) (by (with_reducible repeat (first | refine blk_drewN ?_ _ | refine blk_drew ?_ | refine blk_alloc ?_ _)); refine blk_far ?_ NB573_579.out _; (with_reducible repeat (first | refine blk_drewN ?_ _ | refine blk_drew ?_ | refine blk_alloc ?_ _)); refine blk_far ?_ NB573_579.out _; (with_reducible repeat (first | refine blk_drewN ?_ _ | refine blk_drew ?_ | refine blk_alloc ?_ _)); exact BK573.out) hb); have n3_ := Aside0.mk (blk_below (g := gb579) (o := .cells #[.int .i64 ((rd_T46 ((rd_T42 l0_2 x21_1).f3) x44_3).f0), .int .i64 ((rd_T46 ((rd_T42 l0_2 x21_1).f3) x44_3).f1)] 46 (0, 0)) (by (with_reducible repeat (first | refine blk_drewN ?_ _ | refine blk_drew ?_ | refine blk_alloc ?_ _)); refine blk_put (cs := #[.int .i64 ((rd_T46 ((rd_T42 l0_2 x21_1).f3) x44_3).f0), .int .i64 0]) ?_ 1 _ rfl; (with_reducible repeat (first | refine blk_drewN ?_ _ | refine blk_drew ?_ | refine blk_alloc ?_ _)); refine blk_put (cs := #[.int .i64 0, .int .i64 0]) ?_ 0 _ rfl; (with_reducible repeat (first | refine blk_drewN ?_ _ | refine blk_drew ?_ | refine blk_alloc ?_ _)); exact BK579.out) hb); have n4_ := Aside0.mk (below_step (by repeat (first | (with_reducible first | exact HB.out | apply below_alloc | apply pw_below_drewN | apply below_drew1 | refine below_set ?_ GE567.out | refine below_set ?_ GE573.out | refine below_set ?_ GE579.out) | exact HB.out)) hb); clear HO_5; clear BK567; clear BK573; clear BK579; clear HB; have HO_5 := n0_; have BK567 := n1_; have BK573 := n2_; have BK579 := n3_; have HB := n4_; clear n0_ n1_ n2_ n3_ n4_; (try clear hb); (try clear hb2); (try clear hk); (try clear hi); have p584 : 0 ≤ (x44_3 : Int) := of_decide_eq_true (by first | (with_reducible assumption) | assumption); have q584 : x44_3 < (t574.length : Int) := of_decide_eq_true (by first | (with_reducible assumption) | assumption); obtain ⟨ad584, e584, hx584_0⟩ := Kd.at_int (Kd.R_reads' HO_5.out).2.2 x44_3 p584 q584; obtain rfl : ad580 = ad584 := (by injection e584); replace p584 := eq_true p584; replace q584 := eq_true q584)))
                                    (try simp only [Act.put, List.setIfInBounds_toArray, List.set_cons_zero, List.set_cons_succ])
                                    go_cut [90] (fun v90 wc => ∃ (kq : Nat) (x90_46 : Bool), v90 = .bool x90_46 ∧ Aside0 (casementlaw13_CheckSound.j3 kq x21_1 t574 x44_3 (wrap64 ((wrap64 ((rd t574 x44_3) - t581)) + t582)) l0_2 (l0_2.length : Int) x21_1 ((rd_T42 l0_2 x21_1).f3) (((rd_T42 l0_2 x21_1).f3).length : Int) x44_3 x90_46 a0_0 l0_1 l0_2 ((rd_T42 l0_2 x21_1).f0) ((rd_T42 l0_2 x21_1).f1) ((rd_T42 l0_2 x21_1).f2) ((rd_T42 l0_2 x21_1).f3) ((rd_T46 ((rd_T42 l0_2 x21_1).f3) x44_3).f0) ((rd_T46 ((rd_T42 l0_2 x21_1).f3) x44_3).f1) = some r) ∧ Aside0 (kq ≤ k3) ∧ Aside0 (Kd.R (Kd.int .i64) 3 wc w.heap.size (fun _ => True) (.slice (some ad580) t574.length co52) t574) ∧ Aside0 (wc.heap[gb567]? = some (.cells #[.int .i64 a0_0, (.slice A0_1 l0_1.length c0_1), (.slice (some ad572) l0_2.length c0_2)] 25 (0, 0))) ∧ Aside0 (wc.heap[gb573]? = some (.cells #[.int .i64 ((rd_T42 l0_2 x21_1).f0), .int .i64 ((rd_T42 l0_2 x21_1).f1), .int .i64 ((rd_T42 l0_2 x21_1).f2), (.slice (some ad578) ((rd_T42 l0_2 x21_1).f3).length c572_3)] 42 (0, 0))) ∧ Aside0 (wc.heap[gb579]? = some (.cells #[.int .i64 ((rd_T46 ((rd_T42 l0_2 x21_1).f3) x44_3).f0), .int .i64 ((rd_T46 ((rd_T42 l0_2 x21_1).f3) x44_3).f1)] 46 (0, 0))) ∧ Aside0 (Below w.heap.size w wc))
                                    case first =>
                                      have H := HC47.out
                                      clear HC47
                                      by_cases c56 : t583 = true
                                      · subst c56
                                        have H1 : (if (rd t574 x44_3) < t581 then (casementlaw13_CheckSound.j3 k3 x21_1 t574 x44_3 (wrap64 ((wrap64 ((rd t574 x44_3) - t581)) + t582)) l0_2 (l0_2.length : Int) x21_1 ((rd_T42 l0_2 x21_1).f3) (((rd_T42 l0_2 x21_1).f3).length : Int) x44_3 true a0_0 l0_1 l0_2 ((rd_T42 l0_2 x21_1).f0) ((rd_T42 l0_2 x21_1).f1) ((rd_T42 l0_2 x21_1).f2) ((rd_T42 l0_2 x21_1).f3) ((rd_T46 ((rd_T42 l0_2 x21_1).f3) x44_3).f0) ((rd_T46 ((rd_T42 l0_2 x21_1).f3) x44_3).f1)) else (if (wrap64 ((wrap64 ((rd t574 x44_3) - t581)) + t582)) > 64 then (casementlaw13_CheckSound.j3 k3 x21_1 t574 x44_3 (wrap64 ((wrap64 ((rd t574 x44_3) - t581)) + t582)) l0_2 (l0_2.length : Int) x21_1 ((rd_T42 l0_2 x21_1).f3) (((rd_T42 l0_2 x21_1).f3).length : Int) x44_3 true a0_0 l0_1 l0_2 ((rd_T42 l0_2 x21_1).f0) ((rd_T42 l0_2 x21_1).f1) ((rd_T42 l0_2 x21_1).f2) ((rd_T42 l0_2 x21_1).f3) ((rd_T46 ((rd_T42 l0_2 x21_1).f3) x44_3).f0) ((rd_T46 ((rd_T42 l0_2 x21_1).f3) x44_3).f1)) else (casementlaw13_CheckSound.j3 k3 x21_1 t574 x44_3 (wrap64 ((wrap64 ((rd t574 x44_3) - t581)) + t582)) l0_2 (l0_2.length : Int) x21_1 ((rd_T42 l0_2 x21_1).f3) (((rd_T42 l0_2 x21_1).f3).length : Int) x44_3 (decide ((rd t574 x44_3) > 64)) a0_0 l0_1 l0_2 ((rd_T42 l0_2 x21_1).f0) ((rd_T42 l0_2 x21_1).f1) ((rd_T42 l0_2 x21_1).f2) ((rd_T42 l0_2 x21_1).f3) ((rd_T46 ((rd_T42 l0_2 x21_1).f3) x44_3).f0) ((rd_T46 ((rd_T42 l0_2 x21_1).f3) x44_3).f1)))) = some r := by rw [if_pos rfl] at H; exact H
                                        clear H
                                        have H := H1
                                        clear H1
                                        by_cases c57 : (rd t574 x44_3) < t581
                                        · rw [if_pos c57] at H
                                          have c57b0 : decide ((rd t574 x44_3) < t581) = true := decide_eq_true c57
                                          clear c57
                                          (first | rw [c57b0] | (simp only [i64_w, i32_w]; rw [c57b0]) | skip)
                                          have H' := Aside0.mk H
                                          clear H
                                          have p585 : 0 ≤ (x44_3 : Int) := of_decide_eq_true (by first | (with_reducible assumption) | assumption)
                                          have q585 : x44_3 < (t574.length : Int) := of_decide_eq_true (by first | (with_reducible assumption) | assumption)
                                          obtain ⟨ad585, e585, hx585_0⟩ := Kd.at_int (Kd.R_reads' HO_5.out).2.2 x44_3 p585 q585
                                          obtain rfl : ad580 = ad585 := (by injection e585)
                                          replace p585 := eq_true p585
                                          replace q585 := eq_true q585
                                          go_wp2
                                          repeat (go_quiet (fail); try go_wp2)
                                          go_meet
                                          case rel => exact ⟨_, (true), (by first | rfl | (simp; done) | (simp [*]; done)), H', ⟨by have := HK1.out; have := HJ18.out; have := HK3.out; first | omega | exact Nat.le_refl _⟩, ⟨by (with_reducible repeat (first | apply Kd.R_alloc | apply Kd.R_drewN | apply Kd.R_drew)); exact HO_5.out⟩, ⟨by (with_reducible repeat (first | refine blk_drewN ?_ _ | refine blk_drew ?_ | refine blk_alloc ?_ _)); exact BK567.out⟩, ⟨by (with_reducible repeat (first | refine blk_drewN ?_ _ | refine blk_drew ?_ | refine blk_alloc ?_ _)); exact BK573.out⟩, ⟨by (with_reducible repeat (first | refine blk_drewN ?_ _ | refine blk_drew ?_ | refine blk_alloc ?_ _)); exact BK579.out⟩, ⟨by repeat (first | (with_reducible first | exact HB.out | apply below_alloc | apply pw_below_drewN | apply below_drew1 | refine below_set ?_ GE567.out | refine below_set ?_ GE573.out | refine below_set ?_ GE579.out) | exact HB.out)⟩⟩
                                        · rw [if_neg c57] at H
                                          have c57b0 : decide ((rd t574 x44_3) < t581) = false := decide_eq_false c57
                                          clear c57
                                          (first | rw [c57b0] | (simp only [i64_w, i32_w]; rw [c57b0]) | skip)
                                          by_cases c58 : (wrap64 ((wrap64 ((rd t574 x44_3) - t581)) + t582)) > 64
                                          · rw [if_pos c58] at H
                                            have c58b0 : decide (64 < (wrap64 ((wrap64 ((rd t574 x44_3) - t581)) + t582))) = true := decide_eq_true c58
                                            clear c58
                                            have H' := Aside0.mk H
                                            clear H
                                            have p585 : 0 ≤ (x44_3 : Int) := of_decide_eq_true (by first | (with_reducible assumption) | assumption)
                                            have q585 : x44_3 < (t574.length : Int) := of_decide_eq_true (by first | (with_reducible assumption) | assumption)
                                            obtain ⟨ad585, e585, hx585_0⟩ := Kd.at_int (Kd.R_reads' HO_5.out).2.2 x44_3 p585 q585
                                            obtain rfl : ad580 = ad585 := (by injection e585)
                                            replace p585 := eq_true p585
                                            replace q585 := eq_true q585
                                            go_wp2
                                            repeat (go_quiet (fail); try go_wp2)
                                            go_meet
                                            case rel => exact ⟨_, (true), (by first | rfl | (simp; done) | (simp [*]; done)), H', ⟨by have := HK1.out; have := HJ18.out; have := HK3.out; first | omega | exact Nat.le_refl _⟩, ⟨by (with_reducible repeat (first | apply Kd.R_alloc | apply Kd.R_drewN | apply Kd.R_drew)); exact HO_5.out⟩, ⟨by (with_reducible repeat (first | refine blk_drewN ?_ _ | refine blk_drew ?_ | refine blk_alloc ?_ _)); exact BK567.out⟩, ⟨by (with_reducible repeat (first | refine blk_drewN ?_ _ | refine blk_drew ?_ | refine blk_alloc ?_ _)); exact BK573.out⟩, ⟨by (with_reducible repeat (first | refine blk_drewN ?_ _ | refine blk_drew ?_ | refine blk_alloc ?_ _)); exact BK579.out⟩, ⟨by repeat (first | (with_reducible first | exact HB.out | apply below_alloc | apply pw_below_drewN | apply below_drew1 | refine below_set ?_ GE567.out | refine below_set ?_ GE573.out | refine below_set ?_ GE579.out) | exact HB.out)⟩⟩
                                          · rw [if_neg c58] at H
                                            have c58b0 : decide (64 < (wrap64 ((wrap64 ((rd t574 x44_3) - t581)) + t582))) = false := decide_eq_false c58
                                            clear c58
                                            have H' := Aside0.mk H
                                            clear H
                                            have p585 : 0 ≤ (x44_3 : Int) := of_decide_eq_true (by first | (with_reducible assumption) | assumption)
                                            have q585 : x44_3 < (t574.length : Int) := of_decide_eq_true (by first | (with_reducible assumption) | assumption)
                                            obtain ⟨ad585, e585, hx585_0⟩ := Kd.at_int (Kd.R_reads' HO_5.out).2.2 x44_3 p585 q585
                                            obtain rfl : ad580 = ad585 := (by injection e585)
                                            replace p585 := eq_true p585
                                            replace q585 := eq_true q585
                                            have p586 : 0 ≤ (x44_3 : Int) := of_decide_eq_true (by first | (with_reducible assumption) | assumption)
                                            have q586 : x44_3 < (t574.length : Int) := of_decide_eq_true (by first | (with_reducible assumption) | assumption)
                                            obtain ⟨ad586, e586, hx586_0⟩ := Kd.at_int (Kd.R_reads' HO_5.out).2.2 x44_3 p586 q586
                                            obtain rfl : ad580 = ad586 := (by injection e586)
                                            replace p586 := eq_true p586
                                            replace q586 := eq_true q586
                                            go_wp2
                                            repeat (go_quiet (fail); try go_wp2)
                                            go_meet
                                            case rel => exact ⟨_, (decide ((rd t574 x44_3) > 64)), (by first | rfl | (simp; done) | (simp [*]; done)), H', ⟨by have := HK1.out; have := HJ18.out; have := HK3.out; first | omega | exact Nat.le_refl _⟩, ⟨by (with_reducible repeat (first | apply Kd.R_alloc | apply Kd.R_drewN | apply Kd.R_drew)); exact HO_5.out⟩, ⟨by (with_reducible repeat (first | refine blk_drewN ?_ _ | refine blk_drew ?_ | refine blk_alloc ?_ _)); exact BK567.out⟩, ⟨by (with_reducible repeat (first | refine blk_drewN ?_ _ | refine blk_drew ?_ | refine blk_alloc ?_ _)); exact BK573.out⟩, ⟨by (with_reducible repeat (first | refine blk_drewN ?_ _ | refine blk_drew ?_ | refine blk_alloc ?_ _)); exact BK579.out⟩, ⟨by repeat (first | (with_reducible first | exact HB.out | apply below_alloc | apply pw_below_drewN | apply below_drew1 | refine below_set ?_ GE567.out | refine below_set ?_ GE573.out | refine below_set ?_ GE579.out) | exact HB.out)⟩⟩
                                      · replace c56 := Bool.eq_false_iff.mpr c56
                                        subst c56
                                        have H1 : (casementlaw13_CheckSound.j3 k3 x21_1 t574 x44_3 (wrap64 ((wrap64 ((rd t574 x44_3) - t581)) + t582)) l0_2 (l0_2.length : Int) x21_1 ((rd_T42 l0_2 x21_1).f3) (((rd_T42 l0_2 x21_1).f3).length : Int) x44_3 true a0_0 l0_1 l0_2 ((rd_T42 l0_2 x21_1).f0) ((rd_T42 l0_2 x21_1).f1) ((rd_T42 l0_2 x21_1).f2) ((rd_T42 l0_2 x21_1).f3) ((rd_T46 ((rd_T42 l0_2 x21_1).f3) x44_3).f0) ((rd_T46 ((rd_T42 l0_2 x21_1).f3) x44_3).f1)) = some r := by rw [if_neg (show ¬ (false = true) by decide)] at H; exact H
                                        clear H
                                        have H := H1
                                        clear H1
                                        have H' := Aside0.mk H
                                        clear H
                                        go_wp2
                                        repeat (go_quiet (fail); try go_wp2)
                                        go_meet
                                        case rel => exact ⟨_, (true), (by first | rfl | (simp; done) | (simp [*]; done)), H', ⟨by have := HK1.out; have := HJ18.out; have := HK3.out; first | omega | exact Nat.le_refl _⟩, ⟨by (with_reducible repeat (first | apply Kd.R_alloc | apply Kd.R_drewN | apply Kd.R_drew)); exact HO_5.out⟩, ⟨by (with_reducible repeat (first | refine blk_drewN ?_ _ | refine blk_drew ?_ | refine blk_alloc ?_ _)); exact BK567.out⟩, ⟨by (with_reducible repeat (first | refine blk_drewN ?_ _ | refine blk_drew ?_ | refine blk_alloc ?_ _)); exact BK573.out⟩, ⟨by (with_reducible repeat (first | refine blk_drewN ?_ _ | refine blk_drew ?_ | refine blk_alloc ?_ _)); exact BK579.out⟩, ⟨by repeat (first | (with_reducible first | exact HB.out | apply below_alloc | apply pw_below_drewN | apply below_drew1 | refine below_set ?_ GE567.out | refine below_set ?_ GE573.out | refine below_set ?_ GE579.out) | exact HB.out)⟩⟩
                                    case rest =>
                                      clear HC47
                                      try clear c1
                                      try clear c2
                                      try clear p2
                                      try clear c3
                                      try clear c4
                                      try clear c5
                                      try clear c5b0
                                      try clear p5
                                      try clear q5
                                      try clear hx5
                                      try clear qi5
                                      try clear p6
                                      try clear c15
                                      try clear c15b0
                                      try clear c16
                                      try clear c16b0
                                      try clear c17
                                      try clear c17b0
                                      try clear c21
                                      try clear c25
                                      try clear c25b0
                                      try clear c25b1
                                      try clear c25b2
                                      try clear c26
                                      try clear c26b0
                                      try clear c26b1
                                      try clear c28
                                      try clear c31
                                      try clear c33
                                      try clear c34
                                      try clear c36
                                      try clear c36b0
                                      try clear c37
                                      try clear c37b0
                                      try clear c38
                                      try clear c38b0
                                      try clear c39
                                      try clear c39b0
                                      try clear c40
                                      try clear c40b0
                                      try clear c42
                                      try clear c43
                                      try clear c49
                                      try clear c50
                                      try clear c53
                                      try clear c56
                                      try clear c57
                                      try clear c57b0
                                      try clear p57
                                      try clear q57
                                      try clear hx57
                                      try clear qi57
                                      try clear c58
                                      try clear c58b0
                                      try clear p58
                                      try clear q58
                                      try clear hx58
                                      try clear hcz12_0
                                      try clear hcz12_1
                                      try clear hcz12_2
                                      try clear hcz14_0
                                      try clear hcz14_1
                                      try clear hcz14_2
                                      try clear hcz22_0
                                      try clear hcz22_1
                                      try clear hcz22_2
                                      try clear hcz22_3
                                      try clear hcz23_0
                                      try clear hcz23_1
                                      try clear hcz23_2
                                      try clear hcz29_0
                                      try clear hcz29_1
                                      try clear hcz29_2
                                      try clear hcz29_3
                                      try clear hcz32_0
                                      try clear hcz32_1
                                      try clear hcz32_2
                                      try clear hcz32_3
                                      try clear hcz35_0
                                      try clear hcz35_1
                                      try clear hcz35_2
                                      try clear hcz35_3
                                      try clear hcz44_0
                                      try clear hcz44_1
                                      try clear hcz51_0
                                      try clear hcz51_1
                                      try clear hcz54_0
                                      try clear hcz54_1
                                      try clear hcz54_2
                                      try clear hcz8_0
                                      try clear hcz8_1
                                      try clear hcz8_2
                                      try clear hfz12_0
                                      try clear hfz12_1
                                      try clear hfz12_2
                                      try clear hfz14_0
                                      try clear hfz14_1
                                      try clear hfz14_2
                                      try clear hfz22_0
                                      try clear hfz22_1
                                      try clear hfz22_2
                                      try clear hfz22_3
                                      try clear hfz23_0
                                      try clear hfz23_1
                                      try clear hfz23_2
                                      try clear hfz29_0
                                      try clear hfz29_1
                                      try clear hfz29_2
                                      try clear hfz29_3
                                      try clear hfz32_0
                                      try clear hfz32_1
                                      try clear hfz32_2
                                      try clear hfz32_3
                                      try clear hfz35_0
                                      try clear hfz35_1
                                      try clear hfz35_2
                                      try clear hfz35_3
                                      try clear hfz44_0
                                      try clear hfz44_1
                                      try clear hfz51_0
                                      try clear hfz51_1
                                      try clear hfz54_0
                                      try clear hfz54_1
                                      try clear hfz54_2
                                      try clear hfz8_0
                                      try clear hfz8_1
                                      try clear hfz8_2
                                      try clear hx572_0
                                      try clear hx572_1
                                      try clear hx572_2
                                      try clear hx572_3
                                      try clear hx577_0
                                      try clear hx578_0
                                      try clear hx578_1
                                      try clear hx580_0
                                      try clear hx584_0
                                      try clear hx585_0
                                      try clear hx586_0
                                      try clear p2
                                      try clear p5
                                      try clear p572
                                      try clear p577
                                      try clear p578
                                      try clear p580
                                      try clear p584
                                      try clear p585
                                      try clear p586
                                      try clear q5
                                      try clear q572
                                      try clear q577
                                      try clear q578
                                      try clear q580
                                      try clear q584
                                      try clear q585
                                      try clear q586
                                      obtain ⟨kq, x90_46, rfl, HA, HJ46, HO_5, BK567, BK573, BK579, HB⟩ := hcut
                                      cases kq with
                                      | zero => exact absurd HA.out (by simp [casementlaw13_CheckSound.j3])
                                      | succ kj46 =>
                                        have H := HA.out
                                        clear HA
                                        simp only [casementlaw13_CheckSound.j3] at H
                                        by_cases c59 : x90_46 = true
                                        · subst c59
                                          have H1 : (some false) = some r := by rw [if_pos rfl] at H; exact H
                                          clear H
                                          have H := H1
                                          clear H1
                                          exact absurd ((Option.some.inj H).trans HRT.out) (by decide)
                                        · replace c59 := Bool.eq_false_iff.mpr c59
                                          subst c59
                                          have H1 : (if ((rd_T46 ((rd_T42 l0_2 x21_1).f3) x44_3).f0) = 27 then (if 0 ≤ x44_3 then (if x44_3 < (t574.length : Int) then (if (rd t574 x44_3) = ((rd_T42 l0_2 x21_1).f1) then (casementlaw13_CheckSound.l1 kj46 x21_1 t574 l0_2 (l0_2.length : Int) x21_1 ((rd_T42 l0_2 x21_1).f3) (((rd_T42 l0_2 x21_1).f3).length : Int) (wrap64 (x44_3 + 1)) a0_0 l0_1 l0_2 ((rd_T42 l0_2 x21_1).f0) ((rd_T42 l0_2 x21_1).f1) ((rd_T42 l0_2 x21_1).f2) ((rd_T42 l0_2 x21_1).f3)) else (some false)) else (none)) else (none)) else (if ((rd_T46 ((rd_T42 l0_2 x21_1).f3) x44_3).f0) = 24 then (if 0 ≤ ((rd_T46 ((rd_T42 l0_2 x21_1).f3) x44_3).f1) then (if ((rd_T46 ((rd_T42 l0_2 x21_1).f3) x44_3).f1) < (t574.length : Int) then (casementlaw13_CheckSound.j4 kj46 x21_1 t574 x44_3 (wrap64 ((wrap64 ((rd t574 x44_3) - t581)) + t582)) l0_2 (l0_2.length : Int) x21_1 ((rd_T42 l0_2 x21_1).f3) (((rd_T42 l0_2 x21_1).f3).length : Int) x44_3 ((rd t574 ((rd_T46 ((rd_T42 l0_2 x21_1).f3) x44_3).f1)) != (wrap64 ((wrap64 ((rd t574 x44_3) - t581)) + t582))) a0_0 l0_1 l0_2 ((rd_T42 l0_2 x21_1).f0) ((rd_T42 l0_2 x21_1).f1) ((rd_T42 l0_2 x21_1).f2) ((rd_T42 l0_2 x21_1).f3) ((rd_T46 ((rd_T42 l0_2 x21_1).f3) x44_3).f0) ((rd_T46 ((rd_T42 l0_2 x21_1).f3) x44_3).f1)) else (none)) else (none)) else (if ((rd_T46 ((rd_T42 l0_2 x21_1).f3) x44_3).f0) = 25 then (if 0 ≤ ((rd_T46 ((rd_T42 l0_2 x21_1).f3) x44_3).f1) then (if ((rd_T46 ((rd_T42 l0_2 x21_1).f3) x44_3).f1) < (t574.length : Int) then (casementlaw13_CheckSound.j4 kj46 x21_1 t574 x44_3 (wrap64 ((wrap64 ((rd t574 x44_3) - t581)) + t582)) l0_2 (l0_2.length : Int) x21_1 ((rd_T42 l0_2 x21_1).f3) (((rd_T42 l0_2 x21_1).f3).length : Int) x44_3 ((rd t574 ((rd_T46 ((rd_T42 l0_2 x21_1).f3) x44_3).f1)) != (wrap64 ((wrap64 ((rd t574 x44_3) - t581)) + t582))) a0_0 l0_1 l0_2 ((rd_T42 l0_2 x21_1).f0) ((rd_T42 l0_2 x21_1).f1) ((rd_T42 l0_2 x21_1).f2) ((rd_T42 l0_2 x21_1).f3) ((rd_T46 ((rd_T42 l0_2 x21_1).f3) x44_3).f0) ((rd_T46 ((rd_T42 l0_2 x21_1).f3) x44_3).f1)) else (none)) else (none)) else (casementlaw13_CheckSound.j4 kj46 x21_1 t574 x44_3 (wrap64 ((wrap64 ((rd t574 x44_3) - t581)) + t582)) l0_2 (l0_2.length : Int) x21_1 ((rd_T42 l0_2 x21_1).f3) (((rd_T42 l0_2 x21_1).f3).length : Int) x44_3 false a0_0 l0_1 l0_2 ((rd_T42 l0_2 x21_1).f0) ((rd_T42 l0_2 x21_1).f1) ((rd_T42 l0_2 x21_1).f2) ((rd_T42 l0_2 x21_1).f3) ((rd_T46 ((rd_T42 l0_2 x21_1).f3) x44_3).f0) ((rd_T46 ((rd_T42 l0_2 x21_1).f3) x44_3).f1))))) = some r := by rw [if_neg (show ¬ (false = true) by decide)] at H; exact H
                                          clear H
                                          have H := H1
                                          clear H1
                                          by_cases c60 : ((rd_T46 ((rd_T42 l0_2 x21_1).f3) x44_3).f0) = 27
                                          · rw [if_pos c60] at H
                                            have c60b0 : (((rd_T46 ((rd_T42 l0_2 x21_1).f3) x44_3).f0) == 27) = true := beq_iff_eq.mpr c60
                                            have c60b1 : (((rd_T46 ((rd_T42 l0_2 x21_1).f3) x44_3).f0) != 27) = false := bne_eq_false_iff_eq.mpr c60
                                            clear c60
                                            by_cases c61 : 0 ≤ x44_3
                                            · rw [if_pos c61] at H
                                              have c61b0 : decide (0 ≤ x44_3) = true := decide_eq_true c61
                                              clear c61
                                              by_cases c62 : x44_3 < (t574.length : Int)
                                              · rw [if_pos c62] at H
                                                have c62b0 : decide (x44_3 < (t574.length : Int)) = true := decide_eq_true c62
                                                clear c62
                                                by_cases c63 : (rd t574 x44_3) = ((rd_T42 l0_2 x21_1).f1)
                                                · rw [if_pos c63] at H
                                                  have c63b0 : ((rd t574 x44_3) == ((rd_T42 l0_2 x21_1).f1)) = true := beq_iff_eq.mpr c63
                                                  have c63b1 : ((rd t574 x44_3) != ((rd_T42 l0_2 x21_1).f1)) = false := bne_eq_false_iff_eq.mpr c63
                                                  clear c63
                                                  have H' := Aside0.mk H
                                                  clear H
                                                  have hnb64 := NB579_567.out
                                                  have hnc64 := NB567_579.out
                                                  have hnb65 := NB579_573.out
                                                  have hnc65 := NB573_579.out
                                                  have hcz66_0 : wc.cell? ⟨gb579, 0, none⟩ = some (.int .i64 ((rd_T46 ((rd_T42 l0_2 x21_1).f3) x44_3).f0)) := (blk_cell BK579.out 0).trans rfl
                                                  have hcz66_1 : wc.cell? ⟨gb579, 1, none⟩ = some (.int .i64 ((rd_T46 ((rd_T42 l0_2 x21_1).f3) x44_3).f1)) := (blk_cell BK579.out 1).trans rfl
                                                  have hfz66_0 := blk_frozen BK579.out 0
                                                  have hfz66_1 := blk_frozen BK579.out 1
                                                  have p587 : 0 ≤ (x44_3 : Int) := of_decide_eq_true (by first | (with_reducible assumption) | assumption)
                                                  have q587 : x44_3 < (t574.length : Int) := of_decide_eq_true (by first | (with_reducible assumption) | assumption)
                                                  obtain ⟨ad587, e587, hx587_0⟩ := Kd.at_int (Kd.R_reads' HO_5.out).2.2 x44_3 p587 q587
                                                  obtain rfl : ad580 = ad587 := (by injection e587)
                                                  replace p587 := eq_true p587
                                                  replace q587 := eq_true q587
                                                  have hnb67 := NB573_567.out
                                                  have hnc67 := NB567_573.out
                                                  have hcz68_0 : wc.cell? ⟨gb573, 0, none⟩ = some (.int .i64 ((rd_T42 l0_2 x21_1).f0)) := (blk_cell BK573.out 0).trans rfl
                                                  have hcz68_1 : wc.cell? ⟨gb573, 1, none⟩ = some (.int .i64 ((rd_T42 l0_2 x21_1).f1)) := (blk_cell BK573.out 1).trans rfl
                                                  have hcz68_2 : wc.cell? ⟨gb573, 2, none⟩ = some (.int .i64 ((rd_T42 l0_2 x21_1).f2)) := (blk_cell BK573.out 2).trans rfl
                                                  have hcz68_3 : wc.cell? ⟨gb573, 3, none⟩ = some (.slice (some ad578) ((rd_T42 l0_2 x21_1).f3).length c572_3) := (blk_cell BK573.out 3).trans rfl
                                                  have hfz68_0 := blk_frozen BK573.out 0
                                                  have hfz68_1 := blk_frozen BK573.out 1
                                                  have hfz68_2 := blk_frozen BK573.out 2
                                                  have hfz68_3 := blk_frozen BK573.out 3
                                                  go_wp2
                                                  repeat (go_quiet (fail); try go_wp2)
                                                  go_roundg kj46
                                                  case measure => have := HK1.out; have := HJ18.out; have := HK3.out; have := HJ46.out; omega
                                                  case rel => exact ⟨(wrap64 (x44_3 + 1)), (by first | rfl | (simp; done) | (simp [*]; done)), H', ⟨by have := HK1.out; have := HJ18.out; have := HK3.out; have := HJ46.out; omega⟩, ⟨by (with_reducible repeat (first | apply Kd.R_alloc | apply Kd.R_drewN | apply Kd.R_drew)); exact HO_5.out⟩, ⟨by (with_reducible repeat (first | refine blk_drewN ?_ _ | refine blk_drew ?_ | refine blk_alloc ?_ _)); exact BK567.out⟩, ⟨by (with_reducible repeat (first | refine blk_drewN ?_ _ | refine blk_drew ?_ | refine blk_alloc ?_ _)); exact BK573.out⟩, ⟨by repeat (first | (with_reducible first | exact HB.out | apply below_alloc | apply pw_below_drewN | apply below_drew1 | refine below_set ?_ GE567.out | refine below_set ?_ GE573.out | refine below_set ?_ GE579.out) | exact HB.out)⟩⟩
                                                · rw [if_neg c63] at H
                                                  have c63b0 : ((rd t574 x44_3) == ((rd_T42 l0_2 x21_1).f1)) = false := beq_eq_false_iff_ne.mpr c63
                                                  have c63b1 : ((rd t574 x44_3) != ((rd_T42 l0_2 x21_1).f1)) = true := bne_iff_ne.mpr c63
                                                  exact absurd ((Option.some.inj H).trans HRT.out) (by decide)
                                              · rw [if_neg c62] at H
                                                exact absurd H (by simp)
                                            · rw [if_neg c61] at H
                                              exact absurd H (by simp)
                                          · rw [if_neg c60] at H
                                            have c60b0 : (((rd_T46 ((rd_T42 l0_2 x21_1).f3) x44_3).f0) == 27) = false := beq_eq_false_iff_ne.mpr c60
                                            have c60b1 : (((rd_T46 ((rd_T42 l0_2 x21_1).f3) x44_3).f0) != 27) = true := bne_iff_ne.mpr c60
                                            have HC69 := Aside0.mk H
                                            clear H
                                            have hnb70 := NB579_567.out
                                            have hnc70 := NB567_579.out
                                            have hnb71 := NB579_573.out
                                            have hnc71 := NB573_579.out
                                            have hcz72_0 : wc.cell? ⟨gb579, 0, none⟩ = some (.int .i64 ((rd_T46 ((rd_T42 l0_2 x21_1).f3) x44_3).f0)) := (blk_cell BK579.out 0).trans rfl
                                            have hcz72_1 : wc.cell? ⟨gb579, 1, none⟩ = some (.int .i64 ((rd_T46 ((rd_T42 l0_2 x21_1).f3) x44_3).f1)) := (blk_cell BK579.out 1).trans rfl
                                            have hfz72_0 := blk_frozen BK579.out 0
                                            have hfz72_1 := blk_frozen BK579.out 1
                                            go_upto_region 22 with (fail)
                                            repeat (go_quiet (fail); go_upto_region 22 with (fail))
                                            go_cut [117] (fun v117 wc => ∃ (kq : Nat) (x117_68 : Bool), v117 = .bool x117_68 ∧ Aside0 (casementlaw13_CheckSound.j4 kq x21_1 t574 x44_3 (wrap64 ((wrap64 ((rd t574 x44_3) - t581)) + t582)) l0_2 (l0_2.length : Int) x21_1 ((rd_T42 l0_2 x21_1).f3) (((rd_T42 l0_2 x21_1).f3).length : Int) x44_3 x117_68 a0_0 l0_1 l0_2 ((rd_T42 l0_2 x21_1).f0) ((rd_T42 l0_2 x21_1).f1) ((rd_T42 l0_2 x21_1).f2) ((rd_T42 l0_2 x21_1).f3) ((rd_T46 ((rd_T42 l0_2 x21_1).f3) x44_3).f0) ((rd_T46 ((rd_T42 l0_2 x21_1).f3) x44_3).f1) = some r) ∧ Aside0 (kq ≤ kj46) ∧ Aside0 (Kd.R (Kd.int .i64) 3 wc w.heap.size (fun _ => True) (.slice (some ad580) t574.length co52) t574) ∧ Aside0 (wc.heap[gb567]? = some (.cells #[.int .i64 a0_0, (.slice A0_1 l0_1.length c0_1), (.slice (some ad572) l0_2.length c0_2)] 25 (0, 0))) ∧ Aside0 (wc.heap[gb573]? = some (.cells #[.int .i64 ((rd_T42 l0_2 x21_1).f0), .int .i64 ((rd_T42 l0_2 x21_1).f1), .int .i64 ((rd_T42 l0_2 x21_1).f2), (.slice (some ad578) ((rd_T42 l0_2 x21_1).f3).length c572_3)] 42 (0, 0))) ∧ Aside0 (wc.heap[gb579]? = some (.cells #[.int .i64 ((rd_T46 ((rd_T42 l0_2 x21_1).f3) x44_3).f0), .int .i64 ((rd_T46 ((rd_T42 l0_2 x21_1).f3) x44_3).f1)] 46 (0, 0))) ∧ Aside0 (Below w.heap.size w wc))
                                            case first =>
                                              have H := HC69.out
                                              clear HC69
                                              by_cases c73 : ((rd_T46 ((rd_T42 l0_2 x21_1).f3) x44_3).f0) = 24
                                              · rw [if_pos c73] at H
                                                have c73b0 : (((rd_T46 ((rd_T42 l0_2 x21_1).f3) x44_3).f0) == 24) = true := beq_iff_eq.mpr c73
                                                have c73b1 : (((rd_T46 ((rd_T42 l0_2 x21_1).f3) x44_3).f0) != 24) = false := bne_eq_false_iff_eq.mpr c73
                                                clear c73
                                                (first | rw [c73b0] | (simp only [i64_w, i32_w]; rw [c73b0]) | skip)
                                                by_cases c74 : 0 ≤ ((rd_T46 ((rd_T42 l0_2 x21_1).f3) x44_3).f1)
                                                · rw [if_pos c74] at H
                                                  have c74b0 : decide (0 ≤ ((rd_T46 ((rd_T42 l0_2 x21_1).f3) x44_3).f1)) = true := decide_eq_true c74
                                                  clear c74
                                                  by_cases c75 : ((rd_T46 ((rd_T42 l0_2 x21_1).f3) x44_3).f1) < (t574.length : Int)
                                                  · rw [if_pos c75] at H
                                                    have c75b0 : decide (((rd_T46 ((rd_T42 l0_2 x21_1).f3) x44_3).f1) < (t574.length : Int)) = true := decide_eq_true c75
                                                    clear c75
                                                    have H' := Aside0.mk H
                                                    clear H
                                                    have hnb76 := NB579_567.out
                                                    have hnc76 := NB567_579.out
                                                    have hnb77 := NB579_573.out
                                                    have hnc77 := NB573_579.out
                                                    have hcz78_0 : wc.cell? ⟨gb579, 0, none⟩ = some (.int .i64 ((rd_T46 ((rd_T42 l0_2 x21_1).f3) x44_3).f0)) := (blk_cell BK579.out 0).trans rfl
                                                    have hcz78_1 : wc.cell? ⟨gb579, 1, none⟩ = some (.int .i64 ((rd_T46 ((rd_T42 l0_2 x21_1).f3) x44_3).f1)) := (blk_cell BK579.out 1).trans rfl
                                                    have hfz78_0 := blk_frozen BK579.out 0
                                                    have hfz78_1 := blk_frozen BK579.out 1
                                                    have p588 : 0 ≤ (((rd_T46 ((rd_T42 l0_2 x21_1).f3) x44_3).f1) : Int) := of_decide_eq_true (by first | (with_reducible assumption) | assumption)
                                                    have q588 : ((rd_T46 ((rd_T42 l0_2 x21_1).f3) x44_3).f1) < (t574.length : Int) := of_decide_eq_true (by first | (with_reducible assumption) | assumption)
                                                    obtain ⟨ad588, e588, hx588_0⟩ := Kd.at_int (Kd.R_reads' HO_5.out).2.2 ((rd_T46 ((rd_T42 l0_2 x21_1).f3) x44_3).f1) p588 q588
                                                    obtain rfl : ad580 = ad588 := (by injection e588)
                                                    replace p588 := eq_true p588
                                                    replace q588 := eq_true q588
                                                    go_wp2
                                                    repeat (go_quiet (fail); try go_wp2)
                                                    go_meet
                                                    case rel => exact ⟨_, (((rd t574 ((rd_T46 ((rd_T42 l0_2 x21_1).f3) x44_3).f1)) != (wrap64 ((wrap64 ((rd t574 x44_3) - t581)) + t582)))), (by first | rfl | (simp; done) | (simp [*]; done)), H', ⟨by have := HK1.out; have := HJ18.out; have := HK3.out; have := HJ46.out; first | omega | exact Nat.le_refl _⟩, ⟨by (with_reducible repeat (first | apply Kd.R_alloc | apply Kd.R_drewN | apply Kd.R_drew)); exact HO_5.out⟩, ⟨by (with_reducible repeat (first | refine blk_drewN ?_ _ | refine blk_drew ?_ | refine blk_alloc ?_ _)); exact BK567.out⟩, ⟨by (with_reducible repeat (first | refine blk_drewN ?_ _ | refine blk_drew ?_ | refine blk_alloc ?_ _)); exact BK573.out⟩, ⟨by (with_reducible repeat (first | refine blk_drewN ?_ _ | refine blk_drew ?_ | refine blk_alloc ?_ _)); exact BK579.out⟩, ⟨by repeat (first | (with_reducible first | exact HB.out | apply below_alloc | apply pw_below_drewN | apply below_drew1 | refine below_set ?_ GE567.out | refine below_set ?_ GE573.out | refine below_set ?_ GE579.out) | exact HB.out)⟩⟩
                                                  · rw [if_neg c75] at H
                                                    exact absurd H (by simp)
                                                · rw [if_neg c74] at H
                                                  exact absurd H (by simp)
                                              · rw [if_neg c73] at H
                                                have c73b0 : (((rd_T46 ((rd_T42 l0_2 x21_1).f3) x44_3).f0) == 24) = false := beq_eq_false_iff_ne.mpr c73
                                                have c73b1 : (((rd_T46 ((rd_T42 l0_2 x21_1).f3) x44_3).f0) != 24) = true := bne_iff_ne.mpr c73
                                                (first | rw [c73b0] | (simp only [i64_w, i32_w]; rw [c73b0]) | skip)
                                                by_cases c79 : ((rd_T46 ((rd_T42 l0_2 x21_1).f3) x44_3).f0) = 25
                                                · rw [if_pos c79] at H
                                                  have c79b0 : (((rd_T46 ((rd_T42 l0_2 x21_1).f3) x44_3).f0) == 25) = true := beq_iff_eq.mpr c79
                                                  have c79b1 : (((rd_T46 ((rd_T42 l0_2 x21_1).f3) x44_3).f0) != 25) = false := bne_eq_false_iff_eq.mpr c79
                                                  clear c79
                                                  by_cases c80 : 0 ≤ ((rd_T46 ((rd_T42 l0_2 x21_1).f3) x44_3).f1)
                                                  · rw [if_pos c80] at H
                                                    have c80b0 : decide (0 ≤ ((rd_T46 ((rd_T42 l0_2 x21_1).f3) x44_3).f1)) = true := decide_eq_true c80
                                                    clear c80
                                                    by_cases c81 : ((rd_T46 ((rd_T42 l0_2 x21_1).f3) x44_3).f1) < (t574.length : Int)
                                                    · rw [if_pos c81] at H
                                                      have c81b0 : decide (((rd_T46 ((rd_T42 l0_2 x21_1).f3) x44_3).f1) < (t574.length : Int)) = true := decide_eq_true c81
                                                      clear c81
                                                      have H' := Aside0.mk H
                                                      clear H
                                                      have hnb82 := NB579_567.out
                                                      have hnc82 := NB567_579.out
                                                      have hnb83 := NB579_573.out
                                                      have hnc83 := NB573_579.out
                                                      have hcz84_0 : wc.cell? ⟨gb579, 0, none⟩ = some (.int .i64 ((rd_T46 ((rd_T42 l0_2 x21_1).f3) x44_3).f0)) := (blk_cell BK579.out 0).trans rfl
                                                      have hcz84_1 : wc.cell? ⟨gb579, 1, none⟩ = some (.int .i64 ((rd_T46 ((rd_T42 l0_2 x21_1).f3) x44_3).f1)) := (blk_cell BK579.out 1).trans rfl
                                                      have hfz84_0 := blk_frozen BK579.out 0
                                                      have hfz84_1 := blk_frozen BK579.out 1
                                                      have p589 : 0 ≤ (((rd_T46 ((rd_T42 l0_2 x21_1).f3) x44_3).f1) : Int) := of_decide_eq_true (by first | (with_reducible assumption) | assumption)
                                                      have q589 : ((rd_T46 ((rd_T42 l0_2 x21_1).f3) x44_3).f1) < (t574.length : Int) := of_decide_eq_true (by first | (with_reducible assumption) | assumption)
                                                      obtain ⟨ad589, e589, hx589_0⟩ := Kd.at_int (Kd.R_reads' HO_5.out).2.2 ((rd_T46 ((rd_T42 l0_2 x21_1).f3) x44_3).f1) p589 q589
                                                      obtain rfl : ad580 = ad589 := (by injection e589)
                                                      replace p589 := eq_true p589
                                                      replace q589 := eq_true q589
                                                      go_wp2
                                                      repeat (go_quiet (fail); try go_wp2)
                                                      go_meet
                                                      case rel => exact ⟨_, (((rd t574 ((rd_T46 ((rd_T42 l0_2 x21_1).f3) x44_3).f1)) != (wrap64 ((wrap64 ((rd t574 x44_3) - t581)) + t582)))), (by first | rfl | (simp; done) | (simp [*]; done)), H', ⟨by have := HK1.out; have := HJ18.out; have := HK3.out; have := HJ46.out; first | omega | exact Nat.le_refl _⟩, ⟨by (with_reducible repeat (first | apply Kd.R_alloc | apply Kd.R_drewN | apply Kd.R_drew)); exact HO_5.out⟩, ⟨by (with_reducible repeat (first | refine blk_drewN ?_ _ | refine blk_drew ?_ | refine blk_alloc ?_ _)); exact BK567.out⟩, ⟨by (with_reducible repeat (first | refine blk_drewN ?_ _ | refine blk_drew ?_ | refine blk_alloc ?_ _)); exact BK573.out⟩, ⟨by (with_reducible repeat (first | refine blk_drewN ?_ _ | refine blk_drew ?_ | refine blk_alloc ?_ _)); exact BK579.out⟩, ⟨by repeat (first | (with_reducible first | exact HB.out | apply below_alloc | apply pw_below_drewN | apply below_drew1 | refine below_set ?_ GE567.out | refine below_set ?_ GE573.out | refine below_set ?_ GE579.out) | exact HB.out)⟩⟩
                                                    · rw [if_neg c81] at H
                                                      exact absurd H (by simp)
                                                  · rw [if_neg c80] at H
                                                    exact absurd H (by simp)
                                                · rw [if_neg c79] at H
                                                  have c79b0 : (((rd_T46 ((rd_T42 l0_2 x21_1).f3) x44_3).f0) == 25) = false := beq_eq_false_iff_ne.mpr c79
                                                  have c79b1 : (((rd_T46 ((rd_T42 l0_2 x21_1).f3) x44_3).f0) != 25) = true := bne_iff_ne.mpr c79
                                                  have H' := Aside0.mk H
                                                  clear H
                                                  have hnb85 := NB579_567.out
                                                  have hnc85 := NB567_579.out
                                                  have hnb86 := NB579_573.out
                                                  have hnc86 := NB573_579.out
                                                  have hcz87_0 : wc.cell? ⟨gb579, 0, none⟩ = some (.int .i64 ((rd_T46 ((rd_T42 l0_2 x21_1).f3) x44_3).f0)) := (blk_cell BK579.out 0).trans rfl
                                                  have hcz87_1 : wc.cell? ⟨gb579, 1, none⟩ = some (.int .i64 ((rd_T46 ((rd_T42 l0_2 x21_1).f3) x44_3).f1)) := (blk_cell BK579.out 1).trans rfl
                                                  have hfz87_0 := blk_frozen BK579.out 0
                                                  have hfz87_1 := blk_frozen BK579.out 1
                                                  go_wp2
                                                  repeat (go_quiet (fail); try go_wp2)
                                                  go_meet
                                                  case rel => exact ⟨_, (false), (by first | rfl | (simp; done) | (simp [*]; done)), H', ⟨by have := HK1.out; have := HJ18.out; have := HK3.out; have := HJ46.out; first | omega | exact Nat.le_refl _⟩, ⟨by (with_reducible repeat (first | apply Kd.R_alloc | apply Kd.R_drewN | apply Kd.R_drew)); exact HO_5.out⟩, ⟨by (with_reducible repeat (first | refine blk_drewN ?_ _ | refine blk_drew ?_ | refine blk_alloc ?_ _)); exact BK567.out⟩, ⟨by (with_reducible repeat (first | refine blk_drewN ?_ _ | refine blk_drew ?_ | refine blk_alloc ?_ _)); exact BK573.out⟩, ⟨by (with_reducible repeat (first | refine blk_drewN ?_ _ | refine blk_drew ?_ | refine blk_alloc ?_ _)); exact BK579.out⟩, ⟨by repeat (first | (with_reducible first | exact HB.out | apply below_alloc | apply pw_below_drewN | apply below_drew1 | refine below_set ?_ GE567.out | refine below_set ?_ GE573.out | refine below_set ?_ GE579.out) | exact HB.out)⟩⟩
                                            case rest =>
                                              clear HC69
                                              try clear c1
                                              try clear c2
                                              try clear p2
                                              try clear c3
                                              try clear c4
                                              try clear c5
                                              try clear c5b0
                                              try clear p5
                                              try clear q5
                                              try clear hx5
                                              try clear qi5
                                              try clear c6
                                              try clear p6
                                              try clear c7
                                              try clear c8
                                              try clear c15
                                              try clear c15b0
                                              try clear c16
                                              try clear c16b0
                                              try clear c17
                                              try clear c17b0
                                              try clear c21
                                              try clear c25
                                              try clear c25b0
                                              try clear c25b1
                                              try clear c25b2
                                              try clear c26
                                              try clear c26b0
                                              try clear c26b1
                                              try clear c28
                                              try clear c31
                                              try clear c33
                                              try clear c34
                                              try clear c36
                                              try clear c36b0
                                              try clear c37
                                              try clear c37b0
                                              try clear c38
                                              try clear c38b0
                                              try clear c39
                                              try clear c39b0
                                              try clear c40
                                              try clear c40b0
                                              try clear c42
                                              try clear c43
                                              try clear c49
                                              try clear c50
                                              try clear c53
                                              try clear c56
                                              try clear c57
                                              try clear c57b0
                                              try clear p57
                                              try clear q57
                                              try clear hx57
                                              try clear qi57
                                              try clear c58
                                              try clear c58b0
                                              try clear p58
                                              try clear q58
                                              try clear hx58
                                              try clear c59
                                              try clear c60
                                              try clear c60b0
                                              try clear c60b1
                                              try clear c61
                                              try clear c61b0
                                              try clear c62
                                              try clear c62b0
                                              try clear c63
                                              try clear c63b0
                                              try clear c63b1
                                              try clear c64
                                              try clear p64
                                              try clear c65
                                              try clear c67
                                              try clear c70
                                              try clear c71
                                              try clear c73
                                              try clear c73b0
                                              try clear c73b1
                                              try clear c74
                                              try clear c74b0
                                              try clear c75
                                              try clear c75b0
                                              try clear c76
                                              try clear c77
                                              try clear c79
                                              try clear c79b0
                                              try clear c79b1
                                              try clear c80
                                              try clear c80b0
                                              try clear c81
                                              try clear c81b0
                                              try clear c82
                                              try clear c83
                                              try clear c85
                                              try clear c86
                                              try clear hcz12_0
                                              try clear hcz12_1
                                              try clear hcz12_2
                                              try clear hcz14_0
                                              try clear hcz14_1
                                              try clear hcz14_2
                                              try clear hcz22_0
                                              try clear hcz22_1
                                              try clear hcz22_2
                                              try clear hcz22_3
                                              try clear hcz23_0
                                              try clear hcz23_1
                                              try clear hcz23_2
                                              try clear hcz29_0
                                              try clear hcz29_1
                                              try clear hcz29_2
                                              try clear hcz29_3
                                              try clear hcz32_0
                                              try clear hcz32_1
                                              try clear hcz32_2
                                              try clear hcz32_3
                                              try clear hcz35_0
                                              try clear hcz35_1
                                              try clear hcz35_2
                                              try clear hcz35_3
                                              try clear hcz44_0
                                              try clear hcz44_1
                                              try clear hcz51_0
                                              try clear hcz51_1
                                              try clear hcz54_0
                                              try clear hcz54_1
                                              try clear hcz54_2
                                              try clear hcz66_0
                                              try clear hcz66_1
                                              try clear hcz68_0
                                              try clear hcz68_1
                                              try clear hcz68_2
                                              try clear hcz68_3
                                              try clear hcz72_0
                                              try clear hcz72_1
                                              try clear hcz78_0
                                              try clear hcz78_1
                                              try clear hcz84_0
                                              try clear hcz84_1
                                              try clear hcz87_0
                                              try clear hcz87_1
                                              try clear hcz8_0
                                              try clear hcz8_1
                                              try clear hcz8_2
                                              try clear hfz12_0
                                              try clear hfz12_1
                                              try clear hfz12_2
                                              try clear hfz14_0
                                              try clear hfz14_1
                                              try clear hfz14_2
                                              try clear hfz22_0
                                              try clear hfz22_1
                                              try clear hfz22_2
                                              try clear hfz22_3
                                              try clear hfz23_0
                                              try clear hfz23_1
                                              try clear hfz23_2
                                              try clear hfz29_0
                                              try clear hfz29_1
                                              try clear hfz29_2
                                              try clear hfz29_3
                                              try clear hfz32_0
                                              try clear hfz32_1
                                              try clear hfz32_2
                                              try clear hfz32_3
                                              try clear hfz35_0
                                              try clear hfz35_1
                                              try clear hfz35_2
                                              try clear hfz35_3
                                              try clear hfz44_0
                                              try clear hfz44_1
                                              try clear hfz51_0
                                              try clear hfz51_1
                                              try clear hfz54_0
                                              try clear hfz54_1
                                              try clear hfz54_2
                                              try clear hfz66_0
                                              try clear hfz66_1
                                              try clear hfz68_0
                                              try clear hfz68_1
                                              try clear hfz68_2
                                              try clear hfz68_3
                                              try clear hfz72_0
                                              try clear hfz72_1
                                              try clear hfz78_0
                                              try clear hfz78_1
                                              try clear hfz84_0
                                              try clear hfz84_1
                                              try clear hfz87_0
                                              try clear hfz87_1
                                              try clear hfz8_0
                                              try clear hfz8_1
                                              try clear hfz8_2
                                              try clear hx572_0
                                              try clear hx572_1
                                              try clear hx572_2
                                              try clear hx572_3
                                              try clear hx577_0
                                              try clear hx578_0
                                              try clear hx578_1
                                              try clear hx580_0
                                              try clear hx584_0
                                              try clear hx585_0
                                              try clear hx586_0
                                              try clear hx587_0
                                              try clear hx588_0
                                              try clear hx589_0
                                              try clear p2
                                              try clear p5
                                              try clear p57
                                              try clear p572
                                              try clear p577
                                              try clear p578
                                              try clear p58
                                              try clear p580
                                              try clear p584
                                              try clear p585
                                              try clear p586
                                              try clear p587
                                              try clear p588
                                              try clear p589
                                              try clear p6
                                              try clear q5
                                              try clear q57
                                              try clear q572
                                              try clear q577
                                              try clear q578
                                              try clear q58
                                              try clear q580
                                              try clear q584
                                              try clear q585
                                              try clear q586
                                              try clear q587
                                              try clear q588
                                              try clear q589
                                              obtain ⟨kq, x117_68, rfl, HA, HJ68, HO_5, BK567, BK573, BK579, HB⟩ := hcut
                                              cases kq with
                                              | zero => exact absurd HA.out (by simp [casementlaw13_CheckSound.j4])
                                              | succ kj68 =>
                                                have H := HA.out
                                                clear HA
                                                simp only [casementlaw13_CheckSound.j4] at H
                                                by_cases c88 : x117_68 = true
                                                · subst c88
                                                  have H1 : (some false) = some r := by rw [if_pos rfl] at H; exact H
                                                  clear H
                                                  have H := H1
                                                  clear H1
                                                  exact absurd ((Option.some.inj H).trans HRT.out) (by decide)
                                                · replace c88 := Bool.eq_false_iff.mpr c88
                                                  subst c88
                                                  have H1 : (if ((rd_T46 ((rd_T42 l0_2 x21_1).f3) x44_3).f0) = 24 then (casementlaw13_CheckSound.l1 kj68 x21_1 t574 l0_2 (l0_2.length : Int) x21_1 ((rd_T42 l0_2 x21_1).f3) (((rd_T42 l0_2 x21_1).f3).length : Int) (wrap64 (x44_3 + 1)) a0_0 l0_1 l0_2 ((rd_T42 l0_2 x21_1).f0) ((rd_T42 l0_2 x21_1).f1) ((rd_T42 l0_2 x21_1).f2) ((rd_T42 l0_2 x21_1).f3)) else (if ((rd_T46 ((rd_T42 l0_2 x21_1).f3) x44_3).f0) = 29 then (casementlaw13_CheckSound.l1 kj68 x21_1 t574 l0_2 (l0_2.length : Int) x21_1 ((rd_T42 l0_2 x21_1).f3) (((rd_T42 l0_2 x21_1).f3).length : Int) (wrap64 (x44_3 + 1)) a0_0 l0_1 l0_2 ((rd_T42 l0_2 x21_1).f0) ((rd_T42 l0_2 x21_1).f1) ((rd_T42 l0_2 x21_1).f2) ((rd_T42 l0_2 x21_1).f3)) else (if (wrap64 (x44_3 + 1)) ≥ (((rd_T42 l0_2 x21_1).f3).length : Int) then (some false) else (if 0 ≤ (wrap64 (x44_3 + 1)) then (if (wrap64 (x44_3 + 1)) < (t574.length : Int) then (if (rd t574 (wrap64 (x44_3 + 1))) = (wrap64 ((wrap64 ((rd t574 x44_3) - t581)) + t582)) then (casementlaw13_CheckSound.l1 kj68 x21_1 t574 l0_2 (l0_2.length : Int) x21_1 ((rd_T42 l0_2 x21_1).f3) (((rd_T42 l0_2 x21_1).f3).length : Int) (wrap64 (x44_3 + 1)) a0_0 l0_1 l0_2 ((rd_T42 l0_2 x21_1).f0) ((rd_T42 l0_2 x21_1).f1) ((rd_T42 l0_2 x21_1).f2) ((rd_T42 l0_2 x21_1).f3)) else (some false)) else (none)) else (none))))) = some r := by rw [if_neg (show ¬ (false = true) by decide)] at H; exact H
                                                  clear H
                                                  have H := H1
                                                  clear H1
                                                  by_cases c89 : ((rd_T46 ((rd_T42 l0_2 x21_1).f3) x44_3).f0) = 24
                                                  · rw [if_pos c89] at H
                                                    have c89b0 : (((rd_T46 ((rd_T42 l0_2 x21_1).f3) x44_3).f0) == 24) = true := beq_iff_eq.mpr c89
                                                    have c89b1 : (((rd_T46 ((rd_T42 l0_2 x21_1).f3) x44_3).f0) != 24) = false := bne_eq_false_iff_eq.mpr c89
                                                    clear c89
                                                    have H' := Aside0.mk H
                                                    clear H
                                                    have hnb90 := NB579_567.out
                                                    have hnc90 := NB567_579.out
                                                    have hnb91 := NB579_573.out
                                                    have hnc91 := NB573_579.out
                                                    have hcz92_0 : wc.cell? ⟨gb579, 0, none⟩ = some (.int .i64 ((rd_T46 ((rd_T42 l0_2 x21_1).f3) x44_3).f0)) := (blk_cell BK579.out 0).trans rfl
                                                    have hcz92_1 : wc.cell? ⟨gb579, 1, none⟩ = some (.int .i64 ((rd_T46 ((rd_T42 l0_2 x21_1).f3) x44_3).f1)) := (blk_cell BK579.out 1).trans rfl
                                                    have hfz92_0 := blk_frozen BK579.out 0
                                                    have hfz92_1 := blk_frozen BK579.out 1
                                                    go_wp2
                                                    repeat (go_quiet (fail); try go_wp2)
                                                    go_roundg kj68
                                                    case measure => have := HK1.out; have := HJ18.out; have := HK3.out; have := HJ46.out; have := HJ68.out; omega
                                                    case rel => exact ⟨(wrap64 (x44_3 + 1)), (by first | rfl | (simp; done) | (simp [*]; done)), H', ⟨by have := HK1.out; have := HJ18.out; have := HK3.out; have := HJ46.out; have := HJ68.out; omega⟩, ⟨by (with_reducible repeat (first | apply Kd.R_alloc | apply Kd.R_drewN | apply Kd.R_drew)); exact HO_5.out⟩, ⟨by (with_reducible repeat (first | refine blk_drewN ?_ _ | refine blk_drew ?_ | refine blk_alloc ?_ _)); exact BK567.out⟩, ⟨by (with_reducible repeat (first | refine blk_drewN ?_ _ | refine blk_drew ?_ | refine blk_alloc ?_ _)); exact BK573.out⟩, ⟨by repeat (first | (with_reducible first | exact HB.out | apply below_alloc | apply pw_below_drewN | apply below_drew1 | refine below_set ?_ GE567.out | refine below_set ?_ GE573.out | refine below_set ?_ GE579.out) | exact HB.out)⟩⟩
                                                  · rw [if_neg c89] at H
                                                    have c89b0 : (((rd_T46 ((rd_T42 l0_2 x21_1).f3) x44_3).f0) == 24) = false := beq_eq_false_iff_ne.mpr c89
                                                    have c89b1 : (((rd_T46 ((rd_T42 l0_2 x21_1).f3) x44_3).f0) != 24) = true := bne_iff_ne.mpr c89
                                                    by_cases c93 : ((rd_T46 ((rd_T42 l0_2 x21_1).f3) x44_3).f0) = 29
                                                    · rw [if_pos c93] at H
                                                      have c93b0 : (((rd_T46 ((rd_T42 l0_2 x21_1).f3) x44_3).f0) == 29) = true := beq_iff_eq.mpr c93
                                                      have c93b1 : (((rd_T46 ((rd_T42 l0_2 x21_1).f3) x44_3).f0) != 29) = false := bne_eq_false_iff_eq.mpr c93
                                                      clear c93
                                                      have H' := Aside0.mk H
                                                      clear H
                                                      have hnb94 := NB579_567.out
                                                      have hnc94 := NB567_579.out
                                                      have hnb95 := NB579_573.out
                                                      have hnc95 := NB573_579.out
                                                      have hcz96_0 : wc.cell? ⟨gb579, 0, none⟩ = some (.int .i64 ((rd_T46 ((rd_T42 l0_2 x21_1).f3) x44_3).f0)) := (blk_cell BK579.out 0).trans rfl
                                                      have hcz96_1 : wc.cell? ⟨gb579, 1, none⟩ = some (.int .i64 ((rd_T46 ((rd_T42 l0_2 x21_1).f3) x44_3).f1)) := (blk_cell BK579.out 1).trans rfl
                                                      have hfz96_0 := blk_frozen BK579.out 0
                                                      have hfz96_1 := blk_frozen BK579.out 1
                                                      go_wp2
                                                      repeat (go_quiet (fail); try go_wp2)
                                                      go_roundg kj68
                                                      case measure => have := HK1.out; have := HJ18.out; have := HK3.out; have := HJ46.out; have := HJ68.out; omega
                                                      case rel => exact ⟨(wrap64 (x44_3 + 1)), (by first | rfl | (simp; done) | (simp [*]; done)), H', ⟨by have := HK1.out; have := HJ18.out; have := HK3.out; have := HJ46.out; have := HJ68.out; omega⟩, ⟨by (with_reducible repeat (first | apply Kd.R_alloc | apply Kd.R_drewN | apply Kd.R_drew)); exact HO_5.out⟩, ⟨by (with_reducible repeat (first | refine blk_drewN ?_ _ | refine blk_drew ?_ | refine blk_alloc ?_ _)); exact BK567.out⟩, ⟨by (with_reducible repeat (first | refine blk_drewN ?_ _ | refine blk_drew ?_ | refine blk_alloc ?_ _)); exact BK573.out⟩, ⟨by repeat (first | (with_reducible first | exact HB.out | apply below_alloc | apply pw_below_drewN | apply below_drew1 | refine below_set ?_ GE567.out | refine below_set ?_ GE573.out | refine below_set ?_ GE579.out) | exact HB.out)⟩⟩
                                                    · rw [if_neg c93] at H
                                                      have c93b0 : (((rd_T46 ((rd_T42 l0_2 x21_1).f3) x44_3).f0) == 29) = false := beq_eq_false_iff_ne.mpr c93
                                                      have c93b1 : (((rd_T46 ((rd_T42 l0_2 x21_1).f3) x44_3).f0) != 29) = true := bne_iff_ne.mpr c93
                                                      by_cases c97 : (wrap64 (x44_3 + 1)) ≥ (((rd_T42 l0_2 x21_1).f3).length : Int)
                                                      · rw [if_pos c97] at H
                                                        have c97b0 : decide ((((rd_T42 l0_2 x21_1).f3).length : Int) ≤ (wrap64 (x44_3 + 1))) = true := decide_eq_true c97
                                                        clear c97
                                                        exact absurd ((Option.some.inj H).trans HRT.out) (by decide)
                                                      · rw [if_neg c97] at H
                                                        have c97b0 : decide ((((rd_T42 l0_2 x21_1).f3).length : Int) ≤ (wrap64 (x44_3 + 1))) = false := decide_eq_false c97
                                                        clear c97
                                                        obtain ⟨ji98, hji98⟩ : ∃ j_ : Int, (wrap64 (x44_3 + 1)) = j_ := ⟨_, rfl⟩
                                                        replace H : (if 0 ≤ (ji98) then (if (ji98) < (t574.length : Int) then (if (rd t574 (ji98)) = (wrap64 ((wrap64 ((rd t574 x44_3) - t581)) + t582)) then (casementlaw13_CheckSound.l1 kj68 x21_1 t574 l0_2 (l0_2.length : Int) x21_1 ((rd_T42 l0_2 x21_1).f3) (((rd_T42 l0_2 x21_1).f3).length : Int) ji98 a0_0 l0_1 l0_2 ((rd_T42 l0_2 x21_1).f0) ((rd_T42 l0_2 x21_1).f1) ((rd_T42 l0_2 x21_1).f2) ((rd_T42 l0_2 x21_1).f3)) else (some false)) else (none)) else (none)) = some r := by first | (rw [hji98] at H; exact H) | (simp only [hji98] at H ⊢; exact H)
                                                        (try rw [hji98] at c97b0)
                                                        have hji98w : (IntKind.i64.wrap (x44_3 + 1)) = ji98 := (i64_w _).trans hji98
                                                        by_cases c99 : 0 ≤ (ji98)
                                                        · rw [if_pos c99] at H
                                                          have c99b0 : decide (0 ≤ (ji98)) = true := decide_eq_true c99
                                                          clear c99
                                                          by_cases c100 : (ji98) < (t574.length : Int)
                                                          · rw [if_pos c100] at H
                                                            have c100b0 : decide ((ji98) < (t574.length : Int)) = true := decide_eq_true c100
                                                            clear c100
                                                            by_cases c101 : (rd t574 (ji98)) = (wrap64 ((wrap64 ((rd t574 x44_3) - t581)) + t582))
                                                            · rw [if_pos c101] at H
                                                              have c101b0 : ((rd t574 (ji98)) == (wrap64 ((wrap64 ((rd t574 x44_3) - t581)) + t582))) = true := beq_iff_eq.mpr c101
                                                              have c101b1 : ((rd t574 (ji98)) != (wrap64 ((wrap64 ((rd t574 x44_3) - t581)) + t582))) = false := bne_eq_false_iff_eq.mpr c101
                                                              clear c101
                                                              have H' := Aside0.mk H
                                                              clear H
                                                              have hnb102 := NB579_567.out
                                                              have hnc102 := NB567_579.out
                                                              have hnb103 := NB579_573.out
                                                              have hnc103 := NB573_579.out
                                                              have hcz104_0 : wc.cell? ⟨gb579, 0, none⟩ = some (.int .i64 ((rd_T46 ((rd_T42 l0_2 x21_1).f3) x44_3).f0)) := (blk_cell BK579.out 0).trans rfl
                                                              have hcz104_1 : wc.cell? ⟨gb579, 1, none⟩ = some (.int .i64 ((rd_T46 ((rd_T42 l0_2 x21_1).f3) x44_3).f1)) := (blk_cell BK579.out 1).trans rfl
                                                              have hfz104_0 := blk_frozen BK579.out 0
                                                              have hfz104_1 := blk_frozen BK579.out 1
                                                              have hnb105 := NB573_567.out
                                                              have hnc105 := NB567_573.out
                                                              have hcz106_0 : wc.cell? ⟨gb573, 0, none⟩ = some (.int .i64 ((rd_T42 l0_2 x21_1).f0)) := (blk_cell BK573.out 0).trans rfl
                                                              have hcz106_1 : wc.cell? ⟨gb573, 1, none⟩ = some (.int .i64 ((rd_T42 l0_2 x21_1).f1)) := (blk_cell BK573.out 1).trans rfl
                                                              have hcz106_2 : wc.cell? ⟨gb573, 2, none⟩ = some (.int .i64 ((rd_T42 l0_2 x21_1).f2)) := (blk_cell BK573.out 2).trans rfl
                                                              have hcz106_3 : wc.cell? ⟨gb573, 3, none⟩ = some (.slice (some ad578) ((rd_T42 l0_2 x21_1).f3).length c572_3) := (blk_cell BK573.out 3).trans rfl
                                                              have hfz106_0 := blk_frozen BK573.out 0
                                                              have hfz106_1 := blk_frozen BK573.out 1
                                                              have hfz106_2 := blk_frozen BK573.out 2
                                                              have hfz106_3 := blk_frozen BK573.out 3
                                                              have p590 : 0 ≤ ((ji98) : Int) := of_decide_eq_true (by first | (with_reducible assumption) | assumption)
                                                              have q590 : (ji98) < (t574.length : Int) := of_decide_eq_true (by first | (with_reducible assumption) | assumption)
                                                              obtain ⟨ad590, e590, hx590_0⟩ := Kd.at_int (Kd.R_reads' HO_5.out).2.2 (ji98) p590 q590
                                                              obtain rfl : ad580 = ad590 := (by injection e590)
                                                              replace p590 := eq_true p590
                                                              replace q590 := eq_true q590
                                                              go_wp2
                                                              repeat (go_quiet (fail); try go_wp2)
                                                              go_roundg kj68
                                                              case measure => have := HK1.out; have := HJ18.out; have := HK3.out; have := HJ46.out; have := HJ68.out; omega
                                                              case rel => exact ⟨(ji98), (by first | rfl | (simp; done) | (simp only [← hji98] <;> (first | rfl | simp)) | (simp [*]; done)), H', ⟨by have := HK1.out; have := HJ18.out; have := HK3.out; have := HJ46.out; have := HJ68.out; omega⟩, ⟨by (with_reducible repeat (first | apply Kd.R_alloc | apply Kd.R_drewN | apply Kd.R_drew)); exact HO_5.out⟩, ⟨by (with_reducible repeat (first | refine blk_drewN ?_ _ | refine blk_drew ?_ | refine blk_alloc ?_ _)); exact BK567.out⟩, ⟨by (with_reducible repeat (first | refine blk_drewN ?_ _ | refine blk_drew ?_ | refine blk_alloc ?_ _)); exact BK573.out⟩, ⟨by repeat (first | (with_reducible first | exact HB.out | apply below_alloc | apply pw_below_drewN | apply below_drew1 | refine below_set ?_ GE567.out | refine below_set ?_ GE573.out | refine below_set ?_ GE579.out) | exact HB.out)⟩⟩
                                                            · rw [if_neg c101] at H
                                                              have c101b0 : ((rd t574 (ji98)) == (wrap64 ((wrap64 ((rd t574 x44_3) - t581)) + t582))) = false := beq_eq_false_iff_ne.mpr c101
                                                              have c101b1 : ((rd t574 (ji98)) != (wrap64 ((wrap64 ((rd t574 x44_3) - t581)) + t582))) = true := bne_iff_ne.mpr c101
                                                              exact absurd ((Option.some.inj H).trans HRT.out) (by decide)
                                                          · rw [if_neg c100] at H
                                                            exact absurd H (by simp)
                                                        · rw [if_neg c99] at H
                                                          exact absurd H (by simp)
                                · rw [if_neg c39] at H
                                  exact absurd H (by simp)
                              · rw [if_neg c38] at H
                                exact absurd H (by simp)
                            · rw [if_neg c37] at H
                              exact absurd H (by simp)
                          · rw [if_neg c36] at H
                            have c36b0 : decide (x44_3 < (((rd_T42 l0_2 x21_1).f3).length : Int)) = false := decide_eq_false c36
                            clear c36
                            have H' := Aside0.mk H
                            clear H
                            go_wp2
                            repeat (go_quiet (fail); try go_wp2)
                            go_roundg k3
                            case measure => have := HK1.out; have := HJ18.out; have := HK3.out; omega
                            case rel => exact ⟨(wrap64 (x21_1 + 1)), (by first | rfl | (simp; done) | (simp [*]; done)), H', ⟨by have := HK1.out; have := HJ18.out; have := HK3.out; omega⟩, ⟨by (with_reducible repeat (first | refine blk_drewN ?_ _ | refine blk_drew ?_ | refine blk_alloc ?_ _)); exact BK567.out⟩, ⟨by repeat (first | (with_reducible first | exact HB.out | apply below_alloc | apply pw_below_drewN | apply below_drew1 | refine below_set ?_ GE567.out | refine below_set ?_ GE573.out) | exact HB.out)⟩⟩
              · rw [if_neg c17] at H
                exact absurd H (by simp)
            · rw [if_neg c16] at H
              exact absurd H (by simp)
          · rw [if_neg c15] at H
            have c15b0 : decide (x21_1 < (l0_2.length : Int)) = false := decide_eq_false c15
            clear c15
            obtain rfl := Option.some.inj H
            go_wp2
            repeat (go_quiet (fail); try go_wp2)
            go_ret
            exact ⟨by first | rfl | (simp [errW_none, errW_some] <;> rfl) | (simp [*, errW_none, errW_some] <;> rfl), by repeat (first | (with_reducible first | exact HB.out | apply below_alloc | apply pw_below_drewN | apply below_drew1 | refine below_set ?_ GE567.out) | exact HB.out)⟩
  · replace c3 := Bool.eq_false_iff.mpr c3
    subst c3
    have H1 : (some false) = some r := by rw [if_neg (show ¬ (false = true) by decide)] at H; exact H
    clear H
    have H := H1
    clear H1
    exact absurd ((Option.some.inj H).trans HRT.out) (by decide)

def casementlaw13_CheckSound.Pure : Prop := ∀ (a0_0 : Int) (l0_1 : List Int) (l0_2 : List (S42)), ((Lit.int .i64 a0_0).wf = true) → l0_1.length ≤ maxLen → l0_1.length * 1 ≤ 140737488351232 → (∀ y_ ∈ l0_1, (Lit.int .u8 y_).wf = true) → l0_2.length ≤ maxLen → l0_2.length * 48 ≤ 140737488351232 → (∀ y_ ∈ l0_2, okS42 y_) → ∃ k, casementlaw13_CheckSound.f k a0_0 l0_1 l0_2 = some true
theorem casementlaw13_CheckSound.walk (P : casementlaw13_CheckSound.Pure) (a0_0 : Int) (A0_1 : Option Addr) (c0_1 : Nat) (l0_1 : List Int) (A0_2 : Option Addr) (c0_2 : Nat) (l0_2 : List (S42)) (w : World) (wl0 : ((Lit.int .i64 a0_0).wf = true)) (wl1 : l0_1.length ≤ maxLen) (wl2 : l0_1.length * 1 ≤ 140737488351232) (wl3 : (∀ y_ ∈ l0_1, (Lit.int .u8 y_).wf = true)) (wl4 : l0_2.length ≤ maxLen) (wl5 : l0_2.length * 48 ≤ 140737488351232) (wl6 : (∀ y_ ∈ l0_2, okS42 y_)) (hr0_1 : Kd.C (Kd.int .u8) w A0_1 l0_1.length l0_1) (hc0_1 : l0_1.length ≤ c0_1) (hr0_2 : Kd.C k42 w A0_2 l0_2.length l0_2) (hc0_2 : l0_2.length ≤ c0_2) :
    Calls Try.prog 5 #[.agg #[.int .i64 a0_0, .slice A0_1 l0_1.length c0_1, .slice A0_2 l0_2.length c0_2]] w fun e w' => e = .returned (.bool true) ∧ Below w.heap.size w w' := by
  obtain ⟨k, h⟩ := P a0_0 l0_1 l0_2 wl0 wl1 wl2 wl3 wl4 wl5 wl6
  refine (casementlaw13_CheckSound.calls k a0_0 _ _ l0_1 _ _ l0_2 true w hr0_1 hc0_1 hr0_2 hc0_2 h rfl).mono ?_
  rintro e w' ⟨rfl, hd⟩
  exact ⟨rfl, hd⟩

end Go.Proofs.Ytgngbbkaghmnpaa.Q
