-- written by a program of this session after the way of the kit's print; not the kit's own print. Lean checks it.
import Derived.Test.YtgngbbkaghmnpaaQx0
import Derived.Test.YtgngbbkaghmnpaaQx1
import Derived.Test.YtgngbbkaghmnpaaQx10
import Derived.Test.YtgngbbkaghmnpaaQx14
import Derived.Test.YtgngbbkaghmnpaaQx17
import Derived.Test.YtgngbbkaghmnpaaQx18
import Derived.Test.YtgngbbkaghmnpaaQx19
namespace Go.Proofs.Ytgngbbkaghmnpaa.Q
open Go.RowKit Go.Proofs.YtgngbbkaghmnpaaW.PrintWords Go.Proofs.YtgngbbkaghmnpaaW.PrintLast Go.Proofs.YtgngbbkaghmnpaaW.PrintMore
attribute [local go_sem] max2_int min2_int max_two min_two max_three min_three max_four min_four   -- for this text's walks alone
set_option linter.unusedVariables false
set_option linter.unusedSimpArgs false

attribute [local go_sem high] eqA29
/-! ### casementlaw13_CheckOne: function 7 -/
mutual
def casementlaw13_CheckOne.j0 : Nat → Int → Int → Bool → Option (Bool)
  | 0, _, _, _ => none
  | k + 1, x0, x1, x27 => if x27 = true then (casementlaw13_CheckOne.j1 k 7 x1) else (casementlaw13_CheckOne.j1 k x0 x1)
def casementlaw13_CheckOne.j1 : Nat → Int → Int → Option (Bool)
  | 0, _, _ => none
  | k + 1, x0, x1 => (casementlaw13_ins.f x0 0).bind fun bt321 => ((casementlaw13_mod.f (([(⟨bt321.1, bt321.2⟩ : S46)] : List (S46)))).bind fun bt327 => ((check_Effect.f k bt327.1 bt327.2.1 bt327.2.2 0 bt321.1 bt321.2).bind fun bt334 => (if bt334.2.2 = true then ((some (([0, 1] : List Int) : List Int)).bind fun y337 => (casementlaw13_CheckOne.l0 k x1 bt334.1 bt334.2.1 y337 (y337.length : Int) 0 bt321.1 bt321.2)) else (some false))))
def casementlaw13_CheckOne.l0 : Nat → Int → Int → Int → List Int → Int → Int → Int → Int → Option (Bool)
  | 0, _, _, _, _, _, _, _, _ => none
  | k + 1, x1, x6, x7, x41, x42, x43, x324000, x324001 => if x43 < x42 then (if 0 ≤ x43 then (if x43 < (x41.length : Int) then (casementlaw13_CheckOne.l1 k x1 x6 x7 (rd x41 x43) (([] : List (S46))) 0 x41 x42 x43 x324000 x324001) else (none)) else (none)) else (some true)
def casementlaw13_CheckOne.l1 : Nat → Int → Int → Int → Int → List (S46) → Int → List Int → Int → Int → Int → Int → Option (Bool)
  | 0, _, _, _, _, _, _, _, _, _, _, _ => none
  | k + 1, x1, x6, x7, x10, x11, x12, x41, x42, x43, x324000, x324001 => if x12 < x1 then ((casementlaw13_ins.f 1 x12).bind fun bt344 => (if x11.length < 8796093022208 then (casementlaw13_CheckOne.l1 k x1 x6 x7 x10 (x11 ++ [(⟨bt344.1, bt344.2⟩ : S46)]) (wrap64 (x12 + 1)) x41 x42 x43 x324000 x324001) else (none))) else (if x11.length < 8796093022208 then (casementlaw13_CheckOne.l2 k x1 x6 x7 x10 (x11 ++ [(⟨x324000, x324001⟩ : S46)]) 0 x41 x42 x43 x324000 x324001) else (none))
def casementlaw13_CheckOne.l2 : Nat → Int → Int → Int → Int → List (S46) → Int → List Int → Int → Int → Int → Int → Option (Bool)
  | 0, _, _, _, _, _, _, _, _, _, _, _ => none
  | k + 1, x1, x6, x7, x10, x11, x13, x41, x42, x43, x324000, x324001 => if x13 < (wrap64 ((wrap64 ((wrap64 (x1 - x6)) + x7)) + x10)) then ((casementlaw13_ins.f 2 0).bind fun bt352 => (if x11.length < 8796093022208 then (casementlaw13_CheckOne.l2 k x1 x6 x7 x10 (x11 ++ [(⟨bt352.1, bt352.2⟩ : S46)]) (wrap64 (x13 + 1)) x41 x42 x43 x324000 x324001) else (none))) else ((casementlaw13_ins.f 27 0).bind fun bt357 => (if x11.length < 8796093022208 then ((casementlaw13_mod.f (x11 ++ [(⟨bt357.1, bt357.2⟩ : S46)])).bind fun bt362 => ((check_Check.f k bt362.1 bt362.2.1 bt362.2.2).bind fun bt369 => (if x1 ≥ x6 then (casementlaw13_CheckOne.j5 k x1 x6 x7 x41 x42 x43 ((bt369.1 == 0 && (bt369.2.1 == 0 && (bt369.2.2 == 0))) != (x10 == 0)) x324000 x324001 bt369.1 bt369.2.1 bt369.2.2) else (casementlaw13_CheckOne.j5 k x1 x6 x7 x41 x42 x43 ((bt369.1 == 0 && (bt369.2.1 == 0 && (bt369.2.2 == 0))) != false) x324000 x324001 bt369.1 bt369.2.1 bt369.2.2)))) else (none)))
def casementlaw13_CheckOne.j5 : Nat → Int → Int → Int → List Int → Int → Int → Bool → Int → Int → Int → Int → Int → Option (Bool)
  | 0, _, _, _, _, _, _, _, _, _, _, _, _ => none
  | k + 1, x1, x6, x7, x41, x42, x43, x94, x324000, x324001, x373000, x373001, x373002 => if x94 = true then (some false) else (if (!(x373000 == 0) || (!(x373001 == 0) || (!(x373002 == 0)))) = true then (if (!(x373000 == 0) || (!(x373001 == (-1)) || (!(x373002 == 130)))) = true then (some false) else (casementlaw13_CheckOne.l0 k x1 x6 x7 x41 x42 (wrap64 (x43 + 1)) x324000 x324001)) else (casementlaw13_CheckOne.l0 k x1 x6 x7 x41 x42 (wrap64 (x43 + 1)) x324000 x324001))
end
def casementlaw13_CheckOne.f (k : Nat) (a0 : Int) (a1 : Int) : Option (Bool) := (casementlaw13_alive.f k).bind fun t320 => (if t320 = true then (if (Int.tmod (Go.bits .and .i64 a0 1023) 24) = 5 then (casementlaw13_CheckOne.j0 k (Int.tmod (Go.bits .and .i64 a0 1023) 24) (Go.bits .and .i64 a1 7) true) else (casementlaw13_CheckOne.j0 k (Int.tmod (Go.bits .and .i64 a0 1023) 24) (Go.bits .and .i64 a1 7) ((Int.tmod (Go.bits .and .i64 a0 1023) 24) == 6))) else (some false))
theorem casementlaw13_CheckOne.mono_l : ∀ k, (∀ y0 y1 y2, LeO (casementlaw13_CheckOne.j0 k y0 y1 y2) (casementlaw13_CheckOne.j0 (k + 1) y0 y1 y2)) ∧ (∀ y0 y1, LeO (casementlaw13_CheckOne.j1 k y0 y1) (casementlaw13_CheckOne.j1 (k + 1) y0 y1)) ∧ (∀ y0 y1 y2 y3 y4 y5 y6 y7, LeO (casementlaw13_CheckOne.l0 k y0 y1 y2 y3 y4 y5 y6 y7) (casementlaw13_CheckOne.l0 (k + 1) y0 y1 y2 y3 y4 y5 y6 y7)) ∧ (∀ y0 y1 y2 y3 y4 y5 y6 y7 y8 y9 y10, LeO (casementlaw13_CheckOne.l1 k y0 y1 y2 y3 y4 y5 y6 y7 y8 y9 y10) (casementlaw13_CheckOne.l1 (k + 1) y0 y1 y2 y3 y4 y5 y6 y7 y8 y9 y10)) ∧ (∀ y0 y1 y2 y3 y4 y5 y6 y7 y8 y9 y10, LeO (casementlaw13_CheckOne.l2 k y0 y1 y2 y3 y4 y5 y6 y7 y8 y9 y10) (casementlaw13_CheckOne.l2 (k + 1) y0 y1 y2 y3 y4 y5 y6 y7 y8 y9 y10)) ∧ (∀ y0 y1 y2 y3 y4 y5 y6 y7 y8 y9 y10 y11, LeO (casementlaw13_CheckOne.j5 k y0 y1 y2 y3 y4 y5 y6 y7 y8 y9 y10 y11) (casementlaw13_CheckOne.j5 (k + 1) y0 y1 y2 y3 y4 y5 y6 y7 y8 y9 y10 y11))
  | 0 => ⟨fun _ _ _ r h => by simp [casementlaw13_CheckOne.j0] at h, fun _ _ r h => by simp [casementlaw13_CheckOne.j1] at h, fun _ _ _ _ _ _ _ _ r h => by simp [casementlaw13_CheckOne.l0] at h, fun _ _ _ _ _ _ _ _ _ _ _ r h => by simp [casementlaw13_CheckOne.l1] at h, fun _ _ _ _ _ _ _ _ _ _ _ r h => by simp [casementlaw13_CheckOne.l2] at h, fun _ _ _ _ _ _ _ _ _ _ _ _ r h => by simp [casementlaw13_CheckOne.j5] at h⟩
  | k + 1 => by
    obtain ⟨ih0, ih1, ih2, ih3, ih4, ih5⟩ := casementlaw13_CheckOne.mono_l k
    refine ⟨?_, ?_, ?_, ?_, ?_, ?_⟩
    · intro y0 y1 y2
      unfold casementlaw13_CheckOne.j0
      repeat' first
      | (with_reducible exact ih0 _ _ _)
      | (with_reducible exact ih1 _ _)
      | (with_reducible exact ih2 _ _ _ _ _ _ _ _)
      | (with_reducible exact ih3 _ _ _ _ _ _ _ _ _ _ _)
      | (with_reducible exact ih4 _ _ _ _ _ _ _ _ _ _ _)
      | (with_reducible exact ih5 _ _ _ _ _ _ _ _ _ _ _ _)
      | (with_reducible exact casementlaw13_alive.mono _)
      | (with_reducible exact check_Check.mono _ _ _ _)
      | (with_reducible exact check_Effect.mono _ _ _ _ _ _ _)
      | (with_reducible exact LeO.refl _)
      | (with_reducible exact LeO.none _)
      | (with_reducible refine LeO.ite ?_ ?_)
      | (with_reducible refine LeO.bind ?_ (fun _ => ?_))
      | exact ih0 _ _ _
      | exact ih1 _ _
      | exact ih2 _ _ _ _ _ _ _ _
      | exact ih3 _ _ _ _ _ _ _ _ _ _ _
      | exact ih4 _ _ _ _ _ _ _ _ _ _ _
      | exact ih5 _ _ _ _ _ _ _ _ _ _ _ _
      | exact casementlaw13_alive.mono _
      | exact check_Check.mono _ _ _ _
      | exact check_Effect.mono _ _ _ _ _ _ _
      | exact LeO.none _
      | refine LeO.ite ?_ ?_
      | refine LeO.bind ?_ (fun _ => ?_)
    · intro y0 y1
      unfold casementlaw13_CheckOne.j1
      repeat' first
      | (with_reducible exact ih0 _ _ _)
      | (with_reducible exact ih1 _ _)
      | (with_reducible exact ih2 _ _ _ _ _ _ _ _)
      | (with_reducible exact ih3 _ _ _ _ _ _ _ _ _ _ _)
      | (with_reducible exact ih4 _ _ _ _ _ _ _ _ _ _ _)
      | (with_reducible exact ih5 _ _ _ _ _ _ _ _ _ _ _ _)
      | (with_reducible exact casementlaw13_alive.mono _)
      | (with_reducible exact check_Check.mono _ _ _ _)
      | (with_reducible exact check_Effect.mono _ _ _ _ _ _ _)
      | (with_reducible exact LeO.refl _)
      | (with_reducible exact LeO.none _)
      | (with_reducible refine LeO.ite ?_ ?_)
      | (with_reducible refine LeO.bind ?_ (fun _ => ?_))
      | exact ih0 _ _ _
      | exact ih1 _ _
      | exact ih2 _ _ _ _ _ _ _ _
      | exact ih3 _ _ _ _ _ _ _ _ _ _ _
      | exact ih4 _ _ _ _ _ _ _ _ _ _ _
      | exact ih5 _ _ _ _ _ _ _ _ _ _ _ _
      | exact casementlaw13_alive.mono _
      | exact check_Check.mono _ _ _ _
      | exact check_Effect.mono _ _ _ _ _ _ _
      | exact LeO.none _
      | refine LeO.ite ?_ ?_
      | refine LeO.bind ?_ (fun _ => ?_)
    · intro y0 y1 y2 y3 y4 y5 y6 y7
      unfold casementlaw13_CheckOne.l0
      repeat' first
      | (with_reducible exact ih0 _ _ _)
      | (with_reducible exact ih1 _ _)
      | (with_reducible exact ih2 _ _ _ _ _ _ _ _)
      | (with_reducible exact ih3 _ _ _ _ _ _ _ _ _ _ _)
      | (with_reducible exact ih4 _ _ _ _ _ _ _ _ _ _ _)
      | (with_reducible exact ih5 _ _ _ _ _ _ _ _ _ _ _ _)
      | (with_reducible exact casementlaw13_alive.mono _)
      | (with_reducible exact check_Check.mono _ _ _ _)
      | (with_reducible exact check_Effect.mono _ _ _ _ _ _ _)
      | (with_reducible exact LeO.refl _)
      | (with_reducible exact LeO.none _)
      | (with_reducible refine LeO.ite ?_ ?_)
      | (with_reducible refine LeO.bind ?_ (fun _ => ?_))
      | exact ih0 _ _ _
      | exact ih1 _ _
      | exact ih2 _ _ _ _ _ _ _ _
      | exact ih3 _ _ _ _ _ _ _ _ _ _ _
      | exact ih4 _ _ _ _ _ _ _ _ _ _ _
      | exact ih5 _ _ _ _ _ _ _ _ _ _ _ _
      | exact casementlaw13_alive.mono _
      | exact check_Check.mono _ _ _ _
      | exact check_Effect.mono _ _ _ _ _ _ _
      | exact LeO.none _
      | refine LeO.ite ?_ ?_
      | refine LeO.bind ?_ (fun _ => ?_)
    · intro y0 y1 y2 y3 y4 y5 y6 y7 y8 y9 y10
      unfold casementlaw13_CheckOne.l1
      repeat' first
      | (with_reducible exact ih0 _ _ _)
      | (with_reducible exact ih1 _ _)
      | (with_reducible exact ih2 _ _ _ _ _ _ _ _)
      | (with_reducible exact ih3 _ _ _ _ _ _ _ _ _ _ _)
      | (with_reducible exact ih4 _ _ _ _ _ _ _ _ _ _ _)
      | (with_reducible exact ih5 _ _ _ _ _ _ _ _ _ _ _ _)
      | (with_reducible exact casementlaw13_alive.mono _)
      | (with_reducible exact check_Check.mono _ _ _ _)
      | (with_reducible exact check_Effect.mono _ _ _ _ _ _ _)
      | (with_reducible exact LeO.refl _)
      | (with_reducible exact LeO.none _)
      | (with_reducible refine LeO.ite ?_ ?_)
      | (with_reducible refine LeO.bind ?_ (fun _ => ?_))
      | exact ih0 _ _ _
      | exact ih1 _ _
      | exact ih2 _ _ _ _ _ _ _ _
      | exact ih3 _ _ _ _ _ _ _ _ _ _ _
      | exact ih4 _ _ _ _ _ _ _ _ _ _ _
      | exact ih5 _ _ _ _ _ _ _ _ _ _ _ _
      | exact casementlaw13_alive.mono _
      | exact check_Check.mono _ _ _ _
      | exact check_Effect.mono _ _ _ _ _ _ _
      | exact LeO.none _
      | refine LeO.ite ?_ ?_
      | refine LeO.bind ?_ (fun _ => ?_)
    · intro y0 y1 y2 y3 y4 y5 y6 y7 y8 y9 y10
      unfold casementlaw13_CheckOne.l2
      repeat' first
      | (with_reducible exact ih0 _ _ _)
      | (with_reducible exact ih1 _ _)
      | (with_reducible exact ih2 _ _ _ _ _ _ _ _)
      | (with_reducible exact ih3 _ _ _ _ _ _ _ _ _ _ _)
      | (with_reducible exact ih4 _ _ _ _ _ _ _ _ _ _ _)
      | (with_reducible exact ih5 _ _ _ _ _ _ _ _ _ _ _ _)
      | (with_reducible exact casementlaw13_alive.mono _)
      | (with_reducible exact check_Check.mono _ _ _ _)
      | (with_reducible exact check_Effect.mono _ _ _ _ _ _ _)
      | (with_reducible exact LeO.refl _)
      | (with_reducible exact LeO.none _)
      | (with_reducible refine LeO.ite ?_ ?_)
      | (with_reducible refine LeO.bind ?_ (fun _ => ?_))
      | exact ih0 _ _ _
      | exact ih1 _ _
      | exact ih2 _ _ _ _ _ _ _ _
      | exact ih3 _ _ _ _ _ _ _ _ _ _ _
      | exact ih4 _ _ _ _ _ _ _ _ _ _ _
      | exact ih5 _ _ _ _ _ _ _ _ _ _ _ _
      | exact casementlaw13_alive.mono _
      | exact check_Check.mono _ _ _ _
      | exact check_Effect.mono _ _ _ _ _ _ _
      | exact LeO.none _
      | refine LeO.ite ?_ ?_
      | refine LeO.bind ?_ (fun _ => ?_)
    · intro y0 y1 y2 y3 y4 y5 y6 y7 y8 y9 y10 y11
      unfold casementlaw13_CheckOne.j5
      repeat' first
      | (with_reducible exact ih0 _ _ _)
      | (with_reducible exact ih1 _ _)
      | (with_reducible exact ih2 _ _ _ _ _ _ _ _)
      | (with_reducible exact ih3 _ _ _ _ _ _ _ _ _ _ _)
      | (with_reducible exact ih4 _ _ _ _ _ _ _ _ _ _ _)
      | (with_reducible exact ih5 _ _ _ _ _ _ _ _ _ _ _ _)
      | (with_reducible exact casementlaw13_alive.mono _)
      | (with_reducible exact check_Check.mono _ _ _ _)
      | (with_reducible exact check_Effect.mono _ _ _ _ _ _ _)
      | (with_reducible exact LeO.refl _)
      | (with_reducible exact LeO.none _)
      | (with_reducible refine LeO.ite ?_ ?_)
      | (with_reducible refine LeO.bind ?_ (fun _ => ?_))
      | exact ih0 _ _ _
      | exact ih1 _ _
      | exact ih2 _ _ _ _ _ _ _ _
      | exact ih3 _ _ _ _ _ _ _ _ _ _ _
      | exact ih4 _ _ _ _ _ _ _ _ _ _ _
      | exact ih5 _ _ _ _ _ _ _ _ _ _ _ _
      | exact casementlaw13_alive.mono _
      | exact check_Check.mono _ _ _ _
      | exact check_Effect.mono _ _ _ _ _ _ _
      | exact LeO.none _
      | refine LeO.ite ?_ ?_
      | refine LeO.bind ?_ (fun _ => ?_)
theorem casementlaw13_CheckOne.mono : ∀ a0 a1 k, LeO (casementlaw13_CheckOne.f k a0 a1) (casementlaw13_CheckOne.f (k + 1) a0 a1) := by
  intro a0 a1 k
  obtain ⟨ih0, ih1, ih2, ih3, ih4, ih5⟩ := casementlaw13_CheckOne.mono_l k
  unfold casementlaw13_CheckOne.f
  repeat' first
      | (with_reducible exact ih0 _ _ _)
      | (with_reducible exact ih1 _ _)
      | (with_reducible exact ih2 _ _ _ _ _ _ _ _)
      | (with_reducible exact ih3 _ _ _ _ _ _ _ _ _ _ _)
      | (with_reducible exact ih4 _ _ _ _ _ _ _ _ _ _ _)
      | (with_reducible exact ih5 _ _ _ _ _ _ _ _ _ _ _ _)
      | (with_reducible exact casementlaw13_alive.mono _)
      | (with_reducible exact check_Check.mono _ _ _ _)
      | (with_reducible exact check_Effect.mono _ _ _ _ _ _ _)
      | (with_reducible exact LeO.refl _)
      | (with_reducible exact LeO.none _)
      | (with_reducible refine LeO.ite ?_ ?_)
      | (with_reducible refine LeO.bind ?_ (fun _ => ?_))
      | exact ih0 _ _ _
      | exact ih1 _ _
      | exact ih2 _ _ _ _ _ _ _ _
      | exact ih3 _ _ _ _ _ _ _ _ _ _ _
      | exact ih4 _ _ _ _ _ _ _ _ _ _ _
      | exact ih5 _ _ _ _ _ _ _ _ _ _ _ _
      | exact casementlaw13_alive.mono _
      | exact check_Check.mono _ _ _ _
      | exact check_Effect.mono _ _ _ _ _ _ _
      | exact LeO.none _
      | refine LeO.ite ?_ ?_
      | refine LeO.bind ?_ (fun _ => ?_)
def casementlaw13_CheckOne.T8 : Bool × List (List Nat × List Nat) := (true, [([], []), ([0], [0]), ([1], [1]), ([], []), ([2, 3, 2], [2, 3]), ([4], [4]), ([5], [5]), ([5], [5]), ([5], [5]), ([6, 4, 0, 1, 2, 3, 4, 5, 6], [6]), ([7, 9, 0, 1, 2, 3, 4, 5, 6, 7, 9], [7]), ([8, 10, 0, 1, 2, 3, 4, 5, 6, 7, 8, 9, 10], [8])])
def casementlaw13_CheckOne.B8 : List Nat := [0, 1, 3, 0, 15, 31, 63, 63, 63, 127, 767, 2047]
theorem casementlaw13_CheckOne.tab8 : rtab .any (opsOf Try.f7 8) = casementlaw13_CheckOne.T8 := by kernel_rfl
theorem casementlaw13_CheckOne.bits8 : waitsOk casementlaw13_CheckOne.T8.2 casementlaw13_CheckOne.B8 = true := by kernel_rfl
set_option maxHeartbeats 8000000 in
set_option maxRecDepth 100000 in
theorem casementlaw13_CheckOne.calls (k : Nat) (a0 : Int) (a1 : Int) (r : Bool) (w : World) (h : casementlaw13_CheckOne.f k a0 a1 = some r) (hr : r = true) :
    Calls Try.prog 7 #[.int .i64 a0, .int .i64 a1] w fun e w' => e = .returned (.bool r) ∧ Below w.heap.size w w' := by
  have hu46 := Try.underlying46
  have hu29 := Try.underlying29
  have HRT := Aside0.mk hr
  clear hr
  have HB := Aside0.mk (Below.refl w.heap.size w)
  have H : ((casementlaw13_alive.f k).bind fun t320 => (if t320 = true then (if (Int.tmod (Go.bits .and .i64 a0 1023) 24) = 5 then (casementlaw13_CheckOne.j0 k (Int.tmod (Go.bits .and .i64 a0 1023) 24) (Go.bits .and .i64 a1 7) true) else (casementlaw13_CheckOne.j0 k (Int.tmod (Go.bits .and .i64 a0 1023) 24) (Go.bits .and .i64 a1 7) ((Int.tmod (Go.bits .and .i64 a0 1023) 24) == 6))) else (some false))) = some r := h
  clear h
  replace H := Option.bind_eq_some_iff.mp H
  obtain ⟨t320, A30, H⟩ := H
  replace H : (if t320 = true then (if (Int.tmod (Go.bits .and .i64 a0 1023) 24) = 5 then (casementlaw13_CheckOne.j0 k (Int.tmod (Go.bits .and .i64 a0 1023) 24) (Go.bits .and .i64 a1 7) true) else (casementlaw13_CheckOne.j0 k (Int.tmod (Go.bits .and .i64 a0 1023) 24) (Go.bits .and .i64 a1 7) ((Int.tmod (Go.bits .and .i64 a0 1023) 24) == 6))) else (some false)) = some r := H
  have A3 := Aside0.mk A30
  clear A30
  by_cases c4 : t320 = true
  · subst c4
    have H1 : (if (Int.tmod (Go.bits .and .i64 a0 1023) 24) = 5 then (casementlaw13_CheckOne.j0 k (Int.tmod (Go.bits .and .i64 a0 1023) 24) (Go.bits .and .i64 a1 7) true) else (casementlaw13_CheckOne.j0 k (Int.tmod (Go.bits .and .i64 a0 1023) 24) (Go.bits .and .i64 a1 7) ((Int.tmod (Go.bits .and .i64 a0 1023) 24) == 6))) = some r := by rw [if_pos rfl] at H; exact H
    clear H
    have H := H1
    clear H1
    have HC5 := Aside0.mk H
    clear H
    go_enter Try.func7, Try.ntmps7
    go_upto_region 5 with (first | ((with_reducible refine gate_callee (f := 8) rfl ?_); refine goesL_ (some 15) rfl rfl Try.func8 (by kernel_rfl) rfl #[] rfl (by (try simp only [List.map_toArray, List.map_cons, List.map_nil]); first | done | rfl | (simp only [List.length_drop, List.length_take]; rfl)) ?_; (with_reducible refine (casementlaw13_alive.calls k  true _ A3.out (by first | rfl | assumption)).mono ?_); rintro e w6 ⟨rfl, hb⟩; refine ⟨_, rfl, ?_⟩; have n0_ := Aside0.mk (below_step (by repeat (first | (with_reducible first | exact HB.out | apply below_alloc | apply pw_below_drewN | apply below_drew1) | exact HB.out)) hb); clear HB; have HB := n0_; clear n0_; (try clear hb); (try clear hb2); (try clear hk); (try clear hi)))
    (try simp only [Act.put, List.setIfInBounds_toArray, List.set_cons_zero, List.set_cons_succ])
    go_cut [27] (fun v27 wc => ∃ (kq : Nat) (x27_4 : Bool), v27 = .bool x27_4 ∧ Aside0 (casementlaw13_CheckOne.j0 kq (Int.tmod (Go.bits .and .i64 a0 1023) 24) (Go.bits .and .i64 a1 7) x27_4 = some r) ∧ Aside0 (kq ≤ k) ∧ Aside0 (Below w.heap.size w wc))
    case first =>
      have H := HC5.out
      clear HC5
      by_cases c7 : (Int.tmod (Go.bits .and .i64 a0 1023) 24) = 5
      · rw [if_pos c7] at H
        have c7b0 : ((Int.tmod (Go.bits .and .i64 a0 1023) 24) == 5) = true := beq_iff_eq.mpr c7
        have c7b1 : ((Int.tmod (Go.bits .and .i64 a0 1023) 24) != 5) = false := bne_eq_false_iff_eq.mpr c7
        clear c7
        (first | rw [c7b0] | (simp only [i64_w, i32_w]; rw [c7b0]) | skip)
        have H' := Aside0.mk H
        clear H
        go_wp2
        go_meet
        case rel => exact ⟨_, (true), (by first | rfl | (simp; done) | (simp [*]; done)), H', ⟨by first | omega | exact Nat.le_refl _⟩, ⟨by repeat (first | (with_reducible first | exact HB.out | apply below_alloc | apply pw_below_drewN | apply below_drew1) | exact HB.out)⟩⟩
      · rw [if_neg c7] at H
        have c7b0 : ((Int.tmod (Go.bits .and .i64 a0 1023) 24) == 5) = false := beq_eq_false_iff_ne.mpr c7
        have c7b1 : ((Int.tmod (Go.bits .and .i64 a0 1023) 24) != 5) = true := bne_iff_ne.mpr c7
        (first | rw [c7b0] | (simp only [i64_w, i32_w]; rw [c7b0]) | skip)
        have H' := Aside0.mk H
        clear H
        go_wp2
        go_meet
        case rel => exact ⟨_, (((Int.tmod (Go.bits .and .i64 a0 1023) 24) == 6)), (by first | rfl | (simp; done) | (simp [*]; done)), H', ⟨by first | omega | exact Nat.le_refl _⟩, ⟨by repeat (first | (with_reducible first | exact HB.out | apply below_alloc | apply pw_below_drewN | apply below_drew1) | exact HB.out)⟩⟩
    case rest =>
      clear HC5
      try clear p2
      try clear c4
      try clear c7
      try clear c7b0
      try clear c7b1
      obtain ⟨kq, x27_4, rfl, HA, HJ4, HB⟩ := hcut
      cases kq with
      | zero => exact absurd HA.out (by simp [casementlaw13_CheckOne.j0])
      | succ kj4 =>
        have H := HA.out
        clear HA
        simp only [casementlaw13_CheckOne.j0] at H
        have HC8 := Aside0.mk H
        clear H
        go_upto_if 27 with (fail)
        go_cut [0] (fun v0 wc => ∃ (kq : Nat) (x0_7 : Int), v0 = .int .i64 x0_7 ∧ Aside0 (casementlaw13_CheckOne.j1 kq x0_7 (Go.bits .and .i64 a1 7) = some r) ∧ Aside0 (kq ≤ kj4) ∧ Aside0 (Below w.heap.size w wc))
        case first =>
          have H := HC8.out
          clear HC8
          by_cases c9 : x27_4 = true
          · subst c9
            have H1 : (casementlaw13_CheckOne.j1 kj4 7 (Go.bits .and .i64 a1 7)) = some r := by rw [if_pos rfl] at H; exact H
            clear H
            have H := H1
            clear H1
            have H' := Aside0.mk H
            clear H
            go_wp2
            go_meet
            case rel => exact ⟨_, (7), (by first | rfl | (simp; done) | (simp [*]; done)), H', ⟨by have := HJ4.out; first | omega | exact Nat.le_refl _⟩, ⟨by repeat (first | (with_reducible first | exact HB.out | apply below_alloc | apply pw_below_drewN | apply below_drew1) | exact HB.out)⟩⟩
          · replace c9 := Bool.eq_false_iff.mpr c9
            subst c9
            have H1 : (casementlaw13_CheckOne.j1 kj4 (Int.tmod (Go.bits .and .i64 a0 1023) 24) (Go.bits .and .i64 a1 7)) = some r := by rw [if_neg (show ¬ (false = true) by decide)] at H; exact H
            clear H
            have H := H1
            clear H1
            have H' := Aside0.mk H
            clear H
            go_wp2
            go_meet
            case rel => exact ⟨_, ((Int.tmod (Go.bits .and .i64 a0 1023) 24)), (by first | rfl | (simp; done) | (simp [*]; done)), H', ⟨by have := HJ4.out; first | omega | exact Nat.le_refl _⟩, ⟨by repeat (first | (with_reducible first | exact HB.out | apply below_alloc | apply pw_below_drewN | apply below_drew1) | exact HB.out)⟩⟩
        case rest =>
          clear HC8
          try clear p2
          try clear c4
          try clear c7
          try clear c7b0
          try clear c7b1
          try clear c8
          try clear c9
          try clear p2
          obtain ⟨kq, x0_7, rfl, HA, HJ7, HB⟩ := hcut
          cases kq with
          | zero => exact absurd HA.out (by simp [casementlaw13_CheckOne.j1])
          | succ kj7 =>
            have H := HA.out
            clear HA
            simp only [casementlaw13_CheckOne.j1] at H
            replace H := Option.bind_eq_some_iff.mp H
            obtain ⟨⟨t321, t322⟩, A100, H⟩ := H
            replace H : ((casementlaw13_mod.f (([(⟨t321, t322⟩ : S46)] : List (S46)))).bind fun bt327 => ((check_Effect.f kj7 bt327.1 bt327.2.1 bt327.2.2 0 t321 t322).bind fun bt334 => (if bt334.2.2 = true then ((some (([0, 1] : List Int) : List Int)).bind fun y337 => (casementlaw13_CheckOne.l0 kj7 (Go.bits .and .i64 a1 7) bt334.1 bt334.2.1 y337 (y337.length : Int) 0 t321 t322)) else (some false)))) = some r := H
            have A10 := Aside0.mk A100
            clear A100
            obtain ⟨y324, hy324⟩ : ∃ y_ : List (S46), y_ = (([(⟨t321, t322⟩ : S46)] : List (S46))) := ⟨_, rfl⟩
            replace H : ((casementlaw13_mod.f y324).bind fun bt327 => ((check_Effect.f kj7 bt327.1 bt327.2.1 bt327.2.2 0 t321 t322).bind fun bt334 => (if bt334.2.2 = true then ((some (([0, 1] : List Int) : List Int)).bind fun y337 => (casementlaw13_CheckOne.l0 kj7 (Go.bits .and .i64 a1 7) bt334.1 bt334.2.1 y337 (y337.length : Int) 0 t321 t322)) else (some false)))) = some r := by first | (rw [hy324]; with_reducible exact H) | (have H2_ := (Option.bind_some _ _).symm.trans H; rw [hy324]; with_reducible exact H2_) | (have H2_ := (Option.bind_some _ _).symm.trans H; with_reducible exact H2_) | with_reducible exact H | (rw [hy324]; exact H) | exact H
            have Ny324 := Aside0.mk hy324
            clear hy324
            replace H := Option.bind_eq_some_iff.mp H
            obtain ⟨⟨t327, t328, t331⟩, A110, H⟩ := H
            replace H : ((check_Effect.f kj7 t327 t328 t331 0 t321 t322).bind fun bt334 => (if bt334.2.2 = true then ((some (([0, 1] : List Int) : List Int)).bind fun y337 => (casementlaw13_CheckOne.l0 kj7 (Go.bits .and .i64 a1 7) bt334.1 bt334.2.1 y337 (y337.length : Int) 0 t321 t322)) else (some false))) = some r := H
            have A11 := Aside0.mk A110
            clear A110
            replace H := Option.bind_eq_some_iff.mp H
            obtain ⟨⟨t334, t335, t336⟩, A120, H⟩ := H
            replace H : (if t336 = true then ((some (([0, 1] : List Int) : List Int)).bind fun y337 => (casementlaw13_CheckOne.l0 kj7 (Go.bits .and .i64 a1 7) t334 t335 y337 (y337.length : Int) 0 t321 t322)) else (some false)) = some r := H
            have A12 := Aside0.mk A120
            clear A120
            by_cases c13 : t336 = true
            · subst c13
              have H1 : ((some (([0, 1] : List Int) : List Int)).bind fun y337 => (casementlaw13_CheckOne.l0 kj7 (Go.bits .and .i64 a1 7) t334 t335 y337 (y337.length : Int) 0 t321 t322)) = some r := by rw [if_pos rfl] at H; exact H
              clear H
              have H := H1
              clear H1
              obtain ⟨y337, hy337⟩ : ∃ y_ : List Int, y_ = (([0, 1] : List Int)) := ⟨_, rfl⟩
              replace H : (casementlaw13_CheckOne.l0 kj7 (Go.bits .and .i64 a1 7) t334 t335 y337 (y337.length : Int) 0 t321 t322) = some r := by first | (rw [hy337]; with_reducible exact H) | (have H2_ := (Option.bind_some _ _).symm.trans H; rw [hy337]; with_reducible exact H2_) | (have H2_ := (Option.bind_some _ _).symm.trans H; with_reducible exact H2_) | with_reducible exact H | (rw [hy337]; exact H) | exact H
              have Ny337 := Aside0.mk hy337
              clear hy337
              have H' := Aside0.mk H
              clear H
              try go_wp2_with (first | ((with_reducible refine gate_callee (f := 15) rfl ?_); refine goesL_ (some 29) rfl rfl Try.func15 (by kernel_rfl) rfl #[.int .i64 x0_7, .int .i64 0] rfl (by (try simp only [List.map_toArray, List.map_cons, List.map_nil]); first | done | rfl | (simp only [List.length_drop, List.length_take]; rfl)) ?_; (with_reducible refine (casementlaw13_ins.calls x0_7 0 t321 t322 _ A10.out).mono ?_); rintro e w14 ⟨rfl, hb⟩; refine ⟨_, rfl, ?_⟩; have n0_ := Aside0.mk (below_step (by repeat (first | (with_reducible first | exact HB.out | apply below_alloc | apply pw_below_drewN | apply below_drew1) | exact HB.out)) hb); clear HB; have HB := n0_; clear n0_; (try clear hb); (try clear hb2); (try clear hk); (try clear hi)) | ((with_reducible refine gate_dst (N := 5) rfl ?_); refine box_event ?hg (N := 5) ?hd (cs := #[.int .i64 0, .int .i64 0]) (t := 46) ?hr ?_; (case hd => rfl); (case hg => rfl); (case hr => first | (go_simp; done) | (go_simp; rfl)); intro gb323 hg w15 hbox hb; have n0_ := Aside0.mk (below_step (by repeat (first | (with_reducible first | exact HB.out | apply below_alloc | apply pw_below_drewN | apply below_drew1) | exact HB.out)) hb); have n1_ := Aside0.mk (hbox); have n2_ := Aside0.mk ((by rw [hg]; exact (below_size (by repeat (first | (with_reducible first | exact HB.out | apply below_alloc | apply pw_below_drewN | apply below_drew1) | exact HB.out))) : w.heap.size ≤ gb323)); have n3_ := Aside0.mk ((by rw [hg]; exact (below_size (by repeat (first | (with_reducible first | exact HB.out | apply below_alloc | apply pw_below_drewN | apply below_drew1) | exact HB.out))) : w.heap.size ≤ gb323)); clear HB; have HB := n0_; have BK323 := n1_; have GW323 := n2_; have GE323 := n3_; clear n0_ n1_ n2_ n3_; clear hb hbox hg; have hcz16_0 : w15.cell? ⟨gb323, 0, none⟩ = some (.int .i64 0) := (blk_cell BK323.out 0).trans rfl; have hcz16_1 : w15.cell? ⟨gb323, 1, none⟩ = some (.int .i64 0) := (blk_cell BK323.out 1).trans rfl; have hfz16_0 := blk_frozen BK323.out 0; have hfz16_1 := blk_frozen BK323.out 1))
              have n0_ : Aside0 (((w15.setCell ⟨gb323, 0, none⟩ (.int .i64 t321)).setCell ⟨gb323, 1, none⟩ (.int .i64 t322)).heap[gb323]? = some (.cells #[.int .i64 t321, .int .i64 t322] 46 (0, 0))) := ⟨by (with_reducible repeat (first | refine blk_drewN ?_ _ | refine blk_drew ?_ | refine blk_alloc ?_ _)); refine blk_put (cs := #[.int .i64 t321, .int .i64 0]) ?_ 1 _ rfl; (with_reducible repeat (first | refine blk_drewN ?_ _ | refine blk_drew ?_ | refine blk_alloc ?_ _)); refine blk_put (cs := #[.int .i64 0, .int .i64 0]) ?_ 0 _ rfl; (with_reducible repeat (first | refine blk_drewN ?_ _ | refine blk_drew ?_ | refine blk_alloc ?_ _)); exact BK323.out⟩
              have n1_ : Aside0 (Below w.heap.size w ((w15.setCell ⟨gb323, 0, none⟩ (.int .i64 t321)).setCell ⟨gb323, 1, none⟩ (.int .i64 t322))) := ⟨by repeat (first | (with_reducible first | exact HB.out | apply below_alloc | apply pw_below_drewN | apply below_drew1 | refine below_set ?_ GE323.out) | exact HB.out)⟩
              (try clear BK323)
              (try clear HB)
              generalize ((w15.setCell ⟨gb323, 0, none⟩ (.int .i64 t321)).setCell ⟨gb323, 1, none⟩ (.int .i64 t322)) = w17 at n0_ n1_ ⊢
              have BK323 := n0_
              have HB := n1_
              clear n0_ n1_
              have n0_ := Aside0.mk (blk_drew BK323.out)
              have n1_ := Aside0.mk (below_drew1 HB.out)
              clear BK323
              clear HB
              have BK323 := n0_
              have HB := n1_
              clear n0_ n1_
              refine start_ (n := 12) (S := fun w' => w'.cell? ⟨gb323, 0, none⟩ = some (.int .i64 t321) ∧ w'.cell? ⟨gb323, 1, none⟩ = some (.int .i64 t322)) (ds := []) #[false, false, false, false, false, false, false, false, false, false, false, false] (by kernel_rfl) rfl rfl ⟨(blk_cell BK323.out 0).trans rfl, (blk_cell BK323.out 1).trans rfl⟩ (fun hHeld => ?_); refine with_tabW casementlaw13_CheckOne.tab8 casementlaw13_CheckOne.bits8 (fun HT_ HW_ => ?_)
              generalize w17.drew = w18 at BK323 HB hHeld ⊢
              refine take_ (i := 0) (N := some 31) (v := ?_) (a' := ?_) #[true, false, false, false, false, false, false, false, false, false, false, false] rfl rfl (take_ofW HT_.out HW_.out (by kernel_rfl)) (fun _ _ _ h => h) (Or.inl ⟨by rfl, ?_⟩) hHeld ?_ ?_
              rotate_left
              · rintro w' ⟨s0, s1⟩
                go_simp
                with_reducible rfl
              rotate_left
              · simp only [Act.put, List.setIfInBounds_toArray, List.set_cons_zero, List.set_cons_succ, i64_w, i32_w]
                rfl
              refine take_ (i := 3) (N := some 34) (v := ?_) (a' := ?_) #[true, false, false, true, false, false, false, false, false, false, false, false] rfl rfl (take_ofW HT_.out HW_.out (by kernel_rfl)) (fun _ _ _ h => h) (Or.inl ⟨by rfl, ?_⟩) hHeld ?_ ?_
              rotate_left
              · rintro w' ⟨s0, s1⟩
                go_simp
                with_reducible rfl
              rotate_left
              · simp only [Act.put, List.setIfInBounds_toArray, List.set_cons_zero, List.set_cons_succ, i64_w, i32_w]
                rfl
              refine one_ (i := 1) (N := some 32) #[true, true, false, true, false, false, false, false, false, false, false, false] rfl rfl (one_of HT_.out (by kernel_rfl)) (by decide) (fun K hK => ?_)
              refine Kd.R_lit_step k46 _ 46 ?hg (N := 32) ?hd (xs := ([(⟨t321, t322⟩ : S46)] : List (S46))) (inner := [.int .i64 t321, .int .i64 t322]) (ok := fun _ => True) (okp := fun _ => True) ?hr ?hp (fun _ hk => hk) trivial (Below.refl _ _) (Nat.le_refl _) (by simp) ?_; (case hd => rfl); (case hg => rfl); (case hr => first | (go_simp; done) | (go_simp; rfl)); (case hp => exact (Reps.c2 (show Kd.M k46 _ _ _ (⟨t321, t322⟩ : S46) [.int .i64 t321, .int .i64 t322] from (k46_mkM _ _ _ (⟨t321, t322⟩ : S46) )) (Reps.none _ _)))
              intro v325 w19 ho20 hb hg_ hnew_
              clear hg_ hnew_
              (first | rw [← Ny324.out] at ho20 | (simp only [Int.reduceToNat] at ho20; rw [← Ny324.out] at ho20))
              have n0_ := Aside0.mk (Kd.R_lower (Kd.R_newB ho20 (g := gb323) (o := .cells #[.int .i64 t321, .int .i64 t322] 46 (0, 0)) (by (with_reducible repeat (first | refine blk_drewN ?_ _ | refine blk_drew ?_ | refine blk_alloc ?_ _)); exact BK323.out)) (below_size (by repeat (first | (with_reducible first | exact HB.out | apply below_alloc | apply pw_below_drewN | apply below_drew1 | refine below_set ?_ GE323.out) | exact HB.out))))
              have n1_ := Aside0.mk (blk_below (g := gb323) (o := .cells #[.int .i64 t321, .int .i64 t322] 46 (0, 0)) (by (with_reducible repeat (first | refine blk_drewN ?_ _ | refine blk_drew ?_ | refine blk_alloc ?_ _)); exact BK323.out) hb)
              have n2_ := Aside0.mk (below_step (by repeat (first | (with_reducible first | exact HB.out | apply below_alloc | apply pw_below_drewN | apply below_drew1 | refine below_set ?_ GE323.out) | exact HB.out)) hb)
              clear BK323
              clear HB
              have HO326 := n0_
              have BK323 := n1_
              have HB := n2_
              clear n0_ n1_ n2_
              clear hb ho20
              obtain ⟨Ao21, co21, eo21⟩ := Kd.R_slice HO326.out
              (first | subst eo21 | (injection eo21 with f1_ f2_ f3_; have f4_ := f1_.symm; have f5_ := f3_.symm; clear f1_ f2_ f3_; subst f4_; subst f5_))
              refine hK.out _ _ ⟨(blk_cell BK323.out 0).trans rfl, (blk_cell BK323.out 1).trans rfl⟩ (fun hHeld => ?_)
              clear hK K
              refine norm_ (a' := ?_) ?_ ?_
              rotate_left
              · show Act.put _ (some 32) _ = _
                simp only [Act.put, List.setIfInBounds_toArray, List.set_cons_zero, List.set_cons_succ, i64_w, i32_w]
                rfl
              refine one_ (i := 2) (N := some 33) #[true, true, true, true, false, false, false, false, false, false, false, false] rfl rfl (one_of HT_.out (by kernel_rfl)) (by decide) (fun K hK => ?_)
              refine goes_ Try.func19 (by kernel_rfl) rfl #[.slice Ao21 y324.length co21] (by rfl) rfl rfl (by (try simp only [List.map_toArray, List.map_cons, List.map_nil]); first | done | rfl | (simp only [List.length_drop, List.length_take]; rfl)) ?_
              with_reducible refine (casementlaw13_mod.calls (fun k_ => some k_ = (.slice Ao21 y324.length co21 : Value).ownBlock) _ _ y324 t327 t328 t331 _ ?side1 A11.out).mono ?_
              (case side1 => exact Kd.R_V (Kd.R_tight rfl (HO326.out)))
              rintro e w22 ⟨v329, v332, rfl, ho0, ho1, hb⟩
              refine ⟨_, rfl, ?_⟩
              have n0_ := Aside0.mk (Kd.R_below (by (with_reducible repeat (first | apply Kd.R_alloc | apply Kd.R_drewN | apply Kd.R_drew)); exact HO326.out) hb)
              have n1_ := Aside0.mk (Kd.R_lower (Kd.R_mono (ok' := fun k_ => True) ho0 (fun _ hk_ => trivial)) (below_size (by repeat (first | (with_reducible first | exact HB.out | apply below_alloc | apply pw_below_drewN | apply below_drew1 | refine below_set ?_ GE323.out) | exact HB.out))))
              have n2_ := Aside0.mk (Kd.N_lower (Kd.N_mono (ok' := fun k_ => some k_ ≠ (v329 : Value).ownBlock ∧ k_ ≠ gb323) ho1 (fun k_ hk_ => ⟨hk_.2, Or.elim hk_.1 (fun hs_ => ((HO326.out).1 k_ hs_.symm).2) (fun hn_ => (Kd.freshB (g := gb323) (o := .cells #[.int .i64 t321, .int .i64 t322] 46 (0, 0)) (by (with_reducible repeat (first | refine blk_drewN ?_ _ | refine blk_drew ?_ | refine blk_alloc ?_ _)); exact BK323.out) k_ hn_))⟩)) (below_size (by repeat (first | (with_reducible first | exact HB.out | apply below_alloc | apply pw_below_drewN | apply below_drew1 | refine below_set ?_ GE323.out) | exact HB.out))))
              have n3_ := Aside0.mk (blk_below (g := gb323) (o := .cells #[.int .i64 t321, .int .i64 t322] 46 (0, 0)) (by (with_reducible repeat (first | refine blk_drewN ?_ _ | refine blk_drew ?_ | refine blk_alloc ?_ _)); exact BK323.out) hb)
              have n4_ := Aside0.mk (below_step (by repeat (first | (with_reducible first | exact HB.out | apply below_alloc | apply pw_below_drewN | apply below_drew1 | refine below_set ?_ GE323.out) | exact HB.out)) hb)
              clear HO326
              clear BK323
              clear HB
              have HO326 := n0_
              have HO330 := n1_
              have HO333 := n2_
              have BK323 := n3_
              have HB := n4_
              clear n0_ n1_ n2_ n3_ n4_
              (try clear hb)
              (try clear hb2)
              (try clear hk)
              (try clear hi)
              (try clear ho0)
              (try clear ho1)
              obtain ⟨Ao23, co23, eo23⟩ := Kd.R_slice HO330.out
              (first | subst eo23 | (injection eo23 with f1_ f2_ f3_; have f4_ := f1_.symm; have f5_ := f3_.symm; clear f1_ f2_ f3_; subst f4_; subst f5_))
              obtain ⟨Ao24, co24, eo24⟩ := Kd.N_slice HO333.out
              (first | subst eo24 | (injection eo24 with f1_ f2_ f3_; have f4_ := f1_.symm; have f5_ := f3_.symm; clear f1_ f2_ f3_; subst f4_; subst f5_))
              refine hK.out _ _ ⟨(blk_cell BK323.out 0).trans rfl, (blk_cell BK323.out 1).trans rfl⟩ (fun hHeld => ?_)
              clear hK K
              refine norm_ (a' := ?_) ?_ ?_
              rotate_left
              · show Act.put _ (some 33) _ = _
                simp only [Act.put, List.setIfInBounds_toArray, List.set_cons_zero, List.set_cons_succ, i64_w, i32_w]
                rfl
              refine one_ (i := 4) (N := some 35) #[true, true, true, true, true, false, false, false, false, false, false, false] rfl rfl (one_of HT_.out (by kernel_rfl)) (by decide) (fun K hK => ?_)
              refine goes_ Try.func14 (by kernel_rfl) rfl #[.agg #[.int .i64 t327, .slice Ao23 t328.length co23, .slice Ao24 t331.length co24], .int .i64 0, .agg #[.int .i64 t321, .int .i64 t322]] (by rfl) rfl rfl (by (try simp only [List.map_toArray, List.map_cons, List.map_nil]); first | done | rfl | (simp only [List.length_drop, List.length_take]; rfl)) ?_
              with_reducible refine (check_Effect.calls kj7 t327 _ _ t328 _ _ t331 0 t321 t322 t334 t335 true _ ?side1 ?side2 ?side3 ?side4 A12.out).mono ?_
              (case side1 => repeat (first | exact (Kd.R_reads' HO330.out).2.2 | (with_reducible refine Kd.C_alloc ?_ _) | (with_reducible refine Kd.C_drewN ?_ _) | (with_reducible refine Kd.C_drew ?_)))
              (case side2 => exact (Kd.R_reads' HO330.out).2.1)
              (case side3 => repeat (first | exact (Kd.N_reads' HO333.out).2.2 | (with_reducible refine Kd.C_alloc ?_ _) | (with_reducible refine Kd.C_drewN ?_ _) | (with_reducible refine Kd.C_drew ?_)))
              (case side4 => exact (Kd.N_reads' HO333.out).2.1)
              rintro e w25 ⟨rfl, hb⟩
              refine ⟨_, rfl, ?_⟩
              have n0_ := Aside0.mk (Kd.R_below (by (with_reducible repeat (first | apply Kd.R_alloc | apply Kd.R_drewN | apply Kd.R_drew)); exact HO326.out) hb)
              have n1_ := Aside0.mk (Kd.R_below (by (with_reducible repeat (first | apply Kd.R_alloc | apply Kd.R_drewN | apply Kd.R_drew)); exact HO330.out) hb)
              have n2_ := Aside0.mk (Kd.N_below (by (with_reducible repeat (first | apply Kd.N_alloc | apply Kd.N_drewN | apply Kd.N_drew)); exact HO333.out) hb)
              have n3_ := Aside0.mk (blk_below (g := gb323) (o := .cells #[.int .i64 t321, .int .i64 t322] 46 (0, 0)) (by (with_reducible repeat (first | refine blk_drewN ?_ _ | refine blk_drew ?_ | refine blk_alloc ?_ _)); exact BK323.out) hb)
              have n4_ := Aside0.mk (below_step (by repeat (first | (with_reducible first | exact HB.out | apply below_alloc | apply pw_below_drewN | apply below_drew1 | refine below_set ?_ GE323.out) | exact HB.out)) hb)
              clear HO326
              clear HO330
              clear HO333
              clear BK323
              clear HB
              have HO326 := n0_
              have HO330 := n1_
              have HO333 := n2_
              have BK323 := n3_
              have HB := n4_
              clear n0_ n1_ n2_ n3_ n4_
              (try clear hb)
              (try clear hb2)
              (try clear hk)
              (try clear hi)
              refine hK.out _ _ ⟨(blk_cell BK323.out 0).trans rfl, (blk_cell BK323.out 1).trans rfl⟩ (fun hHeld => ?_)
              clear hK K
              refine norm_ (a' := ?_) ?_ ?_
              rotate_left
              · show Act.put _ (some 35) _ = _
                simp only [Act.put, List.setIfInBounds_toArray, List.set_cons_zero, List.set_cons_succ, i64_w, i32_w]
                rfl
              refine pure_ (i := 5) (N := some 30) (v := ?_) (a' := ?_) #[true, true, true, true, true, true, false, false, false, false, false, false] rfl rfl (any_of HT_.out (by kernel_rfl)) (fun _ _ _ h => h) (Or.inl ⟨by rfl, ?_⟩) ?_ ?_
              rotate_left
              · intro w'
                go_simp
                with_reducible rfl
              rotate_left
              · simp only [Act.put, List.setIfInBounds_toArray, List.set_cons_zero, List.set_cons_succ, i64_w, i32_w]
                rfl
              refine pure_ (i := 6) (N := some 36) (v := ?_) (a' := ?_) #[true, true, true, true, true, true, true, false, false, false, false, false] rfl rfl (any_of HT_.out (by kernel_rfl)) (fun _ _ _ h => h) (Or.inl ⟨by rfl, ?_⟩) ?_ ?_
              rotate_left
              · intro w'
                go_simp
                with_reducible rfl
              rotate_left
              · simp only [Act.put, List.setIfInBounds_toArray, List.set_cons_zero, List.set_cons_succ, i64_w, i32_w]
                rfl
              refine pure_ (i := 7) (N := some 37) (v := ?_) (a' := ?_) #[true, true, true, true, true, true, true, true, false, false, false, false] rfl rfl (any_of HT_.out (by kernel_rfl)) (fun _ _ _ h => h) (Or.inl ⟨by rfl, ?_⟩) ?_ ?_
              rotate_left
              · intro w'
                go_simp
                with_reducible rfl
              rotate_left
              · simp only [Act.put, List.setIfInBounds_toArray, List.set_cons_zero, List.set_cons_succ, i64_w, i32_w]
                rfl
              refine pure_ (i := 8) (N := some 38) (v := ?_) (a' := ?_) #[true, true, true, true, true, true, true, true, true, false, false, false] rfl rfl (any_of HT_.out (by kernel_rfl)) (fun _ _ _ h => h) (Or.inl ⟨by rfl, ?_⟩) ?_ ?_
              rotate_left
              · intro w'
                go_simp
                with_reducible rfl
              rotate_left
              · simp only [Act.put, List.setIfInBounds_toArray, List.set_cons_zero, List.set_cons_succ, i64_w, i32_w]
                rfl
              refine pure_ (i := 9) (N := some 6) (v := ?_) (a' := ?_) #[true, true, true, true, true, true, true, true, true, true, false, false] rfl rfl (any_of HT_.out (by kernel_rfl)) (fun _ _ _ h => h) (Or.inl ⟨by rfl, ?_⟩) ?_ ?_
              rotate_left
              · intro w'
                go_simp
                with_reducible rfl
              rotate_left
              · simp only [Act.put, List.setIfInBounds_toArray, List.set_cons_zero, List.set_cons_succ, i64_w, i32_w]
                rfl
              refine pure_ (i := 10) (N := some 7) (v := ?_) (a' := ?_) #[true, true, true, true, true, true, true, true, true, true, true, false] rfl rfl (any_of HT_.out (by kernel_rfl)) (fun _ _ _ h => h) (Or.inl ⟨by rfl, ?_⟩) ?_ ?_
              rotate_left
              · intro w'
                go_simp
                with_reducible rfl
              rotate_left
              · simp only [Act.put, List.setIfInBounds_toArray, List.set_cons_zero, List.set_cons_succ, i64_w, i32_w]
                rfl
              refine pure_ (i := 11) (N := some 8) (v := ?_) (a' := ?_) #[true, true, true, true, true, true, true, true, true, true, true, true] rfl rfl (any_of HT_.out (by kernel_rfl)) (fun _ _ _ h => h) (Or.inl ⟨by rfl, ?_⟩) ?_ ?_
              rotate_left
              · intro w'
                go_simp
                with_reducible rfl
              rotate_left
              · simp only [Act.put, List.setIfInBounds_toArray, List.set_cons_zero, List.set_cons_succ, i64_w, i32_w]
                rfl
              refine done_ (done_of HT_.out (by kernel_rfl)) ?_
              try go_wp2_with (first | ((with_reducible refine gate_dst (N := 41) rfl ?_); refine Kd.R_lit (Kd.int .i64) _ 3 ?hg (N := 41) ?hd (xs := ([0, 1] : List Int)) (inner := [.int .i64 0, .int .i64 1]) (ok := fun _ => True) (okp := fun _ => True) ?hr ?hp (fun _ hk => hk) trivial (Below.refl _ _) (Nat.le_refl _) (by simp) ?_; (case hd => rfl); (case hg => rfl); (case hr => first | (go_simp; done) | (go_simp; rfl)); (case hp => exact (Reps.one (show Kd.M (Kd.int .i64) _ _ _ 0 [.int .i64 0] from rfl) (Reps.one (show Kd.M (Kd.int .i64) _ _ _ 1 [.int .i64 1] from rfl) (Reps.none _ _)))); intro v338 w26 ho27 hb hg_ hnew_; clear hg_ hnew_; (first | rw [← Ny337.out] at ho27 | (simp only [Int.reduceToNat] at ho27; rw [← Ny337.out] at ho27)); have n0_ := Aside0.mk (Kd.R_below (by (with_reducible repeat (first | apply Kd.R_alloc | apply Kd.R_drewN | apply Kd.R_drew)); exact HO326.out) hb); have n1_ := Aside0.mk (Kd.R_below (by (with_reducible repeat (first | apply Kd.R_alloc | apply Kd.R_drewN | apply Kd.R_drew)); exact HO330.out) hb); have n2_ := Aside0.mk (Kd.N_elder' (by (with_reducible repeat (first | apply Kd.N_alloc | apply Kd.N_drewN | apply Kd.N_drew)); exact HO333.out) (Kd.R_base ho27) hb); have n3_ := Aside0.mk (Kd.R_lower ho27 (below_size (by repeat (first | (with_reducible first | exact HB.out | apply below_alloc | apply pw_below_drewN | apply below_drew1 | refine below_set ?_ GE323.out) | exact HB.out)))); have n4_ := Aside0.mk (blk_below (g := gb323) (o := .cells #[.int .i64 t321, .int .i64 t322] 46 (0, 0)) (by (with_reducible repeat (first | refine blk_drewN ?_ _ | refine blk_drew ?_ | refine blk_alloc ?_ _)); exact BK323.out) hb); have n5_ := Aside0.mk (below_step (by repeat (first | (with_reducible first | exact HB.out | apply below_alloc | apply pw_below_drewN | apply below_drew1 | refine below_set ?_ GE323.out) | exact HB.out)) hb); clear HO326; clear HO330; clear HO333; clear BK323; clear HB; have HO326 := n0_; have HO330 := n1_; have HO333 := n2_; have HO339 := n3_; have BK323 := n4_; have HB := n5_; clear n0_ n1_ n2_ n3_ n4_ n5_; clear hb ho27; obtain ⟨Ao28, co28, eo28⟩ := Kd.R_slice HO339.out; subst eo28))
              go_loopg [43] kj7 (fun kq v43 w' => ∃ (x43_3 : Int), v43 = .int .i64 x43_3 ∧ Aside0 (casementlaw13_CheckOne.l0 kq (Go.bits .and .i64 a1 7) t334 t335 y337 (y337.length : Int) x43_3 t321 t322 = some r) ∧ Aside0 (kq ≤ kj7) ∧ Aside0 (Kd.R (Kd.int .i64) 3 w' w.heap.size (fun _ => True) (.slice Ao28 y337.length co28) y337) ∧ Aside0 (w'.heap[gb323]? = some (.cells #[.int .i64 t321, .int .i64 t322] 46 (0, 0))) ∧ Aside0 (Below w.heap.size w w'))
              case atStart => exact ⟨(0), (by first | rfl | (simp; done) | (simp [*]; done)), H', ⟨Nat.le_refl _⟩, ⟨by (with_reducible repeat (first | apply Kd.R_alloc | apply Kd.R_drewN | apply Kd.R_drew)); exact HO339.out⟩, ⟨by (with_reducible repeat (first | refine blk_drewN ?_ _ | refine blk_drew ?_ | refine blk_alloc ?_ _)); exact BK323.out⟩, ⟨by repeat (first | (with_reducible first | exact HB.out | apply below_alloc | apply pw_below_drewN | apply below_drew1 | refine below_set ?_ GE323.out) | exact HB.out)⟩⟩
              case round =>
                clear H'
                try clear c1
                try clear c2
                try clear p2
                try clear c4
                try clear c7
                try clear c7b0
                try clear c7b1
                try clear c8
                try clear c9
                try clear c13
                try clear c14
                try clear c15
                try clear c19
                try clear hcz16_0
                try clear hcz16_1
                try clear hfz16_0
                try clear hfz16_1
                try clear p2
                obtain ⟨x43_3, rfl, HA, HK3, HO_41, BK323, HB⟩ := hrel
                cases gk with
                | zero => exact absurd HA.out (by simp [casementlaw13_CheckOne.l0])
                | succ k3 =>
                  have H := HA.out
                  clear HA
                  simp only [casementlaw13_CheckOne.l0] at H
                  by_cases c29 : x43_3 < (y337.length : Int)
                  · rw [if_pos c29] at H
                    have c29b0 : decide (x43_3 < (y337.length : Int)) = true := decide_eq_true c29
                    clear c29
                    by_cases c30 : 0 ≤ x43_3
                    · rw [if_pos c30] at H
                      have c30b0 : decide (0 ≤ x43_3) = true := decide_eq_true c30
                      clear c30
                      by_cases c31 : x43_3 < (y337.length : Int)
                      · rw [if_pos c31] at H
                        have c31b0 : decide (x43_3 < (y337.length : Int)) = true := decide_eq_true c31
                        clear c31
                        obtain ⟨y341, hy341⟩ : ∃ y_ : List (S46), y_ = (([] : List (S46))) := ⟨_, rfl⟩
                        replace H : (casementlaw13_CheckOne.l1 k3 (Go.bits .and .i64 a1 7) t334 t335 (rd y337 x43_3) y341 0 y337 (y337.length : Int) x43_3 t321 t322) = some r := by first | (rw [hy341]; with_reducible exact H) | (have H2_ := (Option.bind_some _ _).symm.trans H; rw [hy341]; with_reducible exact H2_) | (have H2_ := (Option.bind_some _ _).symm.trans H; with_reducible exact H2_) | with_reducible exact H | (rw [hy341]; exact H) | exact H
                        have Ny341 := Aside0.mk hy341
                        clear hy341
                        have H' := Aside0.mk H
                        clear H
                        have p340 : 0 ≤ (x43_3 : Int) := of_decide_eq_true (by first | (with_reducible assumption) | assumption)
                        have q340 : x43_3 < (y337.length : Int) := of_decide_eq_true (by first | (with_reducible assumption) | assumption)
                        obtain ⟨ad340, e340, hx340_0⟩ := Kd.at_int (Kd.R_reads' HO_41.out).2.2 x43_3 p340 q340
                        cases e340
                        replace p340 := eq_true p340
                        replace q340 := eq_true q340
                        go_wp2_with (first | ((with_reducible refine gate_dst (N := 47) rfl ?_); refine Kd.R_lit k46 _ 46 ?hg (N := 47) ?hd (xs := ([] : List (S46))) (inner := []) (ok := fun _ => True) (okp := fun _ => True) ?hr ?hp (fun _ hk => hk) trivial (Below.refl _ _) (Nat.le_refl _) (by simp) ?_; (case hd => rfl); (case hg => rfl); (case hr => first | (go_simp; done) | (go_simp; rfl)); (case hp => exact (Reps.none _ _)); intro v342 w32 ho33 hb hg_ hnew_; clear hg_ hnew_; (first | rw [← Ny341.out] at ho33 | (simp only [Int.reduceToNat] at ho33; rw [← Ny341.out] at ho33)); have n0_ := Aside0.mk (Kd.R_below (by (with_reducible repeat (first | apply Kd.R_alloc | apply Kd.R_drewN | apply Kd.R_drew)); exact HO_41.out) hb); have n1_ := Aside0.mk (Kd.R_lower (Kd.R_newB ho33 (g := gb323) (o := .cells #[.int .i64 t321, .int .i64 t322] 46 (0, 0)) (by (with_reducible repeat (first | refine blk_drewN ?_ _ | refine blk_drew ?_ | refine blk_alloc ?_ _)); exact BK323.out)) (below_size (by repeat (first | (with_reducible first | exact HB.out | apply below_alloc | apply pw_below_drewN | apply below_drew1 | refine below_set ?_ GE323.out) | exact HB.out)))); have n2_ := Aside0.mk (blk_below (g := gb323) (o := .cells #[.int .i64 t321, .int .i64 t322] 46 (0, 0)) (by (with_reducible repeat (first | refine blk_drewN ?_ _ | refine blk_drew ?_ | refine blk_alloc ?_ _)); exact BK323.out) hb); have n3_ := Aside0.mk (below_step (by repeat (first | (with_reducible first | exact HB.out | apply below_alloc | apply pw_below_drewN | apply below_drew1 | refine below_set ?_ GE323.out) | exact HB.out)) hb); clear HO_41; clear BK323; clear HB; have HO_41 := n0_; have HO343 := n1_; have BK323 := n2_; have HB := n3_; clear n0_ n1_ n2_ n3_; clear hb ho33))
                        go_loopg [11, 12] k3 (fun kq v11 v12 w' => ∃ (x11_4 : List (S46)) (x12_4 : Int), v12 = .int .i64 x12_4 ∧ Aside0 (casementlaw13_CheckOne.l1 kq (Go.bits .and .i64 a1 7) t334 t335 (rd y337 x43_3) x11_4 x12_4 y337 (y337.length : Int) x43_3 t321 t322 = some r) ∧ Aside0 (kq ≤ k3) ∧ Aside0 (Kd.R k46 46 w' w.heap.size (fun k_ => k_ ≠ gb323) v11 x11_4) ∧ Aside0 (Kd.R (Kd.int .i64) 3 w' w.heap.size (fun _ => True) (.slice (some ad340) y337.length co28) y337) ∧ Aside0 (w'.heap[gb323]? = some (.cells #[.int .i64 t321, .int .i64 t322] 46 (0, 0))) ∧ Aside0 (Below w.heap.size w w'))
                        case atStart => exact ⟨(y341), (0), (by first | rfl | (simp; done) | (simp [*]; done)), H', ⟨Nat.le_refl _⟩, ⟨by (with_reducible repeat (first | apply Kd.R_alloc | apply Kd.R_drewN | apply Kd.R_drew)); exact Kd.R_mono HO343.out (fun _ hk => hk.2)⟩, ⟨by (with_reducible repeat (first | apply Kd.R_alloc | apply Kd.R_drewN | apply Kd.R_drew)); exact HO_41.out⟩, ⟨by (with_reducible repeat (first | refine blk_drewN ?_ _ | refine blk_drew ?_ | refine blk_alloc ?_ _)); exact BK323.out⟩, ⟨by repeat (first | (with_reducible first | exact HB.out | apply below_alloc | apply pw_below_drewN | apply below_drew1 | refine below_set ?_ GE323.out) | exact HB.out)⟩⟩
                        case round =>
                          clear H'
                          try clear c1
                          try clear c2
                          try clear p2
                          try clear c3
                          try clear p3
                          try clear q3
                          try clear hx3
                          try clear c4
                          try clear c7
                          try clear c7b0
                          try clear c7b1
                          try clear c8
                          try clear c9
                          try clear c13
                          try clear c14
                          try clear c15
                          try clear c19
                          try clear c29
                          try clear c29b0
                          try clear c30
                          try clear c30b0
                          try clear c31
                          try clear c31b0
                          try clear hcz16_0
                          try clear hcz16_1
                          try clear hfz16_0
                          try clear hfz16_1
                          try clear hx340_0
                          try clear p2
                          try clear p340
                          try clear q340
                          obtain ⟨x11_4, x12_4, rfl, HA, HK4, HO_11, HO_41, BK323, HB⟩ := hrel
                          cases gk with
                          | zero => exact absurd HA.out (by simp [casementlaw13_CheckOne.l1])
                          | succ k4 =>
                            have H := HA.out
                            clear HA
                            simp only [casementlaw13_CheckOne.l1] at H
                            by_cases c34 : x12_4 < (Go.bits .and .i64 a1 7)
                            · rw [if_pos c34] at H
                              have c34b0 : decide (x12_4 < (Go.bits .and .i64 a1 7)) = true := decide_eq_true c34
                              clear c34
                              replace H := Option.bind_eq_some_iff.mp H
                              obtain ⟨⟨t344, t345⟩, A350, H⟩ := H
                              replace H : (if x11_4.length < 8796093022208 then (casementlaw13_CheckOne.l1 k4 (Go.bits .and .i64 a1 7) t334 t335 (rd y337 x43_3) (x11_4 ++ [(⟨t344, t345⟩ : S46)]) (wrap64 (x12_4 + 1)) y337 (y337.length : Int) x43_3 t321 t322) else (none)) = some r := H
                              have A35 := Aside0.mk A350
                              clear A350
                              by_cases c36 : x11_4.length < 8796093022208
                              · rw [if_pos c36] at H
                                have LMc36 := Aside0.mk c36
                                clear c36
                                obtain ⟨y346, hy346⟩ : ∃ y_ : List (S46), y_ = (x11_4 ++ [(⟨t344, t345⟩ : S46)]) := ⟨_, rfl⟩
                                replace H : (casementlaw13_CheckOne.l1 k4 (Go.bits .and .i64 a1 7) t334 t335 (rd y337 x43_3) y346 (wrap64 (x12_4 + 1)) y337 (y337.length : Int) x43_3 t321 t322) = some r := by first | (rw [hy346]; with_reducible exact H) | (have H2_ := (Option.bind_some _ _).symm.trans H; rw [hy346]; with_reducible exact H2_) | (have H2_ := (Option.bind_some _ _).symm.trans H; with_reducible exact H2_) | with_reducible exact H | (rw [hy346]; exact H) | exact H
                                have Ny346 := Aside0.mk hy346
                                clear hy346
                                have H' := Aside0.mk H
                                clear H
                                go_wp2_with (first | ((with_reducible refine gate_callee (f := 15) rfl ?_); refine goesL_ (some 55) rfl rfl Try.func15 (by kernel_rfl) rfl #[.int .i64 1, .int .i64 x12_4] rfl (by (try simp only [List.map_toArray, List.map_cons, List.map_nil]); first | done | rfl | (simp only [List.length_drop, List.length_take]; rfl)) ?_; (with_reducible refine (casementlaw13_ins.calls 1 x12_4 t344 t345 _ A35.out).mono ?_); rintro e w37 ⟨rfl, hb⟩; refine ⟨_, rfl, ?_⟩; have n0_ := Aside0.mk (Kd.R_below (by (with_reducible repeat (first | apply Kd.R_alloc | apply Kd.R_drewN | apply Kd.R_drew)); exact HO_11.out) hb); have n1_ := Aside0.mk (Kd.R_below (by (with_reducible repeat (first | apply Kd.R_alloc | apply Kd.R_drewN | apply Kd.R_drew)); exact HO_41.out) hb); have n2_ := Aside0.mk (blk_below (g := gb323) (o := .cells #[.int .i64 t321, .int .i64 t322] 46 (0, 0)) (by (with_reducible repeat (first | refine blk_drewN ?_ _ | refine blk_drew ?_ | refine blk_alloc ?_ _)); exact BK323.out) hb); have n3_ := Aside0.mk (below_step (by repeat (first | (with_reducible first | exact HB.out | apply below_alloc | apply pw_below_drewN | apply below_drew1 | refine below_set ?_ GE323.out) | exact HB.out)) hb); clear HO_11; clear HO_41; clear BK323; clear HB; have HO_11 := n0_; have HO_41 := n1_; have BK323 := n2_; have HB := n3_; clear n0_ n1_ n2_ n3_; (try clear hb); (try clear hb2); (try clear hk); (try clear hi)) | ((with_reducible refine gate_builtin (b := .append) (xs := #[.tmp 53, .tmp 56]) rfl ?_); at_builtin; refine Kd.R_append k46 (w0 := w) w.heap.size rfl (.tmp 53) (.tmp 56) 40 46 (.agg #[(.int .i64 0), (.int .i64 0)]) 16 rfl Try.underlying40 info46 rfl (by decide) (by omega) u11 x11_4 (⟨t344, t345⟩ : S46) [.int .i64 t344, .int .i64 t345] (fun k_ => k_ ≠ gb323) (fun _ => False) rfl rfl ?aP (fun _ hk => hk.elim) ?aF ?aO ?aB ?aS ?aL ?_; (case aP => exact k46_mkM _ _ _ (⟨t344, t345⟩ : S46)); (case aB => exact (by repeat (first | (with_reducible first | exact HB.out | apply below_alloc | apply pw_below_drewN | apply below_drew1 | refine below_set ?_ GE323.out) | exact HB.out))); (case aF => exact (fun k_ hk => Kd.freshB (g := gb323) (o := .cells #[.int .i64 t321, .int .i64 t322] 46 (0, 0)) (by (with_reducible repeat (first | refine blk_drewN ?_ _ | refine blk_drew ?_ | refine blk_alloc ?_ _)); exact BK323.out) k_ hk)); (case aO => exact (by (with_reducible repeat (first | apply Kd.R_alloc | apply Kd.R_drewN | apply Kd.R_drew)); exact HO_11.out)); (case aS => exact (below_size (by repeat (first | (with_reducible first | exact HB.out | apply below_alloc | apply pw_below_drewN | apply below_drew1 | refine below_set ?_ GE323.out) | exact HB.out)))); (case aL => have := LMc36.out; omega); intro v347 w38 ho hb hg hat; rw [← Ny346.out] at ho; have n0_ := Aside0.mk (Kd.R_over' (by (with_reducible repeat (first | apply Kd.R_alloc | apply Kd.R_drewN | apply Kd.R_drew)); exact HO_41.out) (Kd.R_typed (by (with_reducible repeat (first | apply Kd.R_alloc | apply Kd.R_drewN | apply Kd.R_drew)); exact HO_11.out)) (by decide) hg); have n1_ := Aside0.mk (blk_grown (g := gb323) (o := .cells #[.int .i64 t321, .int .i64 t322] 46 (0, 0)) (by (with_reducible repeat (first | refine blk_drewN ?_ _ | refine blk_drew ?_ | refine blk_alloc ?_ _)); exact BK323.out) hg (Kd.R_away HO_11.out (fun _ hk => hk))); have n2_ := Aside0.mk (hb); have n3_ := Aside0.mk (ho); clear HO_41; clear BK323; clear HB; clear HO_11; have HO_41 := n0_; have BK323 := n1_; have HB := n2_; have HO348 := n3_; clear n0_ n1_ n2_ n3_; clear ho hb hg hat))
                                go_roundg k4
                                case measure => have := HJ4.out; have := HJ7.out; have := HK3.out; have := HK4.out; omega
                                case rel => exact ⟨(y346), (wrap64 (x12_4 + 1)), (by first | rfl | (simp; done) | (simp [*]; done)), H', ⟨by have := HJ4.out; have := HJ7.out; have := HK3.out; have := HK4.out; omega⟩, ⟨by (with_reducible repeat (first | apply Kd.R_alloc | apply Kd.R_drewN | apply Kd.R_drew)); exact HO348.out⟩, ⟨by (with_reducible repeat (first | apply Kd.R_alloc | apply Kd.R_drewN | apply Kd.R_drew)); exact HO_41.out⟩, ⟨by (with_reducible repeat (first | refine blk_drewN ?_ _ | refine blk_drew ?_ | refine blk_alloc ?_ _)); exact BK323.out⟩, ⟨by repeat (first | (with_reducible first | exact HB.out | apply below_alloc | apply pw_below_drewN | apply below_drew1 | refine below_set ?_ GE323.out) | exact HB.out)⟩⟩
                              · rw [if_neg c36] at H
                                exact absurd H (by simp)
                            · rw [if_neg c34] at H
                              have c34b0 : decide (x12_4 < (Go.bits .and .i64 a1 7)) = false := decide_eq_false c34
                              clear c34
                              by_cases c39 : x11_4.length < 8796093022208
                              · rw [if_pos c39] at H
                                have LMc39 := Aside0.mk c39
                                clear c39
                                obtain ⟨y349, hy349⟩ : ∃ y_ : List (S46), y_ = (x11_4 ++ [(⟨t321, t322⟩ : S46)]) := ⟨_, rfl⟩
                                replace H : (casementlaw13_CheckOne.l2 k4 (Go.bits .and .i64 a1 7) t334 t335 (rd y337 x43_3) y349 0 y337 (y337.length : Int) x43_3 t321 t322) = some r := by first | (rw [hy349]; with_reducible exact H) | (have H2_ := (Option.bind_some _ _).symm.trans H; rw [hy349]; with_reducible exact H2_) | (have H2_ := (Option.bind_some _ _).symm.trans H; with_reducible exact H2_) | with_reducible exact H | (rw [hy349]; exact H) | exact H
                                have Ny349 := Aside0.mk hy349
                                clear hy349
                                have H' := Aside0.mk H
                                clear H
                                have hcz40_0 : wr.cell? ⟨gb323, 0, none⟩ = some (.int .i64 t321) := (blk_cell BK323.out 0).trans rfl
                                have hcz40_1 : wr.cell? ⟨gb323, 1, none⟩ = some (.int .i64 t322) := (blk_cell BK323.out 1).trans rfl
                                have hfz40_0 := blk_frozen BK323.out 0
                                have hfz40_1 := blk_frozen BK323.out 1
                                go_wp2_with (first | ((with_reducible refine gate_builtin (b := .append) (xs := #[.tmp 58, .tmp 60]) rfl ?_); at_builtin; refine Kd.R_append k46 (w0 := w) w.heap.size rfl (.tmp 58) (.tmp 60) 40 46 (.agg #[(.int .i64 0), (.int .i64 0)]) 16 rfl Try.underlying40 info46 rfl (by decide) (by omega) u11 x11_4 (⟨t321, t322⟩ : S46) [.int .i64 t321, .int .i64 t322] (fun k_ => k_ ≠ gb323) (fun _ => False) rfl rfl ?aP (fun _ hk => hk.elim) ?aF ?aO ?aB ?aS ?aL ?_; (case aP => exact k46_mkM _ _ _ (⟨t321, t322⟩ : S46)); (case aB => exact (by repeat (first | (with_reducible first | exact HB.out | apply below_alloc | apply pw_below_drewN | apply below_drew1 | refine below_set ?_ GE323.out) | exact HB.out))); (case aF => exact (fun k_ hk => Kd.freshB (g := gb323) (o := .cells #[.int .i64 t321, .int .i64 t322] 46 (0, 0)) (by (with_reducible repeat (first | refine blk_drewN ?_ _ | refine blk_drew ?_ | refine blk_alloc ?_ _)); exact BK323.out) k_ hk)); (case aO => exact (by (with_reducible repeat (first | apply Kd.R_alloc | apply Kd.R_drewN | apply Kd.R_drew)); exact HO_11.out)); (case aS => exact (below_size (by repeat (first | (with_reducible first | exact HB.out | apply below_alloc | apply pw_below_drewN | apply below_drew1 | refine below_set ?_ GE323.out) | exact HB.out)))); (case aL => have := LMc39.out; omega); intro v350 w41 ho hb hg hat; rw [← Ny349.out] at ho; have n0_ := Aside0.mk (Kd.R_over' (by (with_reducible repeat (first | apply Kd.R_alloc | apply Kd.R_drewN | apply Kd.R_drew)); exact HO_41.out) (Kd.R_typed (by (with_reducible repeat (first | apply Kd.R_alloc | apply Kd.R_drewN | apply Kd.R_drew)); exact HO_11.out)) (by decide) hg); have n1_ := Aside0.mk (blk_grown (g := gb323) (o := .cells #[.int .i64 t321, .int .i64 t322] 46 (0, 0)) (by (with_reducible repeat (first | refine blk_drewN ?_ _ | refine blk_drew ?_ | refine blk_alloc ?_ _)); exact BK323.out) hg (Kd.R_away HO_11.out (fun _ hk => hk))); have n2_ := Aside0.mk (hb); have n3_ := Aside0.mk (ho); clear HO_41; clear BK323; clear HB; clear HO_11; have HO_41 := n0_; have BK323 := n1_; have HB := n2_; have HO351 := n3_; clear n0_ n1_ n2_ n3_; clear ho hb hg hat))
                                go_loopg [11, 13] k4 (fun kq v11 v13 w' => ∃ (x11_5 : List (S46)) (x13_5 : Int), v13 = .int .i64 x13_5 ∧ Aside0 (casementlaw13_CheckOne.l2 kq (Go.bits .and .i64 a1 7) t334 t335 (rd y337 x43_3) x11_5 x13_5 y337 (y337.length : Int) x43_3 t321 t322 = some r) ∧ Aside0 (kq ≤ k4) ∧ Aside0 (Kd.R k46 46 w' w.heap.size (fun k_ => k_ ≠ gb323) v11 x11_5) ∧ Aside0 (Kd.R (Kd.int .i64) 3 w' w.heap.size (fun _ => True) (.slice (some ad340) y337.length co28) y337) ∧ Aside0 (w'.heap[gb323]? = some (.cells #[.int .i64 t321, .int .i64 t322] 46 (0, 0))) ∧ Aside0 (Below w.heap.size w w'))
                                case atStart => exact ⟨(y349), (0), (by first | rfl | (simp; done) | (simp [*]; done)), H', ⟨Nat.le_refl _⟩, ⟨by (with_reducible repeat (first | apply Kd.R_alloc | apply Kd.R_drewN | apply Kd.R_drew)); exact HO351.out⟩, ⟨by (with_reducible repeat (first | apply Kd.R_alloc | apply Kd.R_drewN | apply Kd.R_drew)); exact HO_41.out⟩, ⟨by (with_reducible repeat (first | refine blk_drewN ?_ _ | refine blk_drew ?_ | refine blk_alloc ?_ _)); exact BK323.out⟩, ⟨by repeat (first | (with_reducible first | exact HB.out | apply below_alloc | apply pw_below_drewN | apply below_drew1 | refine below_set ?_ GE323.out) | exact HB.out)⟩⟩
                                case round =>
                                  clear H'
                                  try clear c1
                                  try clear c2
                                  try clear p2
                                  try clear c3
                                  try clear p3
                                  try clear q3
                                  try clear hx3
                                  try clear c4
                                  try clear p6
                                  try clear c7
                                  try clear c7b0
                                  try clear c7b1
                                  try clear c8
                                  try clear c9
                                  try clear c13
                                  try clear c14
                                  try clear c15
                                  try clear c19
                                  try clear c29
                                  try clear c29b0
                                  try clear c30
                                  try clear c30b0
                                  try clear c31
                                  try clear c31b0
                                  try clear c34
                                  try clear c34b0
                                  try clear p34
                                  try clear q34
                                  try clear hx34
                                  try clear c36
                                  try clear c39
                                  try clear hcz16_0
                                  try clear hcz16_1
                                  try clear hcz40_0
                                  try clear hcz40_1
                                  try clear hfz16_0
                                  try clear hfz16_1
                                  try clear hfz40_0
                                  try clear hfz40_1
                                  try clear hx340_0
                                  try clear p2
                                  try clear p3
                                  try clear p340
                                  try clear q3
                                  try clear q340
                                  obtain ⟨x11_5, x13_5, rfl, HA, HK5, HO_11, HO_41, BK323, HB⟩ := hrel
                                  cases gk with
                                  | zero => exact absurd HA.out (by simp [casementlaw13_CheckOne.l2])
                                  | succ k5 =>
                                    have H := HA.out
                                    clear HA
                                    simp only [casementlaw13_CheckOne.l2] at H
                                    by_cases c42 : x13_5 < (wrap64 ((wrap64 ((wrap64 ((Go.bits .and .i64 a1 7) - t334)) + t335)) + (rd y337 x43_3)))
                                    · rw [if_pos c42] at H
                                      have c42b0 : decide (x13_5 < (wrap64 ((wrap64 ((wrap64 ((Go.bits .and .i64 a1 7) - t334)) + t335)) + (rd y337 x43_3)))) = true := decide_eq_true c42
                                      clear c42
                                      replace H := Option.bind_eq_some_iff.mp H
                                      obtain ⟨⟨t352, t353⟩, A430, H⟩ := H
                                      replace H : (if x11_5.length < 8796093022208 then (casementlaw13_CheckOne.l2 k5 (Go.bits .and .i64 a1 7) t334 t335 (rd y337 x43_3) (x11_5 ++ [(⟨t352, t353⟩ : S46)]) (wrap64 (x13_5 + 1)) y337 (y337.length : Int) x43_3 t321 t322) else (none)) = some r := H
                                      have A43 := Aside0.mk A430
                                      clear A430
                                      by_cases c44 : x11_5.length < 8796093022208
                                      · rw [if_pos c44] at H
                                        have LMc44 := Aside0.mk c44
                                        clear c44
                                        obtain ⟨y354, hy354⟩ : ∃ y_ : List (S46), y_ = (x11_5 ++ [(⟨t352, t353⟩ : S46)]) := ⟨_, rfl⟩
                                        replace H : (casementlaw13_CheckOne.l2 k5 (Go.bits .and .i64 a1 7) t334 t335 (rd y337 x43_3) y354 (wrap64 (x13_5 + 1)) y337 (y337.length : Int) x43_3 t321 t322) = some r := by first | (rw [hy354]; with_reducible exact H) | (have H2_ := (Option.bind_some _ _).symm.trans H; rw [hy354]; with_reducible exact H2_) | (have H2_ := (Option.bind_some _ _).symm.trans H; with_reducible exact H2_) | with_reducible exact H | (rw [hy354]; exact H) | exact H
                                        have Ny354 := Aside0.mk hy354
                                        clear hy354
                                        have H' := Aside0.mk H
                                        clear H
                                        go_wp2_with (first | ((with_reducible refine gate_callee (f := 15) rfl ?_); refine goesL_ (some 74) rfl rfl Try.func15 (by kernel_rfl) rfl #[.int .i64 2, .int .i64 0] rfl (by (try simp only [List.map_toArray, List.map_cons, List.map_nil]); first | done | rfl | (simp only [List.length_drop, List.length_take]; rfl)) ?_; (with_reducible refine (casementlaw13_ins.calls 2 0 t352 t353 _ A43.out).mono ?_); rintro e w45 ⟨rfl, hb⟩; refine ⟨_, rfl, ?_⟩; have n0_ := Aside0.mk (Kd.R_below (by (with_reducible repeat (first | apply Kd.R_alloc | apply Kd.R_drewN | apply Kd.R_drew)); exact HO_11.out) hb); have n1_ := Aside0.mk (Kd.R_below (by (with_reducible repeat (first | apply Kd.R_alloc | apply Kd.R_drewN | apply Kd.R_drew)); exact HO_41.out) hb); have n2_ := Aside0.mk (blk_below (g := gb323) (o := .cells #[.int .i64 t321, .int .i64 t322] 46 (0, 0)) (by (with_reducible repeat (first | refine blk_drewN ?_ _ | refine blk_drew ?_ | refine blk_alloc ?_ _)); exact BK323.out) hb); have n3_ := Aside0.mk (below_step (by repeat (first | (with_reducible first | exact HB.out | apply below_alloc | apply pw_below_drewN | apply below_drew1 | refine below_set ?_ GE323.out) | exact HB.out)) hb); clear HO_11; clear HO_41; clear BK323; clear HB; have HO_11 := n0_; have HO_41 := n1_; have BK323 := n2_; have HB := n3_; clear n0_ n1_ n2_ n3_; (try clear hb); (try clear hb2); (try clear hk); (try clear hi)) | ((with_reducible refine gate_builtin (b := .append) (xs := #[.tmp 73, .tmp 75]) rfl ?_); at_builtin; refine Kd.R_append k46 (w0 := w) w.heap.size rfl (.tmp 73) (.tmp 75) 40 46 (.agg #[(.int .i64 0), (.int .i64 0)]) 16 rfl Try.underlying40 info46 rfl (by decide) (by omega) u11 x11_5 (⟨t352, t353⟩ : S46) [.int .i64 t352, .int .i64 t353] (fun k_ => k_ ≠ gb323) (fun _ => False) rfl rfl ?aP (fun _ hk => hk.elim) ?aF ?aO ?aB ?aS ?aL ?_; (case aP => exact k46_mkM _ _ _ (⟨t352, t353⟩ : S46)); (case aB => exact (by repeat (first | (with_reducible first | exact HB.out | apply below_alloc | apply pw_below_drewN | apply below_drew1 | refine below_set ?_ GE323.out) | exact HB.out))); (case aF => exact (fun k_ hk => Kd.freshB (g := gb323) (o := .cells #[.int .i64 t321, .int .i64 t322] 46 (0, 0)) (by (with_reducible repeat (first | refine blk_drewN ?_ _ | refine blk_drew ?_ | refine blk_alloc ?_ _)); exact BK323.out) k_ hk)); (case aO => exact (by (with_reducible repeat (first | apply Kd.R_alloc | apply Kd.R_drewN | apply Kd.R_drew)); exact HO_11.out)); (case aS => exact (below_size (by repeat (first | (with_reducible first | exact HB.out | apply below_alloc | apply pw_below_drewN | apply below_drew1 | refine below_set ?_ GE323.out) | exact HB.out)))); (case aL => have := LMc44.out; omega); intro v355 w46 ho hb hg hat; rw [← Ny354.out] at ho; have n0_ := Aside0.mk (Kd.R_over' (by (with_reducible repeat (first | apply Kd.R_alloc | apply Kd.R_drewN | apply Kd.R_drew)); exact HO_41.out) (Kd.R_typed (by (with_reducible repeat (first | apply Kd.R_alloc | apply Kd.R_drewN | apply Kd.R_drew)); exact HO_11.out)) (by decide) hg); have n1_ := Aside0.mk (blk_grown (g := gb323) (o := .cells #[.int .i64 t321, .int .i64 t322] 46 (0, 0)) (by (with_reducible repeat (first | refine blk_drewN ?_ _ | refine blk_drew ?_ | refine blk_alloc ?_ _)); exact BK323.out) hg (Kd.R_away HO_11.out (fun _ hk => hk))); have n2_ := Aside0.mk (hb); have n3_ := Aside0.mk (ho); clear HO_41; clear BK323; clear HB; clear HO_11; have HO_41 := n0_; have BK323 := n1_; have HB := n2_; have HO356 := n3_; clear n0_ n1_ n2_ n3_; clear ho hb hg hat))
                                        go_roundg k5
                                        case measure => have := HJ4.out; have := HJ7.out; have := HK3.out; have := HK4.out; have := HK5.out; omega
                                        case rel => exact ⟨(y354), (wrap64 (x13_5 + 1)), (by first | rfl | (simp; done) | (simp [*]; done)), H', ⟨by have := HJ4.out; have := HJ7.out; have := HK3.out; have := HK4.out; have := HK5.out; omega⟩, ⟨by (with_reducible repeat (first | apply Kd.R_alloc | apply Kd.R_drewN | apply Kd.R_drew)); exact HO356.out⟩, ⟨by (with_reducible repeat (first | apply Kd.R_alloc | apply Kd.R_drewN | apply Kd.R_drew)); exact HO_41.out⟩, ⟨by (with_reducible repeat (first | refine blk_drewN ?_ _ | refine blk_drew ?_ | refine blk_alloc ?_ _)); exact BK323.out⟩, ⟨by repeat (first | (with_reducible first | exact HB.out | apply below_alloc | apply pw_below_drewN | apply below_drew1 | refine below_set ?_ GE323.out) | exact HB.out)⟩⟩
                                      · rw [if_neg c44] at H
                                        exact absurd H (by simp)
                                    · rw [if_neg c42] at H
                                      have c42b0 : decide (x13_5 < (wrap64 ((wrap64 ((wrap64 ((Go.bits .and .i64 a1 7) - t334)) + t335)) + (rd y337 x43_3)))) = false := decide_eq_false c42
                                      clear c42
                                      replace H := Option.bind_eq_some_iff.mp H
                                      obtain ⟨⟨t357, t358⟩, A470, H⟩ := H
                                      replace H : (if x11_5.length < 8796093022208 then ((casementlaw13_mod.f (x11_5 ++ [(⟨t357, t358⟩ : S46)])).bind fun bt362 => ((check_Check.f k5 bt362.1 bt362.2.1 bt362.2.2).bind fun bt369 => (if (Go.bits .and .i64 a1 7) ≥ t334 then (casementlaw13_CheckOne.j5 k5 (Go.bits .and .i64 a1 7) t334 t335 y337 (y337.length : Int) x43_3 ((bt369.1 == 0 && (bt369.2.1 == 0 && (bt369.2.2 == 0))) != ((rd y337 x43_3) == 0)) t321 t322 bt369.1 bt369.2.1 bt369.2.2) else (casementlaw13_CheckOne.j5 k5 (Go.bits .and .i64 a1 7) t334 t335 y337 (y337.length : Int) x43_3 ((bt369.1 == 0 && (bt369.2.1 == 0 && (bt369.2.2 == 0))) != false) t321 t322 bt369.1 bt369.2.1 bt369.2.2)))) else (none)) = some r := H
                                      have A47 := Aside0.mk A470
                                      clear A470
                                      by_cases c48 : x11_5.length < 8796093022208
                                      · rw [if_pos c48] at H
                                        have LMc48 := Aside0.mk c48
                                        clear c48
                                        obtain ⟨y359, hy359⟩ : ∃ y_ : List (S46), y_ = (x11_5 ++ [(⟨t357, t358⟩ : S46)]) := ⟨_, rfl⟩
                                        replace H : ((casementlaw13_mod.f y359).bind fun bt362 => ((check_Check.f k5 bt362.1 bt362.2.1 bt362.2.2).bind fun bt369 => (if (Go.bits .and .i64 a1 7) ≥ t334 then (casementlaw13_CheckOne.j5 k5 (Go.bits .and .i64 a1 7) t334 t335 y337 (y337.length : Int) x43_3 ((bt369.1 == 0 && (bt369.2.1 == 0 && (bt369.2.2 == 0))) != ((rd y337 x43_3) == 0)) t321 t322 bt369.1 bt369.2.1 bt369.2.2) else (casementlaw13_CheckOne.j5 k5 (Go.bits .and .i64 a1 7) t334 t335 y337 (y337.length : Int) x43_3 ((bt369.1 == 0 && (bt369.2.1 == 0 && (bt369.2.2 == 0))) != false) t321 t322 bt369.1 bt369.2.1 bt369.2.2)))) = some r := by first | (rw [hy359]; with_reducible exact H) | (have H2_ := (Option.bind_some _ _).symm.trans H; rw [hy359]; with_reducible exact H2_) | (have H2_ := (Option.bind_some _ _).symm.trans H; with_reducible exact H2_) | with_reducible exact H | (rw [hy359]; exact H) | exact H
                                        have Ny359 := Aside0.mk hy359
                                        clear hy359
                                        replace H := Option.bind_eq_some_iff.mp H
                                        obtain ⟨⟨t362, t363, t366⟩, A490, H⟩ := H
                                        replace H : ((check_Check.f k5 t362 t363 t366).bind fun bt369 => (if (Go.bits .and .i64 a1 7) ≥ t334 then (casementlaw13_CheckOne.j5 k5 (Go.bits .and .i64 a1 7) t334 t335 y337 (y337.length : Int) x43_3 ((bt369.1 == 0 && (bt369.2.1 == 0 && (bt369.2.2 == 0))) != ((rd y337 x43_3) == 0)) t321 t322 bt369.1 bt369.2.1 bt369.2.2) else (casementlaw13_CheckOne.j5 k5 (Go.bits .and .i64 a1 7) t334 t335 y337 (y337.length : Int) x43_3 ((bt369.1 == 0 && (bt369.2.1 == 0 && (bt369.2.2 == 0))) != false) t321 t322 bt369.1 bt369.2.1 bt369.2.2))) = some r := H
                                        have A49 := Aside0.mk A490
                                        clear A490
                                        replace H := Option.bind_eq_some_iff.mp H
                                        obtain ⟨⟨t369, t370, t371⟩, A500, H⟩ := H
                                        replace H : (if (Go.bits .and .i64 a1 7) ≥ t334 then (casementlaw13_CheckOne.j5 k5 (Go.bits .and .i64 a1 7) t334 t335 y337 (y337.length : Int) x43_3 ((t369 == 0 && (t370 == 0 && (t371 == 0))) != ((rd y337 x43_3) == 0)) t321 t322 t369 t370 t371) else (casementlaw13_CheckOne.j5 k5 (Go.bits .and .i64 a1 7) t334 t335 y337 (y337.length : Int) x43_3 ((t369 == 0 && (t370 == 0 && (t371 == 0))) != false) t321 t322 t369 t370 t371)) = some r := H
                                        have A50 := Aside0.mk A500
                                        clear A500
                                        have HC51 := Aside0.mk H
                                        clear H
                                        go_upto_region 26 with (first | ((with_reducible refine gate_callee (f := 15) rfl ?_); refine goesL_ (some 78) rfl rfl Try.func15 (by kernel_rfl) rfl #[.int .i64 27, .int .i64 0] rfl (by (try simp only [List.map_toArray, List.map_cons, List.map_nil]); first | done | rfl | (simp only [List.length_drop, List.length_take]; rfl)) ?_; (with_reducible refine (casementlaw13_ins.calls 27 0 t357 t358 _ A47.out).mono ?_); rintro e w52 ⟨rfl, hb⟩; refine ⟨_, rfl, ?_⟩; have n0_ := Aside0.mk (Kd.R_below (by (with_reducible repeat (first | apply Kd.R_alloc | apply Kd.R_drewN | apply Kd.R_drew)); exact HO_11.out) hb); have n1_ := Aside0.mk (Kd.R_below (by (with_reducible repeat (first | apply Kd.R_alloc | apply Kd.R_drewN | apply Kd.R_drew)); exact HO_41.out) hb); have n2_ := Aside0.mk (blk_below (g := gb323) (o := .cells #[.int .i64 t321, .int .i64 t322] 46 (0, 0)) (by (with_reducible repeat (first | refine blk_drewN ?_ _ | refine blk_drew ?_ | refine blk_alloc ?_ _)); exact BK323.out) hb); have n3_ := Aside0.mk (below_step (by repeat (first | (with_reducible first | exact HB.out | apply below_alloc | apply pw_below_drewN | apply below_drew1 | refine below_set ?_ GE323.out) | exact HB.out)) hb); clear HO_11; clear HO_41; clear BK323; clear HB; have HO_11 := n0_; have HO_41 := n1_; have BK323 := n2_; have HB := n3_; clear n0_ n1_ n2_ n3_; (try clear hb); (try clear hb2); (try clear hk); (try clear hi)) | ((with_reducible refine gate_builtin (b := .append) (xs := #[.tmp 77, .tmp 79]) rfl ?_); at_builtin; refine Kd.R_append k46 (w0 := w) w.heap.size rfl (.tmp 77) (.tmp 79) 40 46 (.agg #[(.int .i64 0), (.int .i64 0)]) 16 rfl Try.underlying40 info46 rfl (by decide) (by omega) u11 x11_5 (⟨t357, t358⟩ : S46) [.int .i64 t357, .int .i64 t358] (fun k_ => k_ ≠ gb323) (fun _ => False) rfl rfl ?aP (fun _ hk => hk.elim) ?aF ?aO ?aB ?aS ?aL ?_; (case aP => exact k46_mkM _ _ _ (⟨t357, t358⟩ : S46)); (case aB => exact (by repeat (first | (with_reducible first | exact HB.out | apply below_alloc | apply pw_below_drewN | apply below_drew1 | refine below_set ?_ GE323.out) | exact HB.out))); (case aF => exact (fun k_ hk => Kd.freshB (g := gb323) (o := .cells #[.int .i64 t321, .int .i64 t322] 46 (0, 0)) (by (with_reducible repeat (first | refine blk_drewN ?_ _ | refine blk_drew ?_ | refine blk_alloc ?_ _)); exact BK323.out) k_ hk)); (case aO => exact (by (with_reducible repeat (first | apply Kd.R_alloc | apply Kd.R_drewN | apply Kd.R_drew)); exact HO_11.out)); (case aS => exact (below_size (by repeat (first | (with_reducible first | exact HB.out | apply below_alloc | apply pw_below_drewN | apply below_drew1 | refine below_set ?_ GE323.out) | exact HB.out)))); (case aL => have := LMc48.out; omega); intro v360 w53 ho hb hg hat; rw [← Ny359.out] at ho; have n0_ := Aside0.mk (Kd.R_over' (by (with_reducible repeat (first | apply Kd.R_alloc | apply Kd.R_drewN | apply Kd.R_drew)); exact HO_41.out) (Kd.R_typed (by (with_reducible repeat (first | apply Kd.R_alloc | apply Kd.R_drewN | apply Kd.R_drew)); exact HO_11.out)) (by decide) hg); have n1_ := Aside0.mk (blk_grown (g := gb323) (o := .cells #[.int .i64 t321, .int .i64 t322] 46 (0, 0)) (by (with_reducible repeat (first | refine blk_drewN ?_ _ | refine blk_drew ?_ | refine blk_alloc ?_ _)); exact BK323.out) hg (Kd.R_away HO_11.out (fun _ hk => hk))); have n2_ := Aside0.mk (hb); have n3_ := Aside0.mk (ho); clear HO_41; clear BK323; clear HB; clear HO_11; have HO_41 := n0_; have BK323 := n1_; have HB := n2_; have HO361 := n3_; clear n0_ n1_ n2_ n3_; clear ho hb hg hat; obtain ⟨Ao54, co54, eo54⟩ := Kd.R_slice HO361.out; subst eo54) | ((with_reducible refine gate_callee (f := 19) rfl ?_); refine goesL_ (some 82) rfl rfl Try.func19 (by kernel_rfl) rfl #[.slice Ao54 y359.length co54] rfl (by (try simp only [List.map_toArray, List.map_cons, List.map_nil]); first | done | rfl | (simp only [List.length_drop, List.length_take]; rfl)) ?_; (with_reducible refine (casementlaw13_mod.calls (fun k_ => some k_ = (.slice Ao54 y359.length co54 : Value).ownBlock) _ _ y359 t362 t363 t366 _ ?side1 A49.out).mono ?_); (case side1 => exact Kd.R_V (Kd.R_tight rfl (Kd.R_apart' (HO361.out) (Kd.R_typed HO_41.out) (by decide)))); rintro e w55 ⟨v364, v367, rfl, ho0, ho1, hb⟩; refine ⟨_, rfl, ?_⟩; have n0_ := Aside0.mk (Kd.R_below (by (with_reducible repeat (first | apply Kd.R_alloc | apply Kd.R_drewN | apply Kd.R_drew)); exact HO_41.out) hb); have n1_ := Aside0.mk (Kd.R_below (by (with_reducible repeat (first | apply Kd.R_alloc | apply Kd.R_drewN | apply Kd.R_drew)); exact HO361.out) hb); have n2_ := Aside0.mk (Kd.R_lower (Kd.R_mono (ok' := fun k_ => True) ho0 (fun _ hk_ => trivial)) (below_size (by repeat (first | (with_reducible first | exact HB.out | apply below_alloc | apply pw_below_drewN | apply below_drew1 | refine below_set ?_ GE323.out) | exact HB.out)))); have n3_ := Aside0.mk (Kd.N_lower (Kd.N_mono (ok' := fun k_ => some k_ ≠ (v364 : Value).ownBlock ∧ some k_ ≠ (.slice (some ad340) y337.length co28 : Value).ownBlock ∧ k_ ≠ gb323) ho1 (fun k_ hk_ => ⟨hk_.2, Or.elim hk_.1 (fun hs_ => ((Kd.R_apart' (HO361.out) (Kd.R_typed HO_41.out) (by decide)).1 k_ hs_.symm).2) (fun hn_ => (Kd.fresh' (Kd.R_lt (by (with_reducible repeat (first | apply Kd.R_alloc | apply Kd.R_drewN | apply Kd.R_drew)); exact HO_41.out)) k_ hn_)), Or.elim hk_.1 (fun hs_ => ((Kd.R_apart' (HO361.out) (Kd.R_typed HO_41.out) (by decide)).1 k_ hs_.symm).1) (fun hn_ => (Kd.freshB (g := gb323) (o := .cells #[.int .i64 t321, .int .i64 t322] 46 (0, 0)) (by (with_reducible repeat (first | refine blk_drewN ?_ _ | refine blk_drew ?_ | refine blk_alloc ?_ _)); exact BK323.out) k_ hn_))⟩)) (below_size (by repeat (first | (with_reducible first | exact HB.out | apply below_alloc | apply pw_below_drewN | apply below_drew1 | refine below_set ?_ GE323.out) | exact HB.out)))); have n4_ := Aside0.mk (blk_below (g := gb323) (o := .cells #[.int .i64 t321, .int .i64 t322] 46 (0, 0)) (by (with_reducible repeat (first | refine blk_drewN ?_ _ | refine blk_drew ?_ | refine blk_alloc ?_ _)); exact BK323.out) hb); have n5_ := Aside0.mk (below_step (by repeat (first | (with_reducible first | exact HB.out | apply below_alloc | apply pw_below_drewN | apply below_drew1 | refine below_set ?_ GE323.out) | exact HB.out)) hb); clear HO_41; clear HO361; clear BK323; clear HB; have HO_41 := n0_; have HO361 := n1_; have HO365 := n2_; have HO368 := n3_; have BK323 := n4_; have HB := n5_; clear n0_ n1_ n2_ n3_ n4_ n5_; (try clear hb); (try clear hb2); (try clear hk); (try clear hi); (try clear ho0); (try clear ho1); obtain ⟨Ao56, co56, eo56⟩ := Kd.R_slice HO365.out; subst eo56; obtain ⟨Ao57, co57, eo57⟩ := Kd.N_slice HO368.out; subst eo57) | ((with_reducible refine gate_callee (f := 9) rfl ?_); refine goesL_ (some 83) rfl rfl Try.func9 (by kernel_rfl) rfl #[.agg #[.int .i64 t362, .slice Ao56 t363.length co56, .slice Ao57 t366.length co57]] rfl (by (try simp only [List.map_toArray, List.map_cons, List.map_nil]); first | done | rfl | (simp only [List.length_drop, List.length_take]; rfl)) ?_; (with_reducible refine (check_Check.calls k5 t362 _ _ t363 _ _ t366 t369 t370 t371 _ ?side1 ?side2 ?side3 ?side4 A50.out).mono ?_); (case side1 => repeat (first | exact (Kd.R_reads' HO365.out).2.2 | (with_reducible refine Kd.C_alloc ?_ _) | (with_reducible refine Kd.C_drewN ?_ _) | (with_reducible refine Kd.C_drew ?_))); (case side2 => exact (Kd.R_reads' HO365.out).2.1); (case side3 => repeat (first | exact (Kd.N_reads' HO368.out).2.2 | (with_reducible refine Kd.C_alloc ?_ _) | (with_reducible refine Kd.C_drewN ?_ _) | (with_reducible refine Kd.C_drew ?_))); (case side4 => exact (Kd.N_reads' HO368.out).2.1); rintro e w58 ⟨rfl, hb⟩; refine ⟨_, rfl, ?_⟩; have n0_ := Aside0.mk (Kd.R_below (by (with_reducible repeat (first | apply Kd.R_alloc | apply Kd.R_drewN | apply Kd.R_drew)); exact HO_41.out) hb); have n1_ := Aside0.mk (Kd.R_below (by (with_reducible repeat (first | apply Kd.R_alloc | apply Kd.R_drewN | apply Kd.R_drew)); exact HO361.out) hb); have n2_ := Aside0.mk (Kd.R_below (by (with_reducible repeat (first | apply Kd.R_alloc | apply Kd.R_drewN | apply Kd.R_drew)); exact HO365.out) hb); have n3_ := Aside0.mk (Kd.N_below (by (with_reducible repeat (first | apply Kd.N_alloc | apply Kd.N_drewN | apply Kd.N_drew)); exact HO368.out) hb); have n4_ := Aside0.mk (blk_below (g := gb323) (o := .cells #[.int .i64 t321, .int .i64 t322] 46 (0, 0)) (by (with_reducible repeat (first | refine blk_drewN ?_ _ | refine blk_drew ?_ | refine blk_alloc ?_ _)); exact BK323.out) hb); have n5_ := Aside0.mk (below_step (by repeat (first | (with_reducible first | exact HB.out | apply below_alloc | apply pw_below_drewN | apply below_drew1 | refine below_set ?_ GE323.out) | exact HB.out)) hb); clear HO_41; clear HO361; clear HO365; clear HO368; clear BK323; clear HB; have HO_41 := n0_; have HO361 := n1_; have HO365 := n2_; have HO368 := n3_; have BK323 := n4_; have HB := n5_; clear n0_ n1_ n2_ n3_ n4_ n5_; (try clear hb); (try clear hb2); (try clear hk); (try clear hi)) | ((with_reducible refine gate_dst (N := 14) rfl ?_); refine box_event ?hg (N := 14) ?hd (cs := #[.int .i64 0, .int .i64 0, .int .i64 0]) (t := 29) ?hr ?_; (case hd => rfl); (case hg => rfl); (case hr => first | (go_simp; done) | (go_simp; rfl)); intro gb372 hg w59 hbox hb; have n0_ := Aside0.mk (Kd.R_below (by (with_reducible repeat (first | apply Kd.R_alloc | apply Kd.R_drewN | apply Kd.R_drew)); exact HO_41.out) hb); have n1_ := Aside0.mk (Kd.R_below (by (with_reducible repeat (first | apply Kd.R_alloc | apply Kd.R_drewN | apply Kd.R_drew)); exact HO361.out) hb); have n2_ := Aside0.mk (Kd.R_below (by (with_reducible repeat (first | apply Kd.R_alloc | apply Kd.R_drewN | apply Kd.R_drew)); exact HO365.out) hb); have n3_ := Aside0.mk (Kd.N_below (Kd.N_elderB (by (with_reducible repeat (first | apply Kd.N_alloc | apply Kd.N_drewN | apply Kd.N_drew)); exact HO368.out) gb372 (Nat.le_of_eq hg.symm)) hb); have n4_ := Aside0.mk (blk_below (g := gb323) (o := .cells #[.int .i64 t321, .int .i64 t322] 46 (0, 0)) (by (with_reducible repeat (first | refine blk_drewN ?_ _ | refine blk_drew ?_ | refine blk_alloc ?_ _)); exact BK323.out) hb); have n5_ := Aside0.mk (below_step (by repeat (first | (with_reducible first | exact HB.out | apply below_alloc | apply pw_below_drewN | apply below_drew1 | refine below_set ?_ GE323.out) | exact HB.out)) hb); have n6_ := Aside0.mk (hbox); have n7_ := Aside0.mk ((by rw [hg]; exact (below_size (by repeat (first | (with_reducible first | exact HB.out | apply below_alloc | apply pw_below_drewN | apply below_drew1 | refine below_set ?_ GE323.out) | exact HB.out))) : w.heap.size ≤ gb372)); have n8_ := Aside0.mk ((by rw [hg]; exact (below_size (by repeat (first | (with_reducible first | exact HB.out | apply below_alloc | apply pw_below_drewN | apply below_drew1 | refine below_set ?_ GE323.out) | exact HB.out))) : w.heap.size ≤ gb372)); have n9_ := Aside0.mk ((by rw [hg]; exact Nat.ne_of_lt (blk_lt (g := gb323) (o := .cells #[.int .i64 t321, .int .i64 t322] 46 (0, 0)) (by (with_reducible repeat (first | refine blk_drewN ?_ _ | refine blk_drew ?_ | refine blk_alloc ?_ _)); exact BK323.out)) : gb323 ≠ gb372)); have n10_ := Aside0.mk ((by rw [hg]; exact Nat.ne_of_gt (blk_lt (g := gb323) (o := .cells #[.int .i64 t321, .int .i64 t322] 46 (0, 0)) (by (with_reducible repeat (first | refine blk_drewN ?_ _ | refine blk_drew ?_ | refine blk_alloc ?_ _)); exact BK323.out)) : gb372 ≠ gb323)); clear HO_41; clear HO361; clear HO365; clear HO368; clear BK323; clear HB; have HO_41 := n0_; have HO361 := n1_; have HO365 := n2_; have HO368 := n3_; have BK323 := n4_; have HB := n5_; have BK372 := n6_; have GW372 := n7_; have GE372 := n8_; have NB323_372 := n9_; have NB372_323 := n10_; clear n0_ n1_ n2_ n3_ n4_ n5_ n6_ n7_ n8_ n9_ n10_; clear hb hbox hg; have hnb60 := NB372_323.out; have hnc60 := NB323_372.out; have hcz61_0 : w59.cell? ⟨gb372, 0, none⟩ = some (.int .i64 0) := (blk_cell BK372.out 0).trans rfl; have hcz61_1 : w59.cell? ⟨gb372, 1, none⟩ = some (.int .i64 0) := (blk_cell BK372.out 1).trans rfl; have hcz61_2 : w59.cell? ⟨gb372, 2, none⟩ = some (.int .i64 0) := (blk_cell BK372.out 2).trans rfl; have hfz61_0 := blk_frozen BK372.out 0; have hfz61_1 := blk_frozen BK372.out 1; have hfz61_2 := blk_frozen BK372.out 2))
                                        (try simp only [Act.put, List.setIfInBounds_toArray, List.set_cons_zero, List.set_cons_succ])
                                        go_cut [94] (fun v94 wc => ∃ (kq : Nat) (x94_50 : Bool), v94 = .bool x94_50 ∧ Aside0 (casementlaw13_CheckOne.j5 kq (Go.bits .and .i64 a1 7) t334 t335 y337 (y337.length : Int) x43_3 x94_50 t321 t322 t369 t370 t371 = some r) ∧ Aside0 (kq ≤ k5) ∧ Aside0 (Kd.R (Kd.int .i64) 3 wc w.heap.size (fun _ => True) (.slice (some ad340) y337.length co28) y337) ∧ Aside0 (wc.heap[gb323]? = some (.cells #[.int .i64 t321, .int .i64 t322] 46 (0, 0))) ∧ Aside0 (wc.heap[gb372]? = some (.cells #[.int .i64 t369, .int .i64 t370, .int .i64 t371] 29 (0, 0))) ∧ Aside0 (Below w.heap.size w wc))
                                        case first =>
                                          have H := HC51.out
                                          clear HC51
                                          by_cases c62 : (Go.bits .and .i64 a1 7) ≥ t334
                                          · rw [if_pos c62] at H
                                            have c62b0 : decide (t334 ≤ (Go.bits .and .i64 a1 7)) = true := decide_eq_true c62
                                            clear c62
                                            (first | rw [c62b0] | (simp only [i64_w, i32_w]; rw [c62b0]) | skip)
                                            have H' := Aside0.mk H
                                            clear H
                                            have hnb63 := NB372_323.out
                                            have hnc63 := NB323_372.out
                                            have hcz64_0 : w59.cell? ⟨gb372, 0, none⟩ = some (.int .i64 0) := (blk_cell BK372.out 0).trans rfl
                                            have hcz64_1 : w59.cell? ⟨gb372, 1, none⟩ = some (.int .i64 0) := (blk_cell BK372.out 1).trans rfl
                                            have hcz64_2 : w59.cell? ⟨gb372, 2, none⟩ = some (.int .i64 0) := (blk_cell BK372.out 2).trans rfl
                                            have hfz64_0 := blk_frozen BK372.out 0
                                            have hfz64_1 := blk_frozen BK372.out 1
                                            have hfz64_2 := blk_frozen BK372.out 2
                                            go_wp2
                                            go_meet
                                            case rel => exact ⟨_, (((t369 == 0 && (t370 == 0 && (t371 == 0))) != ((rd y337 x43_3) == 0))), (by first | rfl | (simp; done) | (simp [*]; done)), H', ⟨by have := HJ4.out; have := HJ7.out; have := HK3.out; have := HK4.out; have := HK5.out; first | omega | exact Nat.le_refl _⟩, ⟨by (with_reducible repeat (first | apply Kd.R_alloc | apply Kd.R_drewN | apply Kd.R_drew)); exact Kd.R_mono (Kd.R_far (p := ⟨gb372, 2, none⟩) (Kd.R_far (p := ⟨gb372, 1, none⟩) (Kd.R_far (p := ⟨gb372, 0, none⟩) (Kd.R_types HO_41.out BK372.out (by decide)) (fun _ hk => hk.2) (.int .i64 t369)) (fun _ hk => hk.2) (.int .i64 t370)) (fun _ hk => hk.2) (.int .i64 t371)) (fun _ hk => trivial)⟩, ⟨by (with_reducible repeat (first | refine blk_drewN ?_ _ | refine blk_drew ?_ | refine blk_alloc ?_ _)); refine blk_far ?_ NB323_372.out _; (with_reducible repeat (first | refine blk_drewN ?_ _ | refine blk_drew ?_ | refine blk_alloc ?_ _)); refine blk_far ?_ NB323_372.out _; (with_reducible repeat (first | refine blk_drewN ?_ _ | refine blk_drew ?_ | refine blk_alloc ?_ _)); refine blk_far ?_ NB323_372.out _; (with_reducible repeat (first | refine blk_drewN ?_ _ | refine blk_drew ?_ | refine blk_alloc ?_ _)); exact BK323.out⟩, ⟨by (with_reducible repeat (first | refine blk_drewN ?_ _ | refine blk_drew ?_ | refine blk_alloc ?_ _)); refine blk_put (cs := #[.int .i64 t369, .int .i64 t370, .int .i64 0]) ?_ 2 _ rfl; (with_reducible repeat (first | refine blk_drewN ?_ _ | refine blk_drew ?_ | refine blk_alloc ?_ _)); refine blk_put (cs := #[.int .i64 t369, .int .i64 0, .int .i64 0]) ?_ 1 _ rfl; (with_reducible repeat (first | refine blk_drewN ?_ _ | refine blk_drew ?_ | refine blk_alloc ?_ _)); refine blk_put (cs := #[.int .i64 0, .int .i64 0, .int .i64 0]) ?_ 0 _ rfl; (with_reducible repeat (first | refine blk_drewN ?_ _ | refine blk_drew ?_ | refine blk_alloc ?_ _)); exact BK372.out⟩, ⟨by repeat (first | (with_reducible first | exact HB.out | apply below_alloc | apply pw_below_drewN | apply below_drew1 | refine below_set ?_ GE323.out | refine below_set ?_ GE372.out) | exact HB.out)⟩⟩
                                          · rw [if_neg c62] at H
                                            have c62b0 : decide (t334 ≤ (Go.bits .and .i64 a1 7)) = false := decide_eq_false c62
                                            clear c62
                                            (first | rw [c62b0] | (simp only [i64_w, i32_w]; rw [c62b0]) | skip)
                                            have H' := Aside0.mk H
                                            clear H
                                            have hnb65 := NB372_323.out
                                            have hnc65 := NB323_372.out
                                            have hcz66_0 : w59.cell? ⟨gb372, 0, none⟩ = some (.int .i64 0) := (blk_cell BK372.out 0).trans rfl
                                            have hcz66_1 : w59.cell? ⟨gb372, 1, none⟩ = some (.int .i64 0) := (blk_cell BK372.out 1).trans rfl
                                            have hcz66_2 : w59.cell? ⟨gb372, 2, none⟩ = some (.int .i64 0) := (blk_cell BK372.out 2).trans rfl
                                            have hfz66_0 := blk_frozen BK372.out 0
                                            have hfz66_1 := blk_frozen BK372.out 1
                                            have hfz66_2 := blk_frozen BK372.out 2
                                            go_wp2
                                            go_meet
                                            case rel => exact ⟨_, (((t369 == 0 && (t370 == 0 && (t371 == 0))) != false)), (by first | rfl | (simp; done) | (simp [*]; done)), H', ⟨by have := HJ4.out; have := HJ7.out; have := HK3.out; have := HK4.out; have := HK5.out; first | omega | exact Nat.le_refl _⟩, ⟨by (with_reducible repeat (first | apply Kd.R_alloc | apply Kd.R_drewN | apply Kd.R_drew)); exact Kd.R_mono (Kd.R_far (p := ⟨gb372, 2, none⟩) (Kd.R_far (p := ⟨gb372, 1, none⟩) (Kd.R_far (p := ⟨gb372, 0, none⟩) (Kd.R_types HO_41.out BK372.out (by decide)) (fun _ hk => hk.2) (.int .i64 t369)) (fun _ hk => hk.2) (.int .i64 t370)) (fun _ hk => hk.2) (.int .i64 t371)) (fun _ hk => trivial)⟩, ⟨by (with_reducible repeat (first | refine blk_drewN ?_ _ | refine blk_drew ?_ | refine blk_alloc ?_ _)); refine blk_far ?_ NB323_372.out _; (with_reducible repeat (first | refine blk_drewN ?_ _ | refine blk_drew ?_ | refine blk_alloc ?_ _)); refine blk_far ?_ NB323_372.out _; (with_reducible repeat (first | refine blk_drewN ?_ _ | refine blk_drew ?_ | refine blk_alloc ?_ _)); refine blk_far ?_ NB323_372.out _; (with_reducible repeat (first | refine blk_drewN ?_ _ | refine blk_drew ?_ | refine blk_alloc ?_ _)); exact BK323.out⟩, ⟨by (with_reducible repeat (first | refine blk_drewN ?_ _ | refine blk_drew ?_ | refine blk_alloc ?_ _)); refine blk_put (cs := #[.int .i64 t369, .int .i64 t370, .int .i64 0]) ?_ 2 _ rfl; (with_reducible repeat (first | refine blk_drewN ?_ _ | refine blk_drew ?_ | refine blk_alloc ?_ _)); refine blk_put (cs := #[.int .i64 t369, .int .i64 0, .int .i64 0]) ?_ 1 _ rfl; (with_reducible repeat (first | refine blk_drewN ?_ _ | refine blk_drew ?_ | refine blk_alloc ?_ _)); refine blk_put (cs := #[.int .i64 0, .int .i64 0, .int .i64 0]) ?_ 0 _ rfl; (with_reducible repeat (first | refine blk_drewN ?_ _ | refine blk_drew ?_ | refine blk_alloc ?_ _)); exact BK372.out⟩, ⟨by repeat (first | (with_reducible first | exact HB.out | apply below_alloc | apply pw_below_drewN | apply below_drew1 | refine below_set ?_ GE323.out | refine below_set ?_ GE372.out) | exact HB.out)⟩⟩
                                        case rest =>
                                          clear HC51
                                          try clear c1
                                          try clear c2
                                          try clear p2
                                          try clear c3
                                          try clear p3
                                          try clear q3
                                          try clear hx3
                                          try clear c4
                                          try clear c6
                                          try clear p6
                                          try clear c7
                                          try clear c7b0
                                          try clear c7b1
                                          try clear c8
                                          try clear c9
                                          try clear c13
                                          try clear c14
                                          try clear c15
                                          try clear c19
                                          try clear c29
                                          try clear c29b0
                                          try clear c30
                                          try clear c30b0
                                          try clear c31
                                          try clear c31b0
                                          try clear c34
                                          try clear c34b0
                                          try clear p34
                                          try clear q34
                                          try clear hx34
                                          try clear c36
                                          try clear c39
                                          try clear c42
                                          try clear c42b0
                                          try clear c44
                                          try clear c48
                                          try clear c60
                                          try clear c62
                                          try clear c62b0
                                          try clear c63
                                          try clear p64
                                          try clear c65
                                          try clear hcz16_0
                                          try clear hcz16_1
                                          try clear hcz40_0
                                          try clear hcz40_1
                                          try clear hcz61_0
                                          try clear hcz61_1
                                          try clear hcz61_2
                                          try clear hcz64_0
                                          try clear hcz64_1
                                          try clear hcz64_2
                                          try clear hcz66_0
                                          try clear hcz66_1
                                          try clear hcz66_2
                                          try clear hfz16_0
                                          try clear hfz16_1
                                          try clear hfz40_0
                                          try clear hfz40_1
                                          try clear hfz61_0
                                          try clear hfz61_1
                                          try clear hfz61_2
                                          try clear hfz64_0
                                          try clear hfz64_1
                                          try clear hfz64_2
                                          try clear hfz66_0
                                          try clear hfz66_1
                                          try clear hfz66_2
                                          try clear hx340_0
                                          try clear p2
                                          try clear p3
                                          try clear p34
                                          try clear p340
                                          try clear p6
                                          try clear q3
                                          try clear q34
                                          try clear q340
                                          obtain ⟨kq, x94_50, rfl, HA, HJ50, HO_41, BK323, BK372, HB⟩ := hcut
                                          cases kq with
                                          | zero => exact absurd HA.out (by simp [casementlaw13_CheckOne.j5])
                                          | succ kj50 =>
                                            have H := HA.out
                                            clear HA
                                            simp only [casementlaw13_CheckOne.j5] at H
                                            by_cases c67 : x94_50 = true
                                            · subst c67
                                              have H1 : (some false) = some r := by rw [if_pos rfl] at H; exact H
                                              clear H
                                              have H := H1
                                              clear H1
                                              exact absurd ((Option.some.inj H).trans HRT.out) (by decide)
                                            · replace c67 := Bool.eq_false_iff.mpr c67
                                              subst c67
                                              have H1 : (if (!(t369 == 0) || (!(t370 == 0) || (!(t371 == 0)))) = true then (if (!(t369 == 0) || (!(t370 == (-1)) || (!(t371 == 130)))) = true then (some false) else (casementlaw13_CheckOne.l0 kj50 (Go.bits .and .i64 a1 7) t334 t335 y337 (y337.length : Int) (wrap64 (x43_3 + 1)) t321 t322)) else (casementlaw13_CheckOne.l0 kj50 (Go.bits .and .i64 a1 7) t334 t335 y337 (y337.length : Int) (wrap64 (x43_3 + 1)) t321 t322)) = some r := by rw [if_neg (show ¬ (false = true) by decide)] at H; exact H
                                              clear H
                                              have H := H1
                                              clear H1
                                              by_cases c68 : (!(t369 == 0) || (!(t370 == 0) || (!(t371 == 0)))) = true
                                              · rw [if_pos c68] at H
                                                have c68b0 : (!(t369 == 0) || (!(t370 == 0) || (!(t371 == 0)))) = true := c68
                                                clear c68
                                                by_cases c69 : (!(t369 == 0) || (!(t370 == (-1)) || (!(t371 == 130)))) = true
                                                · rw [if_pos c69] at H
                                                  have c69b0 : (!(t369 == 0) || (!(t370 == (-1)) || (!(t371 == 130)))) = true := c69
                                                  clear c69
                                                  exact absurd ((Option.some.inj H).trans HRT.out) (by decide)
                                                · rw [if_neg c69] at H
                                                  have c69b0 : (!(t369 == 0) || (!(t370 == (-1)) || (!(t371 == 130)))) = false := by simpa using c69
                                                  clear c69
                                                  have H' := Aside0.mk H
                                                  clear H
                                                  have hnb70 := NB372_323.out
                                                  have hnc70 := NB323_372.out
                                                  have hcz71_0 : wc.cell? ⟨gb372, 0, none⟩ = some (.int .i64 t369) := (blk_cell BK372.out 0).trans rfl
                                                  have hcz71_1 : wc.cell? ⟨gb372, 1, none⟩ = some (.int .i64 t370) := (blk_cell BK372.out 1).trans rfl
                                                  have hcz71_2 : wc.cell? ⟨gb372, 2, none⟩ = some (.int .i64 t371) := (blk_cell BK372.out 2).trans rfl
                                                  have hfz71_0 := blk_frozen BK372.out 0
                                                  have hfz71_1 := blk_frozen BK372.out 1
                                                  have hfz71_2 := blk_frozen BK372.out 2
                                                  go_wp2
                                                  go_roundg kj50
                                                  case measure => have := HJ4.out; have := HJ7.out; have := HK3.out; have := HK4.out; have := HK5.out; have := HJ50.out; omega
                                                  case rel => exact ⟨(wrap64 (x43_3 + 1)), (by first | rfl | (simp; done) | (simp [*]; done)), H', ⟨by have := HJ4.out; have := HJ7.out; have := HK3.out; have := HK4.out; have := HK5.out; have := HJ50.out; omega⟩, ⟨by (with_reducible repeat (first | apply Kd.R_alloc | apply Kd.R_drewN | apply Kd.R_drew)); exact HO_41.out⟩, ⟨by (with_reducible repeat (first | refine blk_drewN ?_ _ | refine blk_drew ?_ | refine blk_alloc ?_ _)); exact BK323.out⟩, ⟨by repeat (first | (with_reducible first | exact HB.out | apply below_alloc | apply pw_below_drewN | apply below_drew1 | refine below_set ?_ GE323.out | refine below_set ?_ GE372.out) | exact HB.out)⟩⟩
                                              · rw [if_neg c68] at H
                                                have c68b0 : (!(t369 == 0) || (!(t370 == 0) || (!(t371 == 0)))) = false := by simpa using c68
                                                clear c68
                                                have H' := Aside0.mk H
                                                clear H
                                                have hnb72 := NB372_323.out
                                                have hnc72 := NB323_372.out
                                                have hcz73_0 : wc.cell? ⟨gb372, 0, none⟩ = some (.int .i64 t369) := (blk_cell BK372.out 0).trans rfl
                                                have hcz73_1 : wc.cell? ⟨gb372, 1, none⟩ = some (.int .i64 t370) := (blk_cell BK372.out 1).trans rfl
                                                have hcz73_2 : wc.cell? ⟨gb372, 2, none⟩ = some (.int .i64 t371) := (blk_cell BK372.out 2).trans rfl
                                                have hfz73_0 := blk_frozen BK372.out 0
                                                have hfz73_1 := blk_frozen BK372.out 1
                                                have hfz73_2 := blk_frozen BK372.out 2
                                                go_wp2
                                                go_roundg kj50
                                                case measure => have := HJ4.out; have := HJ7.out; have := HK3.out; have := HK4.out; have := HK5.out; have := HJ50.out; omega
                                                case rel => exact ⟨(wrap64 (x43_3 + 1)), (by first | rfl | (simp; done) | (simp [*]; done)), H', ⟨by have := HJ4.out; have := HJ7.out; have := HK3.out; have := HK4.out; have := HK5.out; have := HJ50.out; omega⟩, ⟨by (with_reducible repeat (first | apply Kd.R_alloc | apply Kd.R_drewN | apply Kd.R_drew)); exact HO_41.out⟩, ⟨by (with_reducible repeat (first | refine blk_drewN ?_ _ | refine blk_drew ?_ | refine blk_alloc ?_ _)); exact BK323.out⟩, ⟨by repeat (first | (with_reducible first | exact HB.out | apply below_alloc | apply pw_below_drewN | apply below_drew1 | refine below_set ?_ GE323.out | refine below_set ?_ GE372.out) | exact HB.out)⟩⟩
                                      · rw [if_neg c48] at H
                                        exact absurd H (by simp)
                              · rw [if_neg c39] at H
                                exact absurd H (by simp)
                      · rw [if_neg c31] at H
                        exact absurd H (by simp)
                    · rw [if_neg c30] at H
                      exact absurd H (by simp)
                  · rw [if_neg c29] at H
                    have c29b0 : decide (x43_3 < (y337.length : Int)) = false := decide_eq_false c29
                    clear c29
                    obtain rfl := Option.some.inj H
                    go_wp2
                    go_ret
                    exact ⟨by first | rfl | (simp [errW_none, errW_some] <;> rfl) | (simp [*, errW_none, errW_some] <;> rfl), by repeat (first | (with_reducible first | exact HB.out | apply below_alloc | apply pw_below_drewN | apply below_drew1 | refine below_set ?_ GE323.out) | exact HB.out)⟩
            · replace c13 := Bool.eq_false_iff.mpr c13
              subst c13
              have H1 : (some false) = some r := by rw [if_neg (show ¬ (false = true) by decide)] at H; exact H
              clear H
              have H := H1
              clear H1
              exact absurd ((Option.some.inj H).trans HRT.out) (by decide)
  · replace c4 := Bool.eq_false_iff.mpr c4
    subst c4
    have H1 : (some false) = some r := by rw [if_neg (show ¬ (false = true) by decide)] at H; exact H
    clear H
    have H := H1
    clear H1
    exact absurd ((Option.some.inj H).trans HRT.out) (by decide)

def casementlaw13_CheckOne.Pure : Prop := ∀ (a0 : Int) (a1 : Int), ((Lit.int .i64 a0).wf = true) → ((Lit.int .i64 a1).wf = true) → ∃ k, casementlaw13_CheckOne.f k a0 a1 = some true
theorem casementlaw13_CheckOne.walk (P : casementlaw13_CheckOne.Pure) (a0 : Int) (a1 : Int) (w : World) (wl0 : ((Lit.int .i64 a0).wf = true)) (wl1 : ((Lit.int .i64 a1).wf = true))  :
    Calls Try.prog 7 #[.int .i64 a0, .int .i64 a1] w fun e w' => e = .returned (.bool true) ∧ Below w.heap.size w w' := by
  obtain ⟨k, h⟩ := P a0 a1 wl0 wl1
  refine (casementlaw13_CheckOne.calls k a0 a1 true w  h rfl).mono ?_
  rintro e w' ⟨rfl, hd⟩
  exact ⟨rfl, hd⟩

end Go.Proofs.Ytgngbbkaghmnpaa.Q
