-- written by a program of this session after the way of the kit's print; not the kit's own print. Lean checks it.
import Derived.Test.YtmokmkaipcojkaaQx0
import Derived.Test.YtmokmkaipcojkaaQx1
import Derived.Test.YtmokmkaipcojkaaQx7
import Derived.Test.YtmokmkaipcojkaaQx8
import Derived.Test.YtmokmkaipcojkaaQx9
import Derived.Test.YtmokmkaipcojkaaQx10
import Derived.Test.YtmokmkaipcojkaaQx11
import Derived.Test.YtmokmkaipcojkaaQx12
import Derived.Test.YtmokmkaipcojkaaQx13
namespace Go.Proofs.Ytmokmkaipcojkaa.Q
open Go.RowKit Go.Proofs.YtmokmkaipcojkaaW.PrintWords Go.Proofs.YtmokmkaipcojkaaW.PrintLast Go.Proofs.YtmokmkaipcojkaaW.PrintMore
attribute [local go_sem] max2_int min2_int max_two min_two max_three min_three max_four min_four   -- for this text's walks alone
set_option linter.unusedVariables false
set_option linter.unusedSimpArgs false

attribute [local go_sem high] eqA26
/-! ### casementlaw02_alive: function 12 -/
def casementlaw02_alive.f (k : Nat)  : Option (Bool) := (casementlaw02_at.f 0 0 10 3).bind fun bt244 => ((rect_Cut.f k bt244.1 bt244.2.1 bt244.2.2.1 bt244.2.2.2 (([4, 9, 2] : List Int)) false).bind fun t251 => ((casementlaw02_at.f 0 0 3 3).bind fun bt254 => ((casementlaw02_at.f 1 1 1 1).bind fun bt258 => ((rect_Minus.f k bt254.1 bt254.2.1 bt254.2.2.1 bt254.2.2.2 bt258.1 bt258.2.1 bt258.2.2.1 bt258.2.2.2).bind fun t262 => ((casementlaw02_at.f 0 0 5 5).bind fun bt265 => ((casementlaw02_at.f 3 3 5 5).bind fun bt269 => ((rect_Meet.f bt265.1 bt265.2.1 bt265.2.2.1 bt265.2.2.2 bt269.1 bt269.2.1 bt269.2.2.1 bt269.2.2.2).bind fun bt273 => ((casementlaw02_at.f 3 3 2 2).bind fun bt277 => (if (bt273.1 == bt277.1 && (bt273.2.1 == bt277.2.1 && (bt273.2.2.1 == bt277.2.2.1 && (bt273.2.2.2 == bt277.2.2.2)))) = true then ((casementlaw02_at.f 8 8 4 4).bind fun bt281 => ((casementlaw02_at.f 0 0 10 10).bind fun bt285 => ((rect_Into.f bt281.1 bt281.2.1 bt281.2.2.1 bt281.2.2.2 bt285.1 bt285.2.1 bt285.2.2.1 bt285.2.2.2).bind fun bt289 => ((casementlaw02_at.f 6 6 4 4).bind fun bt293 => (if (bt289.1 == bt293.1 && (bt289.2.1 == bt293.2.1 && (bt289.2.2.1 == bt293.2.2.1 && (bt289.2.2.2 == bt293.2.2.2)))) = true then (if (t251.length : Int) = 3 then (if 1 < (t251.length : Int) then ((casementlaw02_at.f 4 0 6 3).bind fun bt298 => (if (((rd_T26 t251 1).f0) == bt298.1 && (((rd_T26 t251 1).f1) == bt298.2.1 && (((rd_T26 t251 1).f2) == bt298.2.2.1 && (((rd_T26 t251 1).f3) == bt298.2.2.2)))) = true then (if 2 < (t251.length : Int) then ((casementlaw02_at.f 0 0 0 0).bind fun bt303 => (if (((rd_T26 t251 2).f0) == bt303.1 && (((rd_T26 t251 2).f1) == bt303.2.1 && (((rd_T26 t251 2).f2) == bt303.2.2.1 && (((rd_T26 t251 2).f3) == bt303.2.2.2)))) = true then (if (t262.length : Int) = 4 then (if 2 < (t262.length : Int) then ((casementlaw02_at.f 2 1 1 1).bind fun bt308 => (if (((rd_T26 t262 2).f0) == bt308.1 && (((rd_T26 t262 2).f1) == bt308.2.1 && (((rd_T26 t262 2).f2) == bt308.2.2.1 && (((rd_T26 t262 2).f3) == bt308.2.2.2)))) = true then ((rect_Sum.f k 9223372036854775807 1).bind fun t312 => (if t312 = 9223372036854775807 then ((casementlaw02_at.f 0 0 2 2).bind fun bt313 => ((casementlaw02_at.f 1 1 2 2).bind fun bt317 => ((rect_Cover.f k (([(⟨bt313.1, bt313.2.1, bt313.2.2.1, bt313.2.2.2⟩ : S26), (⟨bt317.1, bt317.2.1, bt317.2.2.1, bt317.2.2.2⟩ : S26)] : List (S26)))).bind fun t324 => (some (t324 == 7))))) else (some false))) else (some false))) else (none)) else (some false)) else (some false))) else (none)) else (some false))) else (none)) else (some false)) else (some false)))))) else (some false))))))))))
theorem casementlaw02_alive.mono : ∀ k, LeO (casementlaw02_alive.f k ) (casementlaw02_alive.f (k + 1) ) := by
  intro  k
  unfold casementlaw02_alive.f
  repeat' first
      | (with_reducible exact rect_Cover.mono _ _)
      | (with_reducible exact rect_Cut.mono _ _ _ _ _ _ _)
      | (with_reducible exact rect_Minus.mono _ _ _ _ _ _ _ _ _)
      | (with_reducible exact rect_Sum.mono _ _ _)
      | (with_reducible exact LeO.refl _)
      | (with_reducible exact LeO.none _)
      | (with_reducible refine LeO.ite ?_ ?_)
      | (with_reducible refine LeO.bind ?_ (fun _ => ?_))
      | exact rect_Cover.mono _ _
      | exact rect_Cut.mono _ _ _ _ _ _ _
      | exact rect_Minus.mono _ _ _ _ _ _ _ _ _
      | exact rect_Sum.mono _ _ _
      | exact LeO.none _
      | refine LeO.ite ?_ ?_
      | refine LeO.bind ?_ (fun _ => ?_)
def casementlaw02_alive.T3 : Bool × List (List Nat × List Nat) := (true, [([], []), ([0], []), ([0, 1, 1], [0, 1]), ([2], []), ([2, 3], [2, 3]), ([4, 3], [4]), ([5, 5], [5]), ([6, 5], [5]), ([6, 7, 7, 5], [5, 6, 7]), ([8, 5], [5]), ([8, 9, 5], [5, 8, 9]), ([5, 10], [5, 10]), ([11, 9], [11]), ([12], [12]), ([13, 12], [12, 13]), ([14, 12], [12, 14]), ([12, 15], [12, 15]), ([16, 12], [16]), ([17], [17]), ([18, 17], [17, 18]), ([19, 17], [17, 19]), ([17, 17], [17]), ([20, 21, 17], [17, 20, 21]), ([17, 22], [17, 22]), ([23, 21], [23]), ([24], [24]), ([25, 24], [24, 25]), ([26, 24], [24, 26]), ([24, 24], [24]), ([27, 28, 24], [24, 27, 28]), ([24, 29], [24, 29]), ([30, 28], [30]), ([31], [31]), ([32, 31], [31, 32]), ([33, 31], [31, 33]), ([31, 34], [31, 34]), ([35, 31], [35]), ([36], [36]), ([37, 36], [36, 37]), ([38, 36], [36, 38]), ([36, 36], [36]), ([39, 40, 36], [36, 39, 40]), ([36, 41], [36, 41]), ([42, 40], [42]), ([43, 43], [43]), ([44, 43], [43, 44]), ([43, 45], [43, 45]), ([46, 44], [46]), ([47, 47], [47]), ([48, 47], [47]), ([48, 49, 47], [47, 48, 49]), ([50, 49, 47], [47, 50]), ([51, 47], [47, 51]), ([47, 52], [47, 52]), ([53, 51, 0, 1, 2, 3, 4, 5, 6, 7, 8, 9, 10, 11, 12, 13, 14, 15, 16, 17, 18, 19, 20, 21, 22, 23, 24, 25, 26, 27, 28, 29, 30, 31, 32, 33, 34, 35, 36, 37, 38, 39, 40, 41, 42, 43, 44, 45, 46, 47, 48, 49, 50, 51, 52, 53], [53])])
def casementlaw02_alive.B3 : List Nat := [0, 1, 3, 7, 15, 31, 63, 127, 255, 511, 1023, 2047, 4095, 8191, 16383, 32767, 65535, 131071, 262143, 524287, 1048575, 262143, 4194303, 8388607, 16777215, 33554431, 67108863, 134217727, 33554431, 536870911, 1073741823, 2147483647, 4294967295, 8589934591, 17179869183, 34359738367, 68719476735, 137438953471, 274877906943, 549755813887, 137438953471, 2199023255551, 4398046511103, 8796093022207, 17592186044415, 35184372088831, 70368744177663, 140737488355327, 281474976710655, 562949953421311, 1125899906842623, 2251799813685247, 4503599627370495, 9007199254740991, 18014398509481983]
theorem casementlaw02_alive.tab3 : rtab .any (opsOf Try.f12 3) = casementlaw02_alive.T3 := by kernel_rfl
theorem casementlaw02_alive.bits3 : waitsOk casementlaw02_alive.T3.2 casementlaw02_alive.B3 = true := by kernel_rfl
set_option maxHeartbeats 8000000 in
set_option maxRecDepth 100000 in
theorem casementlaw02_alive.calls (k : Nat)  (r : Bool) (w : World) (h : casementlaw02_alive.f k  = some r) (hr : r = true) :
    Calls Try.prog 12 #[] w fun e w' => e = .returned (.bool r) ∧ Below w.heap.size w w' := by
  have hu26 := Try.underlying26
  have HRT := Aside0.mk hr
  clear hr
  have HB := Aside0.mk (Below.refl w.heap.size w)
  have H : ((casementlaw02_at.f 0 0 10 3).bind fun bt244 => ((rect_Cut.f k bt244.1 bt244.2.1 bt244.2.2.1 bt244.2.2.2 (([4, 9, 2] : List Int)) false).bind fun t251 => ((casementlaw02_at.f 0 0 3 3).bind fun bt254 => ((casementlaw02_at.f 1 1 1 1).bind fun bt258 => ((rect_Minus.f k bt254.1 bt254.2.1 bt254.2.2.1 bt254.2.2.2 bt258.1 bt258.2.1 bt258.2.2.1 bt258.2.2.2).bind fun t262 => ((casementlaw02_at.f 0 0 5 5).bind fun bt265 => ((casementlaw02_at.f 3 3 5 5).bind fun bt269 => ((rect_Meet.f bt265.1 bt265.2.1 bt265.2.2.1 bt265.2.2.2 bt269.1 bt269.2.1 bt269.2.2.1 bt269.2.2.2).bind fun bt273 => ((casementlaw02_at.f 3 3 2 2).bind fun bt277 => (if (bt273.1 == bt277.1 && (bt273.2.1 == bt277.2.1 && (bt273.2.2.1 == bt277.2.2.1 && (bt273.2.2.2 == bt277.2.2.2)))) = true then ((casementlaw02_at.f 8 8 4 4).bind fun bt281 => ((casementlaw02_at.f 0 0 10 10).bind fun bt285 => ((rect_Into.f bt281.1 bt281.2.1 bt281.2.2.1 bt281.2.2.2 bt285.1 bt285.2.1 bt285.2.2.1 bt285.2.2.2).bind fun bt289 => ((casementlaw02_at.f 6 6 4 4).bind fun bt293 => (if (bt289.1 == bt293.1 && (bt289.2.1 == bt293.2.1 && (bt289.2.2.1 == bt293.2.2.1 && (bt289.2.2.2 == bt293.2.2.2)))) = true then (if (t251.length : Int) = 3 then (if 1 < (t251.length : Int) then ((casementlaw02_at.f 4 0 6 3).bind fun bt298 => (if (((rd_T26 t251 1).f0) == bt298.1 && (((rd_T26 t251 1).f1) == bt298.2.1 && (((rd_T26 t251 1).f2) == bt298.2.2.1 && (((rd_T26 t251 1).f3) == bt298.2.2.2)))) = true then (if 2 < (t251.length : Int) then ((casementlaw02_at.f 0 0 0 0).bind fun bt303 => (if (((rd_T26 t251 2).f0) == bt303.1 && (((rd_T26 t251 2).f1) == bt303.2.1 && (((rd_T26 t251 2).f2) == bt303.2.2.1 && (((rd_T26 t251 2).f3) == bt303.2.2.2)))) = true then (if (t262.length : Int) = 4 then (if 2 < (t262.length : Int) then ((casementlaw02_at.f 2 1 1 1).bind fun bt308 => (if (((rd_T26 t262 2).f0) == bt308.1 && (((rd_T26 t262 2).f1) == bt308.2.1 && (((rd_T26 t262 2).f2) == bt308.2.2.1 && (((rd_T26 t262 2).f3) == bt308.2.2.2)))) = true then ((rect_Sum.f k 9223372036854775807 1).bind fun t312 => (if t312 = 9223372036854775807 then ((casementlaw02_at.f 0 0 2 2).bind fun bt313 => ((casementlaw02_at.f 1 1 2 2).bind fun bt317 => ((rect_Cover.f k (([(⟨bt313.1, bt313.2.1, bt313.2.2.1, bt313.2.2.2⟩ : S26), (⟨bt317.1, bt317.2.1, bt317.2.2.1, bt317.2.2.2⟩ : S26)] : List (S26)))).bind fun t324 => (some (t324 == 7))))) else (some false))) else (some false))) else (none)) else (some false)) else (some false))) else (none)) else (some false))) else (none)) else (some false)) else (some false)))))) else (some false))))))))))) = some r := h
  clear h
  replace H := Option.bind_eq_some_iff.mp H
  obtain ⟨⟨t244, t245, t246, t247⟩, A10, H⟩ := H
  replace H : ((rect_Cut.f k t244 t245 t246 t247 (([4, 9, 2] : List Int)) false).bind fun t251 => ((casementlaw02_at.f 0 0 3 3).bind fun bt254 => ((casementlaw02_at.f 1 1 1 1).bind fun bt258 => ((rect_Minus.f k bt254.1 bt254.2.1 bt254.2.2.1 bt254.2.2.2 bt258.1 bt258.2.1 bt258.2.2.1 bt258.2.2.2).bind fun t262 => ((casementlaw02_at.f 0 0 5 5).bind fun bt265 => ((casementlaw02_at.f 3 3 5 5).bind fun bt269 => ((rect_Meet.f bt265.1 bt265.2.1 bt265.2.2.1 bt265.2.2.2 bt269.1 bt269.2.1 bt269.2.2.1 bt269.2.2.2).bind fun bt273 => ((casementlaw02_at.f 3 3 2 2).bind fun bt277 => (if (bt273.1 == bt277.1 && (bt273.2.1 == bt277.2.1 && (bt273.2.2.1 == bt277.2.2.1 && (bt273.2.2.2 == bt277.2.2.2)))) = true then ((casementlaw02_at.f 8 8 4 4).bind fun bt281 => ((casementlaw02_at.f 0 0 10 10).bind fun bt285 => ((rect_Into.f bt281.1 bt281.2.1 bt281.2.2.1 bt281.2.2.2 bt285.1 bt285.2.1 bt285.2.2.1 bt285.2.2.2).bind fun bt289 => ((casementlaw02_at.f 6 6 4 4).bind fun bt293 => (if (bt289.1 == bt293.1 && (bt289.2.1 == bt293.2.1 && (bt289.2.2.1 == bt293.2.2.1 && (bt289.2.2.2 == bt293.2.2.2)))) = true then (if (t251.length : Int) = 3 then (if 1 < (t251.length : Int) then ((casementlaw02_at.f 4 0 6 3).bind fun bt298 => (if (((rd_T26 t251 1).f0) == bt298.1 && (((rd_T26 t251 1).f1) == bt298.2.1 && (((rd_T26 t251 1).f2) == bt298.2.2.1 && (((rd_T26 t251 1).f3) == bt298.2.2.2)))) = true then (if 2 < (t251.length : Int) then ((casementlaw02_at.f 0 0 0 0).bind fun bt303 => (if (((rd_T26 t251 2).f0) == bt303.1 && (((rd_T26 t251 2).f1) == bt303.2.1 && (((rd_T26 t251 2).f2) == bt303.2.2.1 && (((rd_T26 t251 2).f3) == bt303.2.2.2)))) = true then (if (t262.length : Int) = 4 then (if 2 < (t262.length : Int) then ((casementlaw02_at.f 2 1 1 1).bind fun bt308 => (if (((rd_T26 t262 2).f0) == bt308.1 && (((rd_T26 t262 2).f1) == bt308.2.1 && (((rd_T26 t262 2).f2) == bt308.2.2.1 && (((rd_T26 t262 2).f3) == bt308.2.2.2)))) = true then ((rect_Sum.f k 9223372036854775807 1).bind fun t312 => (if t312 = 9223372036854775807 then ((casementlaw02_at.f 0 0 2 2).bind fun bt313 => ((casementlaw02_at.f 1 1 2 2).bind fun bt317 => ((rect_Cover.f k (([(⟨bt313.1, bt313.2.1, bt313.2.2.1, bt313.2.2.2⟩ : S26), (⟨bt317.1, bt317.2.1, bt317.2.2.1, bt317.2.2.2⟩ : S26)] : List (S26)))).bind fun t324 => (some (t324 == 7))))) else (some false))) else (some false))) else (none)) else (some false)) else (some false))) else (none)) else (some false))) else (none)) else (some false)) else (some false)))))) else (some false)))))))))) = some r := H
  have A1 := Aside0.mk A10
  clear A10
  obtain ⟨y248, hy248⟩ : ∃ y_ : List Int, y_ = (([4, 9, 2] : List Int)) := ⟨_, rfl⟩
  replace H : ((rect_Cut.f k t244 t245 t246 t247 y248 false).bind fun t251 => ((casementlaw02_at.f 0 0 3 3).bind fun bt254 => ((casementlaw02_at.f 1 1 1 1).bind fun bt258 => ((rect_Minus.f k bt254.1 bt254.2.1 bt254.2.2.1 bt254.2.2.2 bt258.1 bt258.2.1 bt258.2.2.1 bt258.2.2.2).bind fun t262 => ((casementlaw02_at.f 0 0 5 5).bind fun bt265 => ((casementlaw02_at.f 3 3 5 5).bind fun bt269 => ((rect_Meet.f bt265.1 bt265.2.1 bt265.2.2.1 bt265.2.2.2 bt269.1 bt269.2.1 bt269.2.2.1 bt269.2.2.2).bind fun bt273 => ((casementlaw02_at.f 3 3 2 2).bind fun bt277 => (if (bt273.1 == bt277.1 && (bt273.2.1 == bt277.2.1 && (bt273.2.2.1 == bt277.2.2.1 && (bt273.2.2.2 == bt277.2.2.2)))) = true then ((casementlaw02_at.f 8 8 4 4).bind fun bt281 => ((casementlaw02_at.f 0 0 10 10).bind fun bt285 => ((rect_Into.f bt281.1 bt281.2.1 bt281.2.2.1 bt281.2.2.2 bt285.1 bt285.2.1 bt285.2.2.1 bt285.2.2.2).bind fun bt289 => ((casementlaw02_at.f 6 6 4 4).bind fun bt293 => (if (bt289.1 == bt293.1 && (bt289.2.1 == bt293.2.1 && (bt289.2.2.1 == bt293.2.2.1 && (bt289.2.2.2 == bt293.2.2.2)))) = true then (if (t251.length : Int) = 3 then (if 1 < (t251.length : Int) then ((casementlaw02_at.f 4 0 6 3).bind fun bt298 => (if (((rd_T26 t251 1).f0) == bt298.1 && (((rd_T26 t251 1).f1) == bt298.2.1 && (((rd_T26 t251 1).f2) == bt298.2.2.1 && (((rd_T26 t251 1).f3) == bt298.2.2.2)))) = true then (if 2 < (t251.length : Int) then ((casementlaw02_at.f 0 0 0 0).bind fun bt303 => (if (((rd_T26 t251 2).f0) == bt303.1 && (((rd_T26 t251 2).f1) == bt303.2.1 && (((rd_T26 t251 2).f2) == bt303.2.2.1 && (((rd_T26 t251 2).f3) == bt303.2.2.2)))) = true then (if (t262.length : Int) = 4 then (if 2 < (t262.length : Int) then ((casementlaw02_at.f 2 1 1 1).bind fun bt308 => (if (((rd_T26 t262 2).f0) == bt308.1 && (((rd_T26 t262 2).f1) == bt308.2.1 && (((rd_T26 t262 2).f2) == bt308.2.2.1 && (((rd_T26 t262 2).f3) == bt308.2.2.2)))) = true then ((rect_Sum.f k 9223372036854775807 1).bind fun t312 => (if t312 = 9223372036854775807 then ((casementlaw02_at.f 0 0 2 2).bind fun bt313 => ((casementlaw02_at.f 1 1 2 2).bind fun bt317 => ((rect_Cover.f k (([(⟨bt313.1, bt313.2.1, bt313.2.2.1, bt313.2.2.2⟩ : S26), (⟨bt317.1, bt317.2.1, bt317.2.2.1, bt317.2.2.2⟩ : S26)] : List (S26)))).bind fun t324 => (some (t324 == 7))))) else (some false))) else (some false))) else (none)) else (some false)) else (some false))) else (none)) else (some false))) else (none)) else (some false)) else (some false)))))) else (some false)))))))))) = some r := by first | (rw [hy248]; with_reducible exact H) | (have H2_ := (Option.bind_some _ _).symm.trans H; rw [hy248]; with_reducible exact H2_) | (have H2_ := (Option.bind_some _ _).symm.trans H; with_reducible exact H2_) | with_reducible exact H | (rw [hy248]; exact H) | exact H
  have Ny248 := Aside0.mk hy248
  clear hy248
  replace H := Option.bind_eq_some_iff.mp H
  obtain ⟨t251, A20, H⟩ := H
  replace H : ((casementlaw02_at.f 0 0 3 3).bind fun bt254 => ((casementlaw02_at.f 1 1 1 1).bind fun bt258 => ((rect_Minus.f k bt254.1 bt254.2.1 bt254.2.2.1 bt254.2.2.2 bt258.1 bt258.2.1 bt258.2.2.1 bt258.2.2.2).bind fun t262 => ((casementlaw02_at.f 0 0 5 5).bind fun bt265 => ((casementlaw02_at.f 3 3 5 5).bind fun bt269 => ((rect_Meet.f bt265.1 bt265.2.1 bt265.2.2.1 bt265.2.2.2 bt269.1 bt269.2.1 bt269.2.2.1 bt269.2.2.2).bind fun bt273 => ((casementlaw02_at.f 3 3 2 2).bind fun bt277 => (if (bt273.1 == bt277.1 && (bt273.2.1 == bt277.2.1 && (bt273.2.2.1 == bt277.2.2.1 && (bt273.2.2.2 == bt277.2.2.2)))) = true then ((casementlaw02_at.f 8 8 4 4).bind fun bt281 => ((casementlaw02_at.f 0 0 10 10).bind fun bt285 => ((rect_Into.f bt281.1 bt281.2.1 bt281.2.2.1 bt281.2.2.2 bt285.1 bt285.2.1 bt285.2.2.1 bt285.2.2.2).bind fun bt289 => ((casementlaw02_at.f 6 6 4 4).bind fun bt293 => (if (bt289.1 == bt293.1 && (bt289.2.1 == bt293.2.1 && (bt289.2.2.1 == bt293.2.2.1 && (bt289.2.2.2 == bt293.2.2.2)))) = true then (if (t251.length : Int) = 3 then (if 1 < (t251.length : Int) then ((casementlaw02_at.f 4 0 6 3).bind fun bt298 => (if (((rd_T26 t251 1).f0) == bt298.1 && (((rd_T26 t251 1).f1) == bt298.2.1 && (((rd_T26 t251 1).f2) == bt298.2.2.1 && (((rd_T26 t251 1).f3) == bt298.2.2.2)))) = true then (if 2 < (t251.length : Int) then ((casementlaw02_at.f 0 0 0 0).bind fun bt303 => (if (((rd_T26 t251 2).f0) == bt303.1 && (((rd_T26 t251 2).f1) == bt303.2.1 && (((rd_T26 t251 2).f2) == bt303.2.2.1 && (((rd_T26 t251 2).f3) == bt303.2.2.2)))) = true then (if (t262.length : Int) = 4 then (if 2 < (t262.length : Int) then ((casementlaw02_at.f 2 1 1 1).bind fun bt308 => (if (((rd_T26 t262 2).f0) == bt308.1 && (((rd_T26 t262 2).f1) == bt308.2.1 && (((rd_T26 t262 2).f2) == bt308.2.2.1 && (((rd_T26 t262 2).f3) == bt308.2.2.2)))) = true then ((rect_Sum.f k 9223372036854775807 1).bind fun t312 => (if t312 = 9223372036854775807 then ((casementlaw02_at.f 0 0 2 2).bind fun bt313 => ((casementlaw02_at.f 1 1 2 2).bind fun bt317 => ((rect_Cover.f k (([(⟨bt313.1, bt313.2.1, bt313.2.2.1, bt313.2.2.2⟩ : S26), (⟨bt317.1, bt317.2.1, bt317.2.2.1, bt317.2.2.2⟩ : S26)] : List (S26)))).bind fun t324 => (some (t324 == 7))))) else (some false))) else (some false))) else (none)) else (some false)) else (some false))) else (none)) else (some false))) else (none)) else (some false)) else (some false)))))) else (some false))))))))) = some r := H
  have A2 := Aside0.mk A20
  clear A20
  replace H := Option.bind_eq_some_iff.mp H
  obtain ⟨⟨t254, t255, t256, t257⟩, A30, H⟩ := H
  replace H : ((casementlaw02_at.f 1 1 1 1).bind fun bt258 => ((rect_Minus.f k t254 t255 t256 t257 bt258.1 bt258.2.1 bt258.2.2.1 bt258.2.2.2).bind fun t262 => ((casementlaw02_at.f 0 0 5 5).bind fun bt265 => ((casementlaw02_at.f 3 3 5 5).bind fun bt269 => ((rect_Meet.f bt265.1 bt265.2.1 bt265.2.2.1 bt265.2.2.2 bt269.1 bt269.2.1 bt269.2.2.1 bt269.2.2.2).bind fun bt273 => ((casementlaw02_at.f 3 3 2 2).bind fun bt277 => (if (bt273.1 == bt277.1 && (bt273.2.1 == bt277.2.1 && (bt273.2.2.1 == bt277.2.2.1 && (bt273.2.2.2 == bt277.2.2.2)))) = true then ((casementlaw02_at.f 8 8 4 4).bind fun bt281 => ((casementlaw02_at.f 0 0 10 10).bind fun bt285 => ((rect_Into.f bt281.1 bt281.2.1 bt281.2.2.1 bt281.2.2.2 bt285.1 bt285.2.1 bt285.2.2.1 bt285.2.2.2).bind fun bt289 => ((casementlaw02_at.f 6 6 4 4).bind fun bt293 => (if (bt289.1 == bt293.1 && (bt289.2.1 == bt293.2.1 && (bt289.2.2.1 == bt293.2.2.1 && (bt289.2.2.2 == bt293.2.2.2)))) = true then (if (t251.length : Int) = 3 then (if 1 < (t251.length : Int) then ((casementlaw02_at.f 4 0 6 3).bind fun bt298 => (if (((rd_T26 t251 1).f0) == bt298.1 && (((rd_T26 t251 1).f1) == bt298.2.1 && (((rd_T26 t251 1).f2) == bt298.2.2.1 && (((rd_T26 t251 1).f3) == bt298.2.2.2)))) = true then (if 2 < (t251.length : Int) then ((casementlaw02_at.f 0 0 0 0).bind fun bt303 => (if (((rd_T26 t251 2).f0) == bt303.1 && (((rd_T26 t251 2).f1) == bt303.2.1 && (((rd_T26 t251 2).f2) == bt303.2.2.1 && (((rd_T26 t251 2).f3) == bt303.2.2.2)))) = true then (if (t262.length : Int) = 4 then (if 2 < (t262.length : Int) then ((casementlaw02_at.f 2 1 1 1).bind fun bt308 => (if (((rd_T26 t262 2).f0) == bt308.1 && (((rd_T26 t262 2).f1) == bt308.2.1 && (((rd_T26 t262 2).f2) == bt308.2.2.1 && (((rd_T26 t262 2).f3) == bt308.2.2.2)))) = true then ((rect_Sum.f k 9223372036854775807 1).bind fun t312 => (if t312 = 9223372036854775807 then ((casementlaw02_at.f 0 0 2 2).bind fun bt313 => ((casementlaw02_at.f 1 1 2 2).bind fun bt317 => ((rect_Cover.f k (([(⟨bt313.1, bt313.2.1, bt313.2.2.1, bt313.2.2.2⟩ : S26), (⟨bt317.1, bt317.2.1, bt317.2.2.1, bt317.2.2.2⟩ : S26)] : List (S26)))).bind fun t324 => (some (t324 == 7))))) else (some false))) else (some false))) else (none)) else (some false)) else (some false))) else (none)) else (some false))) else (none)) else (some false)) else (some false)))))) else (some false)))))))) = some r := H
  have A3 := Aside0.mk A30
  clear A30
  replace H := Option.bind_eq_some_iff.mp H
  obtain ⟨⟨t258, t259, t260, t261⟩, A40, H⟩ := H
  replace H : ((rect_Minus.f k t254 t255 t256 t257 t258 t259 t260 t261).bind fun t262 => ((casementlaw02_at.f 0 0 5 5).bind fun bt265 => ((casementlaw02_at.f 3 3 5 5).bind fun bt269 => ((rect_Meet.f bt265.1 bt265.2.1 bt265.2.2.1 bt265.2.2.2 bt269.1 bt269.2.1 bt269.2.2.1 bt269.2.2.2).bind fun bt273 => ((casementlaw02_at.f 3 3 2 2).bind fun bt277 => (if (bt273.1 == bt277.1 && (bt273.2.1 == bt277.2.1 && (bt273.2.2.1 == bt277.2.2.1 && (bt273.2.2.2 == bt277.2.2.2)))) = true then ((casementlaw02_at.f 8 8 4 4).bind fun bt281 => ((casementlaw02_at.f 0 0 10 10).bind fun bt285 => ((rect_Into.f bt281.1 bt281.2.1 bt281.2.2.1 bt281.2.2.2 bt285.1 bt285.2.1 bt285.2.2.1 bt285.2.2.2).bind fun bt289 => ((casementlaw02_at.f 6 6 4 4).bind fun bt293 => (if (bt289.1 == bt293.1 && (bt289.2.1 == bt293.2.1 && (bt289.2.2.1 == bt293.2.2.1 && (bt289.2.2.2 == bt293.2.2.2)))) = true then (if (t251.length : Int) = 3 then (if 1 < (t251.length : Int) then ((casementlaw02_at.f 4 0 6 3).bind fun bt298 => (if (((rd_T26 t251 1).f0) == bt298.1 && (((rd_T26 t251 1).f1) == bt298.2.1 && (((rd_T26 t251 1).f2) == bt298.2.2.1 && (((rd_T26 t251 1).f3) == bt298.2.2.2)))) = true then (if 2 < (t251.length : Int) then ((casementlaw02_at.f 0 0 0 0).bind fun bt303 => (if (((rd_T26 t251 2).f0) == bt303.1 && (((rd_T26 t251 2).f1) == bt303.2.1 && (((rd_T26 t251 2).f2) == bt303.2.2.1 && (((rd_T26 t251 2).f3) == bt303.2.2.2)))) = true then (if (t262.length : Int) = 4 then (if 2 < (t262.length : Int) then ((casementlaw02_at.f 2 1 1 1).bind fun bt308 => (if (((rd_T26 t262 2).f0) == bt308.1 && (((rd_T26 t262 2).f1) == bt308.2.1 && (((rd_T26 t262 2).f2) == bt308.2.2.1 && (((rd_T26 t262 2).f3) == bt308.2.2.2)))) = true then ((rect_Sum.f k 9223372036854775807 1).bind fun t312 => (if t312 = 9223372036854775807 then ((casementlaw02_at.f 0 0 2 2).bind fun bt313 => ((casementlaw02_at.f 1 1 2 2).bind fun bt317 => ((rect_Cover.f k (([(⟨bt313.1, bt313.2.1, bt313.2.2.1, bt313.2.2.2⟩ : S26), (⟨bt317.1, bt317.2.1, bt317.2.2.1, bt317.2.2.2⟩ : S26)] : List (S26)))).bind fun t324 => (some (t324 == 7))))) else (some false))) else (some false))) else (none)) else (some false)) else (some false))) else (none)) else (some false))) else (none)) else (some false)) else (some false)))))) else (some false))))))) = some r := H
  have A4 := Aside0.mk A40
  clear A40
  replace H := Option.bind_eq_some_iff.mp H
  obtain ⟨t262, A50, H⟩ := H
  replace H : ((casementlaw02_at.f 0 0 5 5).bind fun bt265 => ((casementlaw02_at.f 3 3 5 5).bind fun bt269 => ((rect_Meet.f bt265.1 bt265.2.1 bt265.2.2.1 bt265.2.2.2 bt269.1 bt269.2.1 bt269.2.2.1 bt269.2.2.2).bind fun bt273 => ((casementlaw02_at.f 3 3 2 2).bind fun bt277 => (if (bt273.1 == bt277.1 && (bt273.2.1 == bt277.2.1 && (bt273.2.2.1 == bt277.2.2.1 && (bt273.2.2.2 == bt277.2.2.2)))) = true then ((casementlaw02_at.f 8 8 4 4).bind fun bt281 => ((casementlaw02_at.f 0 0 10 10).bind fun bt285 => ((rect_Into.f bt281.1 bt281.2.1 bt281.2.2.1 bt281.2.2.2 bt285.1 bt285.2.1 bt285.2.2.1 bt285.2.2.2).bind fun bt289 => ((casementlaw02_at.f 6 6 4 4).bind fun bt293 => (if (bt289.1 == bt293.1 && (bt289.2.1 == bt293.2.1 && (bt289.2.2.1 == bt293.2.2.1 && (bt289.2.2.2 == bt293.2.2.2)))) = true then (if (t251.length : Int) = 3 then (if 1 < (t251.length : Int) then ((casementlaw02_at.f 4 0 6 3).bind fun bt298 => (if (((rd_T26 t251 1).f0) == bt298.1 && (((rd_T26 t251 1).f1) == bt298.2.1 && (((rd_T26 t251 1).f2) == bt298.2.2.1 && (((rd_T26 t251 1).f3) == bt298.2.2.2)))) = true then (if 2 < (t251.length : Int) then ((casementlaw02_at.f 0 0 0 0).bind fun bt303 => (if (((rd_T26 t251 2).f0) == bt303.1 && (((rd_T26 t251 2).f1) == bt303.2.1 && (((rd_T26 t251 2).f2) == bt303.2.2.1 && (((rd_T26 t251 2).f3) == bt303.2.2.2)))) = true then (if (t262.length : Int) = 4 then (if 2 < (t262.length : Int) then ((casementlaw02_at.f 2 1 1 1).bind fun bt308 => (if (((rd_T26 t262 2).f0) == bt308.1 && (((rd_T26 t262 2).f1) == bt308.2.1 && (((rd_T26 t262 2).f2) == bt308.2.2.1 && (((rd_T26 t262 2).f3) == bt308.2.2.2)))) = true then ((rect_Sum.f k 9223372036854775807 1).bind fun t312 => (if t312 = 9223372036854775807 then ((casementlaw02_at.f 0 0 2 2).bind fun bt313 => ((casementlaw02_at.f 1 1 2 2).bind fun bt317 => ((rect_Cover.f k (([(⟨bt313.1, bt313.2.1, bt313.2.2.1, bt313.2.2.2⟩ : S26), (⟨bt317.1, bt317.2.1, bt317.2.2.1, bt317.2.2.2⟩ : S26)] : List (S26)))).bind fun t324 => (some (t324 == 7))))) else (some false))) else (some false))) else (none)) else (some false)) else (some false))) else (none)) else (some false))) else (none)) else (some false)) else (some false)))))) else (some false)))))) = some r := H
  have A5 := Aside0.mk A50
  clear A50
  replace H := Option.bind_eq_some_iff.mp H
  obtain ⟨⟨t265, t266, t267, t268⟩, A60, H⟩ := H
  replace H : ((casementlaw02_at.f 3 3 5 5).bind fun bt269 => ((rect_Meet.f t265 t266 t267 t268 bt269.1 bt269.2.1 bt269.2.2.1 bt269.2.2.2).bind fun bt273 => ((casementlaw02_at.f 3 3 2 2).bind fun bt277 => (if (bt273.1 == bt277.1 && (bt273.2.1 == bt277.2.1 && (bt273.2.2.1 == bt277.2.2.1 && (bt273.2.2.2 == bt277.2.2.2)))) = true then ((casementlaw02_at.f 8 8 4 4).bind fun bt281 => ((casementlaw02_at.f 0 0 10 10).bind fun bt285 => ((rect_Into.f bt281.1 bt281.2.1 bt281.2.2.1 bt281.2.2.2 bt285.1 bt285.2.1 bt285.2.2.1 bt285.2.2.2).bind fun bt289 => ((casementlaw02_at.f 6 6 4 4).bind fun bt293 => (if (bt289.1 == bt293.1 && (bt289.2.1 == bt293.2.1 && (bt289.2.2.1 == bt293.2.2.1 && (bt289.2.2.2 == bt293.2.2.2)))) = true then (if (t251.length : Int) = 3 then (if 1 < (t251.length : Int) then ((casementlaw02_at.f 4 0 6 3).bind fun bt298 => (if (((rd_T26 t251 1).f0) == bt298.1 && (((rd_T26 t251 1).f1) == bt298.2.1 && (((rd_T26 t251 1).f2) == bt298.2.2.1 && (((rd_T26 t251 1).f3) == bt298.2.2.2)))) = true then (if 2 < (t251.length : Int) then ((casementlaw02_at.f 0 0 0 0).bind fun bt303 => (if (((rd_T26 t251 2).f0) == bt303.1 && (((rd_T26 t251 2).f1) == bt303.2.1 && (((rd_T26 t251 2).f2) == bt303.2.2.1 && (((rd_T26 t251 2).f3) == bt303.2.2.2)))) = true then (if (t262.length : Int) = 4 then (if 2 < (t262.length : Int) then ((casementlaw02_at.f 2 1 1 1).bind fun bt308 => (if (((rd_T26 t262 2).f0) == bt308.1 && (((rd_T26 t262 2).f1) == bt308.2.1 && (((rd_T26 t262 2).f2) == bt308.2.2.1 && (((rd_T26 t262 2).f3) == bt308.2.2.2)))) = true then ((rect_Sum.f k 9223372036854775807 1).bind fun t312 => (if t312 = 9223372036854775807 then ((casementlaw02_at.f 0 0 2 2).bind fun bt313 => ((casementlaw02_at.f 1 1 2 2).bind fun bt317 => ((rect_Cover.f k (([(⟨bt313.1, bt313.2.1, bt313.2.2.1, bt313.2.2.2⟩ : S26), (⟨bt317.1, bt317.2.1, bt317.2.2.1, bt317.2.2.2⟩ : S26)] : List (S26)))).bind fun t324 => (some (t324 == 7))))) else (some false))) else (some false))) else (none)) else (some false)) else (some false))) else (none)) else (some false))) else (none)) else (some false)) else (some false)))))) else (some false))))) = some r := H
  have A6 := Aside0.mk A60
  clear A60
  replace H := Option.bind_eq_some_iff.mp H
  obtain ⟨⟨t269, t270, t271, t272⟩, A70, H⟩ := H
  replace H : ((rect_Meet.f t265 t266 t267 t268 t269 t270 t271 t272).bind fun bt273 => ((casementlaw02_at.f 3 3 2 2).bind fun bt277 => (if (bt273.1 == bt277.1 && (bt273.2.1 == bt277.2.1 && (bt273.2.2.1 == bt277.2.2.1 && (bt273.2.2.2 == bt277.2.2.2)))) = true then ((casementlaw02_at.f 8 8 4 4).bind fun bt281 => ((casementlaw02_at.f 0 0 10 10).bind fun bt285 => ((rect_Into.f bt281.1 bt281.2.1 bt281.2.2.1 bt281.2.2.2 bt285.1 bt285.2.1 bt285.2.2.1 bt285.2.2.2).bind fun bt289 => ((casementlaw02_at.f 6 6 4 4).bind fun bt293 => (if (bt289.1 == bt293.1 && (bt289.2.1 == bt293.2.1 && (bt289.2.2.1 == bt293.2.2.1 && (bt289.2.2.2 == bt293.2.2.2)))) = true then (if (t251.length : Int) = 3 then (if 1 < (t251.length : Int) then ((casementlaw02_at.f 4 0 6 3).bind fun bt298 => (if (((rd_T26 t251 1).f0) == bt298.1 && (((rd_T26 t251 1).f1) == bt298.2.1 && (((rd_T26 t251 1).f2) == bt298.2.2.1 && (((rd_T26 t251 1).f3) == bt298.2.2.2)))) = true then (if 2 < (t251.length : Int) then ((casementlaw02_at.f 0 0 0 0).bind fun bt303 => (if (((rd_T26 t251 2).f0) == bt303.1 && (((rd_T26 t251 2).f1) == bt303.2.1 && (((rd_T26 t251 2).f2) == bt303.2.2.1 && (((rd_T26 t251 2).f3) == bt303.2.2.2)))) = true then (if (t262.length : Int) = 4 then (if 2 < (t262.length : Int) then ((casementlaw02_at.f 2 1 1 1).bind fun bt308 => (if (((rd_T26 t262 2).f0) == bt308.1 && (((rd_T26 t262 2).f1) == bt308.2.1 && (((rd_T26 t262 2).f2) == bt308.2.2.1 && (((rd_T26 t262 2).f3) == bt308.2.2.2)))) = true then ((rect_Sum.f k 9223372036854775807 1).bind fun t312 => (if t312 = 9223372036854775807 then ((casementlaw02_at.f 0 0 2 2).bind fun bt313 => ((casementlaw02_at.f 1 1 2 2).bind fun bt317 => ((rect_Cover.f k (([(⟨bt313.1, bt313.2.1, bt313.2.2.1, bt313.2.2.2⟩ : S26), (⟨bt317.1, bt317.2.1, bt317.2.2.1, bt317.2.2.2⟩ : S26)] : List (S26)))).bind fun t324 => (some (t324 == 7))))) else (some false))) else (some false))) else (none)) else (some false)) else (some false))) else (none)) else (some false))) else (none)) else (some false)) else (some false)))))) else (some false)))) = some r := H
  have A7 := Aside0.mk A70
  clear A70
  replace H := Option.bind_eq_some_iff.mp H
  obtain ⟨⟨t273, t274, t275, t276⟩, A80, H⟩ := H
  replace H : ((casementlaw02_at.f 3 3 2 2).bind fun bt277 => (if (t273 == bt277.1 && (t274 == bt277.2.1 && (t275 == bt277.2.2.1 && (t276 == bt277.2.2.2)))) = true then ((casementlaw02_at.f 8 8 4 4).bind fun bt281 => ((casementlaw02_at.f 0 0 10 10).bind fun bt285 => ((rect_Into.f bt281.1 bt281.2.1 bt281.2.2.1 bt281.2.2.2 bt285.1 bt285.2.1 bt285.2.2.1 bt285.2.2.2).bind fun bt289 => ((casementlaw02_at.f 6 6 4 4).bind fun bt293 => (if (bt289.1 == bt293.1 && (bt289.2.1 == bt293.2.1 && (bt289.2.2.1 == bt293.2.2.1 && (bt289.2.2.2 == bt293.2.2.2)))) = true then (if (t251.length : Int) = 3 then (if 1 < (t251.length : Int) then ((casementlaw02_at.f 4 0 6 3).bind fun bt298 => (if (((rd_T26 t251 1).f0) == bt298.1 && (((rd_T26 t251 1).f1) == bt298.2.1 && (((rd_T26 t251 1).f2) == bt298.2.2.1 && (((rd_T26 t251 1).f3) == bt298.2.2.2)))) = true then (if 2 < (t251.length : Int) then ((casementlaw02_at.f 0 0 0 0).bind fun bt303 => (if (((rd_T26 t251 2).f0) == bt303.1 && (((rd_T26 t251 2).f1) == bt303.2.1 && (((rd_T26 t251 2).f2) == bt303.2.2.1 && (((rd_T26 t251 2).f3) == bt303.2.2.2)))) = true then (if (t262.length : Int) = 4 then (if 2 < (t262.length : Int) then ((casementlaw02_at.f 2 1 1 1).bind fun bt308 => (if (((rd_T26 t262 2).f0) == bt308.1 && (((rd_T26 t262 2).f1) == bt308.2.1 && (((rd_T26 t262 2).f2) == bt308.2.2.1 && (((rd_T26 t262 2).f3) == bt308.2.2.2)))) = true then ((rect_Sum.f k 9223372036854775807 1).bind fun t312 => (if t312 = 9223372036854775807 then ((casementlaw02_at.f 0 0 2 2).bind fun bt313 => ((casementlaw02_at.f 1 1 2 2).bind fun bt317 => ((rect_Cover.f k (([(⟨bt313.1, bt313.2.1, bt313.2.2.1, bt313.2.2.2⟩ : S26), (⟨bt317.1, bt317.2.1, bt317.2.2.1, bt317.2.2.2⟩ : S26)] : List (S26)))).bind fun t324 => (some (t324 == 7))))) else (some false))) else (some false))) else (none)) else (some false)) else (some false))) else (none)) else (some false))) else (none)) else (some false)) else (some false)))))) else (some false))) = some r := H
  have A8 := Aside0.mk A80
  clear A80
  replace H := Option.bind_eq_some_iff.mp H
  obtain ⟨⟨t277, t278, t279, t280⟩, A90, H⟩ := H
  replace H : (if (t273 == t277 && (t274 == t278 && (t275 == t279 && (t276 == t280)))) = true then ((casementlaw02_at.f 8 8 4 4).bind fun bt281 => ((casementlaw02_at.f 0 0 10 10).bind fun bt285 => ((rect_Into.f bt281.1 bt281.2.1 bt281.2.2.1 bt281.2.2.2 bt285.1 bt285.2.1 bt285.2.2.1 bt285.2.2.2).bind fun bt289 => ((casementlaw02_at.f 6 6 4 4).bind fun bt293 => (if (bt289.1 == bt293.1 && (bt289.2.1 == bt293.2.1 && (bt289.2.2.1 == bt293.2.2.1 && (bt289.2.2.2 == bt293.2.2.2)))) = true then (if (t251.length : Int) = 3 then (if 1 < (t251.length : Int) then ((casementlaw02_at.f 4 0 6 3).bind fun bt298 => (if (((rd_T26 t251 1).f0) == bt298.1 && (((rd_T26 t251 1).f1) == bt298.2.1 && (((rd_T26 t251 1).f2) == bt298.2.2.1 && (((rd_T26 t251 1).f3) == bt298.2.2.2)))) = true then (if 2 < (t251.length : Int) then ((casementlaw02_at.f 0 0 0 0).bind fun bt303 => (if (((rd_T26 t251 2).f0) == bt303.1 && (((rd_T26 t251 2).f1) == bt303.2.1 && (((rd_T26 t251 2).f2) == bt303.2.2.1 && (((rd_T26 t251 2).f3) == bt303.2.2.2)))) = true then (if (t262.length : Int) = 4 then (if 2 < (t262.length : Int) then ((casementlaw02_at.f 2 1 1 1).bind fun bt308 => (if (((rd_T26 t262 2).f0) == bt308.1 && (((rd_T26 t262 2).f1) == bt308.2.1 && (((rd_T26 t262 2).f2) == bt308.2.2.1 && (((rd_T26 t262 2).f3) == bt308.2.2.2)))) = true then ((rect_Sum.f k 9223372036854775807 1).bind fun t312 => (if t312 = 9223372036854775807 then ((casementlaw02_at.f 0 0 2 2).bind fun bt313 => ((casementlaw02_at.f 1 1 2 2).bind fun bt317 => ((rect_Cover.f k (([(⟨bt313.1, bt313.2.1, bt313.2.2.1, bt313.2.2.2⟩ : S26), (⟨bt317.1, bt317.2.1, bt317.2.2.1, bt317.2.2.2⟩ : S26)] : List (S26)))).bind fun t324 => (some (t324 == 7))))) else (some false))) else (some false))) else (none)) else (some false)) else (some false))) else (none)) else (some false))) else (none)) else (some false)) else (some false)))))) else (some false)) = some r := H
  have A9 := Aside0.mk A90
  clear A90
  by_cases c10 : (t273 == t277 && (t274 == t278 && (t275 == t279 && (t276 == t280)))) = true
  · rw [if_pos c10] at H
    have c10b0 : (t273 == t277 && (t274 == t278 && (t275 == t279 && (t276 == t280)))) = true := c10
    (try (have c10b1 : decide (t273 = t277 && (t274 == t278 && (t275 == t279 && (t276 == t280)))) = true := by simpa using c10))
    (try (have c10b2 : (t273 == t277 && (t274 == t278 && (t275 == t279 && (t276 == t280)))) = true := by simpa using c10))
    (try (have c10b3 : ((t273) = (t277 && (t274 == t278 && (t275 == t279 && (t276 == t280))))) = True := eq_true ((fun (a_ b_ : Bool) (h_ : ((a_ == b_) = true)) => (show (a_ = b_) from by revert h_; cases a_ <;> cases b_ <;> decide)) (t273) (t277 && (t274 == t278 && (t275 == t279 && (t276 == t280)))) c10)))
    clear c10
    replace H := Option.bind_eq_some_iff.mp H
    obtain ⟨⟨t281, t282, t283, t284⟩, A110, H⟩ := H
    replace H : ((casementlaw02_at.f 0 0 10 10).bind fun bt285 => ((rect_Into.f t281 t282 t283 t284 bt285.1 bt285.2.1 bt285.2.2.1 bt285.2.2.2).bind fun bt289 => ((casementlaw02_at.f 6 6 4 4).bind fun bt293 => (if (bt289.1 == bt293.1 && (bt289.2.1 == bt293.2.1 && (bt289.2.2.1 == bt293.2.2.1 && (bt289.2.2.2 == bt293.2.2.2)))) = true then (if (t251.length : Int) = 3 then (if 1 < (t251.length : Int) then ((casementlaw02_at.f 4 0 6 3).bind fun bt298 => (if (((rd_T26 t251 1).f0) == bt298.1 && (((rd_T26 t251 1).f1) == bt298.2.1 && (((rd_T26 t251 1).f2) == bt298.2.2.1 && (((rd_T26 t251 1).f3) == bt298.2.2.2)))) = true then (if 2 < (t251.length : Int) then ((casementlaw02_at.f 0 0 0 0).bind fun bt303 => (if (((rd_T26 t251 2).f0) == bt303.1 && (((rd_T26 t251 2).f1) == bt303.2.1 && (((rd_T26 t251 2).f2) == bt303.2.2.1 && (((rd_T26 t251 2).f3) == bt303.2.2.2)))) = true then (if (t262.length : Int) = 4 then (if 2 < (t262.length : Int) then ((casementlaw02_at.f 2 1 1 1).bind fun bt308 => (if (((rd_T26 t262 2).f0) == bt308.1 && (((rd_T26 t262 2).f1) == bt308.2.1 && (((rd_T26 t262 2).f2) == bt308.2.2.1 && (((rd_T26 t262 2).f3) == bt308.2.2.2)))) = true then ((rect_Sum.f k 9223372036854775807 1).bind fun t312 => (if t312 = 9223372036854775807 then ((casementlaw02_at.f 0 0 2 2).bind fun bt313 => ((casementlaw02_at.f 1 1 2 2).bind fun bt317 => ((rect_Cover.f k (([(⟨bt313.1, bt313.2.1, bt313.2.2.1, bt313.2.2.2⟩ : S26), (⟨bt317.1, bt317.2.1, bt317.2.2.1, bt317.2.2.2⟩ : S26)] : List (S26)))).bind fun t324 => (some (t324 == 7))))) else (some false))) else (some false))) else (none)) else (some false)) else (some false))) else (none)) else (some false))) else (none)) else (some false)) else (some false))))) = some r := H
    have A11 := Aside0.mk A110
    clear A110
    replace H := Option.bind_eq_some_iff.mp H
    obtain ⟨⟨t285, t286, t287, t288⟩, A120, H⟩ := H
    replace H : ((rect_Into.f t281 t282 t283 t284 t285 t286 t287 t288).bind fun bt289 => ((casementlaw02_at.f 6 6 4 4).bind fun bt293 => (if (bt289.1 == bt293.1 && (bt289.2.1 == bt293.2.1 && (bt289.2.2.1 == bt293.2.2.1 && (bt289.2.2.2 == bt293.2.2.2)))) = true then (if (t251.length : Int) = 3 then (if 1 < (t251.length : Int) then ((casementlaw02_at.f 4 0 6 3).bind fun bt298 => (if (((rd_T26 t251 1).f0) == bt298.1 && (((rd_T26 t251 1).f1) == bt298.2.1 && (((rd_T26 t251 1).f2) == bt298.2.2.1 && (((rd_T26 t251 1).f3) == bt298.2.2.2)))) = true then (if 2 < (t251.length : Int) then ((casementlaw02_at.f 0 0 0 0).bind fun bt303 => (if (((rd_T26 t251 2).f0) == bt303.1 && (((rd_T26 t251 2).f1) == bt303.2.1 && (((rd_T26 t251 2).f2) == bt303.2.2.1 && (((rd_T26 t251 2).f3) == bt303.2.2.2)))) = true then (if (t262.length : Int) = 4 then (if 2 < (t262.length : Int) then ((casementlaw02_at.f 2 1 1 1).bind fun bt308 => (if (((rd_T26 t262 2).f0) == bt308.1 && (((rd_T26 t262 2).f1) == bt308.2.1 && (((rd_T26 t262 2).f2) == bt308.2.2.1 && (((rd_T26 t262 2).f3) == bt308.2.2.2)))) = true then ((rect_Sum.f k 9223372036854775807 1).bind fun t312 => (if t312 = 9223372036854775807 then ((casementlaw02_at.f 0 0 2 2).bind fun bt313 => ((casementlaw02_at.f 1 1 2 2).bind fun bt317 => ((rect_Cover.f k (([(⟨bt313.1, bt313.2.1, bt313.2.2.1, bt313.2.2.2⟩ : S26), (⟨bt317.1, bt317.2.1, bt317.2.2.1, bt317.2.2.2⟩ : S26)] : List (S26)))).bind fun t324 => (some (t324 == 7))))) else (some false))) else (some false))) else (none)) else (some false)) else (some false))) else (none)) else (some false))) else (none)) else (some false)) else (some false)))) = some r := H
    have A12 := Aside0.mk A120
    clear A120
    replace H := Option.bind_eq_some_iff.mp H
    obtain ⟨⟨t289, t290, t291, t292⟩, A130, H⟩ := H
    replace H : ((casementlaw02_at.f 6 6 4 4).bind fun bt293 => (if (t289 == bt293.1 && (t290 == bt293.2.1 && (t291 == bt293.2.2.1 && (t292 == bt293.2.2.2)))) = true then (if (t251.length : Int) = 3 then (if 1 < (t251.length : Int) then ((casementlaw02_at.f 4 0 6 3).bind fun bt298 => (if (((rd_T26 t251 1).f0) == bt298.1 && (((rd_T26 t251 1).f1) == bt298.2.1 && (((rd_T26 t251 1).f2) == bt298.2.2.1 && (((rd_T26 t251 1).f3) == bt298.2.2.2)))) = true then (if 2 < (t251.length : Int) then ((casementlaw02_at.f 0 0 0 0).bind fun bt303 => (if (((rd_T26 t251 2).f0) == bt303.1 && (((rd_T26 t251 2).f1) == bt303.2.1 && (((rd_T26 t251 2).f2) == bt303.2.2.1 && (((rd_T26 t251 2).f3) == bt303.2.2.2)))) = true then (if (t262.length : Int) = 4 then (if 2 < (t262.length : Int) then ((casementlaw02_at.f 2 1 1 1).bind fun bt308 => (if (((rd_T26 t262 2).f0) == bt308.1 && (((rd_T26 t262 2).f1) == bt308.2.1 && (((rd_T26 t262 2).f2) == bt308.2.2.1 && (((rd_T26 t262 2).f3) == bt308.2.2.2)))) = true then ((rect_Sum.f k 9223372036854775807 1).bind fun t312 => (if t312 = 9223372036854775807 then ((casementlaw02_at.f 0 0 2 2).bind fun bt313 => ((casementlaw02_at.f 1 1 2 2).bind fun bt317 => ((rect_Cover.f k (([(⟨bt313.1, bt313.2.1, bt313.2.2.1, bt313.2.2.2⟩ : S26), (⟨bt317.1, bt317.2.1, bt317.2.2.1, bt317.2.2.2⟩ : S26)] : List (S26)))).bind fun t324 => (some (t324 == 7))))) else (some false))) else (some false))) else (none)) else (some false)) else (some false))) else (none)) else (some false))) else (none)) else (some false)) else (some false))) = some r := H
    have A13 := Aside0.mk A130
    clear A130
    replace H := Option.bind_eq_some_iff.mp H
    obtain ⟨⟨t293, t294, t295, t296⟩, A140, H⟩ := H
    replace H : (if (t289 == t293 && (t290 == t294 && (t291 == t295 && (t292 == t296)))) = true then (if (t251.length : Int) = 3 then (if 1 < (t251.length : Int) then ((casementlaw02_at.f 4 0 6 3).bind fun bt298 => (if (((rd_T26 t251 1).f0) == bt298.1 && (((rd_T26 t251 1).f1) == bt298.2.1 && (((rd_T26 t251 1).f2) == bt298.2.2.1 && (((rd_T26 t251 1).f3) == bt298.2.2.2)))) = true then (if 2 < (t251.length : Int) then ((casementlaw02_at.f 0 0 0 0).bind fun bt303 => (if (((rd_T26 t251 2).f0) == bt303.1 && (((rd_T26 t251 2).f1) == bt303.2.1 && (((rd_T26 t251 2).f2) == bt303.2.2.1 && (((rd_T26 t251 2).f3) == bt303.2.2.2)))) = true then (if (t262.length : Int) = 4 then (if 2 < (t262.length : Int) then ((casementlaw02_at.f 2 1 1 1).bind fun bt308 => (if (((rd_T26 t262 2).f0) == bt308.1 && (((rd_T26 t262 2).f1) == bt308.2.1 && (((rd_T26 t262 2).f2) == bt308.2.2.1 && (((rd_T26 t262 2).f3) == bt308.2.2.2)))) = true then ((rect_Sum.f k 9223372036854775807 1).bind fun t312 => (if t312 = 9223372036854775807 then ((casementlaw02_at.f 0 0 2 2).bind fun bt313 => ((casementlaw02_at.f 1 1 2 2).bind fun bt317 => ((rect_Cover.f k (([(⟨bt313.1, bt313.2.1, bt313.2.2.1, bt313.2.2.2⟩ : S26), (⟨bt317.1, bt317.2.1, bt317.2.2.1, bt317.2.2.2⟩ : S26)] : List (S26)))).bind fun t324 => (some (t324 == 7))))) else (some false))) else (some false))) else (none)) else (some false)) else (some false))) else (none)) else (some false))) else (none)) else (some false)) else (some false)) = some r := H
    have A14 := Aside0.mk A140
    clear A140
    by_cases c15 : (t289 == t293 && (t290 == t294 && (t291 == t295 && (t292 == t296)))) = true
    · rw [if_pos c15] at H
      have c15b0 : (t289 == t293 && (t290 == t294 && (t291 == t295 && (t292 == t296)))) = true := c15
      (try (have c15b1 : decide (t289 = t293 && (t290 == t294 && (t291 == t295 && (t292 == t296)))) = true := by simpa using c15))
      (try (have c15b2 : (t289 == t293 && (t290 == t294 && (t291 == t295 && (t292 == t296)))) = true := by simpa using c15))
      (try (have c15b3 : ((t289) = (t293 && (t290 == t294 && (t291 == t295 && (t292 == t296))))) = True := eq_true ((fun (a_ b_ : Bool) (h_ : ((a_ == b_) = true)) => (show (a_ = b_) from by revert h_; cases a_ <;> cases b_ <;> decide)) (t289) (t293 && (t290 == t294 && (t291 == t295 && (t292 == t296)))) c15)))
      clear c15
      by_cases c16 : (t251.length : Int) = 3
      · rw [if_pos c16] at H
        have c16b0 : ((t251.length : Int) == 3) = true := beq_iff_eq.mpr c16
        have c16b1 : ((t251.length : Int) != 3) = false := bne_eq_false_iff_eq.mpr c16
        clear c16
        by_cases c17 : 1 < (t251.length : Int)
        · rw [if_pos c17] at H
          have c17b0 : decide (1 < (t251.length : Int)) = true := decide_eq_true c17
          have c17b1 : decide (1 < t251.length) = true := decide_eq_true (by omega)
          clear c17
          replace H := Option.bind_eq_some_iff.mp H
          obtain ⟨⟨t298, t299, t300, t301⟩, A180, H⟩ := H
          replace H : (if (((rd_T26 t251 1).f0) == t298 && (((rd_T26 t251 1).f1) == t299 && (((rd_T26 t251 1).f2) == t300 && (((rd_T26 t251 1).f3) == t301)))) = true then (if 2 < (t251.length : Int) then ((casementlaw02_at.f 0 0 0 0).bind fun bt303 => (if (((rd_T26 t251 2).f0) == bt303.1 && (((rd_T26 t251 2).f1) == bt303.2.1 && (((rd_T26 t251 2).f2) == bt303.2.2.1 && (((rd_T26 t251 2).f3) == bt303.2.2.2)))) = true then (if (t262.length : Int) = 4 then (if 2 < (t262.length : Int) then ((casementlaw02_at.f 2 1 1 1).bind fun bt308 => (if (((rd_T26 t262 2).f0) == bt308.1 && (((rd_T26 t262 2).f1) == bt308.2.1 && (((rd_T26 t262 2).f2) == bt308.2.2.1 && (((rd_T26 t262 2).f3) == bt308.2.2.2)))) = true then ((rect_Sum.f k 9223372036854775807 1).bind fun t312 => (if t312 = 9223372036854775807 then ((casementlaw02_at.f 0 0 2 2).bind fun bt313 => ((casementlaw02_at.f 1 1 2 2).bind fun bt317 => ((rect_Cover.f k (([(⟨bt313.1, bt313.2.1, bt313.2.2.1, bt313.2.2.2⟩ : S26), (⟨bt317.1, bt317.2.1, bt317.2.2.1, bt317.2.2.2⟩ : S26)] : List (S26)))).bind fun t324 => (some (t324 == 7))))) else (some false))) else (some false))) else (none)) else (some false)) else (some false))) else (none)) else (some false)) = some r := H
          have A18 := Aside0.mk A180
          clear A180
          by_cases c19 : (((rd_T26 t251 1).f0) == t298 && (((rd_T26 t251 1).f1) == t299 && (((rd_T26 t251 1).f2) == t300 && (((rd_T26 t251 1).f3) == t301)))) = true
          · rw [if_pos c19] at H
            have c19b0 : (((rd_T26 t251 1).f0) == t298 && (((rd_T26 t251 1).f1) == t299 && (((rd_T26 t251 1).f2) == t300 && (((rd_T26 t251 1).f3) == t301)))) = true := c19
            (try (have c19b1 : decide (((rd_T26 t251 1).f0) = t298 && (((rd_T26 t251 1).f1) == t299 && (((rd_T26 t251 1).f2) == t300 && (((rd_T26 t251 1).f3) == t301)))) = true := by simpa using c19))
            (try (have c19b2 : (((rd_T26 t251 1).f0) == t298 && (((rd_T26 t251 1).f1) == t299 && (((rd_T26 t251 1).f2) == t300 && (((rd_T26 t251 1).f3) == t301)))) = true := by simpa using c19))
            (try (have c19b3 : ((((rd_T26 t251 1).f0)) = (t298 && (((rd_T26 t251 1).f1) == t299 && (((rd_T26 t251 1).f2) == t300 && (((rd_T26 t251 1).f3) == t301))))) = True := eq_true ((fun (a_ b_ : Bool) (h_ : ((a_ == b_) = true)) => (show (a_ = b_) from by revert h_; cases a_ <;> cases b_ <;> decide)) (((rd_T26 t251 1).f0)) (t298 && (((rd_T26 t251 1).f1) == t299 && (((rd_T26 t251 1).f2) == t300 && (((rd_T26 t251 1).f3) == t301)))) c19)))
            clear c19
            by_cases c20 : 2 < (t251.length : Int)
            · rw [if_pos c20] at H
              have c20b0 : decide (2 < (t251.length : Int)) = true := decide_eq_true c20
              have c20b1 : decide (2 < t251.length) = true := decide_eq_true (by omega)
              clear c20
              replace H := Option.bind_eq_some_iff.mp H
              obtain ⟨⟨t303, t304, t305, t306⟩, A210, H⟩ := H
              replace H : (if (((rd_T26 t251 2).f0) == t303 && (((rd_T26 t251 2).f1) == t304 && (((rd_T26 t251 2).f2) == t305 && (((rd_T26 t251 2).f3) == t306)))) = true then (if (t262.length : Int) = 4 then (if 2 < (t262.length : Int) then ((casementlaw02_at.f 2 1 1 1).bind fun bt308 => (if (((rd_T26 t262 2).f0) == bt308.1 && (((rd_T26 t262 2).f1) == bt308.2.1 && (((rd_T26 t262 2).f2) == bt308.2.2.1 && (((rd_T26 t262 2).f3) == bt308.2.2.2)))) = true then ((rect_Sum.f k 9223372036854775807 1).bind fun t312 => (if t312 = 9223372036854775807 then ((casementlaw02_at.f 0 0 2 2).bind fun bt313 => ((casementlaw02_at.f 1 1 2 2).bind fun bt317 => ((rect_Cover.f k (([(⟨bt313.1, bt313.2.1, bt313.2.2.1, bt313.2.2.2⟩ : S26), (⟨bt317.1, bt317.2.1, bt317.2.2.1, bt317.2.2.2⟩ : S26)] : List (S26)))).bind fun t324 => (some (t324 == 7))))) else (some false))) else (some false))) else (none)) else (some false)) else (some false)) = some r := H
              have A21 := Aside0.mk A210
              clear A210
              by_cases c22 : (((rd_T26 t251 2).f0) == t303 && (((rd_T26 t251 2).f1) == t304 && (((rd_T26 t251 2).f2) == t305 && (((rd_T26 t251 2).f3) == t306)))) = true
              · rw [if_pos c22] at H
                have c22b0 : (((rd_T26 t251 2).f0) == t303 && (((rd_T26 t251 2).f1) == t304 && (((rd_T26 t251 2).f2) == t305 && (((rd_T26 t251 2).f3) == t306)))) = true := c22
                (try (have c22b1 : decide (((rd_T26 t251 2).f0) = t303 && (((rd_T26 t251 2).f1) == t304 && (((rd_T26 t251 2).f2) == t305 && (((rd_T26 t251 2).f3) == t306)))) = true := by simpa using c22))
                (try (have c22b2 : (((rd_T26 t251 2).f0) == t303 && (((rd_T26 t251 2).f1) == t304 && (((rd_T26 t251 2).f2) == t305 && (((rd_T26 t251 2).f3) == t306)))) = true := by simpa using c22))
                (try (have c22b3 : ((((rd_T26 t251 2).f0)) = (t303 && (((rd_T26 t251 2).f1) == t304 && (((rd_T26 t251 2).f2) == t305 && (((rd_T26 t251 2).f3) == t306))))) = True := eq_true ((fun (a_ b_ : Bool) (h_ : ((a_ == b_) = true)) => (show (a_ = b_) from by revert h_; cases a_ <;> cases b_ <;> decide)) (((rd_T26 t251 2).f0)) (t303 && (((rd_T26 t251 2).f1) == t304 && (((rd_T26 t251 2).f2) == t305 && (((rd_T26 t251 2).f3) == t306)))) c22)))
                clear c22
                by_cases c23 : (t262.length : Int) = 4
                · rw [if_pos c23] at H
                  have c23b0 : ((t262.length : Int) == 4) = true := beq_iff_eq.mpr c23
                  have c23b1 : ((t262.length : Int) != 4) = false := bne_eq_false_iff_eq.mpr c23
                  clear c23
                  by_cases c24 : 2 < (t262.length : Int)
                  · rw [if_pos c24] at H
                    have c24b0 : decide (2 < (t262.length : Int)) = true := decide_eq_true c24
                    have c24b1 : decide (2 < t262.length) = true := decide_eq_true (by omega)
                    clear c24
                    replace H := Option.bind_eq_some_iff.mp H
                    obtain ⟨⟨t308, t309, t310, t311⟩, A250, H⟩ := H
                    replace H : (if (((rd_T26 t262 2).f0) == t308 && (((rd_T26 t262 2).f1) == t309 && (((rd_T26 t262 2).f2) == t310 && (((rd_T26 t262 2).f3) == t311)))) = true then ((rect_Sum.f k 9223372036854775807 1).bind fun t312 => (if t312 = 9223372036854775807 then ((casementlaw02_at.f 0 0 2 2).bind fun bt313 => ((casementlaw02_at.f 1 1 2 2).bind fun bt317 => ((rect_Cover.f k (([(⟨bt313.1, bt313.2.1, bt313.2.2.1, bt313.2.2.2⟩ : S26), (⟨bt317.1, bt317.2.1, bt317.2.2.1, bt317.2.2.2⟩ : S26)] : List (S26)))).bind fun t324 => (some (t324 == 7))))) else (some false))) else (some false)) = some r := H
                    have A25 := Aside0.mk A250
                    clear A250
                    by_cases c26 : (((rd_T26 t262 2).f0) == t308 && (((rd_T26 t262 2).f1) == t309 && (((rd_T26 t262 2).f2) == t310 && (((rd_T26 t262 2).f3) == t311)))) = true
                    · rw [if_pos c26] at H
                      have c26b0 : (((rd_T26 t262 2).f0) == t308 && (((rd_T26 t262 2).f1) == t309 && (((rd_T26 t262 2).f2) == t310 && (((rd_T26 t262 2).f3) == t311)))) = true := c26
                      (try (have c26b1 : decide (((rd_T26 t262 2).f0) = t308 && (((rd_T26 t262 2).f1) == t309 && (((rd_T26 t262 2).f2) == t310 && (((rd_T26 t262 2).f3) == t311)))) = true := by simpa using c26))
                      (try (have c26b2 : (((rd_T26 t262 2).f0) == t308 && (((rd_T26 t262 2).f1) == t309 && (((rd_T26 t262 2).f2) == t310 && (((rd_T26 t262 2).f3) == t311)))) = true := by simpa using c26))
                      (try (have c26b3 : ((((rd_T26 t262 2).f0)) = (t308 && (((rd_T26 t262 2).f1) == t309 && (((rd_T26 t262 2).f2) == t310 && (((rd_T26 t262 2).f3) == t311))))) = True := eq_true ((fun (a_ b_ : Bool) (h_ : ((a_ == b_) = true)) => (show (a_ = b_) from by revert h_; cases a_ <;> cases b_ <;> decide)) (((rd_T26 t262 2).f0)) (t308 && (((rd_T26 t262 2).f1) == t309 && (((rd_T26 t262 2).f2) == t310 && (((rd_T26 t262 2).f3) == t311)))) c26)))
                      clear c26
                      replace H := Option.bind_eq_some_iff.mp H
                      obtain ⟨t312, A270, H⟩ := H
                      replace H : (if t312 = 9223372036854775807 then ((casementlaw02_at.f 0 0 2 2).bind fun bt313 => ((casementlaw02_at.f 1 1 2 2).bind fun bt317 => ((rect_Cover.f k (([(⟨bt313.1, bt313.2.1, bt313.2.2.1, bt313.2.2.2⟩ : S26), (⟨bt317.1, bt317.2.1, bt317.2.2.1, bt317.2.2.2⟩ : S26)] : List (S26)))).bind fun t324 => (some (t324 == 7))))) else (some false)) = some r := H
                      have A27 := Aside0.mk A270
                      clear A270
                      by_cases c28 : t312 = 9223372036854775807
                      · rw [if_pos c28] at H
                        have c28b0 : (t312 == 9223372036854775807) = true := beq_iff_eq.mpr c28
                        have c28b1 : (t312 != 9223372036854775807) = false := bne_eq_false_iff_eq.mpr c28
                        clear c28
                        replace H := Option.bind_eq_some_iff.mp H
                        obtain ⟨⟨t313, t314, t315, t316⟩, A290, H⟩ := H
                        replace H : ((casementlaw02_at.f 1 1 2 2).bind fun bt317 => ((rect_Cover.f k (([(⟨t313, t314, t315, t316⟩ : S26), (⟨bt317.1, bt317.2.1, bt317.2.2.1, bt317.2.2.2⟩ : S26)] : List (S26)))).bind fun t324 => (some (t324 == 7)))) = some r := H
                        have A29 := Aside0.mk A290
                        clear A290
                        replace H := Option.bind_eq_some_iff.mp H
                        obtain ⟨⟨t317, t318, t319, t320⟩, A300, H⟩ := H
                        replace H : ((rect_Cover.f k (([(⟨t313, t314, t315, t316⟩ : S26), (⟨t317, t318, t319, t320⟩ : S26)] : List (S26)))).bind fun t324 => (some (t324 == 7))) = some r := H
                        have A30 := Aside0.mk A300
                        clear A300
                        obtain ⟨y321, hy321⟩ : ∃ y_ : List (S26), y_ = (([(⟨t313, t314, t315, t316⟩ : S26), (⟨t317, t318, t319, t320⟩ : S26)] : List (S26))) := ⟨_, rfl⟩
                        replace H : ((rect_Cover.f k y321).bind fun t324 => (some (t324 == 7))) = some r := by first | (rw [hy321]; with_reducible exact H) | (have H2_ := (Option.bind_some _ _).symm.trans H; rw [hy321]; with_reducible exact H2_) | (have H2_ := (Option.bind_some _ _).symm.trans H; with_reducible exact H2_) | with_reducible exact H | (rw [hy321]; exact H) | exact H
                        have Ny321 := Aside0.mk hy321
                        clear hy321
                        replace H := Option.bind_eq_some_iff.mp H
                        obtain ⟨t324, A310, H⟩ := H
                        replace H : (some (t324 == 7)) = some r := H
                        have A31 := Aside0.mk A310
                        clear A310
                        obtain rfl := Option.some.inj H
                        go_enter Try.func12, Try.ntmps12
                        try go_wp2_with (first | ((with_reducible refine gate_callee (f := 37) rfl ?_); refine goesL_ (some 3) rfl rfl Try.func37 (by kernel_rfl) rfl #[.int .i64 0, .int .i64 0, .int .i64 10, .int .i64 3] rfl (by (try simp only [List.map_toArray, List.map_cons, List.map_nil]); first | done | rfl | (simp only [List.length_drop, List.length_take]; rfl)) ?_; (with_reducible refine (casementlaw02_at.calls 0 0 10 3 t244 t245 t246 t247 _ A1.out).mono ?_); rintro e w32 ⟨rfl, hb⟩; refine ⟨_, rfl, ?_⟩; have n0_ := Aside0.mk (below_step (by repeat (first | (with_reducible first | exact HB.out | apply below_alloc | apply pw_below_drewN | apply below_drew1) | exact HB.out)) hb); clear HB; have HB := n0_; clear n0_; (try clear hb); (try clear hb2); (try clear hk); (try clear hi)) | ((with_reducible refine gate_dst (N := 4) rfl ?_); (try (refine gate_guard (by rfl) ?_; dsimp only)); refine Kd.R_lit (Kd.int .i64) _ 3 ?hg (N := 4) ?hd (xs := ([4, 9, 2] : List Int)) (inner := [.int .i64 4, .int .i64 9, .int .i64 2]) (ok := fun _ => True) (okp := fun _ => True) ?hr ?hp (fun _ hk => hk) trivial (Below.refl _ _) (Nat.le_refl _) (by simp) ?_; (case hd => rfl); (case hg => rfl); (case hr => first | (go_simp; done) | (go_simp; rfl)); (case hp => exact (Reps.one (show Kd.M (Kd.int .i64) _ _ _ 4 [.int .i64 4] from rfl) (Reps.one (show Kd.M (Kd.int .i64) _ _ _ 9 [.int .i64 9] from rfl) (Reps.one (show Kd.M (Kd.int .i64) _ _ _ 2 [.int .i64 2] from rfl) (Reps.none _ _))))); intro v249 w33 ho34 hb hg_ hnew_; clear hg_ hnew_; (first | rw [← Ny248.out] at ho34 | (simp only [Int.reduceToNat] at ho34; rw [← Ny248.out] at ho34)); have n0_ := Aside0.mk (Kd.R_lower ho34 (below_size (by repeat (first | (with_reducible first | exact HB.out | apply below_alloc | apply pw_below_drewN | apply below_drew1) | exact HB.out)))); have n1_ := Aside0.mk (below_step (by repeat (first | (with_reducible first | exact HB.out | apply below_alloc | apply pw_below_drewN | apply below_drew1) | exact HB.out)) hb); clear HB; have HO250 := n0_; have HB := n1_; clear n0_ n1_; clear hb ho34; obtain ⟨Ao35, co35, eo35⟩ := Kd.R_slice HO250.out; subst eo35) | ((with_reducible refine gate_callee (f := 24) rfl ?_); refine goesL_ (some 5) rfl rfl Try.func24 (by kernel_rfl) rfl #[.agg #[.int .i64 t244, .int .i64 t245, .int .i64 t246, .int .i64 t247], .slice Ao35 y248.length co35, .bool false] rfl (by (try simp only [List.map_toArray, List.map_cons, List.map_nil]); first | done | rfl | (simp only [List.length_drop, List.length_take]; rfl)) ?_; (with_reducible refine (rect_Cut.calls k t244 t245 t246 t247 _ _ y248 false t251 _ ?side1 ?side2 A2.out).mono ?_); (case side1 => repeat (first | exact (Kd.R_reads' HO250.out).2.2 | (with_reducible refine Kd.C_alloc ?_ _) | (with_reducible refine Kd.C_drewN ?_ _) | (with_reducible refine Kd.C_drew ?_))); (case side2 => exact (Kd.R_reads' HO250.out).2.1); rintro e w36 ⟨v252, rfl, ho0, hb⟩; refine ⟨_, rfl, ?_⟩; have n0_ := Aside0.mk (Kd.R_below (by (with_reducible repeat (first | apply Kd.R_alloc | apply Kd.R_drewN | apply Kd.R_drew)); exact HO250.out) hb); have n1_ := Aside0.mk (Kd.R_lower ho0 (below_size (by repeat (first | (with_reducible first | exact HB.out | apply below_alloc | apply pw_below_drewN | apply below_drew1) | exact HB.out)))); have n2_ := Aside0.mk (below_step (by repeat (first | (with_reducible first | exact HB.out | apply below_alloc | apply pw_below_drewN | apply below_drew1) | exact HB.out)) hb); clear HO250; clear HB; have HO250 := n0_; have HO253 := n1_; have HB := n2_; clear n0_ n1_ n2_; (try clear hb); (try clear hb2); (try clear hk); (try clear hi); (try clear ho0)) | ((with_reducible refine gate_callee (f := 37) rfl ?_); refine goesL_ (some 6) rfl rfl Try.func37 (by kernel_rfl) rfl #[.int .i64 0, .int .i64 0, .int .i64 3, .int .i64 3] rfl (by (try simp only [List.map_toArray, List.map_cons, List.map_nil]); first | done | rfl | (simp only [List.length_drop, List.length_take]; rfl)) ?_; (with_reducible refine (casementlaw02_at.calls 0 0 3 3 t254 t255 t256 t257 _ A3.out).mono ?_); rintro e w37 ⟨rfl, hb⟩; refine ⟨_, rfl, ?_⟩; have n0_ := Aside0.mk (Kd.R_below (by (with_reducible repeat (first | apply Kd.R_alloc | apply Kd.R_drewN | apply Kd.R_drew)); exact HO250.out) hb); have n1_ := Aside0.mk (Kd.R_below (by (with_reducible repeat (first | apply Kd.R_alloc | apply Kd.R_drewN | apply Kd.R_drew)); exact HO253.out) hb); have n2_ := Aside0.mk (below_step (by repeat (first | (with_reducible first | exact HB.out | apply below_alloc | apply pw_below_drewN | apply below_drew1) | exact HB.out)) hb); clear HO250; clear HO253; clear HB; have HO250 := n0_; have HO253 := n1_; have HB := n2_; clear n0_ n1_ n2_; (try clear hb); (try clear hb2); (try clear hk); (try clear hi)) | ((with_reducible refine gate_callee (f := 37) rfl ?_); refine goesL_ (some 7) rfl rfl Try.func37 (by kernel_rfl) rfl #[.int .i64 1, .int .i64 1, .int .i64 1, .int .i64 1] rfl (by (try simp only [List.map_toArray, List.map_cons, List.map_nil]); first | done | rfl | (simp only [List.length_drop, List.length_take]; rfl)) ?_; (with_reducible refine (casementlaw02_at.calls 1 1 1 1 t258 t259 t260 t261 _ A4.out).mono ?_); rintro e w38 ⟨rfl, hb⟩; refine ⟨_, rfl, ?_⟩; have n0_ := Aside0.mk (Kd.R_below (by (with_reducible repeat (first | apply Kd.R_alloc | apply Kd.R_drewN | apply Kd.R_drew)); exact HO250.out) hb); have n1_ := Aside0.mk (Kd.R_below (by (with_reducible repeat (first | apply Kd.R_alloc | apply Kd.R_drewN | apply Kd.R_drew)); exact HO253.out) hb); have n2_ := Aside0.mk (below_step (by repeat (first | (with_reducible first | exact HB.out | apply below_alloc | apply pw_below_drewN | apply below_drew1) | exact HB.out)) hb); clear HO250; clear HO253; clear HB; have HO250 := n0_; have HO253 := n1_; have HB := n2_; clear n0_ n1_ n2_; (try clear hb); (try clear hb2); (try clear hk); (try clear hi)) | ((with_reducible refine gate_callee (f := 36) rfl ?_); refine goesL_ (some 8) rfl rfl Try.func36 (by kernel_rfl) rfl #[.agg #[.int .i64 t254, .int .i64 t255, .int .i64 t256, .int .i64 t257], .agg #[.int .i64 t258, .int .i64 t259, .int .i64 t260, .int .i64 t261]] rfl (by (try simp only [List.map_toArray, List.map_cons, List.map_nil]); first | done | rfl | (simp only [List.length_drop, List.length_take]; rfl)) ?_; (with_reducible refine (rect_Minus.calls k t254 t255 t256 t257 t258 t259 t260 t261 t262 _ A5.out).mono ?_); rintro e w39 ⟨v263, rfl, ho0, hb⟩; refine ⟨_, rfl, ?_⟩; have n0_ := Aside0.mk (Kd.R_below (by (with_reducible repeat (first | apply Kd.R_alloc | apply Kd.R_drewN | apply Kd.R_drew)); exact HO250.out) hb); have n1_ := Aside0.mk (Kd.R_elder' (by (with_reducible repeat (first | apply Kd.R_alloc | apply Kd.R_drewN | apply Kd.R_drew)); exact HO253.out) (Kd.R_base ho0) hb); have n2_ := Aside0.mk (Kd.R_lower (Kd.R_new' ho0 (Kd.R_lt (by (with_reducible repeat (first | apply Kd.R_alloc | apply Kd.R_drewN | apply Kd.R_drew)); exact HO253.out))) (below_size (by repeat (first | (with_reducible first | exact HB.out | apply below_alloc | apply pw_below_drewN | apply below_drew1) | exact HB.out)))); have n3_ := Aside0.mk (below_step (by repeat (first | (with_reducible first | exact HB.out | apply below_alloc | apply pw_below_drewN | apply below_drew1) | exact HB.out)) hb); clear HO250; clear HO253; clear HB; have HO250 := n0_; have HO253 := n1_; have HO264 := n2_; have HB := n3_; clear n0_ n1_ n2_ n3_; (try clear hb); (try clear hb2); (try clear hk); (try clear hi); (try clear ho0)))
                        have n0_ := Aside0.mk (Kd.R_drew HO250.out)
                        have n1_ := Aside0.mk (Kd.R_drew HO253.out)
                        have n2_ := Aside0.mk (Kd.R_drew HO264.out)
                        have n3_ := Aside0.mk (below_drew1 HB.out)
                        clear HO250
                        clear HO253
                        clear HO264
                        clear HB
                        have HO250 := n0_
                        have HO253 := n1_
                        have HO264 := n2_
                        have HB := n3_
                        clear n0_ n1_ n2_ n3_
                        obtain ⟨Ao49, co49, eo49⟩ := Kd.R_slice HO253.out
                        (first | subst eo49 | (injection eo49 with f1_ f2_ f3_; have f4_ := f1_.symm; have f5_ := f3_.symm; clear f1_ f2_ f3_; subst f4_; subst f5_))
                        have p297 : 0 ≤ (1 : Int) := (by omega)
                        have q297 : 1 < (t251.length : Int) := of_decide_eq_true (by first | (with_reducible assumption) | assumption)
                        obtain ⟨ad297, e297, hx297_0, hx297_1, hx297_2, hx297_3⟩ := at_T26 (Kd.R_reads' HO253.out).2.2 1 p297 q297
                        cases e297
                        (try simp only [show (1 : Int).toNat = 1 from rfl, Nat.reduceMul, Nat.reduceEqDiff, Go.Addr.add, ↓reduceIte] at hx297_0)
                        (try simp only [show (1 : Int).toNat = 1 from rfl, Nat.reduceMul, Nat.reduceEqDiff, Go.Addr.add, ↓reduceIte] at hx297_1)
                        (try simp only [show (1 : Int).toNat = 1 from rfl, Nat.reduceMul, Nat.reduceEqDiff, Go.Addr.add, ↓reduceIte] at hx297_2)
                        (try simp only [show (1 : Int).toNat = 1 from rfl, Nat.reduceMul, Nat.reduceEqDiff, Go.Addr.add, ↓reduceIte] at hx297_3)
                        have qi297 : (1 < t251.length) = True := eq_true (by omega)
                        (try rw [show ((1 : Int)).toNat = 1 from rfl] at hx297_0)
                        (try rw [show 1 * 4 = 4 from rfl] at hx297_0)
                        (try rw [show ((1 : Int)).toNat = 1 from rfl] at hx297_1)
                        (try rw [show 1 * 4 = 4 from rfl] at hx297_1)
                        (try rw [show ((1 : Int)).toNat = 1 from rfl] at hx297_2)
                        (try rw [show 1 * 4 = 4 from rfl] at hx297_2)
                        (try rw [show ((1 : Int)).toNat = 1 from rfl] at hx297_3)
                        (try rw [show 1 * 4 = 4 from rfl] at hx297_3)
                        replace p297 := eq_true p297
                        replace q297 := eq_true q297
                        have p302 : 0 ≤ (2 : Int) := (by omega)
                        have q302 : 2 < (t251.length : Int) := of_decide_eq_true (by first | (with_reducible assumption) | assumption)
                        obtain ⟨ad302, e302, hx302_0, hx302_1, hx302_2, hx302_3⟩ := at_T26 (Kd.R_reads' HO253.out).2.2 2 p302 q302
                        obtain rfl : ad297 = ad302 := (by injection e302)
                        (try simp only [show (2 : Int).toNat = 2 from rfl, Nat.reduceMul, Nat.reduceEqDiff, Go.Addr.add, ↓reduceIte] at hx302_0)
                        (try simp only [show (2 : Int).toNat = 2 from rfl, Nat.reduceMul, Nat.reduceEqDiff, Go.Addr.add, ↓reduceIte] at hx302_1)
                        (try simp only [show (2 : Int).toNat = 2 from rfl, Nat.reduceMul, Nat.reduceEqDiff, Go.Addr.add, ↓reduceIte] at hx302_2)
                        (try simp only [show (2 : Int).toNat = 2 from rfl, Nat.reduceMul, Nat.reduceEqDiff, Go.Addr.add, ↓reduceIte] at hx302_3)
                        have qi302 : (2 < t251.length) = True := eq_true (by omega)
                        (try rw [show ((2 : Int)).toNat = 2 from rfl] at hx302_0)
                        (try rw [show 2 * 4 = 8 from rfl] at hx302_0)
                        (try rw [show ((2 : Int)).toNat = 2 from rfl] at hx302_1)
                        (try rw [show 2 * 4 = 8 from rfl] at hx302_1)
                        (try rw [show ((2 : Int)).toNat = 2 from rfl] at hx302_2)
                        (try rw [show 2 * 4 = 8 from rfl] at hx302_2)
                        (try rw [show ((2 : Int)).toNat = 2 from rfl] at hx302_3)
                        (try rw [show 2 * 4 = 8 from rfl] at hx302_3)
                        replace p302 := eq_true p302
                        replace q302 := eq_true q302
                        obtain ⟨Ao52, co52, eo52⟩ := Kd.R_slice HO264.out
                        (first | subst eo52 | (injection eo52 with f1_ f2_ f3_; have f4_ := f1_.symm; have f5_ := f3_.symm; clear f1_ f2_ f3_; subst f4_; subst f5_))
                        have p307 : 0 ≤ (2 : Int) := (by omega)
                        have q307 : 2 < (t262.length : Int) := of_decide_eq_true (by first | (with_reducible assumption) | assumption)
                        obtain ⟨ad307, e307, hx307_0, hx307_1, hx307_2, hx307_3⟩ := at_T26 (Kd.R_reads' HO264.out).2.2 2 p307 q307
                        cases e307
                        (try simp only [show (2 : Int).toNat = 2 from rfl, Nat.reduceMul, Nat.reduceEqDiff, Go.Addr.add, ↓reduceIte] at hx307_0)
                        (try simp only [show (2 : Int).toNat = 2 from rfl, Nat.reduceMul, Nat.reduceEqDiff, Go.Addr.add, ↓reduceIte] at hx307_1)
                        (try simp only [show (2 : Int).toNat = 2 from rfl, Nat.reduceMul, Nat.reduceEqDiff, Go.Addr.add, ↓reduceIte] at hx307_2)
                        (try simp only [show (2 : Int).toNat = 2 from rfl, Nat.reduceMul, Nat.reduceEqDiff, Go.Addr.add, ↓reduceIte] at hx307_3)
                        have qi307 : (2 < t262.length) = True := eq_true (by omega)
                        (try rw [show ((2 : Int)).toNat = 2 from rfl] at hx307_0)
                        (try rw [show 2 * 4 = 8 from rfl] at hx307_0)
                        (try rw [show ((2 : Int)).toNat = 2 from rfl] at hx307_1)
                        (try rw [show 2 * 4 = 8 from rfl] at hx307_1)
                        (try rw [show ((2 : Int)).toNat = 2 from rfl] at hx307_2)
                        (try rw [show 2 * 4 = 8 from rfl] at hx307_2)
                        (try rw [show ((2 : Int)).toNat = 2 from rfl] at hx307_3)
                        (try rw [show 2 * 4 = 8 from rfl] at hx307_3)
                        replace p307 := eq_true p307
                        replace q307 := eq_true q307
                        refine start_ (n := 55) (S := fun w' => w'.cell? ⟨ad297.block, ad297.off + 4, none⟩ = some (.int .i64 ((rd_T26 t251 1).f0)) ∧ w'.cell? ⟨ad297.block, ad297.off + 4 + 1, none⟩ = some (.int .i64 ((rd_T26 t251 1).f1)) ∧ w'.cell? ⟨ad297.block, ad297.off + 4 + 2, none⟩ = some (.int .i64 ((rd_T26 t251 1).f2)) ∧ w'.cell? ⟨ad297.block, ad297.off + 4 + 3, none⟩ = some (.int .i64 ((rd_T26 t251 1).f3)) ∧ w'.cell? ⟨ad297.block, ad297.off + 8, none⟩ = some (.int .i64 ((rd_T26 t251 2).f0)) ∧ w'.cell? ⟨ad297.block, ad297.off + 8 + 1, none⟩ = some (.int .i64 ((rd_T26 t251 2).f1)) ∧ w'.cell? ⟨ad297.block, ad297.off + 8 + 2, none⟩ = some (.int .i64 ((rd_T26 t251 2).f2)) ∧ w'.cell? ⟨ad297.block, ad297.off + 8 + 3, none⟩ = some (.int .i64 ((rd_T26 t251 2).f3)) ∧ w'.cell? ⟨ad307.block, ad307.off + 8, none⟩ = some (.int .i64 ((rd_T26 t262 2).f0)) ∧ w'.cell? ⟨ad307.block, ad307.off + 8 + 1, none⟩ = some (.int .i64 ((rd_T26 t262 2).f1)) ∧ w'.cell? ⟨ad307.block, ad307.off + 8 + 2, none⟩ = some (.int .i64 ((rd_T26 t262 2).f2)) ∧ w'.cell? ⟨ad307.block, ad307.off + 8 + 3, none⟩ = some (.int .i64 ((rd_T26 t262 2).f3))) (ds := []) #[false, false, false, false, false, false, false, false, false, false, false, false, false, false, false, false, false, false, false, false, false, false, false, false, false, false, false, false, false, false, false, false, false, false, false, false, false, false, false, false, false, false, false, false, false, false, false, false, false, false, false, false, false, false, false] (by kernel_rfl) rfl rfl ⟨hx297_0, hx297_1, hx297_2, hx297_3, hx302_0, hx302_1, hx302_2, hx302_3, hx307_0, hx307_1, hx307_2, hx307_3⟩ (fun hHeld => ?_); refine with_tabW casementlaw02_alive.tab3 casementlaw02_alive.bits3 (fun HT_ HW_ => ?_)
                        generalize w39.drew = w40 at HO250 HO253 HO264 HB hx297_0 hx297_1 hx297_2 hx297_3 hx302_0 hx302_1 hx302_2 hx302_3 hx307_0 hx307_1 hx307_2 hx307_3 hHeld ⊢
                        refine one_ (i := 0) (N := some 9) #[true, false, false, false, false, false, false, false, false, false, false, false, false, false, false, false, false, false, false, false, false, false, false, false, false, false, false, false, false, false, false, false, false, false, false, false, false, false, false, false, false, false, false, false, false, false, false, false, false, false, false, false, false, false, false] rfl rfl (one_of HT_.out (by kernel_rfl)) (by decide) (fun K hK => ?_)
                        refine goes_ Try.func37 (by kernel_rfl) rfl #[.int .i64 0, .int .i64 0, .int .i64 5, .int .i64 5] (by rfl) rfl rfl (by (try simp only [List.map_toArray, List.map_cons, List.map_nil]); first | done | rfl | (simp only [List.length_drop, List.length_take]; rfl)) ?_
                        with_reducible refine (casementlaw02_at.calls 0 0 5 5 t265 t266 t267 t268 _ A6.out).mono ?_
                        rintro e w41 ⟨rfl, hb⟩
                        have HS0_ := (hb.cell (World.block_lt_of_cell? _ _ (hHeld.1))).trans (hHeld.1)
                        have HS1_ := (hb.cell (World.block_lt_of_cell? _ _ (hHeld.2.1))).trans (hHeld.2.1)
                        have HS2_ := (hb.cell (World.block_lt_of_cell? _ _ (hHeld.2.2.1))).trans (hHeld.2.2.1)
                        have HS3_ := (hb.cell (World.block_lt_of_cell? _ _ (hHeld.2.2.2.1))).trans (hHeld.2.2.2.1)
                        have HS4_ := (hb.cell (World.block_lt_of_cell? _ _ (hHeld.2.2.2.2.1))).trans (hHeld.2.2.2.2.1)
                        have HS5_ := (hb.cell (World.block_lt_of_cell? _ _ (hHeld.2.2.2.2.2.1))).trans (hHeld.2.2.2.2.2.1)
                        have HS6_ := (hb.cell (World.block_lt_of_cell? _ _ (hHeld.2.2.2.2.2.2.1))).trans (hHeld.2.2.2.2.2.2.1)
                        have HS7_ := (hb.cell (World.block_lt_of_cell? _ _ (hHeld.2.2.2.2.2.2.2.1))).trans (hHeld.2.2.2.2.2.2.2.1)
                        have HS8_ := (hb.cell (World.block_lt_of_cell? _ _ (hHeld.2.2.2.2.2.2.2.2.1))).trans (hHeld.2.2.2.2.2.2.2.2.1)
                        have HS9_ := (hb.cell (World.block_lt_of_cell? _ _ (hHeld.2.2.2.2.2.2.2.2.2.1))).trans (hHeld.2.2.2.2.2.2.2.2.2.1)
                        have HS10_ := (hb.cell (World.block_lt_of_cell? _ _ (hHeld.2.2.2.2.2.2.2.2.2.2.1))).trans (hHeld.2.2.2.2.2.2.2.2.2.2.1)
                        have HS11_ := (hb.cell (World.block_lt_of_cell? _ _ (hHeld.2.2.2.2.2.2.2.2.2.2.2))).trans (hHeld.2.2.2.2.2.2.2.2.2.2.2)
                        refine ⟨_, rfl, ?_⟩
                        have n0_ := Aside0.mk (Kd.R_below (by (with_reducible repeat (first | apply Kd.R_alloc | apply Kd.R_drewN | apply Kd.R_drew)); exact HO250.out) hb)
                        have n1_ := Aside0.mk (Kd.R_below (by (with_reducible repeat (first | apply Kd.R_alloc | apply Kd.R_drewN | apply Kd.R_drew)); exact HO253.out) hb)
                        have n2_ := Aside0.mk (Kd.R_below (by (with_reducible repeat (first | apply Kd.R_alloc | apply Kd.R_drewN | apply Kd.R_drew)); exact HO264.out) hb)
                        have n3_ := Aside0.mk (below_step (by repeat (first | (with_reducible first | exact HB.out | apply below_alloc | apply pw_below_drewN | apply below_drew1) | exact HB.out)) hb)
                        clear HO250
                        clear HO253
                        clear HO264
                        clear HB
                        have HO250 := n0_
                        have HO253 := n1_
                        have HO264 := n2_
                        have HB := n3_
                        clear n0_ n1_ n2_ n3_
                        (try clear hb)
                        (try clear hb2)
                        (try clear hk)
                        (try clear hi)
                        refine hK.out _ _ ⟨HS0_, HS1_, HS2_, HS3_, HS4_, HS5_, HS6_, HS7_, HS8_, HS9_, HS10_, HS11_⟩ (fun hHeld => ?_)
                        clear hK K
                        refine norm_ (a' := ?_) ?_ ?_
                        rotate_left
                        · show Act.put _ (some 9) _ = _
                          simp only [Act.put, List.setIfInBounds_toArray, List.set_cons_zero, List.set_cons_succ, i64_w, i32_w]
                          rfl
                        refine one_ (i := 1) (N := some 10) #[true, true, false, false, false, false, false, false, false, false, false, false, false, false, false, false, false, false, false, false, false, false, false, false, false, false, false, false, false, false, false, false, false, false, false, false, false, false, false, false, false, false, false, false, false, false, false, false, false, false, false, false, false, false, false] rfl rfl (one_of HT_.out (by kernel_rfl)) (by decide) (fun K hK => ?_)
                        refine goes_ Try.func37 (by kernel_rfl) rfl #[.int .i64 3, .int .i64 3, .int .i64 5, .int .i64 5] (by rfl) rfl rfl (by (try simp only [List.map_toArray, List.map_cons, List.map_nil]); first | done | rfl | (simp only [List.length_drop, List.length_take]; rfl)) ?_
                        with_reducible refine (casementlaw02_at.calls 3 3 5 5 t269 t270 t271 t272 _ A7.out).mono ?_
                        rintro e w42 ⟨rfl, hb⟩
                        have HS0_ := (hb.cell (World.block_lt_of_cell? _ _ (hHeld.1))).trans (hHeld.1)
                        have HS1_ := (hb.cell (World.block_lt_of_cell? _ _ (hHeld.2.1))).trans (hHeld.2.1)
                        have HS2_ := (hb.cell (World.block_lt_of_cell? _ _ (hHeld.2.2.1))).trans (hHeld.2.2.1)
                        have HS3_ := (hb.cell (World.block_lt_of_cell? _ _ (hHeld.2.2.2.1))).trans (hHeld.2.2.2.1)
                        have HS4_ := (hb.cell (World.block_lt_of_cell? _ _ (hHeld.2.2.2.2.1))).trans (hHeld.2.2.2.2.1)
                        have HS5_ := (hb.cell (World.block_lt_of_cell? _ _ (hHeld.2.2.2.2.2.1))).trans (hHeld.2.2.2.2.2.1)
                        have HS6_ := (hb.cell (World.block_lt_of_cell? _ _ (hHeld.2.2.2.2.2.2.1))).trans (hHeld.2.2.2.2.2.2.1)
                        have HS7_ := (hb.cell (World.block_lt_of_cell? _ _ (hHeld.2.2.2.2.2.2.2.1))).trans (hHeld.2.2.2.2.2.2.2.1)
                        have HS8_ := (hb.cell (World.block_lt_of_cell? _ _ (hHeld.2.2.2.2.2.2.2.2.1))).trans (hHeld.2.2.2.2.2.2.2.2.1)
                        have HS9_ := (hb.cell (World.block_lt_of_cell? _ _ (hHeld.2.2.2.2.2.2.2.2.2.1))).trans (hHeld.2.2.2.2.2.2.2.2.2.1)
                        have HS10_ := (hb.cell (World.block_lt_of_cell? _ _ (hHeld.2.2.2.2.2.2.2.2.2.2.1))).trans (hHeld.2.2.2.2.2.2.2.2.2.2.1)
                        have HS11_ := (hb.cell (World.block_lt_of_cell? _ _ (hHeld.2.2.2.2.2.2.2.2.2.2.2))).trans (hHeld.2.2.2.2.2.2.2.2.2.2.2)
                        refine ⟨_, rfl, ?_⟩
                        have n0_ := Aside0.mk (Kd.R_below (by (with_reducible repeat (first | apply Kd.R_alloc | apply Kd.R_drewN | apply Kd.R_drew)); exact HO250.out) hb)
                        have n1_ := Aside0.mk (Kd.R_below (by (with_reducible repeat (first | apply Kd.R_alloc | apply Kd.R_drewN | apply Kd.R_drew)); exact HO253.out) hb)
                        have n2_ := Aside0.mk (Kd.R_below (by (with_reducible repeat (first | apply Kd.R_alloc | apply Kd.R_drewN | apply Kd.R_drew)); exact HO264.out) hb)
                        have n3_ := Aside0.mk (below_step (by repeat (first | (with_reducible first | exact HB.out | apply below_alloc | apply pw_below_drewN | apply below_drew1) | exact HB.out)) hb)
                        clear HO250
                        clear HO253
                        clear HO264
                        clear HB
                        have HO250 := n0_
                        have HO253 := n1_
                        have HO264 := n2_
                        have HB := n3_
                        clear n0_ n1_ n2_ n3_
                        (try clear hb)
                        (try clear hb2)
                        (try clear hk)
                        (try clear hi)
                        refine hK.out _ _ ⟨HS0_, HS1_, HS2_, HS3_, HS4_, HS5_, HS6_, HS7_, HS8_, HS9_, HS10_, HS11_⟩ (fun hHeld => ?_)
                        clear hK K
                        refine norm_ (a' := ?_) ?_ ?_
                        rotate_left
                        · show Act.put _ (some 10) _ = _
                          simp only [Act.put, List.setIfInBounds_toArray, List.set_cons_zero, List.set_cons_succ, i64_w, i32_w]
                          rfl
                        refine one_ (i := 2) (N := some 11) #[true, true, true, false, false, false, false, false, false, false, false, false, false, false, false, false, false, false, false, false, false, false, false, false, false, false, false, false, false, false, false, false, false, false, false, false, false, false, false, false, false, false, false, false, false, false, false, false, false, false, false, false, false, false, false] rfl rfl (one_of HT_.out (by kernel_rfl)) (by decide) (fun K hK => ?_)
                        refine goes_ Try.func26 (by kernel_rfl) rfl #[.agg #[.int .i64 t265, .int .i64 t266, .int .i64 t267, .int .i64 t268], .agg #[.int .i64 t269, .int .i64 t270, .int .i64 t271, .int .i64 t272]] (by rfl) rfl rfl (by (try simp only [List.map_toArray, List.map_cons, List.map_nil]); first | done | rfl | (simp only [List.length_drop, List.length_take]; rfl)) ?_
                        with_reducible refine (rect_Meet.calls t265 t266 t267 t268 t269 t270 t271 t272 t273 t274 t275 t276 _ A8.out).mono ?_
                        rintro e w43 ⟨rfl, hb⟩
                        have HS0_ := (hb.cell (World.block_lt_of_cell? _ _ (hHeld.1))).trans (hHeld.1)
                        have HS1_ := (hb.cell (World.block_lt_of_cell? _ _ (hHeld.2.1))).trans (hHeld.2.1)
                        have HS2_ := (hb.cell (World.block_lt_of_cell? _ _ (hHeld.2.2.1))).trans (hHeld.2.2.1)
                        have HS3_ := (hb.cell (World.block_lt_of_cell? _ _ (hHeld.2.2.2.1))).trans (hHeld.2.2.2.1)
                        have HS4_ := (hb.cell (World.block_lt_of_cell? _ _ (hHeld.2.2.2.2.1))).trans (hHeld.2.2.2.2.1)
                        have HS5_ := (hb.cell (World.block_lt_of_cell? _ _ (hHeld.2.2.2.2.2.1))).trans (hHeld.2.2.2.2.2.1)
                        have HS6_ := (hb.cell (World.block_lt_of_cell? _ _ (hHeld.2.2.2.2.2.2.1))).trans (hHeld.2.2.2.2.2.2.1)
                        have HS7_ := (hb.cell (World.block_lt_of_cell? _ _ (hHeld.2.2.2.2.2.2.2.1))).trans (hHeld.2.2.2.2.2.2.2.1)
                        have HS8_ := (hb.cell (World.block_lt_of_cell? _ _ (hHeld.2.2.2.2.2.2.2.2.1))).trans (hHeld.2.2.2.2.2.2.2.2.1)
                        have HS9_ := (hb.cell (World.block_lt_of_cell? _ _ (hHeld.2.2.2.2.2.2.2.2.2.1))).trans (hHeld.2.2.2.2.2.2.2.2.2.1)
                        have HS10_ := (hb.cell (World.block_lt_of_cell? _ _ (hHeld.2.2.2.2.2.2.2.2.2.2.1))).trans (hHeld.2.2.2.2.2.2.2.2.2.2.1)
                        have HS11_ := (hb.cell (World.block_lt_of_cell? _ _ (hHeld.2.2.2.2.2.2.2.2.2.2.2))).trans (hHeld.2.2.2.2.2.2.2.2.2.2.2)
                        refine ⟨_, rfl, ?_⟩
                        have n0_ := Aside0.mk (Kd.R_below (by (with_reducible repeat (first | apply Kd.R_alloc | apply Kd.R_drewN | apply Kd.R_drew)); exact HO250.out) hb)
                        have n1_ := Aside0.mk (Kd.R_below (by (with_reducible repeat (first | apply Kd.R_alloc | apply Kd.R_drewN | apply Kd.R_drew)); exact HO253.out) hb)
                        have n2_ := Aside0.mk (Kd.R_below (by (with_reducible repeat (first | apply Kd.R_alloc | apply Kd.R_drewN | apply Kd.R_drew)); exact HO264.out) hb)
                        have n3_ := Aside0.mk (below_step (by repeat (first | (with_reducible first | exact HB.out | apply below_alloc | apply pw_below_drewN | apply below_drew1) | exact HB.out)) hb)
                        clear HO250
                        clear HO253
                        clear HO264
                        clear HB
                        have HO250 := n0_
                        have HO253 := n1_
                        have HO264 := n2_
                        have HB := n3_
                        clear n0_ n1_ n2_ n3_
                        (try clear hb)
                        (try clear hb2)
                        (try clear hk)
                        (try clear hi)
                        refine hK.out _ _ ⟨HS0_, HS1_, HS2_, HS3_, HS4_, HS5_, HS6_, HS7_, HS8_, HS9_, HS10_, HS11_⟩ (fun hHeld => ?_)
                        clear hK K
                        refine norm_ (a' := ?_) ?_ ?_
                        rotate_left
                        · show Act.put _ (some 11) _ = _
                          simp only [Act.put, List.setIfInBounds_toArray, List.set_cons_zero, List.set_cons_succ, i64_w, i32_w]
                          rfl
                        refine one_ (i := 3) (N := some 12) #[true, true, true, true, false, false, false, false, false, false, false, false, false, false, false, false, false, false, false, false, false, false, false, false, false, false, false, false, false, false, false, false, false, false, false, false, false, false, false, false, false, false, false, false, false, false, false, false, false, false, false, false, false, false, false] rfl rfl (one_of HT_.out (by kernel_rfl)) (by decide) (fun K hK => ?_)
                        refine goes_ Try.func37 (by kernel_rfl) rfl #[.int .i64 3, .int .i64 3, .int .i64 2, .int .i64 2] (by rfl) rfl rfl (by (try simp only [List.map_toArray, List.map_cons, List.map_nil]); first | done | rfl | (simp only [List.length_drop, List.length_take]; rfl)) ?_
                        with_reducible refine (casementlaw02_at.calls 3 3 2 2 t277 t278 t279 t280 _ A9.out).mono ?_
                        rintro e w44 ⟨rfl, hb⟩
                        have HS0_ := (hb.cell (World.block_lt_of_cell? _ _ (hHeld.1))).trans (hHeld.1)
                        have HS1_ := (hb.cell (World.block_lt_of_cell? _ _ (hHeld.2.1))).trans (hHeld.2.1)
                        have HS2_ := (hb.cell (World.block_lt_of_cell? _ _ (hHeld.2.2.1))).trans (hHeld.2.2.1)
                        have HS3_ := (hb.cell (World.block_lt_of_cell? _ _ (hHeld.2.2.2.1))).trans (hHeld.2.2.2.1)
                        have HS4_ := (hb.cell (World.block_lt_of_cell? _ _ (hHeld.2.2.2.2.1))).trans (hHeld.2.2.2.2.1)
                        have HS5_ := (hb.cell (World.block_lt_of_cell? _ _ (hHeld.2.2.2.2.2.1))).trans (hHeld.2.2.2.2.2.1)
                        have HS6_ := (hb.cell (World.block_lt_of_cell? _ _ (hHeld.2.2.2.2.2.2.1))).trans (hHeld.2.2.2.2.2.2.1)
                        have HS7_ := (hb.cell (World.block_lt_of_cell? _ _ (hHeld.2.2.2.2.2.2.2.1))).trans (hHeld.2.2.2.2.2.2.2.1)
                        have HS8_ := (hb.cell (World.block_lt_of_cell? _ _ (hHeld.2.2.2.2.2.2.2.2.1))).trans (hHeld.2.2.2.2.2.2.2.2.1)
                        have HS9_ := (hb.cell (World.block_lt_of_cell? _ _ (hHeld.2.2.2.2.2.2.2.2.2.1))).trans (hHeld.2.2.2.2.2.2.2.2.2.1)
                        have HS10_ := (hb.cell (World.block_lt_of_cell? _ _ (hHeld.2.2.2.2.2.2.2.2.2.2.1))).trans (hHeld.2.2.2.2.2.2.2.2.2.2.1)
                        have HS11_ := (hb.cell (World.block_lt_of_cell? _ _ (hHeld.2.2.2.2.2.2.2.2.2.2.2))).trans (hHeld.2.2.2.2.2.2.2.2.2.2.2)
                        refine ⟨_, rfl, ?_⟩
                        have n0_ := Aside0.mk (Kd.R_below (by (with_reducible repeat (first | apply Kd.R_alloc | apply Kd.R_drewN | apply Kd.R_drew)); exact HO250.out) hb)
                        have n1_ := Aside0.mk (Kd.R_below (by (with_reducible repeat (first | apply Kd.R_alloc | apply Kd.R_drewN | apply Kd.R_drew)); exact HO253.out) hb)
                        have n2_ := Aside0.mk (Kd.R_below (by (with_reducible repeat (first | apply Kd.R_alloc | apply Kd.R_drewN | apply Kd.R_drew)); exact HO264.out) hb)
                        have n3_ := Aside0.mk (below_step (by repeat (first | (with_reducible first | exact HB.out | apply below_alloc | apply pw_below_drewN | apply below_drew1) | exact HB.out)) hb)
                        clear HO250
                        clear HO253
                        clear HO264
                        clear HB
                        have HO250 := n0_
                        have HO253 := n1_
                        have HO264 := n2_
                        have HB := n3_
                        clear n0_ n1_ n2_ n3_
                        (try clear hb)
                        (try clear hb2)
                        (try clear hk)
                        (try clear hi)
                        refine hK.out _ _ ⟨HS0_, HS1_, HS2_, HS3_, HS4_, HS5_, HS6_, HS7_, HS8_, HS9_, HS10_, HS11_⟩ (fun hHeld => ?_)
                        clear hK K
                        refine norm_ (a' := ?_) ?_ ?_
                        rotate_left
                        · show Act.put _ (some 12) _ = _
                          simp only [Act.put, List.setIfInBounds_toArray, List.set_cons_zero, List.set_cons_succ, i64_w, i32_w]
                          rfl
                        refine pure_ (i := 4) (N := some 13) (v := ?_) (a' := ?_) #[true, true, true, true, true, false, false, false, false, false, false, false, false, false, false, false, false, false, false, false, false, false, false, false, false, false, false, false, false, false, false, false, false, false, false, false, false, false, false, false, false, false, false, false, false, false, false, false, false, false, false, false, false, false, false] rfl rfl (any_of HT_.out (by kernel_rfl)) (fun _ _ _ h => h) (Or.inl ⟨by rfl, ?_⟩) ?_ ?_
                        rotate_left
                        · intro w'
                          go_simp
                          with_reducible rfl
                        rotate_left
                        · simp only [Act.put, List.setIfInBounds_toArray, List.set_cons_zero, List.set_cons_succ, i64_w, i32_w]
                          rfl
                        refine pure_ (i := 5) (N := some 14) (v := ?_) (a' := ?_) #[true, true, true, true, true, true, false, false, false, false, false, false, false, false, false, false, false, false, false, false, false, false, false, false, false, false, false, false, false, false, false, false, false, false, false, false, false, false, false, false, false, false, false, false, false, false, false, false, false, false, false, false, false, false, false] rfl rfl (any_of HT_.out (by kernel_rfl)) (fun _ _ _ h => h) (Or.inl ⟨by rfl, ?_⟩) ?_ ?_
                        rotate_left
                        · intro w'
                          go_simp
                          with_reducible rfl
                        rotate_left
                        · simp only [Act.put, List.setIfInBounds_toArray, List.set_cons_zero, List.set_cons_succ, i64_w, i32_w]
                          rfl
                        refine one_ (i := 6) (N := some 15) #[true, true, true, true, true, true, true, false, false, false, false, false, false, false, false, false, false, false, false, false, false, false, false, false, false, false, false, false, false, false, false, false, false, false, false, false, false, false, false, false, false, false, false, false, false, false, false, false, false, false, false, false, false, false, false] rfl rfl (one_of HT_.out (by kernel_rfl)) (by decide) (fun K hK => ?_)
                        refine goes_ Try.func37 (by kernel_rfl) rfl #[.int .i64 8, .int .i64 8, .int .i64 4, .int .i64 4] (by rfl) rfl rfl (by (try simp only [List.map_toArray, List.map_cons, List.map_nil]); first | done | rfl | (simp only [List.length_drop, List.length_take]; rfl)) ?_
                        with_reducible refine (casementlaw02_at.calls 8 8 4 4 t281 t282 t283 t284 _ A11.out).mono ?_
                        rintro e w45 ⟨rfl, hb⟩
                        have HS0_ := (hb.cell (World.block_lt_of_cell? _ _ (hHeld.1))).trans (hHeld.1)
                        have HS1_ := (hb.cell (World.block_lt_of_cell? _ _ (hHeld.2.1))).trans (hHeld.2.1)
                        have HS2_ := (hb.cell (World.block_lt_of_cell? _ _ (hHeld.2.2.1))).trans (hHeld.2.2.1)
                        have HS3_ := (hb.cell (World.block_lt_of_cell? _ _ (hHeld.2.2.2.1))).trans (hHeld.2.2.2.1)
                        have HS4_ := (hb.cell (World.block_lt_of_cell? _ _ (hHeld.2.2.2.2.1))).trans (hHeld.2.2.2.2.1)
                        have HS5_ := (hb.cell (World.block_lt_of_cell? _ _ (hHeld.2.2.2.2.2.1))).trans (hHeld.2.2.2.2.2.1)
                        have HS6_ := (hb.cell (World.block_lt_of_cell? _ _ (hHeld.2.2.2.2.2.2.1))).trans (hHeld.2.2.2.2.2.2.1)
                        have HS7_ := (hb.cell (World.block_lt_of_cell? _ _ (hHeld.2.2.2.2.2.2.2.1))).trans (hHeld.2.2.2.2.2.2.2.1)
                        have HS8_ := (hb.cell (World.block_lt_of_cell? _ _ (hHeld.2.2.2.2.2.2.2.2.1))).trans (hHeld.2.2.2.2.2.2.2.2.1)
                        have HS9_ := (hb.cell (World.block_lt_of_cell? _ _ (hHeld.2.2.2.2.2.2.2.2.2.1))).trans (hHeld.2.2.2.2.2.2.2.2.2.1)
                        have HS10_ := (hb.cell (World.block_lt_of_cell? _ _ (hHeld.2.2.2.2.2.2.2.2.2.2.1))).trans (hHeld.2.2.2.2.2.2.2.2.2.2.1)
                        have HS11_ := (hb.cell (World.block_lt_of_cell? _ _ (hHeld.2.2.2.2.2.2.2.2.2.2.2))).trans (hHeld.2.2.2.2.2.2.2.2.2.2.2)
                        refine ⟨_, rfl, ?_⟩
                        have n0_ := Aside0.mk (Kd.R_below (by (with_reducible repeat (first | apply Kd.R_alloc | apply Kd.R_drewN | apply Kd.R_drew)); exact HO250.out) hb)
                        have n1_ := Aside0.mk (Kd.R_below (by (with_reducible repeat (first | apply Kd.R_alloc | apply Kd.R_drewN | apply Kd.R_drew)); exact HO253.out) hb)
                        have n2_ := Aside0.mk (Kd.R_below (by (with_reducible repeat (first | apply Kd.R_alloc | apply Kd.R_drewN | apply Kd.R_drew)); exact HO264.out) hb)
                        have n3_ := Aside0.mk (below_step (by repeat (first | (with_reducible first | exact HB.out | apply below_alloc | apply pw_below_drewN | apply below_drew1) | exact HB.out)) hb)
                        clear HO250
                        clear HO253
                        clear HO264
                        clear HB
                        have HO250 := n0_
                        have HO253 := n1_
                        have HO264 := n2_
                        have HB := n3_
                        clear n0_ n1_ n2_ n3_
                        (try clear hb)
                        (try clear hb2)
                        (try clear hk)
                        (try clear hi)
                        refine hK.out _ _ ⟨HS0_, HS1_, HS2_, HS3_, HS4_, HS5_, HS6_, HS7_, HS8_, HS9_, HS10_, HS11_⟩ (fun hHeld => ?_)
                        clear hK K
                        refine norm_ (a' := ?_) ?_ ?_
                        rotate_left
                        · show Act.put _ (some 15) _ = _
                          simp only [Act.put, List.setIfInBounds_toArray, List.set_cons_zero, List.set_cons_succ, i64_w, i32_w]
                          rfl
                        refine one_ (i := 7) (N := some 16) #[true, true, true, true, true, true, true, true, false, false, false, false, false, false, false, false, false, false, false, false, false, false, false, false, false, false, false, false, false, false, false, false, false, false, false, false, false, false, false, false, false, false, false, false, false, false, false, false, false, false, false, false, false, false, false] rfl rfl (one_of HT_.out (by kernel_rfl)) (by decide) (fun K hK => ?_)
                        refine goes_ Try.func37 (by kernel_rfl) rfl #[.int .i64 0, .int .i64 0, .int .i64 10, .int .i64 10] (by rfl) rfl rfl (by (try simp only [List.map_toArray, List.map_cons, List.map_nil]); first | done | rfl | (simp only [List.length_drop, List.length_take]; rfl)) ?_
                        with_reducible refine (casementlaw02_at.calls 0 0 10 10 t285 t286 t287 t288 _ A12.out).mono ?_
                        rintro e w46 ⟨rfl, hb⟩
                        have HS0_ := (hb.cell (World.block_lt_of_cell? _ _ (hHeld.1))).trans (hHeld.1)
                        have HS1_ := (hb.cell (World.block_lt_of_cell? _ _ (hHeld.2.1))).trans (hHeld.2.1)
                        have HS2_ := (hb.cell (World.block_lt_of_cell? _ _ (hHeld.2.2.1))).trans (hHeld.2.2.1)
                        have HS3_ := (hb.cell (World.block_lt_of_cell? _ _ (hHeld.2.2.2.1))).trans (hHeld.2.2.2.1)
                        have HS4_ := (hb.cell (World.block_lt_of_cell? _ _ (hHeld.2.2.2.2.1))).trans (hHeld.2.2.2.2.1)
                        have HS5_ := (hb.cell (World.block_lt_of_cell? _ _ (hHeld.2.2.2.2.2.1))).trans (hHeld.2.2.2.2.2.1)
                        have HS6_ := (hb.cell (World.block_lt_of_cell? _ _ (hHeld.2.2.2.2.2.2.1))).trans (hHeld.2.2.2.2.2.2.1)
                        have HS7_ := (hb.cell (World.block_lt_of_cell? _ _ (hHeld.2.2.2.2.2.2.2.1))).trans (hHeld.2.2.2.2.2.2.2.1)
                        have HS8_ := (hb.cell (World.block_lt_of_cell? _ _ (hHeld.2.2.2.2.2.2.2.2.1))).trans (hHeld.2.2.2.2.2.2.2.2.1)
                        have HS9_ := (hb.cell (World.block_lt_of_cell? _ _ (hHeld.2.2.2.2.2.2.2.2.2.1))).trans (hHeld.2.2.2.2.2.2.2.2.2.1)
                        have HS10_ := (hb.cell (World.block_lt_of_cell? _ _ (hHeld.2.2.2.2.2.2.2.2.2.2.1))).trans (hHeld.2.2.2.2.2.2.2.2.2.2.1)
                        have HS11_ := (hb.cell (World.block_lt_of_cell? _ _ (hHeld.2.2.2.2.2.2.2.2.2.2.2))).trans (hHeld.2.2.2.2.2.2.2.2.2.2.2)
                        refine ⟨_, rfl, ?_⟩
                        have n0_ := Aside0.mk (Kd.R_below (by (with_reducible repeat (first | apply Kd.R_alloc | apply Kd.R_drewN | apply Kd.R_drew)); exact HO250.out) hb)
                        have n1_ := Aside0.mk (Kd.R_below (by (with_reducible repeat (first | apply Kd.R_alloc | apply Kd.R_drewN | apply Kd.R_drew)); exact HO253.out) hb)
                        have n2_ := Aside0.mk (Kd.R_below (by (with_reducible repeat (first | apply Kd.R_alloc | apply Kd.R_drewN | apply Kd.R_drew)); exact HO264.out) hb)
                        have n3_ := Aside0.mk (below_step (by repeat (first | (with_reducible first | exact HB.out | apply below_alloc | apply pw_below_drewN | apply below_drew1) | exact HB.out)) hb)
                        clear HO250
                        clear HO253
                        clear HO264
                        clear HB
                        have HO250 := n0_
                        have HO253 := n1_
                        have HO264 := n2_
                        have HB := n3_
                        clear n0_ n1_ n2_ n3_
                        (try clear hb)
                        (try clear hb2)
                        (try clear hk)
                        (try clear hi)
                        refine hK.out _ _ ⟨HS0_, HS1_, HS2_, HS3_, HS4_, HS5_, HS6_, HS7_, HS8_, HS9_, HS10_, HS11_⟩ (fun hHeld => ?_)
                        clear hK K
                        refine norm_ (a' := ?_) ?_ ?_
                        rotate_left
                        · show Act.put _ (some 16) _ = _
                          simp only [Act.put, List.setIfInBounds_toArray, List.set_cons_zero, List.set_cons_succ, i64_w, i32_w]
                          rfl
                        refine one_ (i := 8) (N := some 17) #[true, true, true, true, true, true, true, true, true, false, false, false, false, false, false, false, false, false, false, false, false, false, false, false, false, false, false, false, false, false, false, false, false, false, false, false, false, false, false, false, false, false, false, false, false, false, false, false, false, false, false, false, false, false, false] rfl rfl (one_of HT_.out (by kernel_rfl)) (by decide) (fun K hK => ?_)
                        refine goes_ Try.func33 (by kernel_rfl) rfl #[.agg #[.int .i64 t281, .int .i64 t282, .int .i64 t283, .int .i64 t284], .agg #[.int .i64 t285, .int .i64 t286, .int .i64 t287, .int .i64 t288]] (by rfl) rfl rfl (by (try simp only [List.map_toArray, List.map_cons, List.map_nil]); first | done | rfl | (simp only [List.length_drop, List.length_take]; rfl)) ?_
                        with_reducible refine (rect_Into.calls t281 t282 t283 t284 t285 t286 t287 t288 t289 t290 t291 t292 _ A13.out).mono ?_
                        rintro e w47 ⟨rfl, hb⟩
                        have HS0_ := (hb.cell (World.block_lt_of_cell? _ _ (hHeld.1))).trans (hHeld.1)
                        have HS1_ := (hb.cell (World.block_lt_of_cell? _ _ (hHeld.2.1))).trans (hHeld.2.1)
                        have HS2_ := (hb.cell (World.block_lt_of_cell? _ _ (hHeld.2.2.1))).trans (hHeld.2.2.1)
                        have HS3_ := (hb.cell (World.block_lt_of_cell? _ _ (hHeld.2.2.2.1))).trans (hHeld.2.2.2.1)
                        have HS4_ := (hb.cell (World.block_lt_of_cell? _ _ (hHeld.2.2.2.2.1))).trans (hHeld.2.2.2.2.1)
                        have HS5_ := (hb.cell (World.block_lt_of_cell? _ _ (hHeld.2.2.2.2.2.1))).trans (hHeld.2.2.2.2.2.1)
                        have HS6_ := (hb.cell (World.block_lt_of_cell? _ _ (hHeld.2.2.2.2.2.2.1))).trans (hHeld.2.2.2.2.2.2.1)
                        have HS7_ := (hb.cell (World.block_lt_of_cell? _ _ (hHeld.2.2.2.2.2.2.2.1))).trans (hHeld.2.2.2.2.2.2.2.1)
                        have HS8_ := (hb.cell (World.block_lt_of_cell? _ _ (hHeld.2.2.2.2.2.2.2.2.1))).trans (hHeld.2.2.2.2.2.2.2.2.1)
                        have HS9_ := (hb.cell (World.block_lt_of_cell? _ _ (hHeld.2.2.2.2.2.2.2.2.2.1))).trans (hHeld.2.2.2.2.2.2.2.2.2.1)
                        have HS10_ := (hb.cell (World.block_lt_of_cell? _ _ (hHeld.2.2.2.2.2.2.2.2.2.2.1))).trans (hHeld.2.2.2.2.2.2.2.2.2.2.1)
                        have HS11_ := (hb.cell (World.block_lt_of_cell? _ _ (hHeld.2.2.2.2.2.2.2.2.2.2.2))).trans (hHeld.2.2.2.2.2.2.2.2.2.2.2)
                        refine ⟨_, rfl, ?_⟩
                        have n0_ := Aside0.mk (Kd.R_below (by (with_reducible repeat (first | apply Kd.R_alloc | apply Kd.R_drewN | apply Kd.R_drew)); exact HO250.out) hb)
                        have n1_ := Aside0.mk (Kd.R_below (by (with_reducible repeat (first | apply Kd.R_alloc | apply Kd.R_drewN | apply Kd.R_drew)); exact HO253.out) hb)
                        have n2_ := Aside0.mk (Kd.R_below (by (with_reducible repeat (first | apply Kd.R_alloc | apply Kd.R_drewN | apply Kd.R_drew)); exact HO264.out) hb)
                        have n3_ := Aside0.mk (below_step (by repeat (first | (with_reducible first | exact HB.out | apply below_alloc | apply pw_below_drewN | apply below_drew1) | exact HB.out)) hb)
                        clear HO250
                        clear HO253
                        clear HO264
                        clear HB
                        have HO250 := n0_
                        have HO253 := n1_
                        have HO264 := n2_
                        have HB := n3_
                        clear n0_ n1_ n2_ n3_
                        (try clear hb)
                        (try clear hb2)
                        (try clear hk)
                        (try clear hi)
                        refine hK.out _ _ ⟨HS0_, HS1_, HS2_, HS3_, HS4_, HS5_, HS6_, HS7_, HS8_, HS9_, HS10_, HS11_⟩ (fun hHeld => ?_)
                        clear hK K
                        refine norm_ (a' := ?_) ?_ ?_
                        rotate_left
                        · show Act.put _ (some 17) _ = _
                          simp only [Act.put, List.setIfInBounds_toArray, List.set_cons_zero, List.set_cons_succ, i64_w, i32_w]
                          rfl
                        refine one_ (i := 9) (N := some 18) #[true, true, true, true, true, true, true, true, true, true, false, false, false, false, false, false, false, false, false, false, false, false, false, false, false, false, false, false, false, false, false, false, false, false, false, false, false, false, false, false, false, false, false, false, false, false, false, false, false, false, false, false, false, false, false] rfl rfl (one_of HT_.out (by kernel_rfl)) (by decide) (fun K hK => ?_)
                        refine goes_ Try.func37 (by kernel_rfl) rfl #[.int .i64 6, .int .i64 6, .int .i64 4, .int .i64 4] (by rfl) rfl rfl (by (try simp only [List.map_toArray, List.map_cons, List.map_nil]); first | done | rfl | (simp only [List.length_drop, List.length_take]; rfl)) ?_
                        with_reducible refine (casementlaw02_at.calls 6 6 4 4 t293 t294 t295 t296 _ A14.out).mono ?_
                        rintro e w48 ⟨rfl, hb⟩
                        have HS0_ := (hb.cell (World.block_lt_of_cell? _ _ (hHeld.1))).trans (hHeld.1)
                        have HS1_ := (hb.cell (World.block_lt_of_cell? _ _ (hHeld.2.1))).trans (hHeld.2.1)
                        have HS2_ := (hb.cell (World.block_lt_of_cell? _ _ (hHeld.2.2.1))).trans (hHeld.2.2.1)
                        have HS3_ := (hb.cell (World.block_lt_of_cell? _ _ (hHeld.2.2.2.1))).trans (hHeld.2.2.2.1)
                        have HS4_ := (hb.cell (World.block_lt_of_cell? _ _ (hHeld.2.2.2.2.1))).trans (hHeld.2.2.2.2.1)
                        have HS5_ := (hb.cell (World.block_lt_of_cell? _ _ (hHeld.2.2.2.2.2.1))).trans (hHeld.2.2.2.2.2.1)
                        have HS6_ := (hb.cell (World.block_lt_of_cell? _ _ (hHeld.2.2.2.2.2.2.1))).trans (hHeld.2.2.2.2.2.2.1)
                        have HS7_ := (hb.cell (World.block_lt_of_cell? _ _ (hHeld.2.2.2.2.2.2.2.1))).trans (hHeld.2.2.2.2.2.2.2.1)
                        have HS8_ := (hb.cell (World.block_lt_of_cell? _ _ (hHeld.2.2.2.2.2.2.2.2.1))).trans (hHeld.2.2.2.2.2.2.2.2.1)
                        have HS9_ := (hb.cell (World.block_lt_of_cell? _ _ (hHeld.2.2.2.2.2.2.2.2.2.1))).trans (hHeld.2.2.2.2.2.2.2.2.2.1)
                        have HS10_ := (hb.cell (World.block_lt_of_cell? _ _ (hHeld.2.2.2.2.2.2.2.2.2.2.1))).trans (hHeld.2.2.2.2.2.2.2.2.2.2.1)
                        have HS11_ := (hb.cell (World.block_lt_of_cell? _ _ (hHeld.2.2.2.2.2.2.2.2.2.2.2))).trans (hHeld.2.2.2.2.2.2.2.2.2.2.2)
                        refine ⟨_, rfl, ?_⟩
                        have n0_ := Aside0.mk (Kd.R_below (by (with_reducible repeat (first | apply Kd.R_alloc | apply Kd.R_drewN | apply Kd.R_drew)); exact HO250.out) hb)
                        have n1_ := Aside0.mk (Kd.R_below (by (with_reducible repeat (first | apply Kd.R_alloc | apply Kd.R_drewN | apply Kd.R_drew)); exact HO253.out) hb)
                        have n2_ := Aside0.mk (Kd.R_below (by (with_reducible repeat (first | apply Kd.R_alloc | apply Kd.R_drewN | apply Kd.R_drew)); exact HO264.out) hb)
                        have n3_ := Aside0.mk (below_step (by repeat (first | (with_reducible first | exact HB.out | apply below_alloc | apply pw_below_drewN | apply below_drew1) | exact HB.out)) hb)
                        clear HO250
                        clear HO253
                        clear HO264
                        clear HB
                        have HO250 := n0_
                        have HO253 := n1_
                        have HO264 := n2_
                        have HB := n3_
                        clear n0_ n1_ n2_ n3_
                        (try clear hb)
                        (try clear hb2)
                        (try clear hk)
                        (try clear hi)
                        refine hK.out _ _ ⟨HS0_, HS1_, HS2_, HS3_, HS4_, HS5_, HS6_, HS7_, HS8_, HS9_, HS10_, HS11_⟩ (fun hHeld => ?_)
                        clear hK K
                        refine norm_ (a' := ?_) ?_ ?_
                        rotate_left
                        · show Act.put _ (some 18) _ = _
                          simp only [Act.put, List.setIfInBounds_toArray, List.set_cons_zero, List.set_cons_succ, i64_w, i32_w]
                          rfl
                        refine pure_ (i := 10) (N := some 19) (v := ?_) (a' := ?_) #[true, true, true, true, true, true, true, true, true, true, true, false, false, false, false, false, false, false, false, false, false, false, false, false, false, false, false, false, false, false, false, false, false, false, false, false, false, false, false, false, false, false, false, false, false, false, false, false, false, false, false, false, false, false, false] rfl rfl (any_of HT_.out (by kernel_rfl)) (fun _ _ _ h => h) (Or.inl ⟨by rfl, ?_⟩) ?_ ?_
                        rotate_left
                        · intro w'
                          go_simp
                          with_reducible rfl
                        rotate_left
                        · simp only [Act.put, List.setIfInBounds_toArray, List.set_cons_zero, List.set_cons_succ, i64_w, i32_w]
                          rfl
                        refine pure_ (i := 11) (N := some 20) (v := ?_) (a' := ?_) #[true, true, true, true, true, true, true, true, true, true, true, true, false, false, false, false, false, false, false, false, false, false, false, false, false, false, false, false, false, false, false, false, false, false, false, false, false, false, false, false, false, false, false, false, false, false, false, false, false, false, false, false, false, false, false] rfl rfl (any_of HT_.out (by kernel_rfl)) (fun _ _ _ h => h) (Or.inl ⟨by rfl, ?_⟩) ?_ ?_
                        rotate_left
                        · intro w'
                          go_simp
                          with_reducible rfl
                        rotate_left
                        · simp only [Act.put, List.setIfInBounds_toArray, List.set_cons_zero, List.set_cons_succ, i64_w, i32_w]
                          rfl
                        refine pure_ (i := 12) (N := some 21) (v := ?_) (a' := ?_) #[true, true, true, true, true, true, true, true, true, true, true, true, true, false, false, false, false, false, false, false, false, false, false, false, false, false, false, false, false, false, false, false, false, false, false, false, false, false, false, false, false, false, false, false, false, false, false, false, false, false, false, false, false, false, false] rfl rfl (any_of HT_.out (by kernel_rfl)) (fun _ _ _ h => h) (Or.inl ⟨by rfl, ?_⟩) ?_ ?_
                        rotate_left
                        · intro w'
                          go_simp
                          with_reducible rfl
                        rotate_left
                        · simp only [Act.put, List.setIfInBounds_toArray, List.set_cons_zero, List.set_cons_succ, i64_w, i32_w]
                          rfl
                        refine pure_ (i := 13) (N := some 22) (v := ?_) (a' := ?_) #[true, true, true, true, true, true, true, true, true, true, true, true, true, true, false, false, false, false, false, false, false, false, false, false, false, false, false, false, false, false, false, false, false, false, false, false, false, false, false, false, false, false, false, false, false, false, false, false, false, false, false, false, false, false, false] rfl rfl (any_of HT_.out (by kernel_rfl)) (fun _ _ _ h => h) (Or.inl ⟨by rfl, ?_⟩) ?_ ?_
                        rotate_left
                        · intro w'
                          go_simp
                          with_reducible rfl
                        rotate_left
                        · simp only [Act.put, List.setIfInBounds_toArray, List.set_cons_zero, List.set_cons_succ, i64_w, i32_w]
                          rfl
                        refine pure_ (i := 14) (N := some 23) (v := ?_) (a' := ?_) #[true, true, true, true, true, true, true, true, true, true, true, true, true, true, true, false, false, false, false, false, false, false, false, false, false, false, false, false, false, false, false, false, false, false, false, false, false, false, false, false, false, false, false, false, false, false, false, false, false, false, false, false, false, false, false] rfl rfl (any_of HT_.out (by kernel_rfl)) (fun _ _ _ h => h) (Or.inl ⟨by rfl, ?_⟩) ?_ ?_
                        rotate_left
                        · intro w'
                          go_simp
                          with_reducible rfl
                        rotate_left
                        · simp only [Act.put, List.setIfInBounds_toArray, List.set_cons_zero, List.set_cons_succ, i64_w, i32_w]
                          rfl
                        refine pure_ (i := 15) (N := some 24) (v := ?_) (a' := ?_) #[true, true, true, true, true, true, true, true, true, true, true, true, true, true, true, true, false, false, false, false, false, false, false, false, false, false, false, false, false, false, false, false, false, false, false, false, false, false, false, false, false, false, false, false, false, false, false, false, false, false, false, false, false, false, false] rfl rfl (any_of HT_.out (by kernel_rfl)) (fun _ _ _ h => h) (Or.inl ⟨by rfl, ?_⟩) ?_ ?_
                        rotate_left
                        · intro w'
                          go_simp
                          with_reducible rfl
                        rotate_left
                        · simp only [Act.put, List.setIfInBounds_toArray, List.set_cons_zero, List.set_cons_succ, i64_w, i32_w]
                          rfl
                        refine pure_ (i := 16) (N := some 25) (v := ?_) (a' := ?_) #[true, true, true, true, true, true, true, true, true, true, true, true, true, true, true, true, true, false, false, false, false, false, false, false, false, false, false, false, false, false, false, false, false, false, false, false, false, false, false, false, false, false, false, false, false, false, false, false, false, false, false, false, false, false, false] rfl rfl (any_of HT_.out (by kernel_rfl)) (fun _ _ _ h => h) (Or.inl ⟨by rfl, ?_⟩) ?_ ?_
                        rotate_left
                        · intro w'
                          go_simp
                          with_reducible rfl
                        rotate_left
                        · simp only [Act.put, List.setIfInBounds_toArray, List.set_cons_zero, List.set_cons_succ, i64_w, i32_w]
                          rfl
                        refine pure_ (i := 17) (N := some 26) (v := ?_) (a' := ?_) #[true, true, true, true, true, true, true, true, true, true, true, true, true, true, true, true, true, true, false, false, false, false, false, false, false, false, false, false, false, false, false, false, false, false, false, false, false, false, false, false, false, false, false, false, false, false, false, false, false, false, false, false, false, false, false] rfl rfl (any_of HT_.out (by kernel_rfl)) (fun _ _ _ h => h) (Or.inl ⟨by rfl, ?_⟩) ?_ ?_
                        rotate_left
                        · intro w'
                          go_simp
                          with_reducible rfl
                        rotate_left
                        · simp only [Act.put, List.setIfInBounds_toArray, List.set_cons_zero, List.set_cons_succ, i64_w, i32_w]
                          rfl
                        refine pure_ (i := 18) (N := some 27) (v := ?_) (a' := ?_) #[true, true, true, true, true, true, true, true, true, true, true, true, true, true, true, true, true, true, true, false, false, false, false, false, false, false, false, false, false, false, false, false, false, false, false, false, false, false, false, false, false, false, false, false, false, false, false, false, false, false, false, false, false, false, false] rfl rfl (any_of HT_.out (by kernel_rfl)) (fun _ _ _ h => h) (Or.inl ⟨by rfl, ?_⟩) ?_ ?_
                        rotate_left
                        · intro w'
                          go_simp
                          with_reducible rfl
                        rotate_left
                        · simp only [Act.put, List.setIfInBounds_toArray, List.set_cons_zero, List.set_cons_succ, i64_w, i32_w]
                          rfl
                        refine pure_ (i := 19) (N := some 28) (v := ?_) (a' := ?_) #[true, true, true, true, true, true, true, true, true, true, true, true, true, true, true, true, true, true, true, true, false, false, false, false, false, false, false, false, false, false, false, false, false, false, false, false, false, false, false, false, false, false, false, false, false, false, false, false, false, false, false, false, false, false, false] rfl rfl (any_of HT_.out (by kernel_rfl)) (fun _ _ _ h => h) (Or.inl ⟨by rfl, ?_⟩) ?_ ?_
                        rotate_left
                        · intro w'
                          go_simp
                          with_reducible rfl
                        rotate_left
                        · simp only [Act.put, List.setIfInBounds_toArray, List.set_cons_zero, List.set_cons_succ, i64_w, i32_w]
                          rfl
                        refine take_ (i := 20) (N := some 29) (v := ?_) (a' := ?_) #[true, true, true, true, true, true, true, true, true, true, true, true, true, true, true, true, true, true, true, true, true, false, false, false, false, false, false, false, false, false, false, false, false, false, false, false, false, false, false, false, false, false, false, false, false, false, false, false, false, false, false, false, false, false, false] rfl rfl (take_ofW HT_.out HW_.out (by kernel_rfl)) (fun _ _ _ h => h) (Or.inl ⟨by rfl, ?_⟩) hHeld ?_ ?_
                        rotate_left
                        · rintro w' ⟨s0, s1, s2, s3, s4, s5, s6, s7, s8, s9, s10, s11⟩
                          go_simp
                          with_reducible rfl
                        rotate_left
                        · simp only [Act.put, List.setIfInBounds_toArray, List.set_cons_zero, List.set_cons_succ, i64_w, i32_w]
                          rfl
                        refine one_ (i := 21) (N := some 30) #[true, true, true, true, true, true, true, true, true, true, true, true, true, true, true, true, true, true, true, true, true, true, false, false, false, false, false, false, false, false, false, false, false, false, false, false, false, false, false, false, false, false, false, false, false, false, false, false, false, false, false, false, false, false, false] rfl rfl (one_of HT_.out (by kernel_rfl)) (by decide) (fun K hK => ?_)
                        refine goes_ Try.func37 (by kernel_rfl) rfl #[.int .i64 4, .int .i64 0, .int .i64 6, .int .i64 3] (by rfl) rfl rfl (by (try simp only [List.map_toArray, List.map_cons, List.map_nil]); first | done | rfl | (simp only [List.length_drop, List.length_take]; rfl)) ?_
                        with_reducible refine (casementlaw02_at.calls 4 0 6 3 t298 t299 t300 t301 _ A18.out).mono ?_
                        rintro e w50 ⟨rfl, hb⟩
                        have HS0_ := (hb.cell (World.block_lt_of_cell? _ _ (hHeld.1))).trans (hHeld.1)
                        have HS1_ := (hb.cell (World.block_lt_of_cell? _ _ (hHeld.2.1))).trans (hHeld.2.1)
                        have HS2_ := (hb.cell (World.block_lt_of_cell? _ _ (hHeld.2.2.1))).trans (hHeld.2.2.1)
                        have HS3_ := (hb.cell (World.block_lt_of_cell? _ _ (hHeld.2.2.2.1))).trans (hHeld.2.2.2.1)
                        have HS4_ := (hb.cell (World.block_lt_of_cell? _ _ (hHeld.2.2.2.2.1))).trans (hHeld.2.2.2.2.1)
                        have HS5_ := (hb.cell (World.block_lt_of_cell? _ _ (hHeld.2.2.2.2.2.1))).trans (hHeld.2.2.2.2.2.1)
                        have HS6_ := (hb.cell (World.block_lt_of_cell? _ _ (hHeld.2.2.2.2.2.2.1))).trans (hHeld.2.2.2.2.2.2.1)
                        have HS7_ := (hb.cell (World.block_lt_of_cell? _ _ (hHeld.2.2.2.2.2.2.2.1))).trans (hHeld.2.2.2.2.2.2.2.1)
                        have HS8_ := (hb.cell (World.block_lt_of_cell? _ _ (hHeld.2.2.2.2.2.2.2.2.1))).trans (hHeld.2.2.2.2.2.2.2.2.1)
                        have HS9_ := (hb.cell (World.block_lt_of_cell? _ _ (hHeld.2.2.2.2.2.2.2.2.2.1))).trans (hHeld.2.2.2.2.2.2.2.2.2.1)
                        have HS10_ := (hb.cell (World.block_lt_of_cell? _ _ (hHeld.2.2.2.2.2.2.2.2.2.2.1))).trans (hHeld.2.2.2.2.2.2.2.2.2.2.1)
                        have HS11_ := (hb.cell (World.block_lt_of_cell? _ _ (hHeld.2.2.2.2.2.2.2.2.2.2.2))).trans (hHeld.2.2.2.2.2.2.2.2.2.2.2)
                        refine ⟨_, rfl, ?_⟩
                        have n0_ := Aside0.mk (Kd.R_below (by (with_reducible repeat (first | apply Kd.R_alloc | apply Kd.R_drewN | apply Kd.R_drew)); exact HO250.out) hb)
                        have n1_ := Aside0.mk (Kd.R_below (by (with_reducible repeat (first | apply Kd.R_alloc | apply Kd.R_drewN | apply Kd.R_drew)); exact HO253.out) hb)
                        have n2_ := Aside0.mk (Kd.R_below (by (with_reducible repeat (first | apply Kd.R_alloc | apply Kd.R_drewN | apply Kd.R_drew)); exact HO264.out) hb)
                        have n3_ := Aside0.mk (below_step (by repeat (first | (with_reducible first | exact HB.out | apply below_alloc | apply pw_below_drewN | apply below_drew1) | exact HB.out)) hb)
                        clear HO250
                        clear HO253
                        clear HO264
                        clear HB
                        have HO250 := n0_
                        have HO253 := n1_
                        have HO264 := n2_
                        have HB := n3_
                        clear n0_ n1_ n2_ n3_
                        (try clear hb)
                        (try clear hb2)
                        (try clear hk)
                        (try clear hi)
                        refine hK.out _ _ ⟨HS0_, HS1_, HS2_, HS3_, HS4_, HS5_, HS6_, HS7_, HS8_, HS9_, HS10_, HS11_⟩ (fun hHeld => ?_)
                        clear hK K
                        refine norm_ (a' := ?_) ?_ ?_
                        rotate_left
                        · show Act.put _ (some 30) _ = _
                          simp only [Act.put, List.setIfInBounds_toArray, List.set_cons_zero, List.set_cons_succ, i64_w, i32_w]
                          rfl
                        refine pure_ (i := 22) (N := some 31) (v := ?_) (a' := ?_) #[true, true, true, true, true, true, true, true, true, true, true, true, true, true, true, true, true, true, true, true, true, true, true, false, false, false, false, false, false, false, false, false, false, false, false, false, false, false, false, false, false, false, false, false, false, false, false, false, false, false, false, false, false, false, false] rfl rfl (any_of HT_.out (by kernel_rfl)) (fun _ _ _ h => h) (Or.inl ⟨by rfl, ?_⟩) ?_ ?_
                        rotate_left
                        · intro w'
                          go_simp
                          with_reducible rfl
                        rotate_left
                        · simp only [Act.put, List.setIfInBounds_toArray, List.set_cons_zero, List.set_cons_succ, i64_w, i32_w]
                          rfl
                        refine pure_ (i := 23) (N := some 32) (v := ?_) (a' := ?_) #[true, true, true, true, true, true, true, true, true, true, true, true, true, true, true, true, true, true, true, true, true, true, true, true, false, false, false, false, false, false, false, false, false, false, false, false, false, false, false, false, false, false, false, false, false, false, false, false, false, false, false, false, false, false, false] rfl rfl (any_of HT_.out (by kernel_rfl)) (fun _ _ _ h => h) (Or.inl ⟨by rfl, ?_⟩) ?_ ?_
                        rotate_left
                        · intro w'
                          go_simp
                          with_reducible rfl
                        rotate_left
                        · simp only [Act.put, List.setIfInBounds_toArray, List.set_cons_zero, List.set_cons_succ, i64_w, i32_w]
                          rfl
                        refine pure_ (i := 24) (N := some 33) (v := ?_) (a' := ?_) #[true, true, true, true, true, true, true, true, true, true, true, true, true, true, true, true, true, true, true, true, true, true, true, true, true, false, false, false, false, false, false, false, false, false, false, false, false, false, false, false, false, false, false, false, false, false, false, false, false, false, false, false, false, false, false] rfl rfl (any_of HT_.out (by kernel_rfl)) (fun _ _ _ h => h) (Or.inl ⟨by rfl, ?_⟩) ?_ ?_
                        rotate_left
                        · intro w'
                          go_simp
                          with_reducible rfl
                        rotate_left
                        · simp only [Act.put, List.setIfInBounds_toArray, List.set_cons_zero, List.set_cons_succ, i64_w, i32_w]
                          rfl
                        refine pure_ (i := 25) (N := some 34) (v := ?_) (a' := ?_) #[true, true, true, true, true, true, true, true, true, true, true, true, true, true, true, true, true, true, true, true, true, true, true, true, true, true, false, false, false, false, false, false, false, false, false, false, false, false, false, false, false, false, false, false, false, false, false, false, false, false, false, false, false, false, false] rfl rfl (any_of HT_.out (by kernel_rfl)) (fun _ _ _ h => h) (Or.inl ⟨by rfl, ?_⟩) ?_ ?_
                        rotate_left
                        · intro w'
                          go_simp
                          with_reducible rfl
                        rotate_left
                        · simp only [Act.put, List.setIfInBounds_toArray, List.set_cons_zero, List.set_cons_succ, i64_w, i32_w]
                          rfl
                        refine pure_ (i := 26) (N := some 35) (v := ?_) (a' := ?_) #[true, true, true, true, true, true, true, true, true, true, true, true, true, true, true, true, true, true, true, true, true, true, true, true, true, true, true, false, false, false, false, false, false, false, false, false, false, false, false, false, false, false, false, false, false, false, false, false, false, false, false, false, false, false, false] rfl rfl (any_of HT_.out (by kernel_rfl)) (fun _ _ _ h => h) (Or.inl ⟨by rfl, ?_⟩) ?_ ?_
                        rotate_left
                        · intro w'
                          go_simp
                          with_reducible rfl
                        rotate_left
                        · simp only [Act.put, List.setIfInBounds_toArray, List.set_cons_zero, List.set_cons_succ, i64_w, i32_w]
                          rfl
                        refine take_ (i := 27) (N := some 36) (v := ?_) (a' := ?_) #[true, true, true, true, true, true, true, true, true, true, true, true, true, true, true, true, true, true, true, true, true, true, true, true, true, true, true, true, false, false, false, false, false, false, false, false, false, false, false, false, false, false, false, false, false, false, false, false, false, false, false, false, false, false, false] rfl rfl (take_ofW HT_.out HW_.out (by kernel_rfl)) (fun _ _ _ h => h) (Or.inl ⟨by rfl, ?_⟩) hHeld ?_ ?_
                        rotate_left
                        · rintro w' ⟨s0, s1, s2, s3, s4, s5, s6, s7, s8, s9, s10, s11⟩
                          go_simp
                          with_reducible rfl
                        rotate_left
                        · simp only [Act.put, List.setIfInBounds_toArray, List.set_cons_zero, List.set_cons_succ, i64_w, i32_w]
                          rfl
                        refine one_ (i := 28) (N := some 37) #[true, true, true, true, true, true, true, true, true, true, true, true, true, true, true, true, true, true, true, true, true, true, true, true, true, true, true, true, true, false, false, false, false, false, false, false, false, false, false, false, false, false, false, false, false, false, false, false, false, false, false, false, false, false, false] rfl rfl (one_of HT_.out (by kernel_rfl)) (by decide) (fun K hK => ?_)
                        refine goes_ Try.func37 (by kernel_rfl) rfl #[.int .i64 0, .int .i64 0, .int .i64 0, .int .i64 0] (by rfl) rfl rfl (by (try simp only [List.map_toArray, List.map_cons, List.map_nil]); first | done | rfl | (simp only [List.length_drop, List.length_take]; rfl)) ?_
                        with_reducible refine (casementlaw02_at.calls 0 0 0 0 t303 t304 t305 t306 _ A21.out).mono ?_
                        rintro e w51 ⟨rfl, hb⟩
                        have HS0_ := (hb.cell (World.block_lt_of_cell? _ _ (hHeld.1))).trans (hHeld.1)
                        have HS1_ := (hb.cell (World.block_lt_of_cell? _ _ (hHeld.2.1))).trans (hHeld.2.1)
                        have HS2_ := (hb.cell (World.block_lt_of_cell? _ _ (hHeld.2.2.1))).trans (hHeld.2.2.1)
                        have HS3_ := (hb.cell (World.block_lt_of_cell? _ _ (hHeld.2.2.2.1))).trans (hHeld.2.2.2.1)
                        have HS4_ := (hb.cell (World.block_lt_of_cell? _ _ (hHeld.2.2.2.2.1))).trans (hHeld.2.2.2.2.1)
                        have HS5_ := (hb.cell (World.block_lt_of_cell? _ _ (hHeld.2.2.2.2.2.1))).trans (hHeld.2.2.2.2.2.1)
                        have HS6_ := (hb.cell (World.block_lt_of_cell? _ _ (hHeld.2.2.2.2.2.2.1))).trans (hHeld.2.2.2.2.2.2.1)
                        have HS7_ := (hb.cell (World.block_lt_of_cell? _ _ (hHeld.2.2.2.2.2.2.2.1))).trans (hHeld.2.2.2.2.2.2.2.1)
                        have HS8_ := (hb.cell (World.block_lt_of_cell? _ _ (hHeld.2.2.2.2.2.2.2.2.1))).trans (hHeld.2.2.2.2.2.2.2.2.1)
                        have HS9_ := (hb.cell (World.block_lt_of_cell? _ _ (hHeld.2.2.2.2.2.2.2.2.2.1))).trans (hHeld.2.2.2.2.2.2.2.2.2.1)
                        have HS10_ := (hb.cell (World.block_lt_of_cell? _ _ (hHeld.2.2.2.2.2.2.2.2.2.2.1))).trans (hHeld.2.2.2.2.2.2.2.2.2.2.1)
                        have HS11_ := (hb.cell (World.block_lt_of_cell? _ _ (hHeld.2.2.2.2.2.2.2.2.2.2.2))).trans (hHeld.2.2.2.2.2.2.2.2.2.2.2)
                        refine ⟨_, rfl, ?_⟩
                        have n0_ := Aside0.mk (Kd.R_below (by (with_reducible repeat (first | apply Kd.R_alloc | apply Kd.R_drewN | apply Kd.R_drew)); exact HO250.out) hb)
                        have n1_ := Aside0.mk (Kd.R_below (by (with_reducible repeat (first | apply Kd.R_alloc | apply Kd.R_drewN | apply Kd.R_drew)); exact HO253.out) hb)
                        have n2_ := Aside0.mk (Kd.R_below (by (with_reducible repeat (first | apply Kd.R_alloc | apply Kd.R_drewN | apply Kd.R_drew)); exact HO264.out) hb)
                        have n3_ := Aside0.mk (below_step (by repeat (first | (with_reducible first | exact HB.out | apply below_alloc | apply pw_below_drewN | apply below_drew1) | exact HB.out)) hb)
                        clear HO250
                        clear HO253
                        clear HO264
                        clear HB
                        have HO250 := n0_
                        have HO253 := n1_
                        have HO264 := n2_
                        have HB := n3_
                        clear n0_ n1_ n2_ n3_
                        (try clear hb)
                        (try clear hb2)
                        (try clear hk)
                        (try clear hi)
                        refine hK.out _ _ ⟨HS0_, HS1_, HS2_, HS3_, HS4_, HS5_, HS6_, HS7_, HS8_, HS9_, HS10_, HS11_⟩ (fun hHeld => ?_)
                        clear hK K
                        refine norm_ (a' := ?_) ?_ ?_
                        rotate_left
                        · show Act.put _ (some 37) _ = _
                          simp only [Act.put, List.setIfInBounds_toArray, List.set_cons_zero, List.set_cons_succ, i64_w, i32_w]
                          rfl
                        refine pure_ (i := 29) (N := some 38) (v := ?_) (a' := ?_) #[true, true, true, true, true, true, true, true, true, true, true, true, true, true, true, true, true, true, true, true, true, true, true, true, true, true, true, true, true, true, false, false, false, false, false, false, false, false, false, false, false, false, false, false, false, false, false, false, false, false, false, false, false, false, false] rfl rfl (any_of HT_.out (by kernel_rfl)) (fun _ _ _ h => h) (Or.inl ⟨by rfl, ?_⟩) ?_ ?_
                        rotate_left
                        · intro w'
                          go_simp
                          with_reducible rfl
                        rotate_left
                        · simp only [Act.put, List.setIfInBounds_toArray, List.set_cons_zero, List.set_cons_succ, i64_w, i32_w]
                          rfl
                        refine pure_ (i := 30) (N := some 39) (v := ?_) (a' := ?_) #[true, true, true, true, true, true, true, true, true, true, true, true, true, true, true, true, true, true, true, true, true, true, true, true, true, true, true, true, true, true, true, false, false, false, false, false, false, false, false, false, false, false, false, false, false, false, false, false, false, false, false, false, false, false, false] rfl rfl (any_of HT_.out (by kernel_rfl)) (fun _ _ _ h => h) (Or.inl ⟨by rfl, ?_⟩) ?_ ?_
                        rotate_left
                        · intro w'
                          go_simp
                          with_reducible rfl
                        rotate_left
                        · simp only [Act.put, List.setIfInBounds_toArray, List.set_cons_zero, List.set_cons_succ, i64_w, i32_w]
                          rfl
                        refine pure_ (i := 31) (N := some 40) (v := ?_) (a' := ?_) #[true, true, true, true, true, true, true, true, true, true, true, true, true, true, true, true, true, true, true, true, true, true, true, true, true, true, true, true, true, true, true, true, false, false, false, false, false, false, false, false, false, false, false, false, false, false, false, false, false, false, false, false, false, false, false] rfl rfl (any_of HT_.out (by kernel_rfl)) (fun _ _ _ h => h) (Or.inl ⟨by rfl, ?_⟩) ?_ ?_
                        rotate_left
                        · intro w'
                          go_simp
                          with_reducible rfl
                        rotate_left
                        · simp only [Act.put, List.setIfInBounds_toArray, List.set_cons_zero, List.set_cons_succ, i64_w, i32_w]
                          rfl
                        refine pure_ (i := 32) (N := some 41) (v := ?_) (a' := ?_) #[true, true, true, true, true, true, true, true, true, true, true, true, true, true, true, true, true, true, true, true, true, true, true, true, true, true, true, true, true, true, true, true, true, false, false, false, false, false, false, false, false, false, false, false, false, false, false, false, false, false, false, false, false, false, false] rfl rfl (any_of HT_.out (by kernel_rfl)) (fun _ _ _ h => h) (Or.inl ⟨by rfl, ?_⟩) ?_ ?_
                        rotate_left
                        · intro w'
                          go_simp
                          with_reducible rfl
                        rotate_left
                        · simp only [Act.put, List.setIfInBounds_toArray, List.set_cons_zero, List.set_cons_succ, i64_w, i32_w]
                          rfl
                        refine pure_ (i := 33) (N := some 42) (v := ?_) (a' := ?_) #[true, true, true, true, true, true, true, true, true, true, true, true, true, true, true, true, true, true, true, true, true, true, true, true, true, true, true, true, true, true, true, true, true, true, false, false, false, false, false, false, false, false, false, false, false, false, false, false, false, false, false, false, false, false, false] rfl rfl (any_of HT_.out (by kernel_rfl)) (fun _ _ _ h => h) (Or.inl ⟨by rfl, ?_⟩) ?_ ?_
                        rotate_left
                        · intro w'
                          go_simp
                          with_reducible rfl
                        rotate_left
                        · simp only [Act.put, List.setIfInBounds_toArray, List.set_cons_zero, List.set_cons_succ, i64_w, i32_w]
                          rfl
                        refine pure_ (i := 34) (N := some 43) (v := ?_) (a' := ?_) #[true, true, true, true, true, true, true, true, true, true, true, true, true, true, true, true, true, true, true, true, true, true, true, true, true, true, true, true, true, true, true, true, true, true, true, false, false, false, false, false, false, false, false, false, false, false, false, false, false, false, false, false, false, false, false] rfl rfl (any_of HT_.out (by kernel_rfl)) (fun _ _ _ h => h) (Or.inl ⟨by rfl, ?_⟩) ?_ ?_
                        rotate_left
                        · intro w'
                          go_simp
                          with_reducible rfl
                        rotate_left
                        · simp only [Act.put, List.setIfInBounds_toArray, List.set_cons_zero, List.set_cons_succ, i64_w, i32_w]
                          rfl
                        refine pure_ (i := 35) (N := some 44) (v := ?_) (a' := ?_) #[true, true, true, true, true, true, true, true, true, true, true, true, true, true, true, true, true, true, true, true, true, true, true, true, true, true, true, true, true, true, true, true, true, true, true, true, false, false, false, false, false, false, false, false, false, false, false, false, false, false, false, false, false, false, false] rfl rfl (any_of HT_.out (by kernel_rfl)) (fun _ _ _ h => h) (Or.inl ⟨by rfl, ?_⟩) ?_ ?_
                        rotate_left
                        · intro w'
                          go_simp
                          with_reducible rfl
                        rotate_left
                        · simp only [Act.put, List.setIfInBounds_toArray, List.set_cons_zero, List.set_cons_succ, i64_w, i32_w]
                          rfl
                        refine pure_ (i := 36) (N := some 45) (v := ?_) (a' := ?_) #[true, true, true, true, true, true, true, true, true, true, true, true, true, true, true, true, true, true, true, true, true, true, true, true, true, true, true, true, true, true, true, true, true, true, true, true, true, false, false, false, false, false, false, false, false, false, false, false, false, false, false, false, false, false, false] rfl rfl (any_of HT_.out (by kernel_rfl)) (fun _ _ _ h => h) (Or.inl ⟨by rfl, ?_⟩) ?_ ?_
                        rotate_left
                        · intro w'
                          go_simp
                          with_reducible rfl
                        rotate_left
                        · simp only [Act.put, List.setIfInBounds_toArray, List.set_cons_zero, List.set_cons_succ, i64_w, i32_w]
                          rfl
                        refine pure_ (i := 37) (N := some 46) (v := ?_) (a' := ?_) #[true, true, true, true, true, true, true, true, true, true, true, true, true, true, true, true, true, true, true, true, true, true, true, true, true, true, true, true, true, true, true, true, true, true, true, true, true, true, false, false, false, false, false, false, false, false, false, false, false, false, false, false, false, false, false] rfl rfl (any_of HT_.out (by kernel_rfl)) (fun _ _ _ h => h) (Or.inl ⟨by rfl, ?_⟩) ?_ ?_
                        rotate_left
                        · intro w'
                          go_simp
                          with_reducible rfl
                        rotate_left
                        · simp only [Act.put, List.setIfInBounds_toArray, List.set_cons_zero, List.set_cons_succ, i64_w, i32_w]
                          rfl
                        refine pure_ (i := 38) (N := some 47) (v := ?_) (a' := ?_) #[true, true, true, true, true, true, true, true, true, true, true, true, true, true, true, true, true, true, true, true, true, true, true, true, true, true, true, true, true, true, true, true, true, true, true, true, true, true, true, false, false, false, false, false, false, false, false, false, false, false, false, false, false, false, false] rfl rfl (any_of HT_.out (by kernel_rfl)) (fun _ _ _ h => h) (Or.inl ⟨by rfl, ?_⟩) ?_ ?_
                        rotate_left
                        · intro w'
                          go_simp
                          with_reducible rfl
                        rotate_left
                        · simp only [Act.put, List.setIfInBounds_toArray, List.set_cons_zero, List.set_cons_succ, i64_w, i32_w]
                          rfl
                        refine take_ (i := 39) (N := some 48) (v := ?_) (a' := ?_) #[true, true, true, true, true, true, true, true, true, true, true, true, true, true, true, true, true, true, true, true, true, true, true, true, true, true, true, true, true, true, true, true, true, true, true, true, true, true, true, true, false, false, false, false, false, false, false, false, false, false, false, false, false, false, false] rfl rfl (take_ofW HT_.out HW_.out (by kernel_rfl)) (fun _ _ _ h => h) (Or.inl ⟨by rfl, ?_⟩) hHeld ?_ ?_
                        rotate_left
                        · rintro w' ⟨s0, s1, s2, s3, s4, s5, s6, s7, s8, s9, s10, s11⟩
                          go_simp
                          with_reducible rfl
                        rotate_left
                        · simp only [Act.put, List.setIfInBounds_toArray, List.set_cons_zero, List.set_cons_succ, i64_w, i32_w]
                          rfl
                        refine one_ (i := 40) (N := some 49) #[true, true, true, true, true, true, true, true, true, true, true, true, true, true, true, true, true, true, true, true, true, true, true, true, true, true, true, true, true, true, true, true, true, true, true, true, true, true, true, true, true, false, false, false, false, false, false, false, false, false, false, false, false, false, false] rfl rfl (one_of HT_.out (by kernel_rfl)) (by decide) (fun K hK => ?_)
                        refine goes_ Try.func37 (by kernel_rfl) rfl #[.int .i64 2, .int .i64 1, .int .i64 1, .int .i64 1] (by rfl) rfl rfl (by (try simp only [List.map_toArray, List.map_cons, List.map_nil]); first | done | rfl | (simp only [List.length_drop, List.length_take]; rfl)) ?_
                        with_reducible refine (casementlaw02_at.calls 2 1 1 1 t308 t309 t310 t311 _ A25.out).mono ?_
                        rintro e w53 ⟨rfl, hb⟩
                        have HS0_ := (hb.cell (World.block_lt_of_cell? _ _ (hHeld.1))).trans (hHeld.1)
                        have HS1_ := (hb.cell (World.block_lt_of_cell? _ _ (hHeld.2.1))).trans (hHeld.2.1)
                        have HS2_ := (hb.cell (World.block_lt_of_cell? _ _ (hHeld.2.2.1))).trans (hHeld.2.2.1)
                        have HS3_ := (hb.cell (World.block_lt_of_cell? _ _ (hHeld.2.2.2.1))).trans (hHeld.2.2.2.1)
                        have HS4_ := (hb.cell (World.block_lt_of_cell? _ _ (hHeld.2.2.2.2.1))).trans (hHeld.2.2.2.2.1)
                        have HS5_ := (hb.cell (World.block_lt_of_cell? _ _ (hHeld.2.2.2.2.2.1))).trans (hHeld.2.2.2.2.2.1)
                        have HS6_ := (hb.cell (World.block_lt_of_cell? _ _ (hHeld.2.2.2.2.2.2.1))).trans (hHeld.2.2.2.2.2.2.1)
                        have HS7_ := (hb.cell (World.block_lt_of_cell? _ _ (hHeld.2.2.2.2.2.2.2.1))).trans (hHeld.2.2.2.2.2.2.2.1)
                        have HS8_ := (hb.cell (World.block_lt_of_cell? _ _ (hHeld.2.2.2.2.2.2.2.2.1))).trans (hHeld.2.2.2.2.2.2.2.2.1)
                        have HS9_ := (hb.cell (World.block_lt_of_cell? _ _ (hHeld.2.2.2.2.2.2.2.2.2.1))).trans (hHeld.2.2.2.2.2.2.2.2.2.1)
                        have HS10_ := (hb.cell (World.block_lt_of_cell? _ _ (hHeld.2.2.2.2.2.2.2.2.2.2.1))).trans (hHeld.2.2.2.2.2.2.2.2.2.2.1)
                        have HS11_ := (hb.cell (World.block_lt_of_cell? _ _ (hHeld.2.2.2.2.2.2.2.2.2.2.2))).trans (hHeld.2.2.2.2.2.2.2.2.2.2.2)
                        refine ⟨_, rfl, ?_⟩
                        have n0_ := Aside0.mk (Kd.R_below (by (with_reducible repeat (first | apply Kd.R_alloc | apply Kd.R_drewN | apply Kd.R_drew)); exact HO250.out) hb)
                        have n1_ := Aside0.mk (Kd.R_below (by (with_reducible repeat (first | apply Kd.R_alloc | apply Kd.R_drewN | apply Kd.R_drew)); exact HO253.out) hb)
                        have n2_ := Aside0.mk (Kd.R_below (by (with_reducible repeat (first | apply Kd.R_alloc | apply Kd.R_drewN | apply Kd.R_drew)); exact HO264.out) hb)
                        have n3_ := Aside0.mk (below_step (by repeat (first | (with_reducible first | exact HB.out | apply below_alloc | apply pw_below_drewN | apply below_drew1) | exact HB.out)) hb)
                        clear HO250
                        clear HO253
                        clear HO264
                        clear HB
                        have HO250 := n0_
                        have HO253 := n1_
                        have HO264 := n2_
                        have HB := n3_
                        clear n0_ n1_ n2_ n3_
                        (try clear hb)
                        (try clear hb2)
                        (try clear hk)
                        (try clear hi)
                        refine hK.out _ _ ⟨HS0_, HS1_, HS2_, HS3_, HS4_, HS5_, HS6_, HS7_, HS8_, HS9_, HS10_, HS11_⟩ (fun hHeld => ?_)
                        clear hK K
                        refine norm_ (a' := ?_) ?_ ?_
                        rotate_left
                        · show Act.put _ (some 49) _ = _
                          simp only [Act.put, List.setIfInBounds_toArray, List.set_cons_zero, List.set_cons_succ, i64_w, i32_w]
                          rfl
                        refine pure_ (i := 41) (N := some 50) (v := ?_) (a' := ?_) #[true, true, true, true, true, true, true, true, true, true, true, true, true, true, true, true, true, true, true, true, true, true, true, true, true, true, true, true, true, true, true, true, true, true, true, true, true, true, true, true, true, true, false, false, false, false, false, false, false, false, false, false, false, false, false] rfl rfl (any_of HT_.out (by kernel_rfl)) (fun _ _ _ h => h) (Or.inl ⟨by rfl, ?_⟩) ?_ ?_
                        rotate_left
                        · intro w'
                          go_simp
                          with_reducible rfl
                        rotate_left
                        · simp only [Act.put, List.setIfInBounds_toArray, List.set_cons_zero, List.set_cons_succ, i64_w, i32_w]
                          rfl
                        refine pure_ (i := 42) (N := some 51) (v := ?_) (a' := ?_) #[true, true, true, true, true, true, true, true, true, true, true, true, true, true, true, true, true, true, true, true, true, true, true, true, true, true, true, true, true, true, true, true, true, true, true, true, true, true, true, true, true, true, true, false, false, false, false, false, false, false, false, false, false, false, false] rfl rfl (any_of HT_.out (by kernel_rfl)) (fun _ _ _ h => h) (Or.inl ⟨by rfl, ?_⟩) ?_ ?_
                        rotate_left
                        · intro w'
                          go_simp
                          with_reducible rfl
                        rotate_left
                        · simp only [Act.put, List.setIfInBounds_toArray, List.set_cons_zero, List.set_cons_succ, i64_w, i32_w]
                          rfl
                        refine pure_ (i := 43) (N := some 52) (v := ?_) (a' := ?_) #[true, true, true, true, true, true, true, true, true, true, true, true, true, true, true, true, true, true, true, true, true, true, true, true, true, true, true, true, true, true, true, true, true, true, true, true, true, true, true, true, true, true, true, true, false, false, false, false, false, false, false, false, false, false, false] rfl rfl (any_of HT_.out (by kernel_rfl)) (fun _ _ _ h => h) (Or.inl ⟨by rfl, ?_⟩) ?_ ?_
                        rotate_left
                        · intro w'
                          go_simp
                          with_reducible rfl
                        rotate_left
                        · simp only [Act.put, List.setIfInBounds_toArray, List.set_cons_zero, List.set_cons_succ, i64_w, i32_w]
                          rfl
                        refine one_ (i := 44) (N := some 53) #[true, true, true, true, true, true, true, true, true, true, true, true, true, true, true, true, true, true, true, true, true, true, true, true, true, true, true, true, true, true, true, true, true, true, true, true, true, true, true, true, true, true, true, true, true, false, false, false, false, false, false, false, false, false, false] rfl rfl (one_of HT_.out (by kernel_rfl)) (by decide) (fun K hK => ?_)
                        refine goes_ Try.func16 (by kernel_rfl) rfl #[.int .i64 9223372036854775807, .int .i64 1] (by rfl) rfl rfl (by (try simp only [List.map_toArray, List.map_cons, List.map_nil]); first | done | rfl | (simp only [List.length_drop, List.length_take]; rfl)) ?_
                        with_reducible refine (rect_Sum.calls k 9223372036854775807 1 t312 _ A27.out).mono ?_
                        rintro e w' ⟨rfl, ⟨nd, rfl⟩⟩
                        refine ⟨_, rfl, ?_⟩
                        refine hK.out _ _ ⟨hHeld.1, hHeld.2.1, hHeld.2.2.1, hHeld.2.2.2.1, hHeld.2.2.2.2.1, hHeld.2.2.2.2.2.1, hHeld.2.2.2.2.2.2.1, hHeld.2.2.2.2.2.2.2.1, hHeld.2.2.2.2.2.2.2.2.1, hHeld.2.2.2.2.2.2.2.2.2.1, hHeld.2.2.2.2.2.2.2.2.2.2.1, hHeld.2.2.2.2.2.2.2.2.2.2.2⟩ (fun hHeld => ?_)
                        clear hK K
                        refine norm_ (a' := ?_) ?_ ?_
                        rotate_left
                        · show Act.put _ (some 53) _ = _
                          simp only [Act.put, List.setIfInBounds_toArray, List.set_cons_zero, List.set_cons_succ, i64_w, i32_w]
                          rfl
                        refine pure_ (i := 45) (N := some 54) (v := ?_) (a' := ?_) #[true, true, true, true, true, true, true, true, true, true, true, true, true, true, true, true, true, true, true, true, true, true, true, true, true, true, true, true, true, true, true, true, true, true, true, true, true, true, true, true, true, true, true, true, true, true, false, false, false, false, false, false, false, false, false] rfl rfl (any_of HT_.out (by kernel_rfl)) (fun _ _ _ h => h) (Or.inl ⟨by rfl, ?_⟩) ?_ ?_
                        rotate_left
                        · intro w'
                          go_simp
                          with_reducible rfl
                        rotate_left
                        · simp only [Act.put, List.setIfInBounds_toArray, List.set_cons_zero, List.set_cons_succ, i64_w, i32_w]
                          rfl
                        refine pure_ (i := 46) (N := some 55) (v := ?_) (a' := ?_) #[true, true, true, true, true, true, true, true, true, true, true, true, true, true, true, true, true, true, true, true, true, true, true, true, true, true, true, true, true, true, true, true, true, true, true, true, true, true, true, true, true, true, true, true, true, true, true, false, false, false, false, false, false, false, false] rfl rfl (any_of HT_.out (by kernel_rfl)) (fun _ _ _ h => h) (Or.inl ⟨by rfl, ?_⟩) ?_ ?_
                        rotate_left
                        · intro w'
                          go_simp
                          with_reducible rfl
                        rotate_left
                        · simp only [Act.put, List.setIfInBounds_toArray, List.set_cons_zero, List.set_cons_succ, i64_w, i32_w]
                          rfl
                        refine pure_ (i := 47) (N := some 56) (v := ?_) (a' := ?_) #[true, true, true, true, true, true, true, true, true, true, true, true, true, true, true, true, true, true, true, true, true, true, true, true, true, true, true, true, true, true, true, true, true, true, true, true, true, true, true, true, true, true, true, true, true, true, true, true, false, false, false, false, false, false, false] rfl rfl (any_of HT_.out (by kernel_rfl)) (fun _ _ _ h => h) (Or.inl ⟨by rfl, ?_⟩) ?_ ?_
                        rotate_left
                        · intro w'
                          go_simp
                          with_reducible rfl
                        rotate_left
                        · simp only [Act.put, List.setIfInBounds_toArray, List.set_cons_zero, List.set_cons_succ, i64_w, i32_w]
                          rfl
                        refine one_ (i := 48) (N := some 57) #[true, true, true, true, true, true, true, true, true, true, true, true, true, true, true, true, true, true, true, true, true, true, true, true, true, true, true, true, true, true, true, true, true, true, true, true, true, true, true, true, true, true, true, true, true, true, true, true, true, false, false, false, false, false, false] rfl rfl (one_of HT_.out (by kernel_rfl)) (by decide) (fun K hK => ?_)
                        refine goes_ Try.func37 (by kernel_rfl) rfl #[.int .i64 0, .int .i64 0, .int .i64 2, .int .i64 2] (by rfl) rfl rfl (by (try simp only [List.map_toArray, List.map_cons, List.map_nil]); first | done | rfl | (simp only [List.length_drop, List.length_take]; rfl)) ?_
                        with_reducible refine (casementlaw02_at.calls 0 0 2 2 t313 t314 t315 t316 _ A29.out).mono ?_
                        rintro e w54 ⟨rfl, hb⟩
                        have HS0_ := (hb.cell (World.block_lt_of_cell? _ _ (hHeld.1))).trans (hHeld.1)
                        have HS1_ := (hb.cell (World.block_lt_of_cell? _ _ (hHeld.2.1))).trans (hHeld.2.1)
                        have HS2_ := (hb.cell (World.block_lt_of_cell? _ _ (hHeld.2.2.1))).trans (hHeld.2.2.1)
                        have HS3_ := (hb.cell (World.block_lt_of_cell? _ _ (hHeld.2.2.2.1))).trans (hHeld.2.2.2.1)
                        have HS4_ := (hb.cell (World.block_lt_of_cell? _ _ (hHeld.2.2.2.2.1))).trans (hHeld.2.2.2.2.1)
                        have HS5_ := (hb.cell (World.block_lt_of_cell? _ _ (hHeld.2.2.2.2.2.1))).trans (hHeld.2.2.2.2.2.1)
                        have HS6_ := (hb.cell (World.block_lt_of_cell? _ _ (hHeld.2.2.2.2.2.2.1))).trans (hHeld.2.2.2.2.2.2.1)
                        have HS7_ := (hb.cell (World.block_lt_of_cell? _ _ (hHeld.2.2.2.2.2.2.2.1))).trans (hHeld.2.2.2.2.2.2.2.1)
                        have HS8_ := (hb.cell (World.block_lt_of_cell? _ _ (hHeld.2.2.2.2.2.2.2.2.1))).trans (hHeld.2.2.2.2.2.2.2.2.1)
                        have HS9_ := (hb.cell (World.block_lt_of_cell? _ _ (hHeld.2.2.2.2.2.2.2.2.2.1))).trans (hHeld.2.2.2.2.2.2.2.2.2.1)
                        have HS10_ := (hb.cell (World.block_lt_of_cell? _ _ (hHeld.2.2.2.2.2.2.2.2.2.2.1))).trans (hHeld.2.2.2.2.2.2.2.2.2.2.1)
                        have HS11_ := (hb.cell (World.block_lt_of_cell? _ _ (hHeld.2.2.2.2.2.2.2.2.2.2.2))).trans (hHeld.2.2.2.2.2.2.2.2.2.2.2)
                        refine ⟨_, rfl, ?_⟩
                        have n0_ := Aside0.mk (Kd.R_below (by (with_reducible repeat (first | apply Kd.R_alloc | apply Kd.R_drewN | apply Kd.R_drew)); exact HO250.out) hb)
                        have n1_ := Aside0.mk (Kd.R_below (by (with_reducible repeat (first | apply Kd.R_alloc | apply Kd.R_drewN | apply Kd.R_drew)); exact HO253.out) hb)
                        have n2_ := Aside0.mk (Kd.R_below (by (with_reducible repeat (first | apply Kd.R_alloc | apply Kd.R_drewN | apply Kd.R_drew)); exact HO264.out) hb)
                        have n3_ := Aside0.mk (below_step (by repeat (first | (with_reducible first | exact HB.out | apply below_alloc | apply pw_below_drewN | apply below_drew1) | exact HB.out)) hb)
                        clear HO250
                        clear HO253
                        clear HO264
                        clear HB
                        have HO250 := n0_
                        have HO253 := n1_
                        have HO264 := n2_
                        have HB := n3_
                        clear n0_ n1_ n2_ n3_
                        (try clear hb)
                        (try clear hb2)
                        (try clear hk)
                        (try clear hi)
                        refine hK.out _ _ ⟨HS0_, HS1_, HS2_, HS3_, HS4_, HS5_, HS6_, HS7_, HS8_, HS9_, HS10_, HS11_⟩ (fun hHeld => ?_)
                        clear hK K
                        refine norm_ (a' := ?_) ?_ ?_
                        rotate_left
                        · show Act.put _ (some 57) _ = _
                          simp only [Act.put, List.setIfInBounds_toArray, List.set_cons_zero, List.set_cons_succ, i64_w, i32_w]
                          rfl
                        refine one_ (i := 49) (N := some 58) #[true, true, true, true, true, true, true, true, true, true, true, true, true, true, true, true, true, true, true, true, true, true, true, true, true, true, true, true, true, true, true, true, true, true, true, true, true, true, true, true, true, true, true, true, true, true, true, true, true, true, false, false, false, false, false] rfl rfl (one_of HT_.out (by kernel_rfl)) (by decide) (fun K hK => ?_)
                        refine goes_ Try.func37 (by kernel_rfl) rfl #[.int .i64 1, .int .i64 1, .int .i64 2, .int .i64 2] (by rfl) rfl rfl (by (try simp only [List.map_toArray, List.map_cons, List.map_nil]); first | done | rfl | (simp only [List.length_drop, List.length_take]; rfl)) ?_
                        with_reducible refine (casementlaw02_at.calls 1 1 2 2 t317 t318 t319 t320 _ A30.out).mono ?_
                        rintro e w55 ⟨rfl, hb⟩
                        have HS0_ := (hb.cell (World.block_lt_of_cell? _ _ (hHeld.1))).trans (hHeld.1)
                        have HS1_ := (hb.cell (World.block_lt_of_cell? _ _ (hHeld.2.1))).trans (hHeld.2.1)
                        have HS2_ := (hb.cell (World.block_lt_of_cell? _ _ (hHeld.2.2.1))).trans (hHeld.2.2.1)
                        have HS3_ := (hb.cell (World.block_lt_of_cell? _ _ (hHeld.2.2.2.1))).trans (hHeld.2.2.2.1)
                        have HS4_ := (hb.cell (World.block_lt_of_cell? _ _ (hHeld.2.2.2.2.1))).trans (hHeld.2.2.2.2.1)
                        have HS5_ := (hb.cell (World.block_lt_of_cell? _ _ (hHeld.2.2.2.2.2.1))).trans (hHeld.2.2.2.2.2.1)
                        have HS6_ := (hb.cell (World.block_lt_of_cell? _ _ (hHeld.2.2.2.2.2.2.1))).trans (hHeld.2.2.2.2.2.2.1)
                        have HS7_ := (hb.cell (World.block_lt_of_cell? _ _ (hHeld.2.2.2.2.2.2.2.1))).trans (hHeld.2.2.2.2.2.2.2.1)
                        have HS8_ := (hb.cell (World.block_lt_of_cell? _ _ (hHeld.2.2.2.2.2.2.2.2.1))).trans (hHeld.2.2.2.2.2.2.2.2.1)
                        have HS9_ := (hb.cell (World.block_lt_of_cell? _ _ (hHeld.2.2.2.2.2.2.2.2.2.1))).trans (hHeld.2.2.2.2.2.2.2.2.2.1)
                        have HS10_ := (hb.cell (World.block_lt_of_cell? _ _ (hHeld.2.2.2.2.2.2.2.2.2.2.1))).trans (hHeld.2.2.2.2.2.2.2.2.2.2.1)
                        have HS11_ := (hb.cell (World.block_lt_of_cell? _ _ (hHeld.2.2.2.2.2.2.2.2.2.2.2))).trans (hHeld.2.2.2.2.2.2.2.2.2.2.2)
                        refine ⟨_, rfl, ?_⟩
                        have n0_ := Aside0.mk (Kd.R_below (by (with_reducible repeat (first | apply Kd.R_alloc | apply Kd.R_drewN | apply Kd.R_drew)); exact HO250.out) hb)
                        have n1_ := Aside0.mk (Kd.R_below (by (with_reducible repeat (first | apply Kd.R_alloc | apply Kd.R_drewN | apply Kd.R_drew)); exact HO253.out) hb)
                        have n2_ := Aside0.mk (Kd.R_below (by (with_reducible repeat (first | apply Kd.R_alloc | apply Kd.R_drewN | apply Kd.R_drew)); exact HO264.out) hb)
                        have n3_ := Aside0.mk (below_step (by repeat (first | (with_reducible first | exact HB.out | apply below_alloc | apply pw_below_drewN | apply below_drew1) | exact HB.out)) hb)
                        clear HO250
                        clear HO253
                        clear HO264
                        clear HB
                        have HO250 := n0_
                        have HO253 := n1_
                        have HO264 := n2_
                        have HB := n3_
                        clear n0_ n1_ n2_ n3_
                        (try clear hb)
                        (try clear hb2)
                        (try clear hk)
                        (try clear hi)
                        refine hK.out _ _ ⟨HS0_, HS1_, HS2_, HS3_, HS4_, HS5_, HS6_, HS7_, HS8_, HS9_, HS10_, HS11_⟩ (fun hHeld => ?_)
                        clear hK K
                        refine norm_ (a' := ?_) ?_ ?_
                        rotate_left
                        · show Act.put _ (some 58) _ = _
                          simp only [Act.put, List.setIfInBounds_toArray, List.set_cons_zero, List.set_cons_succ, i64_w, i32_w]
                          rfl
                        refine one_ (i := 50) (N := some 59) #[true, true, true, true, true, true, true, true, true, true, true, true, true, true, true, true, true, true, true, true, true, true, true, true, true, true, true, true, true, true, true, true, true, true, true, true, true, true, true, true, true, true, true, true, true, true, true, true, true, true, true, false, false, false, false] rfl rfl (one_of HT_.out (by kernel_rfl)) (by decide) (fun K hK => ?_)
                        refine Kd.R_lit_step k26 _ 26 ?hg (N := 59) ?hd (xs := ([(⟨t313, t314, t315, t316⟩ : S26), (⟨t317, t318, t319, t320⟩ : S26)] : List (S26))) (inner := [.int .i64 t313, .int .i64 t314, .int .i64 t315, .int .i64 t316, .int .i64 t317, .int .i64 t318, .int .i64 t319, .int .i64 t320]) (ok := fun _ => True) (okp := fun _ => True) ?hr ?hp (fun _ hk => hk) trivial (Below.refl _ _) (Nat.le_refl _) (by simp) ?_; (case hd => rfl); (case hg => rfl); (case hr => first | (go_simp; done) | (go_simp; rfl)); (case hp => exact (Reps.c4 (show Kd.M k26 _ _ _ (⟨t313, t314, t315, t316⟩ : S26) [.int .i64 t313, .int .i64 t314, .int .i64 t315, .int .i64 t316] from (k26_mkM _ _ _ (⟨t313, t314, t315, t316⟩ : S26) )) (Reps.c4 (show Kd.M k26 _ _ _ (⟨t317, t318, t319, t320⟩ : S26) [.int .i64 t317, .int .i64 t318, .int .i64 t319, .int .i64 t320] from (k26_mkM _ _ _ (⟨t317, t318, t319, t320⟩ : S26) )) (Reps.none _ _))))
                        intro v322 w56 ho57 hb hg_ hnew_
                        have HS0_ := (hb.cell (World.block_lt_of_cell? _ _ (hHeld.1))).trans (hHeld.1)
                        have HS1_ := (hb.cell (World.block_lt_of_cell? _ _ (hHeld.2.1))).trans (hHeld.2.1)
                        have HS2_ := (hb.cell (World.block_lt_of_cell? _ _ (hHeld.2.2.1))).trans (hHeld.2.2.1)
                        have HS3_ := (hb.cell (World.block_lt_of_cell? _ _ (hHeld.2.2.2.1))).trans (hHeld.2.2.2.1)
                        have HS4_ := (hb.cell (World.block_lt_of_cell? _ _ (hHeld.2.2.2.2.1))).trans (hHeld.2.2.2.2.1)
                        have HS5_ := (hb.cell (World.block_lt_of_cell? _ _ (hHeld.2.2.2.2.2.1))).trans (hHeld.2.2.2.2.2.1)
                        have HS6_ := (hb.cell (World.block_lt_of_cell? _ _ (hHeld.2.2.2.2.2.2.1))).trans (hHeld.2.2.2.2.2.2.1)
                        have HS7_ := (hb.cell (World.block_lt_of_cell? _ _ (hHeld.2.2.2.2.2.2.2.1))).trans (hHeld.2.2.2.2.2.2.2.1)
                        have HS8_ := (hb.cell (World.block_lt_of_cell? _ _ (hHeld.2.2.2.2.2.2.2.2.1))).trans (hHeld.2.2.2.2.2.2.2.2.1)
                        have HS9_ := (hb.cell (World.block_lt_of_cell? _ _ (hHeld.2.2.2.2.2.2.2.2.2.1))).trans (hHeld.2.2.2.2.2.2.2.2.2.1)
                        have HS10_ := (hb.cell (World.block_lt_of_cell? _ _ (hHeld.2.2.2.2.2.2.2.2.2.2.1))).trans (hHeld.2.2.2.2.2.2.2.2.2.2.1)
                        have HS11_ := (hb.cell (World.block_lt_of_cell? _ _ (hHeld.2.2.2.2.2.2.2.2.2.2.2))).trans (hHeld.2.2.2.2.2.2.2.2.2.2.2)
                        clear hg_ hnew_
                        (first | rw [← Ny321.out] at ho57 | (simp only [Int.reduceToNat] at ho57; rw [← Ny321.out] at ho57))
                        have n0_ := Aside0.mk (Kd.R_below (by (with_reducible repeat (first | apply Kd.R_alloc | apply Kd.R_drewN | apply Kd.R_drew)); exact HO250.out) hb)
                        have n1_ := Aside0.mk (Kd.R_elder' (by (with_reducible repeat (first | apply Kd.R_alloc | apply Kd.R_drewN | apply Kd.R_drew)); exact HO253.out) (Kd.R_base ho57) hb)
                        have n2_ := Aside0.mk (Kd.R_elder' (by (with_reducible repeat (first | apply Kd.R_alloc | apply Kd.R_drewN | apply Kd.R_drew)); exact HO264.out) (Kd.R_base ho57) hb)
                        have n3_ := Aside0.mk (Kd.R_lower (Kd.R_new' (Kd.R_new' ho57 (Kd.R_lt (by (with_reducible repeat (first | apply Kd.R_alloc | apply Kd.R_drewN | apply Kd.R_drew)); exact HO253.out))) (Kd.R_lt (by (with_reducible repeat (first | apply Kd.R_alloc | apply Kd.R_drewN | apply Kd.R_drew)); exact HO264.out))) (below_size (by repeat (first | (with_reducible first | exact HB.out | apply below_alloc | apply pw_below_drewN | apply below_drew1) | exact HB.out))))
                        have n4_ := Aside0.mk (below_step (by repeat (first | (with_reducible first | exact HB.out | apply below_alloc | apply pw_below_drewN | apply below_drew1) | exact HB.out)) hb)
                        clear HO250
                        clear HO253
                        clear HO264
                        clear HB
                        have HO250 := n0_
                        have HO253 := n1_
                        have HO264 := n2_
                        have HO323 := n3_
                        have HB := n4_
                        clear n0_ n1_ n2_ n3_ n4_
                        clear hb ho57
                        obtain ⟨Ao58, co58, eo58⟩ := Kd.R_slice HO323.out
                        (first | subst eo58 | (injection eo58 with f1_ f2_ f3_; have f4_ := f1_.symm; have f5_ := f3_.symm; clear f1_ f2_ f3_; subst f4_; subst f5_))
                        refine hK.out _ _ ⟨HS0_, HS1_, HS2_, HS3_, HS4_, HS5_, HS6_, HS7_, HS8_, HS9_, HS10_, HS11_⟩ (fun hHeld => ?_)
                        clear hK K
                        refine norm_ (a' := ?_) ?_ ?_
                        rotate_left
                        · show Act.put _ (some 59) _ = _
                          simp only [Act.put, List.setIfInBounds_toArray, List.set_cons_zero, List.set_cons_succ, i64_w, i32_w]
                          rfl
                        refine one_ (i := 51) (N := some 60) #[true, true, true, true, true, true, true, true, true, true, true, true, true, true, true, true, true, true, true, true, true, true, true, true, true, true, true, true, true, true, true, true, true, true, true, true, true, true, true, true, true, true, true, true, true, true, true, true, true, true, true, true, false, false, false] rfl rfl (one_of HT_.out (by kernel_rfl)) (by decide) (fun K hK => ?_)
                        refine goes_ Try.func14 (by kernel_rfl) rfl #[.slice Ao58 y321.length co58] (by rfl) rfl rfl (by (try simp only [List.map_toArray, List.map_cons, List.map_nil]); first | done | rfl | (simp only [List.length_drop, List.length_take]; rfl)) ?_
                        with_reducible refine (rect_Cover.calls k _ _ y321 t324 _ ?side1 ?side2 A31.out).mono ?_
                        (case side1 => repeat (first | exact (Kd.R_reads' HO323.out).2.2 | (with_reducible refine Kd.C_alloc ?_ _) | (with_reducible refine Kd.C_drewN ?_ _) | (with_reducible refine Kd.C_drew ?_)))
                        (case side2 => exact (Kd.R_reads' HO323.out).2.1)
                        rintro e w59 ⟨rfl, hb⟩
                        have HS0_ := (hb.cell (World.block_lt_of_cell? _ _ (hHeld.1))).trans (hHeld.1)
                        have HS1_ := (hb.cell (World.block_lt_of_cell? _ _ (hHeld.2.1))).trans (hHeld.2.1)
                        have HS2_ := (hb.cell (World.block_lt_of_cell? _ _ (hHeld.2.2.1))).trans (hHeld.2.2.1)
                        have HS3_ := (hb.cell (World.block_lt_of_cell? _ _ (hHeld.2.2.2.1))).trans (hHeld.2.2.2.1)
                        have HS4_ := (hb.cell (World.block_lt_of_cell? _ _ (hHeld.2.2.2.2.1))).trans (hHeld.2.2.2.2.1)
                        have HS5_ := (hb.cell (World.block_lt_of_cell? _ _ (hHeld.2.2.2.2.2.1))).trans (hHeld.2.2.2.2.2.1)
                        have HS6_ := (hb.cell (World.block_lt_of_cell? _ _ (hHeld.2.2.2.2.2.2.1))).trans (hHeld.2.2.2.2.2.2.1)
                        have HS7_ := (hb.cell (World.block_lt_of_cell? _ _ (hHeld.2.2.2.2.2.2.2.1))).trans (hHeld.2.2.2.2.2.2.2.1)
                        have HS8_ := (hb.cell (World.block_lt_of_cell? _ _ (hHeld.2.2.2.2.2.2.2.2.1))).trans (hHeld.2.2.2.2.2.2.2.2.1)
                        have HS9_ := (hb.cell (World.block_lt_of_cell? _ _ (hHeld.2.2.2.2.2.2.2.2.2.1))).trans (hHeld.2.2.2.2.2.2.2.2.2.1)
                        have HS10_ := (hb.cell (World.block_lt_of_cell? _ _ (hHeld.2.2.2.2.2.2.2.2.2.2.1))).trans (hHeld.2.2.2.2.2.2.2.2.2.2.1)
                        have HS11_ := (hb.cell (World.block_lt_of_cell? _ _ (hHeld.2.2.2.2.2.2.2.2.2.2.2))).trans (hHeld.2.2.2.2.2.2.2.2.2.2.2)
                        refine ⟨_, rfl, ?_⟩
                        have n0_ := Aside0.mk (Kd.R_below (by (with_reducible repeat (first | apply Kd.R_alloc | apply Kd.R_drewN | apply Kd.R_drew)); exact HO250.out) hb)
                        have n1_ := Aside0.mk (Kd.R_below (by (with_reducible repeat (first | apply Kd.R_alloc | apply Kd.R_drewN | apply Kd.R_drew)); exact HO253.out) hb)
                        have n2_ := Aside0.mk (Kd.R_below (by (with_reducible repeat (first | apply Kd.R_alloc | apply Kd.R_drewN | apply Kd.R_drew)); exact HO264.out) hb)
                        have n3_ := Aside0.mk (Kd.R_below (by (with_reducible repeat (first | apply Kd.R_alloc | apply Kd.R_drewN | apply Kd.R_drew)); exact HO323.out) hb)
                        have n4_ := Aside0.mk (below_step (by repeat (first | (with_reducible first | exact HB.out | apply below_alloc | apply pw_below_drewN | apply below_drew1) | exact HB.out)) hb)
                        clear HO250
                        clear HO253
                        clear HO264
                        clear HO323
                        clear HB
                        have HO250 := n0_
                        have HO253 := n1_
                        have HO264 := n2_
                        have HO323 := n3_
                        have HB := n4_
                        clear n0_ n1_ n2_ n3_ n4_
                        (try clear hb)
                        (try clear hb2)
                        (try clear hk)
                        (try clear hi)
                        refine hK.out _ _ ⟨HS0_, HS1_, HS2_, HS3_, HS4_, HS5_, HS6_, HS7_, HS8_, HS9_, HS10_, HS11_⟩ (fun hHeld => ?_)
                        clear hK K
                        refine norm_ (a' := ?_) ?_ ?_
                        rotate_left
                        · show Act.put _ (some 60) _ = _
                          simp only [Act.put, List.setIfInBounds_toArray, List.set_cons_zero, List.set_cons_succ, i64_w, i32_w]
                          rfl
                        refine pure_ (i := 52) (N := some 61) (v := ?_) (a' := ?_) #[true, true, true, true, true, true, true, true, true, true, true, true, true, true, true, true, true, true, true, true, true, true, true, true, true, true, true, true, true, true, true, true, true, true, true, true, true, true, true, true, true, true, true, true, true, true, true, true, true, true, true, true, true, false, false] rfl rfl (any_of HT_.out (by kernel_rfl)) (fun _ _ _ h => h) (Or.inl ⟨by rfl, ?_⟩) ?_ ?_
                        rotate_left
                        · intro w'
                          go_simp
                          with_reducible rfl
                        rotate_left
                        · simp only [Act.put, List.setIfInBounds_toArray, List.set_cons_zero, List.set_cons_succ, i64_w, i32_w]
                          rfl
                        refine pure_ (i := 53) (N := some 62) (v := ?_) (a' := ?_) #[true, true, true, true, true, true, true, true, true, true, true, true, true, true, true, true, true, true, true, true, true, true, true, true, true, true, true, true, true, true, true, true, true, true, true, true, true, true, true, true, true, true, true, true, true, true, true, true, true, true, true, true, true, true, false] rfl rfl (any_of HT_.out (by kernel_rfl)) (fun _ _ _ h => h) (Or.inl ⟨by rfl, ?_⟩) ?_ ?_
                        rotate_left
                        · intro w'
                          go_simp
                          with_reducible rfl
                        rotate_left
                        · simp only [Act.put, List.setIfInBounds_toArray, List.set_cons_zero, List.set_cons_succ, i64_w, i32_w]
                          rfl
                        refine pure_ (i := 54) (N := some 0) (v := ?_) (a' := ?_) #[true, true, true, true, true, true, true, true, true, true, true, true, true, true, true, true, true, true, true, true, true, true, true, true, true, true, true, true, true, true, true, true, true, true, true, true, true, true, true, true, true, true, true, true, true, true, true, true, true, true, true, true, true, true, true] rfl rfl (any_of HT_.out (by kernel_rfl)) (fun _ _ _ h => h) (Or.inl ⟨by rfl, ?_⟩) ?_ ?_
                        rotate_left
                        · intro w'
                          go_simp
                          with_reducible rfl
                        rotate_left
                        · simp only [Act.put, List.setIfInBounds_toArray, List.set_cons_zero, List.set_cons_succ, i64_w, i32_w]
                          rfl
                        refine done_ (done_of HT_.out (by kernel_rfl)) ?_
                        try go_wp2
                        go_ret
                        exact ⟨by first | rfl | (simp [errW_none, errW_some] <;> rfl) | (simp [*, errW_none, errW_some] <;> rfl), by repeat (first | (with_reducible first | exact HB.out | apply below_alloc | apply pw_below_drewN | apply below_drew1) | exact HB.out)⟩
                      · rw [if_neg c28] at H
                        have c28b0 : (t312 == 9223372036854775807) = false := beq_eq_false_iff_ne.mpr c28
                        have c28b1 : (t312 != 9223372036854775807) = true := bne_iff_ne.mpr c28
                        exact absurd ((Option.some.inj H).trans HRT.out) (by decide)
                    · rw [if_neg c26] at H
                      have c26b0 : (((rd_T26 t262 2).f0) == t308 && (((rd_T26 t262 2).f1) == t309 && (((rd_T26 t262 2).f2) == t310 && (((rd_T26 t262 2).f3) == t311)))) = false := by simpa using c26
                      (try (have c26b1 : decide (((rd_T26 t262 2).f0) = t308 && (((rd_T26 t262 2).f1) == t309 && (((rd_T26 t262 2).f2) == t310 && (((rd_T26 t262 2).f3) == t311)))) = false := by simpa using c26))
                      (try (have c26b2 : (((rd_T26 t262 2).f0) == t308 && (((rd_T26 t262 2).f1) == t309 && (((rd_T26 t262 2).f2) == t310 && (((rd_T26 t262 2).f3) == t311)))) = false := by simpa using c26))
                      (try (have c26b3 : ¬ (((rd_T26 t262 2).f0) = t308 && (((rd_T26 t262 2).f1) == t309 && (((rd_T26 t262 2).f2) == t310 && (((rd_T26 t262 2).f3) == t311)))) := by simpa using c26))
                      (try (have c26b4 : ((((rd_T26 t262 2).f0)) = (t308 && (((rd_T26 t262 2).f1) == t309 && (((rd_T26 t262 2).f2) == t310 && (((rd_T26 t262 2).f3) == t311))))) = False := eq_false ((fun (a_ b_ : Bool) (h_ : ¬ ((a_ == b_) = true)) => (show ¬ (a_ = b_) from by revert h_; cases a_ <;> cases b_ <;> decide)) (((rd_T26 t262 2).f0)) (t308 && (((rd_T26 t262 2).f1) == t309 && (((rd_T26 t262 2).f2) == t310 && (((rd_T26 t262 2).f3) == t311)))) c26)))
                      clear c26
                      exact absurd ((Option.some.inj H).trans HRT.out) (by decide)
                  · rw [if_neg c24] at H
                    exact absurd H (by simp)
                · rw [if_neg c23] at H
                  have c23b0 : ((t262.length : Int) == 4) = false := beq_eq_false_iff_ne.mpr c23
                  have c23b1 : ((t262.length : Int) != 4) = true := bne_iff_ne.mpr c23
                  exact absurd ((Option.some.inj H).trans HRT.out) (by decide)
              · rw [if_neg c22] at H
                have c22b0 : (((rd_T26 t251 2).f0) == t303 && (((rd_T26 t251 2).f1) == t304 && (((rd_T26 t251 2).f2) == t305 && (((rd_T26 t251 2).f3) == t306)))) = false := by simpa using c22
                (try (have c22b1 : decide (((rd_T26 t251 2).f0) = t303 && (((rd_T26 t251 2).f1) == t304 && (((rd_T26 t251 2).f2) == t305 && (((rd_T26 t251 2).f3) == t306)))) = false := by simpa using c22))
                (try (have c22b2 : (((rd_T26 t251 2).f0) == t303 && (((rd_T26 t251 2).f1) == t304 && (((rd_T26 t251 2).f2) == t305 && (((rd_T26 t251 2).f3) == t306)))) = false := by simpa using c22))
                (try (have c22b3 : ¬ (((rd_T26 t251 2).f0) = t303 && (((rd_T26 t251 2).f1) == t304 && (((rd_T26 t251 2).f2) == t305 && (((rd_T26 t251 2).f3) == t306)))) := by simpa using c22))
                (try (have c22b4 : ((((rd_T26 t251 2).f0)) = (t303 && (((rd_T26 t251 2).f1) == t304 && (((rd_T26 t251 2).f2) == t305 && (((rd_T26 t251 2).f3) == t306))))) = False := eq_false ((fun (a_ b_ : Bool) (h_ : ¬ ((a_ == b_) = true)) => (show ¬ (a_ = b_) from by revert h_; cases a_ <;> cases b_ <;> decide)) (((rd_T26 t251 2).f0)) (t303 && (((rd_T26 t251 2).f1) == t304 && (((rd_T26 t251 2).f2) == t305 && (((rd_T26 t251 2).f3) == t306)))) c22)))
                clear c22
                exact absurd ((Option.some.inj H).trans HRT.out) (by decide)
            · rw [if_neg c20] at H
              exact absurd H (by simp)
          · rw [if_neg c19] at H
            have c19b0 : (((rd_T26 t251 1).f0) == t298 && (((rd_T26 t251 1).f1) == t299 && (((rd_T26 t251 1).f2) == t300 && (((rd_T26 t251 1).f3) == t301)))) = false := by simpa using c19
            (try (have c19b1 : decide (((rd_T26 t251 1).f0) = t298 && (((rd_T26 t251 1).f1) == t299 && (((rd_T26 t251 1).f2) == t300 && (((rd_T26 t251 1).f3) == t301)))) = false := by simpa using c19))
            (try (have c19b2 : (((rd_T26 t251 1).f0) == t298 && (((rd_T26 t251 1).f1) == t299 && (((rd_T26 t251 1).f2) == t300 && (((rd_T26 t251 1).f3) == t301)))) = false := by simpa using c19))
            (try (have c19b3 : ¬ (((rd_T26 t251 1).f0) = t298 && (((rd_T26 t251 1).f1) == t299 && (((rd_T26 t251 1).f2) == t300 && (((rd_T26 t251 1).f3) == t301)))) := by simpa using c19))
            (try (have c19b4 : ((((rd_T26 t251 1).f0)) = (t298 && (((rd_T26 t251 1).f1) == t299 && (((rd_T26 t251 1).f2) == t300 && (((rd_T26 t251 1).f3) == t301))))) = False := eq_false ((fun (a_ b_ : Bool) (h_ : ¬ ((a_ == b_) = true)) => (show ¬ (a_ = b_) from by revert h_; cases a_ <;> cases b_ <;> decide)) (((rd_T26 t251 1).f0)) (t298 && (((rd_T26 t251 1).f1) == t299 && (((rd_T26 t251 1).f2) == t300 && (((rd_T26 t251 1).f3) == t301)))) c19)))
            clear c19
            exact absurd ((Option.some.inj H).trans HRT.out) (by decide)
        · rw [if_neg c17] at H
          exact absurd H (by simp)
      · rw [if_neg c16] at H
        have c16b0 : ((t251.length : Int) == 3) = false := beq_eq_false_iff_ne.mpr c16
        have c16b1 : ((t251.length : Int) != 3) = true := bne_iff_ne.mpr c16
        exact absurd ((Option.some.inj H).trans HRT.out) (by decide)
    · rw [if_neg c15] at H
      have c15b0 : (t289 == t293 && (t290 == t294 && (t291 == t295 && (t292 == t296)))) = false := by simpa using c15
      (try (have c15b1 : decide (t289 = t293 && (t290 == t294 && (t291 == t295 && (t292 == t296)))) = false := by simpa using c15))
      (try (have c15b2 : (t289 == t293 && (t290 == t294 && (t291 == t295 && (t292 == t296)))) = false := by simpa using c15))
      (try (have c15b3 : ¬ (t289 = t293 && (t290 == t294 && (t291 == t295 && (t292 == t296)))) := by simpa using c15))
      (try (have c15b4 : ((t289) = (t293 && (t290 == t294 && (t291 == t295 && (t292 == t296))))) = False := eq_false ((fun (a_ b_ : Bool) (h_ : ¬ ((a_ == b_) = true)) => (show ¬ (a_ = b_) from by revert h_; cases a_ <;> cases b_ <;> decide)) (t289) (t293 && (t290 == t294 && (t291 == t295 && (t292 == t296)))) c15)))
      clear c15
      exact absurd ((Option.some.inj H).trans HRT.out) (by decide)
  · rw [if_neg c10] at H
    have c10b0 : (t273 == t277 && (t274 == t278 && (t275 == t279 && (t276 == t280)))) = false := by simpa using c10
    (try (have c10b1 : decide (t273 = t277 && (t274 == t278 && (t275 == t279 && (t276 == t280)))) = false := by simpa using c10))
    (try (have c10b2 : (t273 == t277 && (t274 == t278 && (t275 == t279 && (t276 == t280)))) = false := by simpa using c10))
    (try (have c10b3 : ¬ (t273 = t277 && (t274 == t278 && (t275 == t279 && (t276 == t280)))) := by simpa using c10))
    (try (have c10b4 : ((t273) = (t277 && (t274 == t278 && (t275 == t279 && (t276 == t280))))) = False := eq_false ((fun (a_ b_ : Bool) (h_ : ¬ ((a_ == b_) = true)) => (show ¬ (a_ = b_) from by revert h_; cases a_ <;> cases b_ <;> decide)) (t273) (t277 && (t274 == t278 && (t275 == t279 && (t276 == t280)))) c10)))
    clear c10
    exact absurd ((Option.some.inj H).trans HRT.out) (by decide)

end Go.Proofs.Ytmokmkaipcojkaa.Q
