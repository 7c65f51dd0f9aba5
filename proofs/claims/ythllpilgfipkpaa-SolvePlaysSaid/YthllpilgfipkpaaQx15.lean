-- written by a program of this session after the way of the kit's print; not the kit's own print. Lean checks it.
import Derived.Test.YthllpilgfipkpaaQx0
import Derived.Test.YthllpilgfipkpaaQx1
import Derived.Test.YthllpilgfipkpaaQx2
import Derived.Test.YthllpilgfipkpaaQx7
import Derived.Test.YthllpilgfipkpaaQx8
import Derived.Test.YthllpilgfipkpaaQx9
import Derived.Test.YthllpilgfipkpaaQx10
import Derived.Test.YthllpilgfipkpaaQx13
import Derived.Test.YthllpilgfipkpaaQx14
namespace Go.Proofs.Ythllpilgfipkpaa.Q
open Go.RowKit Go.Proofs.YthllpilgfipkpaaW.PrintWords Go.Proofs.YthllpilgfipkpaaW.PrintLast Go.Proofs.YthllpilgfipkpaaW.PrintMore
attribute [local go_sem] max2_int min2_int max_two min_two max_three min_three max_four min_four   -- for this text's walks alone
set_option linter.unusedVariables false
set_option linter.unusedSimpArgs false

/-! ### casementlaw09_SolvePlays: function 8 -/
mutual
def casementlaw09_SolvePlays.j0 : Nat → Int → List (S70) → List Int → List Int → Bool → Option (Bool)
  | 0, _, _, _, _, _ => none
  | k + 1, x0, x1, x5, x7, x43 => if x43 = true then (some false) else (casementlaw09_SolvePlays.l0 k x0 x1 x5 x7 x1 (x1.length : Int) 0)
def casementlaw09_SolvePlays.l0 : Nat → Int → List (S70) → List Int → List Int → List (S70) → Int → Int → Option (Bool)
  | 0, _, _, _, _, _, _, _ => none
  | k + 1, x0, x1, x5, x7, x44, x45, x46 => if x46 < x45 then (if 0 ≤ x46 then (if x46 < (x44.length : Int) then ((solve_Check.f k ((rd_T70 x44 x46).f0) ((rd_T70 x44 x46).f1)).bind fun t262 => ((casementref09_Right.f ((rd_T70 x44 x46).f0) ((rd_T70 x44 x46).f1)).bind fun t263 => (if ((t262 == 0) != t263) = true then (some false) else (casementlaw09_SolvePlays.l0 k x0 x1 x5 x7 x44 x45 (wrap64 (x46 + 1)))))) else (none)) else (none)) else (casementlaw09_SolvePlays.l1 k x0 x1 x5 x7 (x5.length : Int) 0)
def casementlaw09_SolvePlays.l1 : Nat → Int → List (S70) → List Int → List Int → Int → Int → Option (Bool)
  | 0, _, _, _, _, _, _ => none
  | k + 1, x0, x1, x5, x7, x58, x59 => if x59 < x58 then (if 0 ≤ x59 then (if x59 < (x5.length : Int) then (casementlaw09_SolvePlays.l1 k x0 x1 (x5.set (x59 : Int).toNat (-1)) x7 x58 (wrap64 (x59 + 1))) else (none)) else (none)) else ((solve_Share.f k x0 x1).bind fun bt265 => ((casementref01_SameInts.f k bt265.1 x7).bind fun t269 => (some t269)))
end
def casementlaw09_SolvePlays.f (k : Nat) (a0 : Int) (l1 : List (S70)) : Option (Bool) := (casementlaw09_alive.f k).bind fun t248 => (if t248 = true then ((solve_Share.f k a0 l1).bind fun bt249 => ((casementref09_Share.f k a0 l1).bind fun bt253 => (if bt249.2 = bt253.2 then ((casementref01_SameInts.f k bt249.1 bt253.1).bind fun t257 => (if t257 = true then ((solve_Least.f k l1).bind fun t258 => ((casementref09_Least.f k l1).bind fun t259 => (casementlaw09_SolvePlays.j0 k a0 l1 bt249.1 bt253.1 (t258 != t259)))) else (casementlaw09_SolvePlays.j0 k a0 l1 bt249.1 bt253.1 true))) else (casementlaw09_SolvePlays.j0 k a0 l1 bt249.1 bt253.1 true)))) else (some false))
theorem casementlaw09_SolvePlays.mono_l : ∀ k, (∀ y0 y1 y2 y3 y4, LeO (casementlaw09_SolvePlays.j0 k y0 y1 y2 y3 y4) (casementlaw09_SolvePlays.j0 (k + 1) y0 y1 y2 y3 y4)) ∧ (∀ y0 y1 y2 y3 y4 y5 y6, LeO (casementlaw09_SolvePlays.l0 k y0 y1 y2 y3 y4 y5 y6) (casementlaw09_SolvePlays.l0 (k + 1) y0 y1 y2 y3 y4 y5 y6)) ∧ (∀ y0 y1 y2 y3 y4 y5, LeO (casementlaw09_SolvePlays.l1 k y0 y1 y2 y3 y4 y5) (casementlaw09_SolvePlays.l1 (k + 1) y0 y1 y2 y3 y4 y5))
  | 0 => ⟨fun _ _ _ _ _ r h => by simp [casementlaw09_SolvePlays.j0] at h, fun _ _ _ _ _ _ _ r h => by simp [casementlaw09_SolvePlays.l0] at h, fun _ _ _ _ _ _ r h => by simp [casementlaw09_SolvePlays.l1] at h⟩
  | k + 1 => by
    obtain ⟨ih0, ih1, ih2⟩ := casementlaw09_SolvePlays.mono_l k
    refine ⟨?_, ?_, ?_⟩
    · intro y0 y1 y2 y3 y4
      unfold casementlaw09_SolvePlays.j0
      repeat' first
      | (with_reducible exact ih0 _ _ _ _ _)
      | (with_reducible exact ih1 _ _ _ _ _ _ _)
      | (with_reducible exact ih2 _ _ _ _ _ _)
      | (with_reducible exact casementlaw09_alive.mono _)
      | (with_reducible exact casementref01_SameInts.mono _ _ _)
      | (with_reducible exact casementref09_Least.mono _ _)
      | (with_reducible exact casementref09_Share.mono _ _ _)
      | (with_reducible exact solve_Check.mono _ _ _)
      | (with_reducible exact solve_Least.mono _ _)
      | (with_reducible exact solve_Share.mono _ _ _)
      | (with_reducible exact LeO.refl _)
      | (with_reducible exact LeO.none _)
      | (with_reducible refine LeO.ite ?_ ?_)
      | (with_reducible refine LeO.bind ?_ (fun _ => ?_))
      | exact ih0 _ _ _ _ _
      | exact ih1 _ _ _ _ _ _ _
      | exact ih2 _ _ _ _ _ _
      | exact casementlaw09_alive.mono _
      | exact casementref01_SameInts.mono _ _ _
      | exact casementref09_Least.mono _ _
      | exact casementref09_Share.mono _ _ _
      | exact solve_Check.mono _ _ _
      | exact solve_Least.mono _ _
      | exact solve_Share.mono _ _ _
      | exact LeO.none _
      | refine LeO.ite ?_ ?_
      | refine LeO.bind ?_ (fun _ => ?_)
    · intro y0 y1 y2 y3 y4 y5 y6
      unfold casementlaw09_SolvePlays.l0
      repeat' first
      | (with_reducible exact ih0 _ _ _ _ _)
      | (with_reducible exact ih1 _ _ _ _ _ _ _)
      | (with_reducible exact ih2 _ _ _ _ _ _)
      | (with_reducible exact casementlaw09_alive.mono _)
      | (with_reducible exact casementref01_SameInts.mono _ _ _)
      | (with_reducible exact casementref09_Least.mono _ _)
      | (with_reducible exact casementref09_Share.mono _ _ _)
      | (with_reducible exact solve_Check.mono _ _ _)
      | (with_reducible exact solve_Least.mono _ _)
      | (with_reducible exact solve_Share.mono _ _ _)
      | (with_reducible exact LeO.refl _)
      | (with_reducible exact LeO.none _)
      | (with_reducible refine LeO.ite ?_ ?_)
      | (with_reducible refine LeO.bind ?_ (fun _ => ?_))
      | exact ih0 _ _ _ _ _
      | exact ih1 _ _ _ _ _ _ _
      | exact ih2 _ _ _ _ _ _
      | exact casementlaw09_alive.mono _
      | exact casementref01_SameInts.mono _ _ _
      | exact casementref09_Least.mono _ _
      | exact casementref09_Share.mono _ _ _
      | exact solve_Check.mono _ _ _
      | exact solve_Least.mono _ _
      | exact solve_Share.mono _ _ _
      | exact LeO.none _
      | refine LeO.ite ?_ ?_
      | refine LeO.bind ?_ (fun _ => ?_)
    · intro y0 y1 y2 y3 y4 y5
      unfold casementlaw09_SolvePlays.l1
      repeat' first
      | (with_reducible exact ih0 _ _ _ _ _)
      | (with_reducible exact ih1 _ _ _ _ _ _ _)
      | (with_reducible exact ih2 _ _ _ _ _ _)
      | (with_reducible exact casementlaw09_alive.mono _)
      | (with_reducible exact casementref01_SameInts.mono _ _ _)
      | (with_reducible exact casementref09_Least.mono _ _)
      | (with_reducible exact casementref09_Share.mono _ _ _)
      | (with_reducible exact solve_Check.mono _ _ _)
      | (with_reducible exact solve_Least.mono _ _)
      | (with_reducible exact solve_Share.mono _ _ _)
      | (with_reducible exact LeO.refl _)
      | (with_reducible exact LeO.none _)
      | (with_reducible refine LeO.ite ?_ ?_)
      | (with_reducible refine LeO.bind ?_ (fun _ => ?_))
      | exact ih0 _ _ _ _ _
      | exact ih1 _ _ _ _ _ _ _
      | exact ih2 _ _ _ _ _ _
      | exact casementlaw09_alive.mono _
      | exact casementref01_SameInts.mono _ _ _
      | exact casementref09_Least.mono _ _
      | exact casementref09_Share.mono _ _ _
      | exact solve_Check.mono _ _ _
      | exact solve_Least.mono _ _
      | exact solve_Share.mono _ _ _
      | exact LeO.none _
      | refine LeO.ite ?_ ?_
      | refine LeO.bind ?_ (fun _ => ?_)
theorem casementlaw09_SolvePlays.mono : ∀ a0 a1 k, LeO (casementlaw09_SolvePlays.f k a0 a1) (casementlaw09_SolvePlays.f (k + 1) a0 a1) := by
  intro a0 a1 k
  obtain ⟨ih0, ih1, ih2⟩ := casementlaw09_SolvePlays.mono_l k
  unfold casementlaw09_SolvePlays.f
  repeat' first
      | (with_reducible exact ih0 _ _ _ _ _)
      | (with_reducible exact ih1 _ _ _ _ _ _ _)
      | (with_reducible exact ih2 _ _ _ _ _ _)
      | (with_reducible exact casementlaw09_alive.mono _)
      | (with_reducible exact casementref01_SameInts.mono _ _ _)
      | (with_reducible exact casementref09_Least.mono _ _)
      | (with_reducible exact casementref09_Share.mono _ _ _)
      | (with_reducible exact solve_Check.mono _ _ _)
      | (with_reducible exact solve_Least.mono _ _)
      | (with_reducible exact solve_Share.mono _ _ _)
      | (with_reducible exact LeO.refl _)
      | (with_reducible exact LeO.none _)
      | (with_reducible refine LeO.ite ?_ ?_)
      | (with_reducible refine LeO.bind ?_ (fun _ => ?_))
      | exact ih0 _ _ _ _ _
      | exact ih1 _ _ _ _ _ _ _
      | exact ih2 _ _ _ _ _ _
      | exact casementlaw09_alive.mono _
      | exact casementref01_SameInts.mono _ _ _
      | exact casementref09_Least.mono _ _
      | exact casementref09_Share.mono _ _ _
      | exact solve_Check.mono _ _ _
      | exact solve_Least.mono _ _
      | exact solve_Share.mono _ _ _
      | exact LeO.none _
      | refine LeO.ite ?_ ?_
      | refine LeO.bind ?_ (fun _ => ?_)
set_option maxHeartbeats 8000000 in
set_option maxRecDepth 100000 in
theorem casementlaw09_SolvePlays.calls (k : Nat) (a0 : Int) (A1 : Option Addr) (c1 : Nat) (l1 : List (S70)) (r : Bool) (w : World) (hr1 : Kd.C k70 w A1 l1.length l1) (hc1 : l1.length ≤ c1) (h : casementlaw09_SolvePlays.f k a0 l1 = some r) (hr : r = true) :
    Calls Try.prog 8 #[.int .i64 a0, .slice A1 l1.length c1] w fun e w' => e = .returned (.bool r) ∧ Below w.heap.size w w' := by
  have hu70 := Try.underlying70
  have HRT := Aside0.mk hr
  clear hr
  have HR1 := Aside0.mk hr1
  have HC1 := Aside0.mk hc1
  clear hr1 hc1
  have HB := Aside0.mk (Below.refl w.heap.size w)
  have H : ((casementlaw09_alive.f k).bind fun t248 => (if t248 = true then ((solve_Share.f k a0 l1).bind fun bt249 => ((casementref09_Share.f k a0 l1).bind fun bt253 => (if bt249.2 = bt253.2 then ((casementref01_SameInts.f k bt249.1 bt253.1).bind fun t257 => (if t257 = true then ((solve_Least.f k l1).bind fun t258 => ((casementref09_Least.f k l1).bind fun t259 => (casementlaw09_SolvePlays.j0 k a0 l1 bt249.1 bt253.1 (t258 != t259)))) else (casementlaw09_SolvePlays.j0 k a0 l1 bt249.1 bt253.1 true))) else (casementlaw09_SolvePlays.j0 k a0 l1 bt249.1 bt253.1 true)))) else (some false))) = some r := h
  clear h
  replace H := Option.bind_eq_some_iff.mp H
  obtain ⟨t248, A30, H⟩ := H
  replace H : (if t248 = true then ((solve_Share.f k a0 l1).bind fun bt249 => ((casementref09_Share.f k a0 l1).bind fun bt253 => (if bt249.2 = bt253.2 then ((casementref01_SameInts.f k bt249.1 bt253.1).bind fun t257 => (if t257 = true then ((solve_Least.f k l1).bind fun t258 => ((casementref09_Least.f k l1).bind fun t259 => (casementlaw09_SolvePlays.j0 k a0 l1 bt249.1 bt253.1 (t258 != t259)))) else (casementlaw09_SolvePlays.j0 k a0 l1 bt249.1 bt253.1 true))) else (casementlaw09_SolvePlays.j0 k a0 l1 bt249.1 bt253.1 true)))) else (some false)) = some r := H
  have A3 := Aside0.mk A30
  clear A30
  by_cases c4 : t248 = true
  · subst c4
    have H1 : ((solve_Share.f k a0 l1).bind fun bt249 => ((casementref09_Share.f k a0 l1).bind fun bt253 => (if bt249.2 = bt253.2 then ((casementref01_SameInts.f k bt249.1 bt253.1).bind fun t257 => (if t257 = true then ((solve_Least.f k l1).bind fun t258 => ((casementref09_Least.f k l1).bind fun t259 => (casementlaw09_SolvePlays.j0 k a0 l1 bt249.1 bt253.1 (t258 != t259)))) else (casementlaw09_SolvePlays.j0 k a0 l1 bt249.1 bt253.1 true))) else (casementlaw09_SolvePlays.j0 k a0 l1 bt249.1 bt253.1 true)))) = some r := by rw [if_pos rfl] at H; exact H
    clear H
    have H := H1
    clear H1
    replace H := Option.bind_eq_some_iff.mp H
    obtain ⟨⟨t249, t250⟩, A50, H⟩ := H
    replace H : ((casementref09_Share.f k a0 l1).bind fun bt253 => (if t250 = bt253.2 then ((casementref01_SameInts.f k t249 bt253.1).bind fun t257 => (if t257 = true then ((solve_Least.f k l1).bind fun t258 => ((casementref09_Least.f k l1).bind fun t259 => (casementlaw09_SolvePlays.j0 k a0 l1 t249 bt253.1 (t258 != t259)))) else (casementlaw09_SolvePlays.j0 k a0 l1 t249 bt253.1 true))) else (casementlaw09_SolvePlays.j0 k a0 l1 t249 bt253.1 true))) = some r := H
    have A5 := Aside0.mk A50
    clear A50
    replace H := Option.bind_eq_some_iff.mp H
    obtain ⟨⟨t253, t254⟩, A60, H⟩ := H
    replace H : (if t250 = t254 then ((casementref01_SameInts.f k t249 t253).bind fun t257 => (if t257 = true then ((solve_Least.f k l1).bind fun t258 => ((casementref09_Least.f k l1).bind fun t259 => (casementlaw09_SolvePlays.j0 k a0 l1 t249 t253 (t258 != t259)))) else (casementlaw09_SolvePlays.j0 k a0 l1 t249 t253 true))) else (casementlaw09_SolvePlays.j0 k a0 l1 t249 t253 true)) = some r := H
    have A6 := Aside0.mk A60
    clear A60
    have HC7 := Aside0.mk H
    clear H
    go_enter Try.func8, Try.ntmps8
    go_upto_region 5 with (first | ((with_reducible refine gate_callee (f := 38) rfl ?_); refine goesL_ (some 14) rfl rfl Try.func38 (by kernel_rfl) rfl #[] rfl (by (try simp only [List.map_toArray, List.map_cons, List.map_nil]); first | done | rfl | (simp only [List.length_drop, List.length_take]; rfl)) ?_; (with_reducible refine (casementlaw09_alive.calls k  true _ A3.out (by first | rfl | assumption)).mono ?_); rintro e w8 ⟨rfl, hb⟩; refine ⟨_, rfl, ?_⟩; have n0_ := Aside0.mk (below_step (by repeat (first | (with_reducible first | exact HB.out | apply below_alloc | apply pw_below_drewN | apply below_drew1) | exact HB.out)) hb); clear HB; have HB := n0_; clear n0_; (try clear hb); (try clear hb2); (try clear hk); (try clear hi)) | ((with_reducible refine gate_callee (f := 39) rfl ?_); refine goesL_ (some 19) rfl rfl Try.func39 (by kernel_rfl) rfl #[.int .i64 a0, .slice A1 l1.length c1] rfl (by (try simp only [List.map_toArray, List.map_cons, List.map_nil]); first | done | rfl | (simp only [List.length_drop, List.length_take]; rfl)) ?_; (with_reducible refine (solve_Share.calls k a0 _ _ l1 t249 t250 _ ?side1 ?side2 A5.out).mono ?_); (case side1 => repeat (first | exact (Kd.C_below HR1.out HB.out) | (with_reducible refine Kd.C_alloc ?_ _) | (with_reducible refine Kd.C_drewN ?_ _) | (with_reducible refine Kd.C_drew ?_))); (case side2 => exact HC1.out); rintro e w9 ⟨v251, rfl, ho0, hb⟩; refine ⟨_, rfl, ?_⟩; have n0_ := Aside0.mk (Kd.R_lower ho0 (below_size (by repeat (first | (with_reducible first | exact HB.out | apply below_alloc | apply pw_below_drewN | apply below_drew1) | exact HB.out)))); have n1_ := Aside0.mk (below_step (by repeat (first | (with_reducible first | exact HB.out | apply below_alloc | apply pw_below_drewN | apply below_drew1) | exact HB.out)) hb); clear HB; have HO252 := n0_; have HB := n1_; clear n0_ n1_; (try clear hb); (try clear hb2); (try clear hk); (try clear hi); (try clear ho0)) | ((with_reducible refine gate_callee (f := 40) rfl ?_); refine goesL_ (some 25) rfl rfl Try.func40 (by kernel_rfl) rfl #[.int .i64 a0, .slice A1 l1.length c1] rfl (by (try simp only [List.map_toArray, List.map_cons, List.map_nil]); first | done | rfl | (simp only [List.length_drop, List.length_take]; rfl)) ?_; (with_reducible refine (casementref09_Share.calls k a0 _ _ l1 t253 t254 _ ?side1 ?side2 A6.out).mono ?_); (case side1 => repeat (first | exact (Kd.C_below HR1.out HB.out) | (with_reducible refine Kd.C_alloc ?_ _) | (with_reducible refine Kd.C_drewN ?_ _) | (with_reducible refine Kd.C_drew ?_))); (case side2 => exact HC1.out); rintro e w10 ⟨v255, rfl, ho0, hb⟩; refine ⟨_, rfl, ?_⟩; have n0_ := Aside0.mk (Kd.R_elder' (by (with_reducible repeat (first | apply Kd.R_alloc | apply Kd.R_drewN | apply Kd.R_drew)); exact HO252.out) (Kd.R_base ho0) hb); have n1_ := Aside0.mk (Kd.R_lower (Kd.R_new' ho0 (Kd.R_lt (by (with_reducible repeat (first | apply Kd.R_alloc | apply Kd.R_drewN | apply Kd.R_drew)); exact HO252.out))) (below_size (by repeat (first | (with_reducible first | exact HB.out | apply below_alloc | apply pw_below_drewN | apply below_drew1) | exact HB.out)))); have n2_ := Aside0.mk (below_step (by repeat (first | (with_reducible first | exact HB.out | apply below_alloc | apply pw_below_drewN | apply below_drew1) | exact HB.out)) hb); clear HO252; clear HB; have HO252 := n0_; have HO256 := n1_; have HB := n2_; clear n0_ n1_ n2_; (try clear hb); (try clear hb2); (try clear hk); (try clear hi); (try clear ho0)))
    (try simp only [Act.put, List.setIfInBounds_toArray, List.set_cons_zero, List.set_cons_succ])
    go_cut [43] (fun v43 wc => ∃ (kq : Nat) (x43_6 : Bool), v43 = .bool x43_6 ∧ Aside0 (casementlaw09_SolvePlays.j0 kq a0 l1 t249 t253 x43_6 = some r) ∧ Aside0 (kq ≤ k) ∧ Aside0 (Kd.R (Kd.int .i64) 3 wc w.heap.size (fun k_ => some k_ ≠ (v255 : Value).ownBlock) v251 t249) ∧ Aside0 (Kd.R (Kd.int .i64) 3 wc w.heap.size (fun k_ => some k_ ≠ (v251 : Value).ownBlock) v255 t253) ∧ Aside0 (Below w.heap.size w wc))
    case first =>
      have H := HC7.out
      clear HC7
      by_cases c11 : t250 = t254
      · rw [if_pos c11] at H
        have c11b0 : (t250 == t254) = true := beq_iff_eq.mpr c11
        have c11b1 : (t250 != t254) = false := bne_eq_false_iff_eq.mpr c11
        clear c11
        (first | rw [c11b0] | (simp only [i64_w, i32_w]; rw [c11b0]) | skip)
        replace H := Option.bind_eq_some_iff.mp H
        obtain ⟨t257, A120, H⟩ := H
        replace H : (if t257 = true then ((solve_Least.f k l1).bind fun t258 => ((casementref09_Least.f k l1).bind fun t259 => (casementlaw09_SolvePlays.j0 k a0 l1 t249 t253 (t258 != t259)))) else (casementlaw09_SolvePlays.j0 k a0 l1 t249 t253 true)) = some r := H
        have A12 := Aside0.mk A120
        clear A120
        by_cases c13 : t257 = true
        · subst c13
          have H1 : ((solve_Least.f k l1).bind fun t258 => ((casementref09_Least.f k l1).bind fun t259 => (casementlaw09_SolvePlays.j0 k a0 l1 t249 t253 (t258 != t259)))) = some r := by rw [if_pos rfl] at H; exact H
          clear H
          have H := H1
          clear H1
          replace H := Option.bind_eq_some_iff.mp H
          obtain ⟨t258, A140, H⟩ := H
          replace H : ((casementref09_Least.f k l1).bind fun t259 => (casementlaw09_SolvePlays.j0 k a0 l1 t249 t253 (t258 != t259))) = some r := H
          have A14 := Aside0.mk A140
          clear A140
          replace H := Option.bind_eq_some_iff.mp H
          obtain ⟨t259, A150, H⟩ := H
          replace H : (casementlaw09_SolvePlays.j0 k a0 l1 t249 t253 (t258 != t259)) = some r := H
          have A15 := Aside0.mk A150
          clear A150
          have H' := Aside0.mk H
          clear H
          obtain ⟨Ao16, co16, eo16⟩ := Kd.R_slice HO252.out
          subst eo16
          obtain ⟨Ao17, co17, eo17⟩ := Kd.R_slice HO256.out
          subst eo17
          go_wp2_with (first | (go_at_call 37; (with_reducible refine (casementref01_SameInts.calls k _ _ t249 _ _ t253 true _ ?side1 ?side2 ?side3 ?side4 A12.out).mono ?_); (case side1 => repeat (first | exact (Kd.R_reads' HO252.out).2.2 | (with_reducible refine Kd.C_alloc ?_ _) | (with_reducible refine Kd.C_drewN ?_ _) | (with_reducible refine Kd.C_drew ?_))); (case side2 => exact (Kd.R_reads' HO252.out).2.1); (case side3 => repeat (first | exact (Kd.R_reads' HO256.out).2.2 | (with_reducible refine Kd.C_alloc ?_ _) | (with_reducible refine Kd.C_drewN ?_ _) | (with_reducible refine Kd.C_drew ?_))); (case side4 => exact (Kd.R_reads' HO256.out).2.1); rintro e w' ⟨rfl, ⟨nd, rfl⟩⟩) | (go_at_call 41; (with_reducible refine (solve_Least.calls k _ _ l1 t258 _ ?side1 ?side2 A14.out).mono ?_); (case side1 => repeat (first | exact (Kd.C_below HR1.out (by repeat (first | (with_reducible first | exact HB.out | apply below_alloc | apply pw_below_drewN | apply below_drew1) | exact HB.out))) | (with_reducible refine Kd.C_alloc ?_ _) | (with_reducible refine Kd.C_drewN ?_ _) | (with_reducible refine Kd.C_drew ?_))); (case side2 => exact HC1.out); rintro e w18 ⟨rfl, hb⟩; have n0_ := Aside0.mk (Kd.R_below (by (with_reducible repeat (first | apply Kd.R_alloc | apply Kd.R_drewN | apply Kd.R_drew)); exact HO252.out) hb); have n1_ := Aside0.mk (Kd.R_below (by (with_reducible repeat (first | apply Kd.R_alloc | apply Kd.R_drewN | apply Kd.R_drew)); exact HO256.out) hb); have n2_ := Aside0.mk (below_step (by repeat (first | (with_reducible first | exact HB.out | apply below_alloc | apply pw_below_drewN | apply below_drew1) | exact HB.out)) hb); clear HO252; clear HO256; clear HB; have HO252 := n0_; have HO256 := n1_; have HB := n2_; clear n0_ n1_ n2_; (try clear hb); (try clear hb2); (try clear hk); (try clear hi)) | (go_at_call 42; (with_reducible refine (casementref09_Least.calls k _ _ l1 t259 _ ?side1 ?side2 A15.out).mono ?_); (case side1 => repeat (first | exact (Kd.C_below HR1.out HB.out) | (with_reducible refine Kd.C_alloc ?_ _) | (with_reducible refine Kd.C_drewN ?_ _) | (with_reducible refine Kd.C_drew ?_))); (case side2 => exact HC1.out); rintro e w19 ⟨rfl, hb⟩; have n0_ := Aside0.mk (Kd.R_below (by (with_reducible repeat (first | apply Kd.R_alloc | apply Kd.R_drewN | apply Kd.R_drew)); exact HO252.out) hb); have n1_ := Aside0.mk (Kd.R_below (by (with_reducible repeat (first | apply Kd.R_alloc | apply Kd.R_drewN | apply Kd.R_drew)); exact HO256.out) hb); have n2_ := Aside0.mk (below_step (by repeat (first | (with_reducible first | exact HB.out | apply below_alloc | apply pw_below_drewN | apply below_drew1) | exact HB.out)) hb); clear HO252; clear HO256; clear HB; have HO252 := n0_; have HO256 := n1_; have HB := n2_; clear n0_ n1_ n2_; (try clear hb); (try clear hb2); (try clear hk); (try clear hi)))
          go_meet
          case rel => exact ⟨_, ((t258 != t259)), (by first | rfl | (simp; done) | (simp [*]; done)), H', ⟨by first | omega | exact Nat.le_refl _⟩, ⟨by (with_reducible repeat (first | apply Kd.R_alloc | apply Kd.R_drewN | apply Kd.R_drew)); exact Kd.R_mono HO252.out (fun _ hk => hk.2)⟩, ⟨by (with_reducible repeat (first | apply Kd.R_alloc | apply Kd.R_drewN | apply Kd.R_drew)); exact Kd.R_mono HO256.out (fun _ hk => hk.2)⟩, ⟨by repeat (first | (with_reducible first | exact HB.out | apply below_alloc | apply pw_below_drewN | apply below_drew1) | exact HB.out)⟩⟩
        · replace c13 := Bool.eq_false_iff.mpr c13
          subst c13
          have H1 : (casementlaw09_SolvePlays.j0 k a0 l1 t249 t253 true) = some r := by rw [if_neg (show ¬ (false = true) by decide)] at H; exact H
          clear H
          have H := H1
          clear H1
          have H' := Aside0.mk H
          clear H
          obtain ⟨Ao20, co20, eo20⟩ := Kd.R_slice HO252.out
          subst eo20
          obtain ⟨Ao21, co21, eo21⟩ := Kd.R_slice HO256.out
          subst eo21
          go_wp2_with (first | (go_at_call 37; (with_reducible refine (casementref01_SameInts.calls k _ _ t249 _ _ t253 false _ ?side1 ?side2 ?side3 ?side4 A12.out).mono ?_); (case side1 => repeat (first | exact (Kd.R_reads' HO252.out).2.2 | (with_reducible refine Kd.C_alloc ?_ _) | (with_reducible refine Kd.C_drewN ?_ _) | (with_reducible refine Kd.C_drew ?_))); (case side2 => exact (Kd.R_reads' HO252.out).2.1); (case side3 => repeat (first | exact (Kd.R_reads' HO256.out).2.2 | (with_reducible refine Kd.C_alloc ?_ _) | (with_reducible refine Kd.C_drewN ?_ _) | (with_reducible refine Kd.C_drew ?_))); (case side4 => exact (Kd.R_reads' HO256.out).2.1); rintro e w' ⟨rfl, ⟨nd, rfl⟩⟩))
          go_meet
          case rel => exact ⟨_, (true), (by first | rfl | (simp; done) | (simp [*]; done)), H', ⟨by first | omega | exact Nat.le_refl _⟩, ⟨by (with_reducible repeat (first | apply Kd.R_alloc | apply Kd.R_drewN | apply Kd.R_drew)); exact Kd.R_mono HO252.out (fun _ hk => hk.2)⟩, ⟨by (with_reducible repeat (first | apply Kd.R_alloc | apply Kd.R_drewN | apply Kd.R_drew)); exact Kd.R_mono HO256.out (fun _ hk => hk.2)⟩, ⟨by repeat (first | (with_reducible first | exact HB.out | apply below_alloc | apply pw_below_drewN | apply below_drew1) | exact HB.out)⟩⟩
      · rw [if_neg c11] at H
        have c11b0 : (t250 == t254) = false := beq_eq_false_iff_ne.mpr c11
        have c11b1 : (t250 != t254) = true := bne_iff_ne.mpr c11
        (first | rw [c11b0] | (simp only [i64_w, i32_w]; rw [c11b0]) | skip)
        have H' := Aside0.mk H
        clear H
        go_wp2
        go_meet
        case rel => exact ⟨_, (true), (by first | rfl | (simp; done) | (simp [*]; done)), H', ⟨by first | omega | exact Nat.le_refl _⟩, ⟨by (with_reducible repeat (first | apply Kd.R_alloc | apply Kd.R_drewN | apply Kd.R_drew)); exact Kd.R_mono HO252.out (fun _ hk => hk.2)⟩, ⟨by (with_reducible repeat (first | apply Kd.R_alloc | apply Kd.R_drewN | apply Kd.R_drew)); exact Kd.R_mono HO256.out (fun _ hk => hk.2)⟩, ⟨by repeat (first | (with_reducible first | exact HB.out | apply below_alloc | apply pw_below_drewN | apply below_drew1) | exact HB.out)⟩⟩
    case rest =>
      clear HC7
      try clear c1
      try clear p2
      try clear c3
      try clear c4
      try clear c8
      try clear c11
      try clear c11b0
      try clear c11b1
      try clear c13
      obtain ⟨kq, x43_6, rfl, HA, HJ6, HO_5, HO_7, HB⟩ := hcut
      cases kq with
      | zero => exact absurd HA.out (by simp [casementlaw09_SolvePlays.j0])
      | succ kj6 =>
        have H := HA.out
        clear HA
        simp only [casementlaw09_SolvePlays.j0] at H
        by_cases c22 : x43_6 = true
        · subst c22
          have H1 : (some false) = some r := by rw [if_pos rfl] at H; exact H
          clear H
          have H := H1
          clear H1
          exact absurd ((Option.some.inj H).trans HRT.out) (by decide)
        · replace c22 := Bool.eq_false_iff.mpr c22
          subst c22
          have H1 : (casementlaw09_SolvePlays.l0 kj6 a0 l1 t249 t253 l1 (l1.length : Int) 0) = some r := by rw [if_neg (show ¬ (false = true) by decide)] at H; exact H
          clear H
          have H := H1
          clear H1
          have H' := Aside0.mk H
          clear H
          go_wp2
          go_loopg [46] kj6 (fun kq v46 w' => ∃ (x46_2 : Int), v46 = .int .i64 x46_2 ∧ Aside0 (casementlaw09_SolvePlays.l0 kq a0 l1 t249 t253 l1 (l1.length : Int) x46_2 = some r) ∧ Aside0 (kq ≤ kj6) ∧ Aside0 (Kd.R (Kd.int .i64) 3 w' w.heap.size (fun k_ => some k_ ≠ (v255 : Value).ownBlock) v251 t249) ∧ Aside0 (Kd.R (Kd.int .i64) 3 w' w.heap.size (fun k_ => some k_ ≠ (v251 : Value).ownBlock) v255 t253) ∧ Aside0 (Below w.heap.size w w'))
          case atStart => exact ⟨(0), (by first | rfl | (simp; done) | (simp [*]; done)), H', ⟨Nat.le_refl _⟩, ⟨by (with_reducible repeat (first | apply Kd.R_alloc | apply Kd.R_drewN | apply Kd.R_drew)); exact HO_5.out⟩, ⟨by (with_reducible repeat (first | apply Kd.R_alloc | apply Kd.R_drewN | apply Kd.R_drew)); exact HO_7.out⟩, ⟨by repeat (first | (with_reducible first | exact HB.out | apply below_alloc | apply pw_below_drewN | apply below_drew1) | exact HB.out)⟩⟩
          case round =>
            clear H'
            try clear c1
            try clear c2
            try clear p2
            try clear c3
            try clear c4
            try clear c8
            try clear c11
            try clear c11b0
            try clear c11b1
            try clear c13
            try clear c22
            try clear p2
            obtain ⟨x46_2, rfl, HA, HK2, HO_5, HO_7, HB⟩ := hrel
            cases gk with
            | zero => exact absurd HA.out (by simp [casementlaw09_SolvePlays.l0])
            | succ k2 =>
              have H := HA.out
              clear HA
              simp only [casementlaw09_SolvePlays.l0] at H
              by_cases c23 : x46_2 < (l1.length : Int)
              · rw [if_pos c23] at H
                have c23b0 : decide (x46_2 < (l1.length : Int)) = true := decide_eq_true c23
                clear c23
                by_cases c24 : 0 ≤ x46_2
                · rw [if_pos c24] at H
                  have c24b0 : decide (0 ≤ x46_2) = true := decide_eq_true c24
                  clear c24
                  by_cases c25 : x46_2 < (l1.length : Int)
                  · rw [if_pos c25] at H
                    have c25b0 : decide (x46_2 < (l1.length : Int)) = true := decide_eq_true c25
                    clear c25
                    replace H := Option.bind_eq_some_iff.mp H
                    obtain ⟨t262, A260, H⟩ := H
                    replace H : ((casementref09_Right.f ((rd_T70 l1 x46_2).f0) ((rd_T70 l1 x46_2).f1)).bind fun t263 => (if ((t262 == 0) != t263) = true then (some false) else (casementlaw09_SolvePlays.l0 k2 a0 l1 t249 t253 l1 (l1.length : Int) (wrap64 (x46_2 + 1))))) = some r := H
                    have A26 := Aside0.mk A260
                    clear A260
                    replace H := Option.bind_eq_some_iff.mp H
                    obtain ⟨t263, A270, H⟩ := H
                    replace H : (if ((t262 == 0) != t263) = true then (some false) else (casementlaw09_SolvePlays.l0 k2 a0 l1 t249 t253 l1 (l1.length : Int) (wrap64 (x46_2 + 1)))) = some r := H
                    have A27 := Aside0.mk A270
                    clear A270
                    by_cases c28 : ((t262 == 0) != t263) = true
                    · rw [if_pos c28] at H
                      have c28b0 : ((t262 == 0) != t263) = true := c28
                      (try (have c28b1 : decide ((t262 == 0) = t263) = false := by simpa using c28))
                      (try (have c28b2 : ((t262 == 0) == t263) = false := by simpa using c28))
                      (try (have c28b3 : ¬ ((t262 == 0) = t263) := by simpa using c28))
                      (try (have c28b4 : (((t262 == 0)) = (t263)) = False := eq_false ((fun (a_ b_ : Bool) (h_ : ((a_ != b_) = true)) => (show ¬ (a_ = b_) from by revert h_; cases a_ <;> cases b_ <;> decide)) ((t262 == 0)) (t263) c28)))
                      clear c28
                      exact absurd ((Option.some.inj H).trans HRT.out) (by decide)
                    · rw [if_neg c28] at H
                      have c28b0 : ((t262 == 0) != t263) = false := by simpa using c28
                      (try (have c28b1 : decide ((t262 == 0) = t263) = true := by simpa using c28))
                      (try (have c28b2 : ((t262 == 0) == t263) = true := by simpa using c28))
                      (try (have c28b3 : (((t262 == 0)) = (t263)) = True := eq_true ((fun (a_ b_ : Bool) (h_ : ¬ ((a_ != b_) = true)) => (show (a_ = b_) from by revert h_; cases a_ <;> cases b_ <;> decide)) ((t262 == 0)) (t263) c28)))
                      clear c28
                      have H' := Aside0.mk H
                      clear H
                      have p260 : 0 ≤ (x46_2 : Int) := of_decide_eq_true (by first | (with_reducible assumption) | assumption)
                      have q260 : x46_2 < (l1.length : Int) := of_decide_eq_true (by first | (with_reducible assumption) | assumption)
                      obtain ⟨ad260, e260, hx260_0, hx260_1⟩ := at_T70 HR1.out x46_2 p260 q260
                      cases e260
                      replace hx260_0 := (HB.out.cell (World.block_lt_of_cell? w _ hx260_0)).trans hx260_0
                      replace hx260_1 := (HB.out.cell (World.block_lt_of_cell? w _ hx260_1)).trans hx260_1
                      replace p260 := eq_true p260
                      replace q260 := eq_true q260
                      try go_wp2_with (first | ((with_reducible refine gate_dst (N := 10) rfl ?_); refine box_event ?hg (N := 10) ?hd (cs := #[.int .i64 0, .int .i64 0]) (t := 70) ?hr ?_; (case hd => rfl); (case hg => rfl); (case hr => first | (go_simp; done) | (go_simp; rfl)); intro gb261 hg w29 hbox hb; have n0_ := Aside0.mk (Kd.R_below (by (with_reducible repeat (first | apply Kd.R_alloc | apply Kd.R_drewN | apply Kd.R_drew)); exact HO_5.out) hb); have n1_ := Aside0.mk (Kd.R_below (by (with_reducible repeat (first | apply Kd.R_alloc | apply Kd.R_drewN | apply Kd.R_drew)); exact HO_7.out) hb); have n2_ := Aside0.mk (below_step (by repeat (first | (with_reducible first | exact HB.out | apply below_alloc | apply pw_below_drewN | apply below_drew1) | exact HB.out)) hb); have n3_ := Aside0.mk (hbox); have n4_ := Aside0.mk ((by rw [hg]; exact (below_size (by repeat (first | (with_reducible first | exact HB.out | apply below_alloc | apply pw_below_drewN | apply below_drew1) | exact HB.out))) : w.heap.size ≤ gb261)); have n5_ := Aside0.mk ((by rw [hg]; exact (below_size (by repeat (first | (with_reducible first | exact HB.out | apply below_alloc | apply pw_below_drewN | apply below_drew1) | exact HB.out))) : w.heap.size ≤ gb261)); clear HO_5; clear HO_7; clear HB; have HO_5 := n0_; have HO_7 := n1_; have HB := n2_; have BK261 := n3_; have GW261 := n4_; have GE261 := n5_; clear n0_ n1_ n2_ n3_ n4_ n5_; clear hb hbox hg; have hcz30_0 : w29.cell? ⟨gb261, 0, none⟩ = some (.int .i64 0) := (blk_cell BK261.out 0).trans rfl; have hcz30_1 : w29.cell? ⟨gb261, 1, none⟩ = some (.int .i64 0) := (blk_cell BK261.out 1).trans rfl; have hfz30_0 := blk_frozen BK261.out 0; have hfz30_1 := blk_frozen BK261.out 1))
                      have n0_ : Aside0 (Kd.R (Kd.int .i64) 3 ((w29.setCell ⟨gb261, 0, none⟩ (.int .i64 ((rd_T70 l1 x46_2).f0))).setCell ⟨gb261, 1, none⟩ (.int .i64 ((rd_T70 l1 x46_2).f1))) w.heap.size (fun k_ => some k_ ≠ (v255 : Value).ownBlock) v251 t249) := ⟨by (with_reducible repeat (first | apply Kd.R_alloc | apply Kd.R_drewN | apply Kd.R_drew)); exact Kd.R_mono (Kd.R_far (p := ⟨gb261, 1, none⟩) (Kd.R_far (p := ⟨gb261, 0, none⟩) (Kd.R_types HO_5.out BK261.out (by decide)) (fun _ hk => hk.2) (.int .i64 ((rd_T70 l1 x46_2).f0))) (fun _ hk => hk.2) (.int .i64 ((rd_T70 l1 x46_2).f1))) (fun _ hk => hk.1)⟩
                      have n1_ : Aside0 (Kd.R (Kd.int .i64) 3 ((w29.setCell ⟨gb261, 0, none⟩ (.int .i64 ((rd_T70 l1 x46_2).f0))).setCell ⟨gb261, 1, none⟩ (.int .i64 ((rd_T70 l1 x46_2).f1))) w.heap.size (fun k_ => some k_ ≠ (v251 : Value).ownBlock) v255 t253) := ⟨by (with_reducible repeat (first | apply Kd.R_alloc | apply Kd.R_drewN | apply Kd.R_drew)); exact Kd.R_mono (Kd.R_far (p := ⟨gb261, 1, none⟩) (Kd.R_far (p := ⟨gb261, 0, none⟩) (Kd.R_types HO_7.out BK261.out (by decide)) (fun _ hk => hk.2) (.int .i64 ((rd_T70 l1 x46_2).f0))) (fun _ hk => hk.2) (.int .i64 ((rd_T70 l1 x46_2).f1))) (fun _ hk => hk.1)⟩
                      have n2_ : Aside0 (((w29.setCell ⟨gb261, 0, none⟩ (.int .i64 ((rd_T70 l1 x46_2).f0))).setCell ⟨gb261, 1, none⟩ (.int .i64 ((rd_T70 l1 x46_2).f1))).heap[gb261]? = some (.cells #[.int .i64 ((rd_T70 l1 x46_2).f0), .int .i64 ((rd_T70 l1 x46_2).f1)] 70 (0, 0))) := ⟨by (with_reducible repeat (first | refine blk_drewN ?_ _ | refine blk_drew ?_ | refine blk_alloc ?_ _)); refine blk_put (cs := #[.int .i64 ((rd_T70 l1 x46_2).f0), .int .i64 0]) ?_ 1 _ rfl; (with_reducible repeat (first | refine blk_drewN ?_ _ | refine blk_drew ?_ | refine blk_alloc ?_ _)); refine blk_put (cs := #[.int .i64 0, .int .i64 0]) ?_ 0 _ rfl; (with_reducible repeat (first | refine blk_drewN ?_ _ | refine blk_drew ?_ | refine blk_alloc ?_ _)); exact BK261.out⟩
                      have n3_ : Aside0 (Below w.heap.size w ((w29.setCell ⟨gb261, 0, none⟩ (.int .i64 ((rd_T70 l1 x46_2).f0))).setCell ⟨gb261, 1, none⟩ (.int .i64 ((rd_T70 l1 x46_2).f1)))) := ⟨by repeat (first | (with_reducible first | exact HB.out | apply below_alloc | apply pw_below_drewN | apply below_drew1 | refine below_set ?_ GE261.out) | exact HB.out)⟩
                      (try clear HO_5)
                      (try clear HO_7)
                      (try clear BK261)
                      (try clear HB)
                      generalize ((w29.setCell ⟨gb261, 0, none⟩ (.int .i64 ((rd_T70 l1 x46_2).f0))).setCell ⟨gb261, 1, none⟩ (.int .i64 ((rd_T70 l1 x46_2).f1))) = w31 at n0_ n1_ n2_ n3_ ⊢
                      have HO_5 := n0_
                      have HO_7 := n1_
                      have BK261 := n2_
                      have HB := n3_
                      clear n0_ n1_ n2_ n3_
                      have n0_ := Aside0.mk (Kd.R_drew HO_5.out)
                      have n1_ := Aside0.mk (Kd.R_drew HO_7.out)
                      have n2_ := Aside0.mk (blk_drew BK261.out)
                      have n3_ := Aside0.mk (below_drew1 HB.out)
                      clear HO_5
                      clear HO_7
                      clear BK261
                      clear HB
                      have HO_5 := n0_
                      have HO_7 := n1_
                      have BK261 := n2_
                      have HB := n3_
                      clear n0_ n1_ n2_ n3_
                      refine start_ (n := 6) (S := fun w' => w'.cell? ⟨gb261, 0, none⟩ = some (.int .i64 ((rd_T70 l1 x46_2).f0)) ∧ w'.cell? ⟨gb261, 1, none⟩ = some (.int .i64 ((rd_T70 l1 x46_2).f1))) (ds := []) #[false, false, false, false, false, false] (by kernel_rfl) rfl rfl ⟨(blk_cell BK261.out 0).trans rfl, (blk_cell BK261.out 1).trans rfl⟩ (fun hHeld => ?_)
                      generalize w31.drew = w32 at HO_5 HO_7 BK261 HB hHeld ⊢
                      refine take_ (i := 0) (N := some 50) (v := ?_) (a' := ?_) #[true, false, false, false, false, false] rfl rfl (by kernel_rfl) (fun _ _ _ h => h) (Or.inl ⟨by rfl, ?_⟩) hHeld ?_ ?_
                      rotate_left
                      · rintro w' ⟨s0, s1⟩
                        go_simp
                        with_reducible rfl
                      rotate_left
                      · simp only [Act.put, List.setIfInBounds_toArray, List.set_cons_zero, List.set_cons_succ, i64_w, i32_w]
                        rfl
                      refine take_ (i := 3) (N := some 53) (v := ?_) (a' := ?_) #[true, false, false, true, false, false] rfl rfl (by kernel_rfl) (fun _ _ _ h => h) (Or.inl ⟨by rfl, ?_⟩) hHeld ?_ ?_
                      rotate_left
                      · rintro w' ⟨s0, s1⟩
                        go_simp
                        with_reducible rfl
                      rotate_left
                      · simp only [Act.put, List.setIfInBounds_toArray, List.set_cons_zero, List.set_cons_succ, i64_w, i32_w]
                        rfl
                      refine one_ (i := 1) (N := some 51) #[true, true, false, true, false, false] rfl rfl (by kernel_rfl) (by decide) (fun K hK => ?_)
                      refine goes_ Try.func43 (by kernel_rfl) rfl #[.agg #[.int .i64 ((rd_T70 l1 x46_2).f0), .int .i64 ((rd_T70 l1 x46_2).f1)]] (by rfl) rfl rfl (by (try simp only [List.map_toArray, List.map_cons, List.map_nil]); first | done | rfl | (simp only [List.length_drop, List.length_take]; rfl)) ?_
                      with_reducible refine (solve_Check.calls k2 ((rd_T70 l1 x46_2).f0) ((rd_T70 l1 x46_2).f1) t262 _ A26.out).mono ?_
                      rintro e w33 ⟨rfl, hb⟩
                      refine ⟨_, rfl, ?_⟩
                      have n0_ := Aside0.mk (Kd.R_below (by (with_reducible repeat (first | apply Kd.R_alloc | apply Kd.R_drewN | apply Kd.R_drew)); exact HO_5.out) hb)
                      have n1_ := Aside0.mk (Kd.R_below (by (with_reducible repeat (first | apply Kd.R_alloc | apply Kd.R_drewN | apply Kd.R_drew)); exact HO_7.out) hb)
                      have n2_ := Aside0.mk (blk_below (g := gb261) (o := .cells #[.int .i64 ((rd_T70 l1 x46_2).f0), .int .i64 ((rd_T70 l1 x46_2).f1)] 70 (0, 0)) (by (with_reducible repeat (first | refine blk_drewN ?_ _ | refine blk_drew ?_ | refine blk_alloc ?_ _)); exact BK261.out) hb)
                      have n3_ := Aside0.mk (below_step (by repeat (first | (with_reducible first | exact HB.out | apply below_alloc | apply pw_below_drewN | apply below_drew1 | refine below_set ?_ GE261.out) | exact HB.out)) hb)
                      clear HO_5
                      clear HO_7
                      clear BK261
                      clear HB
                      have HO_5 := n0_
                      have HO_7 := n1_
                      have BK261 := n2_
                      have HB := n3_
                      clear n0_ n1_ n2_ n3_
                      (try clear hb)
                      (try clear hb2)
                      (try clear hk)
                      (try clear hi)
                      refine hK.out _ _ ⟨(blk_cell BK261.out 0).trans rfl, (blk_cell BK261.out 1).trans rfl⟩ (fun hHeld => ?_)
                      clear hK K
                      refine norm_ (a' := ?_) ?_ ?_
                      rotate_left
                      · show Act.put _ (some 51) _ = _
                        simp only [Act.put, List.setIfInBounds_toArray, List.set_cons_zero, List.set_cons_succ, i64_w, i32_w]
                        rfl
                      refine pure_ (i := 2) (N := some 52) (v := ?_) (a' := ?_) #[true, true, true, true, false, false] rfl rfl (by kernel_rfl) (fun _ _ _ h => h) (Or.inl ⟨by rfl, ?_⟩) ?_ ?_
                      rotate_left
                      · intro w'
                        go_simp
                        with_reducible rfl
                      rotate_left
                      · simp only [Act.put, List.setIfInBounds_toArray, List.set_cons_zero, List.set_cons_succ, i64_w, i32_w]
                        rfl
                      refine one_ (i := 4) (N := some 54) #[true, true, true, true, true, false] rfl rfl (by kernel_rfl) (by decide) (fun K hK => ?_)
                      refine goes_ Try.func44 (by kernel_rfl) rfl #[.agg #[.int .i64 ((rd_T70 l1 x46_2).f0), .int .i64 ((rd_T70 l1 x46_2).f1)]] (by rfl) rfl rfl (by (try simp only [List.map_toArray, List.map_cons, List.map_nil]); first | done | rfl | (simp only [List.length_drop, List.length_take]; rfl)) ?_
                      with_reducible refine (casementref09_Right.calls ((rd_T70 l1 x46_2).f0) ((rd_T70 l1 x46_2).f1) t263 _ A27.out).mono ?_
                      rintro e w34 ⟨rfl, hb⟩
                      refine ⟨_, rfl, ?_⟩
                      have n0_ := Aside0.mk (Kd.R_below (by (with_reducible repeat (first | apply Kd.R_alloc | apply Kd.R_drewN | apply Kd.R_drew)); exact HO_5.out) hb)
                      have n1_ := Aside0.mk (Kd.R_below (by (with_reducible repeat (first | apply Kd.R_alloc | apply Kd.R_drewN | apply Kd.R_drew)); exact HO_7.out) hb)
                      have n2_ := Aside0.mk (blk_below (g := gb261) (o := .cells #[.int .i64 ((rd_T70 l1 x46_2).f0), .int .i64 ((rd_T70 l1 x46_2).f1)] 70 (0, 0)) (by (with_reducible repeat (first | refine blk_drewN ?_ _ | refine blk_drew ?_ | refine blk_alloc ?_ _)); exact BK261.out) hb)
                      have n3_ := Aside0.mk (below_step (by repeat (first | (with_reducible first | exact HB.out | apply below_alloc | apply pw_below_drewN | apply below_drew1 | refine below_set ?_ GE261.out) | exact HB.out)) hb)
                      clear HO_5
                      clear HO_7
                      clear BK261
                      clear HB
                      have HO_5 := n0_
                      have HO_7 := n1_
                      have BK261 := n2_
                      have HB := n3_
                      clear n0_ n1_ n2_ n3_
                      (try clear hb)
                      (try clear hb2)
                      (try clear hk)
                      (try clear hi)
                      refine hK.out _ _ ⟨(blk_cell BK261.out 0).trans rfl, (blk_cell BK261.out 1).trans rfl⟩ (fun hHeld => ?_)
                      clear hK K
                      refine norm_ (a' := ?_) ?_ ?_
                      rotate_left
                      · show Act.put _ (some 54) _ = _
                        simp only [Act.put, List.setIfInBounds_toArray, List.set_cons_zero, List.set_cons_succ, i64_w, i32_w]
                        rfl
                      refine pure_ (i := 5) (N := some 55) (v := ?_) (a' := ?_) #[true, true, true, true, true, true] rfl rfl (by kernel_rfl) (fun _ _ _ h => h) (Or.inl ⟨by rfl, ?_⟩) ?_ ?_
                      rotate_left
                      · intro w'
                        go_simp
                        with_reducible rfl
                      rotate_left
                      · simp only [Act.put, List.setIfInBounds_toArray, List.set_cons_zero, List.set_cons_succ, i64_w, i32_w]
                        rfl
                      refine done_ (by kernel_rfl) ?_
                      try go_wp2
                      go_roundg k2
                      case measure => have := HJ6.out; have := HK2.out; omega
                      case rel => exact ⟨(wrap64 (x46_2 + 1)), (by first | rfl | (simp; done) | (simp [*]; done)), H', ⟨by have := HJ6.out; have := HK2.out; omega⟩, ⟨by (with_reducible repeat (first | apply Kd.R_alloc | apply Kd.R_drewN | apply Kd.R_drew)); exact HO_5.out⟩, ⟨by (with_reducible repeat (first | apply Kd.R_alloc | apply Kd.R_drewN | apply Kd.R_drew)); exact HO_7.out⟩, ⟨by repeat (first | (with_reducible first | exact HB.out | apply below_alloc | apply pw_below_drewN | apply below_drew1 | refine below_set ?_ GE261.out) | exact HB.out)⟩⟩
                  · rw [if_neg c25] at H
                    exact absurd H (by simp)
                · rw [if_neg c24] at H
                  exact absurd H (by simp)
              · rw [if_neg c23] at H
                have c23b0 : decide (x46_2 < (l1.length : Int)) = false := decide_eq_false c23
                clear c23
                have H' := Aside0.mk H
                clear H
                obtain ⟨Ao35, co35, eo35⟩ := Kd.R_slice HO_5.out
                subst eo35
                go_wp2
                go_loopg [59] k2 (fun kq v59 w' => ∃ (x5_3 : List Int) (x59_3 : Int), v59 = .int .i64 x59_3 ∧ Aside0 (casementlaw09_SolvePlays.l1 kq a0 l1 x5_3 t253 (t249.length : Int) x59_3 = some r) ∧ Aside0 (kq ≤ k2) ∧ Aside0 (Kd.R (Kd.int .i64) 3 w' w.heap.size (fun k_ => some k_ ≠ (v255 : Value).ownBlock) (.slice Ao35 t249.length co35) x5_3) ∧ Aside0 (Kd.R (Kd.int .i64) 3 w' w.heap.size (fun k_ => some k_ ≠ ((.slice Ao35 t249.length co35) : Value).ownBlock) v255 t253) ∧ Aside0 (Below w.heap.size w w'))
                case atStart => exact ⟨(t249), (0), (by first | rfl | (simp; done) | (simp [*]; done)), H', ⟨Nat.le_refl _⟩, ⟨by (with_reducible repeat (first | apply Kd.R_alloc | apply Kd.R_drewN | apply Kd.R_drew)); exact HO_5.out⟩, ⟨by (with_reducible repeat (first | apply Kd.R_alloc | apply Kd.R_drewN | apply Kd.R_drew)); exact HO_7.out⟩, ⟨by repeat (first | (with_reducible first | exact HB.out | apply below_alloc | apply pw_below_drewN | apply below_drew1) | exact HB.out)⟩⟩
                case round =>
                  clear H'
                  try clear c1
                  try clear c2
                  try clear p2
                  try clear q2
                  try clear hx2
                  try clear c3
                  try clear c4
                  try clear p6
                  try clear c8
                  try clear c11
                  try clear c11b0
                  try clear c11b1
                  try clear c13
                  try clear c22
                  try clear c23
                  try clear c23b0
                  try clear c24
                  try clear c24b0
                  try clear c25
                  try clear c25b0
                  try clear p26
                  try clear q26
                  try clear hx26
                  try clear c28
                  try clear c28b0
                  try clear c28b1
                  try clear c28b2
                  try clear hcz30_0
                  try clear hcz30_1
                  try clear hfz30_0
                  try clear hfz30_1
                  try clear hx260_0
                  try clear hx260_1
                  try clear p2
                  try clear p260
                  try clear q260
                  obtain ⟨x5_3, x59_3, rfl, HA, HK3, HO_5, HO_7, HB⟩ := hrel
                  have hl5_3 := (Kd.R_reads' HO_5.out).1
                  rw [hl5_3] at HO_5
                  (try simp only [hl5_3])
                  (try simp only [hl5_3] at HO_7)
                  cases gk with
                  | zero => exact absurd HA.out (by simp [casementlaw09_SolvePlays.l1])
                  | succ k3 =>
                    have H := HA.out
                    clear HA
                    simp only [casementlaw09_SolvePlays.l1] at H
                    by_cases c36 : x59_3 < (t249.length : Int)
                    · rw [if_pos c36] at H
                      have c36b0 : decide (x59_3 < (t249.length : Int)) = true := decide_eq_true c36
                      clear c36
                      (try simp only [hl5_3] at c36b0)
                      by_cases c37 : 0 ≤ x59_3
                      · rw [if_pos c37] at H
                        have c37b0 : decide (0 ≤ x59_3) = true := decide_eq_true c37
                        clear c37
                        by_cases c38 : x59_3 < (x5_3.length : Int)
                        · rw [if_pos c38] at H
                          have c38b0 : decide (x59_3 < (x5_3.length : Int)) = true := decide_eq_true c38
                          clear c38
                          (try simp only [hl5_3] at c38b0)
                          obtain ⟨y264, hy264⟩ : ∃ y_ : List Int, y_ = (x5_3.set (x59_3 : Int).toNat (-1)) := ⟨_, rfl⟩
                          replace H : (casementlaw09_SolvePlays.l1 k3 a0 l1 y264 t253 (t249.length : Int) (wrap64 (x59_3 + 1))) = some r := by first | (rw [hy264]; with_reducible exact H) | (have H2_ := (Option.bind_some _ _).symm.trans H; rw [hy264]; with_reducible exact H2_) | (have H2_ := (Option.bind_some _ _).symm.trans H; with_reducible exact H2_) | with_reducible exact H | (rw [hy264]; exact H) | exact H
                          have Ny264 := Aside0.mk hy264
                          clear hy264
                          have H' := Aside0.mk H
                          clear H
                          have p39 : 0 ≤ (x59_3 : Int) := of_decide_eq_true (by first | (with_reducible assumption) | assumption)
                          have q39 : (x59_3 : Int) < ((x5_3.length : Int) : Int) := of_decide_eq_true (by first | (with_reducible assumption) | assumption)
                          obtain ⟨go39, co39, eo39, gb39, gl39, cl39, HG39⟩ := Kd.R_form HO_5.out (by omega)
                          (first | cases eo39 | (injection eo39 with ea_ en_ ec_; (first | subst ea_ | (injection ea_ with ea_; subst ea_)); subst ec_; clear en_))
                          have GB39 := Aside0.mk gb39
                          have GG39 := Aside0.mk HG39
                          clear gb39 gl39 HG39
                          obtain ⟨hx39_0, hf39_0⟩ := Kd.R_celln 0 HO_5.out (x59_3 : Int) p39 q39
                          replace p39 := eq_true p39
                          replace q39 := eq_true q39
                          have HP40 := Kd.R_putg HO_5.out (x59_3 : Int) (-1)
                          go_wp2_with (first | ((with_reducible refine gate_store (t := 3) (p := 64) rfl ?_); refine store_event (t := 3) (p := 64) (v := ?vo_w41) (w1 := (wr.setCell ⟨go39, (x59_3 : Int).toNat, none⟩ (.int .i64 (-1)))) ?hg ?ho ?hn ?hr ?_; (case ho => rfl); (case hg => rfl); (case hn => rfl); (case hr => first | (go_simp; done) | (go_simp; rfl)); intro w41 hw; have hg : wr.grownBy w41 (some go39) := (by rw [hw]; exact HP40.2); have hp_ : Kd.R (Kd.int .i64) 3 w41 w.heap.size (fun k_ => some k_ ≠ (v255 : Value).ownBlock) (.slice (some ⟨go39, 0, none⟩) x5_3.length co35) y264 := (by rw [hw, Ny264.out]; exact HP40.1); clear HP40; have n0_ := Aside0.mk (hp_); have n1_ := Aside0.mk (Kd.R_after (v := (.slice (some ⟨go39, 0, none⟩) x5_3.length co35)) (v1 := (.slice (some ⟨go39, 0, none⟩) x5_3.length co35)) (ok := (fun _ => True)) (by (with_reducible repeat (first | apply Kd.R_alloc | apply Kd.R_drewN | apply Kd.R_drew)); exact Kd.R_mono HO_7.out (fun _ hk => ⟨trivial, hk⟩)) hg (.inl rfl)); have n2_ := Aside0.mk ((by rw [hw]; exact below_set (HB.out) GB39.out : Below w.heap.size w w41)); clear HO_5; clear HO_7; clear HB; have HO_5 := n0_; have HO_7 := n1_; have HB := n2_; clear n0_ n1_ n2_; clear hg hw hp_))
                          (try simp only [← hl5_3])
                          go_roundg k3
                          case measure => have := HJ6.out; have := HK2.out; have := HK3.out; omega
                          case rel => exact ⟨(y264), (wrap64 (x59_3 + 1)), (by first | rfl | (simp; done) | (simp [*]; done)), H', ⟨by have := HJ6.out; have := HK2.out; have := HK3.out; omega⟩, ⟨by (try simp only [hl5_3]); (with_reducible repeat (first | apply Kd.R_alloc | apply Kd.R_drewN | apply Kd.R_drew)); exact HO_5.out⟩, ⟨by (try simp only [hl5_3]); (with_reducible repeat (first | apply Kd.R_alloc | apply Kd.R_drewN | apply Kd.R_drew)); exact Kd.R_mono HO_7.out (fun _ hk => hk.2)⟩, ⟨by repeat (first | (with_reducible first | exact HB.out | apply below_alloc | apply pw_below_drewN | apply below_drew1) | exact HB.out)⟩⟩
                        · rw [if_neg c38] at H
                          exact absurd H (by simp)
                      · rw [if_neg c37] at H
                        exact absurd H (by simp)
                    · rw [if_neg c36] at H
                      have c36b0 : decide (x59_3 < (t249.length : Int)) = false := decide_eq_false c36
                      clear c36
                      (try simp only [hl5_3] at c36b0)
                      replace H := Option.bind_eq_some_iff.mp H
                      obtain ⟨⟨t265, t266⟩, A420, H⟩ := H
                      replace H : ((casementref01_SameInts.f k3 t265 t253).bind fun t269 => (some t269)) = some r := H
                      have A42 := Aside0.mk A420
                      clear A420
                      replace H := Option.bind_eq_some_iff.mp H
                      obtain ⟨t269, A430, H⟩ := H
                      replace H : (some t269) = some r := H
                      have A43 := Aside0.mk A430
                      clear A430
                      obtain rfl := Option.some.inj H
                      go_wp2_with (first | ((with_reducible refine gate_callee (f := 39) rfl ?_); refine goesL_ (some 69) rfl rfl Try.func39 (by kernel_rfl) rfl #[.int .i64 a0, .slice A1 l1.length c1] rfl (by (try simp only [List.map_toArray, List.map_cons, List.map_nil]); first | done | rfl | (simp only [List.length_drop, List.length_take]; rfl)) ?_; (with_reducible refine (solve_Share.calls k3 a0 _ _ l1 t265 t266 _ ?side1 ?side2 A42.out).mono ?_); (case side1 => repeat (first | exact (Kd.C_below HR1.out HB.out) | (with_reducible refine Kd.C_alloc ?_ _) | (with_reducible refine Kd.C_drewN ?_ _) | (with_reducible refine Kd.C_drew ?_))); (case side2 => exact HC1.out); rintro e w44 ⟨v267, rfl, ho0, hb⟩; refine ⟨_, rfl, ?_⟩; have n0_ := Aside0.mk (Kd.R_elder' (by (with_reducible repeat (first | apply Kd.R_alloc | apply Kd.R_drewN | apply Kd.R_drew)); exact HO_5.out) (Kd.R_base ho0) hb); have n1_ := Aside0.mk (Kd.R_elder' (by (with_reducible repeat (first | apply Kd.R_alloc | apply Kd.R_drewN | apply Kd.R_drew)); exact HO_7.out) (Kd.R_base ho0) hb); have n2_ := Aside0.mk (Kd.R_lower (Kd.R_new' (Kd.R_new' ho0 (Kd.R_lt (by (with_reducible repeat (first | apply Kd.R_alloc | apply Kd.R_drewN | apply Kd.R_drew)); exact HO_5.out))) (Kd.R_lt (by (with_reducible repeat (first | apply Kd.R_alloc | apply Kd.R_drewN | apply Kd.R_drew)); exact HO_7.out))) (below_size (by repeat (first | (with_reducible first | exact HB.out | apply below_alloc | apply pw_below_drewN | apply below_drew1) | exact HB.out)))); have n3_ := Aside0.mk (below_step (by repeat (first | (with_reducible first | exact HB.out | apply below_alloc | apply pw_below_drewN | apply below_drew1) | exact HB.out)) hb); clear HO_5; clear HO_7; clear HB; have HO_5 := n0_; have HO_7 := n1_; have HO268 := n2_; have HB := n3_; clear n0_ n1_ n2_ n3_; (try clear hb); (try clear hb2); (try clear hk); (try clear hi); (try clear ho0); obtain ⟨Ao45, co45, eo45⟩ := Kd.R_slice HO268.out; subst eo45; obtain ⟨Ao46, co46, eo46⟩ := Kd.R_slice HO_7.out; subst eo46) | ((with_reducible refine gate_callee (f := 37) rfl ?_); refine goesL_ (some 74) rfl rfl Try.func37 (by kernel_rfl) rfl #[.slice Ao45 t265.length co45, .slice Ao46 t253.length co46] rfl (by (try simp only [List.map_toArray, List.map_cons, List.map_nil]); first | done | rfl | (simp only [List.length_drop, List.length_take]; rfl)) ?_; (with_reducible refine (casementref01_SameInts.calls k3 _ _ t265 _ _ t253 t269 _ ?side1 ?side2 ?side3 ?side4 A43.out).mono ?_); (case side1 => repeat (first | exact (Kd.R_reads' HO268.out).2.2 | (with_reducible refine Kd.C_alloc ?_ _) | (with_reducible refine Kd.C_drewN ?_ _) | (with_reducible refine Kd.C_drew ?_))); (case side2 => exact (Kd.R_reads' HO268.out).2.1); (case side3 => repeat (first | exact (Kd.R_reads' HO_7.out).2.2 | (with_reducible refine Kd.C_alloc ?_ _) | (with_reducible refine Kd.C_drewN ?_ _) | (with_reducible refine Kd.C_drew ?_))); (case side4 => exact (Kd.R_reads' HO_7.out).2.1); rintro e w' ⟨rfl, ⟨nd, rfl⟩⟩; refine ⟨_, rfl, ?_⟩))
                      go_ret
                      exact ⟨by first | rfl | (simp [errW_none, errW_some] <;> rfl) | (simp [*, errW_none, errW_some] <;> rfl), by repeat (first | (with_reducible first | exact HB.out | apply below_alloc | apply pw_below_drewN | apply below_drew1) | exact HB.out)⟩
  · replace c4 := Bool.eq_false_iff.mpr c4
    subst c4
    have H1 : (some false) = some r := by rw [if_neg (show ¬ (false = true) by decide)] at H; exact H
    clear H
    have H := H1
    clear H1
    exact absurd ((Option.some.inj H).trans HRT.out) (by decide)

def casementlaw09_SolvePlays.Pure : Prop := ∀ (a0 : Int) (l1 : List (S70)), ((Lit.int .i64 a0).wf = true) → l1.length ≤ maxLen → l1.length * 16 ≤ 140737488351232 → (∀ y_ ∈ l1, okS70 y_) → ∃ k, casementlaw09_SolvePlays.f k a0 l1 = some true
theorem casementlaw09_SolvePlays.walk (P : casementlaw09_SolvePlays.Pure) (a0 : Int) (A1 : Option Addr) (c1 : Nat) (l1 : List (S70)) (w : World) (wl0 : ((Lit.int .i64 a0).wf = true)) (wl1 : l1.length ≤ maxLen) (wl2 : l1.length * 16 ≤ 140737488351232) (wl3 : (∀ y_ ∈ l1, okS70 y_)) (hr1 : Kd.C k70 w A1 l1.length l1) (hc1 : l1.length ≤ c1) :
    Calls Try.prog 8 #[.int .i64 a0, .slice A1 l1.length c1] w fun e w' => e = .returned (.bool true) ∧ Below w.heap.size w w' := by
  obtain ⟨k, h⟩ := P a0 l1 wl0 wl1 wl2 wl3
  refine (casementlaw09_SolvePlays.calls k a0 _ _ l1 true w hr1 hc1 h rfl).mono ?_
  rintro e w' ⟨rfl, hd⟩
  exact ⟨rfl, hd⟩

end Go.Proofs.Ythllpilgfipkpaa.Q
