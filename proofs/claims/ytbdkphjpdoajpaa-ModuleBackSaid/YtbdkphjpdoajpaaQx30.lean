-- written by a program of this session after the way of the kit's print; not the kit's own print. Lean checks it.
import Derived.Test.YtbdkphjpdoajpaaQx0
import Derived.Test.YtbdkphjpdoajpaaQx9
import Derived.Test.YtbdkphjpdoajpaaQx12
import Derived.Test.YtbdkphjpdoajpaaQx13
import Derived.Test.YtbdkphjpdoajpaaQx20
namespace Go.Proofs.Ytbdkphjpdoajpaa.Q
open Go.RowKit Go.Proofs.YtbdkphjpdoajpaaW.PrintWords Go.Proofs.YtbdkphjpdoajpaaW.PrintLast Go.Proofs.YtbdkphjpdoajpaaW.PrintMore
attribute [local go_sem] max2_int min2_int max_two min_two max_three min_three max_four min_four   -- for this text's walks alone
set_option linter.unusedVariables false
set_option linter.unusedSimpArgs false

/-! ### casementlaw12_ModuleBack: function 5 -/
mutual
def casementlaw12_ModuleBack.j0 : Nat → List Int → Bool → Int → List Int → List (S44) → Option (Bool)
  | 0, _, _, _, _, _ => none
  | k + 1, x0, x56, x497000, x497001, x497002 => if x56 = true then (some false) else (casementlaw12_ModuleBack.l0 k x0 (x497001.length : Int) 0 x497000 x497001 x497002)
def casementlaw12_ModuleBack.l0 : Nat → List Int → Int → Int → Int → List Int → List (S44) → Option (Bool)
  | 0, _, _, _, _, _, _ => none
  | k + 1, x0, x59, x60, x497000, x497001, x497002 => if x60 < x59 then (if 0 ≤ x60 then (if x60 < (x497001.length : Int) then (casementlaw12_ModuleBack.l0 k x0 x59 (wrap64 (x60 + 1)) x497000 (x497001.set (x60 : Int).toNat 7) x497002) else (none)) else (none)) else (casementlaw12_ModuleBack.l1 k x0 (x497002.length : Int) 0 x497000 x497001 x497002)
def casementlaw12_ModuleBack.l1 : Nat → List Int → Int → Int → Int → List Int → List (S44) → Option (Bool)
  | 0, _, _, _, _, _, _ => none
  | k + 1, x0, x70, x71, x497000, x497001, x497002 => if x71 < x70 then (if 0 ≤ x71 then (if x71 < (x497002.length : Int) then (if 0 < (((rd_T44 x497002 x71).f3).length : Int) then (casementlaw12_ModuleBack.l1 k x0 x70 (wrap64 (x71 + 1)) x497000 x497001 (x497002.set (x71 : Int).toNat (⟨(rd_T44 x497002 x71).f0, (rd_T44 x497002 x71).f1, (rd_T44 x497002 x71).f2, (((rd_T44 x497002 x71).f3).set (0 : Int).toNat (⟨77, (rd_T41 ((rd_T44 x497002 x71).f3) 0).f1⟩ : S41))⟩ : S44))) else (none)) else (none)) else (none)) else ((module_Decode.f k x0).bind fun bt508 => ((module_Encode.f k bt508.1 bt508.2.1 bt508.2.2.1).bind fun bt519 => (if bt508.2.2.2.1 = 0 then (if bt519.2 = 0 then ((casementref01_SameBytes.f k bt519.1 x0).bind fun t523 => (some t523)) else (some false)) else (some false))))
end
def casementlaw12_ModuleBack.f (k : Nat) (l0 : List Int) : Option (Bool) := (casementlaw12_alive.f k).bind fun t486 => (if t486 = true then ((module_Decode.f k l0).bind fun bt487 => (if bt487.2.2.2.1 = 0 then ((module_Encode.f k bt487.1 bt487.2.1 bt487.2.2.1).bind fun bt498 => (if bt498.2 = 0 then ((casementref01_SameBytes.f k bt498.1 l0).bind fun t502 => (casementlaw12_ModuleBack.j0 k l0 (!t502) bt487.1 bt487.2.1 bt487.2.2.1)) else (casementlaw12_ModuleBack.j0 k l0 true bt487.1 bt487.2.1 bt487.2.2.1))) else (if bt487.2.2.2.2 ≥ 0 then (if bt487.2.2.2.2 ≤ (l0.length : Int) then (if (bt487.2.2.1.length : Int) = 0 then (some (bt487.1 == 0)) else (some false)) else (some false)) else (some false)))) else (some false))
theorem casementlaw12_ModuleBack.mono_l : ∀ k, (∀ y0 y1 y2 y3 y4, LeO (casementlaw12_ModuleBack.j0 k y0 y1 y2 y3 y4) (casementlaw12_ModuleBack.j0 (k + 1) y0 y1 y2 y3 y4)) ∧ (∀ y0 y1 y2 y3 y4 y5, LeO (casementlaw12_ModuleBack.l0 k y0 y1 y2 y3 y4 y5) (casementlaw12_ModuleBack.l0 (k + 1) y0 y1 y2 y3 y4 y5)) ∧ (∀ y0 y1 y2 y3 y4 y5, LeO (casementlaw12_ModuleBack.l1 k y0 y1 y2 y3 y4 y5) (casementlaw12_ModuleBack.l1 (k + 1) y0 y1 y2 y3 y4 y5))
  | 0 => ⟨fun _ _ _ _ _ r h => by simp [casementlaw12_ModuleBack.j0] at h, fun _ _ _ _ _ _ r h => by simp [casementlaw12_ModuleBack.l0] at h, fun _ _ _ _ _ _ r h => by simp [casementlaw12_ModuleBack.l1] at h⟩
  | k + 1 => by
    obtain ⟨ih0, ih1, ih2⟩ := casementlaw12_ModuleBack.mono_l k
    refine ⟨?_, ?_, ?_⟩
    · intro y0 y1 y2 y3 y4
      unfold casementlaw12_ModuleBack.j0
      repeat' first
      | (with_reducible exact ih0 _ _ _ _ _)
      | (with_reducible exact ih1 _ _ _ _ _ _)
      | (with_reducible exact ih2 _ _ _ _ _ _)
      | (with_reducible exact casementlaw12_alive.mono _)
      | (with_reducible exact casementref01_SameBytes.mono _ _ _)
      | (with_reducible exact module_Decode.mono _ _)
      | (with_reducible exact module_Encode.mono _ _ _ _)
      | (with_reducible exact LeO.refl _)
      | (with_reducible exact LeO.none _)
      | (with_reducible refine LeO.ite ?_ ?_)
      | (with_reducible refine LeO.bind ?_ (fun _ => ?_))
      | exact ih0 _ _ _ _ _
      | exact ih1 _ _ _ _ _ _
      | exact ih2 _ _ _ _ _ _
      | exact casementlaw12_alive.mono _
      | exact casementref01_SameBytes.mono _ _ _
      | exact module_Decode.mono _ _
      | exact module_Encode.mono _ _ _ _
      | exact LeO.none _
      | refine LeO.ite ?_ ?_
      | refine LeO.bind ?_ (fun _ => ?_)
    · intro y0 y1 y2 y3 y4 y5
      unfold casementlaw12_ModuleBack.l0
      repeat' first
      | (with_reducible exact ih0 _ _ _ _ _)
      | (with_reducible exact ih1 _ _ _ _ _ _)
      | (with_reducible exact ih2 _ _ _ _ _ _)
      | (with_reducible exact casementlaw12_alive.mono _)
      | (with_reducible exact casementref01_SameBytes.mono _ _ _)
      | (with_reducible exact module_Decode.mono _ _)
      | (with_reducible exact module_Encode.mono _ _ _ _)
      | (with_reducible exact LeO.refl _)
      | (with_reducible exact LeO.none _)
      | (with_reducible refine LeO.ite ?_ ?_)
      | (with_reducible refine LeO.bind ?_ (fun _ => ?_))
      | exact ih0 _ _ _ _ _
      | exact ih1 _ _ _ _ _ _
      | exact ih2 _ _ _ _ _ _
      | exact casementlaw12_alive.mono _
      | exact casementref01_SameBytes.mono _ _ _
      | exact module_Decode.mono _ _
      | exact module_Encode.mono _ _ _ _
      | exact LeO.none _
      | refine LeO.ite ?_ ?_
      | refine LeO.bind ?_ (fun _ => ?_)
    · intro y0 y1 y2 y3 y4 y5
      unfold casementlaw12_ModuleBack.l1
      repeat' first
      | (with_reducible exact ih0 _ _ _ _ _)
      | (with_reducible exact ih1 _ _ _ _ _ _)
      | (with_reducible exact ih2 _ _ _ _ _ _)
      | (with_reducible exact casementlaw12_alive.mono _)
      | (with_reducible exact casementref01_SameBytes.mono _ _ _)
      | (with_reducible exact module_Decode.mono _ _)
      | (with_reducible exact module_Encode.mono _ _ _ _)
      | (with_reducible exact LeO.refl _)
      | (with_reducible exact LeO.none _)
      | (with_reducible refine LeO.ite ?_ ?_)
      | (with_reducible refine LeO.bind ?_ (fun _ => ?_))
      | exact ih0 _ _ _ _ _
      | exact ih1 _ _ _ _ _ _
      | exact ih2 _ _ _ _ _ _
      | exact casementlaw12_alive.mono _
      | exact casementref01_SameBytes.mono _ _ _
      | exact module_Decode.mono _ _
      | exact module_Encode.mono _ _ _ _
      | exact LeO.none _
      | refine LeO.ite ?_ ?_
      | refine LeO.bind ?_ (fun _ => ?_)
theorem casementlaw12_ModuleBack.mono : ∀ a0 k, LeO (casementlaw12_ModuleBack.f k a0) (casementlaw12_ModuleBack.f (k + 1) a0) := by
  intro a0 k
  obtain ⟨ih0, ih1, ih2⟩ := casementlaw12_ModuleBack.mono_l k
  unfold casementlaw12_ModuleBack.f
  repeat' first
      | (with_reducible exact ih0 _ _ _ _ _)
      | (with_reducible exact ih1 _ _ _ _ _ _)
      | (with_reducible exact ih2 _ _ _ _ _ _)
      | (with_reducible exact casementlaw12_alive.mono _)
      | (with_reducible exact casementref01_SameBytes.mono _ _ _)
      | (with_reducible exact module_Decode.mono _ _)
      | (with_reducible exact module_Encode.mono _ _ _ _)
      | (with_reducible exact LeO.refl _)
      | (with_reducible exact LeO.none _)
      | (with_reducible refine LeO.ite ?_ ?_)
      | (with_reducible refine LeO.bind ?_ (fun _ => ?_))
      | exact ih0 _ _ _ _ _
      | exact ih1 _ _ _ _ _ _
      | exact ih2 _ _ _ _ _ _
      | exact casementlaw12_alive.mono _
      | exact casementref01_SameBytes.mono _ _ _
      | exact module_Decode.mono _ _
      | exact module_Encode.mono _ _ _ _
      | exact LeO.none _
      | refine LeO.ite ?_ ?_
      | refine LeO.bind ?_ (fun _ => ?_)
set_option maxHeartbeats 8000000 in
set_option maxRecDepth 100000 in
theorem casementlaw12_ModuleBack.calls (k : Nat) (A0 : Option Addr) (c0 : Nat) (l0 : List Int) (r : Bool) (w : World) (hr0 : Kd.C (Kd.int .u8) w A0 l0.length l0) (hc0 : l0.length ≤ c0) (h : casementlaw12_ModuleBack.f k l0 = some r) (hr : r = true) :
    Calls Try.prog 5 #[.slice A0 l0.length c0] w fun e w' => e = .returned (.bool r) ∧ Below w.heap.size w w' := by
  have hu26 := Try.underlying26
  have hu29 := Try.underlying29
  have HRT := Aside0.mk hr
  clear hr
  have HR0 := Aside0.mk hr0
  have HC0 := Aside0.mk hc0
  clear hr0 hc0
  have HB := Aside0.mk (Below.refl w.heap.size w)
  have H : ((casementlaw12_alive.f k).bind fun t486 => (if t486 = true then ((module_Decode.f k l0).bind fun bt487 => (if bt487.2.2.2.1 = 0 then ((module_Encode.f k bt487.1 bt487.2.1 bt487.2.2.1).bind fun bt498 => (if bt498.2 = 0 then ((casementref01_SameBytes.f k bt498.1 l0).bind fun t502 => (casementlaw12_ModuleBack.j0 k l0 (!t502) bt487.1 bt487.2.1 bt487.2.2.1)) else (casementlaw12_ModuleBack.j0 k l0 true bt487.1 bt487.2.1 bt487.2.2.1))) else (if bt487.2.2.2.2 ≥ 0 then (if bt487.2.2.2.2 ≤ (l0.length : Int) then (if (bt487.2.2.1.length : Int) = 0 then (some (bt487.1 == 0)) else (some false)) else (some false)) else (some false)))) else (some false))) = some r := h
  clear h
  replace H := Option.bind_eq_some_iff.mp H
  obtain ⟨t486, A20, H⟩ := H
  replace H : (if t486 = true then ((module_Decode.f k l0).bind fun bt487 => (if bt487.2.2.2.1 = 0 then ((module_Encode.f k bt487.1 bt487.2.1 bt487.2.2.1).bind fun bt498 => (if bt498.2 = 0 then ((casementref01_SameBytes.f k bt498.1 l0).bind fun t502 => (casementlaw12_ModuleBack.j0 k l0 (!t502) bt487.1 bt487.2.1 bt487.2.2.1)) else (casementlaw12_ModuleBack.j0 k l0 true bt487.1 bt487.2.1 bt487.2.2.1))) else (if bt487.2.2.2.2 ≥ 0 then (if bt487.2.2.2.2 ≤ (l0.length : Int) then (if (bt487.2.2.1.length : Int) = 0 then (some (bt487.1 == 0)) else (some false)) else (some false)) else (some false)))) else (some false)) = some r := H
  have A2 := Aside0.mk A20
  clear A20
  by_cases c3 : t486 = true
  · subst c3
    have H1 : ((module_Decode.f k l0).bind fun bt487 => (if bt487.2.2.2.1 = 0 then ((module_Encode.f k bt487.1 bt487.2.1 bt487.2.2.1).bind fun bt498 => (if bt498.2 = 0 then ((casementref01_SameBytes.f k bt498.1 l0).bind fun t502 => (casementlaw12_ModuleBack.j0 k l0 (!t502) bt487.1 bt487.2.1 bt487.2.2.1)) else (casementlaw12_ModuleBack.j0 k l0 true bt487.1 bt487.2.1 bt487.2.2.1))) else (if bt487.2.2.2.2 ≥ 0 then (if bt487.2.2.2.2 ≤ (l0.length : Int) then (if (bt487.2.2.1.length : Int) = 0 then (some (bt487.1 == 0)) else (some false)) else (some false)) else (some false)))) = some r := by rw [if_pos rfl] at H; exact H
    clear H
    have H := H1
    clear H1
    replace H := Option.bind_eq_some_iff.mp H
    obtain ⟨⟨t487, t488, t491, t494, t495⟩, A40, H⟩ := H
    replace H : (if t494 = 0 then ((module_Encode.f k t487 t488 t491).bind fun bt498 => (if bt498.2 = 0 then ((casementref01_SameBytes.f k bt498.1 l0).bind fun t502 => (casementlaw12_ModuleBack.j0 k l0 (!t502) t487 t488 t491)) else (casementlaw12_ModuleBack.j0 k l0 true t487 t488 t491))) else (if t495 ≥ 0 then (if t495 ≤ (l0.length : Int) then (if (t491.length : Int) = 0 then (some (t487 == 0)) else (some false)) else (some false)) else (some false))) = some r := H
    have A4 := Aside0.mk A40
    clear A40
    by_cases c5 : t494 = 0
    · rw [if_pos c5] at H
      have c5b0 : (t494 == 0) = true := beq_iff_eq.mpr c5
      have c5b1 : (t494 != 0) = false := bne_eq_false_iff_eq.mpr c5
      clear c5
      replace H := Option.bind_eq_some_iff.mp H
      obtain ⟨⟨t498, t501⟩, A60, H⟩ := H
      replace H : (if t501 = 0 then ((casementref01_SameBytes.f k t498 l0).bind fun t502 => (casementlaw12_ModuleBack.j0 k l0 (!t502) t487 t488 t491)) else (casementlaw12_ModuleBack.j0 k l0 true t487 t488 t491)) = some r := H
      have A6 := Aside0.mk A60
      clear A60
      have HC7 := Aside0.mk H
      clear H
      go_enter Try.func5, Try.ntmps5
      go_upto_region 7 with (first | ((with_reducible refine gate_callee (f := 9) rfl ?_); refine goesL_ (some 13) rfl rfl Try.func9 (by kernel_rfl) rfl #[] rfl (by (try simp only [List.map_toArray, List.map_cons, List.map_nil]); first | done | rfl | (simp only [List.length_drop, List.length_take]; rfl)) ?_; (with_reducible refine (casementlaw12_alive.calls k  true _ A2.out (by first | rfl | assumption)).mono ?_); rintro e w8 ⟨rfl, hb⟩; refine ⟨_, rfl, ?_⟩; have n0_ := Aside0.mk (below_step (by repeat (first | (with_reducible first | exact HB.out | apply below_alloc | apply pw_below_drewN | apply below_drew1) | exact HB.out)) hb); clear HB; have HB := n0_; clear n0_; (try clear hb); (try clear hb2); (try clear hk); (try clear hi)) | ((with_reducible refine gate_callee (f := 10) rfl ?_); refine goesL_ (some 17) rfl rfl Try.func10 (by kernel_rfl) rfl #[.slice A0 l0.length c0] rfl (by (try simp only [List.map_toArray, List.map_cons, List.map_nil]); first | done | rfl | (simp only [List.length_drop, List.length_take]; rfl)) ?_; (with_reducible refine (module_Decode.calls k _ _ l0 t487 t488 t491 t494 t495 _ ?side1 ?side2 A4.out).mono ?_); (case side1 => repeat (first | exact (Kd.C_below HR0.out HB.out) | (with_reducible refine Kd.C_alloc ?_ _) | (with_reducible refine Kd.C_drewN ?_ _) | (with_reducible refine Kd.C_drew ?_))); (case side2 => exact HC0.out); rintro e w9 ⟨v489, v492, rfl, ho0, ho1, hb⟩; refine ⟨_, rfl, ?_⟩; have n0_ := Aside0.mk (Kd.R_lower ho0 (below_size (by repeat (first | (with_reducible first | exact HB.out | apply below_alloc | apply pw_below_drewN | apply below_drew1) | exact HB.out)))); have n1_ := Aside0.mk (Kd.S_lower ho1 (below_size (by repeat (first | (with_reducible first | exact HB.out | apply below_alloc | apply pw_below_drewN | apply below_drew1) | exact HB.out)))); have n2_ := Aside0.mk (below_step (by repeat (first | (with_reducible first | exact HB.out | apply below_alloc | apply pw_below_drewN | apply below_drew1) | exact HB.out)) hb); clear HB; have HO490 := n0_; have HO493 := n1_; have HB := n2_; clear n0_ n1_ n2_; (try clear hb); (try clear hb2); (try clear hk); (try clear hi); (try clear ho0); (try clear ho1)) | ((with_reducible refine gate_dst (N := 3) rfl ?_); (try (refine gate_guard (by rfl) ?_; dsimp only)); refine box_event ?hg (N := 3) ?hd (cs := #[.int .i64 0, .slice none 0 0, .slice none 0 0]) (t := 26) ?hr ?_; (case hd => rfl); (case hg => rfl); (case hr => first | (go_simp; done) | (go_simp; rfl)); intro gb496 hg w10 hbox hb; have n0_ := Aside0.mk (Kd.R_below (by (with_reducible repeat (first | apply Kd.R_alloc | apply Kd.R_drewN | apply Kd.R_drew)); exact HO490.out) hb); have n1_ := Aside0.mk (Kd.S_below (by (with_reducible repeat (first | apply Kd.S_alloc | apply Kd.S_drewN | apply Kd.S_drew)); exact HO493.out) hb); have n2_ := Aside0.mk (below_step (by repeat (first | (with_reducible first | exact HB.out | apply below_alloc | apply pw_below_drewN | apply below_drew1) | exact HB.out)) hb); have n3_ := Aside0.mk (hbox); have n4_ := Aside0.mk ((by rw [hg]; exact (below_size (by repeat (first | (with_reducible first | exact HB.out | apply below_alloc | apply pw_below_drewN | apply below_drew1) | exact HB.out))) : w.heap.size ≤ gb496)); have n5_ := Aside0.mk ((by rw [hg]; exact (below_size (by repeat (first | (with_reducible first | exact HB.out | apply below_alloc | apply pw_below_drewN | apply below_drew1) | exact HB.out))) : w.heap.size ≤ gb496)); clear HO490; clear HO493; clear HB; have HO490 := n0_; have HO493 := n1_; have HB := n2_; have BK496 := n3_; have GW496 := n4_; have GE496 := n5_; clear n0_ n1_ n2_ n3_ n4_ n5_; clear hb hbox hg) | ((with_reducible refine gate_dst (N := 4) rfl ?_); (try (refine gate_guard (by rfl) ?_; dsimp only)); refine box_event ?hg (N := 4) ?hd (cs := #[.int .i64 0, .int .i64 0]) (t := 29) ?hr ?_; (case hd => rfl); (case hg => rfl); (case hr => first | (go_simp; done) | (go_simp; rfl)); intro gb497 hg w11 hbox hb; have n0_ := Aside0.mk (Kd.R_below (by (with_reducible repeat (first | apply Kd.R_alloc | apply Kd.R_drewN | apply Kd.R_drew)); exact HO490.out) hb); have n1_ := Aside0.mk (Kd.S_below (by (with_reducible repeat (first | apply Kd.S_alloc | apply Kd.S_drewN | apply Kd.S_drew)); exact HO493.out) hb); have n2_ := Aside0.mk (blk_below (g := gb496) (o := .cells #[.int .i64 0, .slice none 0 0, .slice none 0 0] 26 (0, 0)) (by (with_reducible repeat (first | refine blk_drewN ?_ _ | refine blk_drew ?_ | refine blk_alloc ?_ _)); exact BK496.out) hb); have n3_ := Aside0.mk (below_step (by repeat (first | (with_reducible first | exact HB.out | apply below_alloc | apply pw_below_drewN | apply below_drew1 | refine below_set ?_ GE496.out) | exact HB.out)) hb); have n4_ := Aside0.mk (hbox); have n5_ := Aside0.mk ((by rw [hg]; exact (below_size (by repeat (first | (with_reducible first | exact HB.out | apply below_alloc | apply pw_below_drewN | apply below_drew1 | refine below_set ?_ GE496.out) | exact HB.out))) : w.heap.size ≤ gb497)); have n6_ := Aside0.mk ((by rw [hg]; exact (below_size (by repeat (first | (with_reducible first | exact HB.out | apply below_alloc | apply pw_below_drewN | apply below_drew1 | refine below_set ?_ GE496.out) | exact HB.out))) : w.heap.size ≤ gb497)); have n7_ := Aside0.mk ((by rw [hg]; exact Nat.ne_of_lt (blk_lt (g := gb496) (o := .cells #[.int .i64 0, .slice none 0 0, .slice none 0 0] 26 (0, 0)) (by (with_reducible repeat (first | refine blk_drewN ?_ _ | refine blk_drew ?_ | refine blk_alloc ?_ _)); exact BK496.out)) : gb496 ≠ gb497)); have n8_ := Aside0.mk ((by rw [hg]; exact Nat.ne_of_gt (blk_lt (g := gb496) (o := .cells #[.int .i64 0, .slice none 0 0, .slice none 0 0] 26 (0, 0)) (by (with_reducible repeat (first | refine blk_drewN ?_ _ | refine blk_drew ?_ | refine blk_alloc ?_ _)); exact BK496.out)) : gb497 ≠ gb496)); clear HO490; clear HO493; clear BK496; clear HB; have HO490 := n0_; have HO493 := n1_; have BK496 := n2_; have HB := n3_; have BK497 := n4_; have GW497 := n5_; have GE497 := n6_; have NB496_497 := n7_; have NB497_496 := n8_; clear n0_ n1_ n2_ n3_ n4_ n5_ n6_ n7_ n8_; clear hb hbox hg; have hnb12 := NB496_497.out; have hnc12 := NB497_496.out; have hcz13_0 : w11.cell? ⟨gb496, 0, none⟩ = some (.int .i64 0) := (blk_cell BK496.out 0).trans rfl; have hcz13_1 : w11.cell? ⟨gb496, 1, none⟩ = some (.slice none 0 0) := (blk_cell BK496.out 1).trans rfl; have hcz13_2 : w11.cell? ⟨gb496, 2, none⟩ = some (.slice none 0 0) := (blk_cell BK496.out 2).trans rfl; have hfz13_0 := blk_frozen BK496.out 0; have hfz13_1 := blk_frozen BK496.out 1; have hfz13_2 := blk_frozen BK496.out 2; obtain ⟨Ao14, co14, eo14⟩ := Kd.R_slice HO490.out; subst eo14; obtain ⟨Ao15, co15, eo15⟩ := Kd.S_slice HO493.out; subst eo15; have hcz16_0 : w11.cell? ⟨gb497, 0, none⟩ = some (.int .i64 0) := (blk_cell BK497.out 0).trans rfl; have hcz16_1 : w11.cell? ⟨gb497, 1, none⟩ = some (.int .i64 0) := (blk_cell BK497.out 1).trans rfl; have hfz16_0 := blk_frozen BK497.out 0; have hfz16_1 := blk_frozen BK497.out 1) | ((with_reducible refine gate_callee (f := 13) rfl ?_); refine goesL_ (some 46) rfl rfl Try.func13 (by kernel_rfl) rfl #[.agg #[.int .i64 t487, .slice Ao14 t488.length co14, .slice Ao15 t491.length co15]] rfl (by (try simp only [List.map_toArray, List.map_cons, List.map_nil]); first | done | rfl | (simp only [List.length_drop, List.length_take]; rfl)) ?_; (with_reducible refine (module_Encode.calls k t487 _ _ t488 _ _ t491 t498 t501 _ ?side1 ?side2 ?side3 ?side4 A6.out).mono ?_); (case side1 => refine (Kd.R_reads' (e := 5) (base := w.heap.size) (ok := fun k_ => True) (n := t488.length) (c := co14) ?_).2.2; exact (by (with_reducible repeat (first | apply Kd.R_alloc | apply Kd.R_drewN | apply Kd.R_drew)); exact (Kd.R_mono (Kd.R_mono (Kd.R_far (p := ⟨gb497, 1, none⟩) (Kd.R_far (p := ⟨gb497, 0, none⟩) (Kd.R_far (p := ⟨gb496, 2, none⟩) (Kd.R_far (p := ⟨gb496, 1, none⟩) (Kd.R_far (p := ⟨gb496, 0, none⟩) (Kd.R_types (Kd.R_types HO490.out BK496.out (by decide)) BK497.out (by decide)) (fun _ hk => hk.1.2) (.int .i64 t487)) (fun _ hk => hk.1.2) (.slice Ao14 t488.length co14)) (fun _ hk => hk.1.2) (.slice Ao15 t491.length co15)) (fun _ hk => hk.2) (.int .i64 t494)) (fun _ hk => hk.2) (.int .i64 t495)) (fun _ h_ => h_.1)) (fun _ h_ => h_.1)))); (case side2 => exact (Kd.R_reads' HO490.out).2.1); (case side3 => refine (Kd.S_reads' (e := 44) (base := w.heap.size) (ok := fun k_ => True) (n := t491.length) (c := co15) ?_).2.2; exact (by (with_reducible repeat (first | apply Kd.S_alloc | apply Kd.S_drewN | apply Kd.S_drew)); exact (Kd.S_mono (Kd.S_mono (Kd.S_far (p := ⟨gb497, 1, none⟩) (Kd.S_far (p := ⟨gb497, 0, none⟩) (Kd.S_far (p := ⟨gb496, 2, none⟩) (Kd.S_far (p := ⟨gb496, 1, none⟩) (Kd.S_far (p := ⟨gb496, 0, none⟩) (Kd.S_types (Kd.S_types HO493.out BK496.out (by decide)) BK497.out (by decide)) (fun _ hk => hk.1.2) (.int .i64 t487)) (fun _ hk => hk.1.2) (.slice Ao14 t488.length co14)) (fun _ hk => hk.1.2) (.slice Ao15 t491.length co15)) (fun _ hk => hk.2) (.int .i64 t494)) (fun _ hk => hk.2) (.int .i64 t495)) (fun _ h_ => h_.1)) (fun _ h_ => h_.1)))); (case side4 => exact (Kd.S_reads' HO493.out).2.1); rintro e w17 ⟨v499, rfl, ho0, hb⟩; refine ⟨_, rfl, ?_⟩; have n0_ := Aside0.mk (Kd.R_elder' (by (with_reducible repeat (first | apply Kd.R_alloc | apply Kd.R_drewN | apply Kd.R_drew)); exact (Kd.R_mono (Kd.R_mono (Kd.R_far (p := ⟨gb497, 1, none⟩) (Kd.R_far (p := ⟨gb497, 0, none⟩) (Kd.R_far (p := ⟨gb496, 2, none⟩) (Kd.R_far (p := ⟨gb496, 1, none⟩) (Kd.R_far (p := ⟨gb496, 0, none⟩) (Kd.R_types (Kd.R_types HO490.out BK496.out (by decide)) BK497.out (by decide)) (fun _ hk => hk.1.2) (.int .i64 t487)) (fun _ hk => hk.1.2) (.slice Ao14 t488.length co14)) (fun _ hk => hk.1.2) (.slice Ao15 t491.length co15)) (fun _ hk => hk.2) (.int .i64 t494)) (fun _ hk => hk.2) (.int .i64 t495)) (fun _ h_ => h_.1)) (fun _ h_ => h_.1))) (Kd.R_base ho0) hb); have n1_ := Aside0.mk (Kd.S_below (by (with_reducible repeat (first | apply Kd.S_alloc | apply Kd.S_drewN | apply Kd.S_drew)); exact (Kd.S_mono (Kd.S_mono (Kd.S_far (p := ⟨gb497, 1, none⟩) (Kd.S_far (p := ⟨gb497, 0, none⟩) (Kd.S_far (p := ⟨gb496, 2, none⟩) (Kd.S_far (p := ⟨gb496, 1, none⟩) (Kd.S_far (p := ⟨gb496, 0, none⟩) (Kd.S_types (Kd.S_types HO493.out BK496.out (by decide)) BK497.out (by decide)) (fun _ hk => hk.1.2) (.int .i64 t487)) (fun _ hk => hk.1.2) (.slice Ao14 t488.length co14)) (fun _ hk => hk.1.2) (.slice Ao15 t491.length co15)) (fun _ hk => hk.2) (.int .i64 t494)) (fun _ hk => hk.2) (.int .i64 t495)) (fun _ h_ => h_.1)) (fun _ h_ => h_.1))) hb); have n2_ := Aside0.mk (Kd.R_lower (Kd.R_new' ho0 (Kd.R_lt (by (with_reducible repeat (first | apply Kd.R_alloc | apply Kd.R_drewN | apply Kd.R_drew)); exact (Kd.R_mono (Kd.R_mono (Kd.R_far (p := ⟨gb497, 1, none⟩) (Kd.R_far (p := ⟨gb497, 0, none⟩) (Kd.R_far (p := ⟨gb496, 2, none⟩) (Kd.R_far (p := ⟨gb496, 1, none⟩) (Kd.R_far (p := ⟨gb496, 0, none⟩) (Kd.R_types (Kd.R_types HO490.out BK496.out (by decide)) BK497.out (by decide)) (fun _ hk => hk.1.2) (.int .i64 t487)) (fun _ hk => hk.1.2) (.slice Ao14 t488.length co14)) (fun _ hk => hk.1.2) (.slice Ao15 t491.length co15)) (fun _ hk => hk.2) (.int .i64 t494)) (fun _ hk => hk.2) (.int .i64 t495)) (fun _ h_ => h_.1)) (fun _ h_ => h_.1))))) (below_size (by repeat (first | (with_reducible first | exact HB.out | apply below_alloc | apply pw_below_drewN | apply below_drew1 | refine below_set ?_ GE496.out | refine below_set ?_ GE497.out) | exact HB.out)))); have n3_ := Aside0.mk (blk_below (g := gb496) (o := .cells #[.int .i64 t487, .slice Ao14 t488.length co14, .slice Ao15 t491.length co15] 26 (0, 0)) (by (with_reducible repeat (first | refine blk_drewN ?_ _ | refine blk_drew ?_ | refine blk_alloc ?_ _)); refine blk_far ?_ NB496_497.out _; (with_reducible repeat (first | refine blk_drewN ?_ _ | refine blk_drew ?_ | refine blk_alloc ?_ _)); refine blk_far ?_ NB496_497.out _; (with_reducible repeat (first | refine blk_drewN ?_ _ | refine blk_drew ?_ | refine blk_alloc ?_ _)); refine blk_put (cs := #[.int .i64 t487, .slice Ao14 t488.length co14, .slice none 0 0]) ?_ 2 _ rfl; (with_reducible repeat (first | refine blk_drewN ?_ _ | refine blk_drew ?_ | refine blk_alloc ?_ _)); refine blk_put (cs := #[.int .i64 t487, .slice none 0 0, .slice none 0 0]) ?_ 1 _ rfl; (with_reducible repeat (first | refine blk_drewN ?_ _ | refine blk_drew ?_ | refine blk_alloc ?_ _)); refine blk_put (cs := #[.int .i64 0, .slice none 0 0, .slice none 0 0]) ?_ 0 _ rfl; (with_reducible repeat (first | refine blk_drewN ?_ _ | refine blk_drew ?_ | refine blk_alloc ?_ _)); exact BK496.out) hb); have n4_ := Aside0.mk (blk_below (g := gb497) (o := .cells #[.int .i64 t494, .int .i64 t495] 29 (0, 0)) (by (with_reducible repeat (first | refine blk_drewN ?_ _ | refine blk_drew ?_ | refine blk_alloc ?_ _)); refine blk_put (cs := #[.int .i64 t494, .int .i64 0]) ?_ 1 _ rfl; (with_reducible repeat (first | refine blk_drewN ?_ _ | refine blk_drew ?_ | refine blk_alloc ?_ _)); refine blk_put (cs := #[.int .i64 0, .int .i64 0]) ?_ 0 _ rfl; (with_reducible repeat (first | refine blk_drewN ?_ _ | refine blk_drew ?_ | refine blk_alloc ?_ _)); refine blk_far ?_ NB497_496.out _; (with_reducible repeat (first | refine blk_drewN ?_ _ | refine blk_drew ?_ | refine blk_alloc ?_ _)); refine blk_far ?_ NB497_496.out _; (with_reducible repeat (first | refine blk_drewN ?_ _ | refine blk_drew ?_ | refine blk_alloc ?_ _)); refine blk_far ?_ NB497_496.out _; (with_reducible repeat (first | refine blk_drewN ?_ _ | refine blk_drew ?_ | refine blk_alloc ?_ _)); exact BK497.out) hb); have n5_ := Aside0.mk (below_step (by repeat (first | (with_reducible first | exact HB.out | apply below_alloc | apply pw_below_drewN | apply below_drew1 | refine below_set ?_ GE496.out | refine below_set ?_ GE497.out) | exact HB.out)) hb); clear HO490; clear HO493; clear BK496; clear BK497; clear HB; have HO490 := n0_; have HO493 := n1_; have HO500 := n2_; have BK496 := n3_; have BK497 := n4_; have HB := n5_; clear n0_ n1_ n2_ n3_ n4_ n5_; (try clear hb); (try clear hb2); (try clear hk); (try clear hi); (try clear ho0)))
      (try simp only [Act.put, List.setIfInBounds_toArray, List.set_cons_zero, List.set_cons_succ])
      go_cut [56] (fun v56 wc => ∃ (kq : Nat) (x56_6 : Bool), v56 = .bool x56_6 ∧ Aside0 (casementlaw12_ModuleBack.j0 kq l0 x56_6 t487 t488 t491 = some r) ∧ Aside0 (kq ≤ k) ∧ Aside0 (Kd.R (Kd.int .u8) 5 wc w.heap.size (fun _ => True) (.slice Ao14 t488.length co14) t488) ∧ Aside0 (Kd.S k44 44 wc w.heap.size (fun _ => True) (.slice Ao15 t491.length co15) t491) ∧ Aside0 (wc.heap[gb496]? = some (.cells #[.int .i64 t487, (.slice Ao14 t488.length co14), (.slice Ao15 t491.length co15)] 26 (0, 0))) ∧ Aside0 (wc.heap[gb497]? = some (.cells #[.int .i64 t494, .int .i64 t495] 29 (0, 0))) ∧ Aside0 (Below w.heap.size w wc))
      case first =>
        have H := HC7.out
        clear HC7
        by_cases c18 : t501 = 0
        · rw [if_pos c18] at H
          have c18b0 : (t501 == 0) = true := beq_iff_eq.mpr c18
          have c18b1 : (t501 != 0) = false := bne_eq_false_iff_eq.mpr c18
          clear c18
          (first | rw [c18b0] | (simp only [i64_w, i32_w]; rw [c18b0]) | skip)
          replace H := Option.bind_eq_some_iff.mp H
          obtain ⟨t502, A190, H⟩ := H
          replace H : (casementlaw12_ModuleBack.j0 k l0 (!t502) t487 t488 t491) = some r := H
          have A19 := Aside0.mk A190
          clear A190
          have H' := Aside0.mk H
          clear H
          obtain ⟨Ao20, co20, eo20⟩ := Kd.R_slice HO500.out
          subst eo20
          go_wp2_with (first | (go_at_call 15; (with_reducible refine (casementref01_SameBytes.calls k _ _ t498 _ _ l0 t502 _ ?side1 ?side2 ?side3 ?side4 A19.out).mono ?_); (case side1 => repeat (first | exact (Kd.R_reads' HO500.out).2.2 | (with_reducible refine Kd.C_alloc ?_ _) | (with_reducible refine Kd.C_drewN ?_ _) | (with_reducible refine Kd.C_drew ?_))); (case side2 => exact (Kd.R_reads' HO500.out).2.1); (case side3 => repeat (first | exact (Kd.C_below HR0.out HB.out) | (with_reducible refine Kd.C_alloc ?_ _) | (with_reducible refine Kd.C_drewN ?_ _) | (with_reducible refine Kd.C_drew ?_))); (case side4 => exact HC0.out); rintro e w' ⟨rfl, ⟨nd, rfl⟩⟩))
          go_meet
          case rel => exact ⟨_, (!t502), (by first | rfl | (simp; done) | (simp [*]; done)), H', ⟨by first | omega | exact Nat.le_refl _⟩, ⟨by (with_reducible repeat (first | apply Kd.R_alloc | apply Kd.R_drewN | apply Kd.R_drew)); exact Kd.R_mono HO490.out (fun _ hk => trivial)⟩, ⟨by (with_reducible repeat (first | apply Kd.S_alloc | apply Kd.S_drewN | apply Kd.S_drew)); exact HO493.out⟩, ⟨by (with_reducible repeat (first | refine blk_drewN ?_ _ | refine blk_drew ?_ | refine blk_alloc ?_ _)); exact BK496.out⟩, ⟨by (with_reducible repeat (first | refine blk_drewN ?_ _ | refine blk_drew ?_ | refine blk_alloc ?_ _)); exact BK497.out⟩, ⟨by repeat (first | (with_reducible first | exact HB.out | apply below_alloc | apply pw_below_drewN | apply below_drew1 | refine below_set ?_ GE496.out | refine below_set ?_ GE497.out) | exact HB.out)⟩⟩
        · rw [if_neg c18] at H
          have c18b0 : (t501 == 0) = false := beq_eq_false_iff_ne.mpr c18
          have c18b1 : (t501 != 0) = true := bne_iff_ne.mpr c18
          (first | rw [c18b0] | (simp only [i64_w, i32_w]; rw [c18b0]) | skip)
          have H' := Aside0.mk H
          clear H
          go_wp2
          go_meet
          case rel => exact ⟨_, (true), (by first | rfl | (simp; done) | (simp [*]; done)), H', ⟨by first | omega | exact Nat.le_refl _⟩, ⟨by (with_reducible repeat (first | apply Kd.R_alloc | apply Kd.R_drewN | apply Kd.R_drew)); exact Kd.R_mono HO490.out (fun _ hk => trivial)⟩, ⟨by (with_reducible repeat (first | apply Kd.S_alloc | apply Kd.S_drewN | apply Kd.S_drew)); exact HO493.out⟩, ⟨by (with_reducible repeat (first | refine blk_drewN ?_ _ | refine blk_drew ?_ | refine blk_alloc ?_ _)); exact BK496.out⟩, ⟨by (with_reducible repeat (first | refine blk_drewN ?_ _ | refine blk_drew ?_ | refine blk_alloc ?_ _)); exact BK497.out⟩, ⟨by repeat (first | (with_reducible first | exact HB.out | apply below_alloc | apply pw_below_drewN | apply below_drew1 | refine below_set ?_ GE496.out | refine below_set ?_ GE497.out) | exact HB.out)⟩⟩
      case rest =>
        clear HC7
        try clear c1
        try clear p2
        try clear c3
        try clear c5
        try clear c5b0
        try clear c5b1
        try clear c9
        try clear c10
        try clear c12
        try clear c13
        try clear c18
        try clear c18b0
        try clear c18b1
        try clear hcz13_0
        try clear hcz13_1
        try clear hcz13_2
        try clear hcz16_0
        try clear hcz16_1
        try clear hfz13_0
        try clear hfz13_1
        try clear hfz13_2
        try clear hfz16_0
        try clear hfz16_1
        obtain ⟨kq, x56_6, rfl, HA, HJ6, HO_497001, HO_497002, BK496, BK497, HB⟩ := hcut
        cases kq with
        | zero => exact absurd HA.out (by simp [casementlaw12_ModuleBack.j0])
        | succ kj6 =>
          have H := HA.out
          clear HA
          simp only [casementlaw12_ModuleBack.j0] at H
          by_cases c21 : x56_6 = true
          · subst c21
            have H1 : (some false) = some r := by rw [if_pos rfl] at H; exact H
            clear H
            have H := H1
            clear H1
            exact absurd ((Option.some.inj H).trans HRT.out) (by decide)
          · replace c21 := Bool.eq_false_iff.mpr c21
            subst c21
            have H1 : (casementlaw12_ModuleBack.l0 kj6 l0 (t488.length : Int) 0 t487 t488 t491) = some r := by rw [if_neg (show ¬ (false = true) by decide)] at H; exact H
            clear H
            have H := H1
            clear H1
            have H' := Aside0.mk H
            clear H
            have hnb22 := NB496_497.out
            have hnc22 := NB497_496.out
            have hcz23_0 : wc.cell? ⟨gb496, 0, none⟩ = some (.int .i64 t487) := (blk_cell BK496.out 0).trans rfl
            have hcz23_1 : wc.cell? ⟨gb496, 1, none⟩ = some (.slice Ao14 t488.length co14) := (blk_cell BK496.out 1).trans rfl
            have hcz23_2 : wc.cell? ⟨gb496, 2, none⟩ = some (.slice Ao15 t491.length co15) := (blk_cell BK496.out 2).trans rfl
            have hfz23_0 := blk_frozen BK496.out 0
            have hfz23_1 := blk_frozen BK496.out 1
            have hfz23_2 := blk_frozen BK496.out 2
            go_wp2
            go_loopg [60] kj6 (fun kq v60 w' => ∃ (x60_2 : Int) (x497001_2 : List Int) (u497001 : Value), v60 = .int .i64 x60_2 ∧ Aside0 (casementlaw12_ModuleBack.l0 kq l0 (t488.length : Int) x60_2 t487 x497001_2 t491 = some r) ∧ Aside0 (kq ≤ kj6) ∧ Aside0 (Kd.R (Kd.int .u8) 5 w' w.heap.size (fun _ => True) u497001 x497001_2) ∧ Aside0 (Kd.S k44 44 w' w.heap.size (fun _ => True) (.slice Ao15 t491.length co15) t491) ∧ Aside0 (w'.heap[gb496]? = some (.cells #[.int .i64 t487, u497001, (.slice Ao15 t491.length co15)] 26 (0, 0))) ∧ Aside0 (w'.heap[gb497]? = some (.cells #[.int .i64 t494, .int .i64 t495] 29 (0, 0))) ∧ Aside0 (Below w.heap.size w w'))
            case atStart => exact ⟨(0), (t488), (.slice Ao14 t488.length co14), (by first | rfl | (simp; done) | (simp [*]; done)), H', ⟨Nat.le_refl _⟩, ⟨by (with_reducible repeat (first | apply Kd.R_alloc | apply Kd.R_drewN | apply Kd.R_drew)); exact HO_497001.out⟩, ⟨by (with_reducible repeat (first | apply Kd.S_alloc | apply Kd.S_drewN | apply Kd.S_drew)); exact HO_497002.out⟩, ⟨by (with_reducible repeat (first | refine blk_drewN ?_ _ | refine blk_drew ?_ | refine blk_alloc ?_ _)); exact BK496.out⟩, ⟨by (with_reducible repeat (first | refine blk_drewN ?_ _ | refine blk_drew ?_ | refine blk_alloc ?_ _)); exact BK497.out⟩, ⟨by repeat (first | (with_reducible first | exact HB.out | apply below_alloc | apply pw_below_drewN | apply below_drew1 | refine below_set ?_ GE496.out | refine below_set ?_ GE497.out) | exact HB.out)⟩⟩
            case round =>
              clear H'
              try clear c1
              try clear c2
              try clear p2
              try clear c3
              try clear c5
              try clear c5b0
              try clear c5b1
              try clear c9
              try clear c10
              try clear c12
              try clear c13
              try clear c18
              try clear c18b0
              try clear c18b1
              try clear c21
              try clear c22
              try clear hcz13_0
              try clear hcz13_1
              try clear hcz13_2
              try clear hcz16_0
              try clear hcz16_1
              try clear hcz23_0
              try clear hcz23_1
              try clear hcz23_2
              try clear hfz13_0
              try clear hfz13_1
              try clear hfz13_2
              try clear hfz16_0
              try clear hfz16_1
              try clear hfz23_0
              try clear hfz23_1
              try clear hfz23_2
              try clear p2
              obtain ⟨x60_2, x497001_2, u497001, rfl, HA, HK2, HO_497001, HO_497002, BK496, BK497, HB⟩ := hrel
              cases gk with
              | zero => exact absurd HA.out (by simp [casementlaw12_ModuleBack.l0])
              | succ k2 =>
                have H := HA.out
                clear HA
                simp only [casementlaw12_ModuleBack.l0] at H
                by_cases c24 : x60_2 < (t488.length : Int)
                · rw [if_pos c24] at H
                  have c24b0 : decide (x60_2 < (t488.length : Int)) = true := decide_eq_true c24
                  clear c24
                  by_cases c25 : 0 ≤ x60_2
                  · rw [if_pos c25] at H
                    have c25b0 : decide (0 ≤ x60_2) = true := decide_eq_true c25
                    clear c25
                    by_cases c26 : x60_2 < (x497001_2.length : Int)
                    · rw [if_pos c26] at H
                      have c26b0 : decide (x60_2 < (x497001_2.length : Int)) = true := decide_eq_true c26
                      clear c26
                      obtain ⟨y503, hy503⟩ : ∃ y_ : List Int, y_ = (x497001_2.set (x60_2 : Int).toNat 7) := ⟨_, rfl⟩
                      replace H : (casementlaw12_ModuleBack.l0 k2 l0 (t488.length : Int) (wrap64 (x60_2 + 1)) t487 y503 t491) = some r := by first | (rw [hy503]; with_reducible exact H) | (have H2_ := (Option.bind_some _ _).symm.trans H; rw [hy503]; with_reducible exact H2_) | (have H2_ := (Option.bind_some _ _).symm.trans H; with_reducible exact H2_) | with_reducible exact H | (rw [hy503]; exact H) | exact H
                      have Ny503 := Aside0.mk hy503
                      clear hy503
                      have H' := Aside0.mk H
                      clear H
                      have hnb28 := NB496_497.out
                      have hnc28 := NB497_496.out
                      have hcz29_0 : wr.cell? ⟨gb496, 0, none⟩ = some (.int .i64 t487) := (blk_cell BK496.out 0).trans rfl
                      have hcz29_1 : wr.cell? ⟨gb496, 1, none⟩ = some (u497001) := (blk_cell BK496.out 1).trans rfl
                      have hcz29_2 : wr.cell? ⟨gb496, 2, none⟩ = some (.slice Ao15 t491.length co15) := (blk_cell BK496.out 2).trans rfl
                      have hfz29_0 := blk_frozen BK496.out 0
                      have hfz29_1 := blk_frozen BK496.out 1
                      have hfz29_2 := blk_frozen BK496.out 2
                      have p27 : 0 ≤ (x60_2 : Int) := of_decide_eq_true (by first | (with_reducible assumption) | assumption)
                      have q27 : (x60_2 : Int) < ((x497001_2.length : Int) : Int) := of_decide_eq_true (by first | (with_reducible assumption) | assumption)
                      obtain ⟨go27, co27, eo27, gb27, gl27, cl27, HG27⟩ := Kd.R_form HO_497001.out (by omega)
                      (first | cases eo27 | (injection eo27 with ea_ en_ ec_; (first | subst ea_ | (injection ea_ with ea_; subst ea_)); subst ec_; clear en_))
                      have GB27 := Aside0.mk gb27
                      have GG27 := Aside0.mk HG27
                      clear gb27 gl27 HG27
                      obtain ⟨hx27_0, hf27_0⟩ := Kd.R_celln 0 HO_497001.out (x60_2 : Int) p27 q27
                      replace p27 := eq_true p27
                      replace q27 := eq_true q27
                      have HP30 := Kd.R_putg HO_497001.out (x60_2 : Int) 7
                      go_wp2_with (first | ((with_reducible refine gate_store (t := 5) (p := 66) rfl ?_); refine store_event (t := 5) (p := 66) (v := ?vo_w31) (w1 := (wr.setCell ⟨go27, (x60_2 : Int).toNat, none⟩ (.int .u8 7))) ?hg ?ho ?hn ?hr ?_; (case ho => rfl); (case hg => rfl); (case hn => rfl); (case hr => first | (go_simp; done) | (go_simp; rfl)); intro w31 hw; have hg : wr.grownBy w31 (some go27) := (by rw [hw]; exact HP30.2); have hp_ : Kd.R (Kd.int .u8) 5 w31 w.heap.size (fun _ => True) (.slice (some ⟨go27, 0, none⟩) x497001_2.length co27) y503 := (by rw [hw, Ny503.out]; exact HP30.1); clear HP30; have n0_ := Aside0.mk (hp_); have n1_ := Aside0.mk (Kd.S_over' (v := (.slice (some ⟨go27, 0, none⟩) x497001_2.length co27)) (by (with_reducible repeat (first | apply Kd.S_alloc | apply Kd.S_drewN | apply Kd.S_drew)); exact HO_497002.out) (Kd.R_typed HO_497001.out) (by decide) hg); have n2_ := Aside0.mk (blk_grown (g := gb496) (o := .cells #[.int .i64 t487, .slice (some ⟨go27, 0, none⟩) x497001_2.length co27, .slice Ao15 t491.length co15] 26 (0, 0)) (by (with_reducible repeat (first | refine blk_drewN ?_ _ | refine blk_drew ?_ | refine blk_alloc ?_ _)); exact BK496.out) hg (Kd.R_ne HO_497001.out BK496.out (by decide))); have n3_ := Aside0.mk (blk_grown (g := gb497) (o := .cells #[.int .i64 t494, .int .i64 t495] 29 (0, 0)) (by (with_reducible repeat (first | refine blk_drewN ?_ _ | refine blk_drew ?_ | refine blk_alloc ?_ _)); exact BK497.out) hg (Kd.R_ne HO_497001.out BK497.out (by decide))); have n4_ := Aside0.mk ((by rw [hw]; exact below_set (HB.out) GB27.out : Below w.heap.size w w31)); clear HO_497001; clear HO_497002; clear BK496; clear BK497; clear HB; have HO_497001 := n0_; have HO_497002 := n1_; have BK496 := n2_; have BK497 := n3_; have HB := n4_; clear n0_ n1_ n2_ n3_ n4_; clear hg hw hp_))
                      go_roundg k2
                      case measure => have := HJ6.out; have := HK2.out; omega
                      case rel => exact ⟨(wrap64 (x60_2 + 1)), (y503), (.slice (some ⟨go27, 0, none⟩) x497001_2.length co27), (by first | rfl | (simp; done) | (simp [*]; done)), H', ⟨by have := HJ6.out; have := HK2.out; omega⟩, ⟨by (with_reducible repeat (first | apply Kd.R_alloc | apply Kd.R_drewN | apply Kd.R_drew)); exact HO_497001.out⟩, ⟨by (with_reducible repeat (first | apply Kd.S_alloc | apply Kd.S_drewN | apply Kd.S_drew)); exact HO_497002.out⟩, ⟨by (with_reducible repeat (first | refine blk_drewN ?_ _ | refine blk_drew ?_ | refine blk_alloc ?_ _)); exact BK496.out⟩, ⟨by (with_reducible repeat (first | refine blk_drewN ?_ _ | refine blk_drew ?_ | refine blk_alloc ?_ _)); exact BK497.out⟩, ⟨by repeat (first | (with_reducible first | exact HB.out | apply below_alloc | apply pw_below_drewN | apply below_drew1 | refine below_set ?_ GE496.out | refine below_set ?_ GE497.out) | exact HB.out)⟩⟩
                    · rw [if_neg c26] at H
                      exact absurd H (by simp)
                  · rw [if_neg c25] at H
                    exact absurd H (by simp)
                · rw [if_neg c24] at H
                  have c24b0 : decide (x60_2 < (t488.length : Int)) = false := decide_eq_false c24
                  clear c24
                  have H' := Aside0.mk H
                  clear H
                  have hnb32 := NB496_497.out
                  have hnc32 := NB497_496.out
                  have hcz33_0 : wr.cell? ⟨gb496, 0, none⟩ = some (.int .i64 t487) := (blk_cell BK496.out 0).trans rfl
                  have hcz33_1 : wr.cell? ⟨gb496, 1, none⟩ = some (u497001) := (blk_cell BK496.out 1).trans rfl
                  have hcz33_2 : wr.cell? ⟨gb496, 2, none⟩ = some (.slice Ao15 t491.length co15) := (blk_cell BK496.out 2).trans rfl
                  have hfz33_0 := blk_frozen BK496.out 0
                  have hfz33_1 := blk_frozen BK496.out 1
                  have hfz33_2 := blk_frozen BK496.out 2
                  go_wp2
                  go_loopg [71] k2 (fun kq v71 w' => ∃ (x71_3 : Int) (x497002_3 : List (S44)) (u497002 : Value), v71 = .int .i64 x71_3 ∧ Aside0 (casementlaw12_ModuleBack.l1 kq l0 (t491.length : Int) x71_3 t487 x497001_2 x497002_3 = some r) ∧ Aside0 (kq ≤ k2) ∧ Aside0 (Kd.R (Kd.int .u8) 5 w' w.heap.size (fun _ => True) u497001 x497001_2) ∧ Aside0 (Kd.S k44 44 w' w.heap.size (fun _ => True) u497002 x497002_3) ∧ Aside0 (w'.heap[gb496]? = some (.cells #[.int .i64 t487, u497001, u497002] 26 (0, 0))) ∧ Aside0 (w'.heap[gb497]? = some (.cells #[.int .i64 t494, .int .i64 t495] 29 (0, 0))) ∧ Aside0 (Below w.heap.size w w'))
                  case atStart => exact ⟨(0), (t491), (.slice Ao15 t491.length co15), (by first | rfl | (simp; done) | (simp [*]; done)), H', ⟨Nat.le_refl _⟩, ⟨by (with_reducible repeat (first | apply Kd.R_alloc | apply Kd.R_drewN | apply Kd.R_drew)); exact HO_497001.out⟩, ⟨by (with_reducible repeat (first | apply Kd.S_alloc | apply Kd.S_drewN | apply Kd.S_drew)); exact HO_497002.out⟩, ⟨by (with_reducible repeat (first | refine blk_drewN ?_ _ | refine blk_drew ?_ | refine blk_alloc ?_ _)); exact BK496.out⟩, ⟨by (with_reducible repeat (first | refine blk_drewN ?_ _ | refine blk_drew ?_ | refine blk_alloc ?_ _)); exact BK497.out⟩, ⟨by repeat (first | (with_reducible first | exact HB.out | apply below_alloc | apply pw_below_drewN | apply below_drew1 | refine below_set ?_ GE496.out | refine below_set ?_ GE497.out) | exact HB.out)⟩⟩
                  case round =>
                    clear H'
                    try clear c1
                    try clear c2
                    try clear p2
                    try clear q2
                    try clear hx2
                    try clear hf2
                    try clear c3
                    try clear c5
                    try clear c5b0
                    try clear c5b1
                    try clear p6
                    try clear c9
                    try clear c10
                    try clear c12
                    try clear c13
                    try clear c18
                    try clear c18b0
                    try clear c18b1
                    try clear c21
                    try clear c22
                    try clear c24
                    try clear c24b0
                    try clear c25
                    try clear c25b0
                    try clear c26
                    try clear c26b0
                    try clear p27
                    try clear q27
                    try clear hx27
                    try clear hf27
                    try clear c28
                    try clear c32
                    try clear hcz13_0
                    try clear hcz13_1
                    try clear hcz13_2
                    try clear hcz16_0
                    try clear hcz16_1
                    try clear hcz23_0
                    try clear hcz23_1
                    try clear hcz23_2
                    try clear hcz29_0
                    try clear hcz29_1
                    try clear hcz29_2
                    try clear hcz33_0
                    try clear hcz33_1
                    try clear hcz33_2
                    try clear hfz13_0
                    try clear hfz13_1
                    try clear hfz13_2
                    try clear hfz16_0
                    try clear hfz16_1
                    try clear hfz23_0
                    try clear hfz23_1
                    try clear hfz23_2
                    try clear hfz29_0
                    try clear hfz29_1
                    try clear hfz29_2
                    try clear hfz33_0
                    try clear hfz33_1
                    try clear hfz33_2
                    try clear hx27_0
                    try clear p2
                    try clear p27
                    try clear q27
                    obtain ⟨x71_3, x497002_3, u497002, rfl, HA, HK3, HO_497001, HO_497002, BK496, BK497, HB⟩ := hrel
                    cases gk with
                    | zero => exact absurd HA.out (by simp [casementlaw12_ModuleBack.l1])
                    | succ k3 =>
                      have H := HA.out
                      clear HA
                      simp only [casementlaw12_ModuleBack.l1] at H
                      by_cases c34 : x71_3 < (t491.length : Int)
                      · rw [if_pos c34] at H
                        have c34b0 : decide (x71_3 < (t491.length : Int)) = true := decide_eq_true c34
                        clear c34
                        by_cases c35 : 0 ≤ x71_3
                        · rw [if_pos c35] at H
                          have c35b0 : decide (0 ≤ x71_3) = true := decide_eq_true c35
                          clear c35
                          by_cases c36 : x71_3 < (x497002_3.length : Int)
                          · rw [if_pos c36] at H
                            have c36b0 : decide (x71_3 < (x497002_3.length : Int)) = true := decide_eq_true c36
                            clear c36
                            by_cases c37 : 0 < (((rd_T44 x497002_3 x71_3).f3).length : Int)
                            · rw [if_pos c37] at H
                              have c37b0 : decide (0 < (((rd_T44 x497002_3 x71_3).f3).length : Int)) = true := decide_eq_true c37
                              have c37b1 : decide (0 < ((rd_T44 x497002_3 x71_3).f3).length) = true := decide_eq_true (by omega)
                              clear c37
                              obtain ⟨y505, hy505⟩ : ∃ y_ : List (S41), y_ = (((rd_T44 x497002_3 x71_3).f3).set (0 : Int).toNat (⟨77, (rd_T41 ((rd_T44 x497002_3 x71_3).f3) 0).f1⟩ : S41)) := ⟨_, rfl⟩
                              replace H : (casementlaw12_ModuleBack.l1 k3 l0 (t491.length : Int) (wrap64 (x71_3 + 1)) t487 x497001_2 (x497002_3.set (x71_3 : Int).toNat (⟨(rd_T44 x497002_3 x71_3).f0, (rd_T44 x497002_3 x71_3).f1, (rd_T44 x497002_3 x71_3).f2, y505⟩ : S44))) = some r := by first | (rw [hy505]; with_reducible exact H) | (have H2_ := (Option.bind_some _ _).symm.trans H; rw [hy505]; with_reducible exact H2_) | (have H2_ := (Option.bind_some _ _).symm.trans H; with_reducible exact H2_) | with_reducible exact H | (rw [hy505]; exact H) | exact H
                              have Ny505 := Aside0.mk hy505
                              clear hy505
                              obtain ⟨y507, hy507⟩ : ∃ y_ : List (S44), y_ = (x497002_3.set (x71_3 : Int).toNat (⟨(rd_T44 x497002_3 x71_3).f0, (rd_T44 x497002_3 x71_3).f1, (rd_T44 x497002_3 x71_3).f2, y505⟩ : S44)) := ⟨_, rfl⟩
                              replace H : (casementlaw12_ModuleBack.l1 k3 l0 (t491.length : Int) (wrap64 (x71_3 + 1)) t487 x497001_2 y507) = some r := by first | (rw [hy507]; with_reducible exact H) | (have H2_ := (Option.bind_some _ _).symm.trans H; rw [hy507]; with_reducible exact H2_) | (have H2_ := (Option.bind_some _ _).symm.trans H; with_reducible exact H2_) | with_reducible exact H | (rw [hy507]; exact H) | exact H
                              have Ny507 := Aside0.mk hy507
                              clear hy507
                              have H' := Aside0.mk H
                              clear H
                              have hnb39 := NB496_497.out
                              have hnc39 := NB497_496.out
                              have hcz40_0 : wr.cell? ⟨gb496, 0, none⟩ = some (.int .i64 t487) := (blk_cell BK496.out 0).trans rfl
                              have hcz40_1 : wr.cell? ⟨gb496, 1, none⟩ = some (u497001) := (blk_cell BK496.out 1).trans rfl
                              have hcz40_2 : wr.cell? ⟨gb496, 2, none⟩ = some (u497002) := (blk_cell BK496.out 2).trans rfl
                              have hfz40_0 := blk_frozen BK496.out 0
                              have hfz40_1 := blk_frozen BK496.out 1
                              have hfz40_2 := blk_frozen BK496.out 2
                              obtain ⟨Ao41, co41, eo41⟩ := Kd.S_slice HO_497002.out
                              subst eo41
                              have p504 : 0 ≤ (x71_3 : Int) := of_decide_eq_true (by first | (with_reducible assumption) | assumption)
                              have q504 : x71_3 < (x497002_3.length : Int) := of_decide_eq_true (by first | (with_reducible assumption) | assumption)
                              obtain ⟨ad504, A504_3, c504_3, e504, hx504_0, hx504_1, hx504_2, hx504_3, hl504_3, hi504_3⟩ := at_T44 (Kd.S_reads' HO_497002.out).2.2 x71_3 p504 q504
                              cases e504
                              obtain ⟨ce504, hce504, hMe504, hcc504⟩ := Kd.S_get HO_497002.out z44 x71_3 p504 (by first | exact q504 | exact of_decide_eq_true (by first | (with_reducible assumption) | assumption) | (have e_ := (Kd.S_reads' HO_497002.out).1; omega))
                              obtain ⟨ve504_3, rfl, ge504_3⟩ := k44_openM hMe504
                              have hv504_3 := hcc504 3 _ rfl
                              rw [add_field _ _ 3 (by omega)] at hv504_3
                              replace hv504_3 := Option.some.inj (hv504_3.symm.trans hx504_3)
                              rw [hv504_3] at ge504_3
                              have HL504_3 := Aside0.mk (show Kd.R k41 41 _ _ _ _ ((rd_T44 x497002_3 x71_3).f3) from ge504_3)
                              clear hv504_3 ge504_3
                              have HX504_3 := Aside0.mk hx504_3
                              clear hcc504 hce504
                              have HR504_3 := Aside0.mk hi504_3
                              have HC504_3 := Aside0.mk hl504_3
                              clear hi504_3 hl504_3
                              replace p504 := eq_true p504
                              replace q504 := eq_true q504
                              have p38 : 0 ≤ (0 : Int) := (by omega)
                              have q38 : (0 : Int) < ((((rd_T44 x497002_3 x71_3).f3).length : Int) : Int) := of_decide_eq_true (by first | (with_reducible assumption) | assumption)
                              have qi38 : (0 < ((rd_T44 x497002_3 x71_3).f3).length) = True := eq_true (by omega)
                              obtain ⟨go38, co38, eo38, gb38, gl38, cl38, HG38⟩ := Kd.R_form HL504_3.out (by omega)
                              (first | cases eo38 | (injection eo38 with ea_ en_ ec_; (first | subst ea_ | (injection ea_ with ea_; subst ea_)); subst ec_; clear en_))
                              have GB38 := Aside0.mk gb38
                              have GG38 := Aside0.mk HG38
                              clear gb38 gl38 HG38
                              obtain ⟨ce38, hcl38, hM38, hcc38, hfr38⟩ := Kd.R_elem HL504_3.out z41 (0 : Int) p38 q38
                              obtain rfl := k41_openM hM38
                              have hx38_0 : wr.cell? ⟨go38, (0 : Int).toNat * 2, none⟩ = some (.int .i64 ((rd_T41 ((rd_T44 x497002_3 x71_3).f3) 0).f0)) := hcc38 0 _ rfl
                              have hx38_1 : wr.cell? ⟨go38, (0 : Int).toNat * 2 + 1, none⟩ = some (.int .i64 ((rd_T41 ((rd_T44 x497002_3 x71_3).f3) 0).f1)) := hcc38 1 _ rfl
                              have hf38_0 : wr.frozen? ⟨go38, (0 : Int).toNat * 2, none⟩ = false := hfr38 0
                              have hf38_1 : wr.frozen? ⟨go38, (0 : Int).toNat * 2 + 1, none⟩ = false := hfr38 1
                              clear hcl38 hcc38 hfr38 hM38
                              (try rw [show ((0 : Int)).toNat = 0 from rfl] at hx38_0)
                              (try simp only [Nat.reduceMul, Nat.zero_mul, Nat.zero_add, Nat.reduceAdd] at hx38_0)
                              (try rw [show ((0 : Int)).toNat = 0 from rfl] at hf38_0)
                              (try simp only [Nat.reduceMul, Nat.zero_mul, Nat.zero_add, Nat.reduceAdd] at hf38_0)
                              (try rw [show ((0 : Int)).toNat = 0 from rfl] at hx38_1)
                              (try simp only [Nat.reduceMul, Nat.zero_mul, Nat.zero_add, Nat.reduceAdd] at hx38_1)
                              (try rw [show ((0 : Int)).toNat = 0 from rfl] at hf38_1)
                              (try simp only [Nat.reduceMul, Nat.zero_mul, Nat.zero_add, Nat.reduceAdd] at hf38_1)
                              replace p38 := eq_true p38
                              replace q38 := eq_true q38
                              have hq42 : (x71_3 : Int) < (x497002_3.length : Int) := (by have h_ : (x71_3 : Int) < ((x497002_3.length : Int) : Int) := of_decide_eq_true (by first | (with_reducible assumption) | assumption); first | exact h_ | (have e_ := (Kd.S_reads' HO_497002.out).1; omega) | simpa only [List.length_set, List.length_set] using h_)
                              obtain ⟨oki42, ce42, hcl42, hM42, hcc42, hok42, hbk42⟩ := Kd.S_borrow HO_497002.out z44 (x71_3 : Int) (of_decide_eq_true (by first | (with_reducible assumption) | assumption)) hq42
                              obtain ⟨ve42_3, rfl, ge42_3⟩ := k44_openM hM42
                              have hv42 := hcc42 3 _ rfl
                              rw [add_field _ _ 3 (by omega)] at hv42
                              replace hv42 := Option.some.inj (hv42.symm.trans HX504_3.out)
                              subst hv42
                              clear hcc42 hcl42
                              replace ge42_3 := (show Kd.R k41 41 _ _ _ _ ((rd_T44 x497002_3 x71_3).f3) from ge42_3)
                              obtain ⟨cf42, hcl42, hN42, hcc42, hfr42⟩ := Kd.R_elem ge42_3 z41 (0 : Int) (by omega) (by have h_ : (0 : Int) < ((((rd_T44 x497002_3 x71_3).f3).length : Int) : Int) := of_decide_eq_true (by first | (with_reducible assumption) | assumption); first | exact h_ | (have e_ := (Kd.R_reads' HR504_3.out).1; omega) | simpa using h_)
                              obtain rfl := k41_openM hN42
                              have HP42 := Kd.R_seg ge42_3 (0 : Int) (by omega) (by have h_ : (0 : Int) < ((((rd_T44 x497002_3 x71_3).f3).length : Int) : Int) := of_decide_eq_true (by first | (with_reducible assumption) | assumption); first | exact h_ | (have e_ := (Kd.R_reads' HR504_3.out).1; omega) | simpa using h_) (seg := [.int .i64 77]) (j := 0) hcl42 hcc42 (show 1 ≤ 2 from by decide) (x' := (⟨77, (rd_T41 ((rd_T44 x497002_3 x71_3).f3) 0).f1⟩ : S41)) (k41_mkM _ _ _ (⟨77, (rd_T41 ((rd_T44 x497002_3 x71_3).f3) 0).f1⟩ : S41)) (fun _ hk => hk)
                              clear hcl42 hcc42 hfr42 hN42
                              go_wp2_with (first | ((with_reducible refine gate_store (t := 3) (p := 81) rfl ?_); refine store_event (t := 3) (p := 81) (v := ?vo_w43) (w1 := (wr.setCell ⟨go38, 0, none⟩ (.int .i64 77))) ?hg ?ho ?hn ?hr ?_; (case ho => rfl); (case hg => rfl); (case hn => rfl); (case hr => first | (go_simp; done) | (go_simp; rfl)); intro w43 hw; have hg : wr.grownBy w43 (some go38) := (by rw [hw]; exact HP42.2); have hz_ : Kd.R k41 41 w43 w.heap.size oki42 (.slice (some ⟨go38, 0, none⟩) ((rd_T44 x497002_3 x71_3).f3).length c504_3) y505 := (by rw [hw, Ny505.out]; exact HP42.1); have hp_ : Kd.S k44 44 w43 w.heap.size (fun _ => True) (.slice (some ad504) x497002_3.length co41) y507 := (by rw [Ny507.out]; exact hbk42 hg (fun k_ e_ => by injection e_ with e_; subst e_; exact ge42_3.1 _ rfl) (k44_mkM _ _ _ (⟨(rd_T44 x497002_3 x71_3).f0, (rd_T44 x497002_3 x71_3).f1, (rd_T44 x497002_3 x71_3).f2, y505⟩ : S44) hz_)); have hm_ := Kd.R_mono hz_ hok42; clear HP42 hbk42; have n0_ := Aside0.mk (Kd.R_over' (v := (.slice (some ⟨go38, 0, none⟩) ((rd_T44 x497002_3 x71_3).f3).length c504_3)) (by (with_reducible repeat (first | apply Kd.R_alloc | apply Kd.R_drewN | apply Kd.R_drew)); exact HO_497001.out) (Kd.R_typed HL504_3.out) (by decide) hg); have n1_ := Aside0.mk (hp_); have n2_ := Aside0.mk (blk_grown (g := gb496) (o := .cells #[.int .i64 t487, u497001, .slice (some ad504) x497002_3.length co41] 26 (0, 0)) (by (with_reducible repeat (first | refine blk_drewN ?_ _ | refine blk_drew ?_ | refine blk_alloc ?_ _)); exact BK496.out) hg (Kd.R_ne HL504_3.out BK496.out (by decide))); have n3_ := Aside0.mk (blk_grown (g := gb497) (o := .cells #[.int .i64 t494, .int .i64 t495] 29 (0, 0)) (by (with_reducible repeat (first | refine blk_drewN ?_ _ | refine blk_drew ?_ | refine blk_alloc ?_ _)); exact BK497.out) hg (Kd.R_ne HL504_3.out BK497.out (by decide))); have n4_ := Aside0.mk ((by rw [hw]; exact below_set (HB.out) GB38.out : Below w.heap.size w w43)); have n5_ := Aside0.mk (hm_); have n6_ := Aside0.mk ((Kd.R_reads' hm_).2.1); clear HO_497001; clear HO_497002; clear BK496; clear BK497; clear HB; clear HL504_3; have HO_497001 := n0_; have HO_497002 := n1_; have BK496 := n2_; have BK497 := n3_; have HB := n4_; have HL524 := n5_; have HC506 := n6_; clear n0_ n1_ n2_ n3_ n4_ n5_ n6_; clear hg hw hp_ hz_ hm_ hok42))
                              go_roundg k3
                              case measure => have := HJ6.out; have := HK2.out; have := HK3.out; omega
                              case rel => exact ⟨(wrap64 (x71_3 + 1)), (y507), (.slice (some ad504) x497002_3.length co41), (by first | rfl | (simp; done) | (simp [*]; done)), H', ⟨by have := HJ6.out; have := HK2.out; have := HK3.out; omega⟩, ⟨by (with_reducible repeat (first | apply Kd.R_alloc | apply Kd.R_drewN | apply Kd.R_drew)); exact HO_497001.out⟩, ⟨by (with_reducible repeat (first | apply Kd.S_alloc | apply Kd.S_drewN | apply Kd.S_drew)); exact HO_497002.out⟩, ⟨by (with_reducible repeat (first | refine blk_drewN ?_ _ | refine blk_drew ?_ | refine blk_alloc ?_ _)); exact BK496.out⟩, ⟨by (with_reducible repeat (first | refine blk_drewN ?_ _ | refine blk_drew ?_ | refine blk_alloc ?_ _)); exact BK497.out⟩, ⟨by repeat (first | (with_reducible first | exact HB.out | apply below_alloc | apply pw_below_drewN | apply below_drew1 | refine below_set ?_ GE496.out | refine below_set ?_ GE497.out) | exact HB.out)⟩⟩
                            · rw [if_neg c37] at H
                              exact absurd H (by simp)
                          · rw [if_neg c36] at H
                            exact absurd H (by simp)
                        · rw [if_neg c35] at H
                          exact absurd H (by simp)
                      · rw [if_neg c34] at H
                        have c34b0 : decide (x71_3 < (t491.length : Int)) = false := decide_eq_false c34
                        clear c34
                        replace H := Option.bind_eq_some_iff.mp H
                        obtain ⟨⟨t508, t509, t512, t515, t516⟩, A440, H⟩ := H
                        replace H : ((module_Encode.f k3 t508 t509 t512).bind fun bt519 => (if t515 = 0 then (if bt519.2 = 0 then ((casementref01_SameBytes.f k3 bt519.1 l0).bind fun t523 => (some t523)) else (some false)) else (some false))) = some r := H
                        have A44 := Aside0.mk A440
                        clear A440
                        replace H := Option.bind_eq_some_iff.mp H
                        obtain ⟨⟨t519, t522⟩, A450, H⟩ := H
                        replace H : (if t515 = 0 then (if t522 = 0 then ((casementref01_SameBytes.f k3 t519 l0).bind fun t523 => (some t523)) else (some false)) else (some false)) = some r := H
                        have A45 := Aside0.mk A450
                        clear A450
                        by_cases c46 : t515 = 0
                        · rw [if_pos c46] at H
                          have c46b0 : (t515 == 0) = true := beq_iff_eq.mpr c46
                          have c46b1 : (t515 != 0) = false := bne_eq_false_iff_eq.mpr c46
                          clear c46
                          by_cases c47 : t522 = 0
                          · rw [if_pos c47] at H
                            have c47b0 : (t522 == 0) = true := beq_iff_eq.mpr c47
                            have c47b1 : (t522 != 0) = false := bne_eq_false_iff_eq.mpr c47
                            clear c47
                            replace H := Option.bind_eq_some_iff.mp H
                            obtain ⟨t523, A480, H⟩ := H
                            replace H : (some t523) = some r := H
                            have A48 := Aside0.mk A480
                            clear A480
                            obtain rfl := Option.some.inj H
                            go_wp2_with (first | ((with_reducible refine gate_callee (f := 10) rfl ?_); refine goesL_ (some 85) rfl rfl Try.func10 (by kernel_rfl) rfl #[.slice A0 l0.length c0] rfl (by (try simp only [List.map_toArray, List.map_cons, List.map_nil]); first | done | rfl | (simp only [List.length_drop, List.length_take]; rfl)) ?_; (with_reducible refine (module_Decode.calls k3 _ _ l0 t508 t509 t512 t515 t516 _ ?side1 ?side2 A44.out).mono ?_); (case side1 => repeat (first | exact (Kd.C_below HR0.out HB.out) | (with_reducible refine Kd.C_alloc ?_ _) | (with_reducible refine Kd.C_drewN ?_ _) | (with_reducible refine Kd.C_drew ?_))); (case side2 => exact HC0.out); rintro e w49 ⟨v510, v513, rfl, ho0, ho1, hb⟩; refine ⟨_, rfl, ?_⟩; have n0_ := Aside0.mk (Kd.R_elder' (by (with_reducible repeat (first | apply Kd.R_alloc | apply Kd.R_drewN | apply Kd.R_drew)); exact HO_497001.out) (Kd.R_base ho0) hb); have n1_ := Aside0.mk (Kd.S_elder' (by (with_reducible repeat (first | apply Kd.S_alloc | apply Kd.S_drewN | apply Kd.S_drew)); exact HO_497002.out) (Kd.S_base ho1) hb); have n2_ := Aside0.mk (Kd.R_lower (Kd.R_new' ho0 (Kd.R_lt (by (with_reducible repeat (first | apply Kd.R_alloc | apply Kd.R_drewN | apply Kd.R_drew)); exact HO_497001.out))) (below_size (by repeat (first | (with_reducible first | exact HB.out | apply below_alloc | apply pw_below_drewN | apply below_drew1 | refine below_set ?_ GE496.out | refine below_set ?_ GE497.out) | exact HB.out)))); have n3_ := Aside0.mk (Kd.S_lower (Kd.S_new' ho1 (Kd.S_lt (by (with_reducible repeat (first | apply Kd.S_alloc | apply Kd.S_drewN | apply Kd.S_drew)); exact HO_497002.out))) (below_size (by repeat (first | (with_reducible first | exact HB.out | apply below_alloc | apply pw_below_drewN | apply below_drew1 | refine below_set ?_ GE496.out | refine below_set ?_ GE497.out) | exact HB.out)))); have n4_ := Aside0.mk (blk_below (g := gb496) (o := .cells #[.int .i64 t487, u497001, u497002] 26 (0, 0)) (by (with_reducible repeat (first | refine blk_drewN ?_ _ | refine blk_drew ?_ | refine blk_alloc ?_ _)); exact BK496.out) hb); have n5_ := Aside0.mk (blk_below (g := gb497) (o := .cells #[.int .i64 t494, .int .i64 t495] 29 (0, 0)) (by (with_reducible repeat (first | refine blk_drewN ?_ _ | refine blk_drew ?_ | refine blk_alloc ?_ _)); exact BK497.out) hb); have n6_ := Aside0.mk (below_step (by repeat (first | (with_reducible first | exact HB.out | apply below_alloc | apply pw_below_drewN | apply below_drew1 | refine below_set ?_ GE496.out | refine below_set ?_ GE497.out) | exact HB.out)) hb); clear HO_497001; clear HO_497002; clear BK496; clear BK497; clear HB; have HO_497001 := n0_; have HO_497002 := n1_; have HO511 := n2_; have HO514 := n3_; have BK496 := n4_; have BK497 := n5_; have HB := n6_; clear n0_ n1_ n2_ n3_ n4_ n5_ n6_; (try clear hb); (try clear hb2); (try clear hk); (try clear hi); (try clear ho0); (try clear ho1)) | ((with_reducible refine gate_dst (N := 9) rfl ?_); (try (refine gate_guard (by rfl) ?_; dsimp only)); refine box_event ?hg (N := 9) ?hd (cs := #[.int .i64 0, .slice none 0 0, .slice none 0 0]) (t := 26) ?hr ?_; (case hd => rfl); (case hg => rfl); (case hr => first | (go_simp; done) | (go_simp; rfl)); intro gb517 hg w50 hbox hb; have n0_ := Aside0.mk (Kd.R_below (by (with_reducible repeat (first | apply Kd.R_alloc | apply Kd.R_drewN | apply Kd.R_drew)); exact HO_497001.out) hb); have n1_ := Aside0.mk (Kd.S_below (by (with_reducible repeat (first | apply Kd.S_alloc | apply Kd.S_drewN | apply Kd.S_drew)); exact HO_497002.out) hb); have n2_ := Aside0.mk (Kd.R_below (by (with_reducible repeat (first | apply Kd.R_alloc | apply Kd.R_drewN | apply Kd.R_drew)); exact HO511.out) hb); have n3_ := Aside0.mk (Kd.S_below (by (with_reducible repeat (first | apply Kd.S_alloc | apply Kd.S_drewN | apply Kd.S_drew)); exact HO514.out) hb); have n4_ := Aside0.mk (blk_below (g := gb496) (o := .cells #[.int .i64 t487, u497001, u497002] 26 (0, 0)) (by (with_reducible repeat (first | refine blk_drewN ?_ _ | refine blk_drew ?_ | refine blk_alloc ?_ _)); exact BK496.out) hb); have n5_ := Aside0.mk (blk_below (g := gb497) (o := .cells #[.int .i64 t494, .int .i64 t495] 29 (0, 0)) (by (with_reducible repeat (first | refine blk_drewN ?_ _ | refine blk_drew ?_ | refine blk_alloc ?_ _)); exact BK497.out) hb); have n6_ := Aside0.mk (below_step (by repeat (first | (with_reducible first | exact HB.out | apply below_alloc | apply pw_below_drewN | apply below_drew1 | refine below_set ?_ GE496.out | refine below_set ?_ GE497.out) | exact HB.out)) hb); have n7_ := Aside0.mk (hbox); have n8_ := Aside0.mk ((by rw [hg]; exact (below_size (by repeat (first | (with_reducible first | exact HB.out | apply below_alloc | apply pw_below_drewN | apply below_drew1 | refine below_set ?_ GE496.out | refine below_set ?_ GE497.out) | exact HB.out))) : w.heap.size ≤ gb517)); have n9_ := Aside0.mk ((by rw [hg]; exact (below_size (by repeat (first | (with_reducible first | exact HB.out | apply below_alloc | apply pw_below_drewN | apply below_drew1 | refine below_set ?_ GE496.out | refine below_set ?_ GE497.out) | exact HB.out))) : w.heap.size ≤ gb517)); have n10_ := Aside0.mk ((by rw [hg]; exact Nat.ne_of_lt (blk_lt (g := gb496) (o := .cells #[.int .i64 t487, u497001, u497002] 26 (0, 0)) (by (with_reducible repeat (first | refine blk_drewN ?_ _ | refine blk_drew ?_ | refine blk_alloc ?_ _)); exact BK496.out)) : gb496 ≠ gb517)); have n11_ := Aside0.mk ((by rw [hg]; exact Nat.ne_of_gt (blk_lt (g := gb496) (o := .cells #[.int .i64 t487, u497001, u497002] 26 (0, 0)) (by (with_reducible repeat (first | refine blk_drewN ?_ _ | refine blk_drew ?_ | refine blk_alloc ?_ _)); exact BK496.out)) : gb517 ≠ gb496)); have n12_ := Aside0.mk ((by rw [hg]; exact Nat.ne_of_lt (blk_lt (g := gb497) (o := .cells #[.int .i64 t494, .int .i64 t495] 29 (0, 0)) (by (with_reducible repeat (first | refine blk_drewN ?_ _ | refine blk_drew ?_ | refine blk_alloc ?_ _)); exact BK497.out)) : gb497 ≠ gb517)); have n13_ := Aside0.mk ((by rw [hg]; exact Nat.ne_of_gt (blk_lt (g := gb497) (o := .cells #[.int .i64 t494, .int .i64 t495] 29 (0, 0)) (by (with_reducible repeat (first | refine blk_drewN ?_ _ | refine blk_drew ?_ | refine blk_alloc ?_ _)); exact BK497.out)) : gb517 ≠ gb497)); clear HO_497001; clear HO_497002; clear HO511; clear HO514; clear BK496; clear BK497; clear HB; have HO_497001 := n0_; have HO_497002 := n1_; have HO511 := n2_; have HO514 := n3_; have BK496 := n4_; have BK497 := n5_; have HB := n6_; have BK517 := n7_; have GW517 := n8_; have GE517 := n9_; have NB496_517 := n10_; have NB517_496 := n11_; have NB497_517 := n12_; have NB517_497 := n13_; clear n0_ n1_ n2_ n3_ n4_ n5_ n6_ n7_ n8_ n9_ n10_ n11_ n12_ n13_; clear hb hbox hg) | ((with_reducible refine gate_dst (N := 10) rfl ?_); (try (refine gate_guard (by rfl) ?_; dsimp only)); refine box_event ?hg (N := 10) ?hd (cs := #[.int .i64 0, .int .i64 0]) (t := 29) ?hr ?_; (case hd => rfl); (case hg => rfl); (case hr => first | (go_simp; done) | (go_simp; rfl)); intro gb518 hg w51 hbox hb; have n0_ := Aside0.mk (Kd.R_below (by (with_reducible repeat (first | apply Kd.R_alloc | apply Kd.R_drewN | apply Kd.R_drew)); exact HO_497001.out) hb); have n1_ := Aside0.mk (Kd.S_below (by (with_reducible repeat (first | apply Kd.S_alloc | apply Kd.S_drewN | apply Kd.S_drew)); exact HO_497002.out) hb); have n2_ := Aside0.mk (Kd.R_below (by (with_reducible repeat (first | apply Kd.R_alloc | apply Kd.R_drewN | apply Kd.R_drew)); exact HO511.out) hb); have n3_ := Aside0.mk (Kd.S_below (by (with_reducible repeat (first | apply Kd.S_alloc | apply Kd.S_drewN | apply Kd.S_drew)); exact HO514.out) hb); have n4_ := Aside0.mk (blk_below (g := gb496) (o := .cells #[.int .i64 t487, u497001, u497002] 26 (0, 0)) (by (with_reducible repeat (first | refine blk_drewN ?_ _ | refine blk_drew ?_ | refine blk_alloc ?_ _)); exact BK496.out) hb); have n5_ := Aside0.mk (blk_below (g := gb497) (o := .cells #[.int .i64 t494, .int .i64 t495] 29 (0, 0)) (by (with_reducible repeat (first | refine blk_drewN ?_ _ | refine blk_drew ?_ | refine blk_alloc ?_ _)); exact BK497.out) hb); have n6_ := Aside0.mk (blk_below (g := gb517) (o := .cells #[.int .i64 0, .slice none 0 0, .slice none 0 0] 26 (0, 0)) (by (with_reducible repeat (first | refine blk_drewN ?_ _ | refine blk_drew ?_ | refine blk_alloc ?_ _)); exact BK517.out) hb); have n7_ := Aside0.mk (below_step (by repeat (first | (with_reducible first | exact HB.out | apply below_alloc | apply pw_below_drewN | apply below_drew1 | refine below_set ?_ GE496.out | refine below_set ?_ GE497.out | refine below_set ?_ GE517.out) | exact HB.out)) hb); have n8_ := Aside0.mk (hbox); have n9_ := Aside0.mk ((by rw [hg]; exact (below_size (by repeat (first | (with_reducible first | exact HB.out | apply below_alloc | apply pw_below_drewN | apply below_drew1 | refine below_set ?_ GE496.out | refine below_set ?_ GE497.out | refine below_set ?_ GE517.out) | exact HB.out))) : w.heap.size ≤ gb518)); have n10_ := Aside0.mk ((by rw [hg]; exact (below_size (by repeat (first | (with_reducible first | exact HB.out | apply below_alloc | apply pw_below_drewN | apply below_drew1 | refine below_set ?_ GE496.out | refine below_set ?_ GE497.out | refine below_set ?_ GE517.out) | exact HB.out))) : w.heap.size ≤ gb518)); have n11_ := Aside0.mk ((by rw [hg]; exact Nat.ne_of_lt (blk_lt (g := gb496) (o := .cells #[.int .i64 t487, u497001, u497002] 26 (0, 0)) (by (with_reducible repeat (first | refine blk_drewN ?_ _ | refine blk_drew ?_ | refine blk_alloc ?_ _)); exact BK496.out)) : gb496 ≠ gb518)); have n12_ := Aside0.mk ((by rw [hg]; exact Nat.ne_of_gt (blk_lt (g := gb496) (o := .cells #[.int .i64 t487, u497001, u497002] 26 (0, 0)) (by (with_reducible repeat (first | refine blk_drewN ?_ _ | refine blk_drew ?_ | refine blk_alloc ?_ _)); exact BK496.out)) : gb518 ≠ gb496)); have n13_ := Aside0.mk ((by rw [hg]; exact Nat.ne_of_lt (blk_lt (g := gb497) (o := .cells #[.int .i64 t494, .int .i64 t495] 29 (0, 0)) (by (with_reducible repeat (first | refine blk_drewN ?_ _ | refine blk_drew ?_ | refine blk_alloc ?_ _)); exact BK497.out)) : gb497 ≠ gb518)); have n14_ := Aside0.mk ((by rw [hg]; exact Nat.ne_of_gt (blk_lt (g := gb497) (o := .cells #[.int .i64 t494, .int .i64 t495] 29 (0, 0)) (by (with_reducible repeat (first | refine blk_drewN ?_ _ | refine blk_drew ?_ | refine blk_alloc ?_ _)); exact BK497.out)) : gb518 ≠ gb497)); have n15_ := Aside0.mk ((by rw [hg]; exact Nat.ne_of_lt (blk_lt (g := gb517) (o := .cells #[.int .i64 0, .slice none 0 0, .slice none 0 0] 26 (0, 0)) (by (with_reducible repeat (first | refine blk_drewN ?_ _ | refine blk_drew ?_ | refine blk_alloc ?_ _)); exact BK517.out)) : gb517 ≠ gb518)); have n16_ := Aside0.mk ((by rw [hg]; exact Nat.ne_of_gt (blk_lt (g := gb517) (o := .cells #[.int .i64 0, .slice none 0 0, .slice none 0 0] 26 (0, 0)) (by (with_reducible repeat (first | refine blk_drewN ?_ _ | refine blk_drew ?_ | refine blk_alloc ?_ _)); exact BK517.out)) : gb518 ≠ gb517)); clear HO_497001; clear HO_497002; clear HO511; clear HO514; clear BK496; clear BK497; clear BK517; clear HB; have HO_497001 := n0_; have HO_497002 := n1_; have HO511 := n2_; have HO514 := n3_; have BK496 := n4_; have BK497 := n5_; have BK517 := n6_; have HB := n7_; have BK518 := n8_; have GW518 := n9_; have GE518 := n10_; have NB496_518 := n11_; have NB518_496 := n12_; have NB497_518 := n13_; have NB518_497 := n14_; have NB517_518 := n15_; have NB518_517 := n16_; clear n0_ n1_ n2_ n3_ n4_ n5_ n6_ n7_ n8_ n9_ n10_ n11_ n12_ n13_ n14_ n15_ n16_; clear hb hbox hg; have hnb52 := NB517_496.out; have hnc52 := NB496_517.out; have hnb53 := NB517_497.out; have hnc53 := NB497_517.out; have hnb54 := NB517_518.out; have hnc54 := NB518_517.out; have hcz55_0 : w51.cell? ⟨gb517, 0, none⟩ = some (.int .i64 0) := (blk_cell BK517.out 0).trans rfl; have hcz55_1 : w51.cell? ⟨gb517, 1, none⟩ = some (.slice none 0 0) := (blk_cell BK517.out 1).trans rfl; have hcz55_2 : w51.cell? ⟨gb517, 2, none⟩ = some (.slice none 0 0) := (blk_cell BK517.out 2).trans rfl; have hfz55_0 := blk_frozen BK517.out 0; have hfz55_1 := blk_frozen BK517.out 1; have hfz55_2 := blk_frozen BK517.out 2; obtain ⟨Ao56, co56, eo56⟩ := Kd.R_slice HO511.out; subst eo56; obtain ⟨Ao57, co57, eo57⟩ := Kd.S_slice HO514.out; subst eo57; have hnb58 := NB518_496.out; have hnc58 := NB496_518.out; have hnb59 := NB518_497.out; have hnc59 := NB497_518.out; have hcz60_0 : w51.cell? ⟨gb518, 0, none⟩ = some (.int .i64 0) := (blk_cell BK518.out 0).trans rfl; have hcz60_1 : w51.cell? ⟨gb518, 1, none⟩ = some (.int .i64 0) := (blk_cell BK518.out 1).trans rfl; have hfz60_0 := blk_frozen BK518.out 0; have hfz60_1 := blk_frozen BK518.out 1) | ((with_reducible refine gate_callee (f := 13) rfl ?_); refine goesL_ (some 90) rfl rfl Try.func13 (by kernel_rfl) rfl #[.agg #[.int .i64 t508, .slice Ao56 t509.length co56, .slice Ao57 t512.length co57]] rfl (by (try simp only [List.map_toArray, List.map_cons, List.map_nil]); first | done | rfl | (simp only [List.length_drop, List.length_take]; rfl)) ?_; (with_reducible refine (module_Encode.calls k3 t508 _ _ t509 _ _ t512 t519 t522 _ ?side1 ?side2 ?side3 ?side4 A45.out).mono ?_); (case side1 => refine (Kd.R_reads' (e := 5) (base := w.heap.size) (ok := fun k_ => (True ∧ some k_ ≠ (u497001 : Value).ownBlock)) (n := t509.length) (c := co56) ?_).2.2; exact (by (with_reducible repeat (first | apply Kd.R_alloc | apply Kd.R_drewN | apply Kd.R_drew)); exact (Kd.R_mono (Kd.R_mono (Kd.R_far (p := ⟨gb518, 1, none⟩) (Kd.R_far (p := ⟨gb518, 0, none⟩) (Kd.R_far (p := ⟨gb517, 2, none⟩) (Kd.R_far (p := ⟨gb517, 1, none⟩) (Kd.R_far (p := ⟨gb517, 0, none⟩) (Kd.R_types (Kd.R_types HO511.out BK517.out (by decide)) BK518.out (by decide)) (fun _ hk => hk.1.2) (.int .i64 t508)) (fun _ hk => hk.1.2) (.slice Ao56 t509.length co56)) (fun _ hk => hk.1.2) (.slice Ao57 t512.length co57)) (fun _ hk => hk.2) (.int .i64 t515)) (fun _ hk => hk.2) (.int .i64 t516)) (fun _ h_ => h_.1)) (fun _ h_ => h_.1)))); (case side2 => exact (Kd.R_reads' HO511.out).2.1); (case side3 => refine (Kd.S_reads' (e := 44) (base := w.heap.size) (ok := fun k_ => (True ∧ some k_ ≠ (u497002 : Value).ownBlock)) (n := t512.length) (c := co57) ?_).2.2; exact (by (with_reducible repeat (first | apply Kd.S_alloc | apply Kd.S_drewN | apply Kd.S_drew)); exact (Kd.S_mono (Kd.S_mono (Kd.S_far (p := ⟨gb518, 1, none⟩) (Kd.S_far (p := ⟨gb518, 0, none⟩) (Kd.S_far (p := ⟨gb517, 2, none⟩) (Kd.S_far (p := ⟨gb517, 1, none⟩) (Kd.S_far (p := ⟨gb517, 0, none⟩) (Kd.S_types (Kd.S_types HO514.out BK517.out (by decide)) BK518.out (by decide)) (fun _ hk => hk.1.2) (.int .i64 t508)) (fun _ hk => hk.1.2) (.slice Ao56 t509.length co56)) (fun _ hk => hk.1.2) (.slice Ao57 t512.length co57)) (fun _ hk => hk.2) (.int .i64 t515)) (fun _ hk => hk.2) (.int .i64 t516)) (fun _ h_ => h_.1)) (fun _ h_ => h_.1)))); (case side4 => exact (Kd.S_reads' HO514.out).2.1); rintro e w61 ⟨v520, rfl, ho0, hb⟩; refine ⟨_, rfl, ?_⟩; have n0_ := Aside0.mk (Kd.R_elder' (by (with_reducible repeat (first | apply Kd.R_alloc | apply Kd.R_drewN | apply Kd.R_drew)); exact (Kd.R_mono (Kd.R_mono (Kd.R_far (p := ⟨gb518, 1, none⟩) (Kd.R_far (p := ⟨gb518, 0, none⟩) (Kd.R_far (p := ⟨gb517, 2, none⟩) (Kd.R_far (p := ⟨gb517, 1, none⟩) (Kd.R_far (p := ⟨gb517, 0, none⟩) (Kd.R_types (Kd.R_types HO_497001.out BK517.out (by decide)) BK518.out (by decide)) (fun _ hk => hk.1.2) (.int .i64 t508)) (fun _ hk => hk.1.2) (.slice Ao56 t509.length co56)) (fun _ hk => hk.1.2) (.slice Ao57 t512.length co57)) (fun _ hk => hk.2) (.int .i64 t515)) (fun _ hk => hk.2) (.int .i64 t516)) (fun _ h_ => h_.1)) (fun _ h_ => h_.1))) (Kd.R_base ho0) hb); have n1_ := Aside0.mk (Kd.S_below (by (with_reducible repeat (first | apply Kd.S_alloc | apply Kd.S_drewN | apply Kd.S_drew)); exact (Kd.S_mono (Kd.S_mono (Kd.S_far (p := ⟨gb518, 1, none⟩) (Kd.S_far (p := ⟨gb518, 0, none⟩) (Kd.S_far (p := ⟨gb517, 2, none⟩) (Kd.S_far (p := ⟨gb517, 1, none⟩) (Kd.S_far (p := ⟨gb517, 0, none⟩) (Kd.S_types (Kd.S_types HO_497002.out BK517.out (by decide)) BK518.out (by decide)) (fun _ hk => hk.1.2) (.int .i64 t508)) (fun _ hk => hk.1.2) (.slice Ao56 t509.length co56)) (fun _ hk => hk.1.2) (.slice Ao57 t512.length co57)) (fun _ hk => hk.2) (.int .i64 t515)) (fun _ hk => hk.2) (.int .i64 t516)) (fun _ h_ => h_.1)) (fun _ h_ => h_.1))) hb); have n2_ := Aside0.mk (Kd.R_elder' (by (with_reducible repeat (first | apply Kd.R_alloc | apply Kd.R_drewN | apply Kd.R_drew)); exact (Kd.R_mono (Kd.R_mono (Kd.R_far (p := ⟨gb518, 1, none⟩) (Kd.R_far (p := ⟨gb518, 0, none⟩) (Kd.R_far (p := ⟨gb517, 2, none⟩) (Kd.R_far (p := ⟨gb517, 1, none⟩) (Kd.R_far (p := ⟨gb517, 0, none⟩) (Kd.R_types (Kd.R_types HO511.out BK517.out (by decide)) BK518.out (by decide)) (fun _ hk => hk.1.2) (.int .i64 t508)) (fun _ hk => hk.1.2) (.slice Ao56 t509.length co56)) (fun _ hk => hk.1.2) (.slice Ao57 t512.length co57)) (fun _ hk => hk.2) (.int .i64 t515)) (fun _ hk => hk.2) (.int .i64 t516)) (fun _ h_ => h_.1)) (fun _ h_ => h_.1))) (Kd.R_base ho0) hb); have n3_ := Aside0.mk (Kd.S_below (by (with_reducible repeat (first | apply Kd.S_alloc | apply Kd.S_drewN | apply Kd.S_drew)); exact (Kd.S_mono (Kd.S_mono (Kd.S_far (p := ⟨gb518, 1, none⟩) (Kd.S_far (p := ⟨gb518, 0, none⟩) (Kd.S_far (p := ⟨gb517, 2, none⟩) (Kd.S_far (p := ⟨gb517, 1, none⟩) (Kd.S_far (p := ⟨gb517, 0, none⟩) (Kd.S_types (Kd.S_types HO514.out BK517.out (by decide)) BK518.out (by decide)) (fun _ hk => hk.1.2) (.int .i64 t508)) (fun _ hk => hk.1.2) (.slice Ao56 t509.length co56)) (fun _ hk => hk.1.2) (.slice Ao57 t512.length co57)) (fun _ hk => hk.2) (.int .i64 t515)) (fun _ hk => hk.2) (.int .i64 t516)) (fun _ h_ => h_.1)) (fun _ h_ => h_.1))) hb); have n4_ := Aside0.mk (Kd.R_lower (Kd.R_new' (Kd.R_new' ho0 (Kd.R_lt (by (with_reducible repeat (first | apply Kd.R_alloc | apply Kd.R_drewN | apply Kd.R_drew)); exact (Kd.R_mono (Kd.R_mono (Kd.R_far (p := ⟨gb518, 1, none⟩) (Kd.R_far (p := ⟨gb518, 0, none⟩) (Kd.R_far (p := ⟨gb517, 2, none⟩) (Kd.R_far (p := ⟨gb517, 1, none⟩) (Kd.R_far (p := ⟨gb517, 0, none⟩) (Kd.R_types (Kd.R_types HO_497001.out BK517.out (by decide)) BK518.out (by decide)) (fun _ hk => hk.1.2) (.int .i64 t508)) (fun _ hk => hk.1.2) (.slice Ao56 t509.length co56)) (fun _ hk => hk.1.2) (.slice Ao57 t512.length co57)) (fun _ hk => hk.2) (.int .i64 t515)) (fun _ hk => hk.2) (.int .i64 t516)) (fun _ h_ => h_.1)) (fun _ h_ => h_.1))))) (Kd.R_lt (by (with_reducible repeat (first | apply Kd.R_alloc | apply Kd.R_drewN | apply Kd.R_drew)); exact (Kd.R_mono (Kd.R_mono (Kd.R_far (p := ⟨gb518, 1, none⟩) (Kd.R_far (p := ⟨gb518, 0, none⟩) (Kd.R_far (p := ⟨gb517, 2, none⟩) (Kd.R_far (p := ⟨gb517, 1, none⟩) (Kd.R_far (p := ⟨gb517, 0, none⟩) (Kd.R_types (Kd.R_types HO511.out BK517.out (by decide)) BK518.out (by decide)) (fun _ hk => hk.1.2) (.int .i64 t508)) (fun _ hk => hk.1.2) (.slice Ao56 t509.length co56)) (fun _ hk => hk.1.2) (.slice Ao57 t512.length co57)) (fun _ hk => hk.2) (.int .i64 t515)) (fun _ hk => hk.2) (.int .i64 t516)) (fun _ h_ => h_.1)) (fun _ h_ => h_.1))))) (below_size (by repeat (first | (with_reducible first | exact HB.out | apply below_alloc | apply pw_below_drewN | apply below_drew1 | refine below_set ?_ GE496.out | refine below_set ?_ GE497.out | refine below_set ?_ GE517.out | refine below_set ?_ GE518.out) | exact HB.out)))); have n5_ := Aside0.mk (blk_below (g := gb496) (o := .cells #[.int .i64 t487, u497001, u497002] 26 (0, 0)) (by (with_reducible repeat (first | refine blk_drewN ?_ _ | refine blk_drew ?_ | refine blk_alloc ?_ _)); refine blk_far ?_ NB496_518.out _; (with_reducible repeat (first | refine blk_drewN ?_ _ | refine blk_drew ?_ | refine blk_alloc ?_ _)); refine blk_far ?_ NB496_518.out _; (with_reducible repeat (first | refine blk_drewN ?_ _ | refine blk_drew ?_ | refine blk_alloc ?_ _)); refine blk_far ?_ NB496_517.out _; (with_reducible repeat (first | refine blk_drewN ?_ _ | refine blk_drew ?_ | refine blk_alloc ?_ _)); refine blk_far ?_ NB496_517.out _; (with_reducible repeat (first | refine blk_drewN ?_ _ | refine blk_drew ?_ | refine blk_alloc ?_ _)); refine blk_far ?_ NB496_517.out _; (with_reducible repeat (first | refine blk_drewN ?_ _ | refine blk_drew ?_ | refine blk_alloc ?_ _)); exact BK496.out) hb); have n6_ := Aside0.mk (blk_below (g := gb497) (o := .cells #[.int .i64 t494, .int .i64 t495] 29 (0, 0)) (by (with_reducible repeat (first | refine blk_drewN ?_ _ | refine blk_drew ?_ | refine blk_alloc ?_ _)); refine blk_far ?_ NB497_518.out _; (with_reducible repeat (first | refine blk_drewN ?_ _ | refine blk_drew ?_ | refine blk_alloc ?_ _)); refine blk_far ?_ NB497_518.out _; (with_reducible repeat (first | refine blk_drewN ?_ _ | refine blk_drew ?_ | refine blk_alloc ?_ _)); refine blk_far ?_ NB497_517.out _; (with_reducible repeat (first | refine blk_drewN ?_ _ | refine blk_drew ?_ | refine blk_alloc ?_ _)); refine blk_far ?_ NB497_517.out _; (with_reducible repeat (first | refine blk_drewN ?_ _ | refine blk_drew ?_ | refine blk_alloc ?_ _)); refine blk_far ?_ NB497_517.out _; (with_reducible repeat (first | refine blk_drewN ?_ _ | refine blk_drew ?_ | refine blk_alloc ?_ _)); exact BK497.out) hb); have n7_ := Aside0.mk (blk_below (g := gb517) (o := .cells #[.int .i64 t508, .slice Ao56 t509.length co56, .slice Ao57 t512.length co57] 26 (0, 0)) (by (with_reducible repeat (first | refine blk_drewN ?_ _ | refine blk_drew ?_ | refine blk_alloc ?_ _)); refine blk_far ?_ NB517_518.out _; (with_reducible repeat (first | refine blk_drewN ?_ _ | refine blk_drew ?_ | refine blk_alloc ?_ _)); refine blk_far ?_ NB517_518.out _; (with_reducible repeat (first | refine blk_drewN ?_ _ | refine blk_drew ?_ | refine blk_alloc ?_ _)); refine blk_put (cs := #[.int .i64 t508, .slice Ao56 t509.length co56, .slice none 0 0]) ?_ 2 _ rfl; (with_reducible repeat (first | refine blk_drewN ?_ _ | refine blk_drew ?_ | refine blk_alloc ?_ _)); refine blk_put (cs := #[.int .i64 t508, .slice none 0 0, .slice none 0 0]) ?_ 1 _ rfl; (with_reducible repeat (first | refine blk_drewN ?_ _ | refine blk_drew ?_ | refine blk_alloc ?_ _)); refine blk_put (cs := #[.int .i64 0, .slice none 0 0, .slice none 0 0]) ?_ 0 _ rfl; (with_reducible repeat (first | refine blk_drewN ?_ _ | refine blk_drew ?_ | refine blk_alloc ?_ _)); exact BK517.out) hb); have n8_ := Aside0.mk (blk_below (g := gb518) (o := .cells #[.int .i64 t515, .int .i64 t516] 29 (0, 0)) (by (with_reducible repeat (first | refine blk_drewN ?_ _ | refine blk_drew ?_ | refine blk_alloc ?_ _)); refine blk_put (cs := #[.int .i64 t515, .int .i64 0]) ?_ 1 _ rfl; (with_reducible repeat (first | refine blk_drewN ?_ _ | refine blk_drew ?_ | refine blk_alloc ?_ _)); refine blk_put (cs := #[.int .i64 0, .int .i64 0]) ?_ 0 _ rfl; (with_reducible repeat (first | refine blk_drewN ?_ _ | refine blk_drew ?_ | refine blk_alloc ?_ _)); refine blk_far ?_ NB518_517.out _; (with_reducible repeat (first | refine blk_drewN ?_ _ | refine blk_drew ?_ | refine blk_alloc ?_ _)); refine blk_far ?_ NB518_517.out _; (with_reducible repeat (first | refine blk_drewN ?_ _ | refine blk_drew ?_ | refine blk_alloc ?_ _)); refine blk_far ?_ NB518_517.out _; (with_reducible repeat (first | refine blk_drewN ?_ _ | refine blk_drew ?_ | refine blk_alloc ?_ _)); exact BK518.out) hb); have n9_ := Aside0.mk (below_step (by repeat (first | (with_reducible first | exact HB.out | apply below_alloc | apply pw_below_drewN | apply below_drew1 | refine below_set ?_ GE496.out | refine below_set ?_ GE497.out | refine below_set ?_ GE517.out | refine below_set ?_ GE518.out) | exact HB.out)) hb); clear HO_497001; clear HO_497002; clear HO511; clear HO514; clear BK496; clear BK497; clear BK517; clear BK518; clear HB; have HO_497001 := n0_; have HO_497002 := n1_; have HO511 := n2_; have HO514 := n3_; have HO521 := n4_; have BK496 := n5_; have BK497 := n6_; have BK517 := n7_; have BK518 := n8_; have HB := n9_; clear n0_ n1_ n2_ n3_ n4_ n5_ n6_ n7_ n8_ n9_; (try clear hb); (try clear hb2); (try clear hk); (try clear hi); (try clear ho0); have hcz62_0 : w61.cell? ⟨gb518, 0, none⟩ = some (.int .i64 t515) := (blk_cell BK518.out 0).trans rfl; have hcz62_1 : w61.cell? ⟨gb518, 1, none⟩ = some (.int .i64 t516) := (blk_cell BK518.out 1).trans rfl; have hfz62_0 := blk_frozen BK518.out 0; have hfz62_1 := blk_frozen BK518.out 1; obtain ⟨Ao63, co63, eo63⟩ := Kd.R_slice HO521.out; subst eo63) | (go_at_call 15; (with_reducible refine (casementref01_SameBytes.calls k3 _ _ t519 _ _ l0 t523 _ ?side1 ?side2 ?side3 ?side4 A48.out).mono ?_); (case side1 => repeat (first | exact (Kd.R_reads' HO521.out).2.2 | (with_reducible refine Kd.C_alloc ?_ _) | (with_reducible refine Kd.C_drewN ?_ _) | (with_reducible refine Kd.C_drew ?_))); (case side2 => exact (Kd.R_reads' HO521.out).2.1); (case side3 => repeat (first | exact (Kd.C_below HR0.out HB.out) | (with_reducible refine Kd.C_alloc ?_ _) | (with_reducible refine Kd.C_drewN ?_ _) | (with_reducible refine Kd.C_drew ?_))); (case side4 => exact HC0.out); rintro e w' ⟨rfl, ⟨nd, rfl⟩⟩))
                            go_ret
                            exact ⟨by first | rfl | (simp [errW_none, errW_some] <;> rfl) | (simp [*, errW_none, errW_some] <;> rfl), by repeat (first | (with_reducible first | exact HB.out | apply below_alloc | apply pw_below_drewN | apply below_drew1 | refine below_set ?_ GE496.out | refine below_set ?_ GE497.out | refine below_set ?_ GE517.out | refine below_set ?_ GE518.out) | exact HB.out)⟩
                          · rw [if_neg c47] at H
                            have c47b0 : (t522 == 0) = false := beq_eq_false_iff_ne.mpr c47
                            have c47b1 : (t522 != 0) = true := bne_iff_ne.mpr c47
                            exact absurd ((Option.some.inj H).trans HRT.out) (by decide)
                        · rw [if_neg c46] at H
                          have c46b0 : (t515 == 0) = false := beq_eq_false_iff_ne.mpr c46
                          have c46b1 : (t515 != 0) = true := bne_iff_ne.mpr c46
                          exact absurd ((Option.some.inj H).trans HRT.out) (by decide)
    · rw [if_neg c5] at H
      have c5b0 : (t494 == 0) = false := beq_eq_false_iff_ne.mpr c5
      have c5b1 : (t494 != 0) = true := bne_iff_ne.mpr c5
      by_cases c64 : t495 ≥ 0
      · rw [if_pos c64] at H
        have c64b0 : decide (0 ≤ t495) = true := decide_eq_true c64
        clear c64
        by_cases c65 : t495 ≤ (l0.length : Int)
        · rw [if_pos c65] at H
          have c65b0 : decide (t495 ≤ (l0.length : Int)) = true := decide_eq_true c65
          clear c65
          by_cases c66 : (t491.length : Int) = 0
          · rw [if_pos c66] at H
            have c66b0 : ((t491.length : Int) == 0) = true := beq_iff_eq.mpr c66
            have c66b1 : ((t491.length : Int) != 0) = false := bne_eq_false_iff_eq.mpr c66
            clear c66
            obtain rfl := Option.some.inj H
            go_enter Try.func5, Try.ntmps5
            go_wp2_with (first | ((with_reducible refine gate_callee (f := 9) rfl ?_); refine goesL_ (some 13) rfl rfl Try.func9 (by kernel_rfl) rfl #[] rfl (by (try simp only [List.map_toArray, List.map_cons, List.map_nil]); first | done | rfl | (simp only [List.length_drop, List.length_take]; rfl)) ?_; (with_reducible refine (casementlaw12_alive.calls k  true _ A2.out (by first | rfl | assumption)).mono ?_); rintro e w67 ⟨rfl, hb⟩; refine ⟨_, rfl, ?_⟩; have n0_ := Aside0.mk (below_step (by repeat (first | (with_reducible first | exact HB.out | apply below_alloc | apply pw_below_drewN | apply below_drew1) | exact HB.out)) hb); clear HB; have HB := n0_; clear n0_; (try clear hb); (try clear hb2); (try clear hk); (try clear hi)) | ((with_reducible refine gate_callee (f := 10) rfl ?_); refine goesL_ (some 17) rfl rfl Try.func10 (by kernel_rfl) rfl #[.slice A0 l0.length c0] rfl (by (try simp only [List.map_toArray, List.map_cons, List.map_nil]); first | done | rfl | (simp only [List.length_drop, List.length_take]; rfl)) ?_; (with_reducible refine (module_Decode.calls k _ _ l0 t487 t488 t491 t494 t495 _ ?side1 ?side2 A4.out).mono ?_); (case side1 => repeat (first | exact (Kd.C_below HR0.out HB.out) | (with_reducible refine Kd.C_alloc ?_ _) | (with_reducible refine Kd.C_drewN ?_ _) | (with_reducible refine Kd.C_drew ?_))); (case side2 => exact HC0.out); rintro e w68 ⟨v489, v492, rfl, ho0, ho1, hb⟩; refine ⟨_, rfl, ?_⟩; have n0_ := Aside0.mk (Kd.R_lower ho0 (below_size (by repeat (first | (with_reducible first | exact HB.out | apply below_alloc | apply pw_below_drewN | apply below_drew1) | exact HB.out)))); have n1_ := Aside0.mk (Kd.S_lower ho1 (below_size (by repeat (first | (with_reducible first | exact HB.out | apply below_alloc | apply pw_below_drewN | apply below_drew1) | exact HB.out)))); have n2_ := Aside0.mk (below_step (by repeat (first | (with_reducible first | exact HB.out | apply below_alloc | apply pw_below_drewN | apply below_drew1) | exact HB.out)) hb); clear HB; have HO490 := n0_; have HO493 := n1_; have HB := n2_; clear n0_ n1_ n2_; (try clear hb); (try clear hb2); (try clear hk); (try clear hi); (try clear ho0); (try clear ho1)) | ((with_reducible refine gate_dst (N := 3) rfl ?_); (try (refine gate_guard (by rfl) ?_; dsimp only)); refine box_event ?hg (N := 3) ?hd (cs := #[.int .i64 0, .slice none 0 0, .slice none 0 0]) (t := 26) ?hr ?_; (case hd => rfl); (case hg => rfl); (case hr => first | (go_simp; done) | (go_simp; rfl)); intro gb496 hg w69 hbox hb; have n0_ := Aside0.mk (Kd.R_below (by (with_reducible repeat (first | apply Kd.R_alloc | apply Kd.R_drewN | apply Kd.R_drew)); exact HO490.out) hb); have n1_ := Aside0.mk (Kd.S_below (by (with_reducible repeat (first | apply Kd.S_alloc | apply Kd.S_drewN | apply Kd.S_drew)); exact HO493.out) hb); have n2_ := Aside0.mk (below_step (by repeat (first | (with_reducible first | exact HB.out | apply below_alloc | apply pw_below_drewN | apply below_drew1) | exact HB.out)) hb); have n3_ := Aside0.mk (hbox); have n4_ := Aside0.mk ((by rw [hg]; exact (below_size (by repeat (first | (with_reducible first | exact HB.out | apply below_alloc | apply pw_below_drewN | apply below_drew1) | exact HB.out))) : w.heap.size ≤ gb496)); have n5_ := Aside0.mk ((by rw [hg]; exact (below_size (by repeat (first | (with_reducible first | exact HB.out | apply below_alloc | apply pw_below_drewN | apply below_drew1) | exact HB.out))) : w.heap.size ≤ gb496)); clear HO490; clear HO493; clear HB; have HO490 := n0_; have HO493 := n1_; have HB := n2_; have BK496 := n3_; have GW496 := n4_; have GE496 := n5_; clear n0_ n1_ n2_ n3_ n4_ n5_; clear hb hbox hg) | ((with_reducible refine gate_dst (N := 4) rfl ?_); (try (refine gate_guard (by rfl) ?_; dsimp only)); refine box_event ?hg (N := 4) ?hd (cs := #[.int .i64 0, .int .i64 0]) (t := 29) ?hr ?_; (case hd => rfl); (case hg => rfl); (case hr => first | (go_simp; done) | (go_simp; rfl)); intro gb497 hg w70 hbox hb; have n0_ := Aside0.mk (Kd.R_below (by (with_reducible repeat (first | apply Kd.R_alloc | apply Kd.R_drewN | apply Kd.R_drew)); exact HO490.out) hb); have n1_ := Aside0.mk (Kd.S_below (by (with_reducible repeat (first | apply Kd.S_alloc | apply Kd.S_drewN | apply Kd.S_drew)); exact HO493.out) hb); have n2_ := Aside0.mk (blk_below (g := gb496) (o := .cells #[.int .i64 0, .slice none 0 0, .slice none 0 0] 26 (0, 0)) (by (with_reducible repeat (first | refine blk_drewN ?_ _ | refine blk_drew ?_ | refine blk_alloc ?_ _)); exact BK496.out) hb); have n3_ := Aside0.mk (below_step (by repeat (first | (with_reducible first | exact HB.out | apply below_alloc | apply pw_below_drewN | apply below_drew1 | refine below_set ?_ GE496.out) | exact HB.out)) hb); have n4_ := Aside0.mk (hbox); have n5_ := Aside0.mk ((by rw [hg]; exact (below_size (by repeat (first | (with_reducible first | exact HB.out | apply below_alloc | apply pw_below_drewN | apply below_drew1 | refine below_set ?_ GE496.out) | exact HB.out))) : w.heap.size ≤ gb497)); have n6_ := Aside0.mk ((by rw [hg]; exact (below_size (by repeat (first | (with_reducible first | exact HB.out | apply below_alloc | apply pw_below_drewN | apply below_drew1 | refine below_set ?_ GE496.out) | exact HB.out))) : w.heap.size ≤ gb497)); have n7_ := Aside0.mk ((by rw [hg]; exact Nat.ne_of_lt (blk_lt (g := gb496) (o := .cells #[.int .i64 0, .slice none 0 0, .slice none 0 0] 26 (0, 0)) (by (with_reducible repeat (first | refine blk_drewN ?_ _ | refine blk_drew ?_ | refine blk_alloc ?_ _)); exact BK496.out)) : gb496 ≠ gb497)); have n8_ := Aside0.mk ((by rw [hg]; exact Nat.ne_of_gt (blk_lt (g := gb496) (o := .cells #[.int .i64 0, .slice none 0 0, .slice none 0 0] 26 (0, 0)) (by (with_reducible repeat (first | refine blk_drewN ?_ _ | refine blk_drew ?_ | refine blk_alloc ?_ _)); exact BK496.out)) : gb497 ≠ gb496)); clear HO490; clear HO493; clear BK496; clear HB; have HO490 := n0_; have HO493 := n1_; have BK496 := n2_; have HB := n3_; have BK497 := n4_; have GW497 := n5_; have GE497 := n6_; have NB496_497 := n7_; have NB497_496 := n8_; clear n0_ n1_ n2_ n3_ n4_ n5_ n6_ n7_ n8_; clear hb hbox hg; have hnb71 := NB496_497.out; have hnc71 := NB497_496.out; have hcz72_0 : w70.cell? ⟨gb496, 0, none⟩ = some (.int .i64 0) := (blk_cell BK496.out 0).trans rfl; have hcz72_1 : w70.cell? ⟨gb496, 1, none⟩ = some (.slice none 0 0) := (blk_cell BK496.out 1).trans rfl; have hcz72_2 : w70.cell? ⟨gb496, 2, none⟩ = some (.slice none 0 0) := (blk_cell BK496.out 2).trans rfl; have hfz72_0 := blk_frozen BK496.out 0; have hfz72_1 := blk_frozen BK496.out 1; have hfz72_2 := blk_frozen BK496.out 2; obtain ⟨Ao73, co73, eo73⟩ := Kd.R_slice HO490.out; subst eo73; obtain ⟨Ao74, co74, eo74⟩ := Kd.S_slice HO493.out; subst eo74; have hcz75_0 : w70.cell? ⟨gb497, 0, none⟩ = some (.int .i64 0) := (blk_cell BK497.out 0).trans rfl; have hcz75_1 : w70.cell? ⟨gb497, 1, none⟩ = some (.int .i64 0) := (blk_cell BK497.out 1).trans rfl; have hfz75_0 := blk_frozen BK497.out 0; have hfz75_1 := blk_frozen BK497.out 1))
            go_ret
            exact ⟨by first | rfl | (simp [errW_none, errW_some] <;> rfl) | (simp [*, errW_none, errW_some] <;> rfl), by repeat (first | (with_reducible first | exact HB.out | apply below_alloc | apply pw_below_drewN | apply below_drew1 | refine below_set ?_ GE496.out | refine below_set ?_ GE497.out) | exact HB.out)⟩
          · rw [if_neg c66] at H
            have c66b0 : ((t491.length : Int) == 0) = false := beq_eq_false_iff_ne.mpr c66
            have c66b1 : ((t491.length : Int) != 0) = true := bne_iff_ne.mpr c66
            have c66b2 : ¬ (t491 = []) := fun h_ => c66 (by rw [h_]; rfl)
            exact absurd ((Option.some.inj H).trans HRT.out) (by decide)
        · rw [if_neg c65] at H
          have c65b0 : decide (t495 ≤ (l0.length : Int)) = false := decide_eq_false c65
          clear c65
          exact absurd ((Option.some.inj H).trans HRT.out) (by decide)
      · rw [if_neg c64] at H
        have c64b0 : decide (0 ≤ t495) = false := decide_eq_false c64
        clear c64
        exact absurd ((Option.some.inj H).trans HRT.out) (by decide)
  · replace c3 := Bool.eq_false_iff.mpr c3
    subst c3
    have H1 : (some false) = some r := by rw [if_neg (show ¬ (false = true) by decide)] at H; exact H
    clear H
    have H := H1
    clear H1
    exact absurd ((Option.some.inj H).trans HRT.out) (by decide)

def casementlaw12_ModuleBack.Pure : Prop := ∀ (l0 : List Int), l0.length ≤ maxLen → l0.length * 1 ≤ 140737488351232 → (∀ y_ ∈ l0, (Lit.int .u8 y_).wf = true) → ∃ k, casementlaw12_ModuleBack.f k l0 = some true
theorem casementlaw12_ModuleBack.walk (P : casementlaw12_ModuleBack.Pure) (A0 : Option Addr) (c0 : Nat) (l0 : List Int) (w : World) (wl0 : l0.length ≤ maxLen) (wl1 : l0.length * 1 ≤ 140737488351232) (wl2 : (∀ y_ ∈ l0, (Lit.int .u8 y_).wf = true)) (hr0 : Kd.C (Kd.int .u8) w A0 l0.length l0) (hc0 : l0.length ≤ c0) :
    Calls Try.prog 5 #[.slice A0 l0.length c0] w fun e w' => e = .returned (.bool true) ∧ Below w.heap.size w w' := by
  obtain ⟨k, h⟩ := P l0 wl0 wl1 wl2
  refine (casementlaw12_ModuleBack.calls k _ _ l0 true w hr0 hc0 h rfl).mono ?_
  rintro e w' ⟨rfl, hd⟩
  exact ⟨rfl, hd⟩

end Go.Proofs.Ytbdkphjpdoajpaa.Q
