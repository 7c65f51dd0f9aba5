-- written by a program of this session after the way of the kit's print; not the kit's own print. Lean checks it.
import Derived.Test.YtbdkphjpdoajpaaQx0
import Derived.Test.YtbdkphjpdoajpaaQx9
import Derived.Test.YtbdkphjpdoajpaaQx12
import Derived.Test.YtbdkphjpdoajpaaQx13
import Derived.Test.YtbdkphjpdoajpaaQx20
import Derived.Test.YtbdkphjpdoajpaaQx21
import Derived.Test.YtbdkphjpdoajpaaQx28
namespace Go.Proofs.Ytbdkphjpdoajpaa.Q
open Go.RowKit Go.Proofs.YtbdkphjpdoajpaaW.PrintWords Go.Proofs.YtbdkphjpdoajpaaW.PrintLast Go.Proofs.YtbdkphjpdoajpaaW.PrintMore
attribute [local go_sem] max2_int min2_int max_two min_two max_three min_three max_four min_four   -- for this text's walks alone
set_option linter.unusedVariables false
set_option linter.unusedSimpArgs false

/-! ### casementlaw12_ModuleEncodes: function 4 -/
def casementlaw12_ModuleEncodes.j0 : Nat → List Int → Int → Bool → Int → List Int → List (S44) → Option (Bool)
  | 0, _, _, _, _, _, _ => none
  | k + 1, x3, x4, x29, x464000, x464001, x464002 => if x29 = true then (some false) else (if x4 = 0 then ((module_Decode.f k x3).bind fun bt474 => (if bt474.2.2.2.1 = 0 then ((casementref12_Same.f k bt474.1 bt474.2.1 bt474.2.2.1 x464000 x464001 x464002).bind fun t485 => (some t485)) else (some false))) else (some ((x3.length : Int) == 0)))
def casementlaw12_ModuleEncodes.f (k : Nat) (a0_0 : Int) (l0_1 : List Int) (l0_2 : List (S44)) : Option (Bool) := (casementlaw12_alive.f k).bind fun t464 => (if t464 = true then ((module_Encode.f k a0_0 l0_1 l0_2).bind fun bt465 => ((casementref12_Encode.f k a0_0 l0_1 l0_2).bind fun bt469 => (if bt465.2 = bt469.2 then ((casementref01_SameBytes.f k bt465.1 bt469.1).bind fun t473 => (casementlaw12_ModuleEncodes.j0 k bt465.1 bt465.2 (!t473) a0_0 l0_1 l0_2)) else (casementlaw12_ModuleEncodes.j0 k bt465.1 bt465.2 true a0_0 l0_1 l0_2)))) else (some false))
theorem casementlaw12_ModuleEncodes.mono_l : ∀ k, (∀ y0 y1 y2 y3 y4 y5, LeO (casementlaw12_ModuleEncodes.j0 k y0 y1 y2 y3 y4 y5) (casementlaw12_ModuleEncodes.j0 (k + 1) y0 y1 y2 y3 y4 y5))
  | 0 => fun _ _ _ _ _ _ r h => by simp [casementlaw12_ModuleEncodes.j0] at h
  | k + 1 => by
    have ih0 := casementlaw12_ModuleEncodes.mono_l k
    · intro y0 y1 y2 y3 y4 y5
      unfold casementlaw12_ModuleEncodes.j0
      repeat' first
      | (with_reducible exact ih0 _ _ _ _ _ _)
      | (with_reducible exact casementlaw12_alive.mono _)
      | (with_reducible exact casementref01_SameBytes.mono _ _ _)
      | (with_reducible exact casementref12_Encode.mono _ _ _ _)
      | (with_reducible exact casementref12_Same.mono _ _ _ _ _ _ _)
      | (with_reducible exact module_Decode.mono _ _)
      | (with_reducible exact module_Encode.mono _ _ _ _)
      | (with_reducible exact LeO.refl _)
      | (with_reducible exact LeO.none _)
      | (with_reducible refine LeO.ite ?_ ?_)
      | (with_reducible refine LeO.bind ?_ (fun _ => ?_))
      | exact ih0 _ _ _ _ _ _
      | exact casementlaw12_alive.mono _
      | exact casementref01_SameBytes.mono _ _ _
      | exact casementref12_Encode.mono _ _ _ _
      | exact casementref12_Same.mono _ _ _ _ _ _ _
      | exact module_Decode.mono _ _
      | exact module_Encode.mono _ _ _ _
      | exact LeO.none _
      | refine LeO.ite ?_ ?_
      | refine LeO.bind ?_ (fun _ => ?_)
theorem casementlaw12_ModuleEncodes.mono : ∀ a0 a1 a2 k, LeO (casementlaw12_ModuleEncodes.f k a0 a1 a2) (casementlaw12_ModuleEncodes.f (k + 1) a0 a1 a2) := by
  intro a0 a1 a2 k
  have ih0 := casementlaw12_ModuleEncodes.mono_l k
  unfold casementlaw12_ModuleEncodes.f
  repeat' first
      | (with_reducible exact ih0 _ _ _ _ _ _)
      | (with_reducible exact casementlaw12_alive.mono _)
      | (with_reducible exact casementref01_SameBytes.mono _ _ _)
      | (with_reducible exact casementref12_Encode.mono _ _ _ _)
      | (with_reducible exact casementref12_Same.mono _ _ _ _ _ _ _)
      | (with_reducible exact module_Decode.mono _ _)
      | (with_reducible exact module_Encode.mono _ _ _ _)
      | (with_reducible exact LeO.refl _)
      | (with_reducible exact LeO.none _)
      | (with_reducible refine LeO.ite ?_ ?_)
      | (with_reducible refine LeO.bind ?_ (fun _ => ?_))
      | exact ih0 _ _ _ _ _ _
      | exact casementlaw12_alive.mono _
      | exact casementref01_SameBytes.mono _ _ _
      | exact casementref12_Encode.mono _ _ _ _
      | exact casementref12_Same.mono _ _ _ _ _ _ _
      | exact module_Decode.mono _ _
      | exact module_Encode.mono _ _ _ _
      | exact LeO.none _
      | refine LeO.ite ?_ ?_
      | refine LeO.bind ?_ (fun _ => ?_)
set_option maxHeartbeats 8000000 in
set_option maxRecDepth 100000 in
theorem casementlaw12_ModuleEncodes.calls (k : Nat) (a0_0 : Int) (A0_1 : Option Addr) (c0_1 : Nat) (l0_1 : List Int) (A0_2 : Option Addr) (c0_2 : Nat) (l0_2 : List (S44)) (r : Bool) (w : World) (hr0_1 : Kd.C (Kd.int .u8) w A0_1 l0_1.length l0_1) (hc0_1 : l0_1.length ≤ c0_1) (hr0_2 : Kd.C k44 w A0_2 l0_2.length l0_2) (hc0_2 : l0_2.length ≤ c0_2) (h : casementlaw12_ModuleEncodes.f k a0_0 l0_1 l0_2 = some r) (hr : r = true) :
    Calls Try.prog 4 #[.agg #[.int .i64 a0_0, .slice A0_1 l0_1.length c0_1, .slice A0_2 l0_2.length c0_2]] w fun e w' => e = .returned (.bool r) ∧ Below w.heap.size w w' := by
  have hu26 := Try.underlying26
  have hu29 := Try.underlying29
  have HRT := Aside0.mk hr
  clear hr
  have HR0_1 := Aside0.mk hr0_1
  have HC0_1 := Aside0.mk hc0_1
  clear hr0_1 hc0_1
  have HR0_2 := Aside0.mk hr0_2
  have HC0_2 := Aside0.mk hc0_2
  clear hr0_2 hc0_2
  have HB := Aside0.mk (Below.refl w.heap.size w)
  have H : ((casementlaw12_alive.f k).bind fun t464 => (if t464 = true then ((module_Encode.f k a0_0 l0_1 l0_2).bind fun bt465 => ((casementref12_Encode.f k a0_0 l0_1 l0_2).bind fun bt469 => (if bt465.2 = bt469.2 then ((casementref01_SameBytes.f k bt465.1 bt469.1).bind fun t473 => (casementlaw12_ModuleEncodes.j0 k bt465.1 bt465.2 (!t473) a0_0 l0_1 l0_2)) else (casementlaw12_ModuleEncodes.j0 k bt465.1 bt465.2 true a0_0 l0_1 l0_2)))) else (some false))) = some r := h
  clear h
  replace H := Option.bind_eq_some_iff.mp H
  obtain ⟨t464, A20, H⟩ := H
  replace H : (if t464 = true then ((module_Encode.f k a0_0 l0_1 l0_2).bind fun bt465 => ((casementref12_Encode.f k a0_0 l0_1 l0_2).bind fun bt469 => (if bt465.2 = bt469.2 then ((casementref01_SameBytes.f k bt465.1 bt469.1).bind fun t473 => (casementlaw12_ModuleEncodes.j0 k bt465.1 bt465.2 (!t473) a0_0 l0_1 l0_2)) else (casementlaw12_ModuleEncodes.j0 k bt465.1 bt465.2 true a0_0 l0_1 l0_2)))) else (some false)) = some r := H
  have A2 := Aside0.mk A20
  clear A20
  by_cases c3 : t464 = true
  · subst c3
    have H1 : ((module_Encode.f k a0_0 l0_1 l0_2).bind fun bt465 => ((casementref12_Encode.f k a0_0 l0_1 l0_2).bind fun bt469 => (if bt465.2 = bt469.2 then ((casementref01_SameBytes.f k bt465.1 bt469.1).bind fun t473 => (casementlaw12_ModuleEncodes.j0 k bt465.1 bt465.2 (!t473) a0_0 l0_1 l0_2)) else (casementlaw12_ModuleEncodes.j0 k bt465.1 bt465.2 true a0_0 l0_1 l0_2)))) = some r := by rw [if_pos rfl] at H; exact H
    clear H
    have H := H1
    clear H1
    replace H := Option.bind_eq_some_iff.mp H
    obtain ⟨⟨t465, t468⟩, A40, H⟩ := H
    replace H : ((casementref12_Encode.f k a0_0 l0_1 l0_2).bind fun bt469 => (if t468 = bt469.2 then ((casementref01_SameBytes.f k t465 bt469.1).bind fun t473 => (casementlaw12_ModuleEncodes.j0 k t465 t468 (!t473) a0_0 l0_1 l0_2)) else (casementlaw12_ModuleEncodes.j0 k t465 t468 true a0_0 l0_1 l0_2))) = some r := H
    have A4 := Aside0.mk A40
    clear A40
    replace H := Option.bind_eq_some_iff.mp H
    obtain ⟨⟨t469, t472⟩, A50, H⟩ := H
    replace H : (if t468 = t472 then ((casementref01_SameBytes.f k t465 t469).bind fun t473 => (casementlaw12_ModuleEncodes.j0 k t465 t468 (!t473) a0_0 l0_1 l0_2)) else (casementlaw12_ModuleEncodes.j0 k t465 t468 true a0_0 l0_1 l0_2)) = some r := H
    have A5 := Aside0.mk A50
    clear A50
    have HC6 := Aside0.mk H
    clear H
    go_enter Try.func4, Try.ntmps4
    go_upto_region 5 with (first | ((with_reducible refine gate_dst (N := 1) rfl ?_); refine box_event ?hg (N := 1) ?hd (cs := #[.int .i64 a0_0, .slice A0_1 l0_1.length c0_1, .slice A0_2 l0_2.length c0_2]) (t := 26) ?hr ?_; (case hd => rfl); (case hg => rfl); (case hr => first | (go_simp; done) | (go_simp; rfl)); intro gb463 hg w7 hbox hb; have n0_ := Aside0.mk (below_step (by repeat (first | (with_reducible first | exact HB.out | apply below_alloc | apply pw_below_drewN | apply below_drew1) | exact HB.out)) hb); have n1_ := Aside0.mk (hbox); have n2_ := Aside0.mk ((by rw [hg]; exact (below_size (by repeat (first | (with_reducible first | exact HB.out | apply below_alloc | apply pw_below_drewN | apply below_drew1) | exact HB.out))) : w.heap.size ≤ gb463)); have n3_ := Aside0.mk ((by rw [hg]; exact (below_size (by repeat (first | (with_reducible first | exact HB.out | apply below_alloc | apply pw_below_drewN | apply below_drew1) | exact HB.out))) : w.heap.size ≤ gb463)); clear HB; have HB := n0_; have BK463 := n1_; have GW463 := n2_; have GE463 := n3_; clear n0_ n1_ n2_ n3_; clear hb hbox hg) | ((with_reducible refine gate_callee (f := 9) rfl ?_); refine goesL_ (some 9) rfl rfl Try.func9 (by kernel_rfl) rfl #[] rfl (by (try simp only [List.map_toArray, List.map_cons, List.map_nil]); first | done | rfl | (simp only [List.length_drop, List.length_take]; rfl)) ?_; (with_reducible refine (casementlaw12_alive.calls k  true _ A2.out (by first | rfl | assumption)).mono ?_); rintro e w8 ⟨rfl, hb⟩; refine ⟨_, rfl, ?_⟩; have n0_ := Aside0.mk (blk_below (g := gb463) (o := .cells #[.int .i64 a0_0, .slice A0_1 l0_1.length c0_1, .slice A0_2 l0_2.length c0_2] 26 (0, 0)) (by (with_reducible repeat (first | refine blk_drewN ?_ _ | refine blk_drew ?_ | refine blk_alloc ?_ _)); exact BK463.out) hb); have n1_ := Aside0.mk (below_step (by repeat (first | (with_reducible first | exact HB.out | apply below_alloc | apply pw_below_drewN | apply below_drew1 | refine below_set ?_ GE463.out) | exact HB.out)) hb); clear BK463; clear HB; have BK463 := n0_; have HB := n1_; clear n0_ n1_; (try clear hb); (try clear hb2); (try clear hk); (try clear hi); have hcz9_0 : w8.cell? ⟨gb463, 0, none⟩ = some (.int .i64 a0_0) := (blk_cell BK463.out 0).trans rfl; have hcz9_1 : w8.cell? ⟨gb463, 1, none⟩ = some (.slice A0_1 l0_1.length c0_1) := (blk_cell BK463.out 1).trans rfl; have hcz9_2 : w8.cell? ⟨gb463, 2, none⟩ = some (.slice A0_2 l0_2.length c0_2) := (blk_cell BK463.out 2).trans rfl; have hfz9_0 := blk_frozen BK463.out 0; have hfz9_1 := blk_frozen BK463.out 1; have hfz9_2 := blk_frozen BK463.out 2) | ((with_reducible refine gate_callee (f := 13) rfl ?_); refine goesL_ (some 13) rfl rfl Try.func13 (by kernel_rfl) rfl #[.agg #[.int .i64 a0_0, .slice A0_1 l0_1.length c0_1, .slice A0_2 l0_2.length c0_2]] rfl (by (try simp only [List.map_toArray, List.map_cons, List.map_nil]); first | done | rfl | (simp only [List.length_drop, List.length_take]; rfl)) ?_; (with_reducible refine (module_Encode.calls k a0_0 _ _ l0_1 _ _ l0_2 t465 t468 _ ?side1 ?side2 ?side3 ?side4 A4.out).mono ?_); (case side1 => repeat (first | exact (Kd.C_below HR0_1.out HB.out) | (with_reducible refine Kd.C_alloc ?_ _) | (with_reducible refine Kd.C_drewN ?_ _) | (with_reducible refine Kd.C_drew ?_))); (case side2 => exact HC0_1.out); (case side3 => repeat (first | exact (Kd.C_below HR0_2.out HB.out) | (with_reducible refine Kd.C_alloc ?_ _) | (with_reducible refine Kd.C_drewN ?_ _) | (with_reducible refine Kd.C_drew ?_))); (case side4 => exact HC0_2.out); rintro e w10 ⟨v466, rfl, ho0, hb⟩; refine ⟨_, rfl, ?_⟩; have n0_ := Aside0.mk (Kd.R_lower ho0 (below_size (by repeat (first | (with_reducible first | exact HB.out | apply below_alloc | apply pw_below_drewN | apply below_drew1 | refine below_set ?_ GE463.out) | exact HB.out)))); have n1_ := Aside0.mk (blk_below (g := gb463) (o := .cells #[.int .i64 a0_0, .slice A0_1 l0_1.length c0_1, .slice A0_2 l0_2.length c0_2] 26 (0, 0)) (by (with_reducible repeat (first | refine blk_drewN ?_ _ | refine blk_drew ?_ | refine blk_alloc ?_ _)); exact BK463.out) hb); have n2_ := Aside0.mk (below_step (by repeat (first | (with_reducible first | exact HB.out | apply below_alloc | apply pw_below_drewN | apply below_drew1 | refine below_set ?_ GE463.out) | exact HB.out)) hb); clear BK463; clear HB; have HO467 := n0_; have BK463 := n1_; have HB := n2_; clear n0_ n1_ n2_; (try clear hb); (try clear hb2); (try clear hk); (try clear hi); (try clear ho0); have hcz11_0 : w10.cell? ⟨gb463, 0, none⟩ = some (.int .i64 a0_0) := (blk_cell BK463.out 0).trans rfl; have hcz11_1 : w10.cell? ⟨gb463, 1, none⟩ = some (.slice A0_1 l0_1.length c0_1) := (blk_cell BK463.out 1).trans rfl; have hcz11_2 : w10.cell? ⟨gb463, 2, none⟩ = some (.slice A0_2 l0_2.length c0_2) := (blk_cell BK463.out 2).trans rfl; have hfz11_0 := blk_frozen BK463.out 0; have hfz11_1 := blk_frozen BK463.out 1; have hfz11_2 := blk_frozen BK463.out 2) | ((with_reducible refine gate_callee (f := 14) rfl ?_); refine goesL_ (some 18) rfl rfl Try.func14 (by kernel_rfl) rfl #[.agg #[.int .i64 a0_0, .slice A0_1 l0_1.length c0_1, .slice A0_2 l0_2.length c0_2]] rfl (by (try simp only [List.map_toArray, List.map_cons, List.map_nil]); first | done | rfl | (simp only [List.length_drop, List.length_take]; rfl)) ?_; (with_reducible refine (casementref12_Encode.calls k a0_0 _ _ l0_1 _ _ l0_2 t469 t472 _ ?side1 ?side2 ?side3 ?side4 A5.out).mono ?_); (case side1 => repeat (first | exact (Kd.C_below HR0_1.out HB.out) | (with_reducible refine Kd.C_alloc ?_ _) | (with_reducible refine Kd.C_drewN ?_ _) | (with_reducible refine Kd.C_drew ?_))); (case side2 => exact HC0_1.out); (case side3 => repeat (first | exact (Kd.C_below HR0_2.out HB.out) | (with_reducible refine Kd.C_alloc ?_ _) | (with_reducible refine Kd.C_drewN ?_ _) | (with_reducible refine Kd.C_drew ?_))); (case side4 => exact HC0_2.out); rintro e w12 ⟨v470, rfl, ho0, hb⟩; refine ⟨_, rfl, ?_⟩; have n0_ := Aside0.mk (Kd.R_elder' (by (with_reducible repeat (first | apply Kd.R_alloc | apply Kd.R_drewN | apply Kd.R_drew)); exact HO467.out) (Kd.R_base ho0) hb); have n1_ := Aside0.mk (Kd.R_lower (Kd.R_new' ho0 (Kd.R_lt (by (with_reducible repeat (first | apply Kd.R_alloc | apply Kd.R_drewN | apply Kd.R_drew)); exact HO467.out))) (below_size (by repeat (first | (with_reducible first | exact HB.out | apply below_alloc | apply pw_below_drewN | apply below_drew1 | refine below_set ?_ GE463.out) | exact HB.out)))); have n2_ := Aside0.mk (blk_below (g := gb463) (o := .cells #[.int .i64 a0_0, .slice A0_1 l0_1.length c0_1, .slice A0_2 l0_2.length c0_2] 26 (0, 0)) (by (with_reducible repeat (first | refine blk_drewN ?_ _ | refine blk_drew ?_ | refine blk_alloc ?_ _)); exact BK463.out) hb); have n3_ := Aside0.mk (below_step (by repeat (first | (with_reducible first | exact HB.out | apply below_alloc | apply pw_below_drewN | apply below_drew1 | refine below_set ?_ GE463.out) | exact HB.out)) hb); clear HO467; clear BK463; clear HB; have HO467 := n0_; have HO471 := n1_; have BK463 := n2_; have HB := n3_; clear n0_ n1_ n2_ n3_; (try clear hb); (try clear hb2); (try clear hk); (try clear hi); (try clear ho0)))
    (try simp only [Act.put, List.setIfInBounds_toArray, List.set_cons_zero, List.set_cons_succ])
    go_cut [29] (fun v29 wc => ∃ (kq : Nat) (x29_5 : Bool), v29 = .bool x29_5 ∧ Aside0 (casementlaw12_ModuleEncodes.j0 kq t465 t468 x29_5 a0_0 l0_1 l0_2 = some r) ∧ Aside0 (kq ≤ k) ∧ Aside0 (Kd.R (Kd.int .u8) 5 wc w.heap.size (fun _ => True) v466 t465) ∧ Aside0 (wc.heap[gb463]? = some (.cells #[.int .i64 a0_0, (.slice A0_1 l0_1.length c0_1), (.slice A0_2 l0_2.length c0_2)] 26 (0, 0))) ∧ Aside0 (Below w.heap.size w wc))
    case first =>
      have H := HC6.out
      clear HC6
      by_cases c13 : t468 = t472
      · rw [if_pos c13] at H
        have c13b0 : (t468 == t472) = true := beq_iff_eq.mpr c13
        have c13b1 : (t468 != t472) = false := bne_eq_false_iff_eq.mpr c13
        clear c13
        (first | rw [c13b0] | (simp only [i64_w, i32_w]; rw [c13b0]) | skip)
        replace H := Option.bind_eq_some_iff.mp H
        obtain ⟨t473, A140, H⟩ := H
        replace H : (casementlaw12_ModuleEncodes.j0 k t465 t468 (!t473) a0_0 l0_1 l0_2) = some r := H
        have A14 := Aside0.mk A140
        clear A140
        have H' := Aside0.mk H
        clear H
        obtain ⟨Ao15, co15, eo15⟩ := Kd.R_slice HO467.out
        subst eo15
        obtain ⟨Ao16, co16, eo16⟩ := Kd.R_slice HO471.out
        subst eo16
        go_wp2_with (first | (go_at_call 15; (with_reducible refine (casementref01_SameBytes.calls k _ _ t465 _ _ t469 t473 _ ?side1 ?side2 ?side3 ?side4 A14.out).mono ?_); (case side1 => repeat (first | exact (Kd.R_reads' HO467.out).2.2 | (with_reducible refine Kd.C_alloc ?_ _) | (with_reducible refine Kd.C_drewN ?_ _) | (with_reducible refine Kd.C_drew ?_))); (case side2 => exact (Kd.R_reads' HO467.out).2.1); (case side3 => repeat (first | exact (Kd.R_reads' HO471.out).2.2 | (with_reducible refine Kd.C_alloc ?_ _) | (with_reducible refine Kd.C_drewN ?_ _) | (with_reducible refine Kd.C_drew ?_))); (case side4 => exact (Kd.R_reads' HO471.out).2.1); rintro e w' ⟨rfl, ⟨nd, rfl⟩⟩))
        go_meet
        case rel => exact ⟨_, (!t473), (by first | rfl | (simp; done) | (simp [*]; done)), H', ⟨by first | omega | exact Nat.le_refl _⟩, ⟨by (with_reducible repeat (first | apply Kd.R_alloc | apply Kd.R_drewN | apply Kd.R_drew)); exact Kd.R_mono HO467.out (fun _ hk => trivial)⟩, ⟨by (with_reducible repeat (first | refine blk_drewN ?_ _ | refine blk_drew ?_ | refine blk_alloc ?_ _)); exact BK463.out⟩, ⟨by repeat (first | (with_reducible first | exact HB.out | apply below_alloc | apply pw_below_drewN | apply below_drew1 | refine below_set ?_ GE463.out) | exact HB.out)⟩⟩
      · rw [if_neg c13] at H
        have c13b0 : (t468 == t472) = false := beq_eq_false_iff_ne.mpr c13
        have c13b1 : (t468 != t472) = true := bne_iff_ne.mpr c13
        (first | rw [c13b0] | (simp only [i64_w, i32_w]; rw [c13b0]) | skip)
        have H' := Aside0.mk H
        clear H
        go_wp2
        go_meet
        case rel => exact ⟨_, (true), (by first | rfl | (simp; done) | (simp [*]; done)), H', ⟨by first | omega | exact Nat.le_refl _⟩, ⟨by (with_reducible repeat (first | apply Kd.R_alloc | apply Kd.R_drewN | apply Kd.R_drew)); exact Kd.R_mono HO467.out (fun _ hk => trivial)⟩, ⟨by (with_reducible repeat (first | refine blk_drewN ?_ _ | refine blk_drew ?_ | refine blk_alloc ?_ _)); exact BK463.out⟩, ⟨by repeat (first | (with_reducible first | exact HB.out | apply below_alloc | apply pw_below_drewN | apply below_drew1 | refine below_set ?_ GE463.out) | exact HB.out)⟩⟩
    case rest =>
      clear HC6
      try clear c1
      try clear p2
      try clear c3
      try clear c4
      try clear c9
      try clear c13
      try clear c13b0
      try clear c13b1
      try clear c14
      try clear hcz11_0
      try clear hcz11_1
      try clear hcz11_2
      try clear hcz9_0
      try clear hcz9_1
      try clear hcz9_2
      try clear hfz11_0
      try clear hfz11_1
      try clear hfz11_2
      try clear hfz9_0
      try clear hfz9_1
      try clear hfz9_2
      obtain ⟨kq, x29_5, rfl, HA, HJ5, HO_3, BK463, HB⟩ := hcut
      cases kq with
      | zero => exact absurd HA.out (by simp [casementlaw12_ModuleEncodes.j0])
      | succ kj5 =>
        have H := HA.out
        clear HA
        simp only [casementlaw12_ModuleEncodes.j0] at H
        by_cases c17 : x29_5 = true
        · subst c17
          have H1 : (some false) = some r := by rw [if_pos rfl] at H; exact H
          clear H
          have H := H1
          clear H1
          exact absurd ((Option.some.inj H).trans HRT.out) (by decide)
        · replace c17 := Bool.eq_false_iff.mpr c17
          subst c17
          have H1 : (if t468 = 0 then ((module_Decode.f kj5 t465).bind fun bt474 => (if bt474.2.2.2.1 = 0 then ((casementref12_Same.f kj5 bt474.1 bt474.2.1 bt474.2.2.1 a0_0 l0_1 l0_2).bind fun t485 => (some t485)) else (some false))) else (some ((t465.length : Int) == 0))) = some r := by rw [if_neg (show ¬ (false = true) by decide)] at H; exact H
          clear H
          have H := H1
          clear H1
          by_cases c18 : t468 = 0
          · rw [if_pos c18] at H
            have c18b0 : (t468 == 0) = true := beq_iff_eq.mpr c18
            have c18b1 : (t468 != 0) = false := bne_eq_false_iff_eq.mpr c18
            clear c18
            replace H := Option.bind_eq_some_iff.mp H
            obtain ⟨⟨t474, t475, t478, t481, t482⟩, A190, H⟩ := H
            replace H : (if t481 = 0 then ((casementref12_Same.f kj5 t474 t475 t478 a0_0 l0_1 l0_2).bind fun t485 => (some t485)) else (some false)) = some r := H
            have A19 := Aside0.mk A190
            clear A190
            by_cases c20 : t481 = 0
            · rw [if_pos c20] at H
              have c20b0 : (t481 == 0) = true := beq_iff_eq.mpr c20
              have c20b1 : (t481 != 0) = false := bne_eq_false_iff_eq.mpr c20
              clear c20
              replace H := Option.bind_eq_some_iff.mp H
              obtain ⟨t485, A210, H⟩ := H
              replace H : (some t485) = some r := H
              have A21 := Aside0.mk A210
              clear A210
              obtain rfl := Option.some.inj H
              obtain ⟨Ao22, co22, eo22⟩ := Kd.R_slice HO_3.out
              subst eo22
              go_wp2_with (first | ((with_reducible refine gate_callee (f := 10) rfl ?_); refine goesL_ (some 37) rfl rfl Try.func10 (by kernel_rfl) rfl #[.slice Ao22 t465.length co22] rfl (by (try simp only [List.map_toArray, List.map_cons, List.map_nil]); first | done | rfl | (simp only [List.length_drop, List.length_take]; rfl)) ?_; (with_reducible refine (module_Decode.calls kj5 _ _ t465 t474 t475 t478 t481 t482 _ ?side1 ?side2 A19.out).mono ?_); (case side1 => repeat (first | exact (Kd.R_reads' HO_3.out).2.2 | (with_reducible refine Kd.C_alloc ?_ _) | (with_reducible refine Kd.C_drewN ?_ _) | (with_reducible refine Kd.C_drew ?_))); (case side2 => exact (Kd.R_reads' HO_3.out).2.1); rintro e w23 ⟨v476, v479, rfl, ho0, ho1, hb⟩; refine ⟨_, rfl, ?_⟩; have n0_ := Aside0.mk (Kd.R_elder' (by (with_reducible repeat (first | apply Kd.R_alloc | apply Kd.R_drewN | apply Kd.R_drew)); exact HO_3.out) (Kd.R_base ho0) hb); have n1_ := Aside0.mk (Kd.R_lower (Kd.R_new' ho0 (Kd.R_lt (by (with_reducible repeat (first | apply Kd.R_alloc | apply Kd.R_drewN | apply Kd.R_drew)); exact HO_3.out))) (below_size (by repeat (first | (with_reducible first | exact HB.out | apply below_alloc | apply pw_below_drewN | apply below_drew1 | refine below_set ?_ GE463.out) | exact HB.out)))); have n2_ := Aside0.mk (Kd.S_lower ho1 (below_size (by repeat (first | (with_reducible first | exact HB.out | apply below_alloc | apply pw_below_drewN | apply below_drew1 | refine below_set ?_ GE463.out) | exact HB.out)))); have n3_ := Aside0.mk (blk_below (g := gb463) (o := .cells #[.int .i64 a0_0, .slice A0_1 l0_1.length c0_1, .slice A0_2 l0_2.length c0_2] 26 (0, 0)) (by (with_reducible repeat (first | refine blk_drewN ?_ _ | refine blk_drew ?_ | refine blk_alloc ?_ _)); exact BK463.out) hb); have n4_ := Aside0.mk (below_step (by repeat (first | (with_reducible first | exact HB.out | apply below_alloc | apply pw_below_drewN | apply below_drew1 | refine below_set ?_ GE463.out) | exact HB.out)) hb); clear HO_3; clear BK463; clear HB; have HO_3 := n0_; have HO477 := n1_; have HO480 := n2_; have BK463 := n3_; have HB := n4_; clear n0_ n1_ n2_ n3_ n4_; (try clear hb); (try clear hb2); (try clear hk); (try clear hi); (try clear ho0); (try clear ho1)) | ((with_reducible refine gate_dst (N := 7) rfl ?_); refine box_event ?hg (N := 7) ?hd (cs := #[.int .i64 0, .slice none 0 0, .slice none 0 0]) (t := 26) ?hr ?_; (case hd => rfl); (case hg => rfl); (case hr => first | (go_simp; done) | (go_simp; rfl)); intro gb483 hg w24 hbox hb; have n0_ := Aside0.mk (Kd.R_below (by (with_reducible repeat (first | apply Kd.R_alloc | apply Kd.R_drewN | apply Kd.R_drew)); exact HO_3.out) hb); have n1_ := Aside0.mk (Kd.R_below (by (with_reducible repeat (first | apply Kd.R_alloc | apply Kd.R_drewN | apply Kd.R_drew)); exact HO477.out) hb); have n2_ := Aside0.mk (Kd.S_below (by (with_reducible repeat (first | apply Kd.S_alloc | apply Kd.S_drewN | apply Kd.S_drew)); exact HO480.out) hb); have n3_ := Aside0.mk (blk_below (g := gb463) (o := .cells #[.int .i64 a0_0, .slice A0_1 l0_1.length c0_1, .slice A0_2 l0_2.length c0_2] 26 (0, 0)) (by (with_reducible repeat (first | refine blk_drewN ?_ _ | refine blk_drew ?_ | refine blk_alloc ?_ _)); exact BK463.out) hb); have n4_ := Aside0.mk (below_step (by repeat (first | (with_reducible first | exact HB.out | apply below_alloc | apply pw_below_drewN | apply below_drew1 | refine below_set ?_ GE463.out) | exact HB.out)) hb); have n5_ := Aside0.mk (hbox); have n6_ := Aside0.mk ((by rw [hg]; exact (below_size (by repeat (first | (with_reducible first | exact HB.out | apply below_alloc | apply pw_below_drewN | apply below_drew1 | refine below_set ?_ GE463.out) | exact HB.out))) : w.heap.size ≤ gb483)); have n7_ := Aside0.mk ((by rw [hg]; exact (below_size (by repeat (first | (with_reducible first | exact HB.out | apply below_alloc | apply pw_below_drewN | apply below_drew1 | refine below_set ?_ GE463.out) | exact HB.out))) : w.heap.size ≤ gb483)); have n8_ := Aside0.mk ((by rw [hg]; exact Nat.ne_of_lt (blk_lt (g := gb463) (o := .cells #[.int .i64 a0_0, .slice A0_1 l0_1.length c0_1, .slice A0_2 l0_2.length c0_2] 26 (0, 0)) (by (with_reducible repeat (first | refine blk_drewN ?_ _ | refine blk_drew ?_ | refine blk_alloc ?_ _)); exact BK463.out)) : gb463 ≠ gb483)); have n9_ := Aside0.mk ((by rw [hg]; exact Nat.ne_of_gt (blk_lt (g := gb463) (o := .cells #[.int .i64 a0_0, .slice A0_1 l0_1.length c0_1, .slice A0_2 l0_2.length c0_2] 26 (0, 0)) (by (with_reducible repeat (first | refine blk_drewN ?_ _ | refine blk_drew ?_ | refine blk_alloc ?_ _)); exact BK463.out)) : gb483 ≠ gb463)); clear HO_3; clear HO477; clear HO480; clear BK463; clear HB; have HO_3 := n0_; have HO477 := n1_; have HO480 := n2_; have BK463 := n3_; have HB := n4_; have BK483 := n5_; have GW483 := n6_; have GE483 := n7_; have NB463_483 := n8_; have NB483_463 := n9_; clear n0_ n1_ n2_ n3_ n4_ n5_ n6_ n7_ n8_ n9_; clear hb hbox hg) | ((with_reducible refine gate_dst (N := 8) rfl ?_); refine box_event ?hg (N := 8) ?hd (cs := #[.int .i64 0, .int .i64 0]) (t := 29) ?hr ?_; (case hd => rfl); (case hg => rfl); (case hr => first | (go_simp; done) | (go_simp; rfl)); intro gb484 hg w25 hbox hb; have n0_ := Aside0.mk (Kd.R_below (by (with_reducible repeat (first | apply Kd.R_alloc | apply Kd.R_drewN | apply Kd.R_drew)); exact HO_3.out) hb); have n1_ := Aside0.mk (Kd.R_below (by (with_reducible repeat (first | apply Kd.R_alloc | apply Kd.R_drewN | apply Kd.R_drew)); exact HO477.out) hb); have n2_ := Aside0.mk (Kd.S_below (by (with_reducible repeat (first | apply Kd.S_alloc | apply Kd.S_drewN | apply Kd.S_drew)); exact HO480.out) hb); have n3_ := Aside0.mk (blk_below (g := gb463) (o := .cells #[.int .i64 a0_0, .slice A0_1 l0_1.length c0_1, .slice A0_2 l0_2.length c0_2] 26 (0, 0)) (by (with_reducible repeat (first | refine blk_drewN ?_ _ | refine blk_drew ?_ | refine blk_alloc ?_ _)); exact BK463.out) hb); have n4_ := Aside0.mk (blk_below (g := gb483) (o := .cells #[.int .i64 0, .slice none 0 0, .slice none 0 0] 26 (0, 0)) (by (with_reducible repeat (first | refine blk_drewN ?_ _ | refine blk_drew ?_ | refine blk_alloc ?_ _)); exact BK483.out) hb); have n5_ := Aside0.mk (below_step (by repeat (first | (with_reducible first | exact HB.out | apply below_alloc | apply pw_below_drewN | apply below_drew1 | refine below_set ?_ GE463.out | refine below_set ?_ GE483.out) | exact HB.out)) hb); have n6_ := Aside0.mk (hbox); have n7_ := Aside0.mk ((by rw [hg]; exact (below_size (by repeat (first | (with_reducible first | exact HB.out | apply below_alloc | apply pw_below_drewN | apply below_drew1 | refine below_set ?_ GE463.out | refine below_set ?_ GE483.out) | exact HB.out))) : w.heap.size ≤ gb484)); have n8_ := Aside0.mk ((by rw [hg]; exact (below_size (by repeat (first | (with_reducible first | exact HB.out | apply below_alloc | apply pw_below_drewN | apply below_drew1 | refine below_set ?_ GE463.out | refine below_set ?_ GE483.out) | exact HB.out))) : w.heap.size ≤ gb484)); have n9_ := Aside0.mk ((by rw [hg]; exact Nat.ne_of_lt (blk_lt (g := gb463) (o := .cells #[.int .i64 a0_0, .slice A0_1 l0_1.length c0_1, .slice A0_2 l0_2.length c0_2] 26 (0, 0)) (by (with_reducible repeat (first | refine blk_drewN ?_ _ | refine blk_drew ?_ | refine blk_alloc ?_ _)); exact BK463.out)) : gb463 ≠ gb484)); have n10_ := Aside0.mk ((by rw [hg]; exact Nat.ne_of_gt (blk_lt (g := gb463) (o := .cells #[.int .i64 a0_0, .slice A0_1 l0_1.length c0_1, .slice A0_2 l0_2.length c0_2] 26 (0, 0)) (by (with_reducible repeat (first | refine blk_drewN ?_ _ | refine blk_drew ?_ | refine blk_alloc ?_ _)); exact BK463.out)) : gb484 ≠ gb463)); have n11_ := Aside0.mk ((by rw [hg]; exact Nat.ne_of_lt (blk_lt (g := gb483) (o := .cells #[.int .i64 0, .slice none 0 0, .slice none 0 0] 26 (0, 0)) (by (with_reducible repeat (first | refine blk_drewN ?_ _ | refine blk_drew ?_ | refine blk_alloc ?_ _)); exact BK483.out)) : gb483 ≠ gb484)); have n12_ := Aside0.mk ((by rw [hg]; exact Nat.ne_of_gt (blk_lt (g := gb483) (o := .cells #[.int .i64 0, .slice none 0 0, .slice none 0 0] 26 (0, 0)) (by (with_reducible repeat (first | refine blk_drewN ?_ _ | refine blk_drew ?_ | refine blk_alloc ?_ _)); exact BK483.out)) : gb484 ≠ gb483)); clear HO_3; clear HO477; clear HO480; clear BK463; clear BK483; clear HB; have HO_3 := n0_; have HO477 := n1_; have HO480 := n2_; have BK463 := n3_; have BK483 := n4_; have HB := n5_; have BK484 := n6_; have GW484 := n7_; have GE484 := n8_; have NB463_484 := n9_; have NB484_463 := n10_; have NB483_484 := n11_; have NB484_483 := n12_; clear n0_ n1_ n2_ n3_ n4_ n5_ n6_ n7_ n8_ n9_ n10_ n11_ n12_; clear hb hbox hg; have hnb26 := NB483_463.out; have hnc26 := NB463_483.out; have hnb27 := NB483_484.out; have hnc27 := NB484_483.out; have hcz28_0 : w25.cell? ⟨gb483, 0, none⟩ = some (.int .i64 0) := (blk_cell BK483.out 0).trans rfl; have hcz28_1 : w25.cell? ⟨gb483, 1, none⟩ = some (.slice none 0 0) := (blk_cell BK483.out 1).trans rfl; have hcz28_2 : w25.cell? ⟨gb483, 2, none⟩ = some (.slice none 0 0) := (blk_cell BK483.out 2).trans rfl; have hfz28_0 := blk_frozen BK483.out 0; have hfz28_1 := blk_frozen BK483.out 1; have hfz28_2 := blk_frozen BK483.out 2; obtain ⟨Ao29, co29, eo29⟩ := Kd.R_slice HO477.out; subst eo29; obtain ⟨Ao30, co30, eo30⟩ := Kd.S_slice HO480.out; subst eo30; have hnb31 := NB484_463.out; have hnc31 := NB463_484.out; have hcz32_0 : w25.cell? ⟨gb484, 0, none⟩ = some (.int .i64 0) := (blk_cell BK484.out 0).trans rfl; have hcz32_1 : w25.cell? ⟨gb484, 1, none⟩ = some (.int .i64 0) := (blk_cell BK484.out 1).trans rfl; have hfz32_0 := blk_frozen BK484.out 0; have hfz32_1 := blk_frozen BK484.out 1; have hcz33_0 : w25.cell? ⟨gb463, 0, none⟩ = some (.int .i64 a0_0) := (blk_cell BK463.out 0).trans rfl; have hcz33_1 : w25.cell? ⟨gb463, 1, none⟩ = some (.slice A0_1 l0_1.length c0_1) := (blk_cell BK463.out 1).trans rfl; have hcz33_2 : w25.cell? ⟨gb463, 2, none⟩ = some (.slice A0_2 l0_2.length c0_2) := (blk_cell BK463.out 2).trans rfl; have hfz33_0 := blk_frozen BK463.out 0; have hfz33_1 := blk_frozen BK463.out 1; have hfz33_2 := blk_frozen BK463.out 2) | (go_at_call 12; (with_reducible refine (casementref12_Same.calls kj5 t474 _ _ t475 _ _ t478 a0_0 _ _ l0_1 _ _ l0_2 t485 _ ?side1 ?side2 ?side3 ?side4 ?side5 ?side6 ?side7 ?side8 A21.out).mono ?_); (case side1 => refine (Kd.R_reads' (e := 5) (base := w.heap.size) (ok := fun k_ => (True ∧ some k_ ≠ (.slice Ao22 t465.length co22 : Value).ownBlock)) (n := t475.length) (c := co29) ?_).2.2; exact (by (with_reducible repeat (first | apply Kd.R_alloc | apply Kd.R_drewN | apply Kd.R_drew)); exact (Kd.R_mono (Kd.R_mono (Kd.R_far (p := ⟨gb484, 1, none⟩) (Kd.R_far (p := ⟨gb484, 0, none⟩) (Kd.R_far (p := ⟨gb483, 2, none⟩) (Kd.R_far (p := ⟨gb483, 1, none⟩) (Kd.R_far (p := ⟨gb483, 0, none⟩) (Kd.R_types (Kd.R_types HO477.out BK483.out (by decide)) BK484.out (by decide)) (fun _ hk => hk.1.2) (.int .i64 t474)) (fun _ hk => hk.1.2) (.slice Ao29 t475.length co29)) (fun _ hk => hk.1.2) (.slice Ao30 t478.length co30)) (fun _ hk => hk.2) (.int .i64 t481)) (fun _ hk => hk.2) (.int .i64 t482)) (fun _ h_ => h_.1)) (fun _ h_ => h_.1)))); (case side2 => exact (Kd.R_reads' HO477.out).2.1); (case side3 => refine (Kd.S_reads' (e := 44) (base := w.heap.size) (ok := fun k_ => True) (n := t478.length) (c := co30) ?_).2.2; exact (by (with_reducible repeat (first | apply Kd.S_alloc | apply Kd.S_drewN | apply Kd.S_drew)); exact (Kd.S_mono (Kd.S_mono (Kd.S_far (p := ⟨gb484, 1, none⟩) (Kd.S_far (p := ⟨gb484, 0, none⟩) (Kd.S_far (p := ⟨gb483, 2, none⟩) (Kd.S_far (p := ⟨gb483, 1, none⟩) (Kd.S_far (p := ⟨gb483, 0, none⟩) (Kd.S_types (Kd.S_types HO480.out BK483.out (by decide)) BK484.out (by decide)) (fun _ hk => hk.1.2) (.int .i64 t474)) (fun _ hk => hk.1.2) (.slice Ao29 t475.length co29)) (fun _ hk => hk.1.2) (.slice Ao30 t478.length co30)) (fun _ hk => hk.2) (.int .i64 t481)) (fun _ hk => hk.2) (.int .i64 t482)) (fun _ h_ => h_.1)) (fun _ h_ => h_.1)))); (case side4 => exact (Kd.S_reads' HO480.out).2.1); (case side5 => exact Kd.C_below HR0_1.out (by repeat (first | (with_reducible first | exact HB.out | apply below_alloc | apply pw_below_drewN | apply below_drew1 | refine below_set ?_ GE463.out | refine below_set ?_ GE483.out | refine below_set ?_ GE484.out) | exact HB.out))); (case side6 => exact HC0_1.out); (case side7 => exact Kd.C_below HR0_2.out (by repeat (first | (with_reducible first | exact HB.out | apply below_alloc | apply pw_below_drewN | apply below_drew1 | refine below_set ?_ GE463.out | refine below_set ?_ GE483.out | refine below_set ?_ GE484.out) | exact HB.out))); (case side8 => exact HC0_2.out); rintro e w34 ⟨rfl, hb⟩; have n0_ := Aside0.mk (Kd.R_below (by (with_reducible repeat (first | apply Kd.R_alloc | apply Kd.R_drewN | apply Kd.R_drew)); exact (Kd.R_mono (Kd.R_mono (Kd.R_far (p := ⟨gb484, 1, none⟩) (Kd.R_far (p := ⟨gb484, 0, none⟩) (Kd.R_far (p := ⟨gb483, 2, none⟩) (Kd.R_far (p := ⟨gb483, 1, none⟩) (Kd.R_far (p := ⟨gb483, 0, none⟩) (Kd.R_types (Kd.R_types HO_3.out BK483.out (by decide)) BK484.out (by decide)) (fun _ hk => hk.1.2) (.int .i64 t474)) (fun _ hk => hk.1.2) (.slice Ao29 t475.length co29)) (fun _ hk => hk.1.2) (.slice Ao30 t478.length co30)) (fun _ hk => hk.2) (.int .i64 t481)) (fun _ hk => hk.2) (.int .i64 t482)) (fun _ h_ => h_.1)) (fun _ h_ => h_.1))) hb); have n1_ := Aside0.mk (Kd.R_below (by (with_reducible repeat (first | apply Kd.R_alloc | apply Kd.R_drewN | apply Kd.R_drew)); exact (Kd.R_mono (Kd.R_mono (Kd.R_far (p := ⟨gb484, 1, none⟩) (Kd.R_far (p := ⟨gb484, 0, none⟩) (Kd.R_far (p := ⟨gb483, 2, none⟩) (Kd.R_far (p := ⟨gb483, 1, none⟩) (Kd.R_far (p := ⟨gb483, 0, none⟩) (Kd.R_types (Kd.R_types HO477.out BK483.out (by decide)) BK484.out (by decide)) (fun _ hk => hk.1.2) (.int .i64 t474)) (fun _ hk => hk.1.2) (.slice Ao29 t475.length co29)) (fun _ hk => hk.1.2) (.slice Ao30 t478.length co30)) (fun _ hk => hk.2) (.int .i64 t481)) (fun _ hk => hk.2) (.int .i64 t482)) (fun _ h_ => h_.1)) (fun _ h_ => h_.1))) hb); have n2_ := Aside0.mk (Kd.S_below (by (with_reducible repeat (first | apply Kd.S_alloc | apply Kd.S_drewN | apply Kd.S_drew)); exact (Kd.S_mono (Kd.S_mono (Kd.S_far (p := ⟨gb484, 1, none⟩) (Kd.S_far (p := ⟨gb484, 0, none⟩) (Kd.S_far (p := ⟨gb483, 2, none⟩) (Kd.S_far (p := ⟨gb483, 1, none⟩) (Kd.S_far (p := ⟨gb483, 0, none⟩) (Kd.S_types (Kd.S_types HO480.out BK483.out (by decide)) BK484.out (by decide)) (fun _ hk => hk.1.2) (.int .i64 t474)) (fun _ hk => hk.1.2) (.slice Ao29 t475.length co29)) (fun _ hk => hk.1.2) (.slice Ao30 t478.length co30)) (fun _ hk => hk.2) (.int .i64 t481)) (fun _ hk => hk.2) (.int .i64 t482)) (fun _ h_ => h_.1)) (fun _ h_ => h_.1))) hb); have n3_ := Aside0.mk (blk_below (g := gb463) (o := .cells #[.int .i64 a0_0, .slice A0_1 l0_1.length c0_1, .slice A0_2 l0_2.length c0_2] 26 (0, 0)) (by (with_reducible repeat (first | refine blk_drewN ?_ _ | refine blk_drew ?_ | refine blk_alloc ?_ _)); refine blk_far ?_ NB463_484.out _; (with_reducible repeat (first | refine blk_drewN ?_ _ | refine blk_drew ?_ | refine blk_alloc ?_ _)); refine blk_far ?_ NB463_484.out _; (with_reducible repeat (first | refine blk_drewN ?_ _ | refine blk_drew ?_ | refine blk_alloc ?_ _)); refine blk_far ?_ NB463_483.out _; (with_reducible repeat (first | refine blk_drewN ?_ _ | refine blk_drew ?_ | refine blk_alloc ?_ _)); refine blk_far ?_ NB463_483.out _; (with_reducible repeat (first | refine blk_drewN ?_ _ | refine blk_drew ?_ | refine blk_alloc ?_ _)); refine blk_far ?_ NB463_483.out _; (with_reducible repeat (first | refine blk_drewN ?_ _ | refine blk_drew ?_ | refine blk_alloc ?_ _)); exact BK463.out) hb); have n4_ := Aside0.mk (blk_below (g := gb483) (o := .cells #[.int .i64 t474, .slice Ao29 t475.length co29, .slice Ao30 t478.length co30] 26 (0, 0)) (by (with_reducible repeat (first | refine blk_drewN ?_ _ | refine blk_drew ?_ | refine blk_alloc ?_ _)); refine blk_far ?_ NB483_484.out _; (with_reducible repeat (first | refine blk_drewN ?_ _ | refine blk_drew ?_ | refine blk_alloc ?_ _)); refine blk_far ?_ NB483_484.out _; (with_reducible repeat (first | refine blk_drewN ?_ _ | refine blk_drew ?_ | refine blk_alloc ?_ _)); refine blk_put (cs := #[.int .i64 t474, .slice Ao29 t475.length co29, .slice none 0 0]) ?_ 2 _ rfl; (with_reducible repeat (first | refine blk_drewN ?_ _ | refine blk_drew ?_ | refine blk_alloc ?_ _)); refine blk_put (cs := #[.int .i64 t474, .slice none 0 0, .slice none 0 0]) ?_ 1 _ rfl; (with_reducible repeat (first | refine blk_drewN ?_ _ | refine blk_drew ?_ | refine blk_alloc ?_ _)); refine blk_put (cs := #[.int .i64 0, .slice none 0 0, .slice none 0 0]) ?_ 0 _ rfl; (with_reducible repeat (first | refine blk_drewN ?_ _ | refine blk_drew ?_ | refine blk_alloc ?_ _)); exact BK483.out) hb); have n5_ := Aside0.mk (blk_below (g := gb484) (o := .cells #[.int .i64 t481, .int .i64 t482] 29 (0, 0)) (by (with_reducible repeat (first | refine blk_drewN ?_ _ | refine blk_drew ?_ | refine blk_alloc ?_ _)); refine blk_put (cs := #[.int .i64 t481, .int .i64 0]) ?_ 1 _ rfl; (with_reducible repeat (first | refine blk_drewN ?_ _ | refine blk_drew ?_ | refine blk_alloc ?_ _)); refine blk_put (cs := #[.int .i64 0, .int .i64 0]) ?_ 0 _ rfl; (with_reducible repeat (first | refine blk_drewN ?_ _ | refine blk_drew ?_ | refine blk_alloc ?_ _)); refine blk_far ?_ NB484_483.out _; (with_reducible repeat (first | refine blk_drewN ?_ _ | refine blk_drew ?_ | refine blk_alloc ?_ _)); refine blk_far ?_ NB484_483.out _; (with_reducible repeat (first | refine blk_drewN ?_ _ | refine blk_drew ?_ | refine blk_alloc ?_ _)); refine blk_far ?_ NB484_483.out _; (with_reducible repeat (first | refine blk_drewN ?_ _ | refine blk_drew ?_ | refine blk_alloc ?_ _)); exact BK484.out) hb); have n6_ := Aside0.mk (below_step (by repeat (first | (with_reducible first | exact HB.out | apply below_alloc | apply pw_below_drewN | apply below_drew1 | refine below_set ?_ GE463.out | refine below_set ?_ GE483.out | refine below_set ?_ GE484.out) | exact HB.out)) hb); clear HO_3; clear HO477; clear HO480; clear BK463; clear BK483; clear BK484; clear HB; have HO_3 := n0_; have HO477 := n1_; have HO480 := n2_; have BK463 := n3_; have BK483 := n4_; have BK484 := n5_; have HB := n6_; clear n0_ n1_ n2_ n3_ n4_ n5_ n6_; (try clear hb); (try clear hb2); (try clear hk); (try clear hi)))
              go_ret
              exact ⟨by first | rfl | (simp [errW_none, errW_some] <;> rfl) | (simp [*, errW_none, errW_some] <;> rfl), by repeat (first | (with_reducible first | exact HB.out | apply below_alloc | apply pw_below_drewN | apply below_drew1 | refine below_set ?_ GE463.out | refine below_set ?_ GE483.out | refine below_set ?_ GE484.out) | exact HB.out)⟩
            · rw [if_neg c20] at H
              have c20b0 : (t481 == 0) = false := beq_eq_false_iff_ne.mpr c20
              have c20b1 : (t481 != 0) = true := bne_iff_ne.mpr c20
              exact absurd ((Option.some.inj H).trans HRT.out) (by decide)
          · rw [if_neg c18] at H
            have c18b0 : (t468 == 0) = false := beq_eq_false_iff_ne.mpr c18
            have c18b1 : (t468 != 0) = true := bne_iff_ne.mpr c18
            obtain rfl := Option.some.inj H
            obtain ⟨Ao35, co35, eo35⟩ := Kd.R_slice HO_3.out
            subst eo35
            go_wp2
            go_ret
            exact ⟨by first | rfl | (simp [errW_none, errW_some] <;> rfl) | (simp [*, errW_none, errW_some] <;> rfl), by repeat (first | (with_reducible first | exact HB.out | apply below_alloc | apply pw_below_drewN | apply below_drew1 | refine below_set ?_ GE463.out) | exact HB.out)⟩
  · replace c3 := Bool.eq_false_iff.mpr c3
    subst c3
    have H1 : (some false) = some r := by rw [if_neg (show ¬ (false = true) by decide)] at H; exact H
    clear H
    have H := H1
    clear H1
    exact absurd ((Option.some.inj H).trans HRT.out) (by decide)

def casementlaw12_ModuleEncodes.Pure : Prop := ∀ (a0_0 : Int) (l0_1 : List Int) (l0_2 : List (S44)), ((Lit.int .i64 a0_0).wf = true) → l0_1.length ≤ maxLen → l0_1.length * 1 ≤ 140737488351232 → (∀ y_ ∈ l0_1, (Lit.int .u8 y_).wf = true) → l0_2.length ≤ maxLen → l0_2.length * 48 ≤ 140737488351232 → (∀ y_ ∈ l0_2, okS44 y_) → ∃ k, casementlaw12_ModuleEncodes.f k a0_0 l0_1 l0_2 = some true
theorem casementlaw12_ModuleEncodes.walk (P : casementlaw12_ModuleEncodes.Pure) (a0_0 : Int) (A0_1 : Option Addr) (c0_1 : Nat) (l0_1 : List Int) (A0_2 : Option Addr) (c0_2 : Nat) (l0_2 : List (S44)) (w : World) (wl0 : ((Lit.int .i64 a0_0).wf = true)) (wl1 : l0_1.length ≤ maxLen) (wl2 : l0_1.length * 1 ≤ 140737488351232) (wl3 : (∀ y_ ∈ l0_1, (Lit.int .u8 y_).wf = true)) (wl4 : l0_2.length ≤ maxLen) (wl5 : l0_2.length * 48 ≤ 140737488351232) (wl6 : (∀ y_ ∈ l0_2, okS44 y_)) (hr0_1 : Kd.C (Kd.int .u8) w A0_1 l0_1.length l0_1) (hc0_1 : l0_1.length ≤ c0_1) (hr0_2 : Kd.C k44 w A0_2 l0_2.length l0_2) (hc0_2 : l0_2.length ≤ c0_2) :
    Calls Try.prog 4 #[.agg #[.int .i64 a0_0, .slice A0_1 l0_1.length c0_1, .slice A0_2 l0_2.length c0_2]] w fun e w' => e = .returned (.bool true) ∧ Below w.heap.size w w' := by
  obtain ⟨k, h⟩ := P a0_0 l0_1 l0_2 wl0 wl1 wl2 wl3 wl4 wl5 wl6
  refine (casementlaw12_ModuleEncodes.calls k a0_0 _ _ l0_1 _ _ l0_2 true w hr0_1 hc0_1 hr0_2 hc0_2 h rfl).mono ?_
  rintro e w' ⟨rfl, hd⟩
  exact ⟨rfl, hd⟩

end Go.Proofs.Ytbdkphjpdoajpaa.Q
