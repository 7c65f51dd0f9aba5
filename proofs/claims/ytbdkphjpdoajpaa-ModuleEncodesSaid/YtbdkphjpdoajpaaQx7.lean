-- written by a program of this session after the way of the kit's print; not the kit's own print. Lean checks it.
import Derived.Test.YtbdkphjpdoajpaaQx0
import Derived.Test.YtbdkphjpdoajpaaQx2
namespace Go.Proofs.Ytbdkphjpdoajpaa.Q
open Go.RowKit Go.Proofs.YtbdkphjpdoajpaaW.PrintWords Go.Proofs.YtbdkphjpdoajpaaW.PrintLast Go.Proofs.YtbdkphjpdoajpaaW.PrintMore
attribute [local go_sem] max2_int min2_int max_two min_two max_three min_three max_four min_four   -- for this text's walks alone
set_option linter.unusedVariables false
set_option linter.unusedSimpArgs false

/-! ### module_reader_number: function 28 -/
mutual
def module_reader_number.l0 : Nat → Int → Int → List Int → Int → Bool → Option (Int × Int × Bool)
  | 0, _, _, _, _, _ => none
  | k + 1, x3, x4, x1000, x1001, x1002 => if x1002 = true then (some (Go.bits .xor .i64 (wrap64 (x3 / 2)) (wrap64 (-(wrap64 (Go.bits .and .u64 x3 1)))), x1001, x1002)) else (if x4 = 63 then (module_reader_number.j1 k x3 x4 1 x1000 x1001 x1002) else (module_reader_number.j1 k x3 x4 255 x1000 x1001 x1002))
def module_reader_number.j1 : Nat → Int → Int → Int → List Int → Int → Bool → Option (Int × Int × Bool)
  | 0, _, _, _, _, _, _ => none
  | k + 1, x3, x4, x5, x1000, x1001, x1002 => (module_reader_next.f x1000 x1001 x1002 0 x5).bind fun bt119 => (if bt119.1 = 0 then (if x4 > 0 then (module_reader_number.j2 k x3 x4 bt119.1 (!bt119.2.2) x1000 bt119.2.1 bt119.2.2) else (module_reader_number.j2 k x3 x4 bt119.1 false x1000 bt119.2.1 bt119.2.2)) else (module_reader_number.j2 k x3 x4 bt119.1 false x1000 bt119.2.1 bt119.2.2))
def module_reader_number.j2 : Nat → Int → Int → Int → Bool → List Int → Int → Bool → Option (Int × Int × Bool)
  | 0, _, _, _, _, _, _, _ => none
  | k + 1, x3, x4, x6, x31, x1000, x1001, x1002 => if x31 = true then (if 0 ≤ x4 then (if x6 < 128 then (some (Go.bits .xor .i64 (wrap64 ((Go.bits .or .u64 x3 (shl .u64 (IntKind.u64.wrap (Go.bits .and .i64 x6 127)) x4)) / 2)) (wrap64 (-(wrap64 (Go.bits .and .u64 (Go.bits .or .u64 x3 (shl .u64 (IntKind.u64.wrap (Go.bits .and .i64 x6 127)) x4)) 1)))), wrap64 (x1001 - 1), true)) else (module_reader_number.l0 k (Go.bits .or .u64 x3 (shl .u64 (IntKind.u64.wrap (Go.bits .and .i64 x6 127)) x4)) (wrap64 (x4 + 7)) x1000 (wrap64 (x1001 - 1)) true)) else (none)) else (if 0 ≤ x4 then (if x6 < 128 then (some (Go.bits .xor .i64 (wrap64 ((Go.bits .or .u64 x3 (shl .u64 (IntKind.u64.wrap (Go.bits .and .i64 x6 127)) x4)) / 2)) (wrap64 (-(wrap64 (Go.bits .and .u64 (Go.bits .or .u64 x3 (shl .u64 (IntKind.u64.wrap (Go.bits .and .i64 x6 127)) x4)) 1)))), x1001, x1002)) else (module_reader_number.l0 k (Go.bits .or .u64 x3 (shl .u64 (IntKind.u64.wrap (Go.bits .and .i64 x6 127)) x4)) (wrap64 (x4 + 7)) x1000 x1001 x1002)) else (none))
end
def module_reader_number.f (k : Nat) (s0_0 : List Int) (s0_1 : Int) (s0_2 : Bool) : Option (Int × Int × Bool) := module_reader_number.l0 k 0 0 s0_0 s0_1 s0_2
theorem module_reader_number.mono_l : ∀ k, (∀ y0 y1 y2 y3 y4, LeO (module_reader_number.l0 k y0 y1 y2 y3 y4) (module_reader_number.l0 (k + 1) y0 y1 y2 y3 y4)) ∧ (∀ y0 y1 y2 y3 y4 y5, LeO (module_reader_number.j1 k y0 y1 y2 y3 y4 y5) (module_reader_number.j1 (k + 1) y0 y1 y2 y3 y4 y5)) ∧ (∀ y0 y1 y2 y3 y4 y5 y6, LeO (module_reader_number.j2 k y0 y1 y2 y3 y4 y5 y6) (module_reader_number.j2 (k + 1) y0 y1 y2 y3 y4 y5 y6))
  | 0 => ⟨fun _ _ _ _ _ r h => by simp [module_reader_number.l0] at h, fun _ _ _ _ _ _ r h => by simp [module_reader_number.j1] at h, fun _ _ _ _ _ _ _ r h => by simp [module_reader_number.j2] at h⟩
  | k + 1 => by
    obtain ⟨ih0, ih1, ih2⟩ := module_reader_number.mono_l k
    refine ⟨?_, ?_, ?_⟩
    · intro y0 y1 y2 y3 y4
      unfold module_reader_number.l0
      repeat' first
      | (with_reducible exact ih0 _ _ _ _ _)
      | (with_reducible exact ih1 _ _ _ _ _ _)
      | (with_reducible exact ih2 _ _ _ _ _ _ _)
      | (with_reducible exact LeO.refl _)
      | (with_reducible exact LeO.none _)
      | (with_reducible refine LeO.ite ?_ ?_)
      | (with_reducible refine LeO.bind ?_ (fun _ => ?_))
      | exact ih0 _ _ _ _ _
      | exact ih1 _ _ _ _ _ _
      | exact ih2 _ _ _ _ _ _ _
      | exact LeO.none _
      | refine LeO.ite ?_ ?_
      | refine LeO.bind ?_ (fun _ => ?_)
    · intro y0 y1 y2 y3 y4 y5
      unfold module_reader_number.j1
      repeat' first
      | (with_reducible exact ih0 _ _ _ _ _)
      | (with_reducible exact ih1 _ _ _ _ _ _)
      | (with_reducible exact ih2 _ _ _ _ _ _ _)
      | (with_reducible exact LeO.refl _)
      | (with_reducible exact LeO.none _)
      | (with_reducible refine LeO.ite ?_ ?_)
      | (with_reducible refine LeO.bind ?_ (fun _ => ?_))
      | exact ih0 _ _ _ _ _
      | exact ih1 _ _ _ _ _ _
      | exact ih2 _ _ _ _ _ _ _
      | exact LeO.none _
      | refine LeO.ite ?_ ?_
      | refine LeO.bind ?_ (fun _ => ?_)
    · intro y0 y1 y2 y3 y4 y5 y6
      unfold module_reader_number.j2
      repeat' first
      | (with_reducible exact ih0 _ _ _ _ _)
      | (with_reducible exact ih1 _ _ _ _ _ _)
      | (with_reducible exact ih2 _ _ _ _ _ _ _)
      | (with_reducible exact LeO.refl _)
      | (with_reducible exact LeO.none _)
      | (with_reducible refine LeO.ite ?_ ?_)
      | (with_reducible refine LeO.bind ?_ (fun _ => ?_))
      | exact ih0 _ _ _ _ _
      | exact ih1 _ _ _ _ _ _
      | exact ih2 _ _ _ _ _ _ _
      | exact LeO.none _
      | refine LeO.ite ?_ ?_
      | refine LeO.bind ?_ (fun _ => ?_)
theorem module_reader_number.mono : ∀ a0 a1 a2 k, LeO (module_reader_number.f k a0 a1 a2) (module_reader_number.f (k + 1) a0 a1 a2) := by
  intro a0 a1 a2 k
  obtain ⟨ih0, ih1, ih2⟩ := module_reader_number.mono_l k
  unfold module_reader_number.f
  repeat' first
      | (with_reducible exact ih0 _ _ _ _ _)
      | (with_reducible exact ih1 _ _ _ _ _ _)
      | (with_reducible exact ih2 _ _ _ _ _ _ _)
      | (with_reducible exact LeO.refl _)
      | (with_reducible exact LeO.none _)
      | (with_reducible refine LeO.ite ?_ ?_)
      | (with_reducible refine LeO.bind ?_ (fun _ => ?_))
      | exact ih0 _ _ _ _ _
      | exact ih1 _ _ _ _ _ _
      | exact ih2 _ _ _ _ _ _ _
      | exact LeO.none _
      | refine LeO.ite ?_ ?_
      | refine LeO.bind ?_ (fun _ => ?_)
set_option maxHeartbeats 8000000 in
set_option maxRecDepth 100000 in
theorem module_reader_number.calls (k : Nat) (g : Nat) (s0_0 : List Int) (s0_1 : Int) (s0_2 : Bool) (r1 : Int) (r2 : Int) (r3 : Bool) (w0 w : World) (hI : IsS52 w0 w g s0_0 s0_1 s0_2) (hB : Below w0.heap.size w0 w) (h : module_reader_number.f k s0_0 s0_1 s0_2 = some (r1, r2, r3)) :
    Calls Try.prog 28 #[.pointer (some ⟨g, 0, none⟩)] w fun e w' => e = .returned (.int .i64 r1) ∧ IsS52 w0 w' g s0_0 r2 r3 ∧ Below w0.heap.size w0 w' ∧ KeepBut w w' g none := by
  have HI0 := Aside0.mk hI
  have HK := Aside0.mk (KeepBut.refl w g none)
  have HL := Aside0.mk hB.size
  clear hI
  have HW0 := Aside0.mk hB.size
  have HB := Aside0.mk hB
  clear hB
  have H : (module_reader_number.l0 k 0 0 s0_0 s0_1 s0_2) = some (r1, r2, r3) := h
  clear h
  have H' := Aside0.mk H
  clear H
  go_enter Try.func28, Try.ntmps28
  go_wp2
  go_loopg [3, 4] k (fun kq v3 v4 w' => ∃ (x3_1 : Int) (x4_1 : Int) (x1001_1 : Int) (x1002_1 : Bool), v3 = .int .u64 x3_1 ∧ v4 = .int .i64 x4_1 ∧ Aside0 (module_reader_number.l0 kq x3_1 x4_1 s0_0 x1001_1 x1002_1 = some (r1, r2, r3)) ∧ Aside0 (kq ≤ k) ∧ Aside0 (IsS52 w0 w' g s0_0 x1001_1 x1002_1) ∧ Aside0 (KeepBut w w' g none) ∧ Aside0 (Below w0.heap.size w0 w'))
  case atStart => exact ⟨(0), (0), (s0_1), (s0_2), (by first | rfl | (simp; done) | (simp [*]; done)), (by first | rfl | (simp; done) | (simp [*]; done)), H', ⟨Nat.le_refl _⟩, ⟨by repeat (first | (with_reducible first | exact HI0.out | apply IsS52.alloc | apply IsS52.drewN | apply IsS52.drew | apply IsS52.set_1 | apply IsS52.set_2) | exact HI0.out)⟩, ⟨by repeat (first | (with_reducible first | exact HK.out | apply KeepBut.set_ | apply keep_drewN | apply keep_drew | apply keep_alloc) | exact HK.out)⟩, ⟨by repeat (first | (with_reducible first | exact HB.out | apply below_alloc | apply pw_below_drewN | apply below_drew1 | refine below_set ?_ (IsS52.ge HI0.out)) | exact HB.out)⟩⟩
  case round =>
    clear H'
    obtain ⟨x3_1, x4_1, x1001_1, x1002_1, rfl, rfl, HA, HK1, HI0, HK, HB⟩ := hrel
    cases gk with
    | zero => exact absurd HA.out (by simp [module_reader_number.l0])
    | succ k1 =>
      have H := HA.out
      clear HA
      simp only [module_reader_number.l0] at H
      by_cases c2 : x1002_1 = true
      · subst c2
        have H1 : (some (Go.bits .xor .i64 (wrap64 (x3_1 / 2)) (wrap64 (-(wrap64 (Go.bits .and .u64 x3_1 1)))), x1001_1, true)) = some (r1, r2, r3) := by rw [if_pos rfl] at H; exact H
        clear H
        have H := H1
        clear H1
        simp only [Option.some.injEq, Prod.mk.injEq] at H
        obtain ⟨rfl, rfl, rfl⟩ := H
        obtain ⟨ASz3_0, cSz3_0, HGz3, hgz3, HSz3_0⟩ := HI0.out
        have hcz3_0 := cellS52_0 HGz3
        have hcz3_1 := cellS52_1 HGz3
        have hcz3_2 := cellS52_2 HGz3
        have hfz3_1 := blk_frozen HGz3 1
        have hfz3_2 := blk_frozen HGz3 2
        clear HGz3 hgz3
        go_wp2
        go_ret
        exact ⟨by first | rfl | (simp [errW_none, errW_some] <;> rfl) | (simp [*, errW_none, errW_some] <;> rfl), by repeat (first | (with_reducible first | exact HI0.out | apply IsS52.alloc | apply IsS52.drewN | apply IsS52.drew | apply IsS52.set_1 | apply IsS52.set_2) | exact HI0.out), by repeat (first | (with_reducible first | exact HB.out | apply below_alloc | apply pw_below_drewN | apply below_drew1 | refine below_set ?_ (IsS52.ge HI0.out)) | exact HB.out), by repeat (first | (with_reducible first | exact HK.out | apply KeepBut.set_ | apply keep_drewN | apply keep_drew | apply keep_alloc) | exact HK.out)⟩
      · replace c2 := Bool.eq_false_iff.mpr c2
        subst c2
        have H1 : (if x4_1 = 63 then (module_reader_number.j1 k1 x3_1 x4_1 1 s0_0 x1001_1 false) else (module_reader_number.j1 k1 x3_1 x4_1 255 s0_0 x1001_1 false)) = some (r1, r2, r3) := by rw [if_neg (show ¬ (false = true) by decide)] at H; exact H
        clear H
        have H := H1
        clear H1
        have HC4 := Aside0.mk H
        clear H
        obtain ⟨ASz5_0, cSz5_0, HGz5, hgz5, HSz5_0⟩ := HI0.out
        have hcz5_0 := cellS52_0 HGz5
        have hcz5_1 := cellS52_1 HGz5
        have hcz5_2 := cellS52_2 HGz5
        have hfz5_1 := blk_frozen HGz5 1
        have hfz5_2 := blk_frozen HGz5 2
        clear HGz5 hgz5
        go_upto_if 15 with (fail)
        go_cut [5] (fun v5 wc => ∃ (kq : Nat) (x5_3 : Int), v5 = .int .i64 x5_3 ∧ Aside0 (module_reader_number.j1 kq x3_1 x4_1 x5_3 s0_0 x1001_1 false = some (r1, r2, r3)) ∧ Aside0 (kq ≤ k1) ∧ Aside0 (IsS52 w0 wc g s0_0 x1001_1 false) ∧ Aside0 (KeepBut w wc g none) ∧ Aside0 (Below w0.heap.size w0 wc))
        case first =>
          have H := HC4.out
          clear HC4
          by_cases c6 : x4_1 = 63
          · rw [if_pos c6] at H
            have c6b0 : (x4_1 == 63) = true := beq_iff_eq.mpr c6
            have c6b1 : (x4_1 != 63) = false := bne_eq_false_iff_eq.mpr c6
            clear c6
            (first | rw [c6b0] | (simp only [i64_w, i32_w]; rw [c6b0]) | skip)
            have H' := Aside0.mk H
            clear H
            go_wp2
            go_meet
            case rel => exact ⟨_, (1), (by first | rfl | (simp; done) | (simp [*]; done)), H', ⟨by have := HK1.out; first | omega | exact Nat.le_refl _⟩, ⟨by repeat (first | (with_reducible first | exact HI0.out | apply IsS52.alloc | apply IsS52.drewN | apply IsS52.drew | apply IsS52.set_1 | apply IsS52.set_2) | exact HI0.out)⟩, ⟨by repeat (first | (with_reducible first | exact HK.out | apply KeepBut.set_ | apply keep_drewN | apply keep_drew | apply keep_alloc) | exact HK.out)⟩, ⟨by repeat (first | (with_reducible first | exact HB.out | apply below_alloc | apply pw_below_drewN | apply below_drew1 | refine below_set ?_ (IsS52.ge HI0.out)) | exact HB.out)⟩⟩
          · rw [if_neg c6] at H
            have c6b0 : (x4_1 == 63) = false := beq_eq_false_iff_ne.mpr c6
            have c6b1 : (x4_1 != 63) = true := bne_iff_ne.mpr c6
            (first | rw [c6b0] | (simp only [i64_w, i32_w]; rw [c6b0]) | skip)
            have H' := Aside0.mk H
            clear H
            go_wp2
            go_meet
            case rel => exact ⟨_, (255), (by first | rfl | (simp; done) | (simp [*]; done)), H', ⟨by have := HK1.out; first | omega | exact Nat.le_refl _⟩, ⟨by repeat (first | (with_reducible first | exact HI0.out | apply IsS52.alloc | apply IsS52.drewN | apply IsS52.drew | apply IsS52.set_1 | apply IsS52.set_2) | exact HI0.out)⟩, ⟨by repeat (first | (with_reducible first | exact HK.out | apply KeepBut.set_ | apply keep_drewN | apply keep_drew | apply keep_alloc) | exact HK.out)⟩, ⟨by repeat (first | (with_reducible first | exact HB.out | apply below_alloc | apply pw_below_drewN | apply below_drew1 | refine below_set ?_ (IsS52.ge HI0.out)) | exact HB.out)⟩⟩
        case rest =>
          clear HC4
          try clear c2
          try clear p2
          try clear c6
          try clear c6b0
          try clear c6b1
          try clear p6
          try clear hcz3_0
          try clear hcz3_1
          try clear hcz3_2
          try clear hcz5_0
          try clear hcz5_1
          try clear hcz5_2
          try clear hfz3_1
          try clear hfz3_2
          try clear hfz5_1
          try clear hfz5_2
          obtain ⟨kq, x5_3, rfl, HA, HJ3, HI0, HK, HB⟩ := hcut
          cases kq with
          | zero => exact absurd HA.out (by simp [module_reader_number.j1])
          | succ kj3 =>
            have H := HA.out
            clear HA
            simp only [module_reader_number.j1] at H
            replace H := Option.bind_eq_some_iff.mp H
            obtain ⟨⟨t119, t120, t121⟩, A70, H⟩ := H
            replace H : (if t119 = 0 then (if x4_1 > 0 then (module_reader_number.j2 kj3 x3_1 x4_1 t119 (!t121) s0_0 t120 t121) else (module_reader_number.j2 kj3 x3_1 x4_1 t119 false s0_0 t120 t121)) else (module_reader_number.j2 kj3 x3_1 x4_1 t119 false s0_0 t120 t121)) = some (r1, r2, r3) := H
            have A7 := Aside0.mk A70
            clear A70
            have HC8 := Aside0.mk H
            clear H
            go_upto_region 9 with (first | ((with_reducible refine gate_callee (f := 17) rfl ?_); refine goesL_ (some 18) rfl rfl Try.func17 (by kernel_rfl) rfl #[.pointer (some ⟨g, 0, none⟩), .int .i64 0, .int .i64 x5_3] rfl (by (try simp only [List.map_toArray, List.map_cons, List.map_nil]); first | done | rfl | (simp only [List.length_drop, List.length_take]; rfl)) ?_; (with_reducible refine (module_reader_next.calls g s0_0 x1001_1 false 0 x5_3 t119 t120 t121 w0 _ ?side1 ?side2 A7.out).mono ?_); (case side1 => repeat (first | (with_reducible first | exact HI0.out | apply IsS52.alloc | apply IsS52.drewN | apply IsS52.drew | apply IsS52.set_1 | apply IsS52.set_2) | exact HI0.out)); (case side2 => repeat (first | (with_reducible first | exact HB.out | apply below_alloc | apply pw_below_drewN | apply below_drew1 | refine below_set ?_ (IsS52.ge HI0.out)) | exact HB.out)); rintro e w9 ⟨rfl, hi, hb, hk⟩; refine ⟨_, rfl, ?_⟩; have n0_ := Aside0.mk (KeepBut.trans (by repeat (first | (with_reducible first | exact HK.out | apply KeepBut.set_ | apply keep_drewN | apply keep_drew | apply keep_alloc) | exact HK.out)) hk (.inl rfl)); have n1_ := Aside0.mk (hb); have n2_ := Aside0.mk (hi); clear HK; clear HB; clear HI0; have HK := n0_; have HB := n1_; have HI0 := n2_; clear n0_ n1_ n2_; (try clear hb); (try clear hb2); (try clear hk); (try clear hi)))
            (try simp only [Act.put, List.setIfInBounds_toArray, List.set_cons_zero, List.set_cons_succ])
            go_cut [31] (fun v31 wc => ∃ (kq : Nat) (x31_7 : Bool), v31 = .bool x31_7 ∧ Aside0 (module_reader_number.j2 kq x3_1 x4_1 t119 x31_7 s0_0 t120 t121 = some (r1, r2, r3)) ∧ Aside0 (kq ≤ kj3) ∧ Aside0 (IsS52 w0 wc g s0_0 t120 t121) ∧ Aside0 (KeepBut w wc g none) ∧ Aside0 (Below w0.heap.size w0 wc))
            case first =>
              have H := HC8.out
              clear HC8
              by_cases c10 : t119 = 0
              · rw [if_pos c10] at H
                have c10b0 : (t119 == 0) = true := beq_iff_eq.mpr c10
                have c10b1 : (t119 != 0) = false := bne_eq_false_iff_eq.mpr c10
                clear c10
                (first | rw [c10b0] | (simp only [i64_w, i32_w]; rw [c10b0]) | skip)
                by_cases c11 : x4_1 > 0
                · rw [if_pos c11] at H
                  have c11b0 : decide (0 < x4_1) = true := decide_eq_true c11
                  clear c11
                  have H' := Aside0.mk H
                  clear H
                  obtain ⟨ASz12_0, cSz12_0, HGz12, hgz12, HSz12_0⟩ := HI0.out
                  have hcz12_0 := cellS52_0 HGz12
                  have hcz12_1 := cellS52_1 HGz12
                  have hcz12_2 := cellS52_2 HGz12
                  have hfz12_1 := blk_frozen HGz12 1
                  have hfz12_2 := blk_frozen HGz12 2
                  clear HGz12 hgz12
                  go_wp2
                  go_meet
                  case rel => exact ⟨_, (!t121), (by first | rfl | (simp; done) | (simp [*]; done)), H', ⟨by have := HK1.out; have := HJ3.out; first | omega | exact Nat.le_refl _⟩, ⟨by repeat (first | (with_reducible first | exact HI0.out | apply IsS52.alloc | apply IsS52.drewN | apply IsS52.drew | apply IsS52.set_1 | apply IsS52.set_2) | exact HI0.out)⟩, ⟨by repeat (first | (with_reducible first | exact HK.out | apply KeepBut.set_ | apply keep_drewN | apply keep_drew | apply keep_alloc) | exact HK.out)⟩, ⟨by repeat (first | (with_reducible first | exact HB.out | apply below_alloc | apply pw_below_drewN | apply below_drew1 | refine below_set ?_ (IsS52.ge HI0.out)) | exact HB.out)⟩⟩
                · rw [if_neg c11] at H
                  have c11b0 : decide (0 < x4_1) = false := decide_eq_false c11
                  clear c11
                  have H' := Aside0.mk H
                  clear H
                  go_wp2
                  go_meet
                  case rel => exact ⟨_, (false), (by first | rfl | (simp; done) | (simp [*]; done)), H', ⟨by have := HK1.out; have := HJ3.out; first | omega | exact Nat.le_refl _⟩, ⟨by repeat (first | (with_reducible first | exact HI0.out | apply IsS52.alloc | apply IsS52.drewN | apply IsS52.drew | apply IsS52.set_1 | apply IsS52.set_2) | exact HI0.out)⟩, ⟨by repeat (first | (with_reducible first | exact HK.out | apply KeepBut.set_ | apply keep_drewN | apply keep_drew | apply keep_alloc) | exact HK.out)⟩, ⟨by repeat (first | (with_reducible first | exact HB.out | apply below_alloc | apply pw_below_drewN | apply below_drew1 | refine below_set ?_ (IsS52.ge HI0.out)) | exact HB.out)⟩⟩
              · rw [if_neg c10] at H
                have c10b0 : (t119 == 0) = false := beq_eq_false_iff_ne.mpr c10
                have c10b1 : (t119 != 0) = true := bne_iff_ne.mpr c10
                (first | rw [c10b0] | (simp only [i64_w, i32_w]; rw [c10b0]) | skip)
                have H' := Aside0.mk H
                clear H
                go_wp2
                go_meet
                case rel => exact ⟨_, (false), (by first | rfl | (simp; done) | (simp [*]; done)), H', ⟨by have := HK1.out; have := HJ3.out; first | omega | exact Nat.le_refl _⟩, ⟨by repeat (first | (with_reducible first | exact HI0.out | apply IsS52.alloc | apply IsS52.drewN | apply IsS52.drew | apply IsS52.set_1 | apply IsS52.set_2) | exact HI0.out)⟩, ⟨by repeat (first | (with_reducible first | exact HK.out | apply KeepBut.set_ | apply keep_drewN | apply keep_drew | apply keep_alloc) | exact HK.out)⟩, ⟨by repeat (first | (with_reducible first | exact HB.out | apply below_alloc | apply pw_below_drewN | apply below_drew1 | refine below_set ?_ (IsS52.ge HI0.out)) | exact HB.out)⟩⟩
            case rest =>
              clear HC8
              try clear c1
              try clear c2
              try clear p2
              try clear c6
              try clear c6b0
              try clear c6b1
              try clear p6
              try clear c10
              try clear c10b0
              try clear c10b1
              try clear c11
              try clear c11b0
              try clear hcz12_0
              try clear hcz12_1
              try clear hcz12_2
              try clear hcz3_0
              try clear hcz3_1
              try clear hcz3_2
              try clear hcz5_0
              try clear hcz5_1
              try clear hcz5_2
              try clear hfz12_1
              try clear hfz12_2
              try clear hfz3_1
              try clear hfz3_2
              try clear hfz5_1
              try clear hfz5_2
              try clear p2
              try clear p6
              obtain ⟨kq, x31_7, rfl, HA, HJ7, HI0, HK, HB⟩ := hcut
              cases kq with
              | zero => exact absurd HA.out (by simp [module_reader_number.j2])
              | succ kj7 =>
                have H := HA.out
                clear HA
                simp only [module_reader_number.j2] at H
                by_cases c13 : x31_7 = true
                · subst c13
                  have H1 : (if 0 ≤ x4_1 then (if t119 < 128 then (some (Go.bits .xor .i64 (wrap64 ((Go.bits .or .u64 x3_1 (shl .u64 (IntKind.u64.wrap (Go.bits .and .i64 t119 127)) x4_1)) / 2)) (wrap64 (-(wrap64 (Go.bits .and .u64 (Go.bits .or .u64 x3_1 (shl .u64 (IntKind.u64.wrap (Go.bits .and .i64 t119 127)) x4_1)) 1)))), wrap64 (t120 - 1), true)) else (module_reader_number.l0 kj7 (Go.bits .or .u64 x3_1 (shl .u64 (IntKind.u64.wrap (Go.bits .and .i64 t119 127)) x4_1)) (wrap64 (x4_1 + 7)) s0_0 (wrap64 (t120 - 1)) true)) else (none)) = some (r1, r2, r3) := by rw [if_pos rfl] at H; exact H
                  clear H
                  have H := H1
                  clear H1
                  by_cases c14 : 0 ≤ x4_1
                  · rw [if_pos c14] at H
                    have c14b0 := eq_true c14
                    have c14b1 : decide (0 ≤ x4_1) = true := decide_eq_true c14
                    clear c14
                    obtain ⟨ji15, hji15⟩ : ∃ j_ : Int, (shl .u64 (IntKind.u64.wrap (Go.bits .and .i64 t119 127)) x4_1) = j_ := ⟨_, rfl⟩
                    replace H : (if t119 < 128 then (some (Go.bits .xor .i64 (wrap64 ((Go.bits .or .u64 x3_1 (ji15)) / 2)) (wrap64 (-(wrap64 (Go.bits .and .u64 (Go.bits .or .u64 x3_1 (ji15)) 1)))), wrap64 (t120 - 1), true)) else (module_reader_number.l0 kj7 (Go.bits .or .u64 x3_1 (ji15)) (wrap64 (x4_1 + 7)) s0_0 (wrap64 (t120 - 1)) true)) = some (r1, r2, r3) := by first | (rw [hji15] at H; exact H) | (simp only [hji15] at H ⊢; exact H)
                    have hji15_ : (IntKind.u64.wrap ((IntKind.u64.wrap (Go.bits .and .i64 t119 127)) * 2 ^ min x4_1.toNat 64)) = ji15 := hji15
                    have hji15z : x4_1 ≤ 64 → (IntKind.u64.wrap ((IntKind.u64.wrap (Go.bits .and .i64 t119 127)) * 2 ^ x4_1.toNat)) = ji15 := shl_small hji15
                    by_cases c16 : t119 < 128
                    · rw [if_pos c16] at H
                      have c16b0 : decide (t119 < 128) = true := decide_eq_true c16
                      clear c16
                      simp only [Option.some.injEq, Prod.mk.injEq] at H
                      obtain ⟨rfl, rfl, rfl⟩ := H
                      obtain ⟨ASz17_0, cSz17_0, HGz17, hgz17, HSz17_0⟩ := HI0.out
                      have hcz17_0 := cellS52_0 HGz17
                      have hcz17_1 := cellS52_1 HGz17
                      have hcz17_2 := cellS52_2 HGz17
                      have hfz17_1 := blk_frozen HGz17 1
                      have hfz17_2 := blk_frozen HGz17 2
                      clear HGz17 hgz17
                      go_wp2
                      go_ret
                      exact ⟨by first | rfl | (simp [errW_none, errW_some] <;> rfl) | (simp only [← hji15]; first | rfl | (simp [errW_none, errW_some] <;> rfl)) | (simp [*, errW_none, errW_some] <;> rfl), by repeat (first | (with_reducible first | exact HI0.out | apply IsS52.alloc | apply IsS52.drewN | apply IsS52.drew | apply IsS52.set_1 | apply IsS52.set_2) | exact HI0.out), by repeat (first | (with_reducible first | exact HB.out | apply below_alloc | apply pw_below_drewN | apply below_drew1 | refine below_set ?_ (IsS52.ge HI0.out)) | exact HB.out), by repeat (first | (with_reducible first | exact HK.out | apply KeepBut.set_ | apply keep_drewN | apply keep_drew | apply keep_alloc) | exact HK.out)⟩
                    · rw [if_neg c16] at H
                      have c16b0 : decide (t119 < 128) = false := decide_eq_false c16
                      clear c16
                      have H' := Aside0.mk H
                      clear H
                      obtain ⟨ASz18_0, cSz18_0, HGz18, hgz18, HSz18_0⟩ := HI0.out
                      have hcz18_0 := cellS52_0 HGz18
                      have hcz18_1 := cellS52_1 HGz18
                      have hcz18_2 := cellS52_2 HGz18
                      have hfz18_1 := blk_frozen HGz18 1
                      have hfz18_2 := blk_frozen HGz18 2
                      clear HGz18 hgz18
                      go_wp2
                      go_roundg kj7
                      case measure => have := HK1.out; have := HJ3.out; have := HJ7.out; omega
                      case rel => exact ⟨(Go.bits .or .u64 x3_1 (ji15)), (wrap64 (x4_1 + 7)), (wrap64 (t120 - 1)), (true), (by first | rfl | (simp; done) | (simp only [← hji15] <;> (first | rfl | simp)) | (simp [*]; done)), (by first | rfl | (simp; done) | (simp [*]; done)), H', ⟨by have := HK1.out; have := HJ3.out; have := HJ7.out; omega⟩, ⟨by repeat (first | (with_reducible first | exact HI0.out | apply IsS52.alloc | apply IsS52.drewN | apply IsS52.drew | apply IsS52.set_1 | apply IsS52.set_2) | exact HI0.out)⟩, ⟨by repeat (first | (with_reducible first | exact HK.out | apply KeepBut.set_ | apply keep_drewN | apply keep_drew | apply keep_alloc) | exact HK.out)⟩, ⟨by repeat (first | (with_reducible first | exact HB.out | apply below_alloc | apply pw_below_drewN | apply below_drew1 | refine below_set ?_ (IsS52.ge HI0.out)) | exact HB.out)⟩⟩
                  · rw [if_neg c14] at H
                    exact absurd H (by simp)
                · replace c13 := Bool.eq_false_iff.mpr c13
                  subst c13
                  have H1 : (if 0 ≤ x4_1 then (if t119 < 128 then (some (Go.bits .xor .i64 (wrap64 ((Go.bits .or .u64 x3_1 (shl .u64 (IntKind.u64.wrap (Go.bits .and .i64 t119 127)) x4_1)) / 2)) (wrap64 (-(wrap64 (Go.bits .and .u64 (Go.bits .or .u64 x3_1 (shl .u64 (IntKind.u64.wrap (Go.bits .and .i64 t119 127)) x4_1)) 1)))), t120, t121)) else (module_reader_number.l0 kj7 (Go.bits .or .u64 x3_1 (shl .u64 (IntKind.u64.wrap (Go.bits .and .i64 t119 127)) x4_1)) (wrap64 (x4_1 + 7)) s0_0 t120 t121)) else (none)) = some (r1, r2, r3) := by rw [if_neg (show ¬ (false = true) by decide)] at H; exact H
                  clear H
                  have H := H1
                  clear H1
                  by_cases c19 : 0 ≤ x4_1
                  · rw [if_pos c19] at H
                    have c19b0 := eq_true c19
                    have c19b1 : decide (0 ≤ x4_1) = true := decide_eq_true c19
                    clear c19
                    obtain ⟨ji20, hji20⟩ : ∃ j_ : Int, (shl .u64 (IntKind.u64.wrap (Go.bits .and .i64 t119 127)) x4_1) = j_ := ⟨_, rfl⟩
                    replace H : (if t119 < 128 then (some (Go.bits .xor .i64 (wrap64 ((Go.bits .or .u64 x3_1 (ji20)) / 2)) (wrap64 (-(wrap64 (Go.bits .and .u64 (Go.bits .or .u64 x3_1 (ji20)) 1)))), t120, t121)) else (module_reader_number.l0 kj7 (Go.bits .or .u64 x3_1 (ji20)) (wrap64 (x4_1 + 7)) s0_0 t120 t121)) = some (r1, r2, r3) := by first | (rw [hji20] at H; exact H) | (simp only [hji20] at H ⊢; exact H)
                    have hji20_ : (IntKind.u64.wrap ((IntKind.u64.wrap (Go.bits .and .i64 t119 127)) * 2 ^ min x4_1.toNat 64)) = ji20 := hji20
                    have hji20z : x4_1 ≤ 64 → (IntKind.u64.wrap ((IntKind.u64.wrap (Go.bits .and .i64 t119 127)) * 2 ^ x4_1.toNat)) = ji20 := shl_small hji20
                    by_cases c21 : t119 < 128
                    · rw [if_pos c21] at H
                      have c21b0 : decide (t119 < 128) = true := decide_eq_true c21
                      clear c21
                      simp only [Option.some.injEq, Prod.mk.injEq] at H
                      obtain ⟨rfl, rfl, rfl⟩ := H
                      go_wp2
                      go_ret
                      exact ⟨by first | rfl | (simp [errW_none, errW_some] <;> rfl) | (simp only [← hji20]; first | rfl | (simp [errW_none, errW_some] <;> rfl)) | (simp [*, errW_none, errW_some] <;> rfl), by repeat (first | (with_reducible first | exact HI0.out | apply IsS52.alloc | apply IsS52.drewN | apply IsS52.drew | apply IsS52.set_1 | apply IsS52.set_2) | exact HI0.out), by repeat (first | (with_reducible first | exact HB.out | apply below_alloc | apply pw_below_drewN | apply below_drew1 | refine below_set ?_ (IsS52.ge HI0.out)) | exact HB.out), by repeat (first | (with_reducible first | exact HK.out | apply KeepBut.set_ | apply keep_drewN | apply keep_drew | apply keep_alloc) | exact HK.out)⟩
                    · rw [if_neg c21] at H
                      have c21b0 : decide (t119 < 128) = false := decide_eq_false c21
                      clear c21
                      have H' := Aside0.mk H
                      clear H
                      go_wp2
                      go_roundg kj7
                      case measure => have := HK1.out; have := HJ3.out; have := HJ7.out; omega
                      case rel => exact ⟨(Go.bits .or .u64 x3_1 (ji20)), (wrap64 (x4_1 + 7)), (t120), (t121), (by first | rfl | (simp; done) | (simp only [← hji20] <;> (first | rfl | simp)) | (simp [*]; done)), (by first | rfl | (simp; done) | (simp [*]; done)), H', ⟨by have := HK1.out; have := HJ3.out; have := HJ7.out; omega⟩, ⟨by repeat (first | (with_reducible first | exact HI0.out | apply IsS52.alloc | apply IsS52.drewN | apply IsS52.drew | apply IsS52.set_1 | apply IsS52.set_2) | exact HI0.out)⟩, ⟨by repeat (first | (with_reducible first | exact HK.out | apply KeepBut.set_ | apply keep_drewN | apply keep_drew | apply keep_alloc) | exact HK.out)⟩, ⟨by repeat (first | (with_reducible first | exact HB.out | apply below_alloc | apply pw_below_drewN | apply below_drew1 | refine below_set ?_ (IsS52.ge HI0.out)) | exact HB.out)⟩⟩
                  · rw [if_neg c19] at H
                    exact absurd H (by simp)

end Go.Proofs.Ytbdkphjpdoajpaa.Q
