-- written by a program of this session after the way of the kit's print; not the kit's own print. Lean checks it.
import Derived.Test.YtbdkphjpdoajpaaQx0
import Derived.Test.YtbdkphjpdoajpaaQx9
import Derived.Test.YtbdkphjpdoajpaaQx12
import Derived.Test.YtbdkphjpdoajpaaQx13
namespace Go.Proofs.Ytbdkphjpdoajpaa.Q
open Go.RowKit Go.Proofs.YtbdkphjpdoajpaaW.PrintWords Go.Proofs.YtbdkphjpdoajpaaW.PrintLast Go.Proofs.YtbdkphjpdoajpaaW.PrintMore
attribute [local go_sem] max2_int min2_int max_two min_two max_three min_three max_four min_four   -- for this text's walks alone
set_option linter.unusedVariables false
set_option linter.unusedSimpArgs false

/-! ### casementlaw12_ModuleNumbers: function 8 -/
mutual
def casementlaw12_ModuleNumbers.j0 : Nat → Int → List Int → Int → Option (Bool)
  | 0, _, _, _ => none
  | k + 1, x0, x3, x5 => casementlaw12_ModuleNumbers.l0 k x0 x3 1 (x5 / 128)
def casementlaw12_ModuleNumbers.l0 : Nat → Int → List Int → Int → Int → Option (Bool)
  | 0, _, _, _, _ => none
  | k + 1, x0, x3, x6, x7 => if x7 > 0 then (casementlaw12_ModuleNumbers.l0 k x0 x3 (wrap64 (x6 + 1)) (x7 / 128)) else (if (x3.length : Int) = (wrap64 (15 + x6)) then (if 14 < (x3.length : Int) then (if (rd x3 14) = 1 then (if 0 ≤ (wrap64 ((x3.length : Int) - 1)) then (if (wrap64 ((x3.length : Int) - 1)) < (x3.length : Int) then (casementlaw12_ModuleNumbers.j2 k x0 x3 x6 (decide ((rd x3 (wrap64 ((x3.length : Int) - 1))) ≥ 128))) else (none)) else (none)) else (casementlaw12_ModuleNumbers.j2 k x0 x3 x6 true)) else (none)) else (casementlaw12_ModuleNumbers.j2 k x0 x3 x6 true))
def casementlaw12_ModuleNumbers.j2 : Nat → Int → List Int → Int → Bool → Option (Bool)
  | 0, _, _, _, _ => none
  | k + 1, x0, x3, x6, x61 => if x61 = true then (some false) else ((module_Decode.f k x3).bind fun bt606 => (if bt606.2.2.2.1 = 0 then (if 0 < (bt606.2.2.1.length : Int) then (if 0 < (((rd_T44 bt606.2.2.1 0).f3).length : Int) then (casementlaw12_ModuleNumbers.j3 k x3 x6 (((rd_T41 ((rd_T44 bt606.2.2.1 0).f3) 0).f1) != x0)) else (none)) else (none)) else (casementlaw12_ModuleNumbers.j3 k x3 x6 true)))
def casementlaw12_ModuleNumbers.j3 : Nat → List Int → Int → Bool → Option (Bool)
  | 0, _, _, _ => none
  | k + 1, x3, x6, x81 => if x81 = true then (some false) else (if x6 = 10 then (if 0 ≤ (wrap64 ((x3.length : Int) - 1)) then (if (wrap64 ((x3.length : Int) - 1)) < (x3.length : Int) then (some ((rd x3 (wrap64 ((x3.length : Int) - 1))) == 1)) else (none)) else (none)) else ((some (([] : List Int) : List Int)).bind fun y620 => (if y620.length + x3.length < 140737488355328 then ((some (y620 ++ x3 : List Int)).bind fun y623 => (if 0 ≤ (wrap64 ((y623.length : Int) - 1)) then (if (wrap64 ((y623.length : Int) - 1)) < (y623.length : Int) then ((some (y623.set ((wrap64 ((y623.length : Int) - 1)) : Int).toNat (((rd y623 (wrap64 ((y623.length : Int) - 1))) + 128) % 256) : List Int)).bind fun y627 => (if y627.length < 140737488355328 then ((module_Decode.f k (y627 ++ [0])).bind fun bt631 => (if bt631.2.2.2.1 = 120 then (some (bt631.2.2.2.2 == (x3.length : Int))) else (some false))) else (none))) else (none)) else (none))) else (none))))
end
def casementlaw12_ModuleNumbers.f (k : Nat) (a0 : Int) : Option (Bool) := (casementlaw12_alive.f k).bind fun t593 => (if t593 = true then ((module_Encode.f k 0 ([] : List Int) (([(⟨0, 0, 0, (([(⟨1, a0⟩ : S41)] : List (S41)))⟩ : S44)] : List (S44)))).bind fun bt600 => (if bt600.2 = 0 then (if a0 < 0 then (casementlaw12_ModuleNumbers.j0 k a0 bt600.1 (Go.bits .xor .u64 18446744073709551615 (IntKind.u64.wrap ((IntKind.u64.wrap (a0)) * 2)))) else (casementlaw12_ModuleNumbers.j0 k a0 bt600.1 (IntKind.u64.wrap ((IntKind.u64.wrap (a0)) * 2)))) else (some false))) else (some false))
theorem casementlaw12_ModuleNumbers.mono_l : ∀ k, (∀ y0 y1 y2, LeO (casementlaw12_ModuleNumbers.j0 k y0 y1 y2) (casementlaw12_ModuleNumbers.j0 (k + 1) y0 y1 y2)) ∧ (∀ y0 y1 y2 y3, LeO (casementlaw12_ModuleNumbers.l0 k y0 y1 y2 y3) (casementlaw12_ModuleNumbers.l0 (k + 1) y0 y1 y2 y3)) ∧ (∀ y0 y1 y2 y3, LeO (casementlaw12_ModuleNumbers.j2 k y0 y1 y2 y3) (casementlaw12_ModuleNumbers.j2 (k + 1) y0 y1 y2 y3)) ∧ (∀ y0 y1 y2, LeO (casementlaw12_ModuleNumbers.j3 k y0 y1 y2) (casementlaw12_ModuleNumbers.j3 (k + 1) y0 y1 y2))
  | 0 => ⟨fun _ _ _ r h => by simp [casementlaw12_ModuleNumbers.j0] at h, fun _ _ _ _ r h => by simp [casementlaw12_ModuleNumbers.l0] at h, fun _ _ _ _ r h => by simp [casementlaw12_ModuleNumbers.j2] at h, fun _ _ _ r h => by simp [casementlaw12_ModuleNumbers.j3] at h⟩
  | k + 1 => by
    obtain ⟨ih0, ih1, ih2, ih3⟩ := casementlaw12_ModuleNumbers.mono_l k
    refine ⟨?_, ?_, ?_, ?_⟩
    · intro y0 y1 y2
      unfold casementlaw12_ModuleNumbers.j0
      repeat' first
      | (with_reducible exact ih0 _ _ _)
      | (with_reducible exact ih1 _ _ _ _)
      | (with_reducible exact ih2 _ _ _ _)
      | (with_reducible exact ih3 _ _ _)
      | (with_reducible exact casementlaw12_alive.mono _)
      | (with_reducible exact module_Decode.mono _ _)
      | (with_reducible exact module_Encode.mono _ _ _ _)
      | (with_reducible exact LeO.refl _)
      | (with_reducible exact LeO.none _)
      | (with_reducible refine LeO.ite ?_ ?_)
      | (with_reducible refine LeO.bind ?_ (fun _ => ?_))
      | exact ih0 _ _ _
      | exact ih1 _ _ _ _
      | exact ih2 _ _ _ _
      | exact ih3 _ _ _
      | exact casementlaw12_alive.mono _
      | exact module_Decode.mono _ _
      | exact module_Encode.mono _ _ _ _
      | exact LeO.none _
      | refine LeO.ite ?_ ?_
      | refine LeO.bind ?_ (fun _ => ?_)
    · intro y0 y1 y2 y3
      unfold casementlaw12_ModuleNumbers.l0
      repeat' first
      | (with_reducible exact ih0 _ _ _)
      | (with_reducible exact ih1 _ _ _ _)
      | (with_reducible exact ih2 _ _ _ _)
      | (with_reducible exact ih3 _ _ _)
      | (with_reducible exact casementlaw12_alive.mono _)
      | (with_reducible exact module_Decode.mono _ _)
      | (with_reducible exact module_Encode.mono _ _ _ _)
      | (with_reducible exact LeO.refl _)
      | (with_reducible exact LeO.none _)
      | (with_reducible refine LeO.ite ?_ ?_)
      | (with_reducible refine LeO.bind ?_ (fun _ => ?_))
      | exact ih0 _ _ _
      | exact ih1 _ _ _ _
      | exact ih2 _ _ _ _
      | exact ih3 _ _ _
      | exact casementlaw12_alive.mono _
      | exact module_Decode.mono _ _
      | exact module_Encode.mono _ _ _ _
      | exact LeO.none _
      | refine LeO.ite ?_ ?_
      | refine LeO.bind ?_ (fun _ => ?_)
    · intro y0 y1 y2 y3
      unfold casementlaw12_ModuleNumbers.j2
      repeat' first
      | (with_reducible exact ih0 _ _ _)
      | (with_reducible exact ih1 _ _ _ _)
      | (with_reducible exact ih2 _ _ _ _)
      | (with_reducible exact ih3 _ _ _)
      | (with_reducible exact casementlaw12_alive.mono _)
      | (with_reducible exact module_Decode.mono _ _)
      | (with_reducible exact module_Encode.mono _ _ _ _)
      | (with_reducible exact LeO.refl _)
      | (with_reducible exact LeO.none _)
      | (with_reducible refine LeO.ite ?_ ?_)
      | (with_reducible refine LeO.bind ?_ (fun _ => ?_))
      | exact ih0 _ _ _
      | exact ih1 _ _ _ _
      | exact ih2 _ _ _ _
      | exact ih3 _ _ _
      | exact casementlaw12_alive.mono _
      | exact module_Decode.mono _ _
      | exact module_Encode.mono _ _ _ _
      | exact LeO.none _
      | refine LeO.ite ?_ ?_
      | refine LeO.bind ?_ (fun _ => ?_)
    · intro y0 y1 y2
      unfold casementlaw12_ModuleNumbers.j3
      repeat' first
      | (with_reducible exact ih0 _ _ _)
      | (with_reducible exact ih1 _ _ _ _)
      | (with_reducible exact ih2 _ _ _ _)
      | (with_reducible exact ih3 _ _ _)
      | (with_reducible exact casementlaw12_alive.mono _)
      | (with_reducible exact module_Decode.mono _ _)
      | (with_reducible exact module_Encode.mono _ _ _ _)
      | (with_reducible exact LeO.refl _)
      | (with_reducible exact LeO.none _)
      | (with_reducible refine LeO.ite ?_ ?_)
      | (with_reducible refine LeO.bind ?_ (fun _ => ?_))
      | exact ih0 _ _ _
      | exact ih1 _ _ _ _
      | exact ih2 _ _ _ _
      | exact ih3 _ _ _
      | exact casementlaw12_alive.mono _
      | exact module_Decode.mono _ _
      | exact module_Encode.mono _ _ _ _
      | exact LeO.none _
      | refine LeO.ite ?_ ?_
      | refine LeO.bind ?_ (fun _ => ?_)
theorem casementlaw12_ModuleNumbers.mono : ∀ a0 k, LeO (casementlaw12_ModuleNumbers.f k a0) (casementlaw12_ModuleNumbers.f (k + 1) a0) := by
  intro a0 k
  obtain ⟨ih0, ih1, ih2, ih3⟩ := casementlaw12_ModuleNumbers.mono_l k
  unfold casementlaw12_ModuleNumbers.f
  repeat' first
      | (with_reducible exact ih0 _ _ _)
      | (with_reducible exact ih1 _ _ _ _)
      | (with_reducible exact ih2 _ _ _ _)
      | (with_reducible exact ih3 _ _ _)
      | (with_reducible exact casementlaw12_alive.mono _)
      | (with_reducible exact module_Decode.mono _ _)
      | (with_reducible exact module_Encode.mono _ _ _ _)
      | (with_reducible exact LeO.refl _)
      | (with_reducible exact LeO.none _)
      | (with_reducible refine LeO.ite ?_ ?_)
      | (with_reducible refine LeO.bind ?_ (fun _ => ?_))
      | exact ih0 _ _ _
      | exact ih1 _ _ _ _
      | exact ih2 _ _ _ _
      | exact ih3 _ _ _
      | exact casementlaw12_alive.mono _
      | exact module_Decode.mono _ _
      | exact module_Encode.mono _ _ _ _
      | exact LeO.none _
      | refine LeO.ite ?_ ?_
      | refine LeO.bind ?_ (fun _ => ?_)
set_option maxHeartbeats 8000000 in
set_option maxRecDepth 100000 in
theorem casementlaw12_ModuleNumbers.calls (k : Nat) (a0 : Int) (r : Bool) (w : World) (h : casementlaw12_ModuleNumbers.f k a0 = some r) (hr : r = true) :
    Calls Try.prog 8 #[.int .i64 a0] w fun e w' => e = .returned (.bool r) ∧ Below w.heap.size w w' := by
  have hu41 := Try.underlying41
  have hu44 := Try.underlying44
  have hu26 := Try.underlying26
  have hu29 := Try.underlying29
  have HRT := Aside0.mk hr
  clear hr
  have HB := Aside0.mk (Below.refl w.heap.size w)
  have H : ((casementlaw12_alive.f k).bind fun t593 => (if t593 = true then ((module_Encode.f k 0 ([] : List Int) (([(⟨0, 0, 0, (([(⟨1, a0⟩ : S41)] : List (S41)))⟩ : S44)] : List (S44)))).bind fun bt600 => (if bt600.2 = 0 then (if a0 < 0 then (casementlaw12_ModuleNumbers.j0 k a0 bt600.1 (Go.bits .xor .u64 18446744073709551615 (IntKind.u64.wrap ((IntKind.u64.wrap (a0)) * 2)))) else (casementlaw12_ModuleNumbers.j0 k a0 bt600.1 (IntKind.u64.wrap ((IntKind.u64.wrap (a0)) * 2)))) else (some false))) else (some false))) = some r := h
  clear h
  replace H := Option.bind_eq_some_iff.mp H
  obtain ⟨t593, A20, H⟩ := H
  replace H : (if t593 = true then ((module_Encode.f k 0 ([] : List Int) (([(⟨0, 0, 0, (([(⟨1, a0⟩ : S41)] : List (S41)))⟩ : S44)] : List (S44)))).bind fun bt600 => (if bt600.2 = 0 then (if a0 < 0 then (casementlaw12_ModuleNumbers.j0 k a0 bt600.1 (Go.bits .xor .u64 18446744073709551615 (IntKind.u64.wrap ((IntKind.u64.wrap (a0)) * 2)))) else (casementlaw12_ModuleNumbers.j0 k a0 bt600.1 (IntKind.u64.wrap ((IntKind.u64.wrap (a0)) * 2)))) else (some false))) else (some false)) = some r := H
  have A2 := Aside0.mk A20
  clear A20
  by_cases c3 : t593 = true
  · subst c3
    have H1 : ((module_Encode.f k 0 ([] : List Int) (([(⟨0, 0, 0, (([(⟨1, a0⟩ : S41)] : List (S41)))⟩ : S44)] : List (S44)))).bind fun bt600 => (if bt600.2 = 0 then (if a0 < 0 then (casementlaw12_ModuleNumbers.j0 k a0 bt600.1 (Go.bits .xor .u64 18446744073709551615 (IntKind.u64.wrap ((IntKind.u64.wrap (a0)) * 2)))) else (casementlaw12_ModuleNumbers.j0 k a0 bt600.1 (IntKind.u64.wrap ((IntKind.u64.wrap (a0)) * 2)))) else (some false))) = some r := by rw [if_pos rfl] at H; exact H
    clear H
    have H := H1
    clear H1
    obtain ⟨y594, hy594⟩ : ∃ y_ : List (S41), y_ = (([(⟨1, a0⟩ : S41)] : List (S41))) := ⟨_, rfl⟩
    replace H : ((module_Encode.f k 0 ([] : List Int) (([(⟨0, 0, 0, y594⟩ : S44)] : List (S44)))).bind fun bt600 => (if bt600.2 = 0 then (if a0 < 0 then (casementlaw12_ModuleNumbers.j0 k a0 bt600.1 (Go.bits .xor .u64 18446744073709551615 (IntKind.u64.wrap ((IntKind.u64.wrap (a0)) * 2)))) else (casementlaw12_ModuleNumbers.j0 k a0 bt600.1 (IntKind.u64.wrap ((IntKind.u64.wrap (a0)) * 2)))) else (some false))) = some r := by first | (rw [hy594]; with_reducible exact H) | (have H2_ := (Option.bind_some _ _).symm.trans H; rw [hy594]; with_reducible exact H2_) | (have H2_ := (Option.bind_some _ _).symm.trans H; with_reducible exact H2_) | with_reducible exact H | (rw [hy594]; exact H) | exact H
    have Ny594 := Aside0.mk hy594
    clear hy594
    obtain ⟨y597, hy597⟩ : ∃ y_ : List (S44), y_ = (([(⟨0, 0, 0, y594⟩ : S44)] : List (S44))) := ⟨_, rfl⟩
    replace H : ((module_Encode.f k 0 ([] : List Int) y597).bind fun bt600 => (if bt600.2 = 0 then (if a0 < 0 then (casementlaw12_ModuleNumbers.j0 k a0 bt600.1 (Go.bits .xor .u64 18446744073709551615 (IntKind.u64.wrap ((IntKind.u64.wrap (a0)) * 2)))) else (casementlaw12_ModuleNumbers.j0 k a0 bt600.1 (IntKind.u64.wrap ((IntKind.u64.wrap (a0)) * 2)))) else (some false))) = some r := by first | (rw [hy597]; with_reducible exact H) | (have H2_ := (Option.bind_some _ _).symm.trans H; rw [hy597]; with_reducible exact H2_) | (have H2_ := (Option.bind_some _ _).symm.trans H; with_reducible exact H2_) | with_reducible exact H | (rw [hy597]; exact H) | exact H
    have Ny597 := Aside0.mk hy597
    clear hy597
    replace H := Option.bind_eq_some_iff.mp H
    obtain ⟨⟨t600, t603⟩, A40, H⟩ := H
    replace H : (if t603 = 0 then (if a0 < 0 then (casementlaw12_ModuleNumbers.j0 k a0 t600 (Go.bits .xor .u64 18446744073709551615 (IntKind.u64.wrap ((IntKind.u64.wrap (a0)) * 2)))) else (casementlaw12_ModuleNumbers.j0 k a0 t600 (IntKind.u64.wrap ((IntKind.u64.wrap (a0)) * 2)))) else (some false)) = some r := H
    have A4 := Aside0.mk A40
    clear A40
    by_cases c5 : t603 = 0
    · rw [if_pos c5] at H
      have c5b0 : (t603 == 0) = true := beq_iff_eq.mpr c5
      have c5b1 : (t603 != 0) = false := bne_eq_false_iff_eq.mpr c5
      clear c5
      have HC6 := Aside0.mk H
      clear H
      go_enter Try.func8, Try.ntmps8
      go_upto_if 31 with (first | ((with_reducible refine gate_callee (f := 9) rfl ?_); refine goesL_ (some 13) rfl rfl Try.func9 (by kernel_rfl) rfl #[] rfl (by (try simp only [List.map_toArray, List.map_cons, List.map_nil]); first | done | rfl | (simp only [List.length_drop, List.length_take]; rfl)) ?_; (with_reducible refine (casementlaw12_alive.calls k  true _ A2.out (by first | rfl | assumption)).mono ?_); rintro e w7 ⟨rfl, hb⟩; refine ⟨_, rfl, ?_⟩; have n0_ := Aside0.mk (below_step (by repeat (first | (with_reducible first | exact HB.out | apply below_alloc | apply pw_below_drewN | apply below_drew1) | exact HB.out)) hb); clear HB; have HB := n0_; clear n0_; (try clear hb); (try clear hb2); (try clear hk); (try clear hi)) | ((with_reducible refine gate_dst (N := 18) rfl ?_); (try (refine gate_guard (by rfl) ?_; dsimp only)); refine Kd.R_lit k41 _ 41 ?hg (N := 18) ?hd (xs := ([(⟨1, a0⟩ : S41)] : List (S41))) (inner := [.int .i64 1, .int .i64 a0]) (ok := fun _ => True) (okp := fun _ => True) ?hr ?hp (fun _ hk => hk) trivial (Below.refl _ _) (Nat.le_refl _) (by simp) ?_; (case hd => rfl); (case hg => rfl); (case hr => first | (go_simp; done) | (go_simp; rfl)); (case hp => exact (Reps.c2 (show Kd.M k41 _ _ _ (⟨1, a0⟩ : S41) [.int .i64 1, .int .i64 a0] from (k41_mkM _ _ _ (⟨1, a0⟩ : S41) )) (Reps.none _ _))); intro v595 w8 ho9 hb hg_ hnew_; clear hg_ hnew_; (first | rw [← Ny594.out] at ho9 | (simp only [Int.reduceToNat] at ho9; rw [← Ny594.out] at ho9)); have n0_ := Aside0.mk (Kd.R_lower ho9 (below_size (by repeat (first | (with_reducible first | exact HB.out | apply below_alloc | apply pw_below_drewN | apply below_drew1) | exact HB.out)))); have n1_ := Aside0.mk (below_step (by repeat (first | (with_reducible first | exact HB.out | apply below_alloc | apply pw_below_drewN | apply below_drew1) | exact HB.out)) hb); clear HB; have HO596 := n0_; have HB := n1_; clear n0_ n1_; clear hb ho9; obtain ⟨Ao10, co10, eo10⟩ := Kd.R_slice HO596.out; subst eo10) | ((with_reducible refine gate_dst (N := 20) rfl ?_); (try (refine gate_guard (by rfl) ?_; dsimp only)); refine Kd.N_lit k44 _ 44 ?hg (N' := 20) ?hd (xs := ([(⟨0, 0, 0, y594⟩ : S44)] : List (S44))) (inner := [.int .i64 0, .int .i64 0, .int .i64 0, .slice Ao10 y594.length co10]) (ok := (fun _ => True)) (okp := (fun _ => True)) ?hr ?hp (fun _ hk => hk) ((show ∀ k_, w8.heap.size ≤ k_ → (fun _ => True) k_ from fun k_ hk => trivial) _ (Nat.le_refl _)) (Below.refl _ _) (Nat.le_refl _) (by simp) ?_; (case hd => rfl); (case hg => rfl); (case hr => first | (go_simp; done) | (go_simp; rfl)); (case hp => exact (Reps.c4 (show Kd.FK k44 _ _ (⟨0, 0, 0, y594⟩ : S44) [.int .i64 0, .int .i64 0, .int .i64 0, .slice Ao10 y594.length co10] from (k44_mkF _ _ (⟨0, 0, 0, y594⟩ : S44) (Kd.R_reads' (Kd.R_mono (ok' := (fun _ => True)) (HO596.out) (fun k_ hk => trivial))).2.1 (Kd.R_F (Kd.R_mono (ok' := (fun _ => True)) (HO596.out) (fun k_ hk => trivial))))) (Reps.none _ _))); intro v598 w11 ho12 hb hg_ hnew_; clear hg_ hnew_; (first | rw [← Ny597.out] at ho12 | (simp only [Int.reduceToNat] at ho12; rw [← Ny597.out] at ho12)); have n0_ := Aside0.mk (Kd.N_lower ho12 (below_size (by repeat (first | (with_reducible first | exact HB.out | apply below_alloc | apply pw_below_drewN | apply below_drew1) | exact HB.out)))); have n1_ := Aside0.mk (below_step (by repeat (first | (with_reducible first | exact HB.out | apply below_alloc | apply pw_below_drewN | apply below_drew1) | exact HB.out)) hb); clear HB; clear HO596; have HO599 := n0_; have HB := n1_; clear n0_ n1_; clear hb ho12; obtain ⟨Ao13, co13, eo13⟩ := Kd.N_slice HO599.out; subst eo13) | ((with_reducible refine gate_callee (f := 13) rfl ?_); refine goesL_ (some 22) rfl rfl Try.func13 (by kernel_rfl) rfl #[.agg #[.int .i64 0, .slice none 0 0, .slice Ao13 y597.length co13]] rfl (by (try simp only [List.map_toArray, List.map_cons, List.map_nil]); first | done | rfl | (simp only [List.length_drop, List.length_take]; rfl)) ?_; (refine (module_Encode.calls k 0 _ _ ([] : List Int) _ _ y597 t600 t603 _ ?side1 ?side2 ?side3 ?side4 A4.out).mono ?_); (case side1 => exact Kd.C_nil _ _); (case side2 => exact Nat.le_refl _); (case side3 => repeat (first | exact (Kd.N_reads' HO599.out).2.2 | (with_reducible refine Kd.C_alloc ?_ _) | (with_reducible refine Kd.C_drewN ?_ _) | (with_reducible refine Kd.C_drew ?_))); (case side4 => exact (Kd.N_reads' HO599.out).2.1); rintro e w14 ⟨v601, rfl, ho0, hb⟩; refine ⟨_, rfl, ?_⟩; have n0_ := Aside0.mk (Kd.N_elder' (by (with_reducible repeat (first | apply Kd.N_alloc | apply Kd.N_drewN | apply Kd.N_drew)); exact HO599.out) (Kd.R_base ho0) hb); have n1_ := Aside0.mk (Kd.R_lower ho0 (below_size (by repeat (first | (with_reducible first | exact HB.out | apply below_alloc | apply pw_below_drewN | apply below_drew1) | exact HB.out)))); have n2_ := Aside0.mk (below_step (by repeat (first | (with_reducible first | exact HB.out | apply below_alloc | apply pw_below_drewN | apply below_drew1) | exact HB.out)) hb); clear HO599; clear HB; have HO599 := n0_; have HO602 := n1_; have HB := n2_; clear n0_ n1_ n2_; (try clear hb); (try clear hb2); (try clear hk); (try clear hi); (try clear ho0)))
      (try simp only [Act.put, List.setIfInBounds_toArray, List.set_cons_zero, List.set_cons_succ])
      go_cut [5] (fun v5 wc => ∃ (kq : Nat) (x5_5 : Int), v5 = .int .u64 x5_5 ∧ Aside0 (casementlaw12_ModuleNumbers.j0 kq a0 t600 x5_5 = some r) ∧ Aside0 (kq ≤ k) ∧ Aside0 (Kd.R (Kd.int .u8) 5 wc w.heap.size (fun _ => True) v601 t600) ∧ Aside0 (Below w.heap.size w wc))
      case first =>
        have H := HC6.out
        clear HC6
        by_cases c15 : a0 < 0
        · rw [if_pos c15] at H
          have c15b0 : decide (a0 < 0) = true := decide_eq_true c15
          clear c15
          (first | rw [c15b0] | (simp only [i64_w, i32_w]; rw [c15b0]) | skip)
          have H' := Aside0.mk H
          clear H
          go_wp2
          go_meet
          case rel => exact ⟨_, (Go.bits .xor .u64 18446744073709551615 (IntKind.u64.wrap ((IntKind.u64.wrap (a0)) * 2))), (by first | rfl | (simp; done) | (simp [*]; done)), H', ⟨by first | omega | exact Nat.le_refl _⟩, ⟨by (with_reducible repeat (first | apply Kd.R_alloc | apply Kd.R_drewN | apply Kd.R_drew)); exact HO602.out⟩, ⟨by repeat (first | (with_reducible first | exact HB.out | apply below_alloc | apply pw_below_drewN | apply below_drew1) | exact HB.out)⟩⟩
        · rw [if_neg c15] at H
          have c15b0 : decide (a0 < 0) = false := decide_eq_false c15
          clear c15
          (first | rw [c15b0] | (simp only [i64_w, i32_w]; rw [c15b0]) | skip)
          have H' := Aside0.mk H
          clear H
          go_wp2
          go_meet
          case rel => exact ⟨_, (IntKind.u64.wrap ((IntKind.u64.wrap (a0)) * 2)), (by first | rfl | (simp; done) | (simp [*]; done)), H', ⟨by first | omega | exact Nat.le_refl _⟩, ⟨by (with_reducible repeat (first | apply Kd.R_alloc | apply Kd.R_drewN | apply Kd.R_drew)); exact HO602.out⟩, ⟨by repeat (first | (with_reducible first | exact HB.out | apply below_alloc | apply pw_below_drewN | apply below_drew1) | exact HB.out)⟩⟩
      case rest =>
        clear HC6
        try clear c1
        try clear c2
        try clear p2
        try clear c3
        try clear c4
        try clear c5
        try clear c5b0
        try clear c5b1
        try clear c8
        try clear c9
        try clear c13
        try clear c15
        try clear c15b0
        obtain ⟨kq, x5_5, rfl, HA, HJ5, HO_3, HB⟩ := hcut
        cases kq with
        | zero => exact absurd HA.out (by simp [casementlaw12_ModuleNumbers.j0])
        | succ kj5 =>
          have H := HA.out
          clear HA
          simp only [casementlaw12_ModuleNumbers.j0] at H
          have H' := Aside0.mk H
          clear H
          go_wp2
          go_loopg [6, 7] kj5 (fun kq v6 v7 w' => ∃ (x6_2 : Int) (x7_2 : Int), v6 = .int .i64 x6_2 ∧ v7 = .int .u64 x7_2 ∧ Aside0 (casementlaw12_ModuleNumbers.l0 kq a0 t600 x6_2 x7_2 = some r) ∧ Aside0 (kq ≤ kj5) ∧ Aside0 (Kd.R (Kd.int .u8) 5 w' w.heap.size (fun _ => True) v601 t600) ∧ Aside0 (Below w.heap.size w w'))
          case atStart => exact ⟨(1), (x5_5 / 128), (by first | rfl | (simp; done) | (simp [*]; done)), (by first | rfl | (simp; done) | (simp [*]; done)), H', ⟨Nat.le_refl _⟩, ⟨by (with_reducible repeat (first | apply Kd.R_alloc | apply Kd.R_drewN | apply Kd.R_drew)); exact HO_3.out⟩, ⟨by repeat (first | (with_reducible first | exact HB.out | apply below_alloc | apply pw_below_drewN | apply below_drew1) | exact HB.out)⟩⟩
          case round =>
            clear H'
            try clear c1
            try clear c2
            try clear p2
            try clear c3
            try clear c4
            try clear c5
            try clear c5b0
            try clear c5b1
            try clear c8
            try clear c9
            try clear c13
            try clear c15
            try clear c15b0
            try clear p2
            obtain ⟨x6_2, x7_2, rfl, rfl, HA, HK2, HO_3, HB⟩ := hrel
            cases gk with
            | zero => exact absurd HA.out (by simp [casementlaw12_ModuleNumbers.l0])
            | succ k2 =>
              have H := HA.out
              clear HA
              simp only [casementlaw12_ModuleNumbers.l0] at H
              by_cases c16 : x7_2 > 0
              · rw [if_pos c16] at H
                have c16b0 : decide (0 < x7_2) = true := decide_eq_true c16
                clear c16
                have H' := Aside0.mk H
                clear H
                go_wp2
                go_roundg k2
                case measure => have := HJ5.out; have := HK2.out; omega
                case rel => exact ⟨(wrap64 (x6_2 + 1)), (x7_2 / 128), (by first | rfl | (simp; done) | (simp [*]; done)), (by first | rfl | (simp; done) | (simp [*]; done)), H', ⟨by have := HJ5.out; have := HK2.out; omega⟩, ⟨by (with_reducible repeat (first | apply Kd.R_alloc | apply Kd.R_drewN | apply Kd.R_drew)); exact HO_3.out⟩, ⟨by repeat (first | (with_reducible first | exact HB.out | apply below_alloc | apply pw_below_drewN | apply below_drew1) | exact HB.out)⟩⟩
              · rw [if_neg c16] at H
                have c16b0 : decide (0 < x7_2) = false := decide_eq_false c16
                clear c16
                have HC17 := Aside0.mk H
                clear H
                go_upto_region 14 with (fail)
                go_cut [61] (fun v61 wc => ∃ (kq : Nat) (x61_16 : Bool), v61 = .bool x61_16 ∧ Aside0 (casementlaw12_ModuleNumbers.j2 kq a0 t600 x6_2 x61_16 = some r) ∧ Aside0 (kq ≤ k2) ∧ Aside0 (Kd.R (Kd.int .u8) 5 wc w.heap.size (fun _ => True) v601 t600) ∧ Aside0 (Below w.heap.size w wc))
                case first =>
                  have H := HC17.out
                  clear HC17
                  by_cases c18 : (t600.length : Int) = (wrap64 (15 + x6_2))
                  · rw [if_pos c18] at H
                    have c18b0 : ((t600.length : Int) == (wrap64 (15 + x6_2))) = true := beq_iff_eq.mpr c18
                    have c18b1 : ((t600.length : Int) != (wrap64 (15 + x6_2))) = false := bne_eq_false_iff_eq.mpr c18
                    clear c18
                    (first | rw [c18b0] | (simp only [i64_w, i32_w]; rw [c18b0]) | skip)
                    by_cases c19 : 14 < (t600.length : Int)
                    · rw [if_pos c19] at H
                      have c19b0 : decide (14 < (t600.length : Int)) = true := decide_eq_true c19
                      have c19b1 : decide (14 < t600.length) = true := decide_eq_true (by omega)
                      clear c19
                      by_cases c20 : (rd t600 14) = 1
                      · rw [if_pos c20] at H
                        have c20b0 : ((rd t600 14) == 1) = true := beq_iff_eq.mpr c20
                        have c20b1 : ((rd t600 14) != 1) = false := bne_eq_false_iff_eq.mpr c20
                        clear c20
                        obtain ⟨ji21, hji21⟩ : ∃ j_ : Int, (wrap64 ((t600.length : Int) - 1)) = j_ := ⟨_, rfl⟩
                        replace H : (if 0 ≤ (ji21) then (if (ji21) < (t600.length : Int) then (casementlaw12_ModuleNumbers.j2 k2 a0 t600 x6_2 (decide ((rd t600 (ji21)) ≥ 128))) else (none)) else (none)) = some r := by first | (rw [hji21] at H; exact H) | (simp only [hji21] at H ⊢; exact H)
                        have hji21w : (IntKind.i64.wrap ((t600.length : Int) - 1)) = ji21 := (i64_w _).trans hji21
                        by_cases c22 : 0 ≤ (ji21)
                        · rw [if_pos c22] at H
                          have c22b0 : decide (0 ≤ (ji21)) = true := decide_eq_true c22
                          clear c22
                          by_cases c23 : (ji21) < (t600.length : Int)
                          · rw [if_pos c23] at H
                            have c23b0 : decide ((ji21) < (t600.length : Int)) = true := decide_eq_true c23
                            clear c23
                            have H' := Aside0.mk H
                            clear H
                            obtain ⟨Ao24, co24, eo24⟩ := Kd.R_slice HO_3.out
                            subst eo24
                            have p604 : 0 ≤ (14 : Int) := (by omega)
                            have q604 : 14 < (t600.length : Int) := of_decide_eq_true (by first | (with_reducible assumption) | assumption)
                            obtain ⟨ad604, e604, hx604_0⟩ := Kd.at_int (Kd.R_reads' HO_3.out).2.2 14 p604 q604
                            cases e604
                            (try simp only [show (14 : Int).toNat = 14 from rfl, Nat.reduceMul, Nat.reduceEqDiff, Go.Addr.add, ↓reduceIte] at hx604_0)
                            have qi604 : (14 < t600.length) = True := eq_true (by omega)
                            (try rw [show ((14 : Int)).toNat = 14 from rfl] at hx604_0)
                            replace p604 := eq_true p604
                            replace q604 := eq_true q604
                            have p605 : 0 ≤ ((ji21) : Int) := of_decide_eq_true (by first | (with_reducible assumption) | assumption)
                            have q605 : (ji21) < (t600.length : Int) := of_decide_eq_true (by first | (with_reducible assumption) | assumption)
                            obtain ⟨ad605, e605, hx605_0⟩ := Kd.at_int (Kd.R_reads' HO_3.out).2.2 (ji21) p605 q605
                            obtain rfl : ad604 = ad605 := (by injection e605)
                            replace p605 := eq_true p605
                            replace q605 := eq_true q605
                            go_wp2
                            go_meet
                            case rel => exact ⟨_, (decide ((rd t600 (ji21)) ≥ 128)), (by first | rfl | (simp; done) | (simp only [← hji21] <;> (first | rfl | simp)) | (simp [*]; done)), H', ⟨by have := HJ5.out; have := HK2.out; first | omega | exact Nat.le_refl _⟩, ⟨by (with_reducible repeat (first | apply Kd.R_alloc | apply Kd.R_drewN | apply Kd.R_drew)); exact HO_3.out⟩, ⟨by repeat (first | (with_reducible first | exact HB.out | apply below_alloc | apply pw_below_drewN | apply below_drew1) | exact HB.out)⟩⟩
                          · rw [if_neg c23] at H
                            exact absurd H (by simp)
                        · rw [if_neg c22] at H
                          exact absurd H (by simp)
                      · rw [if_neg c20] at H
                        have c20b0 : ((rd t600 14) == 1) = false := beq_eq_false_iff_ne.mpr c20
                        have c20b1 : ((rd t600 14) != 1) = true := bne_iff_ne.mpr c20
                        have H' := Aside0.mk H
                        clear H
                        obtain ⟨Ao25, co25, eo25⟩ := Kd.R_slice HO_3.out
                        subst eo25
                        have p604 : 0 ≤ (14 : Int) := (by omega)
                        have q604 : 14 < (t600.length : Int) := of_decide_eq_true (by first | (with_reducible assumption) | assumption)
                        obtain ⟨ad604, e604, hx604_0⟩ := Kd.at_int (Kd.R_reads' HO_3.out).2.2 14 p604 q604
                        cases e604
                        (try simp only [show (14 : Int).toNat = 14 from rfl, Nat.reduceMul, Nat.reduceEqDiff, Go.Addr.add, ↓reduceIte] at hx604_0)
                        have qi604 : (14 < t600.length) = True := eq_true (by omega)
                        (try rw [show ((14 : Int)).toNat = 14 from rfl] at hx604_0)
                        replace p604 := eq_true p604
                        replace q604 := eq_true q604
                        go_wp2
                        go_meet
                        case rel => exact ⟨_, (true), (by first | rfl | (simp; done) | (simp [*]; done)), H', ⟨by have := HJ5.out; have := HK2.out; first | omega | exact Nat.le_refl _⟩, ⟨by (with_reducible repeat (first | apply Kd.R_alloc | apply Kd.R_drewN | apply Kd.R_drew)); exact HO_3.out⟩, ⟨by repeat (first | (with_reducible first | exact HB.out | apply below_alloc | apply pw_below_drewN | apply below_drew1) | exact HB.out)⟩⟩
                    · rw [if_neg c19] at H
                      exact absurd H (by simp)
                  · rw [if_neg c18] at H
                    have c18b0 : ((t600.length : Int) == (wrap64 (15 + x6_2))) = false := beq_eq_false_iff_ne.mpr c18
                    have c18b1 : ((t600.length : Int) != (wrap64 (15 + x6_2))) = true := bne_iff_ne.mpr c18
                    (first | rw [c18b0] | (simp only [i64_w, i32_w]; rw [c18b0]) | skip)
                    have H' := Aside0.mk H
                    clear H
                    obtain ⟨Ao26, co26, eo26⟩ := Kd.R_slice HO_3.out
                    subst eo26
                    go_wp2
                    go_meet
                    case rel => exact ⟨_, (true), (by first | rfl | (simp; done) | (simp [*]; done)), H', ⟨by have := HJ5.out; have := HK2.out; first | omega | exact Nat.le_refl _⟩, ⟨by (with_reducible repeat (first | apply Kd.R_alloc | apply Kd.R_drewN | apply Kd.R_drew)); exact HO_3.out⟩, ⟨by repeat (first | (with_reducible first | exact HB.out | apply below_alloc | apply pw_below_drewN | apply below_drew1) | exact HB.out)⟩⟩
                case rest =>
                  clear HC17
                  try clear c1
                  try clear c2
                  try clear p2
                  try clear c3
                  try clear c4
                  try clear c5
                  try clear c5b0
                  try clear c5b1
                  try clear p6
                  try clear q6
                  try clear hx6
                  try clear qi6
                  try clear c8
                  try clear c9
                  try clear c13
                  try clear c15
                  try clear c15b0
                  try clear c16
                  try clear c16b0
                  try clear c18
                  try clear c18b0
                  try clear c18b1
                  try clear c19
                  try clear c19b0
                  try clear c19b1
                  try clear c20
                  try clear c20b0
                  try clear c20b1
                  try clear c22
                  try clear c22b0
                  try clear c23
                  try clear c23b0
                  try clear hx604_0
                  try clear hx605_0
                  try clear p2
                  try clear p604
                  try clear p605
                  try clear q604
                  try clear q605
                  obtain ⟨kq, x61_16, rfl, HA, HJ16, HO_3, HB⟩ := hcut
                  cases kq with
                  | zero => exact absurd HA.out (by simp [casementlaw12_ModuleNumbers.j2])
                  | succ kj16 =>
                    have H := HA.out
                    clear HA
                    simp only [casementlaw12_ModuleNumbers.j2] at H
                    by_cases c27 : x61_16 = true
                    · subst c27
                      have H1 : (some false) = some r := by rw [if_pos rfl] at H; exact H
                      clear H
                      have H := H1
                      clear H1
                      exact absurd ((Option.some.inj H).trans HRT.out) (by decide)
                    · replace c27 := Bool.eq_false_iff.mpr c27
                      subst c27
                      have H1 : ((module_Decode.f kj16 t600).bind fun bt606 => (if bt606.2.2.2.1 = 0 then (if 0 < (bt606.2.2.1.length : Int) then (if 0 < (((rd_T44 bt606.2.2.1 0).f3).length : Int) then (casementlaw12_ModuleNumbers.j3 kj16 t600 x6_2 (((rd_T41 ((rd_T44 bt606.2.2.1 0).f3) 0).f1) != a0)) else (none)) else (none)) else (casementlaw12_ModuleNumbers.j3 kj16 t600 x6_2 true))) = some r := by rw [if_neg (show ¬ (false = true) by decide)] at H; exact H
                      clear H
                      have H := H1
                      clear H1
                      replace H := Option.bind_eq_some_iff.mp H
                      obtain ⟨⟨t606, t607, t610, t613, t614⟩, A280, H⟩ := H
                      replace H : (if t613 = 0 then (if 0 < (t610.length : Int) then (if 0 < (((rd_T44 t610 0).f3).length : Int) then (casementlaw12_ModuleNumbers.j3 kj16 t600 x6_2 (((rd_T41 ((rd_T44 t610 0).f3) 0).f1) != a0)) else (none)) else (none)) else (casementlaw12_ModuleNumbers.j3 kj16 t600 x6_2 true)) = some r := H
                      have A28 := Aside0.mk A280
                      clear A280
                      have HC29 := Aside0.mk H
                      clear H
                      obtain ⟨Ao30, co30, eo30⟩ := Kd.R_slice HO_3.out
                      subst eo30
                      go_upto_region 17 with (first | ((with_reducible refine gate_callee (f := 10) rfl ?_); refine goesL_ (some 64) rfl rfl Try.func10 (by kernel_rfl) rfl #[.slice Ao30 t600.length co30] rfl (by (try simp only [List.map_toArray, List.map_cons, List.map_nil]); first | done | rfl | (simp only [List.length_drop, List.length_take]; rfl)) ?_; (with_reducible refine (module_Decode.calls kj16 _ _ t600 t606 t607 t610 t613 t614 _ ?side1 ?side2 A28.out).mono ?_); (case side1 => repeat (first | exact (Kd.R_reads' HO_3.out).2.2 | (with_reducible refine Kd.C_alloc ?_ _) | (with_reducible refine Kd.C_drewN ?_ _) | (with_reducible refine Kd.C_drew ?_))); (case side2 => exact (Kd.R_reads' HO_3.out).2.1); rintro e w31 ⟨v608, v611, rfl, ho0, ho1, hb⟩; refine ⟨_, rfl, ?_⟩; have n0_ := Aside0.mk (Kd.R_elder' (by (with_reducible repeat (first | apply Kd.R_alloc | apply Kd.R_drewN | apply Kd.R_drew)); exact HO_3.out) (Kd.R_base ho0) hb); have n1_ := Aside0.mk (Kd.R_lower (Kd.R_new' ho0 (Kd.R_lt (by (with_reducible repeat (first | apply Kd.R_alloc | apply Kd.R_drewN | apply Kd.R_drew)); exact HO_3.out))) (below_size (by repeat (first | (with_reducible first | exact HB.out | apply below_alloc | apply pw_below_drewN | apply below_drew1) | exact HB.out)))); have n2_ := Aside0.mk (Kd.N_lower (Kd.N_mono (ok' := fun k_ => some k_ ≠ (v608 : Value).ownBlock ∧ some k_ ≠ (.slice Ao30 t600.length co30 : Value).ownBlock) (Kd.S_N (Kd.S_bound (Kd.S_apart' ho1 (Kd.R_typed ho0) (by decide)))) (fun k_ hk_ => ⟨hk_.1.2, (Kd.fresh' (Kd.R_lt (by (with_reducible repeat (first | apply Kd.R_alloc | apply Kd.R_drewN | apply Kd.R_drew)); exact HO_3.out)) k_ hk_.2.1)⟩)) (below_size (by repeat (first | (with_reducible first | exact HB.out | apply below_alloc | apply pw_below_drewN | apply below_drew1) | exact HB.out)))); have n3_ := Aside0.mk (below_step (by repeat (first | (with_reducible first | exact HB.out | apply below_alloc | apply pw_below_drewN | apply below_drew1) | exact HB.out)) hb); clear HO_3; clear HB; have HO_3 := n0_; have HO609 := n1_; have HO612 := n2_; have HB := n3_; clear n0_ n1_ n2_ n3_; (try clear hb); (try clear hb2); (try clear hk); (try clear hi); (try clear ho0); (try clear ho1)) | ((with_reducible refine gate_dst (N := 8) rfl ?_); (try (refine gate_guard (by rfl) ?_; dsimp only)); refine box_event ?hg (N := 8) ?hd (cs := #[.int .i64 0, .slice none 0 0, .slice none 0 0]) (t := 26) ?hr ?_; (case hd => rfl); (case hg => rfl); (case hr => first | (go_simp; done) | (go_simp; rfl)); intro gb615 hg w32 hbox hb; have n0_ := Aside0.mk (Kd.R_below (by (with_reducible repeat (first | apply Kd.R_alloc | apply Kd.R_drewN | apply Kd.R_drew)); exact HO_3.out) hb); have n1_ := Aside0.mk (Kd.R_below (by (with_reducible repeat (first | apply Kd.R_alloc | apply Kd.R_drewN | apply Kd.R_drew)); exact HO609.out) hb); have n2_ := Aside0.mk (Kd.N_below (Kd.N_elderB (by (with_reducible repeat (first | apply Kd.N_alloc | apply Kd.N_drewN | apply Kd.N_drew)); exact HO612.out) gb615 (Nat.le_of_eq hg.symm)) hb); have n3_ := Aside0.mk (below_step (by repeat (first | (with_reducible first | exact HB.out | apply below_alloc | apply pw_below_drewN | apply below_drew1) | exact HB.out)) hb); have n4_ := Aside0.mk (hbox); have n5_ := Aside0.mk ((by rw [hg]; exact (below_size (by repeat (first | (with_reducible first | exact HB.out | apply below_alloc | apply pw_below_drewN | apply below_drew1) | exact HB.out))) : w.heap.size ≤ gb615)); have n6_ := Aside0.mk ((by rw [hg]; exact (below_size (by repeat (first | (with_reducible first | exact HB.out | apply below_alloc | apply pw_below_drewN | apply below_drew1) | exact HB.out))) : w.heap.size ≤ gb615)); clear HO_3; clear HO609; clear HO612; clear HB; have HO_3 := n0_; have HO609 := n1_; have HO612 := n2_; have HB := n3_; have BK615 := n4_; have GW615 := n5_; have GE615 := n6_; clear n0_ n1_ n2_ n3_ n4_ n5_ n6_; clear hb hbox hg) | ((with_reducible refine gate_dst (N := 9) rfl ?_); (try (refine gate_guard (by rfl) ?_; dsimp only)); refine box_event ?hg (N := 9) ?hd (cs := #[.int .i64 0, .int .i64 0]) (t := 29) ?hr ?_; (case hd => rfl); (case hg => rfl); (case hr => first | (go_simp; done) | (go_simp; rfl)); intro gb616 hg w33 hbox hb; have n0_ := Aside0.mk (Kd.R_below (by (with_reducible repeat (first | apply Kd.R_alloc | apply Kd.R_drewN | apply Kd.R_drew)); exact HO_3.out) hb); have n1_ := Aside0.mk (Kd.R_below (by (with_reducible repeat (first | apply Kd.R_alloc | apply Kd.R_drewN | apply Kd.R_drew)); exact HO609.out) hb); have n2_ := Aside0.mk (Kd.N_below (Kd.N_elderB (by (with_reducible repeat (first | apply Kd.N_alloc | apply Kd.N_drewN | apply Kd.N_drew)); exact HO612.out) gb616 (Nat.le_of_eq hg.symm)) hb); have n3_ := Aside0.mk (blk_below (g := gb615) (o := .cells #[.int .i64 0, .slice none 0 0, .slice none 0 0] 26 (0, 0)) (by (with_reducible repeat (first | refine blk_drewN ?_ _ | refine blk_drew ?_ | refine blk_alloc ?_ _)); exact BK615.out) hb); have n4_ := Aside0.mk (below_step (by repeat (first | (with_reducible first | exact HB.out | apply below_alloc | apply pw_below_drewN | apply below_drew1 | refine below_set ?_ GE615.out) | exact HB.out)) hb); have n5_ := Aside0.mk (hbox); have n6_ := Aside0.mk ((by rw [hg]; exact (below_size (by repeat (first | (with_reducible first | exact HB.out | apply below_alloc | apply pw_below_drewN | apply below_drew1 | refine below_set ?_ GE615.out) | exact HB.out))) : w.heap.size ≤ gb616)); have n7_ := Aside0.mk ((by rw [hg]; exact (below_size (by repeat (first | (with_reducible first | exact HB.out | apply below_alloc | apply pw_below_drewN | apply below_drew1 | refine below_set ?_ GE615.out) | exact HB.out))) : w.heap.size ≤ gb616)); have n8_ := Aside0.mk ((by rw [hg]; exact Nat.ne_of_lt (blk_lt (g := gb615) (o := .cells #[.int .i64 0, .slice none 0 0, .slice none 0 0] 26 (0, 0)) (by (with_reducible repeat (first | refine blk_drewN ?_ _ | refine blk_drew ?_ | refine blk_alloc ?_ _)); exact BK615.out)) : gb615 ≠ gb616)); have n9_ := Aside0.mk ((by rw [hg]; exact Nat.ne_of_gt (blk_lt (g := gb615) (o := .cells #[.int .i64 0, .slice none 0 0, .slice none 0 0] 26 (0, 0)) (by (with_reducible repeat (first | refine blk_drewN ?_ _ | refine blk_drew ?_ | refine blk_alloc ?_ _)); exact BK615.out)) : gb616 ≠ gb615)); clear HO_3; clear HO609; clear HO612; clear BK615; clear HB; have HO_3 := n0_; have HO609 := n1_; have HO612 := n2_; have BK615 := n3_; have HB := n4_; have BK616 := n5_; have GW616 := n6_; have GE616 := n7_; have NB615_616 := n8_; have NB616_615 := n9_; clear n0_ n1_ n2_ n3_ n4_ n5_ n6_ n7_ n8_ n9_; clear hb hbox hg; have hnb34 := NB615_616.out; have hnc34 := NB616_615.out; have hcz35_0 : w33.cell? ⟨gb615, 0, none⟩ = some (.int .i64 0) := (blk_cell BK615.out 0).trans rfl; have hcz35_1 : w33.cell? ⟨gb615, 1, none⟩ = some (.slice none 0 0) := (blk_cell BK615.out 1).trans rfl; have hcz35_2 : w33.cell? ⟨gb615, 2, none⟩ = some (.slice none 0 0) := (blk_cell BK615.out 2).trans rfl; have hfz35_0 := blk_frozen BK615.out 0; have hfz35_1 := blk_frozen BK615.out 1; have hfz35_2 := blk_frozen BK615.out 2; obtain ⟨Ao36, co36, eo36⟩ := Kd.R_slice HO609.out; subst eo36; obtain ⟨Ao37, co37, eo37⟩ := Kd.N_slice HO612.out; subst eo37; have hcz38_0 : w33.cell? ⟨gb616, 0, none⟩ = some (.int .i64 0) := (blk_cell BK616.out 0).trans rfl; have hcz38_1 : w33.cell? ⟨gb616, 1, none⟩ = some (.int .i64 0) := (blk_cell BK616.out 1).trans rfl; have hfz38_0 := blk_frozen BK616.out 0; have hfz38_1 := blk_frozen BK616.out 1))
                      (try simp only [Act.put, List.setIfInBounds_toArray, List.set_cons_zero, List.set_cons_succ])
                      go_cut [81] (fun v81 wc => ∃ (kq : Nat) (x81_28 : Bool), v81 = .bool x81_28 ∧ Aside0 (casementlaw12_ModuleNumbers.j3 kq t600 x6_2 x81_28 = some r) ∧ Aside0 (kq ≤ kj16) ∧ Aside0 (Kd.R (Kd.int .u8) 5 wc w.heap.size (fun k_ => some k_ ≠ ((.slice Ao36 t607.length co36) : Value).ownBlock) (.slice Ao30 t600.length co30) t600) ∧ Aside0 (Kd.R (Kd.int .u8) 5 wc w.heap.size (fun k_ => some k_ ≠ ((.slice Ao30 t600.length co30) : Value).ownBlock) (.slice Ao36 t607.length co36) t607) ∧ Aside0 (Kd.N k44 44 wc w.heap.size (fun k_ => some k_ ≠ ((.slice Ao30 t600.length co30) : Value).ownBlock ∧ some k_ ≠ ((.slice Ao36 t607.length co36) : Value).ownBlock ∧ k_ ≠ gb615 ∧ k_ ≠ gb616) (.slice Ao37 t610.length co37) t610) ∧ Aside0 (wc.heap[gb615]? = some (.cells #[.int .i64 t606, (.slice Ao36 t607.length co36), (.slice Ao37 t610.length co37)] 26 (0, 0))) ∧ Aside0 (wc.heap[gb616]? = some (.cells #[.int .i64 t613, .int .i64 t614] 29 (0, 0))) ∧ Aside0 (Below w.heap.size w wc))
                      case first =>
                        have H := HC29.out
                        clear HC29
                        by_cases c39 : t613 = 0
                        · rw [if_pos c39] at H
                          have c39b0 : (t613 == 0) = true := beq_iff_eq.mpr c39
                          have c39b1 : (t613 != 0) = false := bne_eq_false_iff_eq.mpr c39
                          clear c39
                          (first | rw [c39b0] | (simp only [i64_w, i32_w]; rw [c39b0]) | skip)
                          by_cases c40 : 0 < (t610.length : Int)
                          · rw [if_pos c40] at H
                            have c40b0 : decide (0 < (t610.length : Int)) = true := decide_eq_true c40
                            have c40b1 : decide (0 < t610.length) = true := decide_eq_true (by omega)
                            clear c40
                            by_cases c41 : 0 < (((rd_T44 t610 0).f3).length : Int)
                            · rw [if_pos c41] at H
                              have c41b0 : decide (0 < (((rd_T44 t610 0).f3).length : Int)) = true := decide_eq_true c41
                              have c41b1 : decide (0 < ((rd_T44 t610 0).f3).length) = true := decide_eq_true (by omega)
                              clear c41
                              have H' := Aside0.mk H
                              clear H
                              have hnb42 := NB616_615.out
                              have hnc42 := NB615_616.out
                              have hcz43_0 : w33.cell? ⟨gb616, 0, none⟩ = some (.int .i64 0) := (blk_cell BK616.out 0).trans rfl
                              have hcz43_1 : w33.cell? ⟨gb616, 1, none⟩ = some (.int .i64 0) := (blk_cell BK616.out 1).trans rfl
                              have hfz43_0 := blk_frozen BK616.out 0
                              have hfz43_1 := blk_frozen BK616.out 1
                              have hcz44_0 : w33.cell? ⟨gb615, 0, none⟩ = some (.int .i64 0) := (blk_cell BK615.out 0).trans rfl
                              have hcz44_1 : w33.cell? ⟨gb615, 1, none⟩ = some (.slice none 0 0) := (blk_cell BK615.out 1).trans rfl
                              have hcz44_2 : w33.cell? ⟨gb615, 2, none⟩ = some (.slice none 0 0) := (blk_cell BK615.out 2).trans rfl
                              have hfz44_0 := blk_frozen BK615.out 0
                              have hfz44_1 := blk_frozen BK615.out 1
                              have hfz44_2 := blk_frozen BK615.out 2
                              have n0_ : Aside0 (Kd.R (Kd.int .u8) 5 (((((w33.setCell ⟨gb615, 0, none⟩ (.int .i64 t606)).setCell ⟨gb615, 1, none⟩ (.slice Ao36 t607.length co36)).setCell ⟨gb615, 2, none⟩ (.slice Ao37 t610.length co37)).setCell ⟨gb616, 0, none⟩ (.int .i64 t613)).setCell ⟨gb616, 1, none⟩ (.int .i64 t614)) w.heap.size (fun k_ => some k_ ≠ (.slice Ao36 t607.length co36 : Value).ownBlock) (.slice Ao30 t600.length co30) t600) := ⟨by (with_reducible repeat (first | apply Kd.R_alloc | apply Kd.R_drewN | apply Kd.R_drew)); exact Kd.R_mono (Kd.R_far (p := ⟨gb616, 1, none⟩) (Kd.R_far (p := ⟨gb616, 0, none⟩) (Kd.R_far (p := ⟨gb615, 2, none⟩) (Kd.R_far (p := ⟨gb615, 1, none⟩) (Kd.R_far (p := ⟨gb615, 0, none⟩) (Kd.R_types (Kd.R_types HO_3.out BK615.out (by decide)) BK616.out (by decide)) (fun _ hk => hk.1.2) (.int .i64 t606)) (fun _ hk => hk.1.2) (.slice Ao36 t607.length co36)) (fun _ hk => hk.1.2) (.slice Ao37 t610.length co37)) (fun _ hk => hk.2) (.int .i64 t613)) (fun _ hk => hk.2) (.int .i64 t614)) (fun _ hk => hk.1.1.2)⟩
                              have n1_ : Aside0 (Kd.R (Kd.int .u8) 5 (((((w33.setCell ⟨gb615, 0, none⟩ (.int .i64 t606)).setCell ⟨gb615, 1, none⟩ (.slice Ao36 t607.length co36)).setCell ⟨gb615, 2, none⟩ (.slice Ao37 t610.length co37)).setCell ⟨gb616, 0, none⟩ (.int .i64 t613)).setCell ⟨gb616, 1, none⟩ (.int .i64 t614)) w.heap.size (fun k_ => some k_ ≠ (.slice Ao30 t600.length co30 : Value).ownBlock) (.slice Ao36 t607.length co36) t607) := ⟨by (with_reducible repeat (first | apply Kd.R_alloc | apply Kd.R_drewN | apply Kd.R_drew)); exact Kd.R_mono (Kd.R_far (p := ⟨gb616, 1, none⟩) (Kd.R_far (p := ⟨gb616, 0, none⟩) (Kd.R_far (p := ⟨gb615, 2, none⟩) (Kd.R_far (p := ⟨gb615, 1, none⟩) (Kd.R_far (p := ⟨gb615, 0, none⟩) (Kd.R_types (Kd.R_types HO609.out BK615.out (by decide)) BK616.out (by decide)) (fun _ hk => hk.1.2) (.int .i64 t606)) (fun _ hk => hk.1.2) (.slice Ao36 t607.length co36)) (fun _ hk => hk.1.2) (.slice Ao37 t610.length co37)) (fun _ hk => hk.2) (.int .i64 t613)) (fun _ hk => hk.2) (.int .i64 t614)) (fun _ hk => hk.1.1.2)⟩
                              have n2_ : Aside0 (Kd.N k44 44 (((((w33.setCell ⟨gb615, 0, none⟩ (.int .i64 t606)).setCell ⟨gb615, 1, none⟩ (.slice Ao36 t607.length co36)).setCell ⟨gb615, 2, none⟩ (.slice Ao37 t610.length co37)).setCell ⟨gb616, 0, none⟩ (.int .i64 t613)).setCell ⟨gb616, 1, none⟩ (.int .i64 t614)) w.heap.size (fun k_ => some k_ ≠ (.slice Ao30 t600.length co30 : Value).ownBlock ∧ some k_ ≠ (.slice Ao36 t607.length co36 : Value).ownBlock ∧ k_ ≠ gb615 ∧ k_ ≠ gb616) (.slice Ao37 t610.length co37) t610) := ⟨by (with_reducible repeat (first | apply Kd.N_alloc | apply Kd.N_drewN | apply Kd.N_drew)); exact Kd.N_mono (Kd.N_far (p := ⟨gb616, 1, none⟩) (Kd.N_far (p := ⟨gb616, 0, none⟩) (Kd.N_far (p := ⟨gb615, 2, none⟩) (Kd.N_far (p := ⟨gb615, 1, none⟩) (Kd.N_far (p := ⟨gb615, 0, none⟩) (Kd.N_mono (Kd.N_mono HO612.out (fun k_ hk => (⟨hk, hk.1.2⟩ : _ ∧ k_ ≠ gb615))) (fun k_ hk => (⟨hk, hk.1.2⟩ : _ ∧ k_ ≠ gb616))) (fun _ hk => hk.1.2) (.int .i64 t606)) (fun _ hk => hk.1.2) (.slice Ao36 t607.length co36)) (fun _ hk => hk.1.2) (.slice Ao37 t610.length co37)) (fun _ hk => hk.2) (.int .i64 t613)) (fun _ hk => hk.2) (.int .i64 t614)) (fun _ hk => ⟨hk.1.1.1.1.2, ⟨hk.1.1.1.1.1, ⟨hk.1.1.1.2, hk.1.1.2⟩⟩⟩)⟩
                              have n3_ : Aside0 ((((((w33.setCell ⟨gb615, 0, none⟩ (.int .i64 t606)).setCell ⟨gb615, 1, none⟩ (.slice Ao36 t607.length co36)).setCell ⟨gb615, 2, none⟩ (.slice Ao37 t610.length co37)).setCell ⟨gb616, 0, none⟩ (.int .i64 t613)).setCell ⟨gb616, 1, none⟩ (.int .i64 t614)).heap[gb615]? = some (.cells #[.int .i64 t606, .slice Ao36 t607.length co36, .slice Ao37 t610.length co37] 26 (0, 0))) := ⟨by (with_reducible repeat (first | refine blk_drewN ?_ _ | refine blk_drew ?_ | refine blk_alloc ?_ _)); refine blk_far ?_ NB615_616.out _; (with_reducible repeat (first | refine blk_drewN ?_ _ | refine blk_drew ?_ | refine blk_alloc ?_ _)); refine blk_far ?_ NB615_616.out _; (with_reducible repeat (first | refine blk_drewN ?_ _ | refine blk_drew ?_ | refine blk_alloc ?_ _)); refine blk_put (cs := #[.int .i64 t606, .slice Ao36 t607.length co36, .slice none 0 0]) ?_ 2 _ rfl; (with_reducible repeat (first | refine blk_drewN ?_ _ | refine blk_drew ?_ | refine blk_alloc ?_ _)); refine blk_put (cs := #[.int .i64 t606, .slice none 0 0, .slice none 0 0]) ?_ 1 _ rfl; (with_reducible repeat (first | refine blk_drewN ?_ _ | refine blk_drew ?_ | refine blk_alloc ?_ _)); refine blk_put (cs := #[.int .i64 0, .slice none 0 0, .slice none 0 0]) ?_ 0 _ rfl; (with_reducible repeat (first | refine blk_drewN ?_ _ | refine blk_drew ?_ | refine blk_alloc ?_ _)); exact BK615.out⟩
                              have n4_ : Aside0 ((((((w33.setCell ⟨gb615, 0, none⟩ (.int .i64 t606)).setCell ⟨gb615, 1, none⟩ (.slice Ao36 t607.length co36)).setCell ⟨gb615, 2, none⟩ (.slice Ao37 t610.length co37)).setCell ⟨gb616, 0, none⟩ (.int .i64 t613)).setCell ⟨gb616, 1, none⟩ (.int .i64 t614)).heap[gb616]? = some (.cells #[.int .i64 t613, .int .i64 t614] 29 (0, 0))) := ⟨by (with_reducible repeat (first | refine blk_drewN ?_ _ | refine blk_drew ?_ | refine blk_alloc ?_ _)); refine blk_put (cs := #[.int .i64 t613, .int .i64 0]) ?_ 1 _ rfl; (with_reducible repeat (first | refine blk_drewN ?_ _ | refine blk_drew ?_ | refine blk_alloc ?_ _)); refine blk_put (cs := #[.int .i64 0, .int .i64 0]) ?_ 0 _ rfl; (with_reducible repeat (first | refine blk_drewN ?_ _ | refine blk_drew ?_ | refine blk_alloc ?_ _)); refine blk_far ?_ NB616_615.out _; (with_reducible repeat (first | refine blk_drewN ?_ _ | refine blk_drew ?_ | refine blk_alloc ?_ _)); refine blk_far ?_ NB616_615.out _; (with_reducible repeat (first | refine blk_drewN ?_ _ | refine blk_drew ?_ | refine blk_alloc ?_ _)); refine blk_far ?_ NB616_615.out _; (with_reducible repeat (first | refine blk_drewN ?_ _ | refine blk_drew ?_ | refine blk_alloc ?_ _)); exact BK616.out⟩
                              have n5_ : Aside0 (Below w.heap.size w (((((w33.setCell ⟨gb615, 0, none⟩ (.int .i64 t606)).setCell ⟨gb615, 1, none⟩ (.slice Ao36 t607.length co36)).setCell ⟨gb615, 2, none⟩ (.slice Ao37 t610.length co37)).setCell ⟨gb616, 0, none⟩ (.int .i64 t613)).setCell ⟨gb616, 1, none⟩ (.int .i64 t614))) := ⟨by repeat (first | (with_reducible first | exact HB.out | apply below_alloc | apply pw_below_drewN | apply below_drew1 | refine below_set ?_ GE615.out | refine below_set ?_ GE616.out) | exact HB.out)⟩
                              (try clear HO_3)
                              (try clear HO609)
                              (try clear HO612)
                              (try clear BK615)
                              (try clear BK616)
                              (try clear HB)
                              generalize (((((w33.setCell ⟨gb615, 0, none⟩ (.int .i64 t606)).setCell ⟨gb615, 1, none⟩ (.slice Ao36 t607.length co36)).setCell ⟨gb615, 2, none⟩ (.slice Ao37 t610.length co37)).setCell ⟨gb616, 0, none⟩ (.int .i64 t613)).setCell ⟨gb616, 1, none⟩ (.int .i64 t614)) = w45 at n0_ n1_ n2_ n3_ n4_ n5_ ⊢
                              have HO_3 := n0_
                              have HO609 := n1_
                              have HO612 := n2_
                              have BK615 := n3_
                              have BK616 := n4_
                              have HB := n5_
                              clear n0_ n1_ n2_ n3_ n4_ n5_
                              have hcz46_0 : w45.cell? ⟨gb616, 0, none⟩ = some (.int .i64 t613) := (blk_cell BK616.out 0).trans rfl
                              have hcz46_1 : w45.cell? ⟨gb616, 1, none⟩ = some (.int .i64 t614) := (blk_cell BK616.out 1).trans rfl
                              have hfz46_0 := blk_frozen BK616.out 0
                              have hfz46_1 := blk_frozen BK616.out 1
                              have hcz47_0 : w45.cell? ⟨gb615, 0, none⟩ = some (.int .i64 t606) := (blk_cell BK615.out 0).trans rfl
                              have hcz47_1 : w45.cell? ⟨gb615, 1, none⟩ = some (.slice Ao36 t607.length co36) := (blk_cell BK615.out 1).trans rfl
                              have hcz47_2 : w45.cell? ⟨gb615, 2, none⟩ = some (.slice Ao37 t610.length co37) := (blk_cell BK615.out 2).trans rfl
                              have hfz47_0 := blk_frozen BK615.out 0
                              have hfz47_1 := blk_frozen BK615.out 1
                              have hfz47_2 := blk_frozen BK615.out 2
                              have p617 : 0 ≤ (0 : Int) := (by omega)
                              have q617 : 0 < (t610.length : Int) := of_decide_eq_true (by first | (with_reducible assumption) | assumption)
                              obtain ⟨ad617, A617_3, c617_3, e617, hx617_0, hx617_1, hx617_2, hx617_3, hl617_3, hi617_3⟩ := at_T44 (Kd.N_reads' HO612.out).2.2 0 p617 q617
                              cases e617
                              obtain ⟨ce617, hce617, hMe617, hcc617⟩ := Kd.N_get HO612.out z44 0 p617 (by first | exact q617 | exact of_decide_eq_true (by first | (with_reducible assumption) | assumption) | (have e_ := (Kd.N_reads' HO612.out).1; omega))
                              obtain ⟨ua617_3, uc617_3, rfl, ul617_3, ge617_3⟩ := k44_openF hMe617
                              have hv617_3 := hcc617 3 _ rfl
                              rw [add_field _ _ 3 (by omega)] at hv617_3
                              replace hv617_3 := Option.some.inj (hv617_3.symm.trans hx617_3)
                              injection hv617_3 with hva_ hvn_ hvc_
                              rw [hva_] at ge617_3
                              rw [hvc_] at ul617_3
                              have HL617_3 := Aside0.mk (show Kd.V k41 41 _ w.heap.size _ _ ((rd_T44 t610 0).f3) from Kd.V_mk ul617_3 ge617_3)
                              clear hva_ hvn_ hvc_ ge617_3 ul617_3
                              clear hcc617 hce617
                              have qi617 : (0 < t610.length) = True := eq_true (by omega)
                              (try rw [show ((0 : Int)).toNat = 0 from rfl] at hx617_0)
                              (try rw [show 0 * 4 = 0 from rfl] at hx617_0)
                              (try rw [Addr.add_zero'] at hx617_0)
                              (try rw [show ((0 : Int)).toNat = 0 from rfl] at hx617_1)
                              (try rw [show 0 * 4 = 0 from rfl] at hx617_1)
                              (try rw [Addr.add_zero'] at hx617_1)
                              (try rw [show ((0 : Int)).toNat = 0 from rfl] at hx617_2)
                              (try rw [show 0 * 4 = 0 from rfl] at hx617_2)
                              (try rw [Addr.add_zero'] at hx617_2)
                              (try rw [show ((0 : Int)).toNat = 0 from rfl] at hx617_3)
                              (try rw [show 0 * 4 = 0 from rfl] at hx617_3)
                              (try rw [Addr.add_zero'] at hx617_3)
                              have HR617_3 := Aside0.mk hi617_3
                              have HC617_3 := Aside0.mk hl617_3
                              clear hi617_3 hl617_3
                              replace p617 := eq_true p617
                              replace q617 := eq_true q617
                              have p618 : 0 ≤ (0 : Int) := (by omega)
                              have q618 : 0 < (((rd_T44 t610 0).f3).length : Int) := of_decide_eq_true (by first | (with_reducible assumption) | assumption)
                              obtain ⟨ad618, e618, hx618_0, hx618_1⟩ := at_T41 (by repeat (first | (with_reducible exact HR617_3.out) | (with_reducible refine Kd.C_alloc ?_ _) | (with_reducible refine Kd.C_drewN ?_ _) | (with_reducible refine Kd.C_drew ?_) | exact HR617_3.out)) 0 p618 q618
                              cases e618
                              have qi618 : (0 < ((rd_T44 t610 0).f3).length) = True := eq_true (by omega)
                              (try rw [show ((0 : Int)).toNat = 0 from rfl] at hx618_0)
                              (try rw [show 0 * 2 = 0 from rfl] at hx618_0)
                              (try rw [Addr.add_zero'] at hx618_0)
                              (try rw [show ((0 : Int)).toNat = 0 from rfl] at hx618_1)
                              (try rw [show 0 * 2 = 0 from rfl] at hx618_1)
                              (try rw [Addr.add_zero'] at hx618_1)
                              replace p618 := eq_true p618
                              replace q618 := eq_true q618
                              go_wp2
                              go_meet
                              case rel => exact ⟨_, ((((rd_T41 ((rd_T44 t610 0).f3) 0).f1) != a0)), (by first | rfl | (simp; done) | (simp [*]; done)), H', ⟨by have := HJ5.out; have := HK2.out; have := HJ16.out; first | omega | exact Nat.le_refl _⟩, ⟨by (with_reducible repeat (first | apply Kd.R_alloc | apply Kd.R_drewN | apply Kd.R_drew)); exact HO_3.out⟩, ⟨by (with_reducible repeat (first | apply Kd.R_alloc | apply Kd.R_drewN | apply Kd.R_drew)); exact HO609.out⟩, ⟨by (with_reducible repeat (first | apply Kd.N_alloc | apply Kd.N_drewN | apply Kd.N_drew)); exact HO612.out⟩, ⟨by (with_reducible repeat (first | refine blk_drewN ?_ _ | refine blk_drew ?_ | refine blk_alloc ?_ _)); exact BK615.out⟩, ⟨by (with_reducible repeat (first | refine blk_drewN ?_ _ | refine blk_drew ?_ | refine blk_alloc ?_ _)); exact BK616.out⟩, ⟨by repeat (first | (with_reducible first | exact HB.out | apply below_alloc | apply pw_below_drewN | apply below_drew1 | refine below_set ?_ GE615.out | refine below_set ?_ GE616.out) | exact HB.out)⟩⟩
                            · rw [if_neg c41] at H
                              exact absurd H (by simp)
                          · rw [if_neg c40] at H
                            exact absurd H (by simp)
                        · rw [if_neg c39] at H
                          have c39b0 : (t613 == 0) = false := beq_eq_false_iff_ne.mpr c39
                          have c39b1 : (t613 != 0) = true := bne_iff_ne.mpr c39
                          (first | rw [c39b0] | (simp only [i64_w, i32_w]; rw [c39b0]) | skip)
                          have H' := Aside0.mk H
                          clear H
                          have hnb48 := NB616_615.out
                          have hnc48 := NB615_616.out
                          have hcz49_0 : w33.cell? ⟨gb616, 0, none⟩ = some (.int .i64 0) := (blk_cell BK616.out 0).trans rfl
                          have hcz49_1 : w33.cell? ⟨gb616, 1, none⟩ = some (.int .i64 0) := (blk_cell BK616.out 1).trans rfl
                          have hfz49_0 := blk_frozen BK616.out 0
                          have hfz49_1 := blk_frozen BK616.out 1
                          go_wp2
                          go_meet
                          case rel => exact ⟨_, (true), (by first | rfl | (simp; done) | (simp [*]; done)), H', ⟨by have := HJ5.out; have := HK2.out; have := HJ16.out; first | omega | exact Nat.le_refl _⟩, ⟨by (with_reducible repeat (first | apply Kd.R_alloc | apply Kd.R_drewN | apply Kd.R_drew)); exact Kd.R_mono (Kd.R_far (p := ⟨gb616, 1, none⟩) (Kd.R_far (p := ⟨gb616, 0, none⟩) (Kd.R_far (p := ⟨gb615, 2, none⟩) (Kd.R_far (p := ⟨gb615, 1, none⟩) (Kd.R_far (p := ⟨gb615, 0, none⟩) (Kd.R_types (Kd.R_types HO_3.out BK615.out (by decide)) BK616.out (by decide)) (fun _ hk => hk.1.2) (.int .i64 t606)) (fun _ hk => hk.1.2) (.slice Ao36 t607.length co36)) (fun _ hk => hk.1.2) (.slice Ao37 t610.length co37)) (fun _ hk => hk.2) (.int .i64 t613)) (fun _ hk => hk.2) (.int .i64 t614)) (fun _ hk => hk.1.1.2)⟩, ⟨by (with_reducible repeat (first | apply Kd.R_alloc | apply Kd.R_drewN | apply Kd.R_drew)); exact Kd.R_mono (Kd.R_far (p := ⟨gb616, 1, none⟩) (Kd.R_far (p := ⟨gb616, 0, none⟩) (Kd.R_far (p := ⟨gb615, 2, none⟩) (Kd.R_far (p := ⟨gb615, 1, none⟩) (Kd.R_far (p := ⟨gb615, 0, none⟩) (Kd.R_types (Kd.R_types HO609.out BK615.out (by decide)) BK616.out (by decide)) (fun _ hk => hk.1.2) (.int .i64 t606)) (fun _ hk => hk.1.2) (.slice Ao36 t607.length co36)) (fun _ hk => hk.1.2) (.slice Ao37 t610.length co37)) (fun _ hk => hk.2) (.int .i64 t613)) (fun _ hk => hk.2) (.int .i64 t614)) (fun _ hk => hk.1.1.2)⟩, ⟨by (with_reducible repeat (first | apply Kd.N_alloc | apply Kd.N_drewN | apply Kd.N_drew)); exact Kd.N_mono (Kd.N_far (p := ⟨gb616, 1, none⟩) (Kd.N_far (p := ⟨gb616, 0, none⟩) (Kd.N_far (p := ⟨gb615, 2, none⟩) (Kd.N_far (p := ⟨gb615, 1, none⟩) (Kd.N_far (p := ⟨gb615, 0, none⟩) (Kd.N_mono (Kd.N_mono HO612.out (fun k_ hk => (⟨hk, hk.1.2⟩ : _ ∧ k_ ≠ gb615))) (fun k_ hk => (⟨hk, hk.1.2⟩ : _ ∧ k_ ≠ gb616))) (fun _ hk => hk.1.2) (.int .i64 t606)) (fun _ hk => hk.1.2) (.slice Ao36 t607.length co36)) (fun _ hk => hk.1.2) (.slice Ao37 t610.length co37)) (fun _ hk => hk.2) (.int .i64 t613)) (fun _ hk => hk.2) (.int .i64 t614)) (fun _ hk => ⟨hk.1.1.1.1.2, ⟨hk.1.1.1.1.1, ⟨hk.1.1.1.2, hk.1.1.2⟩⟩⟩)⟩, ⟨by (with_reducible repeat (first | refine blk_drewN ?_ _ | refine blk_drew ?_ | refine blk_alloc ?_ _)); refine blk_far ?_ NB615_616.out _; (with_reducible repeat (first | refine blk_drewN ?_ _ | refine blk_drew ?_ | refine blk_alloc ?_ _)); refine blk_far ?_ NB615_616.out _; (with_reducible repeat (first | refine blk_drewN ?_ _ | refine blk_drew ?_ | refine blk_alloc ?_ _)); refine blk_put (cs := #[.int .i64 t606, .slice Ao36 t607.length co36, .slice none 0 0]) ?_ 2 _ rfl; (with_reducible repeat (first | refine blk_drewN ?_ _ | refine blk_drew ?_ | refine blk_alloc ?_ _)); refine blk_put (cs := #[.int .i64 t606, .slice none 0 0, .slice none 0 0]) ?_ 1 _ rfl; (with_reducible repeat (first | refine blk_drewN ?_ _ | refine blk_drew ?_ | refine blk_alloc ?_ _)); refine blk_put (cs := #[.int .i64 0, .slice none 0 0, .slice none 0 0]) ?_ 0 _ rfl; (with_reducible repeat (first | refine blk_drewN ?_ _ | refine blk_drew ?_ | refine blk_alloc ?_ _)); exact BK615.out⟩, ⟨by (with_reducible repeat (first | refine blk_drewN ?_ _ | refine blk_drew ?_ | refine blk_alloc ?_ _)); refine blk_put (cs := #[.int .i64 t613, .int .i64 0]) ?_ 1 _ rfl; (with_reducible repeat (first | refine blk_drewN ?_ _ | refine blk_drew ?_ | refine blk_alloc ?_ _)); refine blk_put (cs := #[.int .i64 0, .int .i64 0]) ?_ 0 _ rfl; (with_reducible repeat (first | refine blk_drewN ?_ _ | refine blk_drew ?_ | refine blk_alloc ?_ _)); refine blk_far ?_ NB616_615.out _; (with_reducible repeat (first | refine blk_drewN ?_ _ | refine blk_drew ?_ | refine blk_alloc ?_ _)); refine blk_far ?_ NB616_615.out _; (with_reducible repeat (first | refine blk_drewN ?_ _ | refine blk_drew ?_ | refine blk_alloc ?_ _)); refine blk_far ?_ NB616_615.out _; (with_reducible repeat (first | refine blk_drewN ?_ _ | refine blk_drew ?_ | refine blk_alloc ?_ _)); exact BK616.out⟩, ⟨by repeat (first | (with_reducible first | exact HB.out | apply below_alloc | apply pw_below_drewN | apply below_drew1 | refine below_set ?_ GE615.out | refine below_set ?_ GE616.out) | exact HB.out)⟩⟩
                      case rest =>
                        clear HC29
                        try clear c1
                        try clear c2
                        try clear p2
                        try clear c3
                        try clear c4
                        try clear c5
                        try clear c5b0
                        try clear c5b1
                        try clear c6
                        try clear p6
                        try clear q6
                        try clear hx6
                        try clear qi6
                        try clear c8
                        try clear c9
                        try clear c10
                        try clear c13
                        try clear c15
                        try clear c15b0
                        try clear c16
                        try clear c16b0
                        try clear c18
                        try clear c18b0
                        try clear c18b1
                        try clear c19
                        try clear c19b0
                        try clear c19b1
                        try clear c20
                        try clear c20b0
                        try clear c20b1
                        try clear c22
                        try clear c22b0
                        try clear c23
                        try clear c23b0
                        try clear c27
                        try clear c34
                        try clear c39
                        try clear c39b0
                        try clear c39b1
                        try clear c40
                        try clear c40b0
                        try clear c40b1
                        try clear c41
                        try clear c41b0
                        try clear c41b1
                        try clear c42
                        try clear c48
                        try clear hcz35_0
                        try clear hcz35_1
                        try clear hcz35_2
                        try clear hcz38_0
                        try clear hcz38_1
                        try clear hcz43_0
                        try clear hcz43_1
                        try clear hcz44_0
                        try clear hcz44_1
                        try clear hcz44_2
                        try clear hcz46_0
                        try clear hcz46_1
                        try clear hcz47_0
                        try clear hcz47_1
                        try clear hcz47_2
                        try clear hcz49_0
                        try clear hcz49_1
                        try clear hfz35_0
                        try clear hfz35_1
                        try clear hfz35_2
                        try clear hfz38_0
                        try clear hfz38_1
                        try clear hfz43_0
                        try clear hfz43_1
                        try clear hfz44_0
                        try clear hfz44_1
                        try clear hfz44_2
                        try clear hfz46_0
                        try clear hfz46_1
                        try clear hfz47_0
                        try clear hfz47_1
                        try clear hfz47_2
                        try clear hfz49_0
                        try clear hfz49_1
                        try clear hx604_0
                        try clear hx605_0
                        try clear hx617_0
                        try clear hx617_1
                        try clear hx617_2
                        try clear hx617_3
                        try clear hx618_0
                        try clear hx618_1
                        try clear p2
                        try clear p6
                        try clear p604
                        try clear p605
                        try clear p617
                        try clear p618
                        try clear q6
                        try clear q604
                        try clear q605
                        try clear q617
                        try clear q618
                        obtain ⟨kq, x81_28, rfl, HA, HJ28, HO_3, HO_616001, HO_616002, BK615, BK616, HB⟩ := hcut
                        cases kq with
                        | zero => exact absurd HA.out (by simp [casementlaw12_ModuleNumbers.j3])
                        | succ kj28 =>
                          have H := HA.out
                          clear HA
                          simp only [casementlaw12_ModuleNumbers.j3] at H
                          by_cases c50 : x81_28 = true
                          · subst c50
                            have H1 : (some false) = some r := by rw [if_pos rfl] at H; exact H
                            clear H
                            have H := H1
                            clear H1
                            exact absurd ((Option.some.inj H).trans HRT.out) (by decide)
                          · replace c50 := Bool.eq_false_iff.mpr c50
                            subst c50
                            have H1 : (if x6_2 = 10 then (if 0 ≤ (wrap64 ((t600.length : Int) - 1)) then (if (wrap64 ((t600.length : Int) - 1)) < (t600.length : Int) then (some ((rd t600 (wrap64 ((t600.length : Int) - 1))) == 1)) else (none)) else (none)) else ((some (([] : List Int) : List Int)).bind fun y620 => (if y620.length + t600.length < 140737488355328 then ((some (y620 ++ t600 : List Int)).bind fun y623 => (if 0 ≤ (wrap64 ((y623.length : Int) - 1)) then (if (wrap64 ((y623.length : Int) - 1)) < (y623.length : Int) then ((some (y623.set ((wrap64 ((y623.length : Int) - 1)) : Int).toNat (((rd y623 (wrap64 ((y623.length : Int) - 1))) + 128) % 256) : List Int)).bind fun y627 => (if y627.length < 140737488355328 then ((module_Decode.f kj28 (y627 ++ [0])).bind fun bt631 => (if bt631.2.2.2.1 = 120 then (some (bt631.2.2.2.2 == (t600.length : Int))) else (some false))) else (none))) else (none)) else (none))) else (none)))) = some r := by rw [if_neg (show ¬ (false = true) by decide)] at H; exact H
                            clear H
                            have H := H1
                            clear H1
                            by_cases c51 : x6_2 = 10
                            · rw [if_pos c51] at H
                              have c51b0 : (x6_2 == 10) = true := beq_iff_eq.mpr c51
                              have c51b1 : (x6_2 != 10) = false := bne_eq_false_iff_eq.mpr c51
                              clear c51
                              obtain ⟨ji52, hji52⟩ : ∃ j_ : Int, (wrap64 ((t600.length : Int) - 1)) = j_ := ⟨_, rfl⟩
                              replace H : (if 0 ≤ (ji52) then (if (ji52) < (t600.length : Int) then (some ((rd t600 (ji52)) == 1)) else (none)) else (none)) = some r := by first | (rw [hji52] at H; exact H) | (simp only [hji52] at H ⊢; exact H)
                              have hji52w : (IntKind.i64.wrap ((t600.length : Int) - 1)) = ji52 := (i64_w _).trans hji52
                              by_cases c53 : 0 ≤ (ji52)
                              · rw [if_pos c53] at H
                                have c53b0 : decide (0 ≤ (ji52)) = true := decide_eq_true c53
                                clear c53
                                by_cases c54 : (ji52) < (t600.length : Int)
                                · rw [if_pos c54] at H
                                  have c54b0 : decide ((ji52) < (t600.length : Int)) = true := decide_eq_true c54
                                  clear c54
                                  obtain rfl := Option.some.inj H
                                  have p619 : 0 ≤ ((ji52) : Int) := of_decide_eq_true (by first | (with_reducible assumption) | assumption)
                                  have q619 : (ji52) < (t600.length : Int) := of_decide_eq_true (by first | (with_reducible assumption) | assumption)
                                  obtain ⟨ad619, e619, hx619_0⟩ := Kd.at_int (Kd.R_reads' HO_3.out).2.2 (ji52) p619 q619
                                  cases e619
                                  replace p619 := eq_true p619
                                  replace q619 := eq_true q619
                                  go_wp2
                                  go_ret
                                  exact ⟨by first | rfl | (simp [errW_none, errW_some] <;> rfl) | (simp only [← hji52]; first | rfl | (simp [errW_none, errW_some] <;> rfl)) | (simp [*, errW_none, errW_some] <;> rfl), by repeat (first | (with_reducible first | exact HB.out | apply below_alloc | apply pw_below_drewN | apply below_drew1 | refine below_set ?_ GE615.out | refine below_set ?_ GE616.out) | exact HB.out)⟩
                                · rw [if_neg c54] at H
                                  exact absurd H (by simp)
                              · rw [if_neg c53] at H
                                exact absurd H (by simp)
                            · rw [if_neg c51] at H
                              have c51b0 : (x6_2 == 10) = false := beq_eq_false_iff_ne.mpr c51
                              have c51b1 : (x6_2 != 10) = true := bne_iff_ne.mpr c51
                              obtain ⟨y620, hy620⟩ : ∃ y_ : List Int, y_ = (([] : List Int)) := ⟨_, rfl⟩
                              replace H : (if y620.length + t600.length < 140737488355328 then ((some (y620 ++ t600 : List Int)).bind fun y623 => (if 0 ≤ (wrap64 ((y623.length : Int) - 1)) then (if (wrap64 ((y623.length : Int) - 1)) < (y623.length : Int) then ((some (y623.set ((wrap64 ((y623.length : Int) - 1)) : Int).toNat (((rd y623 (wrap64 ((y623.length : Int) - 1))) + 128) % 256) : List Int)).bind fun y627 => (if y627.length < 140737488355328 then ((module_Decode.f kj28 (y627 ++ [0])).bind fun bt631 => (if bt631.2.2.2.1 = 120 then (some (bt631.2.2.2.2 == (t600.length : Int))) else (some false))) else (none))) else (none)) else (none))) else (none)) = some r := by first | (rw [hy620]; with_reducible exact H) | (have H2_ := (Option.bind_some _ _).symm.trans H; rw [hy620]; with_reducible exact H2_) | (have H2_ := (Option.bind_some _ _).symm.trans H; with_reducible exact H2_) | with_reducible exact H | (rw [hy620]; exact H) | exact H
                              have Ny620 := Aside0.mk hy620
                              clear hy620
                              by_cases c55 : y620.length + t600.length < 140737488355328
                              · rw [if_pos c55] at H
                                have LMc55 := Aside0.mk c55
                                clear c55
                                obtain ⟨y623, hy623⟩ : ∃ y_ : List Int, y_ = (y620 ++ t600) := ⟨_, rfl⟩
                                replace H : (if 0 ≤ (wrap64 ((y623.length : Int) - 1)) then (if (wrap64 ((y623.length : Int) - 1)) < (y623.length : Int) then ((some (y623.set ((wrap64 ((y623.length : Int) - 1)) : Int).toNat (((rd y623 (wrap64 ((y623.length : Int) - 1))) + 128) % 256) : List Int)).bind fun y627 => (if y627.length < 140737488355328 then ((module_Decode.f kj28 (y627 ++ [0])).bind fun bt631 => (if bt631.2.2.2.1 = 120 then (some (bt631.2.2.2.2 == (t600.length : Int))) else (some false))) else (none))) else (none)) else (none)) = some r := by first | (rw [hy623]; with_reducible exact H) | (have H2_ := (Option.bind_some _ _).symm.trans H; rw [hy623]; with_reducible exact H2_) | (have H2_ := (Option.bind_some _ _).symm.trans H; with_reducible exact H2_) | with_reducible exact H | (rw [hy623]; exact H) | exact H
                                have Ny623 := Aside0.mk hy623
                                clear hy623
                                obtain ⟨ji56, hji56⟩ : ∃ j_ : Int, (wrap64 ((y623.length : Int) - 1)) = j_ := ⟨_, rfl⟩
                                replace H : (if 0 ≤ (ji56) then (if (ji56) < (y623.length : Int) then ((some (y623.set ((ji56) : Int).toNat (((rd y623 (ji56)) + 128) % 256) : List Int)).bind fun y627 => (if y627.length < 140737488355328 then ((module_Decode.f kj28 (y627 ++ [0])).bind fun bt631 => (if bt631.2.2.2.1 = 120 then (some (bt631.2.2.2.2 == (t600.length : Int))) else (some false))) else (none))) else (none)) else (none)) = some r := by first | (rw [hji56] at H; exact H) | (simp only [hji56] at H ⊢; exact H)
                                have hji56w : (IntKind.i64.wrap ((y623.length : Int) - 1)) = ji56 := (i64_w _).trans hji56
                                by_cases c57 : 0 ≤ (ji56)
                                · rw [if_pos c57] at H
                                  have c57b0 : decide (0 ≤ (ji56)) = true := decide_eq_true c57
                                  clear c57
                                  by_cases c58 : (ji56) < (y623.length : Int)
                                  · rw [if_pos c58] at H
                                    have c58b0 : decide ((ji56) < (y623.length : Int)) = true := decide_eq_true c58
                                    clear c58
                                    obtain ⟨y627, hy627⟩ : ∃ y_ : List Int, y_ = (y623.set ((ji56) : Int).toNat (((rd y623 (ji56)) + 128) % 256)) := ⟨_, rfl⟩
                                    replace H : (if y627.length < 140737488355328 then ((module_Decode.f kj28 (y627 ++ [0])).bind fun bt631 => (if bt631.2.2.2.1 = 120 then (some (bt631.2.2.2.2 == (t600.length : Int))) else (some false))) else (none)) = some r := by first | (rw [hy627]; with_reducible exact H) | (have H2_ := (Option.bind_some _ _).symm.trans H; rw [hy627]; with_reducible exact H2_) | (have H2_ := (Option.bind_some _ _).symm.trans H; with_reducible exact H2_) | with_reducible exact H | (rw [hy627]; exact H) | exact H
                                    have Ny627 := Aside0.mk hy627
                                    clear hy627
                                    by_cases c60 : y627.length < 140737488355328
                                    · rw [if_pos c60] at H
                                      have LMc60 := Aside0.mk c60
                                      clear c60
                                      obtain ⟨y628, hy628⟩ : ∃ y_ : List Int, y_ = (y627 ++ [0]) := ⟨_, rfl⟩
                                      replace H : ((module_Decode.f kj28 y628).bind fun bt631 => (if bt631.2.2.2.1 = 120 then (some (bt631.2.2.2.2 == (t600.length : Int))) else (some false))) = some r := by first | (rw [hy628]; with_reducible exact H) | (have H2_ := (Option.bind_some _ _).symm.trans H; rw [hy628]; with_reducible exact H2_) | (have H2_ := (Option.bind_some _ _).symm.trans H; with_reducible exact H2_) | with_reducible exact H | (rw [hy628]; exact H) | exact H
                                      have Ny628 := Aside0.mk hy628
                                      clear hy628
                                      replace H := Option.bind_eq_some_iff.mp H
                                      obtain ⟨⟨t631, t632, t635, t638, t639⟩, A610, H⟩ := H
                                      replace H : (if t638 = 120 then (some (t639 == (t600.length : Int))) else (some false)) = some r := H
                                      have A61 := Aside0.mk A610
                                      clear A610
                                      by_cases c62 : t638 = 120
                                      · rw [if_pos c62] at H
                                        have c62b0 : (t638 == 120) = true := beq_iff_eq.mpr c62
                                        have c62b1 : (t638 != 120) = false := bne_eq_false_iff_eq.mpr c62
                                        clear c62
                                        obtain rfl := Option.some.inj H
                                        go_wp2_with (first | ((with_reducible refine gate_dst (N := 91) rfl ?_); (try (refine gate_guard (by rfl) ?_; dsimp only)); refine Kd.R_lit (Kd.int .u8) _ 5 ?hg (N := 91) ?hd (xs := ([] : List Int)) (inner := []) (ok := fun _ => True) (okp := fun _ => True) ?hr ?hp (fun _ hk => hk) trivial (Below.refl _ _) (Nat.le_refl _) (by simp) ?_; (case hd => rfl); (case hg => rfl); (case hr => first | (go_simp; done) | (go_simp; rfl)); (case hp => exact (Reps.none _ _)); intro v621 w63 ho64 hb hg_ hnew_; clear hg_ hnew_; (first | rw [← Ny620.out] at ho64 | (simp only [Int.reduceToNat] at ho64; rw [← Ny620.out] at ho64)); have n0_ := Aside0.mk (Kd.R_elder' (by (with_reducible repeat (first | apply Kd.R_alloc | apply Kd.R_drewN | apply Kd.R_drew)); exact HO_3.out) (Kd.R_base ho64) hb); have n1_ := Aside0.mk (Kd.R_elder' (by (with_reducible repeat (first | apply Kd.R_alloc | apply Kd.R_drewN | apply Kd.R_drew)); exact HO_616001.out) (Kd.R_base ho64) hb); have n2_ := Aside0.mk (Kd.N_elder' (by (with_reducible repeat (first | apply Kd.N_alloc | apply Kd.N_drewN | apply Kd.N_drew)); exact HO_616002.out) (Kd.R_base ho64) hb); have n3_ := Aside0.mk (Kd.R_lower (Kd.R_new' (Kd.R_new' ho64 (Kd.R_lt (by (with_reducible repeat (first | apply Kd.R_alloc | apply Kd.R_drewN | apply Kd.R_drew)); exact HO_3.out))) (Kd.R_lt (by (with_reducible repeat (first | apply Kd.R_alloc | apply Kd.R_drewN | apply Kd.R_drew)); exact HO_616001.out))) (below_size (by repeat (first | (with_reducible first | exact HB.out | apply below_alloc | apply pw_below_drewN | apply below_drew1 | refine below_set ?_ GE615.out | refine below_set ?_ GE616.out) | exact HB.out)))); have n4_ := Aside0.mk (blk_below (g := gb615) (o := .cells #[.int .i64 t606, .slice Ao36 t607.length co36, .slice Ao37 t610.length co37] 26 (0, 0)) (by (with_reducible repeat (first | refine blk_drewN ?_ _ | refine blk_drew ?_ | refine blk_alloc ?_ _)); exact BK615.out) hb); have n5_ := Aside0.mk (blk_below (g := gb616) (o := .cells #[.int .i64 t613, .int .i64 t614] 29 (0, 0)) (by (with_reducible repeat (first | refine blk_drewN ?_ _ | refine blk_drew ?_ | refine blk_alloc ?_ _)); exact BK616.out) hb); have n6_ := Aside0.mk (below_step (by repeat (first | (with_reducible first | exact HB.out | apply below_alloc | apply pw_below_drewN | apply below_drew1 | refine below_set ?_ GE615.out | refine below_set ?_ GE616.out) | exact HB.out)) hb); clear HO_3; clear HO_616001; clear HO_616002; clear BK615; clear BK616; clear HB; have HO_3 := n0_; have HO_616001 := n1_; have HO_616002 := n2_; have HO622 := n3_; have BK615 := n4_; have BK616 := n5_; have HB := n6_; clear n0_ n1_ n2_ n3_ n4_ n5_ n6_; clear hb ho64) | ((with_reducible refine gate_builtin (b := .append) (xs := #[.tmp 91, .tmp 92]) rfl ?_); (try (refine gate_guard (by rfl) ?_; dsimp only)); at_builtin; refine Kd.R_append_rows (Kd.int .u8) (w0 := w) w.heap.size rfl (.tmp 91) (.tmp 92) 22 5 (.int .u8 0) 1 rfl Try.underlying22 info5 rfl (by decide) (by omega) v621 y620 t600 _ _ _ (fun k_ => some k_ ≠ (.slice Ao30 t600.length co30 : Value).ownBlock ∧ some k_ ≠ (.slice Ao36 t607.length co36 : Value).ownBlock) (fun _ => False) rfl rfl ?aO ?aR (fun _ _ h => h) (fun _ h => h.elim) ?aF ?aB ?aS ?aL ?_; (case aR => repeat (first | exact (Kd.R_reads' HO_3.out).2.2 | (with_reducible refine Kd.C_alloc ?_ _) | (with_reducible refine Kd.C_drewN ?_ _) | (with_reducible refine Kd.C_drew ?_))); (case aB => exact (by repeat (first | (with_reducible first | exact HB.out | apply below_alloc | apply pw_below_drewN | apply below_drew1 | refine below_set ?_ GE615.out | refine below_set ?_ GE616.out) | exact HB.out))); (case aF => exact (fun k_ hk => ⟨Kd.fresh' (Kd.R_lt (by (with_reducible repeat (first | apply Kd.R_alloc | apply Kd.R_drewN | apply Kd.R_drew)); exact HO_3.out)) k_ hk, Kd.fresh' (Kd.R_lt (by (with_reducible repeat (first | apply Kd.R_alloc | apply Kd.R_drewN | apply Kd.R_drew)); exact HO_616001.out)) k_ hk⟩)); (case aO => exact (by (with_reducible repeat (first | apply Kd.R_alloc | apply Kd.R_drewN | apply Kd.R_drew)); exact Kd.R_mono HO622.out (fun _ hk => ⟨hk.1.2, hk.2⟩))); (case aS => exact (below_size (by repeat (first | (with_reducible first | exact HB.out | apply below_alloc | apply pw_below_drewN | apply below_drew1 | refine below_set ?_ GE615.out | refine below_set ?_ GE616.out) | exact HB.out)))); (case aL => have := LMc55.out; omega); intro v624 w65 ho hb hg hat; rw [← Ny623.out] at ho; have n0_ := Aside0.mk (Kd.R_after (ok := (fun k_ => some k_ ≠ (.slice Ao36 t607.length co36 : Value).ownBlock)) (by (with_reducible repeat (first | apply Kd.R_alloc | apply Kd.R_drewN | apply Kd.R_drew)); exact HO_3.out) hg hat); have n1_ := Aside0.mk (Kd.R_after (ok := (fun k_ => some k_ ≠ (.slice Ao30 t600.length co30 : Value).ownBlock)) (by (with_reducible repeat (first | apply Kd.R_alloc | apply Kd.R_drewN | apply Kd.R_drew)); exact HO_616001.out) hg hat); have n2_ := Aside0.mk (Kd.N_afterv (ok := (fun k_ => some k_ ≠ (.slice Ao30 t600.length co30 : Value).ownBlock ∧ some k_ ≠ (.slice Ao36 t607.length co36 : Value).ownBlock ∧ k_ ≠ gb615 ∧ k_ ≠ gb616)) (by (with_reducible repeat (first | apply Kd.N_alloc | apply Kd.N_drewN | apply Kd.N_drew)); exact HO_616002.out) hg hat); have n3_ := Aside0.mk (blk_grown (g := gb615) (o := .cells #[.int .i64 t606, .slice Ao36 t607.length co36, .slice Ao37 t610.length co37] 26 (0, 0)) (by (with_reducible repeat (first | refine blk_drewN ?_ _ | refine blk_drew ?_ | refine blk_alloc ?_ _)); exact BK615.out) hg (Kd.R_ne HO622.out BK615.out (by decide))); have n4_ := Aside0.mk (blk_grown (g := gb616) (o := .cells #[.int .i64 t613, .int .i64 t614] 29 (0, 0)) (by (with_reducible repeat (first | refine blk_drewN ?_ _ | refine blk_drew ?_ | refine blk_alloc ?_ _)); exact BK616.out) hg (Kd.R_ne HO622.out BK616.out (by decide))); have n5_ := Aside0.mk (hb); have n6_ := Aside0.mk (ho); clear HO_3; clear HO_616001; clear HO_616002; clear BK615; clear BK616; clear HB; clear HO622; have HO_3 := n0_; have HO_616001 := n1_; have HO_616002 := n2_; have BK615 := n3_; have BK616 := n4_; have HB := n5_; have HO625 := n6_; clear n0_ n1_ n2_ n3_ n4_ n5_ n6_; clear ho hb hg hat; obtain ⟨Ao66, co66, eo66⟩ := Kd.R_slice HO625.out; subst eo66; have p626 : 0 ≤ ((ji56) : Int) := of_decide_eq_true (by first | (with_reducible assumption) | assumption); have q626 : (ji56) < (y623.length : Int) := of_decide_eq_true (by first | (with_reducible assumption) | assumption); obtain ⟨ad626, e626, hx626_0⟩ := Kd.at_int (Kd.R_reads' HO625.out).2.2 (ji56) p626 q626; cases e626; replace p626 := eq_true p626; replace q626 := eq_true q626; have p59 : 0 ≤ ((ji56) : Int) := of_decide_eq_true (by first | (with_reducible assumption) | assumption); have q59 : ((ji56) : Int) < ((y623.length : Int) : Int) := of_decide_eq_true (by first | (with_reducible assumption) | assumption); obtain ⟨go59, co59, eo59, gb59, gl59, cl59, HG59⟩ := Kd.R_form HO625.out (by omega); (first | cases eo59 | (injection eo59 with ea_ en_ ec_; (first | subst ea_ | (injection ea_ with ea_; subst ea_)); subst ec_; clear en_)); have GB59 := Aside0.mk gb59; have GG59 := Aside0.mk HG59; clear gb59 gl59 HG59; (first | simp only [add_plain] at hx626_0 | skip); obtain ⟨hx59_0, hf59_0⟩ := Kd.R_celln 0 HO625.out ((ji56) : Int) p59 q59; replace p59 := eq_true p59; replace q59 := eq_true q59; obtain ⟨hy67_, hz67_⟩ := Kd.R_celln 0 HO625.out ((ji56) : Int) (of_decide_eq_true (by first | (with_reducible assumption) | assumption)) (of_decide_eq_true (by first | (with_reducible assumption) | assumption)); have HP67 := Kd.R_putg HO625.out ((ji56) : Int) (((rd y623 (ji56)) + 128) % 256)) | ((with_reducible refine gate_store (t := 5) (p := 105) rfl ?_); refine store_event (t := 5) (p := 105) (v := ?vo_w68) (w1 := (w65.setCell ⟨go59, ((ji56) : Int).toNat, none⟩ (.int .u8 (((rd y623 (ji56)) + 128) % 256)))) ?hg ?ho ?hn ?hr ?_; (case ho => rfl); (case hg => rfl); (case hn => rfl); (case hr => first | (go_simp; done) | (go_simp; rfl)); intro w68 hw; have hg : w65.grownBy w68 (some go59) := (by rw [hw]; exact HP67.2); have hp_ : Kd.R (Kd.int .u8) 5 w68 w.heap.size (fun k_ => some k_ ≠ (.slice Ao30 t600.length co30 : Value).ownBlock ∧ some k_ ≠ (.slice Ao36 t607.length co36 : Value).ownBlock) (.slice (some ⟨go59, 0, none⟩) y623.length co66) y627 := (by rw [hw, Ny627.out]; exact HP67.1); clear HP67; have n0_ := Aside0.mk (Kd.R_after (v := (.slice (some ⟨go59, 0, none⟩) y623.length co66)) (v1 := (.slice (some ⟨go59, 0, none⟩) y623.length co66)) (ok := (fun k_ => some k_ ≠ (.slice Ao36 t607.length co36 : Value).ownBlock)) (by (with_reducible repeat (first | apply Kd.R_alloc | apply Kd.R_drewN | apply Kd.R_drew)); exact HO_3.out) hg (.inl rfl)); have n1_ := Aside0.mk (Kd.R_after (v := (.slice (some ⟨go59, 0, none⟩) y623.length co66)) (v1 := (.slice (some ⟨go59, 0, none⟩) y623.length co66)) (ok := (fun k_ => some k_ ≠ (.slice Ao30 t600.length co30 : Value).ownBlock)) (by (with_reducible repeat (first | apply Kd.R_alloc | apply Kd.R_drewN | apply Kd.R_drew)); exact HO_616001.out) hg (.inl rfl)); have n2_ := Aside0.mk (Kd.N_afterv (v := (.slice (some ⟨go59, 0, none⟩) y623.length co66)) (v1 := (.slice (some ⟨go59, 0, none⟩) y623.length co66)) (ok := (fun k_ => some k_ ≠ (.slice Ao30 t600.length co30 : Value).ownBlock ∧ some k_ ≠ (.slice Ao36 t607.length co36 : Value).ownBlock ∧ k_ ≠ gb615 ∧ k_ ≠ gb616)) (by (with_reducible repeat (first | apply Kd.N_alloc | apply Kd.N_drewN | apply Kd.N_drew)); exact HO_616002.out) hg (.inl rfl)); have n3_ := Aside0.mk (blk_grown (g := gb615) (o := .cells #[.int .i64 t606, .slice Ao36 t607.length co36, .slice Ao37 t610.length co37] 26 (0, 0)) (by (with_reducible repeat (first | refine blk_drewN ?_ _ | refine blk_drew ?_ | refine blk_alloc ?_ _)); exact BK615.out) hg (Kd.R_ne HO625.out BK615.out (by decide))); have n4_ := Aside0.mk (blk_grown (g := gb616) (o := .cells #[.int .i64 t613, .int .i64 t614] 29 (0, 0)) (by (with_reducible repeat (first | refine blk_drewN ?_ _ | refine blk_drew ?_ | refine blk_alloc ?_ _)); exact BK616.out) hg (Kd.R_ne HO625.out BK616.out (by decide))); have n5_ := Aside0.mk (hp_); have n6_ := Aside0.mk ((by rw [hw]; exact below_set (HB.out) GB59.out : Below w.heap.size w w68)); clear HO_3; clear HO_616001; clear HO_616002; clear BK615; clear BK616; clear HO625; clear HB; have HO_3 := n0_; have HO_616001 := n1_; have HO_616002 := n2_; have BK615 := n3_; have BK616 := n4_; have HO625 := n5_; have HB := n6_; clear n0_ n1_ n2_ n3_ n4_ n5_ n6_; clear hg hw hp_) | ((with_reducible refine gate_builtin (b := .append) (xs := #[.tmp 106, .tmp 107]) rfl ?_); (try (refine gate_guard (by rfl) ?_; dsimp only)); at_builtin; refine Kd.R_append (Kd.int .u8) (w0 := w) w.heap.size rfl (.tmp 106) (.tmp 107) 22 5 (.int .u8 0) 1 rfl Try.underlying22 info5 rfl (by decide) (by omega) (.slice (some ⟨go59, 0, none⟩) y623.length co66) y627 0 [.int .u8 0] (fun k_ => some k_ ≠ (.slice Ao30 t600.length co30 : Value).ownBlock ∧ some k_ ≠ (.slice Ao36 t607.length co36 : Value).ownBlock) (fun _ => False) rfl rfl ?aP (fun _ hk => hk.elim) ?aF ?aO ?aB ?aS ?aL ?_; (case aP => exact rfl); (case aB => exact (by repeat (first | (with_reducible first | exact HB.out | apply below_alloc | apply pw_below_drewN | apply below_drew1 | refine below_set ?_ GE615.out | refine below_set ?_ GE616.out) | exact HB.out))); (case aF => exact (fun k_ hk => ⟨Kd.fresh' (Kd.R_lt (by (with_reducible repeat (first | apply Kd.R_alloc | apply Kd.R_drewN | apply Kd.R_drew)); exact HO_3.out)) k_ hk, Kd.fresh' (Kd.R_lt (by (with_reducible repeat (first | apply Kd.R_alloc | apply Kd.R_drewN | apply Kd.R_drew)); exact HO_616001.out)) k_ hk⟩)); (case aO => exact (by (with_reducible repeat (first | apply Kd.R_alloc | apply Kd.R_drewN | apply Kd.R_drew)); exact HO625.out)); (case aS => exact (below_size (by repeat (first | (with_reducible first | exact HB.out | apply below_alloc | apply pw_below_drewN | apply below_drew1 | refine below_set ?_ GE615.out | refine below_set ?_ GE616.out) | exact HB.out)))); (case aL => have := LMc60.out; omega); intro v629 w69 ho hb hg hat; rw [← Ny628.out] at ho; have n0_ := Aside0.mk (Kd.R_after (ok := (fun k_ => some k_ ≠ (.slice Ao36 t607.length co36 : Value).ownBlock)) (by (with_reducible repeat (first | apply Kd.R_alloc | apply Kd.R_drewN | apply Kd.R_drew)); exact HO_3.out) hg hat); have n1_ := Aside0.mk (Kd.R_after (ok := (fun k_ => some k_ ≠ (.slice Ao30 t600.length co30 : Value).ownBlock)) (by (with_reducible repeat (first | apply Kd.R_alloc | apply Kd.R_drewN | apply Kd.R_drew)); exact HO_616001.out) hg hat); have n2_ := Aside0.mk (Kd.N_afterv (ok := (fun k_ => some k_ ≠ (.slice Ao30 t600.length co30 : Value).ownBlock ∧ some k_ ≠ (.slice Ao36 t607.length co36 : Value).ownBlock ∧ k_ ≠ gb615 ∧ k_ ≠ gb616)) (by (with_reducible repeat (first | apply Kd.N_alloc | apply Kd.N_drewN | apply Kd.N_drew)); exact HO_616002.out) hg hat); have n3_ := Aside0.mk (blk_grown (g := gb615) (o := .cells #[.int .i64 t606, .slice Ao36 t607.length co36, .slice Ao37 t610.length co37] 26 (0, 0)) (by (with_reducible repeat (first | refine blk_drewN ?_ _ | refine blk_drew ?_ | refine blk_alloc ?_ _)); exact BK615.out) hg (Kd.R_ne HO625.out BK615.out (by decide))); have n4_ := Aside0.mk (blk_grown (g := gb616) (o := .cells #[.int .i64 t613, .int .i64 t614] 29 (0, 0)) (by (with_reducible repeat (first | refine blk_drewN ?_ _ | refine blk_drew ?_ | refine blk_alloc ?_ _)); exact BK616.out) hg (Kd.R_ne HO625.out BK616.out (by decide))); have n5_ := Aside0.mk (hb); have n6_ := Aside0.mk (ho); clear HO_3; clear HO_616001; clear HO_616002; clear BK615; clear BK616; clear HB; clear HO625; have HO_3 := n0_; have HO_616001 := n1_; have HO_616002 := n2_; have BK615 := n3_; have BK616 := n4_; have HB := n5_; have HO630 := n6_; clear n0_ n1_ n2_ n3_ n4_ n5_ n6_; clear ho hb hg hat; obtain ⟨Ao70, co70, eo70⟩ := Kd.R_slice HO630.out; subst eo70) | ((with_reducible refine gate_callee (f := 10) rfl ?_); refine goesL_ (some 111) rfl rfl Try.func10 (by kernel_rfl) rfl #[.slice Ao70 y628.length co70] rfl (by (try simp only [List.map_toArray, List.map_cons, List.map_nil]); first | done | rfl | (simp only [List.length_drop, List.length_take]; rfl)) ?_; (with_reducible refine (module_Decode.calls kj28 _ _ y628 t631 t632 t635 t638 t639 _ ?side1 ?side2 A61.out).mono ?_); (case side1 => repeat (first | exact (Kd.R_reads' HO630.out).2.2 | (with_reducible refine Kd.C_alloc ?_ _) | (with_reducible refine Kd.C_drewN ?_ _) | (with_reducible refine Kd.C_drew ?_))); (case side2 => exact (Kd.R_reads' HO630.out).2.1); rintro e w71 ⟨v633, v636, rfl, ho0, ho1, hb⟩; refine ⟨_, rfl, ?_⟩; have n0_ := Aside0.mk (Kd.R_elder' (by (with_reducible repeat (first | apply Kd.R_alloc | apply Kd.R_drewN | apply Kd.R_drew)); exact HO_3.out) (Kd.R_base ho0) hb); have n1_ := Aside0.mk (Kd.R_elder' (by (with_reducible repeat (first | apply Kd.R_alloc | apply Kd.R_drewN | apply Kd.R_drew)); exact HO_616001.out) (Kd.R_base ho0) hb); have n2_ := Aside0.mk (Kd.N_mono (Kd.N_told (Kd.N_told (Kd.N_old (by (with_reducible repeat (first | apply Kd.N_alloc | apply Kd.N_drewN | apply Kd.N_drew)); exact HO_616002.out) hb) (Kd.R_base ho0)) (Kd.S_base ho1)) (fun _ h_ => h_.1)); have n3_ := Aside0.mk (Kd.R_elder' (by (with_reducible repeat (first | apply Kd.R_alloc | apply Kd.R_drewN | apply Kd.R_drew)); exact HO630.out) (Kd.R_base ho0) hb); have n4_ := Aside0.mk (Kd.R_lower (Kd.R_new' (Kd.R_new' (Kd.R_new' ho0 (Kd.R_lt (by (with_reducible repeat (first | apply Kd.R_alloc | apply Kd.R_drewN | apply Kd.R_drew)); exact HO_3.out))) (Kd.R_lt (by (with_reducible repeat (first | apply Kd.R_alloc | apply Kd.R_drewN | apply Kd.R_drew)); exact HO_616001.out))) (Kd.R_lt (by (with_reducible repeat (first | apply Kd.R_alloc | apply Kd.R_drewN | apply Kd.R_drew)); exact HO630.out))) (below_size (by repeat (first | (with_reducible first | exact HB.out | apply below_alloc | apply pw_below_drewN | apply below_drew1 | refine below_set ?_ GE615.out | refine below_set ?_ GE616.out) | exact HB.out)))); have n5_ := Aside0.mk (Kd.N_lower (Kd.N_mono (ok' := fun k_ => some k_ ≠ (v633 : Value).ownBlock ∧ some k_ ≠ (.slice Ao30 t600.length co30 : Value).ownBlock ∧ some k_ ≠ (.slice Ao36 t607.length co36 : Value).ownBlock ∧ some k_ ≠ (.slice Ao37 t610.length co37 : Value).ownBlock ∧ some k_ ≠ (.slice Ao70 y628.length co70 : Value).ownBlock ∧ k_ ≠ gb615 ∧ k_ ≠ gb616) (Kd.S_N (Kd.S_bound (Kd.S_apart' ho1 (Kd.R_typed ho0) (by decide)))) (fun k_ hk_ => ⟨hk_.1.2, (Kd.fresh' (Kd.R_lt (by (with_reducible repeat (first | apply Kd.R_alloc | apply Kd.R_drewN | apply Kd.R_drew)); exact HO_3.out)) k_ hk_.2.1), (Kd.fresh' (Kd.R_lt (by (with_reducible repeat (first | apply Kd.R_alloc | apply Kd.R_drewN | apply Kd.R_drew)); exact HO_616001.out)) k_ hk_.2.1), (Kd.fresh' (Kd.N_lt (by (with_reducible repeat (first | apply Kd.N_alloc | apply Kd.N_drewN | apply Kd.N_drew)); exact HO_616002.out)) k_ hk_.2.1), (Kd.fresh' (Kd.R_lt (by (with_reducible repeat (first | apply Kd.R_alloc | apply Kd.R_drewN | apply Kd.R_drew)); exact HO630.out)) k_ hk_.2.1), (Kd.freshB (g := gb615) (o := .cells #[.int .i64 t606, .slice Ao36 t607.length co36, .slice Ao37 t610.length co37] 26 (0, 0)) (by (with_reducible repeat (first | refine blk_drewN ?_ _ | refine blk_drew ?_ | refine blk_alloc ?_ _)); exact BK615.out) k_ hk_.2.1), (Kd.freshB (g := gb616) (o := .cells #[.int .i64 t613, .int .i64 t614] 29 (0, 0)) (by (with_reducible repeat (first | refine blk_drewN ?_ _ | refine blk_drew ?_ | refine blk_alloc ?_ _)); exact BK616.out) k_ hk_.2.1)⟩)) (below_size (by repeat (first | (with_reducible first | exact HB.out | apply below_alloc | apply pw_below_drewN | apply below_drew1 | refine below_set ?_ GE615.out | refine below_set ?_ GE616.out) | exact HB.out)))); have n6_ := Aside0.mk (blk_below (g := gb615) (o := .cells #[.int .i64 t606, .slice Ao36 t607.length co36, .slice Ao37 t610.length co37] 26 (0, 0)) (by (with_reducible repeat (first | refine blk_drewN ?_ _ | refine blk_drew ?_ | refine blk_alloc ?_ _)); exact BK615.out) hb); have n7_ := Aside0.mk (blk_below (g := gb616) (o := .cells #[.int .i64 t613, .int .i64 t614] 29 (0, 0)) (by (with_reducible repeat (first | refine blk_drewN ?_ _ | refine blk_drew ?_ | refine blk_alloc ?_ _)); exact BK616.out) hb); have n8_ := Aside0.mk (below_step (by repeat (first | (with_reducible first | exact HB.out | apply below_alloc | apply pw_below_drewN | apply below_drew1 | refine below_set ?_ GE615.out | refine below_set ?_ GE616.out) | exact HB.out)) hb); clear HO_3; clear HO_616001; clear HO_616002; clear HO630; clear BK615; clear BK616; clear HB; have HO_3 := n0_; have HO_616001 := n1_; have HO_616002 := n2_; have HO630 := n3_; have HO634 := n4_; have HO637 := n5_; have BK615 := n6_; have BK616 := n7_; have HB := n8_; clear n0_ n1_ n2_ n3_ n4_ n5_ n6_ n7_ n8_; (try clear hb); (try clear hb2); (try clear hk); (try clear hi); (try clear ho0); (try clear ho1)) | ((with_reducible refine gate_dst (N := 11) rfl ?_); (try (refine gate_guard (by rfl) ?_; dsimp only)); refine box_event ?hg (N := 11) ?hd (cs := #[.int .i64 0, .slice none 0 0, .slice none 0 0]) (t := 26) ?hr ?_; (case hd => rfl); (case hg => rfl); (case hr => first | (go_simp; done) | (go_simp; rfl)); intro gb640 hg w72 hbox hb; have n0_ := Aside0.mk (Kd.R_below (by (with_reducible repeat (first | apply Kd.R_alloc | apply Kd.R_drewN | apply Kd.R_drew)); exact HO_3.out) hb); have n1_ := Aside0.mk (Kd.R_below (by (with_reducible repeat (first | apply Kd.R_alloc | apply Kd.R_drewN | apply Kd.R_drew)); exact HO_616001.out) hb); have n2_ := Aside0.mk (Kd.N_below (Kd.N_elderB (by (with_reducible repeat (first | apply Kd.N_alloc | apply Kd.N_drewN | apply Kd.N_drew)); exact HO_616002.out) gb640 (Nat.le_of_eq hg.symm)) hb); have n3_ := Aside0.mk (Kd.R_below (by (with_reducible repeat (first | apply Kd.R_alloc | apply Kd.R_drewN | apply Kd.R_drew)); exact HO630.out) hb); have n4_ := Aside0.mk (Kd.R_below (by (with_reducible repeat (first | apply Kd.R_alloc | apply Kd.R_drewN | apply Kd.R_drew)); exact HO634.out) hb); have n5_ := Aside0.mk (Kd.N_below (Kd.N_elderB (by (with_reducible repeat (first | apply Kd.N_alloc | apply Kd.N_drewN | apply Kd.N_drew)); exact HO637.out) gb640 (Nat.le_of_eq hg.symm)) hb); have n6_ := Aside0.mk (blk_below (g := gb615) (o := .cells #[.int .i64 t606, .slice Ao36 t607.length co36, .slice Ao37 t610.length co37] 26 (0, 0)) (by (with_reducible repeat (first | refine blk_drewN ?_ _ | refine blk_drew ?_ | refine blk_alloc ?_ _)); exact BK615.out) hb); have n7_ := Aside0.mk (blk_below (g := gb616) (o := .cells #[.int .i64 t613, .int .i64 t614] 29 (0, 0)) (by (with_reducible repeat (first | refine blk_drewN ?_ _ | refine blk_drew ?_ | refine blk_alloc ?_ _)); exact BK616.out) hb); have n8_ := Aside0.mk (below_step (by repeat (first | (with_reducible first | exact HB.out | apply below_alloc | apply pw_below_drewN | apply below_drew1 | refine below_set ?_ GE615.out | refine below_set ?_ GE616.out) | exact HB.out)) hb); have n9_ := Aside0.mk (hbox); have n10_ := Aside0.mk ((by rw [hg]; exact (below_size (by repeat (first | (with_reducible first | exact HB.out | apply below_alloc | apply pw_below_drewN | apply below_drew1 | refine below_set ?_ GE615.out | refine below_set ?_ GE616.out) | exact HB.out))) : w.heap.size ≤ gb640)); have n11_ := Aside0.mk ((by rw [hg]; exact (below_size (by repeat (first | (with_reducible first | exact HB.out | apply below_alloc | apply pw_below_drewN | apply below_drew1 | refine below_set ?_ GE615.out | refine below_set ?_ GE616.out) | exact HB.out))) : w.heap.size ≤ gb640)); have n12_ := Aside0.mk ((by rw [hg]; exact Nat.ne_of_lt (blk_lt (g := gb615) (o := .cells #[.int .i64 t606, .slice Ao36 t607.length co36, .slice Ao37 t610.length co37] 26 (0, 0)) (by (with_reducible repeat (first | refine blk_drewN ?_ _ | refine blk_drew ?_ | refine blk_alloc ?_ _)); exact BK615.out)) : gb615 ≠ gb640)); have n13_ := Aside0.mk ((by rw [hg]; exact Nat.ne_of_gt (blk_lt (g := gb615) (o := .cells #[.int .i64 t606, .slice Ao36 t607.length co36, .slice Ao37 t610.length co37] 26 (0, 0)) (by (with_reducible repeat (first | refine blk_drewN ?_ _ | refine blk_drew ?_ | refine blk_alloc ?_ _)); exact BK615.out)) : gb640 ≠ gb615)); have n14_ := Aside0.mk ((by rw [hg]; exact Nat.ne_of_lt (blk_lt (g := gb616) (o := .cells #[.int .i64 t613, .int .i64 t614] 29 (0, 0)) (by (with_reducible repeat (first | refine blk_drewN ?_ _ | refine blk_drew ?_ | refine blk_alloc ?_ _)); exact BK616.out)) : gb616 ≠ gb640)); have n15_ := Aside0.mk ((by rw [hg]; exact Nat.ne_of_gt (blk_lt (g := gb616) (o := .cells #[.int .i64 t613, .int .i64 t614] 29 (0, 0)) (by (with_reducible repeat (first | refine blk_drewN ?_ _ | refine blk_drew ?_ | refine blk_alloc ?_ _)); exact BK616.out)) : gb640 ≠ gb616)); clear HO_3; clear HO_616001; clear HO_616002; clear HO630; clear HO634; clear HO637; clear BK615; clear BK616; clear HB; have HO_3 := n0_; have HO_616001 := n1_; have HO_616002 := n2_; have HO630 := n3_; have HO634 := n4_; have HO637 := n5_; have BK615 := n6_; have BK616 := n7_; have HB := n8_; have BK640 := n9_; have GW640 := n10_; have GE640 := n11_; have NB615_640 := n12_; have NB640_615 := n13_; have NB616_640 := n14_; have NB640_616 := n15_; clear n0_ n1_ n2_ n3_ n4_ n5_ n6_ n7_ n8_ n9_ n10_ n11_ n12_ n13_ n14_ n15_; clear hb hbox hg) | ((with_reducible refine gate_dst (N := 12) rfl ?_); (try (refine gate_guard (by rfl) ?_; dsimp only)); refine box_event ?hg (N := 12) ?hd (cs := #[.int .i64 0, .int .i64 0]) (t := 29) ?hr ?_; (case hd => rfl); (case hg => rfl); (case hr => first | (go_simp; done) | (go_simp; rfl)); intro gb641 hg w73 hbox hb; have n0_ := Aside0.mk (Kd.R_below (by (with_reducible repeat (first | apply Kd.R_alloc | apply Kd.R_drewN | apply Kd.R_drew)); exact HO_3.out) hb); have n1_ := Aside0.mk (Kd.R_below (by (with_reducible repeat (first | apply Kd.R_alloc | apply Kd.R_drewN | apply Kd.R_drew)); exact HO_616001.out) hb); have n2_ := Aside0.mk (Kd.N_below (Kd.N_elderB (by (with_reducible repeat (first | apply Kd.N_alloc | apply Kd.N_drewN | apply Kd.N_drew)); exact HO_616002.out) gb641 (Nat.le_of_eq hg.symm)) hb); have n3_ := Aside0.mk (Kd.R_below (by (with_reducible repeat (first | apply Kd.R_alloc | apply Kd.R_drewN | apply Kd.R_drew)); exact HO630.out) hb); have n4_ := Aside0.mk (Kd.R_below (by (with_reducible repeat (first | apply Kd.R_alloc | apply Kd.R_drewN | apply Kd.R_drew)); exact HO634.out) hb); have n5_ := Aside0.mk (Kd.N_below (Kd.N_elderB (by (with_reducible repeat (first | apply Kd.N_alloc | apply Kd.N_drewN | apply Kd.N_drew)); exact HO637.out) gb641 (Nat.le_of_eq hg.symm)) hb); have n6_ := Aside0.mk (blk_below (g := gb615) (o := .cells #[.int .i64 t606, .slice Ao36 t607.length co36, .slice Ao37 t610.length co37] 26 (0, 0)) (by (with_reducible repeat (first | refine blk_drewN ?_ _ | refine blk_drew ?_ | refine blk_alloc ?_ _)); exact BK615.out) hb); have n7_ := Aside0.mk (blk_below (g := gb616) (o := .cells #[.int .i64 t613, .int .i64 t614] 29 (0, 0)) (by (with_reducible repeat (first | refine blk_drewN ?_ _ | refine blk_drew ?_ | refine blk_alloc ?_ _)); exact BK616.out) hb); have n8_ := Aside0.mk (blk_below (g := gb640) (o := .cells #[.int .i64 0, .slice none 0 0, .slice none 0 0] 26 (0, 0)) (by (with_reducible repeat (first | refine blk_drewN ?_ _ | refine blk_drew ?_ | refine blk_alloc ?_ _)); exact BK640.out) hb); have n9_ := Aside0.mk (below_step (by repeat (first | (with_reducible first | exact HB.out | apply below_alloc | apply pw_below_drewN | apply below_drew1 | refine below_set ?_ GE615.out | refine below_set ?_ GE616.out | refine below_set ?_ GE640.out) | exact HB.out)) hb); have n10_ := Aside0.mk (hbox); have n11_ := Aside0.mk ((by rw [hg]; exact (below_size (by repeat (first | (with_reducible first | exact HB.out | apply below_alloc | apply pw_below_drewN | apply below_drew1 | refine below_set ?_ GE615.out | refine below_set ?_ GE616.out | refine below_set ?_ GE640.out) | exact HB.out))) : w.heap.size ≤ gb641)); have n12_ := Aside0.mk ((by rw [hg]; exact (below_size (by repeat (first | (with_reducible first | exact HB.out | apply below_alloc | apply pw_below_drewN | apply below_drew1 | refine below_set ?_ GE615.out | refine below_set ?_ GE616.out | refine below_set ?_ GE640.out) | exact HB.out))) : w.heap.size ≤ gb641)); have n13_ := Aside0.mk ((by rw [hg]; exact Nat.ne_of_lt (blk_lt (g := gb615) (o := .cells #[.int .i64 t606, .slice Ao36 t607.length co36, .slice Ao37 t610.length co37] 26 (0, 0)) (by (with_reducible repeat (first | refine blk_drewN ?_ _ | refine blk_drew ?_ | refine blk_alloc ?_ _)); exact BK615.out)) : gb615 ≠ gb641)); have n14_ := Aside0.mk ((by rw [hg]; exact Nat.ne_of_gt (blk_lt (g := gb615) (o := .cells #[.int .i64 t606, .slice Ao36 t607.length co36, .slice Ao37 t610.length co37] 26 (0, 0)) (by (with_reducible repeat (first | refine blk_drewN ?_ _ | refine blk_drew ?_ | refine blk_alloc ?_ _)); exact BK615.out)) : gb641 ≠ gb615)); have n15_ := Aside0.mk ((by rw [hg]; exact Nat.ne_of_lt (blk_lt (g := gb616) (o := .cells #[.int .i64 t613, .int .i64 t614] 29 (0, 0)) (by (with_reducible repeat (first | refine blk_drewN ?_ _ | refine blk_drew ?_ | refine blk_alloc ?_ _)); exact BK616.out)) : gb616 ≠ gb641)); have n16_ := Aside0.mk ((by rw [hg]; exact Nat.ne_of_gt (blk_lt (g := gb616) (o := .cells #[.int .i64 t613, .int .i64 t614] 29 (0, 0)) (by (with_reducible repeat (first | refine blk_drewN ?_ _ | refine blk_drew ?_ | refine blk_alloc ?_ _)); exact BK616.out)) : gb641 ≠ gb616)); have n17_ := Aside0.mk ((by rw [hg]; exact Nat.ne_of_lt (blk_lt (g := gb640) (o := .cells #[.int .i64 0, .slice none 0 0, .slice none 0 0] 26 (0, 0)) (by (with_reducible repeat (first | refine blk_drewN ?_ _ | refine blk_drew ?_ | refine blk_alloc ?_ _)); exact BK640.out)) : gb640 ≠ gb641)); have n18_ := Aside0.mk ((by rw [hg]; exact Nat.ne_of_gt (blk_lt (g := gb640) (o := .cells #[.int .i64 0, .slice none 0 0, .slice none 0 0] 26 (0, 0)) (by (with_reducible repeat (first | refine blk_drewN ?_ _ | refine blk_drew ?_ | refine blk_alloc ?_ _)); exact BK640.out)) : gb641 ≠ gb640)); clear HO_3; clear HO_616001; clear HO_616002; clear HO630; clear HO634; clear HO637; clear BK615; clear BK616; clear BK640; clear HB; have HO_3 := n0_; have HO_616001 := n1_; have HO_616002 := n2_; have HO630 := n3_; have HO634 := n4_; have HO637 := n5_; have BK615 := n6_; have BK616 := n7_; have BK640 := n8_; have HB := n9_; have BK641 := n10_; have GW641 := n11_; have GE641 := n12_; have NB615_641 := n13_; have NB641_615 := n14_; have NB616_641 := n15_; have NB641_616 := n16_; have NB640_641 := n17_; have NB641_640 := n18_; clear n0_ n1_ n2_ n3_ n4_ n5_ n6_ n7_ n8_ n9_ n10_ n11_ n12_ n13_ n14_ n15_ n16_ n17_ n18_; clear hb hbox hg; have hnb74 := NB640_615.out; have hnc74 := NB615_640.out; have hnb75 := NB640_616.out; have hnc75 := NB616_640.out; have hnb76 := NB640_641.out; have hnc76 := NB641_640.out; have hcz77_0 : w73.cell? ⟨gb640, 0, none⟩ = some (.int .i64 0) := (blk_cell BK640.out 0).trans rfl; have hcz77_1 : w73.cell? ⟨gb640, 1, none⟩ = some (.slice none 0 0) := (blk_cell BK640.out 1).trans rfl; have hcz77_2 : w73.cell? ⟨gb640, 2, none⟩ = some (.slice none 0 0) := (blk_cell BK640.out 2).trans rfl; have hfz77_0 := blk_frozen BK640.out 0; have hfz77_1 := blk_frozen BK640.out 1; have hfz77_2 := blk_frozen BK640.out 2; obtain ⟨Ao78, co78, eo78⟩ := Kd.R_slice HO634.out; subst eo78; obtain ⟨Ao79, co79, eo79⟩ := Kd.N_slice HO637.out; subst eo79; have hnb80 := NB641_615.out; have hnc80 := NB615_641.out; have hnb81 := NB641_616.out; have hnc81 := NB616_641.out; have hcz82_0 : w73.cell? ⟨gb641, 0, none⟩ = some (.int .i64 0) := (blk_cell BK641.out 0).trans rfl; have hcz82_1 : w73.cell? ⟨gb641, 1, none⟩ = some (.int .i64 0) := (blk_cell BK641.out 1).trans rfl; have hfz82_0 := blk_frozen BK641.out 0; have hfz82_1 := blk_frozen BK641.out 1))
                                        go_ret
                                        exact ⟨by first | rfl | (simp [errW_none, errW_some] <;> rfl) | (simp only [← hji56]; first | rfl | (simp [errW_none, errW_some] <;> rfl)) | (simp [*, errW_none, errW_some] <;> rfl), by repeat (first | (with_reducible first | exact HB.out | apply below_alloc | apply pw_below_drewN | apply below_drew1 | refine below_set ?_ GE615.out | refine below_set ?_ GE616.out | refine below_set ?_ GE640.out | refine below_set ?_ GE641.out) | exact HB.out)⟩
                                      · rw [if_neg c62] at H
                                        have c62b0 : (t638 == 120) = false := beq_eq_false_iff_ne.mpr c62
                                        have c62b1 : (t638 != 120) = true := bne_iff_ne.mpr c62
                                        exact absurd ((Option.some.inj H).trans HRT.out) (by decide)
                                    · rw [if_neg c60] at H
                                      exact absurd H (by simp)
                                  · rw [if_neg c58] at H
                                    exact absurd H (by simp)
                                · rw [if_neg c57] at H
                                  exact absurd H (by simp)
                              · rw [if_neg c55] at H
                                exact absurd H (by simp)
    · rw [if_neg c5] at H
      have c5b0 : (t603 == 0) = false := beq_eq_false_iff_ne.mpr c5
      have c5b1 : (t603 != 0) = true := bne_iff_ne.mpr c5
      exact absurd ((Option.some.inj H).trans HRT.out) (by decide)
  · replace c3 := Bool.eq_false_iff.mpr c3
    subst c3
    have H1 : (some false) = some r := by rw [if_neg (show ¬ (false = true) by decide)] at H; exact H
    clear H
    have H := H1
    clear H1
    exact absurd ((Option.some.inj H).trans HRT.out) (by decide)

def casementlaw12_ModuleNumbers.Pure : Prop := ∀ (a0 : Int), ((Lit.int .i64 a0).wf = true) → ∃ k, casementlaw12_ModuleNumbers.f k a0 = some true
theorem casementlaw12_ModuleNumbers.walk (P : casementlaw12_ModuleNumbers.Pure) (a0 : Int) (w : World) (wl0 : ((Lit.int .i64 a0).wf = true))  :
    Calls Try.prog 8 #[.int .i64 a0] w fun e w' => e = .returned (.bool true) ∧ Below w.heap.size w w' := by
  obtain ⟨k, h⟩ := P a0 wl0
  refine (casementlaw12_ModuleNumbers.calls k a0 true w  h rfl).mono ?_
  rintro e w' ⟨rfl, hd⟩
  exact ⟨rfl, hd⟩

end Go.Proofs.Ytbdkphjpdoajpaa.Q
