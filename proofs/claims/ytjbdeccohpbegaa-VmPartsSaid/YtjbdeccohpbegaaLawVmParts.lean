/- However fuel is parted, a machine asks for the same, comes to the same end, and has the same memory then. Conditions: none beyond the row's own. -/
import Derived.Test.YtjbdeccohpbegaaRows
import Derived.Test.YtjbdeccohpbegaaWA
namespace Go.Proofs.Ytjbdeccohpbegaa.vmParts
open Go.ChangeShapes Go.WideShapes Go.ChangeAt Go.RowKit Go.Proofs.Ytjbdeccohpbegaa.X Go.Proofs.Ytjbdeccohpbegaa.Vm
open Go.ChangeMaps (open_string shut_string)
set_option linter.unusedVariables false
theorem own : ownKnob Try.prog.godebug = none := by kernel_rfl
theorem laidOut : laidOutB Try.prog = true := by kernel_rfl
set_option maxRecDepth 100000 in
theorem lifted (os : Os) (started : os.Started) (H : Type) (enc : TypeId × Value → H) :
    ReturnsInHanded {} Try.checked os 3 .any (Rows.vmPartsSpec.pre6 enc Try.prog Try.f3 Rows.vmPartsRow.domain false) (Rows.vmPartsSpec.post enc Try.prog Try.f3 false true false false) := by
  refine returnsInHanded_of_change_sized (C := Try.checked) own started (by kernel_rfl) Try.func3
    (ChangeSpec.witness6 (enc := enc) (C := Try.checked) false ⟨#[], #[.agg #[.int .i64 0, .slice none 0 0, .slice none 0 0], .slice none 0 0, .slice none 0 0], []⟩ 8 (by kernel_rfl) (by kernel_rfl) (by kernel_rfl) (by kernel_rfl)) ?_
  intro W base args ds gs before hval0 hW hcnd hsz0 _
  have hsz : (DataW.weightsEach Try.prog (Try.f3.params.toList ++ Rows.vmPartsSpec.plain.varTypes Try.prog) (ds ++ gs)).all (· ≤ reachBytes) = true := hsz0
  have hval : ∀ (j : Nat) t v, Try.f3.params[j]? = some t → args[j]? = some v → Value.okWide Try.prog W .any base t v := hval0
  have hW' := hW
  obtain ⟨p, q, hA0, hV, rfl, hfz, hnd⟩ := hW
  have hA : DataW.TrodAll enc Try.prog W 0 (fun _ => true) true Try.f3.params.toList args.toList ds p := hA0
  rw [show Try.f3.params = #[25, 26, 27] from by kernel_rfl] at hA hval hsz
  obtain ⟨v0, vs0, d0, ds0, p0, q0, hargs, rfl, rfl, h0, r0⟩ := trodAll_cons hA
  obtain ⟨v1, vs1, d1, ds1, p1, q1, rfl, rfl, rfl, h1, r1⟩ := trodAll_cons r0
  obtain ⟨v2, vs2, d2, ds2, p2, q2, rfl, rfl, rfl, h2, r2⟩ := trodAll_cons r1
  obtain ⟨rfl, rfl, rfl⟩ := trodAll_nil r2
  obtain rfl : args = #[v0, v1, v2] := by cases args; simp_all
  obtain ⟨rfl, rfl⟩ := trodVars_none hV
  have k0 := h0
  have lt0 : ∀ x ∈ p0, x.block < W.heap.size := by obtain ⟨m, hm⟩ := k0; exact DataW.trod_lt m _ _ _ hm
  obtain ⟨x0, K0, O0⟩ := Opx.arg (Opx.struct Try.underlying25 (FOx.cons rfl (by kernel_rfl) (Opx.int Try.underlying3) (FOx.cons rfl (by kernel_rfl) (Opx.slice (s := .int .u8) Try.underlying22 (by kernel_rfl) (Opx.int Try.underlying5)) (FOx.last rfl (by kernel_rfl) (by kernel_rfl) (Opx.slice (s := (.pair (.int .i64) (.pair (.int .i64) (.pair (.int .i64) (.sl (.pair (.int .i64) (.int .i64))))))) Try.underlying23 (by kernel_rfl) (Opx.struct Try.underlying63 (FOx.cons rfl (by kernel_rfl) (Opx.int Try.underlying3) (FOx.cons rfl (by kernel_rfl) (Opx.int Try.underlying3) (FOx.cons rfl (by kernel_rfl) (Opx.int Try.underlying3) (FOx.last rfl (by kernel_rfl) (by kernel_rfl) (Opx.slice (s := (.pair (.int .i64) (.int .i64))) Try.underlying61 (by kernel_rfl) (Opx.struct Try.underlying48 (FOx.cons rfl (by kernel_rfl) (Opx.int Try.underlying3) (FOx.last rfl (by kernel_rfl) (by kernel_rfl) (Opx.int Try.underlying2))))))))))))))) hsz (j := 0) (t := 25) rfl rfl h0
  have k1 := h1
  have lt1 : ∀ x ∈ p1, x.block < W.heap.size := by obtain ⟨m, hm⟩ := k1; exact DataW.trod_lt m _ _ _ hm
  obtain ⟨x1, K1, O1, N1, Q1⟩ := Opx.arg (Opx.slice (s := .int .i64) Try.underlying26 (by kernel_rfl) (Opx.int Try.underlying3)) hsz (j := 1) (t := 26) rfl rfl h1
  obtain ⟨a1, len1, cap1, rfl⟩ := okWide_slice Try.underlying26 (hval 1 26 v1 rfl rfl)
  have hb1 : x1.length * 8 ≤ 140737488351232 := by
    rw [show Try.prog.bytesOf 3 = 8 from by kernel_rfl, show reachBytes = 140737488351232 from rfl] at N1; exact N1
  have k2 := h2
  have lt2 : ∀ x ∈ p2, x.block < W.heap.size := by obtain ⟨m, hm⟩ := k2; exact DataW.trod_lt m _ _ _ hm
  obtain ⟨x2, K2, O2, N2, Q2⟩ := Opx.arg (Opx.slice (s := .int .i64) Try.underlying27 (by kernel_rfl) (Opx.int Try.underlying2)) hsz (j := 2) (t := 27) rfl rfl h2
  obtain ⟨a2, len2, cap2, rfl⟩ := okWide_slice Try.underlying27 (hval 2 27 v2 rfl rfl)
  have hb2 : x2.length * 8 ≤ 140737488351232 := by
    rw [show Try.prog.bytesOf 2 = 8 from by kernel_rfl, show reachBytes = 140737488351232 from rfl] at N2; exact N2
  clear hA0 hval0 hsz0 hsz
  have hva : ∀ t, VA (fun _ => False) [] (fun _ => none) W ((RL.enc ([⟨0, true, [.deep ((.pair (.int .i64) (.pair (.sl (.int .u8)) (.sl (.pair (.int .i64) (.pair (.int .i64) (.pair (.int .i64) (.sl (.pair (.int .i64) (.int .i64))))))))))]⟩, ⟨1, false, [.deep (.sl (.int .i64))]⟩, ⟨2, false, [.deep (.sl (.int .i64))]⟩] : List Root) ((x0, ()), (x1, ()), (x2, ()), ())).get t) ((#[v0, .slice a1 len1 cap1, .slice a2 len2 cap2] : Array Value).getD t undef) := fun t => by
    match t with
    | 0 => exact agg_arg (s := (.pair (.int .i64) (.pair (.sl (.int .u8)) (.sl (.pair (.int .i64) (.pair (.int .i64) (.pair (.int .i64) (.sl (.pair (.int .i64) (.int .i64)))))))))) (by decide) K0
    | 1 => exact vsl_arg (s := .int .i64) (xs := x1) rfl K1
    | 2 => exact vsl_arg (s := .int .i64) (xs := x2) rfl K2
    | t + 3 => trivial
  refine (show Calls Try.prog 3 #[v0, .slice a1 len1 cap1, .slice a2 len2 cap2] W (fun e w' => e = .returned (.bool true) ∧ Below W.heap.size W w') from ?_).mono fun e W' ⟨he, bel⟩ => ?_
  · rcases Vm.vmParts x0 x1 x2 O0 hb1 hb2 with h | h
    · exact law_ok (rs := [⟨0, true, [.deep ((.pair (.int .i64) (.pair (.sl (.int .u8)) (.sl (.pair (.int .i64) (.pair (.int .i64) (.pair (.int .i64) (.sl (.pair (.int .i64) (.int .i64))))))))))]⟩, ⟨1, false, [.deep (.sl (.int .i64))]⟩, ⟨2, false, [.deep (.sl (.int .i64))]⟩]) (nf := 3) (g := ((x0, ()), (x1, ()), (x2, ()), ())) tiok mixed (law3 _) Try.func3 h (w := W) (args := #[v0, .slice a1 len1 cap1, .slice a2 len2 cap2]) hva rfl (fun g x h => by cases h)
    · exact law_ok (rs := [⟨0, true, [.deep ((.pair (.int .i64) (.pair (.sl (.int .u8)) (.sl (.pair (.int .i64) (.pair (.int .i64) (.pair (.int .i64) (.sl (.pair (.int .i64) (.int .i64))))))))))]⟩, ⟨1, false, [.deep (.sl (.int .i64))]⟩, ⟨2, false, [.deep (.sl (.int .i64))]⟩]) (nf := 3) (g := ((x0, ()), (x1, ()), (x2, ()), ())) tiok mixed (law103 _) Try.func3 h (w := W) (args := #[v0, .slice a1 len1 cap1, .slice a2 len2 cap2]) hva rfl (fun g x h => by cases h)
  subst he
  exact ⟨_, rfl, _, _, _, [], _, [], hW', trodAll_mk1 (shut_bool Try.underlying4 _), (trodAll_cons_mk (Below.trod laidOut (by kernel_rfl) (of_decide_eq_true (by kernel_rfl)) k0 bel lt0) (trodAll_cons_mk (Below.trod laidOut (by kernel_rfl) (of_decide_eq_true (by kernel_rfl)) k1 bel lt1) (trodAll_cons_mk (Below.trod laidOut (by kernel_rfl) (of_decide_eq_true (by kernel_rfl)) k2 bel lt2) trodAll_mk0))), rfl, bel.frame _, fun h => by cases h⟩
theorem over : Rows.vmPartsRow.holds Try.pinned (OpenSpec.ofChange Rows.vmPartsSpec) :=
  OpenClaim.holds_of_wide 3 Try.f3 rfl rfl rfl rfl rfl rfl rfl ⟨rfl, rfl, rfl, rfl, rfl⟩ rfl rfl rfl rfl rfl (by kernel_rfl) Try.func3 (by kernel_rfl)
    (of_decide_eq_true (by kernel_rfl)) (by unfold Func.isWrapper; first | (rw [if_pos (by decide +kernel)]; kernel_rfl) | (rw [if_neg (by decide +kernel)]; exact ⟨rfl, rfl⟩))
    (fun os started H enc _ => lifted os started H enc)
theorem proved : Rows.VmPartsSaid := over
#print axioms proved
end Go.Proofs.Ytjbdeccohpbegaa.vmParts
namespace Go.Proofs.Ytjbdeccohpbegaa
/-- The row, under a short name, for the claim. -/
theorem vmParts_holds : Rows.VmPartsSaid := vmParts.proved
end Go.Proofs.Ytjbdeccohpbegaa
