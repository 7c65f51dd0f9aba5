/- Without its capability a call is refused, whatever stands in its arguments and the memory; with more capabilities the answer is the same, but for NotAllowed: CapsKeeps answers true for every input and its input reads as it did. Conditions: none beyond the row's own. -/
import Derived.Test.YtopnjcclbepdoaaRows
import Derived.Test.YtopnjcclbepdoaaKF
namespace Go.Proofs.Ytopnjcclbepdoaa.capsKeeps
open Go.ChangeShapes Go.WideShapes Go.ChangeAt Go.RowKit Go.Proofs.Ytopnjcclbepdoaa.X Go.Proofs.Ytopnjcclbepdoaa.Caps
open Go.ChangeMaps (open_string shut_string)
set_option linter.unusedVariables false
theorem own : ownKnob Try.prog.godebug = none := by kernel_rfl
theorem laidOut : laidOutB Try.prog = true := by kernel_rfl
set_option maxRecDepth 100000 in
theorem lifted (os : Os) (started : os.Started) (H : Type) (enc : TypeId × Value → H) :
    ReturnsInHanded {} Try.checked os 6 .any (Rows.capsKeepsSpec.pre6 enc Try.prog Try.f6 Rows.capsKeepsRow.domain false) (Rows.capsKeepsSpec.post enc Try.prog Try.f6 false true false false) := by
  refine returnsInHanded_of_change_sized (C := Try.checked) own started (by kernel_rfl) Try.func6
    (ChangeSpec.witness6 (enc := enc) (C := Try.checked) false ⟨#[], #[.int .i64 0, .int .i64 0, .int .i64 0, .slice none 0 0, .slice none 0 0, .slice none 0 0], []⟩ 8 (by kernel_rfl) (by kernel_rfl) (by kernel_rfl) (by kernel_rfl)) ?_
  intro W base args ds gs before hval0 hW hcnd hsz0 _
  have hsz : (DataW.weightsEach Try.prog (Try.f6.params.toList ++ Rows.capsKeepsSpec.plain.varTypes Try.prog) (ds ++ gs)).all (· ≤ reachBytes) = true := hsz0
  have hval : ∀ (j : Nat) t v, Try.f6.params[j]? = some t → args[j]? = some v → Value.okWide Try.prog W .any base t v := hval0
  have hW' := hW
  obtain ⟨p, q, hA0, hV, rfl, hfz, hnd⟩ := hW
  have hA : DataW.TrodAll enc Try.prog W 0 (fun _ => true) true Try.f6.params.toList args.toList ds p := hA0
  rw [show Try.f6.params = #[3, 3, 2, 46, 46, 47] from by kernel_rfl] at hA hval hsz
  obtain ⟨v0, vs0, d0, ds0, p0, q0, hargs, rfl, rfl, h0, r0⟩ := trodAll_cons hA
  obtain ⟨v1, vs1, d1, ds1, p1, q1, rfl, rfl, rfl, h1, r1⟩ := trodAll_cons r0
  obtain ⟨v2, vs2, d2, ds2, p2, q2, rfl, rfl, rfl, h2, r2⟩ := trodAll_cons r1
  obtain ⟨v3, vs3, d3, ds3, p3, q3, rfl, rfl, rfl, h3, r3⟩ := trodAll_cons r2
  obtain ⟨v4, vs4, d4, ds4, p4, q4, rfl, rfl, rfl, h4, r4⟩ := trodAll_cons r3
  obtain ⟨v5, vs5, d5, ds5, p5, q5, rfl, rfl, rfl, h5, r5⟩ := trodAll_cons r4
  obtain ⟨rfl, rfl, rfl⟩ := trodAll_nil r5
  obtain rfl : args = #[v0, v1, v2, v3, v4, v5] := by cases args; simp_all
  obtain ⟨rfl, rfl⟩ := trodVars_none hV
  obtain ⟨a0, rfl, rfl, rfl, w0⟩ := open_int Try.underlying3 (hval 0 3 v0 rfl rfl) h0
  obtain ⟨a1, rfl, rfl, rfl, w1⟩ := open_int Try.underlying3 (hval 1 3 v1 rfl rfl) h1
  obtain ⟨a2, rfl, rfl, rfl, w2⟩ := open_int Try.underlying2 (hval 2 2 v2 rfl rfl) h2
  have k3 := h3
  have lt3 : ∀ x ∈ p3, x.block < W.heap.size := by obtain ⟨m, hm⟩ := k3; exact DataW.trod_lt m _ _ _ hm
  obtain ⟨x3, K3, O3, N3, _⟩ := Opx.arg (Opx.slice (s := .int .i64) Try.underlying46 (by kernel_rfl) (Opx.int Try.underlying2)) hsz (j := 3) (t := 46) rfl rfl h3
  obtain ⟨a3, len3, cap3, rfl⟩ := okWide_slice Try.underlying46 (hval 3 46 v3 rfl rfl)
  have hb3 : x3.length * 8 ≤ 140737488351232 := by
    rw [show Try.prog.bytesOf 2 = 8 from by kernel_rfl, show reachBytes = 140737488351232 from rfl] at N3; exact N3
  have k4 := h4
  have lt4 : ∀ x ∈ p4, x.block < W.heap.size := by obtain ⟨m, hm⟩ := k4; exact DataW.trod_lt m _ _ _ hm
  obtain ⟨x4, K4, O4, N4, _⟩ := Opx.arg (Opx.slice (s := .int .i64) Try.underlying46 (by kernel_rfl) (Opx.int Try.underlying2)) hsz (j := 4) (t := 46) rfl rfl h4
  obtain ⟨a4, len4, cap4, rfl⟩ := okWide_slice Try.underlying46 (hval 4 46 v4 rfl rfl)
  have hb4 : x4.length * 8 ≤ 140737488351232 := by
    rw [show Try.prog.bytesOf 2 = 8 from by kernel_rfl, show reachBytes = 140737488351232 from rfl] at N4; exact N4
  have k5 := h5
  have lt5 : ∀ x ∈ p5, x.block < W.heap.size := by obtain ⟨m, hm⟩ := k5; exact DataW.trod_lt m _ _ _ hm
  obtain ⟨x5, K5, O5, N5, _⟩ := Opx.arg (Opx.slice (s := .int .u8) Try.underlying47 (by kernel_rfl) (Opx.int Try.underlying5)) hsz (j := 5) (t := 47) rfl rfl h5
  obtain ⟨a5, len5, cap5, rfl⟩ := okWide_slice Try.underlying47 (hval 5 47 v5 rfl rfl)
  have hb5 : x5.length * 1 ≤ 140737488351232 := by
    rw [show Try.prog.bytesOf 5 = 1 from by kernel_rfl, show reachBytes = 140737488351232 from rfl] at N5; exact N5
  clear hA0 hval0 hsz0 hsz
  refine (law_ok (rs := [⟨0, false, [.deep (.int .i64)]⟩, ⟨1, false, [.deep (.int .i64)]⟩, ⟨2, false, [.deep (.int .i64)]⟩, ⟨3, false, [.deep (.sl (.int .i64))]⟩, ⟨4, false, [.deep (.sl (.int .i64))]⟩, ⟨5, false, [.deep (.sl (.int .u8))]⟩]) (nf := 6) (g := ((a0, ()), (a1, ()), (a2, ()), (x3, ()), (x4, ()), (x5, ()), ())) tiok mixed (law6 _) Try.func6 (Caps.capsKeeps a0 a1 a2 x3 x4 x5 hb3 hb4 hb5) (w := W) (args := #[.int .i64 a0, .int .i64 a1, .int .i64 a2, .slice a3 len3 cap3, .slice a4 len4 cap4, .slice a5 len5 cap5]) (fun t => ?_) rfl).mono fun e W' ⟨he, bel⟩ => ?_
  · match t with
    | 0 => exact ⟨rfl, rfl⟩
    | 1 => exact ⟨rfl, rfl⟩
    | 2 => exact ⟨rfl, rfl⟩
    | 3 => exact vsl_arg (s := .int .i64) (xs := x3) rfl K3
    | 4 => exact vsl_arg (s := .int .i64) (xs := x4) rfl K4
    | 5 => exact vsl_arg (s := .int .u8) (xs := x5) rfl K5
    | t + 6 => trivial
  subst he
  exact ⟨_, rfl, _, _, _, [], _, [], hW', trodAll_mk1 (shut_bool Try.underlying4 _), (trodAll_cons_mk (shut_int Try.underlying3 w0) (trodAll_cons_mk (shut_int Try.underlying3 w1) (trodAll_cons_mk (shut_int Try.underlying2 w2) (trodAll_cons_mk (Below.trod laidOut (by kernel_rfl) (of_decide_eq_true (by kernel_rfl)) k3 bel lt3) (trodAll_cons_mk (Below.trod laidOut (by kernel_rfl) (of_decide_eq_true (by kernel_rfl)) k4 bel lt4) (trodAll_cons_mk (Below.trod laidOut (by kernel_rfl) (of_decide_eq_true (by kernel_rfl)) k5 bel lt5) trodAll_mk0)))))), rfl, bel.frame _, fun h => by cases h⟩
theorem over : Rows.capsKeepsRow.holds Try.pinned (OpenSpec.ofChange Rows.capsKeepsSpec) :=
  OpenClaim.holds_of_wide 6 Try.f6 rfl rfl rfl rfl rfl rfl rfl ⟨rfl, rfl, rfl, rfl, rfl⟩ rfl rfl rfl rfl rfl (by kernel_rfl) Try.func6 (by kernel_rfl)
    (of_decide_eq_true (by kernel_rfl)) (by unfold Func.isWrapper; first | (rw [if_pos (by decide +kernel)]; kernel_rfl) | (rw [if_neg (by decide +kernel)]; exact ⟨rfl, rfl⟩))
    (fun os started H enc _ => lifted os started H enc)
theorem proved : Rows.CapsKeepsSaid := over
#print axioms proved
end Go.Proofs.Ytopnjcclbepdoaa.capsKeeps
namespace Go.Proofs.Ytopnjcclbepdoaa
/-- The row, under a short name, for the claim. -/
theorem capsKeeps_holds : Rows.CapsKeepsSaid := capsKeeps.proved
end Go.Proofs.Ytopnjcclbepdoaa
