/- A write and a log are about just the bytes that lie at their place, if they all lie there: CapsBytes answers true for every input and its input reads as it did. Conditions: none beyond the row's own. -/
import Derived.Test.YtopnjcclbepdoaaRows
import Derived.Test.YtopnjcclbepdoaaKC
namespace Go.Proofs.Ytopnjcclbepdoaa.capsBytes
open Go.ChangeShapes Go.WideShapes Go.ChangeAt Go.RowKit Go.Proofs.Ytopnjcclbepdoaa.X Go.Proofs.Ytopnjcclbepdoaa.Caps
open Go.ChangeMaps (open_string shut_string)
set_option linter.unusedVariables false
theorem own : ownKnob Try.prog.godebug = none := by kernel_rfl
theorem laidOut : laidOutB Try.prog = true := by kernel_rfl
set_option maxRecDepth 100000 in
theorem lifted (os : Os) (started : os.Started) (H : Type) (enc : TypeId × Value → H) :
    ReturnsInHanded {} Try.checked os 7 .any (Rows.capsBytesSpec.pre6 enc Try.prog Try.f7 Rows.capsBytesRow.domain false) (Rows.capsBytesSpec.post enc Try.prog Try.f7 false true false false) := by
  refine returnsInHanded_of_change_sized (C := Try.checked) own started (by kernel_rfl) Try.func7
    (ChangeSpec.witness6 (enc := enc) (C := Try.checked) false ⟨#[], #[.slice none 0 0, .int .i64 0, .int .i64 0], []⟩ 8 (by kernel_rfl) (by kernel_rfl) (by kernel_rfl) (by kernel_rfl)) ?_
  intro W base args ds gs before hval0 hW hcnd hsz0 _
  have hsz : (DataW.weightsEach Try.prog (Try.f7.params.toList ++ Rows.capsBytesSpec.plain.varTypes Try.prog) (ds ++ gs)).all (· ≤ reachBytes) = true := hsz0
  have hval : ∀ (j : Nat) t v, Try.f7.params[j]? = some t → args[j]? = some v → Value.okWide Try.prog W .any base t v := hval0
  have hW' := hW
  obtain ⟨p, q, hA0, hV, rfl, hfz, hnd⟩ := hW
  have hA : DataW.TrodAll enc Try.prog W 0 (fun _ => true) true Try.f7.params.toList args.toList ds p := hA0
  rw [show Try.f7.params = #[47, 2, 2] from by kernel_rfl] at hA hval hsz
  obtain ⟨v0, vs0, d0, ds0, p0, q0, hargs, rfl, rfl, h0, r0⟩ := trodAll_cons hA
  obtain ⟨v1, vs1, d1, ds1, p1, q1, rfl, rfl, rfl, h1, r1⟩ := trodAll_cons r0
  obtain ⟨v2, vs2, d2, ds2, p2, q2, rfl, rfl, rfl, h2, r2⟩ := trodAll_cons r1
  obtain ⟨rfl, rfl, rfl⟩ := trodAll_nil r2
  obtain rfl : args = #[v0, v1, v2] := by cases args; simp_all
  obtain ⟨rfl, rfl⟩ := trodVars_none hV
  have k0 := h0
  have lt0 : ∀ x ∈ p0, x.block < W.heap.size := by obtain ⟨m, hm⟩ := k0; exact DataW.trod_lt m _ _ _ hm
  obtain ⟨x0, K0, O0, N0, _⟩ := Opx.arg (Opx.slice (s := .int .u8) Try.underlying47 (by kernel_rfl) (Opx.int Try.underlying5)) hsz (j := 0) (t := 47) rfl rfl h0
  obtain ⟨a0, len0, cap0, rfl⟩ := okWide_slice Try.underlying47 (hval 0 47 v0 rfl rfl)
  have hb0 : x0.length * 1 ≤ 140737488351232 := by
    rw [show Try.prog.bytesOf 5 = 1 from by kernel_rfl, show reachBytes = 140737488351232 from rfl] at N0; exact N0
  obtain ⟨a1, rfl, rfl, rfl, w1⟩ := open_int Try.underlying2 (hval 1 2 v1 rfl rfl) h1
  obtain ⟨a2, rfl, rfl, rfl, w2⟩ := open_int Try.underlying2 (hval 2 2 v2 rfl rfl) h2
  clear hA0 hval0 hsz0 hsz
  refine (law_ok (rs := [⟨0, false, [.deep (.sl (.int .u8))]⟩, ⟨1, false, [.deep (.int .i64)]⟩, ⟨2, false, [.deep (.int .i64)]⟩]) (nf := 7) (g := ((x0, ()), (a1, ()), (a2, ()), ())) tiok mixed (law7 _) Try.func7 (Caps.capsBytes x0 a1 a2 hb0) (w := W) (args := #[.slice a0 len0 cap0, .int .i64 a1, .int .i64 a2]) (fun t => ?_) rfl).mono fun e W' ⟨he, bel⟩ => ?_
  · match t with
    | 0 => exact vsl_arg (s := .int .u8) (xs := x0) rfl K0
    | 1 => exact ⟨rfl, rfl⟩
    | 2 => exact ⟨rfl, rfl⟩
    | t + 3 => trivial
  subst he
  exact ⟨_, rfl, _, _, _, [], _, [], hW', trodAll_mk1 (shut_bool Try.underlying4 _), (trodAll_cons_mk (Below.trod laidOut (by kernel_rfl) (of_decide_eq_true (by kernel_rfl)) k0 bel lt0) (trodAll_cons_mk (shut_int Try.underlying2 w1) (trodAll_cons_mk (shut_int Try.underlying2 w2) trodAll_mk0))), rfl, bel.frame _, fun h => by cases h⟩
theorem over : Rows.capsBytesRow.holds Try.pinned (OpenSpec.ofChange Rows.capsBytesSpec) :=
  OpenClaim.holds_of_wide 7 Try.f7 rfl rfl rfl rfl rfl rfl rfl ⟨rfl, rfl, rfl, rfl, rfl⟩ rfl rfl rfl rfl rfl (by kernel_rfl) Try.func7 (by kernel_rfl)
    (of_decide_eq_true (by kernel_rfl)) (by unfold Func.isWrapper; first | (rw [if_pos (by decide +kernel)]; kernel_rfl) | (rw [if_neg (by decide +kernel)]; exact ⟨rfl, rfl⟩))
    (fun os started H enc _ => lifted os started H enc)
theorem proved : Rows.CapsBytesSaid := over
#print axioms proved
end Go.Proofs.Ytopnjcclbepdoaa.capsBytes
namespace Go.Proofs.Ytopnjcclbepdoaa
/-- The row, under a short name, for the claim. -/
theorem capsBytes_holds : Rows.CapsBytesSaid := capsBytes.proved
end Go.Proofs.Ytopnjcclbepdoaa
