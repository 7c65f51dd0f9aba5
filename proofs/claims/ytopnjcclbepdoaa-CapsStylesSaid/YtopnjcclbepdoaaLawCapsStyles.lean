/- A style is taken just if its colours and attributes may be, a cell just if its place and letter may be: CapsStyles answers true for every input and its input reads as it did. Conditions: none beyond the row's own. -/
import Derived.Test.YtopnjcclbepdoaaRows
import Derived.Test.YtopnjcclbepdoaaKI
namespace Go.Proofs.Ytopnjcclbepdoaa.capsStyles
open Go.ChangeShapes Go.WideShapes Go.ChangeAt Go.RowKit Go.Proofs.Ytopnjcclbepdoaa.X Go.Proofs.Ytopnjcclbepdoaa.Caps
open Go.ChangeMaps (open_string shut_string)
set_option linter.unusedVariables false
theorem own : ownKnob Try.prog.godebug = none := by kernel_rfl
theorem laidOut : laidOutB Try.prog = true := by kernel_rfl
set_option maxRecDepth 100000 in
theorem lifted (os : Os) (started : os.Started) (H : Type) (enc : TypeId × Value → H) :
    ReturnsInHanded {} Try.checked os 8 .any (Rows.capsStylesSpec.pre6 enc Try.prog Try.f8 Rows.capsStylesRow.domain false) (Rows.capsStylesSpec.post enc Try.prog Try.f8 false true false false) := by
  refine returnsInHanded_of_change_sized (C := Try.checked) own started (by kernel_rfl) Try.func8
    (ChangeSpec.witness6 (enc := enc) (C := Try.checked) false ⟨#[], #[.int .i64 0, .int .i64 0, .int .i64 0, .agg #[.int .i64 0, .int .i64 0, .int .i64 0]], []⟩ 8 (by kernel_rfl) (by kernel_rfl) (by kernel_rfl) (by kernel_rfl)) ?_
  intro W base args ds gs before hval0 hW hcnd hsz0 _
  have hsz : (DataW.weightsEach Try.prog (Try.f8.params.toList ++ Rows.capsStylesSpec.plain.varTypes Try.prog) (ds ++ gs)).all (· ≤ reachBytes) = true := hsz0
  have hval : ∀ (j : Nat) t v, Try.f8.params[j]? = some t → args[j]? = some v → Value.okWide Try.prog W .any base t v := hval0
  have hW' := hW
  obtain ⟨p, q, hA0, hV, rfl, hfz, hnd⟩ := hW
  have hA : DataW.TrodAll enc Try.prog W 0 (fun _ => true) true Try.f8.params.toList args.toList ds p := hA0
  rw [show Try.f8.params = #[2, 2, 2, 49] from by kernel_rfl] at hA hval hsz
  obtain ⟨v0, vs0, d0, ds0, p0, q0, hargs, rfl, rfl, h0, r0⟩ := trodAll_cons hA
  obtain ⟨v1, vs1, d1, ds1, p1, q1, rfl, rfl, rfl, h1, r1⟩ := trodAll_cons r0
  obtain ⟨v2, vs2, d2, ds2, p2, q2, rfl, rfl, rfl, h2, r2⟩ := trodAll_cons r1
  obtain ⟨v3, vs3, d3, ds3, p3, q3, rfl, rfl, rfl, h3, r3⟩ := trodAll_cons r2
  obtain ⟨rfl, rfl, rfl⟩ := trodAll_nil r3
  obtain rfl : args = #[v0, v1, v2, v3] := by cases args; simp_all
  obtain ⟨rfl, rfl⟩ := trodVars_none hV
  obtain ⟨a0, rfl, rfl, rfl, w0⟩ := open_int Try.underlying2 (hval 0 2 v0 rfl rfl) h0
  obtain ⟨a1, rfl, rfl, rfl, w1⟩ := open_int Try.underlying2 (hval 1 2 v1 rfl rfl) h1
  obtain ⟨a2, rfl, rfl, rfl, w2⟩ := open_int Try.underlying2 (hval 2 2 v2 rfl rfl) h2
  have k3 := h3
  have lt3 : ∀ x ∈ p3, x.block < W.heap.size := by obtain ⟨m, hm⟩ := k3; exact DataW.trod_lt m _ _ _ hm
  obtain ⟨x3, K3, O3⟩ := Opx.arg (Opx.struct Try.underlying49 (FOx.cons rfl (by kernel_rfl) (Opx.int Try.underlying3) (FOx.cons rfl (by kernel_rfl) (Opx.int Try.underlying3) (FOx.last rfl (by kernel_rfl) (by kernel_rfl) (Opx.int Try.underlying3))))) hsz (j := 3) (t := 49) rfl rfl h3
  clear hA0 hval0 hsz0 hsz
  refine (law_ok (rs := [⟨0, false, [.deep (.int .i64)]⟩, ⟨1, false, [.deep (.int .i64)]⟩, ⟨2, false, [.deep (.int .i64)]⟩, ⟨3, true, [.deep (.pair (.int .i64) (.pair (.int .i64) (.int .i64)))]⟩]) (nf := 8) (g := ((a0, ()), (a1, ()), (a2, ()), (x3, ()), ())) tiok mixed (law8 _) Try.func8 (Caps.capsStyles a0 a1 a2 x3 O3) (w := W) (args := #[.int .i64 a0, .int .i64 a1, .int .i64 a2, v3]) (fun t => ?_) rfl).mono fun e W' ⟨he, bel⟩ => ?_
  · match t with
    | 0 => exact ⟨rfl, rfl⟩
    | 1 => exact ⟨rfl, rfl⟩
    | 2 => exact ⟨rfl, rfl⟩
    | 3 => exact agg_arg (s := .pair (.int .i64) (.pair (.int .i64) (.int .i64))) (by decide) K3
    | t + 4 => trivial
  subst he
  exact ⟨_, rfl, _, _, _, [], _, [], hW', trodAll_mk1 (shut_bool Try.underlying4 _), (trodAll_cons_mk (shut_int Try.underlying2 w0) (trodAll_cons_mk (shut_int Try.underlying2 w1) (trodAll_cons_mk (shut_int Try.underlying2 w2) (trodAll_cons_mk (Below.trod laidOut (by kernel_rfl) (of_decide_eq_true (by kernel_rfl)) k3 bel lt3) trodAll_mk0)))), rfl, bel.frame _, fun h => by cases h⟩
theorem over : Rows.capsStylesRow.holds Try.pinned (OpenSpec.ofChange Rows.capsStylesSpec) :=
  OpenClaim.holds_of_wide 8 Try.f8 rfl rfl rfl rfl rfl rfl rfl ⟨rfl, rfl, rfl, rfl, rfl⟩ rfl rfl rfl rfl rfl (by kernel_rfl) Try.func8 (by kernel_rfl)
    (of_decide_eq_true (by kernel_rfl)) (by unfold Func.isWrapper; first | (rw [if_pos (by decide +kernel)]; kernel_rfl) | (rw [if_neg (by decide +kernel)]; exact ⟨rfl, rfl⟩))
    (fun os started H enc _ => lifted os started H enc)
theorem proved : Rows.CapsStylesSaid := over
#print axioms proved
end Go.Proofs.Ytopnjcclbepdoaa.capsStyles
namespace Go.Proofs.Ytopnjcclbepdoaa
/-- The row, under a short name, for the claim. -/
theorem capsStyles_holds : Rows.CapsStylesSaid := capsStyles.proved
end Go.Proofs.Ytopnjcclbepdoaa
