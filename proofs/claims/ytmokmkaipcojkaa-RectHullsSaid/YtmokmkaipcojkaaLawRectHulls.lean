/- A hull has both rectangles, where it is no larger than may be, and is the least one: RectHulls answers true for every two rectangles. Conditions: none beyond the row's own. -/
import Derived.Test.YtmokmkaipcojkaaRows
import Derived.Test.YtmokmkaipcojkaaHB
namespace Go.Proofs.Ytmokmkaipcojkaa.rectHulls
open Go.ChangeShapes Go.WideShapes Go.ChangeAt Go.RowKit Go.Proofs.Ytmokmkaipcojkaa.X Go.Proofs.Ytmokmkaipcojkaa.Hull
open Go.ChangeMaps (open_string shut_string)
set_option linter.unusedVariables false
theorem own : ownKnob Try.prog.godebug = none := by kernel_rfl
theorem laidOut : laidOutB Try.prog = true := by kernel_rfl
set_option maxRecDepth 100000 in
theorem lifted (os : Os) (started : os.Started) (H : Type) (enc : TypeId × Value → H) :
    ReturnsInHanded {} Try.checked os 10 .any (Rows.rectHullsSpec.pre6 enc Try.prog Try.f10 Rows.rectHullsRow.domain false) (Rows.rectHullsSpec.post enc Try.prog Try.f10 false true false false) := by
  refine returnsInHanded_of_change_sized (C := Try.checked) own started (by kernel_rfl) Try.func10
    (ChangeSpec.witness6 (enc := enc) (C := Try.checked) false ⟨#[], #[.agg #[.int .i64 0, .int .i64 0, .int .i64 0, .int .i64 0], .agg #[.int .i64 0, .int .i64 0, .int .i64 0, .int .i64 0]], []⟩ 8 (by kernel_rfl) (by kernel_rfl) (by kernel_rfl) (by kernel_rfl)) ?_
  intro W base args ds gs before hval0 hW hcnd hsz0 _
  have hsz : (DataW.weightsEach Try.prog (Try.f10.params.toList ++ Rows.rectHullsSpec.plain.varTypes Try.prog) (ds ++ gs)).all (· ≤ reachBytes) = true := hsz0
  have hval : ∀ (j : Nat) t v, Try.f10.params[j]? = some t → args[j]? = some v → Value.okWide Try.prog W .any base t v := hval0
  have hW' := hW
  obtain ⟨p, q, hA0, hV, rfl, hfz, hnd⟩ := hW
  have hA : DataW.TrodAll enc Try.prog W 0 (fun _ => true) true Try.f10.params.toList args.toList ds p := hA0
  rw [show Try.f10.params = #[26, 26] from by kernel_rfl] at hA hval hsz
  obtain ⟨v0, vs0, d0, ds0, p0, q0, hargs, rfl, rfl, h0, r0⟩ := trodAll_cons hA
  obtain ⟨v1, vs1, d1, ds1, p1, q1, rfl, rfl, rfl, h1, r1⟩ := trodAll_cons r0
  obtain ⟨rfl, rfl, rfl⟩ := trodAll_nil r1
  obtain rfl : args = #[v0, v1] := by cases args; simp_all
  obtain ⟨rfl, rfl⟩ := trodVars_none hV
  have k0 := h0
  have lt0 : ∀ x ∈ p0, x.block < W.heap.size := by obtain ⟨m, hm⟩ := k0; exact DataW.trod_lt m _ _ _ hm
  obtain ⟨x0, K0, O0⟩ := Opx.arg (Opx.struct Try.underlying26 (FOx.cons rfl (by kernel_rfl) (Opx.int Try.underlying3) (FOx.cons rfl (by kernel_rfl) (Opx.int Try.underlying3) (FOx.cons rfl (by kernel_rfl) (Opx.int Try.underlying3) (FOx.last rfl (by kernel_rfl) (by kernel_rfl) (Opx.int Try.underlying3)))))) hsz (j := 0) (t := 26) rfl rfl h0
  have k1 := h1
  have lt1 : ∀ x ∈ p1, x.block < W.heap.size := by obtain ⟨m, hm⟩ := k1; exact DataW.trod_lt m _ _ _ hm
  obtain ⟨x1, K1, O1⟩ := Opx.arg (Opx.struct Try.underlying26 (FOx.cons rfl (by kernel_rfl) (Opx.int Try.underlying3) (FOx.cons rfl (by kernel_rfl) (Opx.int Try.underlying3) (FOx.cons rfl (by kernel_rfl) (Opx.int Try.underlying3) (FOx.last rfl (by kernel_rfl) (by kernel_rfl) (Opx.int Try.underlying3)))))) hsz (j := 1) (t := 26) rfl rfl h1
  clear hA0 hval0 hsz0 hsz
  refine (law_ok (rs := [⟨0, true, [.deep (Hull.S26)]⟩, ⟨1, true, [.deep (Hull.S26)]⟩]) (nf := 10) (g := ((x0, ()), (x1, ()), ())) tiok mixed (law10 _) Try.func10 (Hull.rectHullsL x0 x1 O0 O1) (w := W) (args := #[v0, v1]) (fun t => ?_) rfl (fun g x h => by cases h)).mono fun e W' ⟨he, bel⟩ => ?_
  · match t with
    | 0 => exact agg_arg (s := Hull.S26) (by decide) K0
    | 1 => exact agg_arg (s := Hull.S26) (by decide) K1
    | t + 2 => trivial
  subst he
  exact ⟨_, rfl, _, _, _, [], _, [], hW', trodAll_mk1 (shut_bool Try.underlying4 _), (trodAll_cons_mk (Below.trod laidOut (by kernel_rfl) (of_decide_eq_true (by kernel_rfl)) k0 bel lt0) (trodAll_cons_mk (Below.trod laidOut (by kernel_rfl) (of_decide_eq_true (by kernel_rfl)) k1 bel lt1) trodAll_mk0)), rfl, bel.frame _, fun h => by cases h⟩
theorem over : Rows.rectHullsRow.holds Try.pinned (OpenSpec.ofChange Rows.rectHullsSpec) :=
  OpenClaim.holds_of_wide 10 Try.f10 rfl rfl rfl rfl rfl rfl rfl ⟨rfl, rfl, rfl, rfl, rfl⟩ rfl rfl rfl rfl rfl (by kernel_rfl) Try.func10 (by kernel_rfl)
    (of_decide_eq_true (by kernel_rfl)) (by unfold Func.isWrapper; first | (rw [if_pos (by decide +kernel)]; kernel_rfl) | (rw [if_neg (by decide +kernel)]; exact ⟨rfl, rfl⟩))
    (fun os started H enc _ => lifted os started H enc)
theorem proved : Rows.RectHullsSaid := over
#print axioms proved
end Go.Proofs.Ytmokmkaipcojkaa.rectHulls
namespace Go.Proofs.Ytmokmkaipcojkaa
/-- The row, under a short name, for the claim. -/
theorem rectHulls_holds : Rows.RectHullsSaid := rectHulls.proved
end Go.Proofs.Ytmokmkaipcojkaa
