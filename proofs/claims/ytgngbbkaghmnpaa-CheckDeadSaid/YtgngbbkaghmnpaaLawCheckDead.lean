/- CheckDead: instructions put behind a function that aren't reached make no flaw and change no height. Conditions: none beyond the row's own. -/
import Derived.Test.YtgngbbkaghmnpaaRows
import Derived.Test.YtgngbbkaghmnpaaDF
namespace Go.Proofs.Ytgngbbkaghmnpaa.checkDead
open Go.ChangeShapes Go.WideShapes Go.ChangeAt Go.RowKit Go.Proofs.Ytgngbbkaghmnpaa.X Go.Proofs.Ytgngbbkaghmnpaa.Ck
open Go.ChangeMaps (open_string shut_string)
set_option linter.unusedVariables false
theorem own : ownKnob Try.prog.godebug = none := by kernel_rfl
theorem laidOut : laidOutB Try.prog = true := by kernel_rfl
set_option maxRecDepth 100000 in
theorem lifted (os : Os) (started : os.Started) (H : Type) (enc : TypeId × Value → H) :
    ReturnsInHanded {} Try.checked os 6 .any (Rows.checkDeadSpec.pre6 enc Try.prog Try.f6 Rows.checkDeadRow.domain false) (Rows.checkDeadSpec.post enc Try.prog Try.f6 false true false false) := by
  refine returnsInHanded_of_change_sized (C := Try.checked) own started (by kernel_rfl) Try.func6
    (ChangeSpec.witness6 (enc := enc) (C := Try.checked) false ⟨#[], #[.agg #[.int .i64 0, .slice none 0 0, .slice none 0 0], .slice none 0 0, .int .i64 0], []⟩ 8 (by kernel_rfl) (by kernel_rfl) (by kernel_rfl) (by kernel_rfl)) ?_
  intro W base args ds gs before hval0 hW hcnd hsz0 _
  have hsz : (DataW.weightsEach Try.prog (Try.f6.params.toList ++ Rows.checkDeadSpec.plain.varTypes Try.prog) (ds ++ gs)).all (· ≤ reachBytes) = true := hsz0
  have hval : ∀ (j : Nat) t v, Try.f6.params[j]? = some t → args[j]? = some v → Value.okWide Try.prog W .any base t v := hval0
  have hW' := hW
  obtain ⟨p, q, hA0, hV, rfl, hfz, hnd⟩ := hW
  have hA : DataW.TrodAll enc Try.prog W 0 (fun _ => true) true Try.f6.params.toList args.toList ds p := hA0
  rw [show Try.f6.params = #[25, 40, 3] from by kernel_rfl] at hA hval hsz
  obtain ⟨v0, vs0, d0, ds0, p0, q0, hargs, rfl, rfl, h0, r0⟩ := trodAll_cons hA
  obtain ⟨v1, vs1, d1, ds1, p1, q1, rfl, rfl, rfl, h1, r1⟩ := trodAll_cons r0
  obtain ⟨v2, vs2, d2, ds2, p2, q2, rfl, rfl, rfl, h2, r2⟩ := trodAll_cons r1
  obtain ⟨rfl, rfl, rfl⟩ := trodAll_nil r2
  obtain rfl : args = #[v0, v1, v2] := by cases args; simp_all
  obtain ⟨rfl, rfl⟩ := trodVars_none hV
  have k0 := h0
  have lt0 : ∀ x ∈ p0, x.block < W.heap.size := by obtain ⟨m, hm⟩ := k0; exact DataW.trod_lt m _ _ _ hm
  obtain ⟨x0, K0, O0⟩ := Opx.arg (Opx.struct Try.underlying25 (FOx.cons rfl (by kernel_rfl) (Opx.int Try.underlying3) (FOx.cons rfl (by kernel_rfl) (Opx.slice (s := .int .u8) Try.underlying22 (by kernel_rfl) (Opx.int Try.underlying5)) (FOx.last rfl (by kernel_rfl) (by kernel_rfl) (Opx.slice (s := (.pair (.int .i64) (.pair (.int .i64) (.pair (.int .i64) (.sl (.pair (.int .i64) (.int .i64))))))) Try.underlying23 (by kernel_rfl) (Opx.struct Try.underlying42 (FOx.cons rfl (by kernel_rfl) (Opx.int Try.underlying3) (FOx.cons rfl (by kernel_rfl) (Opx.int Try.underlying3) (FOx.cons rfl (by kernel_rfl) (Opx.int Try.underlying3) (FOx.last rfl (by kernel_rfl) (by kernel_rfl) (Opx.slice (s := (.pair (.int .i64) (.int .i64))) Try.underlying40 (by kernel_rfl) (Opx.struct Try.underlying46 (FOx.cons rfl (by kernel_rfl) (Opx.int Try.underlying3) (FOx.last rfl (by kernel_rfl) (by kernel_rfl) (Opx.int Try.underlying2))))))))))))))) hsz (j := 0) (t := 25) rfl rfl h0
  have k1 := h1
  have lt1 : ∀ x ∈ p1, x.block < W.heap.size := by obtain ⟨m, hm⟩ := k1; exact DataW.trod_lt m _ _ _ hm
  obtain ⟨x1, K1, O1, N1, _⟩ := Opx.arg (Opx.slice (s := (.pair (.int .i64) (.int .i64))) Try.underlying40 (by kernel_rfl) (Opx.struct Try.underlying46 (FOx.cons rfl (by kernel_rfl) (Opx.int Try.underlying3) (FOx.last rfl (by kernel_rfl) (by kernel_rfl) (Opx.int Try.underlying2))))) hsz (j := 1) (t := 40) rfl rfl h1
  obtain ⟨a1, len1, cap1, rfl⟩ := okWide_slice Try.underlying40 (hval 1 40 v1 rfl rfl)
  have hb1 : x1.length * 16 ≤ 140737488351232 := by
    rw [show Try.prog.bytesOf 46 = 16 from by kernel_rfl, show reachBytes = 140737488351232 from rfl] at N1; exact N1
  obtain ⟨a2, rfl, rfl, rfl, w2⟩ := open_int Try.underlying3 (hval 2 3 v2 rfl rfl) h2
  clear hA0 hval0 hsz0 hsz
  refine (law_ok (rs := [⟨0, true, [.deep (.pair (.int .i64) (.pair (.sl (.int .u8)) (.sl (.pair (.int .i64) (.pair (.int .i64) (.pair (.int .i64) (.sl (.pair (.int .i64) (.int .i64)))))))))]⟩, ⟨1, false, [.deep (.sl ((.pair (.int .i64) (.int .i64))))]⟩, ⟨2, false, [.deep (.int .i64)]⟩]) (nf := 6) (g := ((x0, ()), (x1, ()), (a2, ()), ())) tiok mixed (law6 _) Try.func6 (Ck.checkDead x0 x1 a2 O0 hb1) (w := W) (args := #[v0, .slice a1 len1 cap1, .int .i64 a2]) (fun t => ?_) rfl (fun g x h => by cases h)).mono fun e W' ⟨he, bel⟩ => ?_
  · match t with
    | 0 => exact agg_arg (s := .pair (.int .i64) (.pair (.sl (.int .u8)) (.sl (.pair (.int .i64) (.pair (.int .i64) (.pair (.int .i64) (.sl (.pair (.int .i64) (.int .i64))))))))) (by decide) K0
    | 1 => exact vsl_arg (s := (.pair (.int .i64) (.int .i64))) (xs := x1) rfl K1
    | 2 => exact ⟨rfl, rfl⟩
    | t + 3 => trivial
  subst he
  exact ⟨_, rfl, _, _, _, [], _, [], hW', trodAll_mk1 (shut_bool Try.underlying4 _), (trodAll_cons_mk (Below.trod laidOut (by kernel_rfl) (of_decide_eq_true (by kernel_rfl)) k0 bel lt0) (trodAll_cons_mk (Below.trod laidOut (by kernel_rfl) (of_decide_eq_true (by kernel_rfl)) k1 bel lt1) (trodAll_cons_mk (shut_int Try.underlying3 w2) trodAll_mk0))), rfl, bel.frame _, fun h => by cases h⟩
theorem over : Rows.checkDeadRow.holds Try.pinned (OpenSpec.ofChange Rows.checkDeadSpec) :=
  OpenClaim.holds_of_wide 6 Try.f6 rfl rfl rfl rfl rfl rfl rfl ⟨rfl, rfl, rfl, rfl, rfl⟩ rfl rfl rfl rfl rfl (by kernel_rfl) Try.func6 (by kernel_rfl)
    (of_decide_eq_true (by kernel_rfl)) (by unfold Func.isWrapper; first | (rw [if_pos (by decide +kernel)]; kernel_rfl) | (rw [if_neg (by decide +kernel)]; exact ⟨rfl, rfl⟩))
    (fun os started H enc _ => lifted os started H enc)
theorem proved : Rows.CheckDeadSaid := over
#print axioms proved
end Go.Proofs.Ytgngbbkaghmnpaa.checkDead
namespace Go.Proofs.Ytgngbbkaghmnpaa
/-- The row, under a short name, for the claim. -/
theorem checkDead_holds : Rows.CheckDeadSaid := checkDead.proved
end Go.Proofs.Ytgngbbkaghmnpaa
