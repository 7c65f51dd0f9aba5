/- Whatever is pushed, popped and shrunk, a ring answers as the plain list does: RingPlays answers true for every input and its input reads as it did. Conditions: none beyond the row's own. -/
import Derived.Test.YthllpilgfipkpaaRows
import Derived.Test.YthllpilgfipkpaaRN
namespace Go.Proofs.Ythllpilgfipkpaa.ringPlays
open Go.ChangeShapes Go.WideShapes Go.ChangeAt Go.RowKit Go.Proofs.Ythllpilgfipkpaa.X Go.Proofs.Ythllpilgfipkpaa.Ring
open Go.ChangeMaps (open_string shut_string)
set_option linter.unusedVariables false
theorem own : ownKnob Try.prog.godebug = none := by kernel_rfl
theorem laidOut : laidOutB Try.prog = true := by kernel_rfl
set_option maxRecDepth 100000 in
theorem lifted (os : Os) (started : os.Started) (H : Type) (enc : TypeId × Value → H) :
    ReturnsInHanded {} Try.checked os 6 .any (Rows.ringPlaysSpec.pre6 enc Try.prog Try.f6 Rows.ringPlaysRow.domain false) (Rows.ringPlaysSpec.post enc Try.prog Try.f6 false true false false) := by
  refine returnsInHanded_of_change_sized (C := Try.checked) own started (by kernel_rfl) Try.func6
    (ChangeSpec.witness6 (enc := enc) (C := Try.checked) false ⟨#[], #[.int .i64 0, .slice none 0 0], []⟩ 8 (by kernel_rfl) (by kernel_rfl) (by kernel_rfl) (by kernel_rfl)) ?_
  intro W base args ds gs before hval0 hW hcnd hsz0 _
  have hsz : (DataW.weightsEach Try.prog (Try.f6.params.toList ++ Rows.ringPlaysSpec.plain.varTypes Try.prog) (ds ++ gs)).all (· ≤ reachBytes) = true := hsz0
  have hval : ∀ (j : Nat) t v, Try.f6.params[j]? = some t → args[j]? = some v → Value.okWide Try.prog W .any base t v := hval0
  have hW' := hW
  obtain ⟨p, q, hA0, hV, rfl, hfz, hnd⟩ := hW
  have hA : DataW.TrodAll enc Try.prog W 0 (fun _ => true) true Try.f6.params.toList args.toList ds p := hA0
  rw [show Try.f6.params = #[3, 47] from by kernel_rfl] at hA hval hsz
  obtain ⟨v0, vs0, d0, ds0, p0, q0, hargs, rfl, rfl, h0, r0⟩ := trodAll_cons hA
  obtain ⟨v1, vs1, d1, ds1, p1, q1, rfl, rfl, rfl, h1, r1⟩ := trodAll_cons r0
  obtain ⟨rfl, rfl, rfl⟩ := trodAll_nil r1
  obtain rfl : args = #[v0, v1] := by cases args; simp_all
  obtain ⟨rfl, rfl⟩ := trodVars_none hV
  obtain ⟨a0, rfl, rfl, rfl, w0⟩ := open_int Try.underlying3 (hval 0 3 v0 rfl rfl) h0
  have k1 := h1
  have lt1 : ∀ x ∈ p1, x.block < W.heap.size := by obtain ⟨m, hm⟩ := k1; exact DataW.trod_lt m _ _ _ hm
  obtain ⟨x1, K1, O1, N1, _⟩ := Opx.arg (Opx.slice (s := .pair (.int .i64) (.int .i64)) Try.underlying47 (by kernel_rfl) (Opx.struct Try.underlying52 (FOx.cons rfl (by kernel_rfl) (Opx.int Try.underlying3) (FOx.last rfl (by kernel_rfl) (by kernel_rfl) (Opx.int Try.underlying3))))) hsz (j := 1) (t := 47) rfl rfl h1
  obtain ⟨a1, len1, cap1, rfl⟩ := okWide_slice Try.underlying47 (hval 1 47 v1 rfl rfl)
  have hb1 : x1.length * 16 ≤ 140737488351232 := by
    rw [show Try.prog.bytesOf 52 = 16 from by kernel_rfl, show reachBytes = 140737488351232 from rfl] at N1; exact N1
  clear hA0 hval0 hsz0 hsz
  refine (law_ok (rs := [rt 0 i64, rt 1 (.deep (.sl (.pair (.int .i64) (.int .i64))))]) (nf := 6) (g := ((a0, ()), (x1, ()), ())) tiok mixed (law6 _) Try.func6 (Ring.ringPlays a0 x1 hb1) (w := W) (args := #[.int .i64 a0, .slice a1 len1 cap1]) (fun t => ?_) rfl).mono fun e W' ⟨he, bel⟩ => ?_
  · match t with
    | 0 => exact ⟨rfl, rfl⟩
    | 1 => exact vsl_arg (s := .pair (.int .i64) (.int .i64)) (xs := x1) rfl K1
    | t + 2 => trivial
  subst he
  exact ⟨_, rfl, _, _, _, [], _, [], hW', trodAll_mk1 (shut_bool Try.underlying4 _), (trodAll_cons_mk (shut_int Try.underlying3 w0) (trodAll_cons_mk (Below.trod laidOut (by kernel_rfl) (of_decide_eq_true (by kernel_rfl)) k1 bel lt1) trodAll_mk0)), rfl, bel.frame _, fun h => by cases h⟩
theorem over : Rows.ringPlaysRow.holds Try.pinned (OpenSpec.ofChange Rows.ringPlaysSpec) :=
  OpenClaim.holds_of_wide 6 Try.f6 rfl rfl rfl rfl rfl rfl rfl ⟨rfl, rfl, rfl, rfl, rfl⟩ rfl rfl rfl rfl rfl (by kernel_rfl) Try.func6 (by kernel_rfl)
    (of_decide_eq_true (by kernel_rfl)) (by unfold Func.isWrapper; first | (rw [if_pos (by decide +kernel)]; kernel_rfl) | (rw [if_neg (by decide +kernel)]; exact ⟨rfl, rfl⟩))
    (fun os started H enc _ => lifted os started H enc)
theorem proved : Rows.RingPlaysSaid := over
#print axioms proved
end Go.Proofs.Ythllpilgfipkpaa.ringPlays
namespace Go.Proofs.Ythllpilgfipkpaa
/-- The row, under a short name, for the claim. -/
theorem ringPlays_holds : Rows.RingPlaysSaid := ringPlays.proved
end Go.Proofs.Ythllpilgfipkpaa
