/- Every screen is right, or not, as said; a blank one is: PaintRight answers true for every input and its input reads as it did. Conditions: none beyond the row's own. -/
import Derived.Test.YtaklapcbbdcdpaaDoorRows
import Derived.Test.YtaklapcbbdcdpaaDoorCards
import Derived.Test.YtaklapcbbdcdpaaDoorTie
import Derived.Test.YtaklapcbbdcdpaaDoorPI
import Derived.Test.YtaklapcbbdcdpaaDoorPG
import Derived.Handed
import Derived.Lay
import Derived.SevenTiedAt
namespace Go.Proofs.YtaklapcbbdcdpaaDoor.paintRight
open Go.ChangeShapes Go.WideShapes Go.ChangeAt Go.RowKit Go.Proofs.YtaklapcbbdcdpaaDoor.X Go.Proofs.YtaklapcbbdcdpaaDoor.Pt
open Go.ChangeMaps (open_string shut_string)
set_option linter.unusedVariables false
theorem own : ownKnob Tryd.prog.godebug = none := by kernel_rfl
abbrev laid : List (String × DataW Unit) := [("unicode/utf8.acceptRanges", Rows.laid_unicode_utf8_acceptRanges), ("unicode/utf8.first", Rows.laid_unicode_utf8_first)]
theorem laidOut : laidOutB Tryd.prog = true := by kernel_rfl
set_option maxRecDepth 100000 in
set_option maxHeartbeats 2000000 in
theorem lifted (os : Os) (started : os.Started) (H : Type) (enc : TypeId × Value → H) :
    ReturnsInHanded {} Tryd.checked os 4 .any (fun w args => (Rows.paintRightSpec.pre enc Tryd.prog Tryd.f4 [] false w args ∧ laidMetH Tryd.prog laid w) ∧ sizedMet enc Tryd.prog Tryd.f4 (OpenSpec.ofChange Rows.paintRightSpec) false w args)
      (Rows.paintRightSpec.post enc Tryd.prog Tryd.f4 false true false false) := by
  refine returnsInHanded_of_change_and (C := Tryd.checked) (X := fun w _ => laidMetH Tryd.prog laid w) (fun _ _ _ hh h => h.of_heap hh) own started (by kernel_rfl) Tryd.func4
    (ChangeSpec.witness_shaped (enc := enc) (C := Tryd.checked) (os := os) (X := fun w _ => laidMetH Tryd.prog laid w) false (World.laidAll Tryd.prog os laid) #[.agg #[.int .i64 0, .int .i64 0, .slice none 0 0, .int .i64 0, .int .i64 0, .bool false], .agg #[.int .i64 0, .int .i64 0, .slice none 0 0, .int .i64 0, .int .i64 0, .bool false], .int .i64 0, .int .i64 0] 8 (World.laidAll_os _ _ _)
      (World.shaped_of_ZipB (by kernel_rfl) (by kernel_rfl)) (by kernel_rfl) (by kernel_rfl) (by kernel_rfl)
      (by rw [MakeChecks.laidMetH_plain _ _ _ (by kernel_rfl)]; exact laidMet_laidAll _ (by kernel_rfl) (by kernel_rfl))) ?_
  intro W base args ds gs before hval0 hW _ hsz0 hL _
  have hsz : (DataW.weightsEach Tryd.prog (Tryd.f4.params.toList ++ Rows.paintRightSpec.plain.varTypes Tryd.prog) (ds ++ gs)).all (· ≤ reachBytes) = true := hsz0
  have hval : ∀ (j : Nat) t v, Tryd.f4.params[j]? = some t → args[j]? = some v → Value.okWide Tryd.prog W .any base t v := hval0
  have hW' := hW
  obtain ⟨p, q, hA0, hV, rfl, hfz, hnd⟩ := hW
  have hA : DataW.TrodAll enc Tryd.prog W 0 (fun _ => true) true Tryd.f4.params.toList args.toList ds p := hA0
  rw [show Tryd.f4.params = #[30, 30, 3, 3] from by kernel_rfl] at hA hval hsz
  obtain ⟨v0, vs0, d0, ds0, p0, q0, hargs, rfl, rfl, h0, r0⟩ := trodAll_cons hA
  obtain ⟨v1, vs1, d1, ds1, p1, q1, rfl, rfl, rfl, h1, r1⟩ := trodAll_cons r0
  obtain ⟨v2, vs2, d2, ds2, p2, q2, rfl, rfl, rfl, h2, r2⟩ := trodAll_cons r1
  obtain ⟨v3, vs3, d3, ds3, p3, q3, rfl, rfl, rfl, h3, r3⟩ := trodAll_cons r2
  obtain ⟨rfl, rfl, rfl⟩ := trodAll_nil r3
  obtain rfl : args = #[v0, v1, v2, v3] := by cases args; simp_all
  obtain ⟨rfl, rfl⟩ := trodVars_none hV
  have k0 := h0
  have lt0 : ∀ x ∈ p0, x.block < W.heap.size := by obtain ⟨m, hm⟩ := k0; exact DataW.trod_lt m _ _ _ hm
  obtain ⟨x0, K0, O0⟩ := Opx.arg (Opx.struct Tryd.underlying30 (FOx.cons rfl (by kernel_rfl) (Opx.int Tryd.underlying3) (FOx.cons rfl (by kernel_rfl) (Opx.int Tryd.underlying3) (FOx.cons rfl (by kernel_rfl) (Opx.slice (s := .sl (.pair (.int .i32) (.pair (.int .i64) (.pair (.int .i64) (.int .i64))))) Tryd.underlying26 (by kernel_rfl) (Opx.slice (s := (.pair (.int .i32) (.pair (.int .i64) (.pair (.int .i64) (.int .i64))))) Tryd.underlying39 (by kernel_rfl) (Opx.struct Tryd.underlying43 (FOx.cons rfl (by kernel_rfl) (Opx.int Tryd.underlying21) (FOx.last rfl (by kernel_rfl) (by kernel_rfl) (Opx.struct Tryd.underlying41 (FOx.cons rfl (by kernel_rfl) (Opx.int Tryd.underlying3) (FOx.cons rfl (by kernel_rfl) (Opx.int Tryd.underlying3) (FOx.last rfl (by kernel_rfl) (by kernel_rfl) (Opx.int Tryd.underlying3)))))))))) (FOx.cons rfl (by kernel_rfl) (Opx.int Tryd.underlying3) (FOx.cons rfl (by kernel_rfl) (Opx.int Tryd.underlying3) (FOx.last rfl (by kernel_rfl) (by kernel_rfl) (Opx.bool Tryd.underlying4)))))))) hsz (j := 0) (t := 30) rfl rfl h0
  have k1 := h1
  have lt1 : ∀ x ∈ p1, x.block < W.heap.size := by obtain ⟨m, hm⟩ := k1; exact DataW.trod_lt m _ _ _ hm
  obtain ⟨x1, K1, O1⟩ := Opx.arg (Opx.struct Tryd.underlying30 (FOx.cons rfl (by kernel_rfl) (Opx.int Tryd.underlying3) (FOx.cons rfl (by kernel_rfl) (Opx.int Tryd.underlying3) (FOx.cons rfl (by kernel_rfl) (Opx.slice (s := .sl (.pair (.int .i32) (.pair (.int .i64) (.pair (.int .i64) (.int .i64))))) Tryd.underlying26 (by kernel_rfl) (Opx.slice (s := (.pair (.int .i32) (.pair (.int .i64) (.pair (.int .i64) (.int .i64))))) Tryd.underlying39 (by kernel_rfl) (Opx.struct Tryd.underlying43 (FOx.cons rfl (by kernel_rfl) (Opx.int Tryd.underlying21) (FOx.last rfl (by kernel_rfl) (by kernel_rfl) (Opx.struct Tryd.underlying41 (FOx.cons rfl (by kernel_rfl) (Opx.int Tryd.underlying3) (FOx.cons rfl (by kernel_rfl) (Opx.int Tryd.underlying3) (FOx.last rfl (by kernel_rfl) (by kernel_rfl) (Opx.int Tryd.underlying3)))))))))) (FOx.cons rfl (by kernel_rfl) (Opx.int Tryd.underlying3) (FOx.cons rfl (by kernel_rfl) (Opx.int Tryd.underlying3) (FOx.last rfl (by kernel_rfl) (by kernel_rfl) (Opx.bool Tryd.underlying4)))))))) hsz (j := 1) (t := 30) rfl rfl h1
  obtain ⟨a2, rfl, rfl, rfl, w2⟩ := open_int Tryd.underlying3 (hval 2 3 v2 rfl rfl) h2
  obtain ⟨a3, rfl, rfl, rfl, w3⟩ := open_int Tryd.underlying3 (hval 3 3 v3 rfl rfl) h3
  clear hA0 hval0 hsz0 hsz
  refine (law_ok (rs := [⟨0, true, [.deep (.pair (.int .i64) (.pair (.int .i64) (.pair (.sl (.sl (.pair (.int .i32) (.pair (.int .i64) (.pair (.int .i64) (.int .i64)))))) (.pair (.int .i64) (.pair (.int .i64) .bool)))))]⟩, ⟨1, true, [.deep (.pair (.int .i64) (.pair (.int .i64) (.pair (.sl (.sl (.pair (.int .i32) (.pair (.int .i64) (.pair (.int .i64) (.int .i64)))))) (.pair (.int .i64) (.pair (.int .i64) .bool)))))]⟩, ⟨2, false, [.deep (.int .i64)]⟩, ⟨3, false, [.deep (.int .i64)]⟩]) (nf := 4) (g := ((x0, ()), (x1, ()), (a2, ()), (a3, ()), ())) tiok mixed (law4 _) Tryd.func4 (Pt.paintRight x0 x1 a2 a3 O0 O1 w2 w3) (w := W) (args := #[v0, v1, .int .i64 a2, .int .i64 a3]) (fun t => ?_) rfl (glob_of hL)).mono fun e W' ⟨he, bel⟩ => ?_
  · match t with
    | 0 => exact agg_arg (s := .pair (.int .i64) (.pair (.int .i64) (.pair (.sl (.sl (.pair (.int .i32) (.pair (.int .i64) (.pair (.int .i64) (.int .i64)))))) (.pair (.int .i64) (.pair (.int .i64) .bool))))) (by decide) K0
    | 1 => exact agg_arg (s := .pair (.int .i64) (.pair (.int .i64) (.pair (.sl (.sl (.pair (.int .i32) (.pair (.int .i64) (.pair (.int .i64) (.int .i64)))))) (.pair (.int .i64) (.pair (.int .i64) .bool))))) (by decide) K1
    | 2 => exact ⟨rfl, rfl⟩
    | 3 => exact ⟨rfl, rfl⟩
    | t + 4 => trivial
  subst he
  exact ⟨_, rfl, _, _, _, [], _, [], hW', trodAll_mk1 (shut_bool Tryd.underlying4 _), (trodAll_cons_mk (Below.trod laidOut (by kernel_rfl) (of_decide_eq_true (by kernel_rfl)) k0 bel lt0) (trodAll_cons_mk (Below.trod laidOut (by kernel_rfl) (of_decide_eq_true (by kernel_rfl)) k1 bel lt1) (trodAll_cons_mk (shut_int Tryd.underlying3 w2) (trodAll_cons_mk (shut_int Tryd.underlying3 w3) trodAll_mk0)))), rfl, bel.frame _, fun h => by cases h⟩
theorem over : Rows.paintRightRow.holds Tryd.pinned (OpenSpec.ofChange Rows.paintRightSpec) :=
  OpenClaim.holds_of_wide 4 Tryd.f4 rfl rfl rfl rfl rfl rfl rfl ⟨rfl, rfl, rfl, rfl, rfl⟩ rfl rfl rfl rfl rfl (by kernel_rfl) Tryd.func4 (by kernel_rfl)
    (of_decide_eq_true (by kernel_rfl)) (by unfold Func.isWrapper; first | (rw [if_pos (by decide +kernel)]; kernel_rfl) | (rw [if_neg (by decide +kernel)]; exact ⟨rfl, rfl⟩))
    (fun os started H enc _ => lifted os started H enc)
theorem plain (f : FuncId) (fn : Func) (hf : Tryd.pinned.checked.prog.funcNamed "casement/casementlaw21.PaintRight" = some f) (hfn : Tryd.pinned.checked.prog.funcs[f]? = some fn) :
    false = Tryd.pinned.checked.prog.looks [] ∧ ∀ (j : Nat) t, fn.params[j]? = some t → Tryd.pinned.checked.prog.wantsStandIn t = false := by
  obtain rfl : f = 4 := Option.some.inj ((show Tryd.prog.funcNamed "casement/casementlaw21.PaintRight" = some 4 by kernel_rfl).symm.trans hf) |>.symm
  obtain rfl : fn = Tryd.f4 := (Option.some.inj (Tryd.func4.symm.trans hfn)).symm
  refine ⟨by kernel_rfl, fun j t ht => ?_⟩
  rw [show Tryd.f4.params = #[30, 30, 3, 3] from by kernel_rfl] at ht
  have hm : t ∈ [30, 30, 3, 3] := by simpa using Array.mem_of_getElem? ht
  have hall : ([30, 30, 3, 3].all fun u => !Tryd.prog.wantsStandIn u) = true := by kernel_rfl
  exact (show Tryd.prog.wantsStandIn t = false by simpa using List.all_eq_true.1 hall t hm)
theorem proved : Rows.PaintRightCardSaid :=
  Claim7.holds_tied_plain_at .later [] _ _ _ _ over (fun _ h => by cases h) (by kernel_rfl) (fun _ h => by cases h) paintRight_row_tie rfl ⟨rfl, rfl⟩ (by kernel_rfl) rfl plain (by kernel_rfl)
#print axioms proved
end Go.Proofs.YtaklapcbbdcdpaaDoor.paintRight
namespace Go.Proofs.YtaklapcbbdcdpaaDoor
/-- The card, under a short name, for the claim. -/
theorem paintRightCard_holds : Rows.PaintRightCardSaid := paintRight.proved
end Go.Proofs.YtaklapcbbdcdpaaDoor
