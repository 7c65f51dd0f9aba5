/- One pane of plain cells is painted where it lies: PaintOne answers true for every input and its input reads as it did. Conditions: none beyond the row's own. -/
import Derived.Test.YtaklapcbbdcdpaaDoorRows
import Derived.Test.YtaklapcbbdcdpaaDoorCards
import Derived.Test.YtaklapcbbdcdpaaDoorTie
import Derived.Test.YtaklapcbbdcdpaaDoorPQ
import Derived.Test.YtaklapcbbdcdpaaDoorPG
import Derived.Handed
import Derived.Lay
import Derived.SevenTiedAt
namespace Go.Proofs.YtaklapcbbdcdpaaDoor.paintOne
open Go.ChangeShapes Go.WideShapes Go.ChangeAt Go.RowKit Go.Proofs.YtaklapcbbdcdpaaDoor.X Go.Proofs.YtaklapcbbdcdpaaDoor.Pt
open Go.ChangeMaps (open_string shut_string)
set_option linter.unusedVariables false
theorem own : ownKnob Tryd.prog.godebug = none := by kernel_rfl
abbrev laid : List (String × DataW Unit) := [("unicode/utf8.acceptRanges", Rows.laid_unicode_utf8_acceptRanges), ("unicode/utf8.first", Rows.laid_unicode_utf8_first)]
theorem laidOut : laidOutB Tryd.prog = true := by kernel_rfl
set_option maxRecDepth 100000 in
set_option maxHeartbeats 2000000 in
theorem lifted (os : Os) (started : os.Started) (H : Type) (enc : TypeId × Value → H) :
    ReturnsInHanded {} Tryd.checked os 5 .any (fun w args => (Rows.paintOneSpec.pre enc Tryd.prog Tryd.f5 [] false w args ∧ laidMetH Tryd.prog laid w) ∧ sizedMet enc Tryd.prog Tryd.f5 (OpenSpec.ofChange Rows.paintOneSpec) false w args)
      (Rows.paintOneSpec.post enc Tryd.prog Tryd.f5 false true false false) := by
  refine returnsInHanded_of_change_and (C := Tryd.checked) (X := fun w _ => laidMetH Tryd.prog laid w) (fun _ _ _ hh h => h.of_heap hh) own started (by kernel_rfl) Tryd.func5
    (ChangeSpec.witness_shaped (enc := enc) (C := Tryd.checked) (os := os) (X := fun w _ => laidMetH Tryd.prog laid w) false (World.laidAll Tryd.prog os laid) #[.int .i64 0, .int .i64 0, .agg #[.int .i64 0, .int .i64 0, .int .i64 0, .int .i64 0], .slice none 0 0] 8 (World.laidAll_os _ _ _)
      (World.shaped_of_ZipB (by kernel_rfl) (by kernel_rfl)) (by kernel_rfl) (by kernel_rfl) (by kernel_rfl)
      (by rw [MakeChecks.laidMetH_plain _ _ _ (by kernel_rfl)]; exact laidMet_laidAll _ (by kernel_rfl) (by kernel_rfl))) ?_
  intro W base args ds gs before hval0 hW _ hsz0 hL _
  have hsz : (DataW.weightsEach Tryd.prog (Tryd.f5.params.toList ++ Rows.paintOneSpec.plain.varTypes Tryd.prog) (ds ++ gs)).all (· ≤ reachBytes) = true := hsz0
  have hval : ∀ (j : Nat) t v, Tryd.f5.params[j]? = some t → args[j]? = some v → Value.okWide Tryd.prog W .any base t v := hval0
  have hW' := hW
  obtain ⟨p, q, hA0, hV, rfl, hfz, hnd⟩ := hW
  have hA : DataW.TrodAll enc Tryd.prog W 0 (fun _ => true) true Tryd.f5.params.toList args.toList ds p := hA0
  rw [show Tryd.f5.params = #[3, 3, 25, 49] from by kernel_rfl] at hA hval hsz
  obtain ⟨v0, vs0, d0, ds0, p0, q0, hargs, rfl, rfl, h0, r0⟩ := trodAll_cons hA
  obtain ⟨v1, vs1, d1, ds1, p1, q1, rfl, rfl, rfl, h1, r1⟩ := trodAll_cons r0
  obtain ⟨v2, vs2, d2, ds2, p2, q2, rfl, rfl, rfl, h2, r2⟩ := trodAll_cons r1
  obtain ⟨v3, vs3, d3, ds3, p3, q3, rfl, rfl, rfl, h3, r3⟩ := trodAll_cons r2
  obtain ⟨rfl, rfl, rfl⟩ := trodAll_nil r3
  obtain rfl : args = #[v0, v1, v2, v3] := by cases args; simp_all
  obtain ⟨rfl, rfl⟩ := trodVars_none hV
  obtain ⟨a0, rfl, rfl, rfl, w0⟩ := open_int Tryd.underlying3 (hval 0 3 v0 rfl rfl) h0
  obtain ⟨a1, rfl, rfl, rfl, w1⟩ := open_int Tryd.underlying3 (hval 1 3 v1 rfl rfl) h1
  have k2 := h2
  have lt2 : ∀ x ∈ p2, x.block < W.heap.size := by obtain ⟨m, hm⟩ := k2; exact DataW.trod_lt m _ _ _ hm
  obtain ⟨x2, K2, O2⟩ := Opx.arg (Opx.struct Tryd.underlying25 (FOx.cons rfl (by kernel_rfl) (Opx.int Tryd.underlying3) (FOx.cons rfl (by kernel_rfl) (Opx.int Tryd.underlying3) (FOx.cons rfl (by kernel_rfl) (Opx.int Tryd.underlying3) (FOx.last rfl (by kernel_rfl) (by kernel_rfl) (Opx.int Tryd.underlying3)))))) hsz (j := 2) (t := 25) rfl rfl h2
  have k3 := h3
  have lt3 : ∀ x ∈ p3, x.block < W.heap.size := by obtain ⟨m, hm⟩ := k3; exact DataW.trod_lt m _ _ _ hm
  obtain ⟨x3, K3, O3, N3, Q3⟩ := Opx.arg (Opx.slice (s := .int .u8) Tryd.underlying49 (by kernel_rfl) (Opx.int Tryd.underlying5)) hsz (j := 3) (t := 49) rfl rfl h3
  obtain ⟨a3, len3, cap3, rfl⟩ := okWide_slice Tryd.underlying49 (hval 3 49 v3 rfl rfl)
  have hb3 : x3.length * 1 ≤ 140737488351232 := by
    rw [show Tryd.prog.bytesOf 5 = 1 from by kernel_rfl, show reachBytes = 140737488351232 from rfl] at N3; exact N3
  clear hA0 hval0 hsz0 hsz
  refine (law_ok (rs := [⟨0, false, [.deep (.int .i64)]⟩, ⟨1, false, [.deep (.int .i64)]⟩, ⟨2, true, [.deep (.pair (.int .i64) (.pair (.int .i64) (.pair (.int .i64) (.int .i64))))]⟩, ⟨3, false, [.deep (.sl (.int .u8))]⟩]) (nf := 5) (g := ((a0, ()), (a1, ()), (x2, ()), (x3, ()), ())) tiok mixed (law5 _) Tryd.func5 (Pt.paintOne a0 a1 x2 x3 w0 w1 O2 Q3 hb3) (w := W) (args := #[.int .i64 a0, .int .i64 a1, v2, .slice a3 len3 cap3]) (fun t => ?_) rfl (glob_of hL)).mono fun e W' ⟨he, bel⟩ => ?_
  · match t with
    | 0 => exact ⟨rfl, rfl⟩
    | 1 => exact ⟨rfl, rfl⟩
    | 2 => exact agg_arg (s := .pair (.int .i64) (.pair (.int .i64) (.pair (.int .i64) (.int .i64)))) (by decide) K2
    | 3 => exact vsl_arg (s := .int .u8) (xs := x3) rfl K3
    | t + 4 => trivial
  subst he
  exact ⟨_, rfl, _, _, _, [], _, [], hW', trodAll_mk1 (shut_bool Tryd.underlying4 _), (trodAll_cons_mk (shut_int Tryd.underlying3 w0) (trodAll_cons_mk (shut_int Tryd.underlying3 w1) (trodAll_cons_mk (Below.trod laidOut (by kernel_rfl) (of_decide_eq_true (by kernel_rfl)) k2 bel lt2) (trodAll_cons_mk (Below.trod laidOut (by kernel_rfl) (of_decide_eq_true (by kernel_rfl)) k3 bel lt3) trodAll_mk0)))), rfl, bel.frame _, fun h => by cases h⟩
theorem over : Rows.paintOneRow.holds Tryd.pinned (OpenSpec.ofChange Rows.paintOneSpec) :=
  OpenClaim.holds_of_wide 5 Tryd.f5 rfl rfl rfl rfl rfl rfl rfl ⟨rfl, rfl, rfl, rfl, rfl⟩ rfl rfl rfl rfl rfl (by kernel_rfl) Tryd.func5 (by kernel_rfl)
    (of_decide_eq_true (by kernel_rfl)) (by unfold Func.isWrapper; first | (rw [if_pos (by decide +kernel)]; kernel_rfl) | (rw [if_neg (by decide +kernel)]; exact ⟨rfl, rfl⟩))
    (fun os started H enc _ => lifted os started H enc)
theorem plain (f : FuncId) (fn : Func) (hf : Tryd.pinned.checked.prog.funcNamed "casement/casementlaw21.PaintOne" = some f) (hfn : Tryd.pinned.checked.prog.funcs[f]? = some fn) :
    false = Tryd.pinned.checked.prog.looks [] ∧ ∀ (j : Nat) t, fn.params[j]? = some t → Tryd.pinned.checked.prog.wantsStandIn t = false := by
  obtain rfl : f = 5 := Option.some.inj ((show Tryd.prog.funcNamed "casement/casementlaw21.PaintOne" = some 5 by kernel_rfl).symm.trans hf) |>.symm
  obtain rfl : fn = Tryd.f5 := (Option.some.inj (Tryd.func5.symm.trans hfn)).symm
  refine ⟨by kernel_rfl, fun j t ht => ?_⟩
  rw [show Tryd.f5.params = #[3, 3, 25, 49] from by kernel_rfl] at ht
  have hm : t ∈ [3, 3, 25, 49] := by simpa using Array.mem_of_getElem? ht
  have hall : ([3, 3, 25, 49].all fun u => !Tryd.prog.wantsStandIn u) = true := by kernel_rfl
  exact (show Tryd.prog.wantsStandIn t = false by simpa using List.all_eq_true.1 hall t hm)
theorem proved : Rows.PaintOneCardSaid :=
  Claim7.holds_tied_plain_at .later [] _ _ _ _ over (fun _ h => by cases h) (by kernel_rfl) (fun _ h => by cases h) paintOne_row_tie rfl ⟨rfl, rfl⟩ (by kernel_rfl) rfl plain (by kernel_rfl)
#print axioms proved
end Go.Proofs.YtaklapcbbdcdpaaDoor.paintOne
namespace Go.Proofs.YtaklapcbbdcdpaaDoor
/-- The card, under a short name, for the claim. -/
theorem paintOneCard_holds : Rows.PaintOneCardSaid := paintOne.proved
end Go.Proofs.YtaklapcbbdcdpaaDoor
