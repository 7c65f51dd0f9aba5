/- Bytes in pieces are read piece by piece as said: GlyphFeeds answers true for every input of bulk at most 1048576 and its input reads as it did. Conditions: none beyond the row's own. -/
import Derived.Test.YtjdbamenbgfcjaaDoorRows
import Derived.Test.YtjdbamenbgfcjaaDoorCards
import Derived.Test.YtjdbamenbgfcjaaDoorTie
import Derived.Test.YtjdbamenbgfcjaaDoorGW
import Derived.Test.YtjdbamenbgfcjaaDoorGG
import Derived.Test.YtjdbamenbgfcjaaDoorGU
import Derived.Deep.DeepHandedRow
import Derived.Stop.Joined
import Derived.Lay
import Derived.SevenTiedAt
namespace Go.Proofs.YtjdbamenbgfcjaaDoor.glyphFeeds
open Go.ChangeShapes Go.WideShapes Go.ChangeAt Go.RowKit Go.Proofs.YtjdbamenbgfcjaaDoor.X Go.Proofs.YtjdbamenbgfcjaaDoor.Gl
open Go.ChangeMaps (open_string shut_string)
set_option linter.unusedVariables false
theorem own : ownKnob Tryd.prog.godebug = none := by kernel_rfl
abbrev laid : List (String × DataW Unit) := [("unicode/utf8.acceptRanges", Rows.laid_unicode_utf8_acceptRanges), ("unicode/utf8.first", Rows.laid_unicode_utf8_first)]
theorem laidOut : laidOutB Tryd.prog = true := by kernel_rfl
set_option maxRecDepth 100000 in
set_option maxHeartbeats 2000000 in
theorem contract (H : Type) (enc : TypeId × Value → H) (W : World) (base : Nat) (args : Array Value) (ds gs : List (DataW H)) (before : List MemPlace)
    (hval0 : ∀ (j : Nat) t v, Tryd.f4.params[j]? = some t → args[j]? = some v → Value.okWide Tryd.prog W .any base t v)
    (hW : DataW.Whole enc Tryd.prog Tryd.f4.params.toList Rows.glyphFeedsSpec.vars false W args.toList ds gs before) (hcond : Rows.uptoSmall H (ds ++ gs) = true)
    (hsz0 : (DataW.weightsEach Tryd.prog (Tryd.f4.params.toList ++ Rows.glyphFeedsSpec.plain.varTypes Tryd.prog) (ds ++ gs)).all (· ≤ reachBytes) = true) (hL : laidMetH Tryd.prog laid W) :
    Calls Tryd.prog 4 args W fun e W' => ∃ v, e = .returned v ∧ Rows.glyphFeedsSpec.post enc Tryd.prog Tryd.f4 false true false false W args v W' := by
  have hsz : (DataW.weightsEach Tryd.prog (Tryd.f4.params.toList ++ Rows.glyphFeedsSpec.plain.varTypes Tryd.prog) (ds ++ gs)).all (· ≤ reachBytes) = true := hsz0
  have hval : ∀ (j : Nat) t v, Tryd.f4.params[j]? = some t → args[j]? = some v → Value.okWide Tryd.prog W .any base t v := hval0
  have hW' := hW
  obtain ⟨p, q, hA0, hV, rfl, hfz, hnd⟩ := hW
  have hA : DataW.TrodAll enc Tryd.prog W 0 (fun _ => true) true Tryd.f4.params.toList args.toList ds p := hA0
  rw [show Tryd.f4.params = #[28] from by kernel_rfl] at hA hval hsz
  obtain ⟨v0, vs0, d0, ds0, p0, q0, hargs, rfl, rfl, h0, r0⟩ := trodAll_cons hA
  obtain ⟨rfl, rfl, rfl⟩ := trodAll_nil r0
  obtain rfl : args = #[v0] := by cases args; simp_all
  obtain ⟨rfl, rfl⟩ := trodVars_none hV
  have k0 := h0
  have lt0 : ∀ x ∈ p0, x.block < W.heap.size := by obtain ⟨m, hm⟩ := k0; exact DataW.trod_lt m _ _ _ hm
  obtain ⟨x0, K0, O0, N0, Q0⟩ := Opx.arg (Opx.slice (s := .sl (.int .u8)) Tryd.underlying28 (by kernel_rfl) (Opx.slice (s := .int .u8) Tryd.underlying22 (by kernel_rfl) (Opx.int Tryd.underlying5))) hsz (j := 0) (t := 28) rfl rfl h0
  obtain ⟨a0, len0, cap0, rfl⟩ := okWide_slice Tryd.underlying28 (hval 0 28 v0 rfl rfl)
  have hb0 : x0.length * 24 ≤ 140737488351232 := by
    rw [show Tryd.prog.bytesOf 22 = 24 from by kernel_rfl, show reachBytes = 140737488351232 from rfl] at N0; exact N0
  have bu0 : x0.length ≤ 1048576 := arg_bulk Tryd.underlying28 k0 K0 (bulk_of hcond (by simp))
  have rb0 := rows_bulk Tryd.underlying28 Tryd.underlying22 (by kernel_rfl) k0 K0 (bulk_of hcond (by simp))
  clear hA0 hval0 hsz0 hsz
  refine (law_ok (rs := [⟨0, false, [.deep (.sl (.sl (.int .u8)))]⟩]) (nf := 4) (g := ((x0, ()), ())) tiok mixed (law4 _) Tryd.func4 (Gl.glyphFeeds x0 Q0 bu0 rb0) (w := W) (args := #[.slice a0 len0 cap0]) (fun t => ?_) rfl (glob_of hL)).mono fun e W' ⟨he, bel⟩ => ?_
  · match t with
    | 0 => exact vsl_arg (s := .sl (.int .u8)) (xs := x0) rfl K0
    | t + 1 => trivial
  subst he
  exact ⟨_, rfl, _, _, _, [], _, [], hW', trodAll_mk1 (shut_bool Tryd.underlying4 _), (trodAll_cons_mk (Below.trod laidOut (by kernel_rfl) (of_decide_eq_true (by kernel_rfl)) k0 bel lt0) trodAll_mk0), rfl, bel.frame _, fun h => by cases h⟩
theorem laid_met (os : Os) (args : Array Value) : laidMetH Tryd.prog laid ((World.laidAll Tryd.prog os laid).forCall (fun _ _ => 0) ⟨#[], args, []⟩).memory := by
  rw [MakeChecks.laidMetH_plain _ _ _ (by kernel_rfl)]; exact laidMet_laidAll _ (by kernel_rfl) (by kernel_rfl)
theorem reads (os : Os) {H : Type} (enc : TypeId × Value → H) : ∃ places, DataW.whole enc Tryd.prog ((World.laidAll Tryd.prog os laid).forCall (fun _ _ => 0) ⟨#[], #[.slice none 0 0], []⟩).memory Tryd.f4.params.toList Rows.glyphFeedsSpec.vars false #[.slice none 0 0].toList 8 = some ([.nil], [], places) :=
  ⟨[], by kernel_rfl⟩
set_option maxRecDepth 100000 in
set_option maxHeartbeats 2000000 in
theorem lifted (os : Os) (started : os.Started) (H : Type) (enc : TypeId × Value → H) (F : Stop.Interp) :
    ReturnsInHanded {} Tryd.checked os 4 .any ((Rows.OpenSpec.upto Rows.glyphFeedsSpec).preRow enc Tryd.prog Tryd.f4 Rows.glyphFeedsUptoRow.domain false Rows.glyphFeedsUptoRow.laid) (((Rows.OpenSpec.upto Rows.glyphFeedsSpec).at F).post enc Tryd.prog Tryd.f4 false true false false) := by
  obtain ⟨places, hx⟩ := reads os enc
  refine returnsInHanded_of_row (C := Tryd.checked) (s := Rows.OpenSpec.upto Rows.glyphFeedsSpec) own started (by kernel_rfl) Tryd.func4
    (witness_row_at (enc := enc) (C := Tryd.checked) false (World.laidAll Tryd.prog os laid) #[.slice none 0 0] (World.laidAll_os _ _ _) (by kernel_rfl) (by kernel_rfl) (by kernel_rfl)
      (OpenSpec.preRow_of_cond 8 hx (by kernel_rfl) (fun k hk => by cases hk; kernel_rfl) (by kernel_rfl) (laid_met os _))) ?_
  intro W base args ds gs before hval hW _ hcond hsz hL _ _
  exact contract H enc W base args ds gs before hval hW (hcond _ rfl) hsz hL
theorem over : Rows.GlyphFeedsUptoSaid :=
  OpenClaim.holds_of_cond 4 Tryd.f4 rfl rfl rfl rfl rfl rfl rfl ⟨rfl, rfl, rfl, rfl, rfl⟩ rfl rfl rfl rfl rfl (by kernel_rfl) Tryd.func4 (by kernel_rfl)
    (of_decide_eq_true (by kernel_rfl)) (by unfold Func.isWrapper; first | (rw [if_pos (by decide +kernel)]; kernel_rfl) | (rw [if_neg (by decide +kernel)]; exact ⟨rfl, rfl⟩))
    (fun os started H enc _ F => by rw [OpenClaim.pre_eq_preRow]; exact lifted os started H enc F)
theorem plain (f : FuncId) (fn : Func) (hf : Tryd.pinned.checked.prog.funcNamed "casement/casementlaw01.GlyphFeeds" = some f) (hfn : Tryd.pinned.checked.prog.funcs[f]? = some fn) :
    false = Tryd.pinned.checked.prog.looks [] ∧ ∀ (j : Nat) t, fn.params[j]? = some t → Tryd.pinned.checked.prog.wantsStandIn t = false := by
  obtain rfl : f = 4 := Option.some.inj ((show Tryd.prog.funcNamed "casement/casementlaw01.GlyphFeeds" = some 4 by kernel_rfl).symm.trans hf) |>.symm
  obtain rfl : fn = Tryd.f4 := (Option.some.inj (Tryd.func4.symm.trans hfn)).symm
  refine ⟨by kernel_rfl, fun j t ht => ?_⟩
  rw [show Tryd.f4.params = #[28] from by kernel_rfl] at ht
  have hm : t ∈ [28] := by simpa using Array.mem_of_getElem? ht
  have hall : ([28].all fun u => !Tryd.prog.wantsStandIn u) = true := by kernel_rfl
  exact (show Tryd.prog.wantsStandIn t = false by simpa using List.all_eq_true.1 hall t hm)
theorem proved : Rows.GlyphFeedsUptoCardSaid :=
  Claim7.holds_tied_plain_at .later [] _ _ _ _ over (fun _ h => by cases h) (by kernel_rfl) (fun _ h => by cases h) glyphFeedsUpto_row_tie rfl ⟨rfl, rfl⟩ (by kernel_rfl) rfl plain (by kernel_rfl)
#print axioms proved
end Go.Proofs.YtjdbamenbgfcjaaDoor.glyphFeeds
namespace Go.Proofs.YtjdbamenbgfcjaaDoor
/-- The card, under a short name, for the claim. -/
theorem glyphFeedsUptoCard_holds : Rows.GlyphFeedsUptoCardSaid := glyphFeeds.proved
end Go.Proofs.YtjdbamenbgfcjaaDoor
