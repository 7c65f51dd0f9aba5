import Derived.Test.YtaklapcbbdcdpaaDoorYG
import Derived.Test.YtaklapcbbdcdpaaDoorRows
import Derived.Lib.LaidTab
import Derived.OpenShut
import Derived.MakeChecks
namespace Go.Proofs.YtaklapcbbdcdpaaDoor.Pt
open Go Go.RowKit Go.Proofs Go.Proofs.YtaklapcbbdcdpaaDoor.X
set_option linter.unusedVariables false
set_option maxRecDepth 100000
/-! UTF-8's tables, as the rows list them, are what the evaluator reads -/
theorem gFirst : Tryd.prog.globalNamed "unicode/utf8.first" = some 0 := by kernel_rfl
theorem gAcc : Tryd.prog.globalNamed "unicode/utf8.acceptRanges" = some 1 := by kernel_rfl
theorem tFirst : (Tryd.prog.globals[0]?).map (·.type) = some 110 := by kernel_rfl
theorem tAcc : (Tryd.prog.globals[1]?).map (·.type) = some 113 := by kernel_rfl
theorem c5 : Tryd.prog.cellsOf 5 = 1 := by kernel_rfl
theorem c110 : Tryd.prog.cellsOf 110 = 256 := by kernel_rfl
theorem c112 : Tryd.prog.cellsOf 112 = 2 := by kernel_rfl
theorem c113 : Tryd.prog.cellsOf 113 = 32 := by kernel_rfl
theorem first_eq : Rows.laid_unicode_utf8_first = (Lib.tabData .u8 utf8F : DataW Unit) := by kernel_rfl
def accD (l : List (Int × Int)) : DataW Unit := .agg (l.map fun p => .agg [.lit (.int .u8 p.1), .lit (.int .u8 p.2)])
theorem acc_eq : (Rows.laid_unicode_utf8_acceptRanges : DataW Unit) = accD utf8A := by kernel_rfl
abbrev pv (p : Int × Int) : List Value := [.int .u8 p.1, .int .u8 p.2]
theorem pair_of {H : Type} {enc : TypeId × Value → H} {w : World} {base : Nat} {sp : Nat → Bool} {held : Bool} {fuel : Nat} {c : List Value} {x : DataW H × List MemPlace} {p : Int × Int}
    (h : DataW.trod enc Tryd.prog w base sp held fuel 112 c = some x) (hx : x.1 = .agg [.lit (.int .u8 p.1), .lit (.int .u8 p.2)]) : c = pv p := by
  obtain ⟨xs, n, _, rfl, hl, hlen, hf⟩ := DataW.trod_struct Tryd.underlying112 h
  rw [c112] at hl
  match c, hl, xs, hlen, hx, hf with
  | [u, v], _, [x0, x1], _, hx, hf =>
    have e0 : DataW.trod enc Tryd.prog w base sp held n 5 (([u, v].drop 0).take (Tryd.prog.cellsOf 5)) = some x0 := hf 0 _ rfl
    have e1 : DataW.trod enc Tryd.prog w base sp held n 5 (([u, v].drop 1).take (Tryd.prog.cellsOf 5)) = some x1 := hf 1 _ rfl
    rw [c5] at e0 e1
    obtain ⟨n0, k1, k2, _⟩ := DataW.trod_int Tryd.underlying5 e0
    obtain ⟨n1, j1, j2, _⟩ := DataW.trod_int Tryd.underlying5 e1
    subst k2 j2
    simp only [List.map_cons, List.map_nil, DataW.agg.injEq, List.cons.injEq, DataW.lit.injEq, Lit.int.injEq, true_and, and_true] at hx
    simp at k1 j1
    rw [k1, j1, hx.1, hx.2]
theorem pairs_of : ∀ (l : List (Int × Int)) (cs : List Value), cs.length = 2 * l.length → (∀ (i : Nat) p, l[i]? = some p → (cs.drop (i * 2)).take 2 = pv p) → cs = l.flatMap pv
  | [], cs, hl, _ => by simpa using hl
  | p :: l, cs, hl, h => by
    have h0 := h 0 p rfl
    have ih := pairs_of l (cs.drop 2) (by simp at hl ⊢; omega) (fun i q hq => by
      have := h (i + 1) q (by simpa using hq)
      rw [List.drop_drop, ← this]
      congr 2; omega)
    rw [List.flatMap_cons, ← ih, ← h0]
    simp
theorem lits_ints {w : World} {A : Nat → Prop} (k : IntKind) : ∀ zs : List Int, LR (R1 w A) (zs.flatMap (Sh.int k).dv) (zs.map fun z => Value.int k z)
  | [] => trivial
  | z :: zs => ⟨.lit rfl, lits_ints k zs⟩
theorem lits_pairs {w : World} {A : Nat → Prop} : ∀ zs : List (Int × Int), LR (R1 w A) (zs.flatMap (Sh.pair (.int .u8) (.int .u8)).dv) (zs.flatMap pv)
  | [] => trivial
  | z :: zs => ⟨.lit rfl, .lit rfl, lits_pairs zs⟩
theorem blk_lt {w : World} {b j : Nat} {v : Value} (h : w.cell? ⟨b, j, none⟩ = some v) : b < w.heap.size := by
  rcases Nat.lt_or_ge b w.heap.size with h1 | h1
  · exact h1
  · simp [World.cell?, Array.getElem?_eq_none h1] at h
theorem vp_of {w : World} {g : Nat} {s : Sh} {xs : List s.T} {us : List Value} (hx : 0 < xs.length) (hu : 0 < us.length) (hL : ∀ A : Nat → Prop, LR (R1 w A) (xs.flatMap s.dv) us) (hc : ∀ (j : Nat) v, us[j]? = some v → w.cell? ⟨g, j, none⟩ = some v) :
    V0 (fun _ => False) [] (fun _ => none) w (.vp s xs 0 0) (.pointer (some ⟨g, 0, none⟩)) := by
  refine ⟨hx, ⟨g, 0, none⟩, xs.length, xs.length, R1.mk (Nat.le_refl _) (hL _) (.inr ⟨⟨g, 0, none⟩, rfl, ⟨blk_lt (hc 0 _ (List.getElem?_eq_getElem hu)), ?_, fun h => h⟩, ⟨fun j v hj => ?_⟩⟩), ?_⟩
  · rintro ⟨l, p, hl, _⟩
    simp [Heap.at, AO.isLive] at hl
  · rw [add_off, Nat.zero_add]; exact hc j v hj
  · rw [add_off, Nat.zero_mul]
theorem glob_of {W : World} (h : laidMetH Tryd.prog [("unicode/utf8.acceptRanges", Rows.laid_unicode_utf8_acceptRanges), ("unicode/utf8.first", Rows.laid_unicode_utf8_first)] W) : Glob (fun _ => False) [] (fun _ => none) W := by
  rw [MakeChecks.laidMetH_plain _ _ _ (by kernel_rfl)] at h
  obtain ⟨ps, ⟨g1, t1, cs1, f1, p1, q1, hg1, ht1, hv1, hd1, ⟨g0, t0, cs0, f0, p0, q0, hg0, ht0, hv0, hd0, _, _⟩, _⟩, _, _⟩ := h
  obtain rfl := Option.some.inj (gAcc.symm.trans hg1)
  obtain rfl := Option.some.inj (gFirst.symm.trans hg0)
  obtain rfl := Option.some.inj (tAcc.symm.trans ht1)
  obtain rfl := Option.some.inj (tFirst.symm.trans ht0)
  have e0 : cs0.toList = utf8F.map fun z => Value.int .u8 z := by
    rw [first_eq] at hd0
    exact Lib.cells_of_tab Tryd.underlying110 Tryd.underlying5 c5 c110 hd0
  have e1 : cs1.toList = utf8A.flatMap pv := by
    rw [acc_eq] at hd1
    obtain ⟨xs, m, _, hx, hl, hn, hel⟩ := DataW.trod_array Tryd.underlying113 hd1
    simp only [accD, Prod.mk.injEq, DataW.agg.injEq] at hx
    rw [c113] at hl
    refine pairs_of utf8A _ (hl.trans rfl) fun i p hp => ?_
    have hi : i < 16 := (List.getElem?_eq_some_iff.1 hp).1
    have h1 := hel i hi
    rw [c112] at h1
    have hxi : (xs.map (·.1))[i]? = some (DataW.agg [.lit (.int .u8 p.1), .lit (.int .u8 p.2)]) := by
      rw [← hx.1, List.getElem?_map, hp]; rfl
    rw [List.getElem?_map, Option.map_eq_some_iff] at hxi
    obtain ⟨x, hx1, hx2⟩ := hxi
    rw [hx1] at h1
    exact pair_of h1 hx2
  have k0 : ∀ (j : Nat) v, (utf8F.map fun z => Value.int .u8 z)[j]? = some v → W.cell? ⟨0, j, none⟩ = some v := fun j v hj => by
    rw [World.var?_cell hg0 hv0 j, ← Array.getElem?_toList, e0]; exact hj
  have k1 : ∀ (j : Nat) v, (utf8A.flatMap pv)[j]? = some v → W.cell? ⟨1, j, none⟩ = some v := fun j v hj => by
    rw [World.var?_cell hg1 hv1 j, ← Array.getElem?_toList, e1]; exact hj
  intro g x hg
  match g, hg with
  | 0, hg =>
    obtain rfl : (⟨.int .u8, utf8F⟩ : (s : Sh) × List s.T) = x := Option.some.inj hg
    exact vp_of (by rw [show utf8F.length = 256 by kernel_rfl]; omega) (by rw [List.length_map, show utf8F.length = 256 by kernel_rfl]; omega) (fun A => lits_ints .u8 utf8F) k0
  | 1, hg =>
    obtain rfl : (⟨.pair (.int .u8) (.int .u8), utf8A⟩ : (s : Sh) × List s.T) = x := Option.some.inj hg
    exact vp_of (by rw [show utf8A.length = 16 by kernel_rfl]; omega) (by rw [show (utf8A.flatMap pv).length = 32 by kernel_rfl]; omega) (fun A => lits_pairs utf8A) k1
  | n + 2, hg =>
    exact absurd hg (by simp [globs, globAt])
end Go.Proofs.YtaklapcbbdcdpaaDoor.Pt
