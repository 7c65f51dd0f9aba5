import Derived.Test.YtaklapcbbdcdpaaDoorPLO
namespace Go.Proofs.YtaklapcbbdcdpaaDoor.Pt
open Go Go.RowKit Go.Proofs Go.Proofs.YtaklapcbbdcdpaaDoor.X
set_option linter.unusedVariables false
noncomputable section
/-! PaintOne, for the values that its row hands in -/
theorem law5 (k : Nat) : ∀ e ∈ ([Fm.entry Tryd.prog F7 7 (f7 24), Fm.entry Tryd.prog F17 17 (f17 k), Fm.entry Tryd.prog F8 8 (f8 k), Fm.entry Tryd.prog F18 18 (f18 k)] : List (Entry Tryd.prog)), EGood Tryd.prog e := (goods_cons (g7 24) (goods_cons (g17 k) (goods_cons (g8 k) (goods_cons (g18 k) goods_nil))))
theorem paintOne {p1 p2 p3 p4 : Prop} (a b : Int) (r : R4) (t : List Int) (_ : p1) (_ : p2) (_ : p3) (_ : p4) (hl : t.length * 1 ≤ 140737488351232) : f5 (t.length + 300) (((a, ()), (b, ()), (r, ()), (t, ()), ()), ()) = some (((true, ()), ()), ()) := by
  obtain ⟨c, d, e, g⟩ := r
  exact law_one (t.length + 300) a b c d e g t (by omega) (by omega) (by omega)
end
end Go.Proofs.YtaklapcbbdcdpaaDoor.Pt
