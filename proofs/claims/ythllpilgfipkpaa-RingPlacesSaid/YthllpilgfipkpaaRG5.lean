import Derived.Test.YthllpilgfipkpaaRF
namespace Go.Proofs.Ythllpilgfipkpaa.Ring
open Go Go.RowKit Go.Proofs Go.Proofs.Ythllpilgfipkpaa.X
set_option linter.unusedVariables false
noncomputable section
/-! the law of places, as the evaluator runs it -/
abbrev F5 : Fm := lawF [rt 0 i64, rt 1 dints, rt 2 i64] (anF Try.f5 [⟨[rt 2 i64, rt 7 (.ptr 0), rt 26 dints, rt 27 i64, rt 28 i64], iring⟩, ⟨[rt 2 i64, rt 7 (.ptr 0), rt 12 (.own 2 is), rt 71 i64, rt 72 i64], iring ++ [.row 3 is]⟩])
def f5 (k : Nat) : F5.pre.T → Option F5.post.T := runFn Try.prog ti [Fm.entry Try.prog F25 25 (f25 k), Fm.entry Try.prog F13 13 (f13 k), Fm.entry Try.prog F26 26 (f26 k), Fm.entry Try.prog F28 28 (f28 k), Fm.entry Try.prog F27 27 (f27 k), Fm.entry Try.prog F28 29 (f29 k), Fm.entry Try.prog F30 30 (f30 k)] F5 Try.f5 k
theorem law5 (k : Nat) : ∀ e ∈ [Fm.entry Try.prog F25 25 (f25 k), Fm.entry Try.prog F13 13 (f13 k), Fm.entry Try.prog F26 26 (f26 k), Fm.entry Try.prog F28 28 (f28 k), Fm.entry Try.prog F27 27 (f27 k), Fm.entry Try.prog F28 29 (f29 k), Fm.entry Try.prog F30 30 (f30 k)], EGood Try.prog e := (goods_cons (g25 k) (goods_cons (g13 k) (goods_cons (g26 k) (goods_cons (g28 k) (goods_cons (g27 k) (goods_cons (g29 k) (goods_cons (g30 k) goods_nil)))))))
end
end Go.Proofs.Ythllpilgfipkpaa.Ring
