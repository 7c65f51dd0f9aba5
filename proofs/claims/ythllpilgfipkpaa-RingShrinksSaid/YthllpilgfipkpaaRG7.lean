import Derived.Test.YthllpilgfipkpaaRF
namespace Go.Proofs.Ythllpilgfipkpaa.Ring
open Go Go.RowKit Go.Proofs Go.Proofs.Ythllpilgfipkpaa.X
set_option linter.unusedVariables false
noncomputable section
/-! the law of shrinking, as the evaluator runs it -/
abbrev F7 : Fm := lawF [rt 0 dints, rt 1 i64, rt 2 i64] (anF Try.f7 [⟨[rt 0 dints, rt 1 i64, rt 2 i64, rt 7 (.ptr 0), rt 27 dints, rt 28 i64, rt 29 i64], iring⟩])
def f7 (k : Nat) : F7.pre.T → Option F7.post.T := runFn Try.prog ti [Fm.entry Try.prog F25 25 (f25 k), Fm.entry Try.prog F13 13 (f13 k), Fm.entry Try.prog F26 26 (f26 k), Fm.entry Try.prog F35 35 (f35 k), Fm.entry Try.prog F30 30 (f30 k), Fm.entry Try.prog F37 37 (f37 k), Fm.entry Try.prog F28 28 (f28 k), Fm.entry Try.prog F28 29 (f29 k)] F7 Try.f7 k
theorem law7 (k : Nat) : ∀ e ∈ [Fm.entry Try.prog F25 25 (f25 k), Fm.entry Try.prog F13 13 (f13 k), Fm.entry Try.prog F26 26 (f26 k), Fm.entry Try.prog F35 35 (f35 k), Fm.entry Try.prog F30 30 (f30 k), Fm.entry Try.prog F37 37 (f37 k), Fm.entry Try.prog F28 28 (f28 k), Fm.entry Try.prog F28 29 (f29 k)], EGood Try.prog e := (goods_cons (g25 k) (goods_cons (g13 k) (goods_cons (g26 k) (goods_cons (g35 k) (goods_cons (g30 k) (goods_cons (g37 k) (goods_cons (g28 k) (goods_cons (g29 k) goods_nil))))))))
end
end Go.Proofs.Ythllpilgfipkpaa.Ring
