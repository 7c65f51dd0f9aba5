import Derived.Test.YthllpilgfipkpaaRF
namespace Go.Proofs.Ythllpilgfipkpaa.Ring
open Go Go.RowKit Go.Proofs Go.Proofs.Ythllpilgfipkpaa.X
set_option linter.unusedVariables false
noncomputable section
/-! the law of plays, as the evaluator runs it -/
abbrev F6 : Fm := lawF [rt 0 i64, rt 1 (.deep (.sl (.pair is is)))] (anF Try.f6 [⟨[rt 5 (.ptr 0), rt 6 (.ptr 2), rt 34 (.deep (.sl (.pair is is))), rt 35 i64, rt 36 i64], iring ++ [.cells 49 [.deep R49]]⟩, ⟨[rt 5 (.ptr 0), rt 6 (.ptr 2), rt 22 (.own 3 is), rt 166 i64, rt 167 i64], iring ++ [.cells 49 [.deep R49], .row 3 is]⟩])
def f6 (k : Nat) : F6.pre.T → Option F6.post.T := runFn Try.prog ti [Fm.entry Try.prog F25 25 (f25 k), Fm.entry Try.prog F13 13 (f13 k), Fm.entry Try.prog F31 31 (f31 k), Fm.entry Try.prog F26 26 (f26 k), Fm.entry Try.prog F32 32 (f32 k), Fm.entry Try.prog F33 33 (f33 k), Fm.entry Try.prog F34 34 (f34 k), Fm.entry Try.prog F35 35 (f35 k), Fm.entry Try.prog F36 36 (f36 k), Fm.entry Try.prog F27 27 (f27 k), Fm.entry Try.prog F28 28 (f28 k), Fm.entry Try.prog F28 29 (f29 k), Fm.entry Try.prog F30 30 (f30 k), Fm.entry Try.prog F37 37 (f37 k)] F6 Try.f6 k
theorem law6 (k : Nat) : ∀ e ∈ [Fm.entry Try.prog F25 25 (f25 k), Fm.entry Try.prog F13 13 (f13 k), Fm.entry Try.prog F31 31 (f31 k), Fm.entry Try.prog F26 26 (f26 k), Fm.entry Try.prog F32 32 (f32 k), Fm.entry Try.prog F33 33 (f33 k), Fm.entry Try.prog F34 34 (f34 k), Fm.entry Try.prog F35 35 (f35 k), Fm.entry Try.prog F36 36 (f36 k), Fm.entry Try.prog F27 27 (f27 k), Fm.entry Try.prog F28 28 (f28 k), Fm.entry Try.prog F28 29 (f29 k), Fm.entry Try.prog F30 30 (f30 k), Fm.entry Try.prog F37 37 (f37 k)], EGood Try.prog e := (goods_cons (g25 k) (goods_cons (g13 k) (goods_cons (g31 k) (goods_cons (g26 k) (goods_cons (g32 k) (goods_cons (g33 k) (goods_cons (g34 k) (goods_cons (g35 k) (goods_cons (g36 k) (goods_cons (g27 k) (goods_cons (g28 k) (goods_cons (g29 k) (goods_cons (g30 k) (goods_cons (g37 k) goods_nil))))))))))))))
end
end Go.Proofs.Ythllpilgfipkpaa.Ring
