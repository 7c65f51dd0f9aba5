import Derived.Test.YthllpilgfipkpaaRF
namespace Go.Proofs.Ythllpilgfipkpaa.Ring
open Go Go.RowKit Go.Proofs Go.Proofs.Ythllpilgfipkpaa.X
set_option linter.unusedVariables false
noncomputable section
/-! a ring of slices, and the law of stacks, as the evaluator runs it -/
abbrev F19 : Fm := FNew 79 32 ints
def f19 (k : Nat) : F19.pre.T → Option F19.post.T := runFn Try.prog ti [Fm.entry Try.prog F45 45 (f45 k)] F19 Try.f19 k
theorem g19 (k : Nat) : EGood Try.prog (Fm.entry Try.prog F19 19 (f19 k)) := good tiok mixed (goods_cons (g45 k) goods_nil) Try.func19 (by kernel_rfl) (by kernel_rfl)
abbrev F47 : Fm := FPlace 79 32 ints
def f47 (k : Nat) : F47.pre.T → Option F47.post.T := runFn Try.prog ti [] F47 Try.f47 k
theorem g47 (k : Nat) : EGood Try.prog (Fm.entry Try.prog F47 47 (f47 k)) := good tiok mixed goods_nil Try.func47 (by kernel_rfl) (by kernel_rfl)
abbrev F20 : Fm := FPush 79 32 ints
def f20 (k : Nat) : F20.pre.T → Option F20.post.T := runFn Try.prog ti [Fm.entry Try.prog F47 47 (f47 k)] F20 Try.f20 k
theorem g20 (k : Nat) : EGood Try.prog (Fm.entry Try.prog F20 20 (f20 k)) := good tiok mixed (goods_cons (g47 k) goods_nil) Try.func20 (by kernel_rfl) (by kernel_rfl)
abbrev F48 : Fm := FAt 79 32 ints
def f48 (k : Nat) : F48.pre.T → Option F48.post.T := runFn Try.prog ti [Fm.entry Try.prog F47 47 (f47 k)] F48 Try.f48 k
theorem g48 (k : Nat) : EGood Try.prog (Fm.entry Try.prog F48 48 (f48 k)) := good tiok mixed (goods_cons (g47 k) goods_nil) Try.func48 (by kernel_rfl) (by kernel_rfl)
abbrev F21 : Fm := FPop 79 32 ints
def f21 (k : Nat) : F21.pre.T → Option F21.post.T := runFn Try.prog ti [Fm.entry Try.prog F48 48 (f48 k), Fm.entry Try.prog F47 47 (f47 k)] F21 Try.f21 k
theorem g21 (k : Nat) : EGood Try.prog (Fm.entry Try.prog F21 21 (f21 k)) := good tiok mixed (goods_cons (g48 k) (goods_cons (g47 k) goods_nil)) Try.func21 (by kernel_rfl) (by kernel_rfl)
abbrev F22 : Fm := FLen 79 32 ints
def f22 (k : Nat) : F22.pre.T → Option F22.post.T := runFn Try.prog ti [] F22 Try.f22 k
theorem g22 (k : Nat) : EGood Try.prog (Fm.entry Try.prog F22 22 (f22 k)) := good tiok mixed goods_nil Try.func22 (by kernel_rfl) (by kernel_rfl)
def f23 (k : Nat) : F22.pre.T → Option F22.post.T := runFn Try.prog ti [] F22 Try.f23 k
theorem g23 (k : Nat) : EGood Try.prog (Fm.entry Try.prog F22 23 (f23 k)) := good tiok mixed goods_nil Try.func23 (by kernel_rfl) (by kernel_rfl)
abbrev F24 : Fm := FAll 79 32 ints (anF Try.f24 [allSig 32 ints])
def f24 (k : Nat) : F24.pre.T → Option F24.post.T := runFn Try.prog ti [Fm.entry Try.prog F47 47 (f47 k)] F24 Try.f24 k
theorem g24 (k : Nat) : EGood Try.prog (Fm.entry Try.prog F24 24 (f24 k)) := good tiok mixed (goods_cons (g47 k) goods_nil) Try.func24 (by kernel_rfl) (by kernel_rfl)
abbrev F4 : Fm := lawF [rt 0 i64, rt 1 dints] (anF Try.f4 [⟨[rt 1 dints, rt 5 (.ptr 0), rt 32 dints, rt 33 i64, rt 34 i64], ring 79 32 ints⟩, ⟨[rt 1 dints, rt 5 (.ptr 0), rt 9 i64], ring 79 32 ints⟩])
def f4 (k : Nat) : F4.pre.T → Option F4.post.T := runFn Try.prog ti [Fm.entry Try.prog F19 19 (f19 k), Fm.entry Try.prog F13 13 (f13 k), Fm.entry Try.prog F20 20 (f20 k), Fm.entry Try.prog F21 21 (f21 k), Fm.entry Try.prog F22 22 (f22 k), Fm.entry Try.prog F22 23 (f23 k), Fm.entry Try.prog F24 24 (f24 k)] F4 Try.f4 k
theorem law4 (k : Nat) : ∀ e ∈ [Fm.entry Try.prog F19 19 (f19 k), Fm.entry Try.prog F13 13 (f13 k), Fm.entry Try.prog F20 20 (f20 k), Fm.entry Try.prog F21 21 (f21 k), Fm.entry Try.prog F22 22 (f22 k), Fm.entry Try.prog F22 23 (f23 k), Fm.entry Try.prog F24 24 (f24 k)], EGood Try.prog e := (goods_cons (g19 k) (goods_cons (g13 k) (goods_cons (g20 k) (goods_cons (g21 k) (goods_cons (g22 k) (goods_cons (g23 k) (goods_cons (g24 k) goods_nil)))))))
end
end Go.Proofs.Ythllpilgfipkpaa.Ring
