import Derived.Test.YthllpilgfipkpaaRE
namespace Go.Proofs.Ythllpilgfipkpaa.Ring
open Go Go.RowKit Go.Proofs Go.Proofs.Ythllpilgfipkpaa.X
set_option linter.unusedVariables false
noncomputable section
/-! The reference's ring, Shrink, and the laws of whole numbers, as the evaluator runs them -/
abbrev is : Sh := .int .i64
abbrev R49 : Sh := .pair ints (.pair is is)
abbrev rs (t : Tmp) : Root := ⟨t, true, [.deep R49]⟩
abbrev dints : VS := .deep ints
abbrev F50 : Fm := ⟨0, ⟨[rt 0 i64, rt 1 i64, rt 2 i64], []⟩, ⟨[rt 0 i64], []⟩, .nil⟩
def f50 (k : Nat) : F50.pre.T → Option F50.post.T := runFn Try.prog ti [] F50 Try.f50 k
theorem g50 (k : Nat) : EGood Try.prog (Fm.entry Try.prog F50 50 (f50 k)) := good tiok mixed goods_nil Try.func50 (by kernel_rfl) (by kernel_rfl)
abbrev F31 : Fm := ⟨0, ⟨[rt 0 i64], []⟩, ⟨[rs 0], []⟩, .nil⟩
def f31 (k : Nat) : F31.pre.T → Option F31.post.T := runFn Try.prog ti [Fm.entry Try.prog F50 50 (f50 k)] F31 Try.f31 k
theorem g31 (k : Nat) : EGood Try.prog (Fm.entry Try.prog F31 31 (f31 k)) := good tiok mixed (goods_cons (g50 k) goods_nil) Try.func31 (by kernel_rfl) (by kernel_rfl)
abbrev F32 : Fm := ⟨0, ⟨[rs 0, rt 1 i64], []⟩, ⟨[rs 0, rt 1 i64, rt 2 bo], []⟩, anF Try.f32 [⟨[rt 1 i64, rt 2 (.ptr 0), rt 4 (.ptr 1), rt 7 (.own 2 is), rt 8 i64], [.cells 49 [.deep R49], .cells 49 [.deep R49], .row 3 is]⟩]⟩
def f32 (k : Nat) : F32.pre.T → Option F32.post.T := runFn Try.prog ti [] F32 Try.f32 k
theorem g32 (k : Nat) : EGood Try.prog (Fm.entry Try.prog F32 32 (f32 k)) := good tiok mixed goods_nil Try.func32 (by kernel_rfl) (by kernel_rfl)
abbrev F34 : Fm := ⟨0, ⟨[rs 0], []⟩, ⟨[rs 0, rt 1 i64, rt 2 bo], []⟩, .nil⟩
def f34 (k : Nat) : F34.pre.T → Option F34.post.T := runFn Try.prog ti [] F34 Try.f34 k
theorem g34 (k : Nat) : EGood Try.prog (Fm.entry Try.prog F34 34 (f34 k)) := good tiok mixed goods_nil Try.func34 (by kernel_rfl) (by kernel_rfl)
abbrev F36 : Fm := ⟨0, ⟨[rs 0, rt 1 i64], []⟩, ⟨[rs 0], []⟩, anF Try.f36 [⟨[rt 2 (.ptr 0), rt 4 (.ptr 1)], [.cells 49 [.deep R49], .cells 49 [.deep R49]]⟩]⟩
def f36 (k : Nat) : F36.pre.T → Option F36.post.T := runFn Try.prog ti [Fm.entry Try.prog F50 50 (f50 k)] F36 Try.f36 k
theorem g36 (k : Nat) : EGood Try.prog (Fm.entry Try.prog F36 36 (f36 k)) := good tiok mixed (goods_cons (g50 k) goods_nil) Try.func36 (by kernel_rfl) (by kernel_rfl)
abbrev F37 : Fm := ⟨0, ⟨[rt 0 dints, rt 1 dints], []⟩, ⟨[rt 0 bo], []⟩, anF Try.f37 [⟨[rt 0 dints, rt 1 dints, rt 5 i64], []⟩]⟩
def f37 (k : Nat) : F37.pre.T → Option F37.post.T := runFn Try.prog ti [] F37 Try.f37 k
theorem g37 (k : Nat) : EGood Try.prog (Fm.entry Try.prog F37 37 (f37 k)) := good tiok mixed goods_nil Try.func37 (by kernel_rfl) (by kernel_rfl)
abbrev iring : List OS := ring 82 3 is
abbrev sring : List OS := [.cells 82 [.own 2 is, i64, i64, i64], .gone, .row 3 is]
abbrev F35 : Fm := ⟨0, ⟨[rt 0 (.ptr 0), rt 1 i64], iring⟩, ⟨[], sring⟩, anF Try.f35 [⟨[rt 0 (.ptr 0), rt 5 i64, rt 6 (.ptr 2), rt 21 dints, rt 22 i64, rt 23 i64], iring ++ [.cells 82 [.own 3 is, i64, i64, i64], .row 3 is]⟩]⟩
def f35 (k : Nat) : F35.pre.T → Option F35.post.T := runFn Try.prog ti [Fm.entry Try.prog F30 30 (f30 k), Fm.entry Try.prog F45 45 (f45 k), Fm.entry Try.prog F25 25 (f25 k), Fm.entry Try.prog F26 26 (f26 k)] F35 Try.f35 k
theorem g35 (k : Nat) : EGood Try.prog (Fm.entry Try.prog F35 35 (f35 k)) := good tiok mixed (goods_cons (g30 k) (goods_cons (g45 k) (goods_cons (g25 k) (goods_cons (g26 k) goods_nil)))) Try.func35 (by kernel_rfl) (by kernel_rfl)
end
end Go.Proofs.Ythllpilgfipkpaa.Ring
