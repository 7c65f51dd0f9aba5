import Derived.Test.YtjbdeccohpbegaaYG
namespace Go.Proofs.Ytjbdeccohpbegaa.Vm
open Go Go.RowKit Go.Proofs Go.Proofs.Ytjbdeccohpbegaa.X
set_option linter.unusedVariables false
noncomputable section
/-! The machine's functions, as the evaluator runs them -/
def anOf : Code → List Sig → An × List Sig
  | .seq a b, l => (.node (anOf a l).1 (anOf b (anOf a l).2).1, (anOf b (anOf a l).2).2)
  | .cond _ a b, l => (.node (anOf a l).1 (anOf b (anOf a l).2).1, (anOf b (anOf a l).2).2)
  | .block _ a, l => anOf a l
  | .loop a, g :: l => (.loop g (anOf a l).1, (anOf a l).2)
  | _, l => (.nil, l)
def anF (f : Func) (l : List Sig) : An := match f.body with
  | some c => (anOf c l).1
  | none => .nil
abbrev is : Sh := .int .i64
abbrev S25 : Sh := .pair (.int .i64) (.pair (.sl (.int .u8)) (.sl (.pair (.int .i64) (.pair (.int .i64) (.pair (.int .i64) (.sl (.pair (.int .i64) (.int .i64))))))))
abbrev S35 : Sh := .pair (.int .i64) (.pair (.int .i64) (.pair (.int .i64) (.pair (.int .i64) (.sl (.int .i64)))))
abbrev S48 : Sh := .pair (.int .i64) (.int .i64)
abbrev S56 : Sh := .pair (.int .i64) (.pair (.int .i64) (.int .i64))
abbrev S60 : Sh := .pair (.pair (.int .i64) (.pair (.sl (.int .u8)) (.sl (.pair (.int .i64) (.pair (.int .i64) (.pair (.int .i64) (.sl (.pair (.int .i64) (.int .i64))))))))) (.pair (.sl (.int .u8)) (.pair (.sl (.pair (.int .i64) (.pair (.int .i64) (.pair (.sl (.int .i64)) (.sl (.int .i64)))))) (.pair (.bool) (.pair (.int .i64) (.pair (.sl (.int .i64)) (.int .i64))))))
abbrev S63 : Sh := .pair (.int .i64) (.pair (.int .i64) (.pair (.int .i64) (.sl (.pair (.int .i64) (.int .i64)))))
abbrev SF : Sh := .pair (.int .i64) (.pair (.int .i64) (.pair (.sl (.int .i64)) (.sl (.int .i64))))
abbrev SR : Sh := .pair .bool (.pair (.int .i64) (.pair (.sl (.int .i64)) (.int .i64)))
abbrev NF : OS := .nest 77 [2, 2] SF
abbrev RB : OS := .row 5 (.int .u8)
abbrev Mc (a b : Nat) : OS := .cells 60 [.deep S25, .own a (.int .u8), .own b SF, .deep SR]
/-! casement/casementlaw14.ins -/
abbrev F19 : Fm := ⟨0, ⟨[⟨0, false, [.deep is]⟩, ⟨1, false, [.deep is]⟩], []⟩, ⟨[⟨0, true, [.deep S48]⟩], []⟩, .nil⟩
def f19 (k : Nat) : F19.pre.T → Option F19.post.T := runFn Try.prog ti [] F19 Try.f19 k
theorem g19 (k : Nat) : EGood Try.prog (Fm.entry Try.prog F19 19 (f19 k)) := good tiok mixed goods_nil Try.func19 (by kernel_rfl) (by kernel_rfl)
/-! casement/casementlaw14.mod -/
abbrev F18 : Fm := ⟨0, ⟨[⟨0, false, [.deep (.sl S48)]⟩], []⟩, ⟨[⟨0, true, [.deep S25]⟩], []⟩, .nil⟩
def f18 (k : Nat) : F18.pre.T → Option F18.post.T := runFn Try.prog ti [] F18 Try.f18 k
theorem g18 (k : Nat) : EGood Try.prog (Fm.entry Try.prog F18 18 (f18 k)) := good tiok mixed goods_nil Try.func18 (by kernel_rfl) (by kernel_rfl)
/-! slices.Index[[]int,int] -/
abbrev F45 : Fm := ⟨0, ⟨[⟨0, false, [.deep (.sl is)]⟩, ⟨1, false, [.deep is]⟩], []⟩, ⟨[⟨0, false, [.deep is]⟩], []⟩, anF Try.f45 [⟨[⟨0, false, [.deep (.sl is)]⟩, ⟨1, false, [.deep is]⟩, ⟨7, false, [.deep is]⟩, ⟨8, false, [.deep is]⟩], []⟩]⟩
def f45 (k : Nat) : F45.pre.T → Option F45.post.T := runFn Try.prog ti [] F45 Try.f45 k
theorem g45 (k : Nat) : EGood Try.prog (Fm.entry Try.prog F45 45 (f45 k)) := good tiok mixed goods_nil Try.func45 (by kernel_rfl) (by kernel_rfl)
/-! slices.Contains[[]int,int] -/
abbrev F44 : Fm := ⟨0, ⟨[⟨0, false, [.deep (.sl is)]⟩, ⟨1, false, [.deep is]⟩], []⟩, ⟨[⟨0, false, [.deep .bool]⟩], []⟩, .nil⟩
def f44 (k : Nat) : F44.pre.T → Option F44.post.T := runFn Try.prog ti [Fm.entry Try.prog F45 45 (f45 k)] F44 Try.f44 k
theorem g44 (k : Nat) : EGood Try.prog (Fm.entry Try.prog F44 44 (f44 k)) := good tiok mixed (goods_cons (g45 k) goods_nil) Try.func44 (by kernel_rfl) (by kernel_rfl)
/-! casement/module.Has -/
abbrev F38 : Fm := ⟨0, ⟨[⟨0, false, [.deep is]⟩], []⟩, ⟨[⟨0, false, [.deep .bool]⟩], []⟩, .nil⟩
def f38 (k : Nat) : F38.pre.T → Option F38.post.T := runFn Try.prog ti [Fm.entry Try.prog F44 44 (f44 k)] F38 Try.f38 k
theorem g38 (k : Nat) : EGood Try.prog (Fm.entry Try.prog F38 38 (f38 k)) := good tiok mixed (goods_cons (g44 k) goods_nil) Try.func38 (by kernel_rfl) (by kernel_rfl)
/-! casement/module.right -/
abbrev F37 : Fm := ⟨0, ⟨[⟨0, true, [.deep S25]⟩], []⟩, ⟨[⟨0, false, [.deep .bool]⟩], []⟩, anF Try.f37 [⟨[⟨36, false, [.deep (.sl S63)]⟩, ⟨37, false, [.deep is]⟩, ⟨38, false, [.deep is]⟩], []⟩, ⟨[⟨36, false, [.deep (.sl S63)]⟩, ⟨37, false, [.deep is]⟩, ⟨38, false, [.deep is]⟩, ⟨86, false, [.deep (.sl S48)]⟩, ⟨87, false, [.deep is]⟩, ⟨88, false, [.deep is]⟩], []⟩]⟩
def f37 (k : Nat) : F37.pre.T → Option F37.post.T := runFn Try.prog ti [Fm.entry Try.prog F38 38 (f38 k)] F37 Try.f37 k
theorem g37 (k : Nat) : EGood Try.prog (Fm.entry Try.prog F37 37 (f37 k)) := good tiok mixed (goods_cons (g38 k) goods_nil) Try.func37 (by kernel_rfl) (by kernel_rfl)
/-! casement/module.appendNumber -/
abbrev F39 : Fm := ⟨0, ⟨[⟨0, false, [.own 0 (.int .u8)]⟩, ⟨1, false, [.deep is]⟩], [.row 5 (.int .u8)]⟩, ⟨[⟨0, false, [.own 1 (.int .u8)]⟩], [.gone, .row 5 (.int .u8)]⟩, anF Try.f39 [⟨[⟨0, false, [.own 1 (.int .u8)]⟩, ⟨5, false, [.deep (.int .u64)]⟩], [.gone, .row 5 (.int .u8)]⟩]⟩
def f39 (k : Nat) : F39.pre.T → Option F39.post.T := runFn Try.prog ti [] F39 Try.f39 k
theorem g39 (k : Nat) : EGood Try.prog (Fm.entry Try.prog F39 39 (f39 k)) := good tiok mixed goods_nil Try.func39 (by kernel_rfl) (by kernel_rfl)
/-! casement/module.Encode -/
abbrev F28 : Fm := ⟨0, ⟨[⟨0, true, [.deep S25]⟩], []⟩, ⟨[⟨0, false, [.own 0 (.int .u8)]⟩, ⟨1, false, [.deep is]⟩], [.row 5 (.int .u8)]⟩, anF Try.f28 [⟨[⟨4, false, [.own 0 (.int .u8)]⟩, ⟨41, false, [.deep (.sl S63)]⟩, ⟨42, false, [.deep is]⟩, ⟨43, false, [.deep is]⟩], [.row 5 (.int .u8)]⟩, ⟨[⟨4, false, [.own 0 (.int .u8)]⟩, ⟨41, false, [.deep (.sl S63)]⟩, ⟨42, false, [.deep is]⟩, ⟨43, false, [.deep is]⟩, ⟨69, false, [.deep (.sl S48)]⟩, ⟨70, false, [.deep is]⟩, ⟨71, false, [.deep is]⟩], [.row 5 (.int .u8)]⟩]⟩
def f28 (k : Nat) : F28.pre.T → Option F28.post.T := runFn Try.prog ti [Fm.entry Try.prog F37 37 (f37 k), Fm.entry Try.prog F38 38 (f38 k), Fm.entry Try.prog F39 39 (f39 k)] F28 Try.f28 k
theorem g28 (k : Nat) : EGood Try.prog (Fm.entry Try.prog F28 28 (f28 k)) := good tiok mixed (goods_cons (g37 k) (goods_cons (g38 k) (goods_cons (g39 k) goods_nil))) Try.func28 (by kernel_rfl) (by kernel_rfl)
/-! casement/check.function -/
abbrev F41 : Fm := ⟨0, ⟨[⟨0, true, [.deep S25]⟩, ⟨1, false, [.deep is]⟩], []⟩, ⟨[⟨0, false, [.deep .bool]⟩], []⟩, .nil⟩
def f41 (k : Nat) : F41.pre.T → Option F41.post.T := runFn Try.prog ti [] F41 Try.f41 k
theorem g41 (k : Nat) : EGood Try.prog (Fm.entry Try.prog F41 41 (f41 k)) := good tiok mixed goods_nil Try.func41 (by kernel_rfl) (by kernel_rfl)
/-! casement/check.host -/
abbrev F42 : Fm := ⟨0, ⟨[⟨0, false, [.deep is]⟩], []⟩, ⟨[⟨0, false, [.deep is]⟩], []⟩, .nil⟩
def f42 (k : Nat) : F42.pre.T → Option F42.post.T := runFn Try.prog ti [] F42 Try.f42 k
theorem g42 (k : Nat) : EGood Try.prog (Fm.entry Try.prog F42 42 (f42 k)) := good tiok mixed goods_nil Try.func42 (by kernel_rfl) (by kernel_rfl)
/-! casement/check.Effect -/
abbrev F31 : Fm := ⟨0, ⟨[⟨0, true, [.deep S25]⟩, ⟨1, false, [.deep is]⟩, ⟨2, true, [.deep S48]⟩], []⟩, ⟨[⟨0, false, [.deep is]⟩, ⟨1, false, [.deep is]⟩, ⟨2, false, [.deep .bool]⟩], []⟩, .nil⟩
def f31 (k : Nat) : F31.pre.T → Option F31.post.T := runFn Try.prog ti [Fm.entry Try.prog F41 41 (f41 k), Fm.entry Try.prog F42 42 (f42 k)] F31 Try.f31 k
theorem g31 (k : Nat) : EGood Try.prog (Fm.entry Try.prog F31 31 (f31 k)) := good tiok mixed (goods_cons (g41 k) (goods_cons (g42 k) goods_nil)) Try.func31 (by kernel_rfl) (by kernel_rfl)
/-! casement/check.static -/
abbrev F29 : Fm := ⟨0, ⟨[⟨0, true, [.deep S25]⟩, ⟨1, false, [.deep is]⟩], []⟩, ⟨[⟨0, false, [.deep is]⟩], []⟩, anF Try.f29 [⟨[⟨1, false, [.deep is]⟩, ⟨2, false, [.ptr 0]⟩, ⟨5, false, [.ptr 1]⟩, ⟨15, false, [.deep (.sl S48)]⟩, ⟨16, false, [.deep is]⟩, ⟨17, false, [.deep is]⟩], [.cells 25 [.deep S25], .cells 63 [.deep S63]]⟩]⟩
def f29 (k : Nat) : F29.pre.T → Option F29.post.T := runFn Try.prog ti [Fm.entry Try.prog F31 31 (f31 k)] F29 Try.f29 k
theorem g29 (k : Nat) : EGood Try.prog (Fm.entry Try.prog F29 29 (f29 k)) := good tiok mixed (goods_cons (g31 k) goods_nil) Try.func29 (by kernel_rfl) (by kernel_rfl)
/-! casement/check.next -/
abbrev F40 : Fm := ⟨0, ⟨[⟨0, false, [.deep is]⟩, ⟨1, true, [.deep S48]⟩], []⟩, ⟨[⟨0, false, [.own 0 is]⟩], [.row 3 is]⟩, .nil⟩
def f40 (k : Nat) : F40.pre.T → Option F40.post.T := runFn Try.prog ti [] F40 Try.f40 k
theorem g40 (k : Nat) : EGood Try.prog (Fm.entry Try.prog F40 40 (f40 k)) := good tiok mixed goods_nil Try.func40 (by kernel_rfl) (by kernel_rfl)
/-! casement/check.heights -/
abbrev F30 : Fm := ⟨0, ⟨[⟨0, true, [.deep S25]⟩, ⟨1, false, [.deep is]⟩], []⟩, ⟨[⟨0, false, [.own 0 is]⟩, ⟨1, false, [.deep .bool]⟩], [.row 3 is]⟩, anF Try.f30 [⟨[⟨1, false, [.deep is]⟩, ⟨2, false, [.ptr 0]⟩, ⟨6, false, [.deep (.sl S48)]⟩, ⟨7, false, [.own 1 is]⟩, ⟨27, false, [.deep is]⟩, ⟨28, false, [.deep is]⟩], [.cells 25 [.deep S25], .row 3 is]⟩, ⟨[⟨1, false, [.deep is]⟩, ⟨2, false, [.ptr 0]⟩, ⟨6, false, [.deep (.sl S48)]⟩, ⟨7, false, [.own 1 is]⟩, ⟨9, false, [.own 2 is]⟩], [.cells 25 [.deep S25], .row 3 is, .row 3 is]⟩, ⟨[⟨1, false, [.deep is]⟩, ⟨2, false, [.ptr 0]⟩, ⟨6, false, [.deep (.sl S48)]⟩, ⟨7, false, [.own 1 is]⟩, ⟨9, false, [.own 2 is]⟩, ⟨12, false, [.deep is]⟩, ⟨14, false, [.deep is]⟩, ⟨94, false, [.own 3 is]⟩, ⟨95, false, [.deep is]⟩, ⟨96, false, [.deep is]⟩], [.cells 25 [.deep S25], .row 3 is, .row 3 is, .row 3 is]⟩]⟩
def f30 (k : Nat) : F30.pre.T → Option F30.post.T := runFn Try.prog ti [Fm.entry Try.prog F31 31 (f31 k), Fm.entry Try.prog F40 40 (f40 k)] F30 Try.f30 k
theorem g30 (k : Nat) : EGood Try.prog (Fm.entry Try.prog F30 30 (f30 k)) := good tiok mixed (goods_cons (g31 k) (goods_cons (g40 k) goods_nil)) Try.func30 (by kernel_rfl) (by kernel_rfl)
/-! casement/check.Check -/
abbrev F20 : Fm := ⟨0, ⟨[⟨0, true, [.deep S25]⟩], []⟩, ⟨[⟨0, true, [.deep S56]⟩], []⟩, anF Try.f20 [⟨[⟨1, false, [.ptr 0]⟩, ⟨2, false, [.ptr 1]⟩, ⟨34, false, [.deep is]⟩, ⟨35, false, [.deep is]⟩], [.cells 25 [.deep S25], .cells 56 [.deep S56]]⟩]⟩
def f20 (k : Nat) : F20.pre.T → Option F20.post.T := runFn Try.prog ti [Fm.entry Try.prog F28 28 (f28 k), Fm.entry Try.prog F29 29 (f29 k), Fm.entry Try.prog F30 30 (f30 k)] F20 Try.f20 k
theorem g20 (k : Nat) : EGood Try.prog (Fm.entry Try.prog F20 20 (f20 k)) := good tiok mixed (goods_cons (g28 k) (goods_cons (g29 k) (goods_cons (g30 k) goods_nil))) Try.func20 (by kernel_rfl) (by kernel_rfl)
/-! slices.Clone[[]casement/api.Ins,casement/api.Ins] -/
abbrev F21 : Fm := ⟨0, ⟨[⟨0, false, [.deep (.sl S48)]⟩], []⟩, ⟨[⟨0, false, [.deep (.sl S48)]⟩], []⟩, .nil⟩
def f21 (k : Nat) : F21.pre.T → Option F21.post.T := runFn Try.prog ti [] F21 Try.f21 k
theorem g21 (k : Nat) : EGood Try.prog (Fm.entry Try.prog F21 21 (f21 k)) := good tiok mixed goods_nil Try.func21 (by kernel_rfl) (by kernel_rfl)
def c210 (xs : List (Int × Int)) : Option F21.post.T := bif ((([] : List (Int × Int)).length + xs.length) * (16 : Nat)).ble (140737488355328 : Nat) then some (((xs, ()), ()), ()) else none
def c21 (g : F21.pre.T) : Option F21.post.T := c210 g.1.1.1
theorem c21_le (g : F21.pre.T) (r : F21.post.T) (h : c21 g = some r) : f21 0 g = some r := by
  obtain ⟨⟨⟨xs, ⟨⟩⟩, ⟨⟩⟩, ⟨⟩⟩ := g
  rw [← h]
  match xs with
  | [] => exact (show f21 0 ((([], ()), ()), ()) = both (c210 []) (c210 []) by kernel_rfl).trans (both_self _)
  | x :: xs => exact (show f21 0 (((x :: xs, ()), ()), ()) = c210 (x :: xs) by kernel_rfl)
theorem h21 : EGood Try.prog (Fm.entry Try.prog F21 21 c21) := good_le (g21 0) c21_le
/-! casement/vm.New -/
abbrev F9 : Fm := ⟨0, ⟨[⟨0, true, [.deep S25]⟩], []⟩, ⟨[⟨0, false, [.ptr 0]⟩, ⟨1, false, [.deep is]⟩], [Mc 1 2, RB, NF]⟩, anF Try.f9 [⟨[⟨4, false, [.ptr 0]⟩, ⟨27, false, [.deep (.sl S63)]⟩, ⟨28, false, [.deep is]⟩, ⟨29, false, [.deep is]⟩], [.cells 60 [.deep (.int .i64), .deep (.sl (.int .u8)), .own 3 S63, .own 1 (.int .u8), .own 2 SF, .deep SR], RB, NF, .row 63 S63]⟩]⟩
def f9 (k : Nat) : F9.pre.T → Option F9.post.T := runFn Try.prog ti [Fm.entry Try.prog F20 20 (f20 k), Fm.entry Try.prog F21 21 c21] F9 Try.f9 k
theorem g9 (k : Nat) : EGood Try.prog (Fm.entry Try.prog F9 9 (f9 k)) := good tiok mixed (goods_cons (g20 k) (goods_cons h21 goods_nil)) Try.func9 (by kernel_rfl) (by kernel_rfl)
/-! (*casement/vm.Machine).Busy -/
abbrev F17 : Fm := ⟨3, ⟨[⟨0, false, [.ptr 0]⟩], [Mc 1 2, RB, NF]⟩, ⟨[⟨0, false, [.deep .bool]⟩], []⟩, .nil⟩
def f17 (k : Nat) : F17.pre.T → Option F17.post.T := runFn Try.prog ti [] F17 Try.f17 k
theorem g17 (k : Nat) : EGood Try.prog (Fm.entry Try.prog F17 17 (f17 k)) := good tiok mixed goods_nil Try.func17 (by kernel_rfl) (by kernel_rfl)
/-! (*casement/vm.Machine).enter -/
abbrev F22 : Fm := ⟨0, ⟨[⟨0, false, [.ptr 0]⟩, ⟨1, false, [.deep is]⟩, ⟨2, false, [.deep (.sl is)]⟩], [Mc 1 2, RB, NF]⟩, ⟨[], [Mc 1 3, RB, .gone, NF]⟩, .nil⟩
def f22 (k : Nat) : F22.pre.T → Option F22.post.T := runFn Try.prog ti [] F22 Try.f22 k
theorem g22 (k : Nat) : EGood Try.prog (Fm.entry Try.prog F22 22 (f22 k)) := good tiok mixed goods_nil Try.func22 (by kernel_rfl) (by kernel_rfl)
/-! (*casement/vm.Machine).Begin -/
abbrev F10 : Fm := ⟨0, ⟨[⟨0, false, [.ptr 0]⟩, ⟨1, false, [.deep is]⟩, ⟨2, false, [.deep is]⟩, ⟨3, false, [.deep is]⟩], [Mc 1 2, RB, NF]⟩, ⟨[⟨0, false, [.deep is]⟩], [Mc 1 3, RB, .gone, NF]⟩, .nil⟩
def f10 (k : Nat) : F10.pre.T → Option F10.post.T := runFn Try.prog ti [Fm.entry Try.prog F17 17 (f17 k), Fm.entry Try.prog F22 22 (f22 k)] F10 Try.f10 k
theorem g10 (k : Nat) : EGood Try.prog (Fm.entry Try.prog F10 10 (f10 k)) := good tiok mixed (goods_cons (g17 k) (goods_cons (g22 k) goods_nil)) Try.func10 (by kernel_rfl) (by kernel_rfl)
/-! (*casement/vm.Machine).top -/
abbrev F24 : Fm := ⟨3, ⟨[⟨0, false, [.ptr 0]⟩], [Mc 1 2, RB, NF]⟩, ⟨[⟨0, false, [.ep 2 4]⟩], []⟩, .nil⟩
def f24 (k : Nat) : F24.pre.T → Option F24.post.T := runFn Try.prog ti [] F24 Try.f24 k
theorem g24 (k : Nat) : EGood Try.prog (Fm.entry Try.prog F24 24 (f24 k)) := good tiok mixed goods_nil Try.func24 (by kernel_rfl) (by kernel_rfl)
/-! slices.Clone[[]int64,int64] -/
abbrev F27 : Fm := ⟨0, ⟨[⟨0, false, [.deep (.sl is)]⟩], []⟩, ⟨[⟨0, false, [.own 0 is]⟩], [.row 2 is]⟩, .nil⟩
def f27 (k : Nat) : F27.pre.T → Option F27.post.T := runFn Try.prog ti [] F27 Try.f27 k
theorem g27 (k : Nat) : EGood Try.prog (Fm.entry Try.prog F27 27 (f27 k)) := good tiok mixed goods_nil Try.func27 (by kernel_rfl) (by kernel_rfl)
def c270 (xs : List Int) : Option F27.post.T := bif ((([] : List Int).length + xs.length) * (8 : Nat)).ble (140737488355328 : Nat) then some ((((), ()), ()), xs, ()) else none
def c27 (g : F27.pre.T) : Option F27.post.T := c270 g.1.1.1
theorem c27_le (g : F27.pre.T) (r : F27.post.T) (h : c27 g = some r) : f27 0 g = some r := by
  obtain ⟨⟨⟨xs, ⟨⟩⟩, ⟨⟩⟩, ⟨⟩⟩ := g
  rw [← h]
  match xs with
  | [] => exact (show f27 0 ((([], ()), ()), ()) = both (c270 []) (c270 []) by kernel_rfl).trans (both_self _)
  | x :: xs => exact (show f27 0 (((x :: xs, ()), ()), ()) = c270 (x :: xs) by kernel_rfl)
theorem h27 : EGood Try.prog (Fm.entry Try.prog F27 27 c27) := good_le (g27 0) c27_le
/-! (*casement/vm.frame).take -/
abbrev F32 : Fm := ⟨0, ⟨[⟨0, false, [.ep 0 4]⟩, ⟨1, false, [.deep is]⟩], [NF]⟩, ⟨[⟨0, false, [.deep (.sl is)]⟩], [NF]⟩, .nil⟩
def f32 (k : Nat) : F32.pre.T → Option F32.post.T := runFn Try.prog ti [Fm.entry Try.prog F27 27 c27] F32 Try.f32 k
theorem g32 (k : Nat) : EGood Try.prog (Fm.entry Try.prog F32 32 (f32 k)) := good tiok mixed (goods_cons h27 goods_nil) Try.func32 (by kernel_rfl) (by kernel_rfl)
/-! (*casement/vm.frame).push -/
abbrev F25 : Fm := ⟨0, ⟨[⟨0, false, [.ep 0 4]⟩, ⟨1, false, [.deep is]⟩], [NF]⟩, ⟨[], [NF]⟩, .nil⟩
def f25 (k : Nat) : F25.pre.T → Option F25.post.T := runFn Try.prog ti [] F25 Try.f25 k
theorem g25 (k : Nat) : EGood Try.prog (Fm.entry Try.prog F25 25 (f25 k)) := good tiok mixed goods_nil Try.func25 (by kernel_rfl) (by kernel_rfl)
/-! casement/vm.truth -/
abbrev F43 : Fm := ⟨0, ⟨[⟨0, false, [.deep .bool]⟩], []⟩, ⟨[⟨0, false, [.deep is]⟩], []⟩, .nil⟩
def f43 (k : Nat) : F43.pre.T → Option F43.post.T := runFn Try.prog ti [] F43 Try.f43 k
theorem g43 (k : Nat) : EGood Try.prog (Fm.entry Try.prog F43 43 (f43 k)) := good tiok mixed goods_nil Try.func43 (by kernel_rfl) (by kernel_rfl)
def c43 (g : F43.pre.T) : Option F43.post.T := some (((cond g.1.1.1 (1 : Int) (0 : Int), ()), ()), ())
theorem c43_le (g : F43.pre.T) (r : F43.post.T) (h : c43 g = some r) : f43 0 g = some r := by
  obtain ⟨⟨⟨b, ⟨⟩⟩, ⟨⟩⟩, ⟨⟩⟩ := g
  rw [← h]
  match b with
  | true => exact (show f43 0 (((true, ()), ()), ()) = c43 (((true, ()), ()), ()) by kernel_rfl)
  | false => exact (show f43 0 (((false, ()), ()), ()) = c43 (((false, ()), ()), ()) by kernel_rfl)
theorem h43 : EGood Try.prog (Fm.entry Try.prog F43 43 c43) := good_le (g43 0) c43_le
/-! (*casement/vm.Machine).binary -/
abbrev F33 : Fm := ⟨0, ⟨[⟨0, false, [.ptr 0]⟩, ⟨1, false, [.deep is]⟩, ⟨2, false, [.deep is]⟩, ⟨3, false, [.deep is]⟩], [Mc 1 2, RB, NF]⟩, ⟨[], [Mc 1 2, RB, NF]⟩, .nil⟩
def f33 (k : Nat) : F33.pre.T → Option F33.post.T := runFn Try.prog ti [Fm.entry Try.prog F24 24 (f24 k), Fm.entry Try.prog F25 25 (f25 k), Fm.entry Try.prog F43 43 c43] F33 Try.f33 k
theorem g33 (k : Nat) : EGood Try.prog (Fm.entry Try.prog F33 33 (f33 k)) := good tiok mixed (goods_cons (g24 k) (goods_cons (g25 k) (goods_cons h43 goods_nil))) Try.func33 (by kernel_rfl) (by kernel_rfl)
/-! slices.Clone[[]byte,byte] -/
abbrev F23 : Fm := ⟨0, ⟨[⟨0, false, [.deep (.sl (.int .u8))]⟩], []⟩, ⟨[⟨0, false, [.own 0 (.int .u8)]⟩], [.row 5 (.int .u8)]⟩, .nil⟩
def f23 (k : Nat) : F23.pre.T → Option F23.post.T := runFn Try.prog ti [] F23 Try.f23 k
theorem g23 (k : Nat) : EGood Try.prog (Fm.entry Try.prog F23 23 (f23 k)) := good tiok mixed goods_nil Try.func23 (by kernel_rfl) (by kernel_rfl)
def c230 (xs : List Int) : Option F23.post.T := bif ((([] : List Int).length + xs.length) * (1 : Nat)).ble (140737488355328 : Nat) then some ((((), ()), ()), xs, ()) else none
def c23 (g : F23.pre.T) : Option F23.post.T := c230 g.1.1.1
theorem c23_le (g : F23.pre.T) (r : F23.post.T) (h : c23 g = some r) : f23 0 g = some r := by
  obtain ⟨⟨⟨xs, ⟨⟩⟩, ⟨⟩⟩, ⟨⟩⟩ := g
  rw [← h]
  match xs with
  | [] => exact (show f23 0 ((([], ()), ()), ()) = both (c230 []) (c230 []) by kernel_rfl).trans (both_self _)
  | x :: xs => exact (show f23 0 (((x :: xs, ()), ()), ()) = c230 (x :: xs) by kernel_rfl)
theorem h23 : EGood Try.prog (Fm.entry Try.prog F23 23 c23) := good_le (g23 0) c23_le
/-! (*casement/vm.Machine).Memory -/
abbrev F13 : Fm := ⟨3, ⟨[⟨0, false, [.ptr 0]⟩, ⟨1, false, [.deep is]⟩, ⟨2, false, [.deep is]⟩], [Mc 1 2, RB, NF]⟩, ⟨[⟨0, false, [.deep (.sl (.int .u8))]⟩, ⟨1, false, [.deep .bool]⟩], []⟩, .nil⟩
def f13 (k : Nat) : F13.pre.T → Option F13.post.T := runFn Try.prog ti [Fm.entry Try.prog F23 23 c23] F13 Try.f13 k
theorem g13 (k : Nat) : EGood Try.prog (Fm.entry Try.prog F13 13 (f13 k)) := good tiok mixed (goods_cons h23 goods_nil) Try.func13 (by kernel_rfl) (by kernel_rfl)
/-! (*casement/vm.Machine).touch -/
abbrev F34 : Fm := ⟨0, ⟨[⟨0, false, [.ptr 0]⟩, ⟨1, false, [.deep is]⟩, ⟨2, false, [.deep (.sl is)]⟩], [Mc 1 2, RB, NF]⟩, ⟨[], [Mc 1 2, RB, NF]⟩, anF Try.f34 [⟨[⟨2, false, [.deep (.sl is)]⟩, ⟨9, false, [.part 1 (.int .u8)]⟩, ⟨54, false, [.deep is]⟩, ⟨55, false, [.deep is]⟩], [Mc 1 2, RB, NF]⟩, ⟨[⟨0, false, [.ptr 0]⟩, ⟨11, false, [.deep (.int .u64)]⟩, ⟨69, false, [.part 1 (.int .u8)]⟩, ⟨70, false, [.deep is]⟩, ⟨71, false, [.deep is]⟩], [Mc 1 2, RB, NF]⟩]⟩
def f34 (k : Nat) : F34.pre.T → Option F34.post.T := runFn Try.prog ti [Fm.entry Try.prog F13 13 (f13 k), Fm.entry Try.prog F24 24 (f24 k), Fm.entry Try.prog F25 25 (f25 k)] F34 Try.f34 k
theorem g34 (k : Nat) : EGood Try.prog (Fm.entry Try.prog F34 34 (f34 k)) := good tiok mixed (goods_cons (g13 k) (goods_cons (g24 k) (goods_cons (g25 k) goods_nil))) Try.func34 (by kernel_rfl) (by kernel_rfl)
/-! (*casement/vm.Machine).flow -/
abbrev F35 : Fm := ⟨0, ⟨[⟨0, false, [.ptr 0]⟩, ⟨1, true, [.deep S48]⟩, ⟨2, false, [.deep (.sl is)]⟩], [Mc 1 2, RB, NF]⟩, ⟨[], [Mc 1 3, RB, .gone, NF]⟩, .nil⟩
def f35 (k : Nat) : F35.pre.T → Option F35.post.T := runFn Try.prog ti [Fm.entry Try.prog F24 24 (f24 k), Fm.entry Try.prog F22 22 (f22 k)] F35 Try.f35 k
theorem g35 (k : Nat) : EGood Try.prog (Fm.entry Try.prog F35 35 (f35 k)) := good tiok mixed (goods_cons (g24 k) (goods_cons (g22 k) goods_nil)) Try.func35 (by kernel_rfl) (by kernel_rfl)
/-! (*casement/vm.Machine).plain -/
abbrev F36 : Fm := ⟨0, ⟨[⟨0, false, [.ptr 0]⟩, ⟨1, true, [.deep S48]⟩, ⟨2, false, [.deep (.sl is)]⟩], [Mc 1 2, RB, NF]⟩, ⟨[], [Mc 1 2, RB, NF]⟩, .nil⟩
def f36 (k : Nat) : F36.pre.T → Option F36.post.T := runFn Try.prog ti [Fm.entry Try.prog F24 24 (f24 k), Fm.entry Try.prog F25 25 (f25 k), Fm.entry Try.prog F43 43 c43] F36 Try.f36 k
theorem g36 (k : Nat) : EGood Try.prog (Fm.entry Try.prog F36 36 (f36 k)) := good tiok mixed (goods_cons (g24 k) (goods_cons (g25 k) (goods_cons h43 goods_nil))) Try.func36 (by kernel_rfl) (by kernel_rfl)
/-! (*casement/vm.Machine).step -/
abbrev F26 : Fm := ⟨0, ⟨[⟨0, false, [.ptr 0]⟩], [Mc 1 2, RB, NF]⟩, ⟨[], [Mc 1 3, RB, .gone, NF]⟩, .nil⟩
def f26 (k : Nat) : F26.pre.T → Option F26.post.T := runFn Try.prog ti [Fm.entry Try.prog F24 24 (f24 k), Fm.entry Try.prog F31 31 (f31 k), Fm.entry Try.prog F32 32 (f32 k), Fm.entry Try.prog F33 33 (f33 k), Fm.entry Try.prog F34 34 (f34 k), Fm.entry Try.prog F35 35 (f35 k), Fm.entry Try.prog F36 36 (f36 k)] F26 Try.f26 k
theorem g26 (k : Nat) : EGood Try.prog (Fm.entry Try.prog F26 26 (f26 k)) := good tiok mixed (goods_cons (g24 k) (goods_cons (g31 k) (goods_cons (g32 k) (goods_cons (g33 k) (goods_cons (g34 k) (goods_cons (g35 k) (goods_cons (g36 k) goods_nil))))))) Try.func26 (by kernel_rfl) (by kernel_rfl)
/-! (*casement/vm.Machine).Run -/
abbrev F16 : Fm := ⟨0, ⟨[⟨0, false, [.ptr 0]⟩, ⟨1, false, [.deep is]⟩], [Mc 1 2, RB, NF]⟩, ⟨[⟨0, true, [.deep S35]⟩], [Mc 1 3, RB, .gone, NF]⟩, anF Try.f16 [⟨[⟨0, false, [.ptr 0]⟩, ⟨1, false, [.deep is]⟩, ⟨4, false, [.ptr 4]⟩], [Mc 1 3, RB, .gone, NF, .cells 35 [.deep S35]]⟩]⟩
def f16 (k : Nat) : F16.pre.T → Option F16.post.T := runFn Try.prog ti [Fm.entry Try.prog F26 26 (f26 k), Fm.entry Try.prog F27 27 c27] F16 Try.f16 k
theorem g16 (k : Nat) : EGood Try.prog (Fm.entry Try.prog F16 16 (f16 k)) := good tiok mixed (goods_cons (g26 k) (goods_cons h27 goods_nil)) Try.func16 (by kernel_rfl) (by kernel_rfl)
/-! (*casement/vm.Machine).Reply -/
abbrev F15 : Fm := ⟨0, ⟨[⟨0, false, [.ptr 0]⟩, ⟨1, false, [.deep is]⟩], [Mc 1 2, RB, NF]⟩, ⟨[⟨0, false, [.deep is]⟩], [Mc 1 2, RB, NF]⟩, .nil⟩
def f15 (k : Nat) : F15.pre.T → Option F15.post.T := runFn Try.prog ti [Fm.entry Try.prog F24 24 (f24 k), Fm.entry Try.prog F25 25 (f25 k)] F15 Try.f15 k
theorem g15 (k : Nat) : EGood Try.prog (Fm.entry Try.prog F15 15 (f15 k)) := good tiok mixed (goods_cons (g24 k) (goods_cons (g25 k) goods_nil)) Try.func15 (by kernel_rfl) (by kernel_rfl)
/-! casement/casementlaw14.alive -/
abbrev F8 : Fm := ⟨0, ⟨[], []⟩, ⟨[⟨0, false, [.deep .bool]⟩], []⟩, .nil⟩
def f8 (k : Nat) : F8.pre.T → Option F8.post.T := runFn Try.prog ti [Fm.entry Try.prog F19 19 (f19 k), Fm.entry Try.prog F18 18 (f18 k), Fm.entry Try.prog F9 9 (f9 k), Fm.entry Try.prog F10 10 (f10 k), Fm.entry Try.prog F16 16 (f16 k), Fm.entry Try.prog F15 15 (f15 k), Fm.entry Try.prog F17 17 (f17 k)] F8 Try.f8 k
theorem g8 (k : Nat) : EGood Try.prog (Fm.entry Try.prog F8 8 (f8 k)) := good tiok mixed (goods_cons (g19 k) (goods_cons (g18 k) (goods_cons (g9 k) (goods_cons (g10 k) (goods_cons (g16 k) (goods_cons (g15 k) (goods_cons (g17 k) goods_nil))))))) Try.func8 (by kernel_rfl) (by kernel_rfl)
/-! casement/casementlaw14.VmWorth -/
abbrev F6 : Fm := ⟨0, ⟨[⟨0, false, [.deep is]⟩, ⟨1, false, [.deep is]⟩, ⟨2, false, [.deep is]⟩], []⟩, ⟨[⟨0, false, [.deep .bool]⟩], []⟩, anF Try.f6 [⟨[⟨0, false, [.deep is]⟩, ⟨1, false, [.deep is]⟩, ⟨2, false, [.deep is]⟩, ⟨11, false, [.deep (.sl (.int .u8))]⟩, ⟨13, false, [.deep (.int .u64)]⟩, ⟨14, false, [.deep is]⟩], []⟩]⟩
def f6 (k : Nat) : F6.pre.T → Option F6.post.T := runFn Try.prog ti [Fm.entry Try.prog F8 8 (f8 k), Fm.entry Try.prog F19 19 (f19 k), Fm.entry Try.prog F18 18 (f18 k), Fm.entry Try.prog F9 9 (f9 k), Fm.entry Try.prog F10 10 (f10 k), Fm.entry Try.prog F16 16 (f16 k), Fm.entry Try.prog F13 13 (f13 k)] F6 Try.f6 k
theorem g6 (k : Nat) : EGood Try.prog (Fm.entry Try.prog F6 6 (f6 k)) := good tiok mixed (goods_cons (g8 k) (goods_cons (g19 k) (goods_cons (g18 k) (goods_cons (g9 k) (goods_cons (g10 k) (goods_cons (g16 k) (goods_cons (g13 k) goods_nil))))))) Try.func6 (by kernel_rfl) (by kernel_rfl)
/-! casement/casementlaw14.VmSums -/
abbrev F5 : Fm := ⟨0, ⟨[⟨0, false, [.deep (.sl (.int .u8))]⟩, ⟨1, false, [.deep is]⟩, ⟨2, false, [.deep (.int .u8)]⟩], []⟩, ⟨[⟨0, false, [.deep .bool]⟩], []⟩, anF Try.f5 [⟨[⟨1, false, [.deep is]⟩, ⟨7, false, [.deep is]⟩, ⟨9, false, [.ptr 0]⟩, ⟨11, false, [.ptr 3]⟩, ⟨12, false, [.deep is]⟩, ⟨96, false, [.deep (.sl (.int .u8))]⟩, ⟨97, false, [.deep is]⟩, ⟨98, false, [.deep is]⟩], [Mc 1 2, RB, NF, .cells 35 [.deep S35]]⟩, ⟨[⟨1, false, [.deep is]⟩, ⟨12, false, [.deep is]⟩, ⟨15, false, [.deep (.sl (.int .u8))]⟩, ⟨17, false, [.deep (.sl (.int .u8))]⟩, ⟨19, false, [.deep (.int .u64)]⟩, ⟨20, false, [.deep (.int .u64)]⟩, ⟨21, false, [.deep is]⟩], []⟩]⟩
def f5 (k : Nat) : F5.pre.T → Option F5.post.T := runFn Try.prog ti [Fm.entry Try.prog F8 8 (f8 k), Fm.entry Try.prog F19 19 (f19 k), Fm.entry Try.prog F18 18 (f18 k), Fm.entry Try.prog F9 9 (f9 k), Fm.entry Try.prog F10 10 (f10 k), Fm.entry Try.prog F16 16 (f16 k), Fm.entry Try.prog F13 13 (f13 k)] F5 Try.f5 k
theorem g5 (k : Nat) : EGood Try.prog (Fm.entry Try.prog F5 5 (f5 k)) := good tiok mixed (goods_cons (g8 k) (goods_cons (g19 k) (goods_cons (g18 k) (goods_cons (g9 k) (goods_cons (g10 k) (goods_cons (g16 k) (goods_cons (g13 k) goods_nil))))))) Try.func5 (by kernel_rfl) (by kernel_rfl)
/-! casement/casementlaw14.VmBounds -/
abbrev F7 : Fm := ⟨0, ⟨[⟨0, false, [.deep is]⟩, ⟨1, false, [.deep is]⟩, ⟨2, false, [.deep is]⟩, ⟨3, false, [.deep .bool]⟩], []⟩, ⟨[⟨0, false, [.deep .bool]⟩], []⟩, anF Try.f7 [⟨[⟨1, false, [.deep is]⟩, ⟨2, false, [.deep is]⟩, ⟨10, false, [.deep is]⟩, ⟨17, false, [.deep .bool]⟩, ⟨103, false, [.deep (.sl (.int .u8))]⟩, ⟨104, false, [.deep is]⟩, ⟨105, false, [.deep is]⟩], []⟩]⟩
def f7 (k : Nat) : F7.pre.T → Option F7.post.T := runFn Try.prog ti [Fm.entry Try.prog F8 8 (f8 k), Fm.entry Try.prog F19 19 (f19 k), Fm.entry Try.prog F18 18 (f18 k), Fm.entry Try.prog F9 9 (f9 k), Fm.entry Try.prog F10 10 (f10 k), Fm.entry Try.prog F16 16 (f16 k), Fm.entry Try.prog F13 13 (f13 k)] F7 Try.f7 k
theorem g7 (k : Nat) : EGood Try.prog (Fm.entry Try.prog F7 7 (f7 k)) := good tiok mixed (goods_cons (g8 k) (goods_cons (g19 k) (goods_cons (g18 k) (goods_cons (g9 k) (goods_cons (g10 k) (goods_cons (g16 k) (goods_cons (g13 k) goods_nil))))))) Try.func7 (by kernel_rfl) (by kernel_rfl)
end
end Go.Proofs.Ytjbdeccohpbegaa.Vm
