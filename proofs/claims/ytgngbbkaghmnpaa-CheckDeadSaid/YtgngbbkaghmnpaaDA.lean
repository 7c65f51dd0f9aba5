import Derived.Test.YtgngbbkaghmnpaaYG
namespace Go.Proofs.Ytgngbbkaghmnpaa.Ck
open Go Go.RowKit Go.Proofs Go.Proofs.Ytgngbbkaghmnpaa.X
set_option linter.unusedVariables false
noncomputable section
/-! The check's functions, as the evaluator runs them -/
def anOf : Code → List Sig → An × List Sig
  | .seq a b, l => (.node (anOf a l).1 (anOf b (anOf a l).2).1, (anOf b (anOf a l).2).2)
  | .cond _ a b, l => (.node (anOf a l).1 (anOf b (anOf a l).2).1, (anOf b (anOf a l).2).2)
  | .block _ a, l => anOf a l
  | .loop a, g :: l => (.loop g (anOf a l).1, (anOf a l).2)
  | _, l => (.nil, l)
def anF (f : Func) (l : List Sig) : An := match f.body with
  | some c => (anOf c l).1
  | none => .nil
abbrev is : Sh := .int .i64
abbrev S25 : Sh := .pair (.int .i64) (.pair (.sl (.int .u8)) (.sl (.pair (.int .i64) (.pair (.int .i64) (.pair (.int .i64) (.sl (.pair (.int .i64) (.int .i64))))))))
abbrev S32 : Sh := .pair (.int .i64) (.pair (.int .i64) (.int .i64))
abbrev S42 : Sh := .pair (.int .i64) (.pair (.int .i64) (.pair (.int .i64) (.sl (.pair (.int .i64) (.int .i64)))))
abbrev S46 : Sh := .pair (.int .i64) (.int .i64)
/-! casement/casementlaw13.ins -/
abbrev F15 : Fm := ⟨0, ⟨[⟨0, false, [.deep is]⟩, ⟨1, false, [.deep is]⟩], []⟩, ⟨[⟨0, true, [.deep S46]⟩], []⟩, .nil⟩
def f15 (k : Nat) : F15.pre.T → Option F15.post.T := runFn Try.prog ti [] F15 Try.f15 k
theorem g15 (k : Nat) : EGood Try.prog (Fm.entry Try.prog F15 15 (f15 k)) := good tiok mixed goods_nil Try.func15 (by kernel_rfl) (by kernel_rfl)
/-! casement/casementlaw13.mod -/
abbrev F19 : Fm := ⟨0, ⟨[⟨0, false, [.deep (.sl S46)]⟩], []⟩, ⟨[⟨0, true, [.deep S25]⟩], []⟩, .nil⟩
def f19 (k : Nat) : F19.pre.T → Option F19.post.T := runFn Try.prog ti [] F19 Try.f19 k
theorem g19 (k : Nat) : EGood Try.prog (Fm.entry Try.prog F19 19 (f19 k)) := good tiok mixed goods_nil Try.func19 (by kernel_rfl) (by kernel_rfl)
/-! casement/check.function -/
abbrev F24 : Fm := ⟨0, ⟨[⟨0, true, [.deep S25]⟩, ⟨1, false, [.deep is]⟩], []⟩, ⟨[⟨0, false, [.deep .bool]⟩], []⟩, .nil⟩
def f24 (k : Nat) : F24.pre.T → Option F24.post.T := runFn Try.prog ti [] F24 Try.f24 k
theorem g24 (k : Nat) : EGood Try.prog (Fm.entry Try.prog F24 24 (f24 k)) := good tiok mixed goods_nil Try.func24 (by kernel_rfl) (by kernel_rfl)
/-! casement/check.host -/
abbrev F26 : Fm := ⟨0, ⟨[⟨0, false, [.deep is]⟩], []⟩, ⟨[⟨0, false, [.deep is]⟩], []⟩, .nil⟩
def f26 (k : Nat) : F26.pre.T → Option F26.post.T := runFn Try.prog ti [] F26 Try.f26 k
theorem g26 (k : Nat) : EGood Try.prog (Fm.entry Try.prog F26 26 (f26 k)) := good tiok mixed goods_nil Try.func26 (by kernel_rfl) (by kernel_rfl)
/-! casement/check.Effect -/
abbrev F14 : Fm := ⟨0, ⟨[⟨0, true, [.deep S25]⟩, ⟨1, false, [.deep is]⟩, ⟨2, true, [.deep S46]⟩], []⟩, ⟨[⟨0, false, [.deep is]⟩, ⟨1, false, [.deep is]⟩, ⟨2, false, [.deep .bool]⟩], []⟩, .nil⟩
def f14 (k : Nat) : F14.pre.T → Option F14.post.T := runFn Try.prog ti [Fm.entry Try.prog F24 24 (f24 k), Fm.entry Try.prog F26 26 (f26 k)] F14 Try.f14 k
theorem g14 (k : Nat) : EGood Try.prog (Fm.entry Try.prog F14 14 (f14 k)) := good tiok mixed (goods_cons (g24 k) (goods_cons (g26 k) goods_nil)) Try.func14 (by kernel_rfl) (by kernel_rfl)
/-! slices.Index[[]int,int] -/
abbrev F33 : Fm := ⟨0, ⟨[⟨0, false, [.deep (.sl is)]⟩, ⟨1, false, [.deep is]⟩], []⟩, ⟨[⟨0, false, [.deep is]⟩], []⟩, anF Try.f33 [⟨[⟨0, false, [.deep (.sl is)]⟩, ⟨1, false, [.deep is]⟩, ⟨7, false, [.deep is]⟩, ⟨8, false, [.deep is]⟩], []⟩]⟩
def f33 (k : Nat) : F33.pre.T → Option F33.post.T := runFn Try.prog ti [] F33 Try.f33 k
theorem g33 (k : Nat) : EGood Try.prog (Fm.entry Try.prog F33 33 (f33 k)) := good tiok mixed goods_nil Try.func33 (by kernel_rfl) (by kernel_rfl)
/-! slices.Contains[[]int,int] -/
abbrev F27 : Fm := ⟨0, ⟨[⟨0, false, [.deep (.sl is)]⟩, ⟨1, false, [.deep is]⟩], []⟩, ⟨[⟨0, false, [.deep .bool]⟩], []⟩, .nil⟩
def f27 (k : Nat) : F27.pre.T → Option F27.post.T := runFn Try.prog ti [Fm.entry Try.prog F33 33 (f33 k)] F27 Try.f27 k
theorem g27 (k : Nat) : EGood Try.prog (Fm.entry Try.prog F27 27 (f27 k)) := good tiok mixed (goods_cons (g33 k) goods_nil) Try.func27 (by kernel_rfl) (by kernel_rfl)
/-! casement/module.Has -/
abbrev F17 : Fm := ⟨0, ⟨[⟨0, false, [.deep is]⟩], []⟩, ⟨[⟨0, false, [.deep .bool]⟩], []⟩, .nil⟩
def f17 (k : Nat) : F17.pre.T → Option F17.post.T := runFn Try.prog ti [Fm.entry Try.prog F27 27 (f27 k)] F17 Try.f17 k
theorem g17 (k : Nat) : EGood Try.prog (Fm.entry Try.prog F17 17 (f17 k)) := good tiok mixed (goods_cons (g27 k) goods_nil) Try.func17 (by kernel_rfl) (by kernel_rfl)
/-! casement/module.right -/
abbrev F28 : Fm := ⟨0, ⟨[⟨0, true, [.deep S25]⟩], []⟩, ⟨[⟨0, false, [.deep .bool]⟩], []⟩, anF Try.f28 [⟨[⟨36, false, [.deep (.sl S42)]⟩, ⟨37, false, [.deep is]⟩, ⟨38, false, [.deep is]⟩], []⟩, ⟨[⟨36, false, [.deep (.sl S42)]⟩, ⟨37, false, [.deep is]⟩, ⟨38, false, [.deep is]⟩, ⟨86, false, [.deep (.sl S46)]⟩, ⟨87, false, [.deep is]⟩, ⟨88, false, [.deep is]⟩], []⟩]⟩
def f28 (k : Nat) : F28.pre.T → Option F28.post.T := runFn Try.prog ti [Fm.entry Try.prog F17 17 (f17 k)] F28 Try.f28 k
theorem g28 (k : Nat) : EGood Try.prog (Fm.entry Try.prog F28 28 (f28 k)) := good tiok mixed (goods_cons (g17 k) goods_nil) Try.func28 (by kernel_rfl) (by kernel_rfl)
/-! casement/module.appendNumber -/
abbrev F29 : Fm := ⟨0, ⟨[⟨0, false, [.own 0 (.int .u8)]⟩, ⟨1, false, [.deep is]⟩], [.row 5 (.int .u8)]⟩, ⟨[⟨0, false, [.own 1 (.int .u8)]⟩], [.gone, .row 5 (.int .u8)]⟩, anF Try.f29 [⟨[⟨0, false, [.own 1 (.int .u8)]⟩, ⟨5, false, [.deep (.int .u64)]⟩], [.gone, .row 5 (.int .u8)]⟩]⟩
def f29 (k : Nat) : F29.pre.T → Option F29.post.T := runFn Try.prog ti [] F29 Try.f29 k
theorem g29 (k : Nat) : EGood Try.prog (Fm.entry Try.prog F29 29 (f29 k)) := good tiok mixed goods_nil Try.func29 (by kernel_rfl) (by kernel_rfl)
/-! casement/module.Encode -/
abbrev F18 : Fm := ⟨0, ⟨[⟨0, true, [.deep S25]⟩], []⟩, ⟨[⟨0, false, [.own 0 (.int .u8)]⟩, ⟨1, false, [.deep is]⟩], [.row 5 (.int .u8)]⟩, anF Try.f18 [⟨[⟨4, false, [.own 0 (.int .u8)]⟩, ⟨41, false, [.deep (.sl S42)]⟩, ⟨42, false, [.deep is]⟩, ⟨43, false, [.deep is]⟩], [.row 5 (.int .u8)]⟩, ⟨[⟨4, false, [.own 0 (.int .u8)]⟩, ⟨41, false, [.deep (.sl S42)]⟩, ⟨42, false, [.deep is]⟩, ⟨43, false, [.deep is]⟩, ⟨69, false, [.deep (.sl S46)]⟩, ⟨70, false, [.deep is]⟩, ⟨71, false, [.deep is]⟩], [.row 5 (.int .u8)]⟩]⟩
def f18 (k : Nat) : F18.pre.T → Option F18.post.T := runFn Try.prog ti [Fm.entry Try.prog F28 28 (f28 k), Fm.entry Try.prog F17 17 (f17 k), Fm.entry Try.prog F29 29 (f29 k)] F18 Try.f18 k
theorem g18 (k : Nat) : EGood Try.prog (Fm.entry Try.prog F18 18 (f18 k)) := good tiok mixed (goods_cons (g28 k) (goods_cons (g17 k) (goods_cons (g29 k) goods_nil))) Try.func18 (by kernel_rfl) (by kernel_rfl)
/-! casement/check.static -/
abbrev F20 : Fm := ⟨0, ⟨[⟨0, true, [.deep S25]⟩, ⟨1, false, [.deep is]⟩], []⟩, ⟨[⟨0, false, [.deep is]⟩], []⟩, anF Try.f20 [⟨[⟨1, false, [.deep is]⟩, ⟨2, false, [.ptr 0]⟩, ⟨5, false, [.ptr 1]⟩, ⟨15, false, [.deep (.sl S46)]⟩, ⟨16, false, [.deep is]⟩, ⟨17, false, [.deep is]⟩], [.cells 25 [.deep S25], .cells 42 [.deep S42]]⟩]⟩
def f20 (k : Nat) : F20.pre.T → Option F20.post.T := runFn Try.prog ti [Fm.entry Try.prog F14 14 (f14 k)] F20 Try.f20 k
theorem g20 (k : Nat) : EGood Try.prog (Fm.entry Try.prog F20 20 (f20 k)) := good tiok mixed (goods_cons (g14 k) goods_nil) Try.func20 (by kernel_rfl) (by kernel_rfl)
/-! casement/check.next -/
abbrev F30 : Fm := ⟨0, ⟨[⟨0, false, [.deep is]⟩, ⟨1, true, [.deep S46]⟩], []⟩, ⟨[⟨0, false, [.own 0 is]⟩], [.row 3 is]⟩, .nil⟩
def f30 (k : Nat) : F30.pre.T → Option F30.post.T := runFn Try.prog ti [] F30 Try.f30 k
theorem g30 (k : Nat) : EGood Try.prog (Fm.entry Try.prog F30 30 (f30 k)) := good tiok mixed goods_nil Try.func30 (by kernel_rfl) (by kernel_rfl)
/-! casement/check.heights -/
abbrev F21 : Fm := ⟨0, ⟨[⟨0, true, [.deep S25]⟩, ⟨1, false, [.deep is]⟩], []⟩, ⟨[⟨0, false, [.own 0 is]⟩, ⟨1, false, [.deep .bool]⟩], [.row 3 is]⟩, anF Try.f21 [⟨[⟨1, false, [.deep is]⟩, ⟨2, false, [.ptr 0]⟩, ⟨6, false, [.deep (.sl S46)]⟩, ⟨7, false, [.own 1 is]⟩, ⟨27, false, [.deep is]⟩, ⟨28, false, [.deep is]⟩], [.cells 25 [.deep S25], .row 3 is]⟩, ⟨[⟨1, false, [.deep is]⟩, ⟨2, false, [.ptr 0]⟩, ⟨6, false, [.deep (.sl S46)]⟩, ⟨7, false, [.own 1 is]⟩, ⟨9, false, [.own 2 is]⟩], [.cells 25 [.deep S25], .row 3 is, .row 3 is]⟩, ⟨[⟨1, false, [.deep is]⟩, ⟨2, false, [.ptr 0]⟩, ⟨6, false, [.deep (.sl S46)]⟩, ⟨7, false, [.own 1 is]⟩, ⟨9, false, [.own 2 is]⟩, ⟨12, false, [.deep is]⟩, ⟨14, false, [.deep is]⟩, ⟨94, false, [.own 3 is]⟩, ⟨95, false, [.deep is]⟩, ⟨96, false, [.deep is]⟩], [.cells 25 [.deep S25], .row 3 is, .row 3 is, .row 3 is]⟩]⟩
def f21 (k : Nat) : F21.pre.T → Option F21.post.T := runFn Try.prog ti [Fm.entry Try.prog F14 14 (f14 k), Fm.entry Try.prog F30 30 (f30 k)] F21 Try.f21 k
theorem g21 (k : Nat) : EGood Try.prog (Fm.entry Try.prog F21 21 (f21 k)) := good tiok mixed (goods_cons (g14 k) (goods_cons (g30 k) goods_nil)) Try.func21 (by kernel_rfl) (by kernel_rfl)
/-! casement/check.Check -/
abbrev F9 : Fm := ⟨0, ⟨[⟨0, true, [.deep S25]⟩], []⟩, ⟨[⟨0, true, [.deep S32]⟩], []⟩, anF Try.f9 [⟨[⟨1, false, [.ptr 0]⟩, ⟨2, false, [.ptr 1]⟩, ⟨34, false, [.deep is]⟩, ⟨35, false, [.deep is]⟩], [.cells 25 [.deep S25], .cells 29 [.deep S32]]⟩]⟩
def f9 (k : Nat) : F9.pre.T → Option F9.post.T := runFn Try.prog ti [Fm.entry Try.prog F18 18 (f18 k), Fm.entry Try.prog F20 20 (f20 k), Fm.entry Try.prog F21 21 (f21 k)] F9 Try.f9 k
theorem g9 (k : Nat) : EGood Try.prog (Fm.entry Try.prog F9 9 (f9 k)) := good tiok mixed (goods_cons (g18 k) (goods_cons (g20 k) (goods_cons (g21 k) goods_nil))) Try.func9 (by kernel_rfl) (by kernel_rfl)
/-! casement/check.Heights -/
abbrev F11 : Fm := ⟨0, ⟨[⟨0, true, [.deep S25]⟩, ⟨1, false, [.deep is]⟩], []⟩, ⟨[⟨0, false, [.own 0 is]⟩], [.row 3 is]⟩, .nil⟩
def f11 (k : Nat) : F11.pre.T → Option F11.post.T := runFn Try.prog ti [Fm.entry Try.prog F9 9 (f9 k), Fm.entry Try.prog F24 24 (f24 k), Fm.entry Try.prog F21 21 (f21 k)] F11 Try.f11 k
theorem g11 (k : Nat) : EGood Try.prog (Fm.entry Try.prog F11 11 (f11 k)) := good tiok mixed (goods_cons (g9 k) (goods_cons (g24 k) (goods_cons (g21 k) goods_nil))) Try.func11 (by kernel_rfl) (by kernel_rfl)
/-! casement/casementref01.SameInts -/
abbrev F13 : Fm := ⟨0, ⟨[⟨0, false, [.deep (.sl is)]⟩, ⟨1, false, [.deep (.sl is)]⟩], []⟩, ⟨[⟨0, false, [.deep .bool]⟩], []⟩, anF Try.f13 [⟨[⟨0, false, [.deep (.sl is)]⟩, ⟨1, false, [.deep (.sl is)]⟩, ⟨5, false, [.deep is]⟩], []⟩]⟩
def f13 (k : Nat) : F13.pre.T → Option F13.post.T := runFn Try.prog ti [] F13 Try.f13 k
theorem g13 (k : Nat) : EGood Try.prog (Fm.entry Try.prog F13 13 (f13 k)) := good tiok mixed goods_nil Try.func13 (by kernel_rfl) (by kernel_rfl)
/-! casement/casementlaw13.alive -/
abbrev F8 : Fm := ⟨0, ⟨[], []⟩, ⟨[⟨0, false, [.deep .bool]⟩], []⟩, .nil⟩
def f8 (k : Nat) : F8.pre.T → Option F8.post.T := runFn Try.prog ti [Fm.entry Try.prog F15 15 (f15 k), Fm.entry Try.prog F19 19 (f19 k), Fm.entry Try.prog F14 14 (f14 k), Fm.entry Try.prog F9 9 (f9 k), Fm.entry Try.prog F11 11 (f11 k), Fm.entry Try.prog F13 13 (f13 k)] F8 Try.f8 k
theorem g8 (k : Nat) : EGood Try.prog (Fm.entry Try.prog F8 8 (f8 k)) := good tiok mixed (goods_cons (g15 k) (goods_cons (g19 k) (goods_cons (g14 k) (goods_cons (g9 k) (goods_cons (g11 k) (goods_cons (g13 k) goods_nil)))))) Try.func8 (by kernel_rfl) (by kernel_rfl)
/-! casement/casementlaw13.CheckDead -/
abbrev F6 : Fm := ⟨0, ⟨[⟨0, true, [.deep S25]⟩, ⟨1, false, [.deep (.sl S46)]⟩, ⟨2, false, [.deep is]⟩], []⟩, ⟨[⟨0, false, [.deep .bool]⟩], []⟩, anF Try.f6 [⟨[⟨1, false, [.deep (.sl S46)]⟩, ⟨3, false, [.ptr 0]⟩, ⟨7, false, [.deep is]⟩, ⟨8, false, [.deep is]⟩, ⟨9, false, [.own 3 is]⟩, ⟨10, false, [.own 1 S42]⟩, ⟨11, false, [.own 2 S46]⟩, ⟨57, false, [.deep (.sl S46)]⟩, ⟨58, false, [.deep is]⟩, ⟨59, false, [.deep is]⟩], [.cells 25 [.deep S25], .row 42 S42, .row 46 S46, .row 3 is]⟩, ⟨[⟨8, false, [.deep is]⟩, ⟨9, false, [.own 0 is]⟩, ⟨17, false, [.own 1 is]⟩, ⟨147, false, [.deep is]⟩, ⟨148, false, [.deep is]⟩], [.row 3 is, .row 3 is]⟩]⟩
def f6 (k : Nat) : F6.pre.T → Option F6.post.T := runFn Try.prog ti [Fm.entry Try.prog F8 8 (f8 k), Fm.entry Try.prog F9 9 (f9 k), Fm.entry Try.prog F11 11 (f11 k), Fm.entry Try.prog F15 15 (f15 k), Fm.entry Try.prog F17 17 (f17 k), Fm.entry Try.prog F18 18 (f18 k)] F6 Try.f6 k
theorem g6 (k : Nat) : EGood Try.prog (Fm.entry Try.prog F6 6 (f6 k)) := good tiok mixed (goods_cons (g8 k) (goods_cons (g9 k) (goods_cons (g11 k) (goods_cons (g15 k) (goods_cons (g17 k) (goods_cons (g18 k) goods_nil)))))) Try.func6 (by kernel_rfl) (by kernel_rfl)
end
end Go.Proofs.Ytgngbbkaghmnpaa.Ck
