import Derived.Test.YtopnjcclbepdoaaYG
namespace Go.Proofs.Ytopnjcclbepdoaa.Caps
open Go Go.RowKit Go.Proofs Go.Proofs.Ytopnjcclbepdoaa.X
set_option linter.unusedVariables false
noncomputable section
/-! Capabilities, as the evaluator runs them -/
def anOf : Code → List Sig → An × List Sig
  | .seq a b, l => (.node (anOf a l).1 (anOf b (anOf a l).2).1, (anOf b (anOf a l).2).2)
  | .cond _ a b, l => (.node (anOf a l).1 (anOf b (anOf a l).2).1, (anOf b (anOf a l).2).2)
  | .block _ a, l => anOf a l
  | .loop a, g :: l => (.loop g (anOf a l).1, (anOf a l).2)
  | _, l => (.nil, l)
def anF (f : Func) (l : List Sig) : An := match f.body with
  | some c => (anOf c l).1
  | none => .nil
abbrev is : Sh := .int .i64
abbrev S49 : Sh := .pair (.int .i64) (.pair (.int .i64) (.int .i64))
abbrev S51 : Sh := .pair (.int .i64) (.pair (.int .i64) (.pair (.int .i64) (.pair (.int .i64) (.pair (.int .i64) (.pair (.int .i32) (.pair (.pair (.int .i64) (.pair (.int .i64) (.int .i64))) (.sl (.int .u8))))))))
abbrev S87 : Sh := .pair (.int .i64) (.pair (.sl (.int .u8)) (.sl (.pair (.int .i64) (.pair (.int .i64) (.pair (.int .i64) (.sl (.pair (.int .i64) (.int .i64))))))))
abbrev S91 : Sh := .pair (.int .i64) (.int .i64)
abbrev S103 : Sh := .pair (.int .i32) (.int .i32)
/-! casement/check.function -/
abbrev F49 : Fm := ⟨0, ⟨[⟨0, true, [.deep S87]⟩, ⟨1, false, [.deep is]⟩], []⟩, ⟨[⟨0, false, [.deep .bool]⟩], []⟩, .nil⟩
def f49 (k : Nat) : F49.pre.T → Option F49.post.T := runFn Try.prog ti [] F49 Try.f49 k
theorem g49 (k : Nat) : EGood Try.prog (Fm.entry Try.prog F49 49 (f49 k)) := good tiok mixed goods_nil Try.func49 (by kernel_rfl) (by kernel_rfl)
/-! casement/check.host -/
abbrev F50 : Fm := ⟨0, ⟨[⟨0, false, [.deep is]⟩], []⟩, ⟨[⟨0, false, [.deep is]⟩], []⟩, .nil⟩
def f50 (k : Nat) : F50.pre.T → Option F50.post.T := runFn Try.prog ti [] F50 Try.f50 k
theorem g50 (k : Nat) : EGood Try.prog (Fm.entry Try.prog F50 50 (f50 k)) := good tiok mixed goods_nil Try.func50 (by kernel_rfl) (by kernel_rfl)
/-! casement/check.Effect -/
abbrev F44 : Fm := ⟨0, ⟨[⟨0, true, [.deep S87]⟩, ⟨1, false, [.deep is]⟩, ⟨2, true, [.deep S91]⟩], []⟩, ⟨[⟨0, false, [.deep is]⟩, ⟨1, false, [.deep is]⟩, ⟨2, false, [.deep .bool]⟩], []⟩, .nil⟩
def f44 (k : Nat) : F44.pre.T → Option F44.post.T := runFn Try.prog ti [Fm.entry Try.prog F49 49 (f49 k), Fm.entry Try.prog F50 50 (f50 k)] F44 Try.f44 k
theorem g44 (k : Nat) : EGood Try.prog (Fm.entry Try.prog F44 44 (f44 k)) := good tiok mixed (goods_cons (g49 k) (goods_cons (g50 k) goods_nil)) Try.func44 (by kernel_rfl) (by kernel_rfl)
/-! casement/caps.takes -/
abbrev F37 : Fm := ⟨0, ⟨[⟨0, false, [.deep is]⟩], []⟩, ⟨[⟨0, false, [.deep is]⟩, ⟨1, false, [.deep .bool]⟩], []⟩, .nil⟩
def f37 (k : Nat) : F37.pre.T → Option F37.post.T := runFn Try.prog ti [Fm.entry Try.prog F44 44 (f44 k)] F37 Try.f37 k
theorem g37 (k : Nat) : EGood Try.prog (Fm.entry Try.prog F37 37 (f37 k)) := good tiok mixed (goods_cons (g44 k) goods_nil) Try.func37 (by kernel_rfl) (by kernel_rfl)
/-! casement/caps.Needs -/
abbrev F21 : Fm := ⟨0, ⟨[⟨0, false, [.deep is]⟩], []⟩, ⟨[⟨0, false, [.deep is]⟩], []⟩, .nil⟩
def f21 (k : Nat) : F21.pre.T → Option F21.post.T := runFn Try.prog ti [] F21 Try.f21 k
theorem g21 (k : Nat) : EGood Try.prog (Fm.entry Try.prog F21 21 (f21 k)) := good tiok mixed goods_nil Try.func21 (by kernel_rfl) (by kernel_rfl)
/-! casement/caps.in -/
abbrev F46 : Fm := ⟨0, ⟨[⟨0, false, [.deep is]⟩, ⟨1, false, [.deep is]⟩, ⟨2, false, [.deep is]⟩], []⟩, ⟨[⟨0, false, [.deep .bool]⟩], []⟩, .nil⟩
def f46 (k : Nat) : F46.pre.T → Option F46.post.T := runFn Try.prog ti [] F46 Try.f46 k
theorem g46 (k : Nat) : EGood Try.prog (Fm.entry Try.prog F46 46 (f46 k)) := good tiok mixed goods_nil Try.func46 (by kernel_rfl) (by kernel_rfl)
/-! casement/caps.side -/
abbrev F45 : Fm := ⟨0, ⟨[⟨0, false, [.deep is]⟩, ⟨1, false, [.deep is]⟩], []⟩, ⟨[⟨0, false, [.deep .bool]⟩], []⟩, .nil⟩
def f45 (k : Nat) : F45.pre.T → Option F45.post.T := runFn Try.prog ti [Fm.entry Try.prog F46 46 (f46 k)] F45 Try.f45 k
theorem g45 (k : Nat) : EGood Try.prog (Fm.entry Try.prog F45 45 (f45 k)) := good tiok mixed (goods_cons (g46 k) goods_nil) Try.func45 (by kernel_rfl) (by kernel_rfl)
/-! slices.IndexFunc[[]casement/glyph.span,casement/glyph.span] -/
abbrev F56 : Fm := ⟨1, ⟨[⟨0, true, [.deep S103]⟩, ⟨1, false, [.ptr 0]⟩], [.cells 21 [.deep (.int .i32)]]⟩, ⟨[⟨0, false, [.deep .bool]⟩], []⟩, .nil⟩
def f56 (k : Nat) : F56.pre.T → Option F56.post.T := runFn Try.prog ti [] F56 Try.f56 k
theorem g56 (k : Nat) : EGood Try.prog (Fm.entry Try.prog F56 56 (f56 k)) := good tiok mixed goods_nil Try.func56 (by kernel_rfl) (by kernel_rfl)
abbrev F57 : Fm := ⟨1, ⟨[⟨0, false, [.deep (.sl S103)]⟩, ⟨1, false, [.fn 56 [0]]⟩], [.cells 21 [.deep (.int .i32)]]⟩, ⟨[⟨0, false, [.deep is]⟩], []⟩, anF Try.f57 [⟨[⟨0, false, [.deep (.sl S103)]⟩, ⟨1, false, [.fn 56 [0]]⟩, ⟨7, false, [.deep is]⟩, ⟨8, false, [.deep is]⟩], []⟩]⟩
def f57 (k : Nat) : F57.pre.T → Option F57.post.T := runFn Try.prog ti [Fm.entry Try.prog F56 56 (f56 k)] F57 Try.f57 k
theorem g57 (k : Nat) : EGood Try.prog (Fm.entry Try.prog F57 57 (f57 k)) := good tiok mixed (goods_cons (g56 k) goods_nil) Try.func57 (by kernel_rfl) (by kernel_rfl)
/-! slices.ContainsFunc[[]casement/glyph.span,casement/glyph.span] -/
abbrev F55 : Fm := ⟨1, ⟨[⟨0, false, [.deep (.sl S103)]⟩, ⟨1, false, [.fn 56 [0]]⟩], [.cells 21 [.deep (.int .i32)]]⟩, ⟨[⟨0, false, [.deep .bool]⟩], []⟩, .nil⟩
def f55 (k : Nat) : F55.pre.T → Option F55.post.T := runFn Try.prog ti [Fm.entry Try.prog F57 57 (f57 k)] F55 Try.f55 k
theorem g55 (k : Nat) : EGood Try.prog (Fm.entry Try.prog F55 55 (f55 k)) := good tiok mixed (goods_cons (g57 k) goods_nil) Try.func55 (by kernel_rfl) (by kernel_rfl)
/-! casement/glyph.in -/
abbrev F54 : Fm := ⟨0, ⟨[⟨0, false, [.deep (.int .i32)]⟩, ⟨1, false, [.deep (.sl S103)]⟩], []⟩, ⟨[⟨0, false, [.deep .bool]⟩], []⟩, .nil⟩
def f54 (k : Nat) : F54.pre.T → Option F54.post.T := runFn Try.prog ti [Fm.entry Try.prog F55 55 (f55 k)] F54 Try.f54 k
theorem g54 (k : Nat) : EGood Try.prog (Fm.entry Try.prog F54 54 (f54 k)) := good tiok mixed (goods_cons (g55 k) goods_nil) Try.func54 (by kernel_rfl) (by kernel_rfl)
/-! casement/glyph.none -/
abbrev F51 : Fm := ⟨0, ⟨[⟨0, false, [.deep (.int .i32)]⟩], []⟩, ⟨[⟨0, false, [.deep .bool]⟩], []⟩, .nil⟩
def f51 (k : Nat) : F51.pre.T → Option F51.post.T := runFn Try.prog ti [Fm.entry Try.prog F54 54 (f54 k)] F51 Try.f51 k
theorem g51 (k : Nat) : EGood Try.prog (Fm.entry Try.prog F51 51 (f51 k)) := good tiok mixed (goods_cons (g54 k) goods_nil) Try.func51 (by kernel_rfl) (by kernel_rfl)
/-! casement/glyph.two -/
abbrev F52 : Fm := ⟨0, ⟨[⟨0, false, [.deep (.int .i32)]⟩], []⟩, ⟨[⟨0, false, [.deep .bool]⟩], []⟩, .nil⟩
def f52 (k : Nat) : F52.pre.T → Option F52.post.T := runFn Try.prog ti [Fm.entry Try.prog F54 54 (f54 k)] F52 Try.f52 k
theorem g52 (k : Nat) : EGood Try.prog (Fm.entry Try.prog F52 52 (f52 k)) := good tiok mixed (goods_cons (g54 k) goods_nil) Try.func52 (by kernel_rfl) (by kernel_rfl)
/-! casement/glyph.Width -/
abbrev F47 : Fm := ⟨0, ⟨[⟨0, false, [.deep (.int .i32)]⟩], []⟩, ⟨[⟨0, false, [.deep is]⟩], []⟩, .nil⟩
def f47 (k : Nat) : F47.pre.T → Option F47.post.T := runFn Try.prog ti [Fm.entry Try.prog F51 51 (f51 k), Fm.entry Try.prog F52 52 (f52 k)] F47 Try.f47 k
theorem g47 (k : Nat) : EGood Try.prog (Fm.entry Try.prog F47 47 (f47 k)) := good tiok mixed (goods_cons (g51 k) (goods_cons (g52 k) goods_nil)) Try.func47 (by kernel_rfl) (by kernel_rfl)
/-! casement/sgr.colour -/
abbrev F53 : Fm := ⟨0, ⟨[⟨0, false, [.deep is]⟩], []⟩, ⟨[⟨0, false, [.deep .bool]⟩], []⟩, .nil⟩
def f53 (k : Nat) : F53.pre.T → Option F53.post.T := runFn Try.prog ti [] F53 Try.f53 k
theorem g53 (k : Nat) : EGood Try.prog (Fm.entry Try.prog F53 53 (f53 k)) := good tiok mixed goods_nil Try.func53 (by kernel_rfl) (by kernel_rfl)
/-! casement/sgr.Right -/
abbrev F48 : Fm := ⟨0, ⟨[⟨0, true, [.deep S49]⟩], []⟩, ⟨[⟨0, false, [.deep .bool]⟩], []⟩, .nil⟩
def f48 (k : Nat) : F48.pre.T → Option F48.post.T := runFn Try.prog ti [Fm.entry Try.prog F53 53 (f53 k)] F48 Try.f48 k
theorem g48 (k : Nat) : EGood Try.prog (Fm.entry Try.prog F48 48 (f48 k)) := good tiok mixed (goods_cons (g53 k) goods_nil) Try.func48 (by kernel_rfl) (by kernel_rfl)
/-! (*casement/caps.Call).read -/
abbrev F38 : Fm := ⟨0, ⟨[⟨0, false, [.ptr 0]⟩, ⟨1, false, [.deep (.sl is)]⟩], [.cells 51 [.deep S51]]⟩, ⟨[⟨0, false, [.deep .bool]⟩], [.cells 51 [.deep S51]]⟩, .nil⟩
def f38 (k : Nat) : F38.pre.T → Option F38.post.T := runFn Try.prog ti [Fm.entry Try.prog F45 45 (f45 k), Fm.entry Try.prog F46 46 (f46 k), Fm.entry Try.prog F47 47 (f47 k), Fm.entry Try.prog F48 48 (f48 k)] F38 Try.f38 k
theorem g38 (k : Nat) : EGood Try.prog (Fm.entry Try.prog F38 38 (f38 k)) := good tiok mixed (goods_cons (g45 k) (goods_cons (g46 k) (goods_cons (g47 k) (goods_cons (g48 k) goods_nil)))) Try.func38 (by kernel_rfl) (by kernel_rfl)
/-! slices.Clone[[]byte,byte] -/
abbrev F39 : Fm := ⟨0, ⟨[⟨0, false, [.deep (.sl (.int .u8))]⟩], []⟩, ⟨[⟨0, false, [.deep (.sl (.int .u8))]⟩], []⟩, .nil⟩
def f39 (k : Nat) : F39.pre.T → Option F39.post.T := runFn Try.prog ti [] F39 Try.f39 k
theorem g39 (k : Nat) : EGood Try.prog (Fm.entry Try.prog F39 39 (f39 k)) := good tiok mixed goods_nil Try.func39 (by kernel_rfl) (by kernel_rfl)
/-! casement/caps.Ask -/
abbrev F19 : Fm := ⟨0, ⟨[⟨0, false, [.deep is]⟩, ⟨1, false, [.deep is]⟩, ⟨2, false, [.deep (.sl is)]⟩, ⟨3, false, [.deep (.sl (.int .u8))]⟩], []⟩, ⟨[⟨0, true, [.deep S51]⟩, ⟨1, false, [.deep is]⟩], []⟩, .nil⟩
def f19 (k : Nat) : F19.pre.T → Option F19.post.T := runFn Try.prog ti [Fm.entry Try.prog F37 37 (f37 k), Fm.entry Try.prog F21 21 (f21 k), Fm.entry Try.prog F38 38 (f38 k), Fm.entry Try.prog F39 39 (f39 k)] F19 Try.f19 k
theorem g19 (k : Nat) : EGood Try.prog (Fm.entry Try.prog F19 19 (f19 k)) := good tiok mixed (goods_cons (g37 k) (goods_cons (g21 k) (goods_cons (g38 k) (goods_cons (g39 k) goods_nil)))) Try.func19 (by kernel_rfl) (by kernel_rfl)
/-! casement/caps.Grant -/
abbrev F20 : Fm := ⟨0, ⟨[⟨0, false, [.deep is]⟩, ⟨1, false, [.deep is]⟩], []⟩, ⟨[⟨0, false, [.deep is]⟩], []⟩, .nil⟩
def f20 (k : Nat) : F20.pre.T → Option F20.post.T := runFn Try.prog ti [] F20 Try.f20 k
theorem g20 (k : Nat) : EGood Try.prog (Fm.entry Try.prog F20 20 (f20 k)) := good tiok mixed goods_nil Try.func20 (by kernel_rfl) (by kernel_rfl)
/-! casement/caps.Names -/
abbrev F36 : Fm := ⟨0, ⟨[⟨0, false, [.deep is]⟩], []⟩, ⟨[⟨0, false, [.deep (.sl (.str))]⟩], []⟩, anF Try.f36 [⟨[⟨0, false, [.deep is]⟩, ⟨3, false, [.own 0 (.str)]⟩, ⟨6, false, [.own 1 (.str)]⟩, ⟨7, false, [.deep is]⟩, ⟨8, false, [.deep is]⟩], [.row 9 (.str), .row 9 (.str)]⟩]⟩
def f36 (k : Nat) : F36.pre.T → Option F36.post.T := runFn Try.prog ti [] F36 Try.f36 k
theorem g36 (k : Nat) : EGood Try.prog (Fm.entry Try.prog F36 36 (f36 k)) := good tiok mixed goods_nil Try.func36 (by kernel_rfl) (by kernel_rfl)
/-! casement/casementref01.SameTexts -/
abbrev F14 : Fm := ⟨0, ⟨[⟨0, false, [.deep (.sl (.str))]⟩, ⟨1, false, [.deep (.sl (.str))]⟩], []⟩, ⟨[⟨0, false, [.deep .bool]⟩], []⟩, anF Try.f14 [⟨[⟨0, false, [.deep (.sl (.str))]⟩, ⟨1, false, [.deep (.sl (.str))]⟩, ⟨5, false, [.deep is]⟩], []⟩]⟩
def f14 (k : Nat) : F14.pre.T → Option F14.post.T := runFn Try.prog ti [] F14 Try.f14 k
theorem g14 (k : Nat) : EGood Try.prog (Fm.entry Try.prog F14 14 (f14 k)) := good tiok mixed goods_nil Try.func14 (by kernel_rfl) (by kernel_rfl)
/-! casement/casementlaw15.alive -/
abbrev F18 : Fm := ⟨0, ⟨[], []⟩, ⟨[⟨0, false, [.deep .bool]⟩], []⟩, .nil⟩
def f18 (k : Nat) : F18.pre.T → Option F18.post.T := runFn Try.prog ti [Fm.entry Try.prog F19 19 (f19 k), Fm.entry Try.prog F21 21 (f21 k), Fm.entry Try.prog F20 20 (f20 k), Fm.entry Try.prog F36 36 (f36 k), Fm.entry Try.prog F14 14 (f14 k)] F18 Try.f18 k
theorem g18 (k : Nat) : EGood Try.prog (Fm.entry Try.prog F18 18 (f18 k)) := good tiok mixed (goods_cons (g19 k) (goods_cons (g21 k) (goods_cons (g20 k) (goods_cons (g36 k) (goods_cons (g14 k) goods_nil))))) Try.func18 (by kernel_rfl) (by kernel_rfl)
/-! casement/casementref01.SameBytes -/
abbrev F22 : Fm := ⟨0, ⟨[⟨0, false, [.deep (.sl (.int .u8))]⟩, ⟨1, false, [.deep (.sl (.int .u8))]⟩], []⟩, ⟨[⟨0, false, [.deep .bool]⟩], []⟩, anF Try.f22 [⟨[⟨0, false, [.deep (.sl (.int .u8))]⟩, ⟨1, false, [.deep (.sl (.int .u8))]⟩, ⟨5, false, [.deep is]⟩], []⟩]⟩
def f22 (k : Nat) : F22.pre.T → Option F22.post.T := runFn Try.prog ti [] F22 Try.f22 k
theorem g22 (k : Nat) : EGood Try.prog (Fm.entry Try.prog F22 22 (f22 k)) := good tiok mixed goods_nil Try.func22 (by kernel_rfl) (by kernel_rfl)
/-! casement/casementlaw15.CapsKeeps -/
abbrev F6 : Fm := ⟨0, ⟨[⟨0, false, [.deep is]⟩, ⟨1, false, [.deep is]⟩, ⟨2, false, [.deep is]⟩, ⟨3, false, [.deep (.sl is)]⟩, ⟨4, false, [.deep (.sl is)]⟩, ⟨5, false, [.deep (.sl (.int .u8))]⟩], []⟩, ⟨[⟨0, false, [.deep .bool]⟩], []⟩, .nil⟩
def f6 (k : Nat) : F6.pre.T → Option F6.post.T := runFn Try.prog ti [Fm.entry Try.prog F18 18 (f18 k), Fm.entry Try.prog F19 19 (f19 k), Fm.entry Try.prog F20 20 (f20 k), Fm.entry Try.prog F21 21 (f21 k), Fm.entry Try.prog F22 22 (f22 k)] F6 Try.f6 k
theorem g6 (k : Nat) : EGood Try.prog (Fm.entry Try.prog F6 6 (f6 k)) := good tiok mixed (goods_cons (g18 k) (goods_cons (g19 k) (goods_cons (g20 k) (goods_cons (g21 k) (goods_cons (g22 k) goods_nil))))) Try.func6 (by kernel_rfl) (by kernel_rfl)
/-! casement/casementlaw15.CapsBytes -/
abbrev F7 : Fm := ⟨0, ⟨[⟨0, false, [.deep (.sl (.int .u8))]⟩, ⟨1, false, [.deep is]⟩, ⟨2, false, [.deep is]⟩], []⟩, ⟨[⟨0, false, [.deep .bool]⟩], []⟩, .nil⟩
def f7 (k : Nat) : F7.pre.T → Option F7.post.T := runFn Try.prog ti [Fm.entry Try.prog F18 18 (f18 k), Fm.entry Try.prog F19 19 (f19 k), Fm.entry Try.prog F22 22 (f22 k)] F7 Try.f7 k
theorem g7 (k : Nat) : EGood Try.prog (Fm.entry Try.prog F7 7 (f7 k)) := good tiok mixed (goods_cons (g18 k) (goods_cons (g19 k) (goods_cons (g22 k) goods_nil))) Try.func7 (by kernel_rfl) (by kernel_rfl)
/-! casement/casementlaw15.colour -/
abbrev F23 : Fm := ⟨0, ⟨[⟨0, false, [.deep is]⟩], []⟩, ⟨[⟨0, false, [.deep .bool]⟩], []⟩, .nil⟩
def f23 (k : Nat) : F23.pre.T → Option F23.post.T := runFn Try.prog ti [] F23 Try.f23 k
theorem g23 (k : Nat) : EGood Try.prog (Fm.entry Try.prog F23 23 (f23 k)) := good tiok mixed goods_nil Try.func23 (by kernel_rfl) (by kernel_rfl)
/-! casement/casementref01.IsRune -/
abbrev F40 : Fm := ⟨0, ⟨[⟨0, false, [.deep (.int .i32)]⟩], []⟩, ⟨[⟨0, false, [.deep .bool]⟩], []⟩, .nil⟩
def f40 (k : Nat) : F40.pre.T → Option F40.post.T := runFn Try.prog ti [] F40 Try.f40 k
theorem g40 (k : Nat) : EGood Try.prog (Fm.entry Try.prog F40 40 (f40 k)) := good tiok mixed goods_nil Try.func40 (by kernel_rfl) (by kernel_rfl)
/-! casement/casementref01.Width -/
abbrev F24 : Fm := ⟨0, ⟨[⟨0, false, [.deep (.int .i32)]⟩], []⟩, ⟨[⟨0, false, [.deep is]⟩], []⟩, .nil⟩
def f24 (k : Nat) : F24.pre.T → Option F24.post.T := runFn Try.prog ti [Fm.entry Try.prog F40 40 (f40 k)] F24 Try.f24 k
theorem g24 (k : Nat) : EGood Try.prog (Fm.entry Try.prog F24 24 (f24 k)) := good tiok mixed (goods_cons (g40 k) goods_nil) Try.func24 (by kernel_rfl) (by kernel_rfl)
/-! casement/casementlaw15.CapsStyles -/
abbrev F8 : Fm := ⟨0, ⟨[⟨0, false, [.deep is]⟩, ⟨1, false, [.deep is]⟩, ⟨2, false, [.deep is]⟩, ⟨3, true, [.deep S49]⟩], []⟩, ⟨[⟨0, false, [.deep .bool]⟩], []⟩, .nil⟩
def f8 (k : Nat) : F8.pre.T → Option F8.post.T := runFn Try.prog ti [Fm.entry Try.prog F18 18 (f18 k), Fm.entry Try.prog F19 19 (f19 k), Fm.entry Try.prog F23 23 (f23 k), Fm.entry Try.prog F24 24 (f24 k)] F8 Try.f8 k
theorem g8 (k : Nat) : EGood Try.prog (Fm.entry Try.prog F8 8 (f8 k)) := good tiok mixed (goods_cons (g18 k) (goods_cons (g19 k) (goods_cons (g23 k) (goods_cons (g24 k) goods_nil)))) Try.func8 (by kernel_rfl) (by kernel_rfl)

end
end Go.Proofs.Ytopnjcclbepdoaa.Caps
