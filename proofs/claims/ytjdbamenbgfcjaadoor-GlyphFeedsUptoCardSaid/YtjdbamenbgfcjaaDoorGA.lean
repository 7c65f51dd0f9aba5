import Derived.Test.YtjdbamenbgfcjaaDoorYG
namespace Go.Proofs.YtjdbamenbgfcjaaDoor.Gl
open Go Go.RowKit Go.Proofs Go.Proofs.YtjdbamenbgfcjaaDoor.X
set_option linter.unusedVariables false
noncomputable section
/-! Runes, as the evaluator runs them -/
def anOf : Code → List Sig → An × List Sig
  | .seq a b, l => (.node (anOf a l).1 (anOf b (anOf a l).2).1, (anOf b (anOf a l).2).2)
  | .cond _ a b, l => (.node (anOf a l).1 (anOf b (anOf a l).2).1, (anOf b (anOf a l).2).2)
  | .block _ a, l => anOf a l
  | .loop a, g :: l => (.loop g (anOf a l).1, (anOf a l).2)
  | _, l => (.nil, l)
def anF (f : Func) (l : List Sig) : An := match f.body with
  | some c => (anOf c l).1
  | none => .nil
abbrev is : Sh := .int .i64
abbrev S70 : Sh := .pair (.int .i32) (.int .i32)
/-! slices.Clone[[]byte,byte] -/
abbrev F32 : Fm := ⟨0, ⟨[⟨0, false, [.deep (.sl (.int .u8))]⟩], []⟩, ⟨[⟨0, false, [.own 0 (.int .u8)]⟩], [.row 5 (.int .u8)]⟩, .nil⟩
def f32 (k : Nat) : F32.pre.T → Option F32.post.T := runFn Tryd.prog ti [] F32 Tryd.f32 k
theorem g32 (k : Nat) : EGood Tryd.prog (Fm.entry Tryd.prog F32 32 (f32 k)) := good tiok mixed goods_nil Tryd.func32 (by kernel_rfl) (by kernel_rfl)
/-! unicode/utf8.FullRune -/
abbrev F33 : Fm := ⟨0, ⟨[⟨0, false, [.deep (.sl (.int .u8))]⟩], []⟩, ⟨[⟨0, false, [.deep .bool]⟩], []⟩, .nil⟩
def f33 (k : Nat) : F33.pre.T → Option F33.post.T := runFn Tryd.prog ti [] F33 Tryd.f33 k
theorem g33 (k : Nat) : EGood Tryd.prog (Fm.entry Tryd.prog F33 33 (f33 k)) := good tiok mixed goods_nil Tryd.func33 (by kernel_rfl) (by kernel_rfl)
/-! unicode/utf8.decodeRuneSlow -/
abbrev F39 : Fm := ⟨0, ⟨[⟨0, false, [.deep (.sl (.int .u8))]⟩], []⟩, ⟨[⟨0, false, [.deep (.int .i32)]⟩, ⟨1, false, [.deep is]⟩], []⟩, .nil⟩
def f39 (k : Nat) : F39.pre.T → Option F39.post.T := runFn Tryd.prog ti [] F39 Tryd.f39 k
theorem g39 (k : Nat) : EGood Tryd.prog (Fm.entry Tryd.prog F39 39 (f39 k)) := good tiok mixed goods_nil Tryd.func39 (by kernel_rfl) (by kernel_rfl)
/-! unicode/utf8.DecodeRune -/
abbrev F29 : Fm := ⟨0, ⟨[⟨0, false, [.deep (.sl (.int .u8))]⟩], []⟩, ⟨[⟨0, false, [.deep (.int .i32)]⟩, ⟨1, false, [.deep is]⟩], []⟩, anF Tryd.f29 [⟨[⟨0, false, [.deep (.sl (.int .u8))]⟩, ⟨6, false, [.deep (.sl (.int .u8))]⟩, ⟨7, false, [.deep is]⟩, ⟨8, false, [.deep is]⟩], []⟩]⟩
def f29 (k : Nat) : F29.pre.T → Option F29.post.T := runFn Tryd.prog ti [Fm.entry Tryd.prog F39 39 (f39 k)] F29 Tryd.f29 k
theorem g29 (k : Nat) : EGood Tryd.prog (Fm.entry Tryd.prog F29 29 (f29 k)) := good tiok mixed (goods_cons (g39 k) goods_nil) Tryd.func29 (by kernel_rfl) (by kernel_rfl)
/-! (*casement/glyph.Reader).Feed -/
abbrev F16 : Fm := ⟨0, ⟨[⟨0, false, [.ptr 0]⟩, ⟨1, false, [.deep (.sl (.int .u8))]⟩], [.cells 30 [.deep (.sl (.int .u8))]]⟩, ⟨[⟨0, false, [.deep (.sl (.int .i32))]⟩], [.cells 30 [.deep (.sl (.int .u8))]]⟩, anF Tryd.f16 [⟨[⟨0, false, [.ptr 0]⟩, ⟨5, false, [.own 1 (.int .i32)]⟩, ⟨6, false, [.deep (.sl (.int .u8))]⟩], [.cells 30 [.deep (.sl (.int .u8))], .row 21 (.int .i32)]⟩]⟩
def f16 (k : Nat) : F16.pre.T → Option F16.post.T := runFn Tryd.prog ti [Fm.entry Tryd.prog F32 32 (f32 k), Fm.entry Tryd.prog F33 33 (f33 k), Fm.entry Tryd.prog F29 29 (f29 k)] F16 Tryd.f16 k
theorem g16 (k : Nat) : EGood Tryd.prog (Fm.entry Tryd.prog F16 16 (f16 k)) := good tiok mixed (goods_cons (g32 k) (goods_cons (g33 k) (goods_cons (g29 k) goods_nil))) Tryd.func16 (by kernel_rfl) (by kernel_rfl)
/-! (*casement/glyph.Reader).Waits -/
abbrev F17 : Fm := ⟨1, ⟨[⟨0, false, [.ptr 0]⟩], [.cells 30 [.deep (.sl (.int .u8))]]⟩, ⟨[⟨0, false, [.deep is]⟩], []⟩, .nil⟩
def f17 (k : Nat) : F17.pre.T → Option F17.post.T := runFn Tryd.prog ti [] F17 Tryd.f17 k
theorem g17 (k : Nat) : EGood Tryd.prog (Fm.entry Tryd.prog F17 17 (f17 k)) := good tiok mixed goods_nil Tryd.func17 (by kernel_rfl) (by kernel_rfl)
/-! casement/glyph.in$1 -/
abbrev F47 : Fm := ⟨1, ⟨[⟨0, true, [.deep S70]⟩, ⟨1, false, [.ptr 0]⟩], [.cells 21 [.deep (.int .i32)]]⟩, ⟨[⟨0, false, [.deep .bool]⟩], []⟩, .nil⟩
def f47 (k : Nat) : F47.pre.T → Option F47.post.T := runFn Tryd.prog ti [] F47 Tryd.f47 k
theorem g47 (k : Nat) : EGood Tryd.prog (Fm.entry Tryd.prog F47 47 (f47 k)) := good tiok mixed goods_nil Tryd.func47 (by kernel_rfl) (by kernel_rfl)
/-! slices.IndexFunc[[]casement/glyph.span,casement/glyph.span] -/
abbrev F48 : Fm := ⟨1, ⟨[⟨0, false, [.deep (.sl S70)]⟩, ⟨1, false, [.fn 47 [0]]⟩], [.cells 21 [.deep (.int .i32)]]⟩, ⟨[⟨0, false, [.deep is]⟩], []⟩, anF Tryd.f48 [⟨[⟨0, false, [.deep (.sl S70)]⟩, ⟨1, false, [.fn 47 [0]]⟩, ⟨7, false, [.deep is]⟩, ⟨8, false, [.deep is]⟩], []⟩]⟩
def f48 (k : Nat) : F48.pre.T → Option F48.post.T := runFn Tryd.prog ti [Fm.entry Tryd.prog F47 47 (f47 k)] F48 Tryd.f48 k
theorem g48 (k : Nat) : EGood Tryd.prog (Fm.entry Tryd.prog F48 48 (f48 k)) := good tiok mixed (goods_cons (g47 k) goods_nil) Tryd.func48 (by kernel_rfl) (by kernel_rfl)
/-! slices.ContainsFunc[[]casement/glyph.span,casement/glyph.span] -/
abbrev F46 : Fm := ⟨1, ⟨[⟨0, false, [.deep (.sl S70)]⟩, ⟨1, false, [.fn 47 [0]]⟩], [.cells 21 [.deep (.int .i32)]]⟩, ⟨[⟨0, false, [.deep .bool]⟩], []⟩, .nil⟩
def f46 (k : Nat) : F46.pre.T → Option F46.post.T := runFn Tryd.prog ti [Fm.entry Tryd.prog F48 48 (f48 k)] F46 Tryd.f46 k
theorem g46 (k : Nat) : EGood Tryd.prog (Fm.entry Tryd.prog F46 46 (f46 k)) := good tiok mixed (goods_cons (g48 k) goods_nil) Tryd.func46 (by kernel_rfl) (by kernel_rfl)
/-! casement/glyph.in -/
abbrev F43 : Fm := ⟨0, ⟨[⟨0, false, [.deep (.int .i32)]⟩, ⟨1, false, [.deep (.sl S70)]⟩], []⟩, ⟨[⟨0, false, [.deep .bool]⟩], []⟩, .nil⟩
def f43 (k : Nat) : F43.pre.T → Option F43.post.T := runFn Tryd.prog ti [Fm.entry Tryd.prog F46 46 (f46 k)] F43 Tryd.f43 k
theorem g43 (k : Nat) : EGood Tryd.prog (Fm.entry Tryd.prog F43 43 (f43 k)) := good tiok mixed (goods_cons (g46 k) goods_nil) Tryd.func43 (by kernel_rfl) (by kernel_rfl)
/-! casement/glyph.none -/
abbrev F36 : Fm := ⟨0, ⟨[⟨0, false, [.deep (.int .i32)]⟩], []⟩, ⟨[⟨0, false, [.deep .bool]⟩], []⟩, .nil⟩
def f36 (k : Nat) : F36.pre.T → Option F36.post.T := runFn Tryd.prog ti [Fm.entry Tryd.prog F43 43 (f43 k)] F36 Tryd.f36 k
theorem g36 (k : Nat) : EGood Tryd.prog (Fm.entry Tryd.prog F36 36 (f36 k)) := good tiok mixed (goods_cons (g43 k) goods_nil) Tryd.func36 (by kernel_rfl) (by kernel_rfl)
/-! casement/glyph.two -/
abbrev F37 : Fm := ⟨0, ⟨[⟨0, false, [.deep (.int .i32)]⟩], []⟩, ⟨[⟨0, false, [.deep .bool]⟩], []⟩, .nil⟩
def f37 (k : Nat) : F37.pre.T → Option F37.post.T := runFn Tryd.prog ti [Fm.entry Tryd.prog F43 43 (f43 k)] F37 Tryd.f37 k
theorem g37 (k : Nat) : EGood Tryd.prog (Fm.entry Tryd.prog F37 37 (f37 k)) := good tiok mixed (goods_cons (g43 k) goods_nil) Tryd.func37 (by kernel_rfl) (by kernel_rfl)
/-! casement/glyph.Width -/
abbrev F23 : Fm := ⟨0, ⟨[⟨0, false, [.deep (.int .i32)]⟩], []⟩, ⟨[⟨0, false, [.deep is]⟩], []⟩, .nil⟩
def f23 (k : Nat) : F23.pre.T → Option F23.post.T := runFn Tryd.prog ti [Fm.entry Tryd.prog F36 36 (f36 k), Fm.entry Tryd.prog F37 37 (f37 k)] F23 Tryd.f23 k
theorem g23 (k : Nat) : EGood Tryd.prog (Fm.entry Tryd.prog F23 23 (f23 k)) := good tiok mixed (goods_cons (g36 k) (goods_cons (g37 k) goods_nil)) Tryd.func23 (by kernel_rfl) (by kernel_rfl)
/-! slices.Clone[[]rune,rune] -/
abbrev F38 : Fm := ⟨0, ⟨[⟨0, false, [.deep (.sl (.int .i32))]⟩], []⟩, ⟨[⟨0, false, [.own 0 (.int .i32)]⟩], [.row 21 (.int .i32)]⟩, .nil⟩
def f38 (k : Nat) : F38.pre.T → Option F38.post.T := runFn Tryd.prog ti [] F38 Tryd.f38 k
theorem g38 (k : Nat) : EGood Tryd.prog (Fm.entry Tryd.prog F38 38 (f38 k)) := good tiok mixed goods_nil Tryd.func38 (by kernel_rfl) (by kernel_rfl)
/-! casement/glyph.Cut -/
abbrev F27 : Fm := ⟨0, ⟨[⟨0, false, [.deep (.sl (.int .i32))]⟩, ⟨1, false, [.deep is]⟩], []⟩, ⟨[⟨0, false, [.own 0 (.int .i32)]⟩, ⟨1, false, [.deep is]⟩], [.row 21 (.int .i32)]⟩, anF Tryd.f27 [⟨[⟨0, false, [.deep (.sl (.int .i32))]⟩, ⟨1, false, [.deep is]⟩, ⟨6, false, [.deep is]⟩, ⟨9, false, [.deep (.sl (.int .i32))]⟩, ⟨10, false, [.deep is]⟩, ⟨11, false, [.deep is]⟩], []⟩]⟩
def f27 (k : Nat) : F27.pre.T → Option F27.post.T := runFn Tryd.prog ti [Fm.entry Tryd.prog F23 23 (f23 k), Fm.entry Tryd.prog F38 38 (f38 k)] F27 Tryd.f27 k
theorem g27 (k : Nat) : EGood Tryd.prog (Fm.entry Tryd.prog F27 27 (f27 k)) := good tiok mixed (goods_cons (g23 k) (goods_cons (g38 k) goods_nil)) Tryd.func27 (by kernel_rfl) (by kernel_rfl)
/-! casement/glyph.Runes -/
abbrev F12 : Fm := ⟨0, ⟨[⟨0, false, [.deep (.sl (.int .u8))]⟩], []⟩, ⟨[⟨0, false, [.own 0 (.int .i32)]⟩], [.row 21 (.int .i32)]⟩, anF Tryd.f12 [⟨[⟨0, false, [.deep (.sl (.int .u8))]⟩, ⟨3, false, [.own 0 (.int .i32)]⟩], [.row 21 (.int .i32)]⟩]⟩
def f12 (k : Nat) : F12.pre.T → Option F12.post.T := runFn Tryd.prog ti [Fm.entry Tryd.prog F29 29 (f29 k)] F12 Tryd.f12 k
theorem g12 (k : Nat) : EGood Tryd.prog (Fm.entry Tryd.prog F12 12 (f12 k)) := good tiok mixed (goods_cons (g29 k) goods_nil) Tryd.func12 (by kernel_rfl) (by kernel_rfl)
/-! casement/casementref01.SameRunes -/
abbrev F13 : Fm := ⟨0, ⟨[⟨0, false, [.deep (.sl (.int .i32))]⟩, ⟨1, false, [.deep (.sl (.int .i32))]⟩], []⟩, ⟨[⟨0, false, [.deep .bool]⟩], []⟩, anF Tryd.f13 [⟨[⟨0, false, [.deep (.sl (.int .i32))]⟩, ⟨1, false, [.deep (.sl (.int .i32))]⟩, ⟨5, false, [.deep is]⟩], []⟩]⟩
def f13 (k : Nat) : F13.pre.T → Option F13.post.T := runFn Tryd.prog ti [] F13 Tryd.f13 k
theorem g13 (k : Nat) : EGood Tryd.prog (Fm.entry Tryd.prog F13 13 (f13 k)) := good tiok mixed goods_nil Tryd.func13 (by kernel_rfl) (by kernel_rfl)
/-! casement/glyph.Total -/
abbrev F25 : Fm := ⟨0, ⟨[⟨0, false, [.deep (.sl (.int .i32))]⟩], []⟩, ⟨[⟨0, false, [.deep is]⟩], []⟩, anF Tryd.f25 [⟨[⟨3, false, [.deep is]⟩, ⟨6, false, [.deep (.sl (.int .i32))]⟩, ⟨7, false, [.deep is]⟩, ⟨8, false, [.deep is]⟩], []⟩]⟩
def f25 (k : Nat) : F25.pre.T → Option F25.post.T := runFn Tryd.prog ti [Fm.entry Tryd.prog F23 23 (f23 k)] F25 Tryd.f25 k
theorem g25 (k : Nat) : EGood Tryd.prog (Fm.entry Tryd.prog F25 25 (f25 k)) := good tiok mixed (goods_cons (g23 k) goods_nil) Tryd.func25 (by kernel_rfl) (by kernel_rfl)
/-! math/bits.Mul32 -/
abbrev F44 : Fm := ⟨0, ⟨[⟨0, false, [.deep (.int .u32)]⟩, ⟨1, false, [.deep (.int .u32)]⟩], []⟩, ⟨[⟨0, false, [.deep (.int .u32)]⟩, ⟨1, false, [.deep (.int .u32)]⟩], []⟩, .nil⟩
def f44 (k : Nat) : F44.pre.T → Option F44.post.T := runFn Tryd.prog ti [] F44 Tryd.f44 k
theorem g44 (k : Nat) : EGood Tryd.prog (Fm.entry Tryd.prog F44 44 (f44 k)) := good tiok mixed goods_nil Tryd.func44 (by kernel_rfl) (by kernel_rfl)
/-! math/bits.Mul64 -/
abbrev F45 : Fm := ⟨0, ⟨[⟨0, false, [.deep (.int .u64)]⟩, ⟨1, false, [.deep (.int .u64)]⟩], []⟩, ⟨[⟨0, false, [.deep (.int .u64)]⟩, ⟨1, false, [.deep (.int .u64)]⟩], []⟩, .nil⟩
def f45 (k : Nat) : F45.pre.T → Option F45.post.T := runFn Tryd.prog ti [] F45 Tryd.f45 k
theorem g45 (k : Nat) : EGood Tryd.prog (Fm.entry Tryd.prog F45 45 (f45 k)) := good tiok mixed goods_nil Tryd.func45 (by kernel_rfl) (by kernel_rfl)
/-! math/bits.Mul -/
abbrev F41 : Fm := ⟨0, ⟨[⟨0, false, [.deep (.int .u64)]⟩, ⟨1, false, [.deep (.int .u64)]⟩], []⟩, ⟨[⟨0, false, [.deep (.int .u64)]⟩, ⟨1, false, [.deep (.int .u64)]⟩], []⟩, .nil⟩
def f41 (k : Nat) : F41.pre.T → Option F41.post.T := runFn Tryd.prog ti [Fm.entry Tryd.prog F44 44 (f44 k), Fm.entry Tryd.prog F45 45 (f45 k)] F41 Tryd.f41 k
theorem g41 (k : Nat) : EGood Tryd.prog (Fm.entry Tryd.prog F41 41 (f41 k)) := good tiok mixed (goods_cons (g44 k) (goods_cons (g45 k) goods_nil)) Tryd.func41 (by kernel_rfl) (by kernel_rfl)
/-! slices.Repeat[[]rune,rune] -/
abbrev F34 : Fm := ⟨0, ⟨[⟨0, false, [.deep (.sl (.int .i32))]⟩, ⟨1, false, [.deep is]⟩], []⟩, ⟨[⟨0, false, [.deep (.sl (.int .i32))]⟩], []⟩, anF Tryd.f34 [⟨[⟨7, false, [.own 0 (.int .i32)]⟩, ⟨8, false, [.deep is]⟩], [.row 21 (.int .i32)]⟩]⟩
def f34 (k : Nat) : F34.pre.T → Option F34.post.T := runFn Tryd.prog ti [Fm.entry Tryd.prog F41 41 (f41 k)] F34 Tryd.f34 k
theorem g34 (k : Nat) : EGood Tryd.prog (Fm.entry Tryd.prog F34 34 (f34 k)) := good tiok mixed (goods_cons (g41 k) goods_nil) Tryd.func34 (by kernel_rfl) (by kernel_rfl)
/-! (*casement/glyph.Reader).Rest -/
abbrev F18 : Fm := ⟨0, ⟨[⟨0, false, [.ptr 0]⟩], [.cells 30 [.deep (.sl (.int .u8))]]⟩, ⟨[⟨0, false, [.deep (.sl (.int .i32))]⟩], [.cells 30 [.deep (.sl (.int .u8))]]⟩, .nil⟩
def f18 (k : Nat) : F18.pre.T → Option F18.post.T := runFn Tryd.prog ti [Fm.entry Tryd.prog F34 34 (f34 k)] F18 Tryd.f18 k
theorem g18 (k : Nat) : EGood Tryd.prog (Fm.entry Tryd.prog F18 18 (f18 k)) := good tiok mixed (goods_cons (g34 k) goods_nil) Tryd.func18 (by kernel_rfl) (by kernel_rfl)
/-! unicode/utf8.appendRuneNonASCII -/
abbrev F42 : Fm := ⟨0, ⟨[⟨0, false, [.own 0 (.int .u8)]⟩, ⟨1, false, [.deep (.int .i32)]⟩], [.row 5 (.int .u8)]⟩, ⟨[⟨0, false, [.own 1 (.int .u8)]⟩], [.gone, .row 5 (.int .u8)]⟩, .nil⟩
def f42 (k : Nat) : F42.pre.T → Option F42.post.T := runFn Tryd.prog ti [] F42 Tryd.f42 k
theorem g42 (k : Nat) : EGood Tryd.prog (Fm.entry Tryd.prog F42 42 (f42 k)) := good tiok mixed goods_nil Tryd.func42 (by kernel_rfl) (by kernel_rfl)
/-! unicode/utf8.AppendRune -/
abbrev F35 : Fm := ⟨0, ⟨[⟨0, false, [.own 0 (.int .u8)]⟩, ⟨1, false, [.deep (.int .i32)]⟩], [.row 5 (.int .u8)]⟩, ⟨[⟨0, false, [.own 1 (.int .u8)]⟩], [.gone, .row 5 (.int .u8)]⟩, .nil⟩
def f35 (k : Nat) : F35.pre.T → Option F35.post.T := runFn Tryd.prog ti [Fm.entry Tryd.prog F42 42 (f42 k)] F35 Tryd.f35 k
theorem g35 (k : Nat) : EGood Tryd.prog (Fm.entry Tryd.prog F35 35 (f35 k)) := good tiok mixed (goods_cons (g42 k) goods_nil) Tryd.func35 (by kernel_rfl) (by kernel_rfl)
/-! casement/glyph.Bytes -/
abbrev F19 : Fm := ⟨0, ⟨[⟨0, false, [.deep (.sl (.int .i32))]⟩], []⟩, ⟨[⟨0, false, [.deep (.sl (.int .u8))]⟩], []⟩, anF Tryd.f19 [⟨[⟨3, false, [.own 0 (.int .u8)]⟩, ⟨6, false, [.deep (.sl (.int .i32))]⟩, ⟨7, false, [.deep is]⟩, ⟨8, false, [.deep is]⟩], [.row 5 (.int .u8)]⟩]⟩
def f19 (k : Nat) : F19.pre.T → Option F19.post.T := runFn Tryd.prog ti [Fm.entry Tryd.prog F35 35 (f35 k)] F19 Tryd.f19 k
theorem g19 (k : Nat) : EGood Tryd.prog (Fm.entry Tryd.prog F19 19 (f19 k)) := good tiok mixed (goods_cons (g35 k) goods_nil) Tryd.func19 (by kernel_rfl) (by kernel_rfl)
/-! casement/casementlaw01.alive -/
abbrev F11 : Fm := ⟨0, ⟨[], []⟩, ⟨[⟨0, false, [.deep .bool]⟩], []⟩, .nil⟩
def f11 (k : Nat) : F11.pre.T → Option F11.post.T := runFn Tryd.prog ti [Fm.entry Tryd.prog F16 16 (f16 k), Fm.entry Tryd.prog F17 17 (f17 k), Fm.entry Tryd.prog F27 27 (f27 k), Fm.entry Tryd.prog F12 12 (f12 k), Fm.entry Tryd.prog F13 13 (f13 k), Fm.entry Tryd.prog F23 23 (f23 k), Fm.entry Tryd.prog F25 25 (f25 k), Fm.entry Tryd.prog F18 18 (f18 k), Fm.entry Tryd.prog F19 19 (f19 k)] F11 Tryd.f11 k
theorem g11 (k : Nat) : EGood Tryd.prog (Fm.entry Tryd.prog F11 11 (f11 k)) := good tiok mixed (goods_cons (g16 k) (goods_cons (g17 k) (goods_cons (g27 k) (goods_cons (g12 k) (goods_cons (g13 k) (goods_cons (g23 k) (goods_cons (g25 k) (goods_cons (g18 k) (goods_cons (g19 k) goods_nil))))))))) Tryd.func11 (by kernel_rfl) (by kernel_rfl)
end
end Go.Proofs.YtjdbamenbgfcjaaDoor.Gl
