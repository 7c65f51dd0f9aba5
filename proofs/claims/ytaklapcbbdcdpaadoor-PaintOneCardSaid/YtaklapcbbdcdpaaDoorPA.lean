import Derived.Test.YtaklapcbbdcdpaaDoorYG
namespace Go.Proofs.YtaklapcbbdcdpaaDoor.Pt
open Go Go.RowKit Go.Proofs Go.Proofs.YtaklapcbbdcdpaaDoor.X
set_option linter.unusedVariables false
noncomputable section
/-! The painter, as the evaluator runs it -/
def anOf : Code → List Sig → An × List Sig
  | .seq a b, l => (.node (anOf a l).1 (anOf b (anOf a l).2).1, (anOf b (anOf a l).2).2)
  | .cond _ a b, l => (.node (anOf a l).1 (anOf b (anOf a l).2).1, (anOf b (anOf a l).2).2)
  | .block _ a, l => anOf a l
  | .loop a, g :: l => (.loop g (anOf a l).1, (anOf a l).2)
  | _, l => (.nil, l)
def anF (f : Func) (l : List Sig) : An := match f.body with
  | some c => (anOf c l).1
  | none => .nil
def regId : Code → Option Nat
  | .region id _ _ => some id
  | _ => none
def anCut (cs : List (Nat × Sig)) : Code → List Sig → An × List Sig
  | .seq a b, l => (match regId a with
    | some i => (match cs.find? (fun q => q.1 == i) with
      | some q => (.cut q.2 (anCut cs a l).1 (anCut cs b (anCut cs a l).2).1, (anCut cs b (anCut cs a l).2).2)
      | none => (.node (anCut cs a l).1 (anCut cs b (anCut cs a l).2).1, (anCut cs b (anCut cs a l).2).2))
    | none => (.node (anCut cs a l).1 (anCut cs b (anCut cs a l).2).1, (anCut cs b (anCut cs a l).2).2))
  | .cond _ a b, l => (.node (anCut cs a l).1 (anCut cs b (anCut cs a l).2).1, (anCut cs b (anCut cs a l).2).2)
  | .block _ a, l => anCut cs a l
  | .loop a, g :: l => (.loop g (anCut cs a l).1, (anCut cs a l).2)
  | _, l => (.nil, l)
def anC (f : Func) (cs : List (Nat × Sig)) (l : List Sig) : An := match f.body with
  | some c => (anCut cs c l).1
  | none => .nil
def headReg : Code → Option Nat
  | .region id _ _ => some id
  | .seq a _ => headReg a
  | _ => none
def anBef (cs : List (Nat × Sig)) : Code → List Sig → An × List Sig
  | .seq a b, l => (match (headReg b).bind (fun i => cs.find? (fun q => q.1 == i)) with
    | some q => (.cut q.2 (anBef cs a l).1 (anBef cs b (anBef cs a l).2).1, (anBef cs b (anBef cs a l).2).2)
    | none => (.node (anBef cs a l).1 (anBef cs b (anBef cs a l).2).1, (anBef cs b (anBef cs a l).2).2))
  | .cond _ a b, l => (.node (anBef cs a l).1 (anBef cs b (anBef cs a l).2).1, (anBef cs b (anBef cs a l).2).2)
  | .block _ a, l => anBef cs a l
  | .loop a, g :: l => (.loop g (anBef cs a l).1, (anBef cs a l).2)
  | _, l => (.nil, l)
def anB (f : Func) (cs : List (Nat × Sig)) (l : List Sig) : An := match f.body with
  | some c => (anBef cs c l).1
  | none => .nil
abbrev is : Sh := .int .i64
abbrev S25 : Sh := .pair (.int .i64) (.pair (.int .i64) (.pair (.int .i64) (.int .i64)))
abbrev S32 : Sh := .pair (.int .i64) (.pair (.int .i64) (.pair (.sl (.sl (.pair (.int .i32) (.pair (.int .i64) (.pair (.int .i64) (.int .i64)))))) (.pair (.int .i64) (.pair (.int .i64) (.bool)))))
abbrev S41 : Sh := .pair (.int .i64) (.pair (.int .i64) (.int .i64))
abbrev S43 : Sh := .pair (.int .i32) (.pair (.int .i64) (.pair (.int .i64) (.int .i64)))
abbrev S65 : Sh := .pair (.pair (.int .i64) (.pair (.int .i64) (.pair (.int .i64) (.int .i64)))) (.pair (.int .i64) (.pair (.bool) (.pair (.bool) (.pair (.str) (.pair (.sl (.sl (.pair (.int .i32) (.pair (.int .i64) (.pair (.int .i64) (.int .i64)))))) (.pair (.int .i64) (.pair (.int .i64) (.bool))))))))
abbrev S106 : Sh := .pair (.int .i32) (.int .i32)
abbrev C3 : Sh := .pair (.int .i64) (.pair (.int .i64) .bool)
abbrev NR : OS := .nest 39 [43] (.sl S43)
abbrev RC : OS := .row 43 S43
abbrev Sc (e a : Nat) : OS := .cells e [.deep is, .deep is, .own a (.sl S43), .deep C3]
/-! cmp.isNaN[int] -/
abbrev F46 : Fm := ⟨0, ⟨[⟨0, false, [.deep is]⟩], []⟩, ⟨[⟨0, false, [.deep .bool]⟩], []⟩, .nil⟩
def f46 (k : Nat) : F46.pre.T → Option F46.post.T := runFn Tryd.prog ti [] F46 Tryd.f46 k
theorem g46 (k : Nat) : EGood Tryd.prog (Fm.entry Tryd.prog F46 46 (f46 k)) := good tiok mixed goods_nil Tryd.func46 (by kernel_rfl) (by kernel_rfl)
/-! cmp.Compare[int] -/
abbrev F24 : Fm := ⟨0, ⟨[⟨0, false, [.deep is]⟩, ⟨1, false, [.deep is]⟩], []⟩, ⟨[⟨0, false, [.deep is]⟩], []⟩, .nil⟩
def f24 (k : Nat) : F24.pre.T → Option F24.post.T := runFn Tryd.prog ti [Fm.entry Tryd.prog F46 46 (f46 k)] F24 Tryd.f24 k
theorem g24 (k : Nat) : EGood Tryd.prog (Fm.entry Tryd.prog F24 24 (f24 k)) := good tiok mixed (goods_cons (g46 k) goods_nil) Tryd.func24 (by kernel_rfl) (by kernel_rfl)
/-! casement/paint.Paint$1 -/
abbrev F23 : Fm := ⟨0, ⟨[⟨0, true, [.deep S65]⟩, ⟨1, true, [.deep S65]⟩], []⟩, ⟨[⟨0, false, [.deep is]⟩], []⟩, .nil⟩
def f23 (k : Nat) : F23.pre.T → Option F23.post.T := runFn Tryd.prog ti [Fm.entry Tryd.prog F24 24 (f24 k)] F23 Tryd.f23 k
theorem g23 (k : Nat) : EGood Tryd.prog (Fm.entry Tryd.prog F23 23 (f23 k)) := good tiok mixed (goods_cons (g24 k) goods_nil) Tryd.func23 (by kernel_rfl) (by kernel_rfl)
/-! casement/glyph.in$1 -/
abbrev F77 : Fm := ⟨1, ⟨[⟨0, true, [.deep S106]⟩, ⟨1, false, [.ptr 0]⟩], [.cells 21 [.deep (.int .i32)]]⟩, ⟨[⟨0, false, [.deep .bool]⟩], []⟩, .nil⟩
def f77 (k : Nat) : F77.pre.T → Option F77.post.T := runFn Tryd.prog ti [] F77 Tryd.f77 k
theorem g77 (k : Nat) : EGood Tryd.prog (Fm.entry Tryd.prog F77 77 (f77 k)) := good tiok mixed goods_nil Tryd.func77 (by kernel_rfl) (by kernel_rfl)
/-! slices.IndexFunc[[]casement/glyph.span,casement/glyph.span] -/
abbrev F78 : Fm := ⟨1, ⟨[⟨0, false, [.deep (.sl S106)]⟩, ⟨1, false, [.fn 77 [0]]⟩], [.cells 21 [.deep (.int .i32)]]⟩, ⟨[⟨0, false, [.deep is]⟩], []⟩, anF Tryd.f78 [⟨[⟨0, false, [.deep (.sl S106)]⟩, ⟨1, false, [.fn 77 [0]]⟩, ⟨7, false, [.deep is]⟩, ⟨8, false, [.deep is]⟩], []⟩]⟩
def f78 (k : Nat) : F78.pre.T → Option F78.post.T := runFn Tryd.prog ti [Fm.entry Tryd.prog F77 77 (f77 k)] F78 Tryd.f78 k
theorem g78 (k : Nat) : EGood Tryd.prog (Fm.entry Tryd.prog F78 78 (f78 k)) := good tiok mixed (goods_cons (g77 k) goods_nil) Tryd.func78 (by kernel_rfl) (by kernel_rfl)
/-! slices.ContainsFunc[[]casement/glyph.span,casement/glyph.span] -/
abbrev F76 : Fm := ⟨1, ⟨[⟨0, false, [.deep (.sl S106)]⟩, ⟨1, false, [.fn 77 [0]]⟩], [.cells 21 [.deep (.int .i32)]]⟩, ⟨[⟨0, false, [.deep .bool]⟩], []⟩, .nil⟩
def f76 (k : Nat) : F76.pre.T → Option F76.post.T := runFn Tryd.prog ti [Fm.entry Tryd.prog F78 78 (f78 k)] F76 Tryd.f76 k
theorem g76 (k : Nat) : EGood Tryd.prog (Fm.entry Tryd.prog F76 76 (f76 k)) := good tiok mixed (goods_cons (g78 k) goods_nil) Tryd.func76 (by kernel_rfl) (by kernel_rfl)
/-! casement/glyph.in -/
abbrev F73 : Fm := ⟨0, ⟨[⟨0, false, [.deep (.int .i32)]⟩, ⟨1, false, [.deep (.sl S106)]⟩], []⟩, ⟨[⟨0, false, [.deep .bool]⟩], []⟩, .nil⟩
def f73 (k : Nat) : F73.pre.T → Option F73.post.T := runFn Tryd.prog ti [Fm.entry Tryd.prog F76 76 (f76 k)] F73 Tryd.f73 k
theorem g73 (k : Nat) : EGood Tryd.prog (Fm.entry Tryd.prog F73 73 (f73 k)) := good tiok mixed (goods_cons (g76 k) goods_nil) Tryd.func73 (by kernel_rfl) (by kernel_rfl)
/-! casement/glyph.none -/
abbrev F64 : Fm := ⟨0, ⟨[⟨0, false, [.deep (.int .i32)]⟩], []⟩, ⟨[⟨0, false, [.deep .bool]⟩], []⟩, .nil⟩
def f64 (k : Nat) : F64.pre.T → Option F64.post.T := runFn Tryd.prog ti [Fm.entry Tryd.prog F73 73 (f73 k)] F64 Tryd.f64 k
theorem g64 (k : Nat) : EGood Tryd.prog (Fm.entry Tryd.prog F64 64 (f64 k)) := good tiok mixed (goods_cons (g73 k) goods_nil) Tryd.func64 (by kernel_rfl) (by kernel_rfl)
/-! casement/glyph.two -/
abbrev F65 : Fm := ⟨0, ⟨[⟨0, false, [.deep (.int .i32)]⟩], []⟩, ⟨[⟨0, false, [.deep .bool]⟩], []⟩, .nil⟩
def f65 (k : Nat) : F65.pre.T → Option F65.post.T := runFn Tryd.prog ti [Fm.entry Tryd.prog F73 73 (f73 k)] F65 Tryd.f65 k
theorem g65 (k : Nat) : EGood Tryd.prog (Fm.entry Tryd.prog F65 65 (f65 k)) := good tiok mixed (goods_cons (g73 k) goods_nil) Tryd.func65 (by kernel_rfl) (by kernel_rfl)
/-! casement/glyph.Width -/
abbrev F50 : Fm := ⟨0, ⟨[⟨0, false, [.deep (.int .i32)]⟩], []⟩, ⟨[⟨0, false, [.deep is]⟩], []⟩, .nil⟩
def f50 (k : Nat) : F50.pre.T → Option F50.post.T := runFn Tryd.prog ti [Fm.entry Tryd.prog F64 64 (f64 k), Fm.entry Tryd.prog F65 65 (f65 k)] F50 Tryd.f50 k
theorem g50 (k : Nat) : EGood Tryd.prog (Fm.entry Tryd.prog F50 50 (f50 k)) := good tiok mixed (goods_cons (g64 k) (goods_cons (g65 k) goods_nil)) Tryd.func50 (by kernel_rfl) (by kernel_rfl)
/-! casement/sgr.colour -/
abbrev F67 : Fm := ⟨0, ⟨[⟨0, false, [.deep is]⟩], []⟩, ⟨[⟨0, false, [.deep .bool]⟩], []⟩, .nil⟩
def f67 (k : Nat) : F67.pre.T → Option F67.post.T := runFn Tryd.prog ti [] F67 Tryd.f67 k
theorem g67 (k : Nat) : EGood Tryd.prog (Fm.entry Tryd.prog F67 67 (f67 k)) := good tiok mixed goods_nil Tryd.func67 (by kernel_rfl) (by kernel_rfl)
/-! casement/sgr.Right -/
abbrev F55 : Fm := ⟨0, ⟨[⟨0, true, [.deep S41]⟩], []⟩, ⟨[⟨0, false, [.deep .bool]⟩], []⟩, .nil⟩
def f55 (k : Nat) : F55.pre.T → Option F55.post.T := runFn Tryd.prog ti [Fm.entry Tryd.prog F67 67 (f67 k)] F55 Tryd.f55 k
theorem g55 (k : Nat) : EGood Tryd.prog (Fm.entry Tryd.prog F55 55 (f55 k)) := good tiok mixed (goods_cons (g67 k) goods_nil) Tryd.func55 (by kernel_rfl) (by kernel_rfl)
/-! casement/paint.rightRow -/
abbrev F36 : Fm := ⟨0, ⟨[⟨0, false, [.deep (.sl S43)]⟩], []⟩, ⟨[⟨0, false, [.deep .bool]⟩], []⟩, anF Tryd.f36 [⟨[⟨0, false, [.deep (.sl S43)]⟩, ⟨3, false, [.deep is]⟩], []⟩]⟩
def f36 (k : Nat) : F36.pre.T → Option F36.post.T := runFn Tryd.prog ti [Fm.entry Tryd.prog F50 50 (f50 k), Fm.entry Tryd.prog F55 55 (f55 k)] F36 Tryd.f36 k
theorem g36 (k : Nat) : EGood Tryd.prog (Fm.entry Tryd.prog F36 36 (f36 k)) := good tiok mixed (goods_cons (g50 k) (goods_cons (g55 k) goods_nil)) Tryd.func36 (by kernel_rfl) (by kernel_rfl)
/-! slices.Equal[[]casement/api.Cell,casement/api.Cell] -/
abbrev F43 : Fm := ⟨0, ⟨[⟨0, false, [.deep (.sl S43)]⟩, ⟨1, false, [.deep (.sl S43)]⟩], []⟩, ⟨[⟨0, false, [.deep .bool]⟩], []⟩, anF Tryd.f43 [⟨[⟨0, false, [.deep (.sl S43)]⟩, ⟨1, false, [.deep (.sl S43)]⟩, ⟨12, false, [.deep is]⟩, ⟨13, false, [.deep is]⟩], []⟩]⟩
def f43 (k : Nat) : F43.pre.T → Option F43.post.T := runFn Tryd.prog ti [] F43 Tryd.f43 k
theorem g43 (k : Nat) : EGood Tryd.prog (Fm.entry Tryd.prog F43 43 (f43 k)) := good tiok mixed goods_nil Tryd.func43 (by kernel_rfl) (by kernel_rfl)
/-! casement/casementref01.tail -/
abbrev F70 : Fm := ⟨0, ⟨[⟨0, false, [.deep (.sl (.int .u8))]⟩, ⟨1, false, [.deep is]⟩, ⟨2, false, [.deep (.int .u8)]⟩, ⟨3, false, [.deep (.int .u8)]⟩], []⟩, ⟨[⟨0, false, [.deep .bool]⟩], []⟩, .nil⟩
def f70 (k : Nat) : F70.pre.T → Option F70.post.T := runFn Tryd.prog ti [] F70 Tryd.f70 k
theorem g70 (k : Nat) : EGood Tryd.prog (Fm.entry Tryd.prog F70 70 (f70 k)) := good tiok mixed goods_nil Tryd.func70 (by kernel_rfl) (by kernel_rfl)
/-! casement/casementref01.Whole -/
abbrev F59 : Fm := ⟨0, ⟨[⟨0, false, [.deep (.sl (.int .u8))]⟩], []⟩, ⟨[⟨0, false, [.deep is]⟩, ⟨1, false, [.deep (.int .i32)]⟩], []⟩, .nil⟩
def f59 (k : Nat) : F59.pre.T → Option F59.post.T := runFn Tryd.prog ti [Fm.entry Tryd.prog F70 70 (f70 k)] F59 Tryd.f59 k
theorem g59 (k : Nat) : EGood Tryd.prog (Fm.entry Tryd.prog F59 59 (f59 k)) := good tiok mixed (goods_cons (g70 k) goods_nil) Tryd.func59 (by kernel_rfl) (by kernel_rfl)
/-! casement/casementref01.Runes -/
abbrev F44 : Fm := ⟨0, ⟨[⟨0, false, [.deep (.sl (.int .u8))]⟩], []⟩, ⟨[⟨0, false, [.deep (.sl (.int .i32))]⟩], []⟩, anF Tryd.f44 [⟨[⟨0, false, [.deep (.sl (.int .u8))]⟩, ⟨3, false, [.own 0 (.int .i32)]⟩, ⟨4, false, [.deep is]⟩], [.row 21 (.int .i32)]⟩]⟩
def f44 (k : Nat) : F44.pre.T → Option F44.post.T := runFn Tryd.prog ti [Fm.entry Tryd.prog F59 59 (f59 k)] F44 Tryd.f44 k
theorem g44 (k : Nat) : EGood Tryd.prog (Fm.entry Tryd.prog F44 44 (f44 k)) := good tiok mixed (goods_cons (g59 k) goods_nil) Tryd.func44 (by kernel_rfl) (by kernel_rfl)
/-! casement/casementlaw21.cells -/
abbrev F19 : Fm := ⟨0, ⟨[⟨0, false, [.deep .str]⟩], []⟩, ⟨[⟨0, false, [.deep (.sl S43)]⟩], []⟩, anF Tryd.f19 [⟨[⟨3, false, [.own 0 S43]⟩, ⟨9, false, [.deep (.sl (.int .i32))]⟩, ⟨10, false, [.deep is]⟩, ⟨11, false, [.deep is]⟩], [.row 43 S43]⟩]⟩
def f19 (k : Nat) : F19.pre.T → Option F19.post.T := runFn Tryd.prog ti [Fm.entry Tryd.prog F44 44 (f44 k)] F19 Tryd.f19 k
theorem g19 (k : Nat) : EGood Tryd.prog (Fm.entry Tryd.prog F19 19 (f19 k)) := good tiok mixed (goods_cons (g44 k) goods_nil) Tryd.func19 (by kernel_rfl) (by kernel_rfl)
/-! casement/rect.Clamp -/
abbrev F37 : Fm := ⟨0, ⟨[⟨0, false, [.deep is]⟩, ⟨1, false, [.deep is]⟩, ⟨2, false, [.deep is]⟩], []⟩, ⟨[⟨0, false, [.deep is]⟩], []⟩, .nil⟩
def f37 (k : Nat) : F37.pre.T → Option F37.post.T := runFn Tryd.prog ti [] F37 Tryd.f37 k
theorem g37 (k : Nat) : EGood Tryd.prog (Fm.entry Tryd.prog F37 37 (f37 k)) := good tiok mixed goods_nil Tryd.func37 (by kernel_rfl) (by kernel_rfl)
/-! casement/paint.blank -/
abbrev F39 : Fm := ⟨0, ⟨[], []⟩, ⟨[⟨0, true, [.deep S43]⟩], []⟩, .nil⟩
def f39 (k : Nat) : F39.pre.T → Option F39.post.T := runFn Tryd.prog ti [] F39 Tryd.f39 k
theorem g39 (k : Nat) : EGood Tryd.prog (Fm.entry Tryd.prog F39 39 (f39 k)) := good tiok mixed goods_nil Tryd.func39 (by kernel_rfl) (by kernel_rfl)
/-! math/bits.Mul32 -/
abbrev F68 : Fm := ⟨0, ⟨[⟨0, false, [.deep (.int .u32)]⟩, ⟨1, false, [.deep (.int .u32)]⟩], []⟩, ⟨[⟨0, false, [.deep (.int .u32)]⟩, ⟨1, false, [.deep (.int .u32)]⟩], []⟩, .nil⟩
def f68 (k : Nat) : F68.pre.T → Option F68.post.T := runFn Tryd.prog ti [] F68 Tryd.f68 k
theorem g68 (k : Nat) : EGood Tryd.prog (Fm.entry Tryd.prog F68 68 (f68 k)) := good tiok mixed goods_nil Tryd.func68 (by kernel_rfl) (by kernel_rfl)
/-! math/bits.Mul64 -/
abbrev F69 : Fm := ⟨0, ⟨[⟨0, false, [.deep (.int .u64)]⟩, ⟨1, false, [.deep (.int .u64)]⟩], []⟩, ⟨[⟨0, false, [.deep (.int .u64)]⟩, ⟨1, false, [.deep (.int .u64)]⟩], []⟩, .nil⟩
def f69 (k : Nat) : F69.pre.T → Option F69.post.T := runFn Tryd.prog ti [] F69 Tryd.f69 k
theorem g69 (k : Nat) : EGood Tryd.prog (Fm.entry Tryd.prog F69 69 (f69 k)) := good tiok mixed goods_nil Tryd.func69 (by kernel_rfl) (by kernel_rfl)
/-! math/bits.Mul -/
abbrev F56 : Fm := ⟨0, ⟨[⟨0, false, [.deep (.int .u64)]⟩, ⟨1, false, [.deep (.int .u64)]⟩], []⟩, ⟨[⟨0, false, [.deep (.int .u64)]⟩, ⟨1, false, [.deep (.int .u64)]⟩], []⟩, .nil⟩
def f56 (k : Nat) : F56.pre.T → Option F56.post.T := runFn Tryd.prog ti [Fm.entry Tryd.prog F68 68 (f68 k), Fm.entry Tryd.prog F69 69 (f69 k)] F56 Tryd.f56 k
theorem g56 (k : Nat) : EGood Tryd.prog (Fm.entry Tryd.prog F56 56 (f56 k)) := good tiok mixed (goods_cons (g68 k) (goods_cons (g69 k) goods_nil)) Tryd.func56 (by kernel_rfl) (by kernel_rfl)
/-! slices.Repeat[[]casement/api.Cell,casement/api.Cell] -/
abbrev F38 : Fm := ⟨0, ⟨[⟨0, false, [.deep (.sl S43)]⟩, ⟨1, false, [.deep is]⟩], []⟩, ⟨[⟨0, false, [.own 0 S43]⟩], [RC]⟩, anF Tryd.f38 [⟨[⟨7, false, [.own 0 S43]⟩, ⟨8, false, [.deep is]⟩], [RC]⟩]⟩
def f38 (k : Nat) : F38.pre.T → Option F38.post.T := runFn Tryd.prog ti [Fm.entry Tryd.prog F56 56 (f56 k)] F38 Tryd.f38 k
theorem g38 (k : Nat) : EGood Tryd.prog (Fm.entry Tryd.prog F38 38 (f38 k)) := good tiok mixed (goods_cons (g56 k) goods_nil) Tryd.func38 (by kernel_rfl) (by kernel_rfl)
/-! casement/paint.Blank -/
abbrev F14 : Fm := ⟨0, ⟨[⟨0, false, [.deep is]⟩, ⟨1, false, [.deep is]⟩], []⟩, ⟨[⟨0, true, [.deep is, .deep is, .own 0 (.sl S43), .deep C3]⟩], [NR]⟩, anF Tryd.f14 [⟨[⟨4, false, [.ptr 0]⟩, ⟨5, false, [.ptr 1]⟩, ⟨12, false, [.deep is]⟩, ⟨13, false, [.deep is]⟩], [.cells 30 [.deep S32], Sc 30 2, NR]⟩]⟩
def f14 (k : Nat) : F14.pre.T → Option F14.post.T := runFn Tryd.prog ti [Fm.entry Tryd.prog F37 37 (f37 k), Fm.entry Tryd.prog F39 39 (f39 k), Fm.entry Tryd.prog F38 38 (f38 k)] F14 Tryd.f14 k
theorem g14 (k : Nat) : EGood Tryd.prog (Fm.entry Tryd.prog F14 14 (f14 k)) := good tiok mixed (goods_cons (g37 k) (goods_cons (g39 k) (goods_cons (g38 k) goods_nil))) Tryd.func14 (by kernel_rfl) (by kernel_rfl)
/-! casement/paint.Blank -/
abbrev F114 : Fm := ⟨0, ⟨[⟨0, false, [.deep is]⟩, ⟨1, false, [.deep is]⟩], []⟩, ⟨[⟨0, true, [.deep S32]⟩], []⟩, anF Tryd.f14 [⟨[⟨4, false, [.ptr 0]⟩, ⟨5, false, [.ptr 1]⟩, ⟨12, false, [.deep is]⟩, ⟨13, false, [.deep is]⟩], [.cells 30 [.deep S32], Sc 30 2, NR]⟩]⟩
def f114 (k : Nat) : F114.pre.T → Option F114.post.T := runFn Tryd.prog ti [Fm.entry Tryd.prog F37 37 (f37 k), Fm.entry Tryd.prog F39 39 (f39 k), Fm.entry Tryd.prog F38 38 (f38 k)] F114 Tryd.f14 k
theorem g114 (k : Nat) : EGood Tryd.prog (Fm.entry Tryd.prog F114 14 (f114 k)) := good tiok mixed (goods_cons (g37 k) (goods_cons (g39 k) (goods_cons (g38 k) goods_nil))) Tryd.func14 (by kernel_rfl) (by kernel_rfl)
/-! slices.Clone[[]casement/paint.Pane,casement/paint.Pane] -/
abbrev F21 : Fm := ⟨0, ⟨[⟨0, false, [.deep (.sl S65)]⟩], []⟩, ⟨[⟨0, false, [.own 0 S65]⟩], [.row 28 S65]⟩, .nil⟩
def f21 (k : Nat) : F21.pre.T → Option F21.post.T := runFn Tryd.prog ti [] F21 Tryd.f21 k
theorem g21 (k : Nat) : EGood Tryd.prog (Fm.entry Tryd.prog F21 21 (f21 k)) := good tiok mixed goods_nil Tryd.func21 (by kernel_rfl) (by kernel_rfl)
def c210 (xs : List S65.T) : Option F21.post.T := bif ((([] : List S65.T).length + xs.length) * (112 : Nat)).ble (140737488355328 : Nat) then some ((((), ()), ()), xs, ()) else none
def c21 (g : F21.pre.T) : Option F21.post.T := c210 g.1.1.1
theorem c21_le (g : F21.pre.T) (r : F21.post.T) (h : c21 g = some r) : f21 0 g = some r := by
  obtain ⟨⟨⟨xs, ⟨⟩⟩, ⟨⟩⟩, ⟨⟩⟩ := g
  rw [← h]
  match xs with
  | [] => exact (show f21 0 ((([], ()), ()), ()) = both (c210 []) (c210 []) by kernel_rfl).trans (both_self _)
  | x :: xs => exact (show f21 0 (((x :: xs, ()), ()), ()) = c210 (x :: xs) by kernel_rfl)
theorem h21 : EGood Tryd.prog (Fm.entry Tryd.prog F21 21 c21) := good_le (g21 0) c21_le
/-! slices.insertionSortCmpFunc[casement/paint.Pane] -/
abbrev F60 : Fm := ⟨0, ⟨[⟨0, false, [.own 0 S65]⟩, ⟨1, false, [.deep is]⟩, ⟨2, false, [.deep is]⟩, ⟨3, false, [.fn 23 []]⟩], [.row 28 S65]⟩, ⟨[], [.row 28 S65]⟩, anF Tryd.f60 [⟨[⟨0, false, [.own 0 S65]⟩, ⟨1, false, [.deep is]⟩, ⟨2, false, [.deep is]⟩, ⟨3, false, [.fn 23 []]⟩, ⟨8, false, [.deep is]⟩], [.row 28 S65]⟩, ⟨[⟨0, false, [.own 0 S65]⟩, ⟨1, false, [.deep is]⟩, ⟨2, false, [.deep is]⟩, ⟨3, false, [.fn 23 []]⟩, ⟨8, false, [.deep is]⟩, ⟨9, false, [.deep is]⟩], [.row 28 S65]⟩]⟩
def f60 (k : Nat) : F60.pre.T → Option F60.post.T := runFn Tryd.prog ti [Fm.entry Tryd.prog F23 23 (f23 k)] F60 Tryd.f60 k
theorem g60 (k : Nat) : EGood Tryd.prog (Fm.entry Tryd.prog F60 60 (f60 k)) := good tiok mixed (goods_cons (g23 k) goods_nil) Tryd.func60 (by kernel_rfl) (by kernel_rfl)
/-! slices.stableCmpFunc[casement/paint.Pane] -/
abbrev F45 : Fm := ⟨0, ⟨[⟨0, false, [.own 0 S65]⟩, ⟨1, false, [.deep is]⟩, ⟨2, false, [.fn 23 []]⟩], [.row 28 S65]⟩, ⟨[], [.row 28 S65]⟩, anF Tryd.f45 [⟨[⟨0, false, [.own 0 S65]⟩, ⟨1, false, [.deep is]⟩, ⟨2, false, [.fn 23 []]⟩, ⟨6, false, [.deep is]⟩, ⟨7, false, [.deep is]⟩, ⟨8, false, [.deep is]⟩], [.row 28 S65]⟩, ⟨[⟨0, false, [.own 0 S65]⟩, ⟨1, false, [.deep is]⟩, ⟨2, false, [.fn 23 []]⟩, ⟨6, false, [.deep is]⟩], [.row 28 S65]⟩, ⟨[⟨0, false, [.own 0 S65]⟩, ⟨1, false, [.deep is]⟩, ⟨2, false, [.fn 23 []]⟩, ⟨6, false, [.deep is]⟩, ⟨7, false, [.deep is]⟩, ⟨8, false, [.deep is]⟩], [.row 28 S65]⟩]⟩
def f45 (k : Nat) : F45.pre.T → Option F45.post.T := runFn Tryd.prog ti [Fm.entry Tryd.prog F60 60 (f60 k)] F45 Tryd.f45 k
theorem g45 (k : Nat) : EGood Tryd.prog (Fm.entry Tryd.prog F45 45 (f45 k)) := good tiok mixed (goods_cons (g60 k) goods_nil) Tryd.func45 (by kernel_rfl) (by kernel_rfl)
/-! slices.SortStableFunc[[]casement/paint.Pane,casement/paint.Pane] -/
abbrev F22 : Fm := ⟨0, ⟨[⟨0, false, [.own 0 S65]⟩, ⟨1, false, [.fn 23 []]⟩], [.row 28 S65]⟩, ⟨[], [.row 28 S65]⟩, .nil⟩
def f22 (k : Nat) : F22.pre.T → Option F22.post.T := runFn Tryd.prog ti [Fm.entry Tryd.prog F45 45 (f45 k)] F22 Tryd.f22 k
theorem g22 (k : Nat) : EGood Tryd.prog (Fm.entry Tryd.prog F22 22 (f22 k)) := good tiok mixed (goods_cons (g45 k) goods_nil) Tryd.func22 (by kernel_rfl) (by kernel_rfl)
/-! casement/rect.Clean -/
abbrev F17 : Fm := ⟨0, ⟨[⟨0, true, [.deep S25]⟩], []⟩, ⟨[⟨0, true, [.deep S25]⟩], []⟩, .nil⟩
def f17 (k : Nat) : F17.pre.T → Option F17.post.T := runFn Tryd.prog ti [Fm.entry Tryd.prog F37 37 (f37 k)] F17 Tryd.f17 k
theorem g17 (k : Nat) : EGood Tryd.prog (Fm.entry Tryd.prog F17 17 (f17 k)) := good tiok mixed (goods_cons (g37 k) goods_nil) Tryd.func17 (by kernel_rfl) (by kernel_rfl)
/-! unicode/utf8.decodeRuneSlow -/
abbrev F75 : Fm := ⟨0, ⟨[⟨0, false, [.deep (.sl (.int .u8))]⟩], []⟩, ⟨[⟨0, false, [.deep (.int .i32)]⟩, ⟨1, false, [.deep is]⟩], []⟩, .nil⟩
def f75 (k : Nat) : F75.pre.T → Option F75.post.T := runFn Tryd.prog ti [] F75 Tryd.f75 k
theorem g75 (k : Nat) : EGood Tryd.prog (Fm.entry Tryd.prog F75 75 (f75 k)) := good tiok mixed goods_nil Tryd.func75 (by kernel_rfl) (by kernel_rfl)
/-! unicode/utf8.DecodeRune -/
abbrev F72 : Fm := ⟨0, ⟨[⟨0, false, [.deep (.sl (.int .u8))]⟩], []⟩, ⟨[⟨0, false, [.deep (.int .i32)]⟩, ⟨1, false, [.deep is]⟩], []⟩, anF Tryd.f72 [⟨[⟨0, false, [.deep (.sl (.int .u8))]⟩, ⟨6, false, [.deep (.sl (.int .u8))]⟩, ⟨7, false, [.deep is]⟩, ⟨8, false, [.deep is]⟩], []⟩]⟩
def f72 (k : Nat) : F72.pre.T → Option F72.post.T := runFn Tryd.prog ti [Fm.entry Tryd.prog F75 75 (f75 k)] F72 Tryd.f72 k
theorem g72 (k : Nat) : EGood Tryd.prog (Fm.entry Tryd.prog F72 72 (f72 k)) := good tiok mixed (goods_cons (g75 k) goods_nil) Tryd.func72 (by kernel_rfl) (by kernel_rfl)
/-! casement/glyph.Runes -/
abbrev F62 : Fm := ⟨0, ⟨[⟨0, false, [.deep (.sl (.int .u8))]⟩], []⟩, ⟨[⟨0, false, [.deep (.sl (.int .i32))]⟩], []⟩, anF Tryd.f62 [⟨[⟨0, false, [.deep (.sl (.int .u8))]⟩, ⟨3, false, [.own 0 (.int .i32)]⟩], [.row 21 (.int .i32)]⟩]⟩
def f62 (k : Nat) : F62.pre.T → Option F62.post.T := runFn Tryd.prog ti [Fm.entry Tryd.prog F72 72 (f72 k)] F62 Tryd.f62 k
theorem g62 (k : Nat) : EGood Tryd.prog (Fm.entry Tryd.prog F62 62 (f62 k)) := good tiok mixed (goods_cons (g72 k) goods_nil) Tryd.func62 (by kernel_rfl) (by kernel_rfl)
/-! casement/paint.title -/
abbrev F47 : Fm := ⟨0, ⟨[⟨0, false, [.deep .str]⟩, ⟨1, false, [.deep is]⟩], []⟩, ⟨[⟨0, false, [.deep (.sl S43)]⟩], []⟩, anF Tryd.f47 [⟨[⟨1, false, [.deep is]⟩, ⟨5, false, [.ptr 0]⟩, ⟨6, false, [.own 1 S43]⟩, ⟨16, false, [.deep (.sl (.int .i32))]⟩, ⟨17, false, [.deep is]⟩, ⟨18, false, [.deep is]⟩], [.cells 41 [.deep S41], .row 43 S43]⟩, ⟨[⟨1, false, [.deep is]⟩, ⟨5, false, [.ptr 0]⟩, ⟨6, false, [.own 1 S43]⟩], [.cells 41 [.deep S41], .row 43 S43]⟩]⟩
def f47 (k : Nat) : F47.pre.T → Option F47.post.T := runFn Tryd.prog ti [Fm.entry Tryd.prog F62 62 (f62 k), Fm.entry Tryd.prog F50 50 (f50 k)] F47 Tryd.f47 k
theorem g47 (k : Nat) : EGood Tryd.prog (Fm.entry Tryd.prog F47 47 (f47 k)) := good tiok mixed (goods_cons (g62 k) (goods_cons (g50 k) goods_nil)) Tryd.func47 (by kernel_rfl) (by kernel_rfl)
/-! casement/rect.between -/
abbrev F63 : Fm := ⟨0, ⟨[⟨0, false, [.deep is]⟩, ⟨1, false, [.deep is]⟩, ⟨2, false, [.deep is]⟩, ⟨3, false, [.deep is]⟩], []⟩, ⟨[⟨0, true, [.deep S25]⟩], []⟩, .nil⟩
def f63 (k : Nat) : F63.pre.T → Option F63.post.T := runFn Tryd.prog ti [Fm.entry Tryd.prog F17 17 (f17 k)] F63 Tryd.f63 k
theorem g63 (k : Nat) : EGood Tryd.prog (Fm.entry Tryd.prog F63 63 (f63 k)) := good tiok mixed (goods_cons (g17 k) goods_nil) Tryd.func63 (by kernel_rfl) (by kernel_rfl)
/-! casement/rect.Meet -/
abbrev F48 : Fm := ⟨0, ⟨[⟨0, true, [.deep S25]⟩, ⟨1, true, [.deep S25]⟩], []⟩, ⟨[⟨0, true, [.deep S25]⟩], []⟩, .nil⟩
def f48 (k : Nat) : F48.pre.T → Option F48.post.T := runFn Tryd.prog ti [Fm.entry Tryd.prog F17 17 (f17 k), Fm.entry Tryd.prog F63 63 (f63 k)] F48 Tryd.f48 k
theorem g48 (k : Nat) : EGood Tryd.prog (Fm.entry Tryd.prog F48 48 (f48 k)) := good tiok mixed (goods_cons (g17 k) (goods_cons (g63 k) goods_nil)) Tryd.func48 (by kernel_rfl) (by kernel_rfl)
/-! (casement/paint.Pane).cell -/
abbrev F49 : Fm := ⟨0, ⟨[⟨0, true, [.deep S65]⟩, ⟨1, false, [.deep is]⟩, ⟨2, false, [.deep is]⟩], []⟩, ⟨[⟨0, true, [.deep S43]⟩], []⟩, .nil⟩
def f49 (k : Nat) : F49.pre.T → Option F49.post.T := runFn Tryd.prog ti [Fm.entry Tryd.prog F39 39 (f39 k), Fm.entry Tryd.prog F55 55 (f55 k), Fm.entry Tryd.prog F50 50 (f50 k)] F49 Tryd.f49 k
theorem g49 (k : Nat) : EGood Tryd.prog (Fm.entry Tryd.prog F49 49 (f49 k)) := good tiok mixed (goods_cons (g39 k) (goods_cons (g55 k) (goods_cons (g50 k) goods_nil))) Tryd.func49 (by kernel_rfl) (by kernel_rfl)
/-! (casement/paint.Pane).onto -/
abbrev F25 : Fm := ⟨0, ⟨[⟨0, true, [.deep S65]⟩, ⟨1, true, [.deep is, .deep is, .own 0 (.sl S43), .deep C3]⟩], [NR]⟩, ⟨[], [NR]⟩, anF Tryd.f25 [⟨[⟨2, false, [.ptr 1]⟩, ⟨3, false, [.ptr 2]⟩, ⟨4, false, [.ptr 3]⟩, ⟨5, false, [.deep is]⟩], [NR, .cells 28 [.deep S65], Sc 30 0, .cells 25 [.deep S25]]⟩, ⟨[⟨2, false, [.ptr 1]⟩, ⟨3, false, [.ptr 2]⟩, ⟨4, false, [.ptr 3]⟩, ⟨5, false, [.deep is]⟩, ⟨6, false, [.deep is]⟩], [NR, .cells 28 [.deep S65], Sc 30 0, .cells 25 [.deep S25]]⟩]⟩
def f25 (k : Nat) : F25.pre.T → Option F25.post.T := runFn Tryd.prog ti [Fm.entry Tryd.prog F47 47 (f47 k), Fm.entry Tryd.prog F48 48 (f48 k), Fm.entry Tryd.prog F49 49 (f49 k)] F25 Tryd.f25 k
theorem g25 (k : Nat) : EGood Tryd.prog (Fm.entry Tryd.prog F25 25 (f25 k)) := good tiok mixed (goods_cons (g47 k) (goods_cons (g48 k) (goods_cons (g49 k) goods_nil))) Tryd.func25 (by kernel_rfl) (by kernel_rfl)
/-! casement/rect.Has -/
abbrev F18 : Fm := ⟨0, ⟨[⟨0, true, [.deep S25]⟩, ⟨1, false, [.deep is]⟩, ⟨2, false, [.deep is]⟩], []⟩, ⟨[⟨0, false, [.deep .bool]⟩], []⟩, .nil⟩
def f18 (k : Nat) : F18.pre.T → Option F18.post.T := runFn Tryd.prog ti [Fm.entry Tryd.prog F17 17 (f17 k)] F18 Tryd.f18 k
theorem g18 (k : Nat) : EGood Tryd.prog (Fm.entry Tryd.prog F18 18 (f18 k)) := good tiok mixed (goods_cons (g17 k) goods_nil) Tryd.func18 (by kernel_rfl) (by kernel_rfl)
/-! casement/rect.Sum -/
abbrev F26 : Fm := ⟨0, ⟨[⟨0, false, [.deep is]⟩, ⟨1, false, [.deep is]⟩], []⟩, ⟨[⟨0, false, [.deep is]⟩], []⟩, .nil⟩
def f26 (k : Nat) : F26.pre.T → Option F26.post.T := runFn Tryd.prog ti [] F26 Tryd.f26 k
theorem g26 (k : Nat) : EGood Tryd.prog (Fm.entry Tryd.prog F26 26 (f26 k)) := good tiok mixed goods_nil Tryd.func26 (by kernel_rfl) (by kernel_rfl)
/-! casement/paint.mend -/
abbrev F27 : Fm := ⟨0, ⟨[⟨0, false, [.own 0 S43]⟩], [RC]⟩, ⟨[], [RC]⟩, anF Tryd.f27 [⟨[⟨0, false, [.own 0 S43]⟩, ⟨2, false, [.deep is]⟩], [RC]⟩]⟩
def f27 (k : Nat) : F27.pre.T → Option F27.post.T := runFn Tryd.prog ti [Fm.entry Tryd.prog F50 50 (f50 k)] F27 Tryd.f27 k
theorem g27 (k : Nat) : EGood Tryd.prog (Fm.entry Tryd.prog F27 27 (f27 k)) := good tiok mixed (goods_cons (g50 k) goods_nil) Tryd.func27 (by kernel_rfl) (by kernel_rfl)
/-! casement/paint.Paint -/
abbrev F8 : Fm := ⟨0, ⟨[⟨0, false, [.deep is]⟩, ⟨1, false, [.deep is]⟩, ⟨2, false, [.deep (.sl S65)]⟩], []⟩, ⟨[⟨0, true, [.deep S32]⟩], []⟩, anF Tryd.f8 [⟨[⟨6, false, [.ptr 0]⟩, ⟨7, false, [.ptr 1]⟩, ⟨8, false, [.own 3 S65]⟩, ⟨28, false, [.deep is]⟩, ⟨29, false, [.deep is]⟩], [.cells 30 [.deep S32], Sc 30 2, NR, .row 28 S65]⟩, ⟨[⟨6, false, [.ptr 0]⟩, ⟨7, false, [.ptr 1]⟩, ⟨124, false, [.own 2 (.sl S43)]⟩, ⟨125, false, [.deep is]⟩, ⟨126, false, [.deep is]⟩], [.cells 30 [.deep S32], Sc 30 2, NR]⟩]⟩
def f8 (k : Nat) : F8.pre.T → Option F8.post.T := runFn Tryd.prog ti [Fm.entry Tryd.prog F14 14 (f14 k), Fm.entry Tryd.prog F21 21 c21, Fm.entry Tryd.prog F22 22 (f22 k), Fm.entry Tryd.prog F23 23 (f23 k), Fm.entry Tryd.prog F17 17 (f17 k), Fm.entry Tryd.prog F25 25 (f25 k), Fm.entry Tryd.prog F18 18 (f18 k), Fm.entry Tryd.prog F26 26 (f26 k), Fm.entry Tryd.prog F27 27 (f27 k)] F8 Tryd.f8 k
theorem g8 (k : Nat) : EGood Tryd.prog (Fm.entry Tryd.prog F8 8 (f8 k)) := good tiok mixed (goods_cons (g14 k) (goods_cons h21 (goods_cons (g22 k) (goods_cons (g23 k) (goods_cons (g17 k) (goods_cons (g25 k) (goods_cons (g18 k) (goods_cons (g26 k) (goods_cons (g27 k) goods_nil))))))))) Tryd.func8 (by kernel_rfl) (by kernel_rfl)
/-! casement/casementref06.SameRow -/
abbrev F20 : Fm := ⟨0, ⟨[⟨0, false, [.deep (.sl S43)]⟩, ⟨1, false, [.deep (.sl S43)]⟩], []⟩, ⟨[⟨0, false, [.deep .bool]⟩], []⟩, anF Tryd.f20 [⟨[⟨0, false, [.deep (.sl S43)]⟩, ⟨1, false, [.deep (.sl S43)]⟩, ⟨5, false, [.deep is]⟩], []⟩]⟩
def f20 (k : Nat) : F20.pre.T → Option F20.post.T := runFn Tryd.prog ti [] F20 Tryd.f20 k
theorem g20 (k : Nat) : EGood Tryd.prog (Fm.entry Tryd.prog F20 20 (f20 k)) := good tiok mixed goods_nil Tryd.func20 (by kernel_rfl) (by kernel_rfl)
/-! casement/paint.Right$1 -/
abbrev F35 : Fm := ⟨1, ⟨[⟨0, false, [.deep (.sl S43)]⟩, ⟨1, false, [.ptr 0]⟩], [.cells 30 [.deep S32]]⟩, ⟨[⟨0, false, [.deep .bool]⟩], []⟩, .nil⟩
def f35 (k : Nat) : F35.pre.T → Option F35.post.T := runFn Tryd.prog ti [Fm.entry Tryd.prog F36 36 (f36 k)] F35 Tryd.f35 k
theorem g35 (k : Nat) : EGood Tryd.prog (Fm.entry Tryd.prog F35 35 (f35 k)) := good tiok mixed (goods_cons (g36 k) goods_nil) Tryd.func35 (by kernel_rfl) (by kernel_rfl)
/-! slices.IndexFunc[[][]casement/api.Cell,[]casement/api.Cell] -/
abbrev F54 : Fm := ⟨1, ⟨[⟨0, false, [.deep (.sl (.sl S43))]⟩, ⟨1, false, [.fn 35 [0]]⟩], [.cells 30 [.deep S32]]⟩, ⟨[⟨0, false, [.deep is]⟩], []⟩, anF Tryd.f54 [⟨[⟨0, false, [.deep (.sl (.sl S43))]⟩, ⟨1, false, [.fn 35 [0]]⟩, ⟨7, false, [.deep is]⟩, ⟨8, false, [.deep is]⟩], []⟩]⟩
def f54 (k : Nat) : F54.pre.T → Option F54.post.T := runFn Tryd.prog ti [Fm.entry Tryd.prog F35 35 (f35 k)] F54 Tryd.f54 k
theorem g54 (k : Nat) : EGood Tryd.prog (Fm.entry Tryd.prog F54 54 (f54 k)) := good tiok mixed (goods_cons (g35 k) goods_nil) Tryd.func54 (by kernel_rfl) (by kernel_rfl)
/-! slices.ContainsFunc[[][]casement/api.Cell,[]casement/api.Cell] -/
abbrev F34 : Fm := ⟨1, ⟨[⟨0, false, [.deep (.sl (.sl S43))]⟩, ⟨1, false, [.fn 35 [0]]⟩], [.cells 30 [.deep S32]]⟩, ⟨[⟨0, false, [.deep .bool]⟩], []⟩, .nil⟩
def f34 (k : Nat) : F34.pre.T → Option F34.post.T := runFn Tryd.prog ti [Fm.entry Tryd.prog F54 54 (f54 k)] F34 Tryd.f34 k
theorem g34 (k : Nat) : EGood Tryd.prog (Fm.entry Tryd.prog F34 34 (f34 k)) := good tiok mixed (goods_cons (g54 k) goods_nil) Tryd.func34 (by kernel_rfl) (by kernel_rfl)
/-! casement/paint.Right -/
abbrev F13 : Fm := ⟨0, ⟨[⟨0, true, [.deep S32]⟩], []⟩, ⟨[⟨0, false, [.deep .bool]⟩], []⟩, .nil⟩
def f13 (k : Nat) : F13.pre.T → Option F13.post.T := runFn Tryd.prog ti [Fm.entry Tryd.prog F34 34 (f34 k)] F13 Tryd.f13 k
theorem g13 (k : Nat) : EGood Tryd.prog (Fm.entry Tryd.prog F13 13 (f13 k)) := good tiok mixed (goods_cons (g34 k) goods_nil) Tryd.func13 (by kernel_rfl) (by kernel_rfl)
/-! slices.EqualFunc[[][]casement/api.Cell,[][]casement/api.Cell,[]casement/api.Cell,[]casement/api.Cell] -/
abbrev F42 : Fm := ⟨0, ⟨[⟨0, false, [.deep (.sl (.sl S43))]⟩, ⟨1, false, [.deep (.sl (.sl S43))]⟩, ⟨2, false, [.fn 43 []]⟩], []⟩, ⟨[⟨0, false, [.deep .bool]⟩], []⟩, anF Tryd.f42 [⟨[⟨1, false, [.deep (.sl (.sl S43))]⟩, ⟨2, false, [.fn 43 []]⟩, ⟨15, false, [.deep (.sl (.sl S43))]⟩, ⟨16, false, [.deep is]⟩, ⟨17, false, [.deep is]⟩], []⟩]⟩
def f42 (k : Nat) : F42.pre.T → Option F42.post.T := runFn Tryd.prog ti [Fm.entry Tryd.prog F43 43 (f43 k)] F42 Tryd.f42 k
theorem g42 (k : Nat) : EGood Tryd.prog (Fm.entry Tryd.prog F42 42 (f42 k)) := good tiok mixed (goods_cons (g43 k) goods_nil) Tryd.func42 (by kernel_rfl) (by kernel_rfl)
/-! casement/paint.Same -/
abbrev F16 : Fm := ⟨0, ⟨[⟨0, true, [.deep S32]⟩, ⟨1, true, [.deep S32]⟩], []⟩, ⟨[⟨0, false, [.deep .bool]⟩], []⟩, .nil⟩
def f16 (k : Nat) : F16.pre.T → Option F16.post.T := runFn Tryd.prog ti [Fm.entry Tryd.prog F42 42 (f42 k), Fm.entry Tryd.prog F43 43 (f43 k)] F16 Tryd.f16 k
theorem g16 (k : Nat) : EGood Tryd.prog (Fm.entry Tryd.prog F16 16 (f16 k)) := good tiok mixed (goods_cons (g42 k) (goods_cons (g43 k) goods_nil)) Tryd.func16 (by kernel_rfl) (by kernel_rfl)
/-! casement/casementlaw21.alive -/
abbrev F7 : Fm := ⟨0, ⟨[], []⟩, ⟨[⟨0, false, [.deep .bool]⟩], []⟩, .nil⟩
def f7 (k : Nat) : F7.pre.T → Option F7.post.T := runFn Tryd.prog ti [Fm.entry Tryd.prog F19 19 (f19 k), Fm.entry Tryd.prog F8 8 (f8 k), Fm.entry Tryd.prog F20 20 (f20 k), Fm.entry Tryd.prog F13 13 (f13 k), Fm.entry Tryd.prog F16 16 (f16 k), Fm.entry Tryd.prog F114 14 (f114 k)] F7 Tryd.f7 k
theorem g7 (k : Nat) : EGood Tryd.prog (Fm.entry Tryd.prog F7 7 (f7 k)) := good tiok mixed (goods_cons (g19 k) (goods_cons (g8 k) (goods_cons (g20 k) (goods_cons (g13 k) (goods_cons (g16 k) (goods_cons (g114 k) goods_nil)))))) Tryd.func7 (by kernel_rfl) (by kernel_rfl)
/-! casement/casementlaw21.panes -/
abbrev F10 : Fm := ⟨0, ⟨[⟨0, false, [.deep (.sl S65)]⟩], []⟩, ⟨[⟨0, false, [.deep (.sl S65)]⟩], []⟩, anF Tryd.f10 [⟨[⟨3, false, [.own 0 S65]⟩, ⟨7, false, [.deep (.sl S65)]⟩, ⟨8, false, [.deep is]⟩, ⟨9, false, [.deep is]⟩], [.row 65 S65]⟩]⟩
def f10 (k : Nat) : F10.pre.T → Option F10.post.T := runFn Tryd.prog ti [] F10 Tryd.f10 k
theorem g10 (k : Nat) : EGood Tryd.prog (Fm.entry Tryd.prog F10 10 (f10 k)) := good tiok mixed goods_nil Tryd.func10 (by kernel_rfl) (by kernel_rfl)
/-! casement/casementref01.Between -/
abbrev F28 : Fm := ⟨0, ⟨[⟨0, false, [.deep is]⟩, ⟨1, false, [.deep is]⟩, ⟨2, false, [.deep is]⟩], []⟩, ⟨[⟨0, false, [.deep is]⟩], []⟩, .nil⟩
def f28 (k : Nat) : F28.pre.T → Option F28.post.T := runFn Tryd.prog ti [] F28 Tryd.f28 k
theorem g28 (k : Nat) : EGood Tryd.prog (Fm.entry Tryd.prog F28 28 (f28 k)) := good tiok mixed goods_nil Tryd.func28 (by kernel_rfl) (by kernel_rfl)
/-! casement/casementref02.Clean -/
abbrev F51 : Fm := ⟨0, ⟨[⟨0, true, [.deep S25]⟩], []⟩, ⟨[⟨0, true, [.deep S25]⟩], []⟩, .nil⟩
def f51 (k : Nat) : F51.pre.T → Option F51.post.T := runFn Tryd.prog ti [Fm.entry Tryd.prog F28 28 (f28 k)] F51 Tryd.f51 k
theorem g51 (k : Nat) : EGood Tryd.prog (Fm.entry Tryd.prog F51 51 (f51 k)) := good tiok mixed (goods_cons (g28 k) goods_nil) Tryd.func51 (by kernel_rfl) (by kernel_rfl)
/-! casement/casementref21.order -/
abbrev F29 : Fm := ⟨0, ⟨[⟨0, false, [.deep (.sl S65)]⟩], []⟩, ⟨[⟨0, false, [.deep (.sl S65)]⟩], []⟩, anF Tryd.f29 [⟨[⟨0, false, [.deep (.sl S65)]⟩, ⟨3, false, [.own 0 S65]⟩, ⟨4, false, [.deep is]⟩], [.row 65 S65]⟩, ⟨[⟨0, false, [.deep (.sl S65)]⟩, ⟨3, false, [.own 0 S65]⟩, ⟨4, false, [.deep is]⟩, ⟨5, false, [.deep is]⟩], [.row 65 S65]⟩, ⟨[⟨0, false, [.deep (.sl S65)]⟩, ⟨3, false, [.own 0 S65]⟩, ⟨4, false, [.deep is]⟩, ⟨5, false, [.deep is]⟩, ⟨6, false, [.deep is]⟩, ⟨7, false, [.deep is]⟩], [.row 65 S65]⟩]⟩
def f29 (k : Nat) : F29.pre.T → Option F29.post.T := runFn Tryd.prog ti [Fm.entry Tryd.prog F51 51 (f51 k)] F29 Tryd.f29 k
theorem g29 (k : Nat) : EGood Tryd.prog (Fm.entry Tryd.prog F29 29 (f29 k)) := good tiok mixed (goods_cons (g51 k) goods_nil) Tryd.func29 (by kernel_rfl) (by kernel_rfl)
/-! casement/casementref02.Has -/
abbrev F30 : Fm := ⟨0, ⟨[⟨0, true, [.deep S25]⟩, ⟨1, false, [.deep is]⟩, ⟨2, false, [.deep is]⟩], []⟩, ⟨[⟨0, false, [.deep .bool]⟩], []⟩, .nil⟩
def f30 (k : Nat) : F30.pre.T → Option F30.post.T := runFn Tryd.prog ti [] F30 Tryd.f30 k
theorem g30 (k : Nat) : EGood Tryd.prog (Fm.entry Tryd.prog F30 30 (f30 k)) := good tiok mixed goods_nil Tryd.func30 (by kernel_rfl) (by kernel_rfl)
/-! casement/casementref01.IsRune -/
abbrev F58 : Fm := ⟨0, ⟨[⟨0, false, [.deep (.int .i32)]⟩], []⟩, ⟨[⟨0, false, [.deep .bool]⟩], []⟩, .nil⟩
def f58 (k : Nat) : F58.pre.T → Option F58.post.T := runFn Tryd.prog ti [] F58 Tryd.f58 k
theorem g58 (k : Nat) : EGood Tryd.prog (Fm.entry Tryd.prog F58 58 (f58 k)) := good tiok mixed goods_nil Tryd.func58 (by kernel_rfl) (by kernel_rfl)
/-! casement/casementref01.Width -/
abbrev F41 : Fm := ⟨0, ⟨[⟨0, false, [.deep (.int .i32)]⟩], []⟩, ⟨[⟨0, false, [.deep is]⟩], []⟩, anC Tryd.f41 [(1, ⟨[⟨0, false, [.deep (.int .i32)]⟩, ⟨44, false, [.deep .bool]⟩], []⟩), (3, ⟨[⟨0, false, [.deep (.int .i32)]⟩, ⟨3, false, [.deep .bool]⟩], []⟩), (4, ⟨[⟨0, false, [.deep (.int .i32)]⟩, ⟨3, false, [.deep .bool]⟩, ⟨4, false, [.deep .bool]⟩], []⟩), (5, ⟨[⟨3, false, [.deep .bool]⟩, ⟨4, false, [.deep .bool]⟩, ⟨5, false, [.deep .bool]⟩], []⟩), (6, ⟨[⟨133, false, [.deep .bool]⟩], []⟩)] []⟩
def f41 (k : Nat) : F41.pre.T → Option F41.post.T := runFn Tryd.prog ti [Fm.entry Tryd.prog F58 58 (f58 k)] F41 Tryd.f41 k
theorem g41 (k : Nat) : EGood Tryd.prog (Fm.entry Tryd.prog F41 41 (f41 k)) := good tiok mixed (goods_cons (g58 k) goods_nil) Tryd.func41 (by kernel_rfl) (by kernel_rfl)
/-! casement/casementref01.Cut -/
abbrev F66 : Fm := ⟨0, ⟨[⟨0, false, [.deep (.sl (.int .i32))]⟩, ⟨1, false, [.deep is]⟩], []⟩, ⟨[⟨0, false, [.deep (.sl (.int .i32))]⟩, ⟨1, false, [.deep is]⟩], []⟩, anF Tryd.f66 [⟨[⟨0, false, [.deep (.sl (.int .i32))]⟩, ⟨1, false, [.deep is]⟩, ⟨6, false, [.deep is]⟩, ⟨7, false, [.own 0 (.int .i32)]⟩, ⟨8, false, [.deep is]⟩], [.row 21 (.int .i32)]⟩]⟩
def f66 (k : Nat) : F66.pre.T → Option F66.post.T := runFn Tryd.prog ti [Fm.entry Tryd.prog F41 41 (f41 k)] F66 Tryd.f66 k
theorem g66 (k : Nat) : EGood Tryd.prog (Fm.entry Tryd.prog F66 66 (f66 k)) := good tiok mixed (goods_cons (g41 k) goods_nil) Tryd.func66 (by kernel_rfl) (by kernel_rfl)
/-! casement/casementref21.titled -/
abbrev F52 : Fm := ⟨0, ⟨[⟨0, false, [.deep .str]⟩, ⟨1, false, [.deep is]⟩], []⟩, ⟨[⟨0, false, [.deep (.sl S43)]⟩], []⟩, anF Tryd.f52 [⟨[⟨1, false, [.deep is]⟩, ⟨5, false, [.ptr 0]⟩, ⟨6, false, [.own 1 S43]⟩, ⟨7, false, [.deep (.sl (.int .i32))]⟩, ⟨8, false, [.own 2 (.int .i32)]⟩, ⟨9, false, [.deep is]⟩], [.cells 41 [.deep S41], .row 43 S43, .row 21 (.int .i32)]⟩, ⟨[⟨1, false, [.deep is]⟩, ⟨5, false, [.ptr 0]⟩, ⟨6, false, [.own 1 S43]⟩, ⟨10, false, [.deep (.sl (.int .i32))]⟩, ⟨12, false, [.deep is]⟩], [.cells 41 [.deep S41], .row 43 S43]⟩, ⟨[⟨1, false, [.deep is]⟩, ⟨5, false, [.ptr 0]⟩, ⟨6, false, [.own 1 S43]⟩], [.cells 41 [.deep S41], .row 43 S43]⟩]⟩
def f52 (k : Nat) : F52.pre.T → Option F52.post.T := runFn Tryd.prog ti [Fm.entry Tryd.prog F44 44 (f44 k), Fm.entry Tryd.prog F41 41 (f41 k), Fm.entry Tryd.prog F66 66 (f66 k)] F52 Tryd.f52 k
theorem g52 (k : Nat) : EGood Tryd.prog (Fm.entry Tryd.prog F52 52 (f52 k)) := good tiok mixed (goods_cons (g44 k) (goods_cons (g41 k) (goods_cons (g66 k) goods_nil))) Tryd.func52 (by kernel_rfl) (by kernel_rfl)
/-! casement/casementref05.colour -/
abbrev F57 : Fm := ⟨0, ⟨[⟨0, false, [.deep is]⟩], []⟩, ⟨[⟨0, false, [.deep .bool]⟩], []⟩, .nil⟩
def f57 (k : Nat) : F57.pre.T → Option F57.post.T := runFn Tryd.prog ti [] F57 Tryd.f57 k
theorem g57 (k : Nat) : EGood Tryd.prog (Fm.entry Tryd.prog F57 57 (f57 k)) := good tiok mixed goods_nil Tryd.func57 (by kernel_rfl) (by kernel_rfl)
/-! casement/casementref05.Right -/
abbrev F40 : Fm := ⟨0, ⟨[⟨0, true, [.deep S41]⟩], []⟩, ⟨[⟨0, false, [.deep .bool]⟩], []⟩, .nil⟩
def f40 (k : Nat) : F40.pre.T → Option F40.post.T := runFn Tryd.prog ti [Fm.entry Tryd.prog F57 57 (f57 k)] F40 Tryd.f40 k
theorem g40 (k : Nat) : EGood Tryd.prog (Fm.entry Tryd.prog F40 40 (f40 k)) := good tiok mixed (goods_cons (g57 k) goods_nil) Tryd.func40 (by kernel_rfl) (by kernel_rfl)
/-! casement/casementref21.cell -/
abbrev F31 : Fm := ⟨0, ⟨[⟨0, true, [.deep S65]⟩, ⟨1, false, [.deep is]⟩, ⟨2, false, [.deep is]⟩], []⟩, ⟨[⟨0, true, [.deep S43]⟩], []⟩, .nil⟩
def f31 (k : Nat) : F31.pre.T → Option F31.post.T := runFn Tryd.prog ti [Fm.entry Tryd.prog F52 52 (f52 k), Fm.entry Tryd.prog F40 40 (f40 k), Fm.entry Tryd.prog F41 41 (f41 k)] F31 Tryd.f31 k
theorem g31 (k : Nat) : EGood Tryd.prog (Fm.entry Tryd.prog F31 31 (f31 k)) := good tiok mixed (goods_cons (g52 k) (goods_cons (g40 k) (goods_cons (g41 k) goods_nil))) Tryd.func31 (by kernel_rfl) (by kernel_rfl)
/-! casement/casementref06.wide -/
abbrev F53 : Fm := ⟨0, ⟨[⟨0, true, [.deep S43]⟩], []⟩, ⟨[⟨0, false, [.deep .bool]⟩], []⟩, .nil⟩
def f53 (k : Nat) : F53.pre.T → Option F53.post.T := runFn Tryd.prog ti [Fm.entry Tryd.prog F41 41 (f41 k)] F53 Tryd.f53 k
theorem g53 (k : Nat) : EGood Tryd.prog (Fm.entry Tryd.prog F53 53 (f53 k)) := good tiok mixed (goods_cons (g41 k) goods_nil) Tryd.func53 (by kernel_rfl) (by kernel_rfl)
/-! casement/casementref06.Mend -/
abbrev F32 : Fm := ⟨0, ⟨[⟨0, false, [.deep (.sl S43)]⟩], []⟩, ⟨[⟨0, false, [.deep (.sl S43)]⟩], []⟩, anF Tryd.f32 [⟨[⟨0, false, [.deep (.sl S43)]⟩, ⟨3, false, [.own 0 S43]⟩, ⟨4, false, [.deep is]⟩], [.row 43 S43]⟩]⟩
def f32 (k : Nat) : F32.pre.T → Option F32.post.T := runFn Tryd.prog ti [Fm.entry Tryd.prog F53 53 (f53 k)] F32 Tryd.f32 k
theorem g32 (k : Nat) : EGood Tryd.prog (Fm.entry Tryd.prog F32 32 (f32 k)) := good tiok mixed (goods_cons (g53 k) goods_nil) Tryd.func32 (by kernel_rfl) (by kernel_rfl)
/-! casement/casementref02.Sum -/
abbrev F33 : Fm := ⟨0, ⟨[⟨0, false, [.deep is]⟩, ⟨1, false, [.deep is]⟩], []⟩, ⟨[⟨0, false, [.deep is]⟩], []⟩, .nil⟩
def f33 (k : Nat) : F33.pre.T → Option F33.post.T := runFn Tryd.prog ti [] F33 Tryd.f33 k
theorem g33 (k : Nat) : EGood Tryd.prog (Fm.entry Tryd.prog F33 33 (f33 k)) := good tiok mixed goods_nil Tryd.func33 (by kernel_rfl) (by kernel_rfl)
/-! casement/casementref21.Paint -/
abbrev F9 : Fm := ⟨0, ⟨[⟨0, false, [.deep is]⟩, ⟨1, false, [.deep is]⟩, ⟨2, false, [.deep (.sl S65)]⟩], []⟩, ⟨[⟨0, true, [.deep S32]⟩], []⟩, anF Tryd.f9 [⟨[⟨6, false, [.ptr 0]⟩, ⟨7, false, [.ptr 1]⟩, ⟨8, false, [.deep (.sl S65)]⟩, ⟨9, false, [.deep is]⟩], [.cells 32 [.deep S32], .cells 32 [.deep S32]]⟩, ⟨[⟨6, false, [.ptr 0]⟩, ⟨7, false, [.ptr 1]⟩, ⟨8, false, [.deep (.sl S65)]⟩, ⟨9, false, [.deep is]⟩, ⟨10, false, [.own 2 S43]⟩, ⟨11, false, [.deep is]⟩], [.cells 32 [.deep S32], .cells 32 [.deep S32], .row 43 S43]⟩, ⟨[⟨6, false, [.ptr 0]⟩, ⟨7, false, [.ptr 1]⟩, ⟨8, false, [.deep (.sl S65)]⟩, ⟨9, false, [.deep is]⟩, ⟨10, false, [.own 2 S43]⟩, ⟨11, false, [.deep is]⟩, ⟨12, false, [.ptr 3]⟩, ⟨13, false, [.deep is]⟩], [.cells 32 [.deep S32], .cells 32 [.deep S32], .row 43 S43, .cells 43 [.deep S43]]⟩, ⟨[⟨6, false, [.ptr 0]⟩, ⟨7, false, [.ptr 1]⟩, ⟨8, false, [.deep (.sl S65)]⟩, ⟨9, false, [.deep is]⟩, ⟨10, false, [.own 2 S43]⟩, ⟨14, false, [.own 3 S43]⟩, ⟨15, false, [.deep is]⟩], [.cells 32 [.deep S32], .cells 32 [.deep S32], .row 43 S43, .row 43 S43]⟩, ⟨[⟨6, false, [.ptr 0]⟩, ⟨7, false, [.ptr 1]⟩, ⟨8, false, [.deep (.sl S65)]⟩, ⟨17, false, [.deep is]⟩, ⟨18, false, [.deep is]⟩], [.cells 32 [.deep S32], .cells 32 [.deep S32]]⟩, ⟨[⟨6, false, [.ptr 0]⟩, ⟨7, false, [.ptr 1]⟩, ⟨8, false, [.deep (.sl S65)]⟩, ⟨20, false, [.deep is]⟩, ⟨21, false, [.deep is]⟩, ⟨22, false, [.deep is]⟩], [.cells 32 [.deep S32], .cells 32 [.deep S32]]⟩]⟩
def f9 (k : Nat) : F9.pre.T → Option F9.post.T := runFn Tryd.prog ti [Fm.entry Tryd.prog F28 28 (f28 k), Fm.entry Tryd.prog F29 29 (f29 k), Fm.entry Tryd.prog F30 30 (f30 k), Fm.entry Tryd.prog F31 31 (f31 k), Fm.entry Tryd.prog F32 32 (f32 k), Fm.entry Tryd.prog F33 33 (f33 k)] F9 Tryd.f9 k
theorem g9 (k : Nat) : EGood Tryd.prog (Fm.entry Tryd.prog F9 9 (f9 k)) := good tiok mixed (goods_cons (g28 k) (goods_cons (g29 k) (goods_cons (g30 k) (goods_cons (g31 k) (goods_cons (g32 k) (goods_cons (g33 k) goods_nil)))))) Tryd.func9 (by kernel_rfl) (by kernel_rfl)
/-! casement/casementlaw21.of -/
abbrev F12 : Fm := ⟨0, ⟨[⟨0, true, [.deep S32]⟩], []⟩, ⟨[⟨0, true, [.deep S32]⟩], []⟩, .nil⟩
def f12 (k : Nat) : F12.pre.T → Option F12.post.T := runFn Tryd.prog ti [] F12 Tryd.f12 k
theorem g12 (k : Nat) : EGood Tryd.prog (Fm.entry Tryd.prog F12 12 (f12 k)) := good tiok mixed goods_nil Tryd.func12 (by kernel_rfl) (by kernel_rfl)
/-! casement/casementlaw21.same -/
abbrev F11 : Fm := ⟨0, ⟨[⟨0, true, [.deep S32]⟩, ⟨1, true, [.deep S32]⟩], []⟩, ⟨[⟨0, false, [.deep .bool]⟩], []⟩, anF Tryd.f11 [⟨[⟨2, false, [.ptr 0]⟩, ⟨3, false, [.ptr 1]⟩, ⟨50, false, [.deep is]⟩, ⟨51, false, [.deep is]⟩], [.cells 32 [.deep S32], .cells 32 [.deep S32]]⟩]⟩
def f11 (k : Nat) : F11.pre.T → Option F11.post.T := runFn Tryd.prog ti [Fm.entry Tryd.prog F20 20 (f20 k)] F11 Tryd.f11 k
theorem g11 (k : Nat) : EGood Tryd.prog (Fm.entry Tryd.prog F11 11 (f11 k)) := good tiok mixed (goods_cons (g20 k) goods_nil) Tryd.func11 (by kernel_rfl) (by kernel_rfl)
/-! casement/casementlaw21.PaintPlays -/
abbrev F3 : Fm := ⟨0, ⟨[⟨0, false, [.deep is]⟩, ⟨1, false, [.deep is]⟩, ⟨2, false, [.deep (.sl S65)]⟩], []⟩, ⟨[⟨0, false, [.deep .bool]⟩], []⟩, anF Tryd.f3 [⟨[⟨0, false, [.deep is]⟩, ⟨1, false, [.deep is]⟩, ⟨2, false, [.deep (.sl S65)]⟩, ⟨24, false, [.deep (.sl S65)]⟩, ⟨25, false, [.deep is]⟩, ⟨26, false, [.deep is]⟩], []⟩, ⟨[⟨0, false, [.deep is]⟩, ⟨1, false, [.deep is]⟩, ⟨2, false, [.deep (.sl S65)]⟩, ⟨10, false, [.ptr 0]⟩, ⟨60, false, [.deep (.sl (.sl S43))]⟩, ⟨61, false, [.deep is]⟩, ⟨62, false, [.deep is]⟩], [.cells 32 [.deep S32]]⟩, ⟨[⟨0, false, [.deep is]⟩, ⟨1, false, [.deep is]⟩, ⟨2, false, [.deep (.sl S65)]⟩, ⟨10, false, [.ptr 0]⟩, ⟨12, false, [.deep (.sl S43)]⟩, ⟨60, false, [.deep (.sl (.sl S43))]⟩, ⟨61, false, [.deep is]⟩, ⟨62, false, [.deep is]⟩, ⟨67, false, [.deep is]⟩, ⟨68, false, [.deep is]⟩], [.cells 32 [.deep S32]]⟩]⟩
def f3 (k : Nat) : F3.pre.T → Option F3.post.T := runFn Tryd.prog ti [Fm.entry Tryd.prog F7 7 (f7 24), Fm.entry Tryd.prog F8 8 (f8 k), Fm.entry Tryd.prog F10 10 (f10 k), Fm.entry Tryd.prog F9 9 (f9 k), Fm.entry Tryd.prog F12 12 (f12 k), Fm.entry Tryd.prog F11 11 (f11 k), Fm.entry Tryd.prog F13 13 (f13 k)] F3 Tryd.f3 k
theorem g3 (k : Nat) : EGood Tryd.prog (Fm.entry Tryd.prog F3 3 (f3 k)) := good tiok mixed (goods_cons (g7 24) (goods_cons (g8 k) (goods_cons (g10 k) (goods_cons (g9 k) (goods_cons (g12 k) (goods_cons (g11 k) (goods_cons (g13 k) goods_nil))))))) Tryd.func3 (by kernel_rfl) (by kernel_rfl)
/-! casement/casementref21.Right -/
abbrev F15 : Fm := ⟨0, ⟨[⟨0, true, [.deep S32]⟩], []⟩, ⟨[⟨0, false, [.deep .bool]⟩], []⟩, anF Tryd.f15 [⟨[⟨1, false, [.ptr 0]⟩, ⟨3, false, [.deep is]⟩], [.cells 32 [.deep S32]]⟩, ⟨[⟨1, false, [.ptr 0]⟩, ⟨3, false, [.deep is]⟩, ⟨4, false, [.deep (.sl S43)]⟩, ⟨5, false, [.deep is]⟩], [.cells 32 [.deep S32]]⟩]⟩
def f15 (k : Nat) : F15.pre.T → Option F15.post.T := runFn Tryd.prog ti [Fm.entry Tryd.prog F32 32 (f32 k), Fm.entry Tryd.prog F20 20 (f20 k), Fm.entry Tryd.prog F40 40 (f40 k), Fm.entry Tryd.prog F41 41 (f41 k)] F15 Tryd.f15 k
theorem g15 (k : Nat) : EGood Tryd.prog (Fm.entry Tryd.prog F15 15 (f15 k)) := good tiok mixed (goods_cons (g32 k) (goods_cons (g20 k) (goods_cons (g40 k) (goods_cons (g41 k) goods_nil)))) Tryd.func15 (by kernel_rfl) (by kernel_rfl)
/-! casement/casementlaw21.PaintRight -/
abbrev F4 : Fm := ⟨0, ⟨[⟨0, true, [.deep S32]⟩, ⟨1, true, [.deep S32]⟩, ⟨2, false, [.deep is]⟩, ⟨3, false, [.deep is]⟩], []⟩, ⟨[⟨0, false, [.deep .bool]⟩], []⟩, anF Tryd.f4 [⟨[⟨4, false, [.ptr 0]⟩, ⟨5, false, [.ptr 1]⟩, ⟨54, false, [.deep (.sl (.sl S43))]⟩, ⟨55, false, [.deep is]⟩, ⟨56, false, [.deep is]⟩], [.cells 30 [.deep S32], .cells 30 [.deep S32]]⟩, ⟨[⟨4, false, [.ptr 0]⟩, ⟨5, false, [.ptr 1]⟩, ⟨54, false, [.deep (.sl (.sl S43))]⟩, ⟨55, false, [.deep is]⟩, ⟨56, false, [.deep is]⟩, ⟨60, false, [.deep (.sl S43)]⟩, ⟨61, false, [.deep is]⟩, ⟨62, false, [.deep is]⟩], [.cells 30 [.deep S32], .cells 30 [.deep S32]]⟩]⟩
def f4 (k : Nat) : F4.pre.T → Option F4.post.T := runFn Tryd.prog ti [Fm.entry Tryd.prog F7 7 (f7 24), Fm.entry Tryd.prog F13 13 (f13 k), Fm.entry Tryd.prog F12 12 (f12 k), Fm.entry Tryd.prog F15 15 (f15 k), Fm.entry Tryd.prog F16 16 (f16 k), Fm.entry Tryd.prog F11 11 (f11 k), Fm.entry Tryd.prog F114 14 (f114 k)] F4 Tryd.f4 k
theorem g4 (k : Nat) : EGood Tryd.prog (Fm.entry Tryd.prog F4 4 (f4 k)) := good tiok mixed (goods_cons (g7 24) (goods_cons (g13 k) (goods_cons (g12 k) (goods_cons (g15 k) (goods_cons (g16 k) (goods_cons (g11 k) (goods_cons (g114 k) goods_nil))))))) Tryd.func4 (by kernel_rfl) (by kernel_rfl)
/-! casement/casementlaw21.PaintOne -/
abbrev F5 : Fm := ⟨0, ⟨[⟨0, false, [.deep is]⟩, ⟨1, false, [.deep is]⟩, ⟨2, true, [.deep S25]⟩, ⟨3, false, [.deep (.sl (.int .u8))]⟩], []⟩, ⟨[⟨0, false, [.deep .bool]⟩], []⟩, anB Tryd.f5 [(11, ⟨[⟨0, false, [.deep is]⟩, ⟨1, false, [.deep is]⟩, ⟨6, false, [.ptr 0]⟩, ⟨9, false, [.deep (.sl S43)]⟩], [.cells 25 [.deep S25]]⟩)] [⟨[⟨0, false, [.deep is]⟩, ⟨1, false, [.deep is]⟩, ⟨6, false, [.ptr 0]⟩, ⟨9, false, [.own 1 S43]⟩, ⟨22, false, [.deep (.sl (.int .u8))]⟩, ⟨23, false, [.deep is]⟩, ⟨24, false, [.deep is]⟩], [.cells 25 [.deep S25], .row 43 S43]⟩, ⟨[⟨6, false, [.ptr 0]⟩, ⟨9, false, [.deep (.sl S43)]⟩, ⟨12, false, [.ptr 1]⟩, ⟨83, false, [.deep is]⟩, ⟨84, false, [.deep is]⟩], [.cells 25 [.deep S25], .cells 30 [.deep S32]]⟩, ⟨[⟨6, false, [.ptr 0]⟩, ⟨9, false, [.deep (.sl S43)]⟩, ⟨12, false, [.ptr 1]⟩, ⟨13, false, [.deep is]⟩, ⟨83, false, [.deep is]⟩, ⟨84, false, [.deep is]⟩, ⟨100, false, [.deep (.sl S43)]⟩, ⟨101, false, [.deep is]⟩, ⟨102, false, [.deep is]⟩], [.cells 25 [.deep S25], .cells 30 [.deep S32]]⟩]⟩
def f5 (k : Nat) : F5.pre.T → Option F5.post.T := runFn Tryd.prog ti [Fm.entry Tryd.prog F7 7 (f7 24), Fm.entry Tryd.prog F17 17 (f17 k), Fm.entry Tryd.prog F8 8 (f8 k), Fm.entry Tryd.prog F18 18 (f18 k)] F5 Tryd.f5 k
theorem g5 (k : Nat) : EGood Tryd.prog (Fm.entry Tryd.prog F5 5 (f5 k)) := good tiok mixed (goods_cons (g7 24) (goods_cons (g17 k) (goods_cons (g8 k) (goods_cons (g18 k) goods_nil)))) Tryd.func5 (by kernel_rfl) (by kernel_rfl)
/-! casement/casementlaw21.PaintOrder -/
abbrev F6 : Fm := ⟨0, ⟨[⟨0, false, [.deep is]⟩, ⟨1, false, [.deep is]⟩, ⟨2, false, [.deep (.sl S65)]⟩, ⟨3, true, [.deep S65]⟩], []⟩, ⟨[⟨0, false, [.deep .bool]⟩], []⟩, anF Tryd.f6 [⟨[⟨0, false, [.deep is]⟩, ⟨1, false, [.deep is]⟩, ⟨7, false, [.ptr 0]⟩, ⟨9, false, [.own 1 S65]⟩, ⟨10, false, [.own 2 S65]⟩, ⟨34, false, [.deep (.sl S65)]⟩, ⟨35, false, [.deep is]⟩, ⟨36, false, [.deep is]⟩], [.cells 28 [.deep S65], .row 28 S65, .row 28 S65]⟩]⟩
def f6 (k : Nat) : F6.pre.T → Option F6.post.T := runFn Tryd.prog ti [Fm.entry Tryd.prog F7 7 (f7 24), Fm.entry Tryd.prog F8 8 (f8 k), Fm.entry Tryd.prog F16 16 (f16 k)] F6 Tryd.f6 k
theorem g6 (k : Nat) : EGood Tryd.prog (Fm.entry Tryd.prog F6 6 (f6 k)) := good tiok mixed (goods_cons (g7 24) (goods_cons (g8 k) (goods_cons (g16 k) goods_nil))) Tryd.func6 (by kernel_rfl) (by kernel_rfl)
end
end Go.Proofs.YtaklapcbbdcdpaaDoor.Pt
