import Derived.Test.YtbdkphjpdoajpaaYG
namespace Go.Proofs.Ytbdkphjpdoajpaa.Md
open Go Go.RowKit Go.Proofs Go.Proofs.Ytbdkphjpdoajpaa.X
set_option linter.unusedVariables false
noncomputable section
/-! The module's functions, as the evaluator runs them -/
def anOf : Code → List Sig → An × List Sig
  | .seq a b, l => (.node (anOf a l).1 (anOf b (anOf a l).2).1, (anOf b (anOf a l).2).2)
  | .cond _ a b, l => (.node (anOf a l).1 (anOf b (anOf a l).2).1, (anOf b (anOf a l).2).2)
  | .block _ a, l => anOf a l
  | .loop a, g :: l => (.loop g (anOf a l).1, (anOf a l).2)
  | _, l => (.nil, l)
def anF (f : Func) (l : List Sig) : An := match f.body with
  | some c => (anOf c l).1
  | none => .nil
def regId2 : Code → Option Nat
  | .region id _ _ => some id
  | .seq (.region id _ _) _ => some (1000 + id)
  | _ => none
def anCut2 (cs : List (Nat × Sig)) : Code → List Sig → An × List Sig
  | .seq a b, l => (match regId2 a with
    | some i => (match cs.find? (fun q => q.1 == i) with
      | some q => (.cut q.2 (anCut2 cs a l).1 (anCut2 cs b (anCut2 cs a l).2).1, (anCut2 cs b (anCut2 cs a l).2).2)
      | none => (.node (anCut2 cs a l).1 (anCut2 cs b (anCut2 cs a l).2).1, (anCut2 cs b (anCut2 cs a l).2).2))
    | none => (.node (anCut2 cs a l).1 (anCut2 cs b (anCut2 cs a l).2).1, (anCut2 cs b (anCut2 cs a l).2).2))
  | .cond _ a b, l => (.node (anCut2 cs a l).1 (anCut2 cs b (anCut2 cs a l).2).1, (anCut2 cs b (anCut2 cs a l).2).2)
  | .block _ a, l => anCut2 cs a l
  | .loop a, g :: l => (.loop g (anCut2 cs a l).1, (anCut2 cs a l).2)
  | _, l => (.nil, l)
def anC2 (f : Func) (cs : List (Nat × Sig)) (l : List Sig) : An := match f.body with
  | some c => (anCut2 cs c l).1
  | none => .nil
abbrev is : Sh := .int .i64
abbrev S26 : Sh := .pair (.int .i64) (.pair (.sl (.int .u8)) (.sl (.pair (.int .i64) (.pair (.int .i64) (.pair (.int .i64) (.sl (.pair (.int .i64) (.int .i64))))))))
abbrev S41 : Sh := .pair (.int .i64) (.int .i64)
abbrev S44 : Sh := .pair (.int .i64) (.pair (.int .i64) (.pair (.int .i64) (.sl (.pair (.int .i64) (.int .i64)))))
abbrev S57 : Sh := .pair (.sl (.int .u8)) (.pair (.int .i64) (.bool))
/-! (*casement/module.reader).next -/
abbrev F17 : Fm := ⟨0, ⟨[⟨0, false, [.ptr 0]⟩, ⟨1, false, [.deep is]⟩, ⟨2, false, [.deep is]⟩], [.cells 52 [.deep S57]]⟩, ⟨[⟨0, false, [.deep is]⟩], [.cells 52 [.deep S57]]⟩, .nil⟩
def f17 (k : Nat) : F17.pre.T → Option F17.post.T := runFn Try.prog ti [] F17 Try.f17 k
theorem g17 (k : Nat) : EGood Try.prog (Fm.entry Try.prog F17 17 (f17 k)) := good tiok mixed goods_nil Try.func17 (by kernel_rfl) (by kernel_rfl)
/-! (*casement/module.reader).two -/
abbrev F18 : Fm := ⟨0, ⟨[⟨0, false, [.ptr 0]⟩, ⟨1, false, [.deep is]⟩, ⟨2, false, [.deep is]⟩], [.cells 52 [.deep S57]]⟩, ⟨[⟨0, false, [.deep is]⟩], [.cells 52 [.deep S57]]⟩, .nil⟩
def f18 (k : Nat) : F18.pre.T → Option F18.post.T := runFn Try.prog ti [Fm.entry Try.prog F17 17 (f17 k)] F18 Try.f18 k
theorem g18 (k : Nat) : EGood Try.prog (Fm.entry Try.prog F18 18 (f18 k)) := good tiok mixed (goods_cons (g17 k) goods_nil) Try.func18 (by kernel_rfl) (by kernel_rfl)
/-! slices.Index[[]int,int] -/
abbrev F34 : Fm := ⟨0, ⟨[⟨0, false, [.deep (.sl is)]⟩, ⟨1, false, [.deep is]⟩], []⟩, ⟨[⟨0, false, [.deep is]⟩], []⟩, anF Try.f34 [⟨[⟨0, false, [.deep (.sl is)]⟩, ⟨1, false, [.deep is]⟩, ⟨7, false, [.deep is]⟩, ⟨8, false, [.deep is]⟩], []⟩]⟩
def f34 (k : Nat) : F34.pre.T → Option F34.post.T := runFn Try.prog ti [] F34 Try.f34 k
theorem g34 (k : Nat) : EGood Try.prog (Fm.entry Try.prog F34 34 (f34 k)) := good tiok mixed goods_nil Try.func34 (by kernel_rfl) (by kernel_rfl)
/-! slices.Contains[[]int,int] -/
abbrev F27 : Fm := ⟨0, ⟨[⟨0, false, [.deep (.sl is)]⟩, ⟨1, false, [.deep is]⟩], []⟩, ⟨[⟨0, false, [.deep .bool]⟩], []⟩, .nil⟩
def f27 (k : Nat) : F27.pre.T → Option F27.post.T := runFn Try.prog ti [Fm.entry Try.prog F34 34 (f34 k)] F27 Try.f27 k
theorem g27 (k : Nat) : EGood Try.prog (Fm.entry Try.prog F27 27 (f27 k)) := good tiok mixed (goods_cons (g34 k) goods_nil) Try.func27 (by kernel_rfl) (by kernel_rfl)
/-! casement/module.Has -/
abbrev F16 : Fm := ⟨0, ⟨[⟨0, false, [.deep is]⟩], []⟩, ⟨[⟨0, false, [.deep .bool]⟩], []⟩, .nil⟩
def f16 (k : Nat) : F16.pre.T → Option F16.post.T := runFn Try.prog ti [Fm.entry Try.prog F27 27 (f27 k)] F16 Try.f16 k
theorem g16 (k : Nat) : EGood Try.prog (Fm.entry Try.prog F16 16 (f16 k)) := good tiok mixed (goods_cons (g27 k) goods_nil) Try.func16 (by kernel_rfl) (by kernel_rfl)
/-! (*casement/module.reader).number -/
abbrev F28 : Fm := ⟨0, ⟨[⟨0, false, [.ptr 0]⟩], [.cells 52 [.deep S57]]⟩, ⟨[⟨0, false, [.deep is]⟩], [.cells 52 [.deep S57]]⟩, anC2 Try.f28 [(1006, ⟨[⟨0, false, [.ptr 0]⟩, ⟨3, false, [.deep (.int .u64)]⟩, ⟨4, false, [.deep is]⟩, ⟨5, false, [.deep is]⟩], [.cells 52 [.deep S57]]⟩), (1009, ⟨[⟨0, false, [.ptr 0]⟩, ⟨3, false, [.deep (.int .u64)]⟩, ⟨4, false, [.deep is]⟩, ⟨6, false, [.deep is]⟩], [.cells 52 [.deep S57]]⟩)] [⟨[⟨0, false, [.ptr 0]⟩, ⟨3, false, [.deep (.int .u64)]⟩, ⟨4, false, [.deep is]⟩], [.cells 52 [.deep S57]]⟩]⟩
def f28 (k : Nat) : F28.pre.T → Option F28.post.T := runFn Try.prog ti [Fm.entry Try.prog F17 17 (f17 k)] F28 Try.f28 k
theorem g28 (k : Nat) : EGood Try.prog (Fm.entry Try.prog F28 28 (f28 k)) := good tiok mixed (goods_cons (g17 k) goods_nil) Try.func28 (by kernel_rfl) (by kernel_rfl)
/-! (*casement/module.reader).function -/
abbrev F19 : Fm := ⟨0, ⟨[⟨0, false, [.ptr 0]⟩], [.cells 52 [.deep S57]]⟩, ⟨[⟨0, true, [.deep S44]⟩], [.cells 52 [.deep S57]]⟩, anF Try.f19 [⟨[⟨0, false, [.ptr 0]⟩, ⟨2, false, [.ptr 1]⟩, ⟨3, false, [.ptr 2]⟩, ⟨4, false, [.deep is]⟩], [.cells 52 [.deep S57], .cells 44 [.deep S44], .cells 44 [.deep is, .deep is, .deep is, .own 3 S41], .row 41 S41]⟩]⟩
def f19 (k : Nat) : F19.pre.T → Option F19.post.T := runFn Try.prog ti [Fm.entry Try.prog F17 17 (f17 k), Fm.entry Try.prog F18 18 (f18 k), Fm.entry Try.prog F16 16 (f16 k), Fm.entry Try.prog F28 28 (f28 k)] F19 Try.f19 k
theorem g19 (k : Nat) : EGood Try.prog (Fm.entry Try.prog F19 19 (f19 k)) := good tiok mixed (goods_cons (g17 k) (goods_cons (g18 k) (goods_cons (g16 k) (goods_cons (g28 k) goods_nil)))) Try.func19 (by kernel_rfl) (by kernel_rfl)
/-! casement/module.Decode -/
abbrev F10 : Fm := ⟨0, ⟨[⟨0, false, [.deep (.sl (.int .u8))]⟩], []⟩, ⟨[⟨0, true, [.deep S26]⟩, ⟨1, true, [.deep S41]⟩], []⟩, anF Try.f10 [⟨[⟨0, false, [.deep (.sl (.int .u8))]⟩, ⟨2, false, [.ptr 0]⟩, ⟨3, false, [.ptr 1]⟩, ⟨4, false, [.ptr 2]⟩, ⟨18, false, [.own 3 is]⟩, ⟨19, false, [.deep is]⟩, ⟨20, false, [.deep is]⟩], [.cells 26 [.deep S26], .cells 29 [.deep S41], .cells 52 [.deep S57], .row 3 is]⟩, ⟨[⟨0, false, [.deep (.sl (.int .u8))]⟩, ⟨2, false, [.ptr 0]⟩, ⟨3, false, [.ptr 1]⟩, ⟨4, false, [.ptr 2]⟩, ⟨7, false, [.ptr 3]⟩, ⟨8, false, [.deep is]⟩], [.cells 26 [.deep S26], .cells 29 [.deep S41], .cells 52 [.deep S57], .cells 26 [.deep is, .own 4 (.int .u8), .own 5 S44], .row 5 (.int .u8), .row 44 S44]⟩, ⟨[⟨0, false, [.deep (.sl (.int .u8))]⟩, ⟨2, false, [.ptr 0]⟩, ⟨3, false, [.ptr 1]⟩, ⟨4, false, [.ptr 2]⟩, ⟨7, false, [.ptr 3]⟩, ⟨9, false, [.deep is]⟩], [.cells 26 [.deep S26], .cells 29 [.deep S41], .cells 52 [.deep S57], .cells 26 [.deep is, .own 4 (.int .u8), .own 5 S44], .row 5 (.int .u8), .row 44 S44]⟩]⟩
def f10 (k : Nat) : F10.pre.T → Option F10.post.T := runFn Try.prog ti [Fm.entry Try.prog F17 17 (f17 k), Fm.entry Try.prog F18 18 (f18 k), Fm.entry Try.prog F19 19 (f19 k)] F10 Try.f10 k
theorem g10 (k : Nat) : EGood Try.prog (Fm.entry Try.prog F10 10 (f10 k)) := good tiok mixed (goods_cons (g17 k) (goods_cons (g18 k) (goods_cons (g19 k) goods_nil))) Try.func10 (by kernel_rfl) (by kernel_rfl)
/-! casement/module.right -/
abbrev F23 : Fm := ⟨0, ⟨[⟨0, true, [.deep S26]⟩], []⟩, ⟨[⟨0, false, [.deep .bool]⟩], []⟩, anF Try.f23 [⟨[⟨36, false, [.deep (.sl S44)]⟩, ⟨37, false, [.deep is]⟩, ⟨38, false, [.deep is]⟩], []⟩, ⟨[⟨36, false, [.deep (.sl S44)]⟩, ⟨37, false, [.deep is]⟩, ⟨38, false, [.deep is]⟩, ⟨86, false, [.deep (.sl S41)]⟩, ⟨87, false, [.deep is]⟩, ⟨88, false, [.deep is]⟩], []⟩]⟩
def f23 (k : Nat) : F23.pre.T → Option F23.post.T := runFn Try.prog ti [Fm.entry Try.prog F16 16 (f16 k)] F23 Try.f23 k
theorem g23 (k : Nat) : EGood Try.prog (Fm.entry Try.prog F23 23 (f23 k)) := good tiok mixed (goods_cons (g16 k) goods_nil) Try.func23 (by kernel_rfl) (by kernel_rfl)
/-! casement/module.appendNumber -/
abbrev F24 : Fm := ⟨0, ⟨[⟨0, false, [.own 0 (.int .u8)]⟩, ⟨1, false, [.deep is]⟩], [.row 5 (.int .u8)]⟩, ⟨[⟨0, false, [.own 1 (.int .u8)]⟩], [.gone, .row 5 (.int .u8)]⟩, anF Try.f24 [⟨[⟨0, false, [.own 0 (.int .u8)]⟩, ⟨5, false, [.deep (.int .u64)]⟩], [.row 5 (.int .u8)]⟩]⟩
def f24 (k : Nat) : F24.pre.T → Option F24.post.T := runFn Try.prog ti [] F24 Try.f24 k
theorem g24 (k : Nat) : EGood Try.prog (Fm.entry Try.prog F24 24 (f24 k)) := good tiok mixed goods_nil Try.func24 (by kernel_rfl) (by kernel_rfl)
/-! casement/module.Encode -/
abbrev F13 : Fm := ⟨0, ⟨[⟨0, true, [.deep S26]⟩], []⟩, ⟨[⟨0, false, [.deep (.sl (.int .u8))]⟩, ⟨1, false, [.deep is]⟩], []⟩, anF Try.f13 [⟨[⟨4, false, [.own 0 (.int .u8)]⟩, ⟨41, false, [.deep (.sl S44)]⟩, ⟨42, false, [.deep is]⟩, ⟨43, false, [.deep is]⟩], [.row 5 (.int .u8)]⟩, ⟨[⟨4, false, [.own 0 (.int .u8)]⟩, ⟨41, false, [.deep (.sl S44)]⟩, ⟨42, false, [.deep is]⟩, ⟨43, false, [.deep is]⟩, ⟨69, false, [.deep (.sl S41)]⟩, ⟨70, false, [.deep is]⟩, ⟨71, false, [.deep is]⟩], [.row 5 (.int .u8)]⟩]⟩
def f13 (k : Nat) : F13.pre.T → Option F13.post.T := runFn Try.prog ti [Fm.entry Try.prog F23 23 (f23 k), Fm.entry Try.prog F16 16 (f16 k), Fm.entry Try.prog F24 24 (f24 k)] F13 Try.f13 k
theorem g13 (k : Nat) : EGood Try.prog (Fm.entry Try.prog F13 13 (f13 k)) := good tiok mixed (goods_cons (g23 k) (goods_cons (g16 k) (goods_cons (g24 k) goods_nil))) Try.func13 (by kernel_rfl) (by kernel_rfl)
/-! casement/casementlaw12.alive -/
abbrev F9 : Fm := ⟨0, ⟨[], []⟩, ⟨[⟨0, false, [.deep .bool]⟩], []⟩, .nil⟩
def f9 (k : Nat) : F9.pre.T → Option F9.post.T := runFn Try.prog ti [Fm.entry Try.prog F10 10 (f10 k), Fm.entry Try.prog F13 13 (f13 k), Fm.entry Try.prog F16 16 (f16 k)] F9 Try.f9 k
theorem g9 (k : Nat) : EGood Try.prog (Fm.entry Try.prog F9 9 (f9 k)) := good tiok mixed (goods_cons (g10 k) (goods_cons (g13 k) (goods_cons (g16 k) goods_nil))) Try.func9 (by kernel_rfl) (by kernel_rfl)
/-! casement/casementref12.one -/
abbrev F20 : Fm := ⟨0, ⟨[⟨0, true, [.deep S57]⟩, ⟨1, false, [.deep is]⟩, ⟨2, false, [.deep is]⟩], []⟩, ⟨[⟨0, false, [.deep is]⟩, ⟨1, true, [.deep S57]⟩], []⟩, .nil⟩
def f20 (k : Nat) : F20.pre.T → Option F20.post.T := runFn Try.prog ti [] F20 Try.f20 k
theorem g20 (k : Nat) : EGood Try.prog (Fm.entry Try.prog F20 20 (f20 k)) := good tiok mixed goods_nil Try.func20 (by kernel_rfl) (by kernel_rfl)
/-! casement/casementref12.pair -/
abbrev F21 : Fm := ⟨0, ⟨[⟨0, true, [.deep S57]⟩, ⟨1, false, [.deep is]⟩, ⟨2, false, [.deep is]⟩], []⟩, ⟨[⟨0, false, [.deep is]⟩, ⟨1, true, [.deep S57]⟩], []⟩, anF Try.f21 [⟨[⟨1, false, [.deep is]⟩, ⟨2, false, [.deep is]⟩, ⟨3, false, [.ptr 0]⟩, ⟨7, false, [.ptr 1]⟩, ⟨8, false, [.deep is]⟩, ⟨9, false, [.deep .bool]⟩, ⟨10, false, [.deep is]⟩], [.cells 57 [.deep S57], .cells 57 [.deep S57]]⟩]⟩
def f21 (k : Nat) : F21.pre.T → Option F21.post.T := runFn Try.prog ti [] F21 Try.f21 k
theorem g21 (k : Nat) : EGood Try.prog (Fm.entry Try.prog F21 21 (f21 k)) := good tiok mixed goods_nil Try.func21 (by kernel_rfl) (by kernel_rfl)
/-! casement/casementref12.Has -/
abbrev F29 : Fm := ⟨0, ⟨[⟨0, false, [.deep is]⟩], []⟩, ⟨[⟨0, false, [.deep .bool]⟩], []⟩, .nil⟩
def f29 (k : Nat) : F29.pre.T → Option F29.post.T := runFn Try.prog ti [] F29 Try.f29 k
theorem g29 (k : Nat) : EGood Try.prog (Fm.entry Try.prog F29 29 (f29 k)) := good tiok mixed goods_nil Try.func29 (by kernel_rfl) (by kernel_rfl)
/-! casement/casementref12.number -/
abbrev F30 : Fm := ⟨0, ⟨[⟨0, true, [.deep S57]⟩], []⟩, ⟨[⟨0, false, [.deep is]⟩, ⟨1, true, [.deep S57]⟩], []⟩, anC2 Try.f30 [(1006, ⟨[⟨1, false, [.ptr 0]⟩, ⟨3, false, [.ptr 1]⟩, ⟨4, false, [.deep (.int .u64)]⟩, ⟨5, false, [.deep is]⟩, ⟨6, false, [.deep is]⟩], [.cells 57 [.deep S57], .cells 57 [.deep S57]]⟩), (1011, ⟨[⟨1, false, [.ptr 0]⟩, ⟨3, false, [.ptr 1]⟩, ⟨4, false, [.deep (.int .u64)]⟩, ⟨5, false, [.deep is]⟩, ⟨7, false, [.deep is]⟩, ⟨8, false, [.ptr 2]⟩], [.cells 57 [.deep S57], .cells 57 [.deep S57], .cells 57 [.deep S57]]⟩)] [⟨[⟨1, false, [.ptr 0]⟩, ⟨3, false, [.ptr 1]⟩, ⟨4, false, [.deep (.int .u64)]⟩, ⟨5, false, [.deep is]⟩], [.cells 57 [.deep S57], .cells 57 [.deep S57]]⟩, ⟨[⟨1, false, [.ptr 0]⟩, ⟨3, false, [.ptr 1]⟩, ⟨4, false, [.deep (.int .u64)]⟩, ⟨5, false, [.deep is]⟩, ⟨7, false, [.deep is]⟩, ⟨9, false, [.deep (.int .u64)]⟩, ⟨10, false, [.deep is]⟩], [.cells 57 [.deep S57], .cells 57 [.deep S57]]⟩]⟩
def f30 (k : Nat) : F30.pre.T → Option F30.post.T := runFn Try.prog ti [Fm.entry Try.prog F20 20 (f20 k)] F30 Try.f30 k
theorem g30 (k : Nat) : EGood Try.prog (Fm.entry Try.prog F30 30 (f30 k)) := good tiok mixed (goods_cons (g20 k) goods_nil) Try.func30 (by kernel_rfl) (by kernel_rfl)
/-! casement/casementref12.function -/
abbrev F22 : Fm := ⟨0, ⟨[⟨0, true, [.deep S57]⟩], []⟩, ⟨[⟨0, true, [.deep S44]⟩, ⟨1, true, [.deep S57]⟩], []⟩, anF Try.f22 [⟨[⟨1, false, [.ptr 0]⟩, ⟨2, false, [.ptr 1]⟩, ⟨3, false, [.ptr 2]⟩, ⟨4, false, [.ptr 3]⟩, ⟨11, false, [.deep is]⟩, ⟨13, false, [.deep is]⟩], [.cells 57 [.deep S57], .cells 44 [.deep S44], .cells 57 [.deep S57], .cells 44 [.deep is, .deep is, .deep is, .own 4 S41], .row 41 S41]⟩]⟩
def f22 (k : Nat) : F22.pre.T → Option F22.post.T := runFn Try.prog ti [Fm.entry Try.prog F20 20 (f20 k), Fm.entry Try.prog F21 21 (f21 k), Fm.entry Try.prog F29 29 (f29 k), Fm.entry Try.prog F30 30 (f30 k)] F22 Try.f22 k
theorem g22 (k : Nat) : EGood Try.prog (Fm.entry Try.prog F22 22 (f22 k)) := good tiok mixed (goods_cons (g20 k) (goods_cons (g21 k) (goods_cons (g29 k) (goods_cons (g30 k) goods_nil)))) Try.func22 (by kernel_rfl) (by kernel_rfl)
/-! casement/casementref12.Decode -/
abbrev F11 : Fm := ⟨0, ⟨[⟨0, false, [.deep (.sl (.int .u8))]⟩], []⟩, ⟨[⟨0, true, [.deep S26]⟩, ⟨1, true, [.deep S41]⟩], []⟩, anF Try.f11 [⟨[⟨0, false, [.deep (.sl (.int .u8))]⟩, ⟨2, false, [.ptr 0]⟩, ⟨3, false, [.ptr 1]⟩, ⟨4, false, [.ptr 2]⟩, ⟨5, false, [.own 3 is]⟩, ⟨6, false, [.deep is]⟩], [.cells 26 [.deep S26], .cells 29 [.deep S41], .cells 57 [.deep S57], .row 3 is]⟩, ⟨[⟨0, false, [.deep (.sl (.int .u8))]⟩, ⟨2, false, [.ptr 0]⟩, ⟨3, false, [.ptr 1]⟩, ⟨4, false, [.ptr 2]⟩, ⟨11, false, [.deep is]⟩, ⟨13, false, [.ptr 3]⟩, ⟨14, false, [.deep is]⟩], [.cells 26 [.deep S26], .cells 29 [.deep S41], .cells 57 [.deep S57], .cells 26 [.deep is, .own 4 (.int .u8), .own 5 S44], .row 5 (.int .u8), .row 44 S44]⟩, ⟨[⟨0, false, [.deep (.sl (.int .u8))]⟩, ⟨2, false, [.ptr 0]⟩, ⟨3, false, [.ptr 1]⟩, ⟨4, false, [.ptr 2]⟩, ⟨13, false, [.ptr 3]⟩, ⟨17, false, [.deep is]⟩, ⟨19, false, [.deep is]⟩], [.cells 26 [.deep S26], .cells 29 [.deep S41], .cells 57 [.deep S57], .cells 26 [.deep is, .own 4 (.int .u8), .own 5 S44], .row 5 (.int .u8), .row 44 S44]⟩]⟩
def f11 (k : Nat) : F11.pre.T → Option F11.post.T := runFn Try.prog ti [Fm.entry Try.prog F20 20 (f20 k), Fm.entry Try.prog F21 21 (f21 k), Fm.entry Try.prog F22 22 (f22 k)] F11 Try.f11 k
theorem g11 (k : Nat) : EGood Try.prog (Fm.entry Try.prog F11 11 (f11 k)) := good tiok mixed (goods_cons (g20 k) (goods_cons (g21 k) (goods_cons (g22 k) goods_nil))) Try.func11 (by kernel_rfl) (by kernel_rfl)
/-! casement/casementref01.SameBytes -/
abbrev F15 : Fm := ⟨0, ⟨[⟨0, false, [.deep (.sl (.int .u8))]⟩, ⟨1, false, [.deep (.sl (.int .u8))]⟩], []⟩, ⟨[⟨0, false, [.deep .bool]⟩], []⟩, anF Try.f15 [⟨[⟨0, false, [.deep (.sl (.int .u8))]⟩, ⟨1, false, [.deep (.sl (.int .u8))]⟩, ⟨5, false, [.deep is]⟩], []⟩]⟩
def f15 (k : Nat) : F15.pre.T → Option F15.post.T := runFn Try.prog ti [] F15 Try.f15 k
theorem g15 (k : Nat) : EGood Try.prog (Fm.entry Try.prog F15 15 (f15 k)) := good tiok mixed goods_nil Try.func15 (by kernel_rfl) (by kernel_rfl)
/-! casement/casementref12.Same -/
abbrev F12 : Fm := ⟨0, ⟨[⟨0, true, [.deep S26]⟩, ⟨1, true, [.deep S26]⟩], []⟩, ⟨[⟨0, false, [.deep .bool]⟩], []⟩, anF Try.f12 [⟨[⟨2, false, [.ptr 0]⟩, ⟨3, false, [.ptr 1]⟩, ⟨5, false, [.deep is]⟩], [.cells 26 [.deep S26], .cells 26 [.deep S26]]⟩, ⟨[⟨2, false, [.ptr 0]⟩, ⟨3, false, [.ptr 1]⟩, ⟨5, false, [.deep is]⟩, ⟨6, false, [.ptr 2]⟩, ⟨7, false, [.ptr 3]⟩, ⟨8, false, [.deep is]⟩], [.cells 26 [.deep S26], .cells 26 [.deep S26], .cells 44 [.deep S44], .cells 44 [.deep S44]]⟩]⟩
def f12 (k : Nat) : F12.pre.T → Option F12.post.T := runFn Try.prog ti [Fm.entry Try.prog F15 15 (f15 k)] F12 Try.f12 k
theorem g12 (k : Nat) : EGood Try.prog (Fm.entry Try.prog F12 12 (f12 k)) := good tiok mixed (goods_cons (g15 k) goods_nil) Try.func12 (by kernel_rfl) (by kernel_rfl)
/-! casement/casementlaw12.ModuleDecodes -/
abbrev F3 : Fm := ⟨0, ⟨[⟨0, false, [.deep (.sl (.int .u8))]⟩], []⟩, ⟨[⟨0, false, [.deep .bool]⟩], []⟩, .nil⟩
def f3 (k : Nat) : F3.pre.T → Option F3.post.T := runFn Try.prog ti [Fm.entry Try.prog F9 9 (f9 k), Fm.entry Try.prog F10 10 (f10 k), Fm.entry Try.prog F11 11 (f11 k), Fm.entry Try.prog F12 12 (f12 k)] F3 Try.f3 k
theorem g3 (k : Nat) : EGood Try.prog (Fm.entry Try.prog F3 3 (f3 k)) := good tiok mixed (goods_cons (g9 k) (goods_cons (g10 k) (goods_cons (g11 k) (goods_cons (g12 k) goods_nil)))) Try.func3 (by kernel_rfl) (by kernel_rfl)
end
end Go.Proofs.Ytbdkphjpdoajpaa.Md
