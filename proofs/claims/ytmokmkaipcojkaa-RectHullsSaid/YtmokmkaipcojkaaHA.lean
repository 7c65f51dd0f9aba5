import Derived.Test.YtmokmkaipcojkaaYG
namespace Go.Proofs.Ytmokmkaipcojkaa.Hull
open Go Go.RowKit Go.Proofs Go.Proofs.Ytmokmkaipcojkaa.X
set_option linter.unusedVariables false
noncomputable section
/-! The functions of rectangles, as the evaluator runs them -/
def anOf : Code → List Sig → An × List Sig
  | .seq a b, l => (.node (anOf a l).1 (anOf b (anOf a l).2).1, (anOf b (anOf a l).2).2)
  | .cond _ a b, l => (.node (anOf a l).1 (anOf b (anOf a l).2).1, (anOf b (anOf a l).2).2)
  | .block _ a, l => anOf a l
  | .loop a, g :: l => (.loop g (anOf a l).1, (anOf a l).2)
  | _, l => (.nil, l)
def anF (f : Func) (l : List Sig) : An := match f.body with
  | some c => (anOf c l).1
  | none => .nil
abbrev is : Sh := .int .i64
abbrev S26 : Sh := .pair (.int .i64) (.pair (.int .i64) (.pair (.int .i64) (.int .i64)))
/-! casement/casementlaw02.at -/
abbrev F37 : Fm := ⟨0, ⟨[⟨0, false, [.deep is]⟩, ⟨1, false, [.deep is]⟩, ⟨2, false, [.deep is]⟩, ⟨3, false, [.deep is]⟩], []⟩, ⟨[⟨0, true, [.deep S26]⟩], []⟩, .nil⟩
def f37 (k : Nat) : F37.pre.T → Option F37.post.T := runFn Try.prog ti [] F37 Try.f37 k
theorem g37 (k : Nat) : EGood Try.prog (Fm.entry Try.prog F37 37 (f37 k)) := good tiok mixed goods_nil Try.func37 (by kernel_rfl) (by kernel_rfl)
/-! casement/rect.Clamp -/
abbrev F17 : Fm := ⟨0, ⟨[⟨0, false, [.deep is]⟩, ⟨1, false, [.deep is]⟩, ⟨2, false, [.deep is]⟩], []⟩, ⟨[⟨0, false, [.deep is]⟩], []⟩, .nil⟩
def f17 (k : Nat) : F17.pre.T → Option F17.post.T := runFn Try.prog ti [] F17 Try.f17 k
theorem g17 (k : Nat) : EGood Try.prog (Fm.entry Try.prog F17 17 (f17 k)) := good tiok mixed goods_nil Try.func17 (by kernel_rfl) (by kernel_rfl)
/-! casement/rect.Clean -/
abbrev F20 : Fm := ⟨0, ⟨[⟨0, true, [.deep S26]⟩], []⟩, ⟨[⟨0, true, [.deep S26]⟩], []⟩, .nil⟩
def f20 (k : Nat) : F20.pre.T → Option F20.post.T := runFn Try.prog ti [Fm.entry Try.prog F17 17 (f17 k)] F20 Try.f20 k
theorem g20 (k : Nat) : EGood Try.prog (Fm.entry Try.prog F20 20 (f20 k)) := good tiok mixed (goods_cons (g17 k) goods_nil) Try.func20 (by kernel_rfl) (by kernel_rfl)
/-! casement/rect.Cut -/
abbrev F24 : Fm := ⟨0, ⟨[⟨0, true, [.deep S26]⟩, ⟨1, false, [.deep (.sl is)]⟩, ⟨2, false, [.deep .bool]⟩], []⟩, ⟨[⟨0, false, [.deep (.sl S26)]⟩], []⟩, anF Try.f24 [⟨[⟨2, false, [.deep .bool]⟩, ⟨3, false, [.ptr 0]⟩, ⟨7, false, [.own 1 S26]⟩, ⟨17, false, [.deep (.sl is)]⟩, ⟨18, false, [.deep is]⟩, ⟨19, false, [.deep is]⟩], [.cells 26 [.deep S26], .row 26 S26]⟩]⟩
def f24 (k : Nat) : F24.pre.T → Option F24.post.T := runFn Try.prog ti [Fm.entry Try.prog F20 20 (f20 k), Fm.entry Try.prog F17 17 (f17 k)] F24 Try.f24 k
theorem g24 (k : Nat) : EGood Try.prog (Fm.entry Try.prog F24 24 (f24 k)) := good tiok mixed (goods_cons (g20 k) (goods_cons (g17 k) goods_nil)) Try.func24 (by kernel_rfl) (by kernel_rfl)
/-! casement/rect.between -/
abbrev F39 : Fm := ⟨0, ⟨[⟨0, false, [.deep is]⟩, ⟨1, false, [.deep is]⟩, ⟨2, false, [.deep is]⟩, ⟨3, false, [.deep is]⟩], []⟩, ⟨[⟨0, true, [.deep S26]⟩], []⟩, .nil⟩
def f39 (k : Nat) : F39.pre.T → Option F39.post.T := runFn Try.prog ti [Fm.entry Try.prog F20 20 (f20 k)] F39 Try.f39 k
theorem g39 (k : Nat) : EGood Try.prog (Fm.entry Try.prog F39 39 (f39 k)) := good tiok mixed (goods_cons (g20 k) goods_nil) Try.func39 (by kernel_rfl) (by kernel_rfl)
/-! casement/rect.Meet -/
abbrev F26 : Fm := ⟨0, ⟨[⟨0, true, [.deep S26]⟩, ⟨1, true, [.deep S26]⟩], []⟩, ⟨[⟨0, true, [.deep S26]⟩], []⟩, .nil⟩
def f26 (k : Nat) : F26.pre.T → Option F26.post.T := runFn Try.prog ti [Fm.entry Try.prog F20 20 (f20 k), Fm.entry Try.prog F39 39 (f39 k)] F26 Try.f26 k
theorem g26 (k : Nat) : EGood Try.prog (Fm.entry Try.prog F26 26 (f26 k)) := good tiok mixed (goods_cons (g20 k) (goods_cons (g39 k) goods_nil)) Try.func26 (by kernel_rfl) (by kernel_rfl)
/-! casement/rect.Empty -/
abbrev F21 : Fm := ⟨0, ⟨[⟨0, true, [.deep S26]⟩], []⟩, ⟨[⟨0, false, [.deep .bool]⟩], []⟩, .nil⟩
def f21 (k : Nat) : F21.pre.T → Option F21.post.T := runFn Try.prog ti [Fm.entry Try.prog F20 20 (f20 k)] F21 Try.f21 k
theorem g21 (k : Nat) : EGood Try.prog (Fm.entry Try.prog F21 21 (f21 k)) := good tiok mixed (goods_cons (g20 k) goods_nil) Try.func21 (by kernel_rfl) (by kernel_rfl)
/-! casement/rect.Minus -/
abbrev F36 : Fm := ⟨0, ⟨[⟨0, true, [.deep S26]⟩, ⟨1, true, [.deep S26]⟩], []⟩, ⟨[⟨0, false, [.deep (.sl S26)]⟩], []⟩, anF Try.f36 [⟨[⟨6, false, [.own 0 S26]⟩, ⟨85, false, [.own 1 S26]⟩, ⟨86, false, [.deep is]⟩, ⟨87, false, [.deep is]⟩], [.row 26 S26, .row 26 S26]⟩]⟩
def f36 (k : Nat) : F36.pre.T → Option F36.post.T := runFn Try.prog ti [Fm.entry Try.prog F20 20 (f20 k), Fm.entry Try.prog F26 26 (f26 k), Fm.entry Try.prog F39 39 (f39 k), Fm.entry Try.prog F21 21 (f21 k)] F36 Try.f36 k
theorem g36 (k : Nat) : EGood Try.prog (Fm.entry Try.prog F36 36 (f36 k)) := good tiok mixed (goods_cons (g20 k) (goods_cons (g26 k) (goods_cons (g39 k) (goods_cons (g21 k) goods_nil)))) Try.func36 (by kernel_rfl) (by kernel_rfl)
/-! casement/rect.Into -/
abbrev F33 : Fm := ⟨0, ⟨[⟨0, true, [.deep S26]⟩, ⟨1, true, [.deep S26]⟩], []⟩, ⟨[⟨0, true, [.deep S26]⟩], []⟩, .nil⟩
def f33 (k : Nat) : F33.pre.T → Option F33.post.T := runFn Try.prog ti [Fm.entry Try.prog F20 20 (f20 k), Fm.entry Try.prog F17 17 (f17 k)] F33 Try.f33 k
theorem g33 (k : Nat) : EGood Try.prog (Fm.entry Try.prog F33 33 (f33 k)) := good tiok mixed (goods_cons (g20 k) (goods_cons (g17 k) goods_nil)) Try.func33 (by kernel_rfl) (by kernel_rfl)
/-! casement/rect.Sum -/
abbrev F16 : Fm := ⟨0, ⟨[⟨0, false, [.deep is]⟩, ⟨1, false, [.deep is]⟩], []⟩, ⟨[⟨0, false, [.deep is]⟩], []⟩, .nil⟩
def f16 (k : Nat) : F16.pre.T → Option F16.post.T := runFn Try.prog ti [] F16 Try.f16 k
theorem g16 (k : Nat) : EGood Try.prog (Fm.entry Try.prog F16 16 (f16 k)) := good tiok mixed goods_nil Try.func16 (by kernel_rfl) (by kernel_rfl)
/-! casement/rect.Area -/
abbrev F13 : Fm := ⟨0, ⟨[⟨0, true, [.deep S26]⟩], []⟩, ⟨[⟨0, false, [.deep is]⟩], []⟩, .nil⟩
def f13 (k : Nat) : F13.pre.T → Option F13.post.T := runFn Try.prog ti [Fm.entry Try.prog F20 20 (f20 k)] F13 Try.f13 k
theorem g13 (k : Nat) : EGood Try.prog (Fm.entry Try.prog F13 13 (f13 k)) := good tiok mixed (goods_cons (g20 k) goods_nil) Try.func13 (by kernel_rfl) (by kernel_rfl)
/-! casement/rect.Cover -/
abbrev F14 : Fm := ⟨0, ⟨[⟨0, false, [.deep (.sl S26)]⟩], []⟩, ⟨[⟨0, false, [.deep is]⟩], []⟩, anF Try.f14 [⟨[⟨3, false, [.own 0 S26]⟩, ⟨4, false, [.deep is]⟩, ⟨19, false, [.deep (.sl S26)]⟩, ⟨20, false, [.deep is]⟩, ⟨21, false, [.deep is]⟩], [.row 26 S26]⟩, ⟨[⟨3, false, [.own 0 S26]⟩, ⟨4, false, [.deep is]⟩, ⟨7, false, [.own 1 S26]⟩, ⟨19, false, [.deep (.sl S26)]⟩, ⟨20, false, [.deep is]⟩, ⟨21, false, [.deep is]⟩, ⟨28, false, [.own 0 S26]⟩, ⟨29, false, [.deep is]⟩, ⟨30, false, [.deep is]⟩], [.row 26 S26, .row 26 S26]⟩, ⟨[⟨3, false, [.own 0 S26]⟩, ⟨4, false, [.deep is]⟩, ⟨9, false, [.ptr 1]⟩, ⟨10, false, [.own 2 S26]⟩, ⟨19, false, [.deep (.sl S26)]⟩, ⟨20, false, [.deep is]⟩, ⟨21, false, [.deep is]⟩, ⟨28, false, [.own 0 S26]⟩, ⟨29, false, [.deep is]⟩, ⟨30, false, [.deep is]⟩, ⟨34, false, [.deep (.sl S26)]⟩, ⟨35, false, [.deep is]⟩, ⟨36, false, [.deep is]⟩], [.row 26 S26, .cells 26 [.deep S26], .row 26 S26]⟩, ⟨[⟨3, false, [.own 0 S26]⟩, ⟨4, false, [.deep is]⟩, ⟨7, false, [.own 1 S26]⟩, ⟨19, false, [.deep (.sl S26)]⟩, ⟨20, false, [.deep is]⟩, ⟨21, false, [.deep is]⟩, ⟨48, false, [.own 1 S26]⟩, ⟨49, false, [.deep is]⟩, ⟨50, false, [.deep is]⟩], [.row 26 S26, .row 26 S26]⟩]⟩
def f14 (k : Nat) : F14.pre.T → Option F14.post.T := runFn Try.prog ti [Fm.entry Try.prog F20 20 (f20 k), Fm.entry Try.prog F36 36 (f36 k), Fm.entry Try.prog F13 13 (f13 k)] F14 Try.f14 k
theorem g14 (k : Nat) : EGood Try.prog (Fm.entry Try.prog F14 14 (f14 k)) := good tiok mixed (goods_cons (g20 k) (goods_cons (g36 k) (goods_cons (g13 k) goods_nil))) Try.func14 (by kernel_rfl) (by kernel_rfl)
/-! casement/casementlaw02.alive -/
abbrev F12 : Fm := ⟨0, ⟨[], []⟩, ⟨[⟨0, false, [.deep .bool]⟩], []⟩, .nil⟩
def f12 (k : Nat) : F12.pre.T → Option F12.post.T := runFn Try.prog ti [Fm.entry Try.prog F37 37 (f37 k), Fm.entry Try.prog F24 24 (f24 k), Fm.entry Try.prog F36 36 (f36 k), Fm.entry Try.prog F26 26 (f26 k), Fm.entry Try.prog F33 33 (f33 k), Fm.entry Try.prog F16 16 (f16 k), Fm.entry Try.prog F14 14 (f14 k)] F12 Try.f12 k
theorem g12 (k : Nat) : EGood Try.prog (Fm.entry Try.prog F12 12 (f12 k)) := good tiok mixed (goods_cons (g37 k) (goods_cons (g24 k) (goods_cons (g36 k) (goods_cons (g26 k) (goods_cons (g33 k) (goods_cons (g16 k) (goods_cons (g14 k) goods_nil))))))) Try.func12 (by kernel_rfl) (by kernel_rfl)
/-! casement/rect.Hull -/
abbrev F35 : Fm := ⟨0, ⟨[⟨0, true, [.deep S26]⟩, ⟨1, true, [.deep S26]⟩], []⟩, ⟨[⟨0, true, [.deep S26]⟩], []⟩, .nil⟩
def f35 (k : Nat) : F35.pre.T → Option F35.post.T := runFn Try.prog ti [Fm.entry Try.prog F20 20 (f20 k), Fm.entry Try.prog F39 39 (f39 k)] F35 Try.f35 k
theorem g35 (k : Nat) : EGood Try.prog (Fm.entry Try.prog F35 35 (f35 k)) := good tiok mixed (goods_cons (g20 k) (goods_cons (g39 k) goods_nil)) Try.func35 (by kernel_rfl) (by kernel_rfl)
/-! casement/rect.Within -/
abbrev F25 : Fm := ⟨0, ⟨[⟨0, true, [.deep S26]⟩, ⟨1, true, [.deep S26]⟩], []⟩, ⟨[⟨0, false, [.deep .bool]⟩], []⟩, .nil⟩
def f25 (k : Nat) : F25.pre.T → Option F25.post.T := runFn Try.prog ti [Fm.entry Try.prog F26 26 (f26 k), Fm.entry Try.prog F20 20 (f20 k)] F25 Try.f25 k
theorem g25 (k : Nat) : EGood Try.prog (Fm.entry Try.prog F25 25 (f25 k)) := good tiok mixed (goods_cons (g26 k) (goods_cons (g20 k) goods_nil)) Try.func25 (by kernel_rfl) (by kernel_rfl)
/-! casement/casementlaw02.RectHulls -/
abbrev F10 : Fm := ⟨0, ⟨[⟨0, true, [.deep S26]⟩, ⟨1, true, [.deep S26]⟩], []⟩, ⟨[⟨0, false, [.deep .bool]⟩], []⟩, .nil⟩
def f10 (k : Nat) : F10.pre.T → Option F10.post.T := runFn Try.prog ti [Fm.entry Try.prog F12 12 (f12 k), Fm.entry Try.prog F35 35 (f35 k), Fm.entry Try.prog F20 20 (f20 k), Fm.entry Try.prog F25 25 (f25 k)] F10 Try.f10 k
theorem g10 (k : Nat) : EGood Try.prog (Fm.entry Try.prog F10 10 (f10 k)) := good tiok mixed (goods_cons (g12 k) (goods_cons (g35 k) (goods_cons (g20 k) (goods_cons (g25 k) goods_nil)))) Try.func10 (by kernel_rfl) (by kernel_rfl)
end
end Go.Proofs.Ytmokmkaipcojkaa.Hull
