import Derived.Test.YtjdbamenbgfcjaaDoorGB
namespace Go.Proofs.YtjdbamenbgfcjaaDoor.Gl
open Go Go.RowKit Go.Proofs Go.Proofs.YtjdbamenbgfcjaaDoor.X
set_option linter.unusedVariables false
noncomputable section
/-! Widths, as the document has them; the laws of widths -/
def regId : Code → Option Nat
  | .region id _ _ => some id
  | _ => none
def anCut (cs : List (Nat × Sig)) : Code → List Sig → An × List Sig
  | .seq a b, l => (match regId a with
    | some i => (match cs.find? (fun q => q.1 == i) with
      | some q => (.cut q.2 (anCut cs a l).1 (anCut cs b (anCut cs a l).2).1, (anCut cs b (anCut cs a l).2).2)
      | none => (.node (anCut cs a l).1 (anCut cs b (anCut cs a l).2).1, (anCut cs b (anCut cs a l).2).2))
    | none => (.node (anCut cs a l).1 (anCut cs b (anCut cs a l).2).1, (anCut cs b (anCut cs a l).2).2))
  | .cond _ a b, l => (.node (anCut cs a l).1 (anCut cs b (anCut cs a l).2).1, (anCut cs b (anCut cs a l).2).2)
  | .block _ a, l => anCut cs a l
  | .loop a, g :: l => (.loop g (anCut cs a l).1, (anCut cs a l).2)
  | _, l => (.nil, l)
def anC (f : Func) (cs : List (Nat × Sig)) (l : List Sig) : An := match f.body with
  | some c => (anCut cs c l).1
  | none => .nil
/-! casement/casementref01.IsRune -/
abbrev F22 : Fm := ⟨0, ⟨[⟨0, false, [.deep (.int .i32)]⟩], []⟩, ⟨[⟨0, false, [.deep .bool]⟩], []⟩, .nil⟩
def f22 (k : Nat) : F22.pre.T → Option F22.post.T := runFn Tryd.prog ti [] F22 Tryd.f22 k
theorem g22 (k : Nat) : EGood Tryd.prog (Fm.entry Tryd.prog F22 22 (f22 k)) := good tiok mixed goods_nil Tryd.func22 (by kernel_rfl) (by kernel_rfl)
/-! casement/casementref01.Width -/
abbrev F24 : Fm := ⟨0, ⟨[⟨0, false, [.deep (.int .i32)]⟩], []⟩, ⟨[⟨0, false, [.deep is]⟩], []⟩, anC Tryd.f24 [(1, ⟨[⟨0, false, [.deep (.int .i32)]⟩, ⟨44, false, [.deep .bool]⟩], []⟩), (3, ⟨[⟨0, false, [.deep (.int .i32)]⟩, ⟨3, false, [.deep .bool]⟩], []⟩), (4, ⟨[⟨0, false, [.deep (.int .i32)]⟩, ⟨3, false, [.deep .bool]⟩, ⟨4, false, [.deep .bool]⟩], []⟩), (5, ⟨[⟨3, false, [.deep .bool]⟩, ⟨4, false, [.deep .bool]⟩, ⟨5, false, [.deep .bool]⟩], []⟩), (6, ⟨[⟨133, false, [.deep .bool]⟩], []⟩)] []⟩
def f24 (k : Nat) : F24.pre.T → Option F24.post.T := runFn Tryd.prog ti [Fm.entry Tryd.prog F22 22 (f22 k)] F24 Tryd.f24 k
theorem g24 (k : Nat) : EGood Tryd.prog (Fm.entry Tryd.prog F24 24 (f24 k)) := good tiok mixed (goods_cons (g22 k) goods_nil) Tryd.func24 (by kernel_rfl) (by kernel_rfl)
/-! casement/casementref01.Total -/
abbrev F26 : Fm := ⟨0, ⟨[⟨0, false, [.deep (.sl (.int .i32))]⟩], []⟩, ⟨[⟨0, false, [.deep is]⟩], []⟩, anF Tryd.f26 [⟨[⟨0, false, [.deep (.sl (.int .i32))]⟩, ⟨3, false, [.deep is]⟩, ⟨4, false, [.deep is]⟩], []⟩]⟩
def f26 (k : Nat) : F26.pre.T → Option F26.post.T := runFn Tryd.prog ti [Fm.entry Tryd.prog F24 24 (f24 k)] F26 Tryd.f26 k
theorem g26 (k : Nat) : EGood Tryd.prog (Fm.entry Tryd.prog F26 26 (f26 k)) := good tiok mixed (goods_cons (g24 k) goods_nil) Tryd.func26 (by kernel_rfl) (by kernel_rfl)
/-! casement/casementref01.Cut -/
abbrev F28 : Fm := ⟨0, ⟨[⟨0, false, [.deep (.sl (.int .i32))]⟩, ⟨1, false, [.deep is]⟩], []⟩, ⟨[⟨0, false, [.deep (.sl (.int .i32))]⟩, ⟨1, false, [.deep is]⟩], []⟩, anF Tryd.f28 [⟨[⟨0, false, [.deep (.sl (.int .i32))]⟩, ⟨1, false, [.deep is]⟩, ⟨6, false, [.deep is]⟩, ⟨7, false, [.own 0 (.int .i32)]⟩, ⟨8, false, [.deep is]⟩], [.row 21 (.int .i32)]⟩]⟩
def f28 (k : Nat) : F28.pre.T → Option F28.post.T := runFn Tryd.prog ti [Fm.entry Tryd.prog F24 24 (f24 k)] F28 Tryd.f28 k
theorem g28 (k : Nat) : EGood Tryd.prog (Fm.entry Tryd.prog F28 28 (f28 k)) := good tiok mixed (goods_cons (g24 k) goods_nil) Tryd.func28 (by kernel_rfl) (by kernel_rfl)
/-! casement/casementlaw01.GlyphWidths -/
abbrev F7 : Fm := ⟨0, ⟨[⟨0, false, [.deep (.int .i32)]⟩, ⟨1, false, [.deep (.sl (.int .i32))]⟩], []⟩, ⟨[⟨0, false, [.deep .bool]⟩], []⟩, anF Tryd.f7 [⟨[⟨0, false, [.deep (.int .i32)]⟩, ⟨1, false, [.deep (.sl (.int .i32))]⟩, ⟨9, false, [.deep (.sl (.int .i32))]⟩, ⟨10, false, [.deep is]⟩, ⟨11, false, [.deep is]⟩], []⟩]⟩
def f7 (k : Nat) : F7.pre.T → Option F7.post.T := runFn Tryd.prog ti [Fm.entry Tryd.prog F11 11 (f11 k), Fm.entry Tryd.prog F23 23 (f23 k), Fm.entry Tryd.prog F24 24 (f24 k), Fm.entry Tryd.prog F25 25 (f25 k), Fm.entry Tryd.prog F26 26 (f26 k)] F7 Tryd.f7 k
theorem law7 (k : Nat) : ∀ e ∈ [Fm.entry Tryd.prog F11 11 (f11 k), Fm.entry Tryd.prog F23 23 (f23 k), Fm.entry Tryd.prog F24 24 (f24 k), Fm.entry Tryd.prog F25 25 (f25 k), Fm.entry Tryd.prog F26 26 (f26 k)], EGood Tryd.prog e := (goods_cons (g11 k) (goods_cons (g23 k) (goods_cons (g24 k) (goods_cons (g25 k) (goods_cons (g26 k) goods_nil)))))
/-! casement/casementlaw01.GlyphCuts -/
abbrev F8 : Fm := ⟨0, ⟨[⟨0, false, [.deep (.sl (.int .i32))]⟩, ⟨1, false, [.deep is]⟩], []⟩, ⟨[⟨0, false, [.deep .bool]⟩], []⟩, anF Tryd.f8 [⟨[⟨0, false, [.deep (.sl (.int .i32))]⟩, ⟨1, false, [.deep is]⟩, ⟨5, false, [.own 0 (.int .i32)]⟩, ⟨7, false, [.deep (.sl (.int .i32))]⟩, ⟨61, false, [.deep is]⟩, ⟨62, false, [.deep is]⟩], [.row 21 (.int .i32)]⟩]⟩
def f8 (k : Nat) : F8.pre.T → Option F8.post.T := runFn Tryd.prog ti [Fm.entry Tryd.prog F11 11 (f11 k), Fm.entry Tryd.prog F27 27 (f27 k), Fm.entry Tryd.prog F28 28 (f28 k), Fm.entry Tryd.prog F13 13 (f13 k), Fm.entry Tryd.prog F25 25 (f25 k)] F8 Tryd.f8 k
theorem law8 (k : Nat) : ∀ e ∈ [Fm.entry Tryd.prog F11 11 (f11 k), Fm.entry Tryd.prog F27 27 (f27 k), Fm.entry Tryd.prog F28 28 (f28 k), Fm.entry Tryd.prog F13 13 (f13 k), Fm.entry Tryd.prog F25 25 (f25 k)], EGood Tryd.prog e := (goods_cons (g11 k) (goods_cons (g27 k) (goods_cons (g28 k) (goods_cons (g13 k) (goods_cons (g25 k) goods_nil)))))
/-! casement/casementlaw01.GlyphSums -/
abbrev F10 : Fm := ⟨0, ⟨[⟨0, false, [.deep (.sl (.int .i32))]⟩, ⟨1, false, [.deep (.sl (.int .i32))]⟩, ⟨2, false, [.deep is]⟩], []⟩, ⟨[⟨0, false, [.deep .bool]⟩], []⟩, .nil⟩
def f10 (k : Nat) : F10.pre.T → Option F10.post.T := runFn Tryd.prog ti [Fm.entry Tryd.prog F11 11 (f11 k), Fm.entry Tryd.prog F25 25 (f25 k), Fm.entry Tryd.prog F27 27 (f27 k)] F10 Tryd.f10 k
theorem law10 (k : Nat) : ∀ e ∈ [Fm.entry Tryd.prog F11 11 (f11 k), Fm.entry Tryd.prog F25 25 (f25 k), Fm.entry Tryd.prog F27 27 (f27 k)], EGood Tryd.prog e := (goods_cons (g11 k) (goods_cons (g25 k) (goods_cons (g27 k) goods_nil)))
end
end Go.Proofs.YtjdbamenbgfcjaaDoor.Gl
