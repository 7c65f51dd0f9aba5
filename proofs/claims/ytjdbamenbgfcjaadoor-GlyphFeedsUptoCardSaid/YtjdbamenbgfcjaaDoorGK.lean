import Derived.Test.YtjdbamenbgfcjaaDoorGC
namespace Go.Proofs.YtjdbamenbgfcjaaDoor.Gl
open Go Go.RowKit Go.Proofs Go.Proofs.YtjdbamenbgfcjaaDoor.X
set_option linter.unusedVariables false
noncomputable section
/-! Bytes and runes, as the document has them; the laws of runes -/
def regId2 : Code → Option Nat
  | .region id _ _ => some id
  | .seq (.region id _ _) _ => some (1000 + id)
  | _ => none
def anCut2 (cs : List (Nat × Sig)) : Code → List Sig → An × List Sig
  | .seq a b, l => (match regId2 a with
    | some i => (match cs.find? (fun q => q.1 == i) with
      | some q => (.cut q.2 (anCut2 cs a l).1 (anCut2 cs b (anCut2 cs a l).2).1, (anCut2 cs b (anCut2 cs a l).2).2)
      | none => (.node (anCut2 cs a l).1 (anCut2 cs b (anCut2 cs a l).2).1, (anCut2 cs b (anCut2 cs a l).2).2))
    | none => (.node (anCut2 cs a l).1 (anCut2 cs b (anCut2 cs a l).2).1, (anCut2 cs b (anCut2 cs a l).2).2))
  | .cond _ a b, l => (.node (anCut2 cs a l).1 (anCut2 cs b (anCut2 cs a l).2).1, (anCut2 cs b (anCut2 cs a l).2).2)
  | .block _ a, l => anCut2 cs a l
  | .loop a, g :: l => (.loop g (anCut2 cs a l).1, (anCut2 cs a l).2)
  | _, l => (.nil, l)
def anC2 (f : Func) (cs : List (Nat × Sig)) (l : List Sig) : An := match f.body with
  | some c => (anCut2 cs c l).1
  | none => .nil
/-! casement/casementref01.tail -/
abbrev F40 : Fm := ⟨0, ⟨[⟨0, false, [.deep (.sl (.int .u8))]⟩, ⟨1, false, [.deep is]⟩, ⟨2, false, [.deep (.int .u8)]⟩, ⟨3, false, [.deep (.int .u8)]⟩], []⟩, ⟨[⟨0, false, [.deep .bool]⟩], []⟩, .nil⟩
def f40 (k : Nat) : F40.pre.T → Option F40.post.T := runFn Tryd.prog ti [] F40 Tryd.f40 k
theorem g40 (k : Nat) : EGood Tryd.prog (Fm.entry Tryd.prog F40 40 (f40 k)) := good tiok mixed goods_nil Tryd.func40 (by kernel_rfl) (by kernel_rfl)
/-! casement/casementref01.Whole -/
abbrev F30 : Fm := ⟨0, ⟨[⟨0, false, [.deep (.sl (.int .u8))]⟩], []⟩, ⟨[⟨0, false, [.deep is]⟩, ⟨1, false, [.deep (.int .i32)]⟩], []⟩, anC2 Tryd.f30 [(6, ⟨[⟨0, false, [.deep (.sl (.int .u8))]⟩, ⟨4, false, [.deep (.int .u8)]⟩, ⟨26, false, [.deep .bool]⟩], []⟩), (1009, ⟨[⟨0, false, [.deep (.sl (.int .u8))]⟩, ⟨4, false, [.deep (.int .u8)]⟩, ⟨5, false, [.deep (.int .u8)]⟩, ⟨6, false, [.deep (.int .u8)]⟩], []⟩), (1011, ⟨[⟨0, false, [.deep (.sl (.int .u8))]⟩, ⟨4, false, [.deep (.int .u8)]⟩, ⟨5, false, [.deep (.int .u8)]⟩, ⟨6, false, [.deep (.int .u8)]⟩], []⟩), (13, ⟨[⟨0, false, [.deep (.sl (.int .u8))]⟩, ⟨4, false, [.deep (.int .u8)]⟩, ⟨56, false, [.deep .bool]⟩], []⟩), (1016, ⟨[⟨0, false, [.deep (.sl (.int .u8))]⟩, ⟨4, false, [.deep (.int .u8)]⟩, ⟨5, false, [.deep (.int .u8)]⟩, ⟨6, false, [.deep (.int .u8)]⟩], []⟩), (1018, ⟨[⟨0, false, [.deep (.sl (.int .u8))]⟩, ⟨4, false, [.deep (.int .u8)]⟩, ⟨5, false, [.deep (.int .u8)]⟩, ⟨6, false, [.deep (.int .u8)]⟩], []⟩), (20, ⟨[⟨0, false, [.deep (.sl (.int .u8))]⟩, ⟨4, false, [.deep (.int .u8)]⟩, ⟨97, false, [.deep .bool]⟩], []⟩)] []⟩
def f30 (k : Nat) : F30.pre.T → Option F30.post.T := runFn Tryd.prog ti [Fm.entry Tryd.prog F40 40 (f40 k)] F30 Tryd.f30 k
theorem g30 (k : Nat) : EGood Tryd.prog (Fm.entry Tryd.prog F30 30 (f30 k)) := good tiok mixed (goods_cons (g40 k) goods_nil) Tryd.func30 (by kernel_rfl) (by kernel_rfl)
/-! casement/casementref01.Runes -/
abbrev F14 : Fm := ⟨0, ⟨[⟨0, false, [.deep (.sl (.int .u8))]⟩], []⟩, ⟨[⟨0, false, [.deep (.sl (.int .i32))]⟩], []⟩, anF Tryd.f14 [⟨[⟨0, false, [.deep (.sl (.int .u8))]⟩, ⟨3, false, [.own 0 (.int .i32)]⟩, ⟨4, false, [.deep is]⟩], [.row 21 (.int .i32)]⟩]⟩
def f14 (k : Nat) : F14.pre.T → Option F14.post.T := runFn Tryd.prog ti [Fm.entry Tryd.prog F30 30 (f30 k)] F14 Tryd.f14 k
theorem g14 (k : Nat) : EGood Tryd.prog (Fm.entry Tryd.prog F14 14 (f14 k)) := good tiok mixed (goods_cons (g30 k) goods_nil) Tryd.func14 (by kernel_rfl) (by kernel_rfl)
/-! casement/casementlaw01.GlyphReads -/
abbrev F3 : Fm := ⟨0, ⟨[⟨0, false, [.deep (.sl (.int .u8))]⟩], []⟩, ⟨[⟨0, false, [.deep .bool]⟩], []⟩, anF Tryd.f3 [⟨[⟨0, false, [.deep (.sl (.int .u8))]⟩, ⟨3, false, [.own 0 (.int .i32)]⟩, ⟨15, false, [.deep is]⟩, ⟨16, false, [.deep is]⟩], [.row 21 (.int .i32)]⟩]⟩
def f3 (k : Nat) : F3.pre.T → Option F3.post.T := runFn Tryd.prog ti [Fm.entry Tryd.prog F11 11 (f11 k), Fm.entry Tryd.prog F12 12 (f12 k), Fm.entry Tryd.prog F14 14 (f14 k), Fm.entry Tryd.prog F13 13 (f13 k)] F3 Tryd.f3 k
theorem law3 (k : Nat) : ∀ e ∈ [Fm.entry Tryd.prog F11 11 (f11 k), Fm.entry Tryd.prog F12 12 (f12 k), Fm.entry Tryd.prog F14 14 (f14 k), Fm.entry Tryd.prog F13 13 (f13 k)], EGood Tryd.prog e := (goods_cons (g11 k) (goods_cons (g12 k) (goods_cons (g14 k) (goods_cons (g13 k) goods_nil))))
/-! casement/casementref01.Begins -/
abbrev F31 : Fm := ⟨0, ⟨[⟨0, false, [.deep (.sl (.int .u8))]⟩], []⟩, ⟨[⟨0, false, [.deep .bool]⟩], []⟩, anF Tryd.f31 [⟨[⟨0, false, [.deep (.sl (.int .u8))]⟩, ⟨5, false, [.own 0 (.sl (.int .u8))]⟩, ⟨6, false, [.deep is]⟩], [.row 22 (.sl (.int .u8))]⟩, ⟨[⟨0, false, [.deep (.sl (.int .u8))]⟩, ⟨5, false, [.own 0 (.sl (.int .u8))]⟩, ⟨6, false, [.deep is]⟩, ⟨7, false, [.own 1 (.int .u8)]⟩, ⟨8, false, [.deep is]⟩], [.row 22 (.sl (.int .u8)), .row 5 (.int .u8)]⟩, ⟨[⟨0, false, [.deep (.sl (.int .u8))]⟩, ⟨5, false, [.own 0 (.sl (.int .u8))]⟩, ⟨6, false, [.deep is]⟩, ⟨7, false, [.own 1 (.int .u8)]⟩, ⟨9, false, [.deep is]⟩], [.row 22 (.sl (.int .u8)), .row 5 (.int .u8)]⟩]⟩
def f31 (k : Nat) : F31.pre.T → Option F31.post.T := runFn Tryd.prog ti [Fm.entry Tryd.prog F30 30 (f30 k)] F31 Tryd.f31 k
theorem g31 (k : Nat) : EGood Tryd.prog (Fm.entry Tryd.prog F31 31 (f31 k)) := good tiok mixed (goods_cons (g30 k) goods_nil) Tryd.func31 (by kernel_rfl) (by kernel_rfl)
/-! casement/casementref01.Feed -/
abbrev F15 : Fm := ⟨0, ⟨[⟨0, false, [.deep (.sl (.int .u8))]⟩], []⟩, ⟨[⟨0, false, [.deep (.sl (.int .i32))]⟩, ⟨1, false, [.deep (.sl (.int .u8))]⟩], []⟩, anF Tryd.f15 [⟨[⟨0, false, [.deep (.sl (.int .u8))]⟩, ⟨4, false, [.own 0 (.int .i32)]⟩, ⟨5, false, [.deep is]⟩], [.row 21 (.int .i32)]⟩]⟩
def f15 (k : Nat) : F15.pre.T → Option F15.post.T := runFn Tryd.prog ti [Fm.entry Tryd.prog F31 31 (f31 k), Fm.entry Tryd.prog F30 30 (f30 k)] F15 Tryd.f15 k
theorem g15 (k : Nat) : EGood Tryd.prog (Fm.entry Tryd.prog F15 15 (f15 k)) := good tiok mixed (goods_cons (g31 k) (goods_cons (g30 k) goods_nil)) Tryd.func15 (by kernel_rfl) (by kernel_rfl)
/-! casement/casementlaw01.GlyphFeeds -/
abbrev F4 : Fm := ⟨0, ⟨[⟨0, false, [.deep (.sl (.sl (.int .u8)))]⟩], []⟩, ⟨[⟨0, false, [.deep .bool]⟩], []⟩, anF Tryd.f4 [⟨[⟨3, false, [.ptr 0]⟩, ⟨4, false, [.own 1 (.int .u8)]⟩, ⟨17, false, [.deep (.sl (.sl (.int .u8)))]⟩, ⟨18, false, [.deep is]⟩, ⟨19, false, [.deep is]⟩], [.cells 30 [.deep (.sl (.int .u8))], .row 5 (.int .u8)]⟩, ⟨[⟨64, false, [.deep (.sl (.int .i32))]⟩, ⟨65, false, [.deep is]⟩, ⟨66, false, [.deep is]⟩], []⟩]⟩
def f4 (k : Nat) : F4.pre.T → Option F4.post.T := runFn Tryd.prog ti [Fm.entry Tryd.prog F11 11 (f11 k), Fm.entry Tryd.prog F15 15 (f15 k), Fm.entry Tryd.prog F16 16 (f16 k), Fm.entry Tryd.prog F13 13 (f13 k), Fm.entry Tryd.prog F17 17 (f17 k), Fm.entry Tryd.prog F18 18 (f18 k)] F4 Tryd.f4 k
theorem law4 (k : Nat) : ∀ e ∈ [Fm.entry Tryd.prog F11 11 (f11 k), Fm.entry Tryd.prog F15 15 (f15 k), Fm.entry Tryd.prog F16 16 (f16 k), Fm.entry Tryd.prog F13 13 (f13 k), Fm.entry Tryd.prog F17 17 (f17 k), Fm.entry Tryd.prog F18 18 (f18 k)], EGood Tryd.prog e := (goods_cons (g11 k) (goods_cons (g15 k) (goods_cons (g16 k) (goods_cons (g13 k) (goods_cons (g17 k) (goods_cons (g18 k) goods_nil))))))
/-! casement/casementlaw01.GlyphParts -/
abbrev F5 : Fm := ⟨0, ⟨[⟨0, false, [.deep (.sl (.int .u8))]⟩, ⟨1, false, [.deep (.sl is)]⟩], []⟩, ⟨[⟨0, false, [.deep .bool]⟩], []⟩, anF Tryd.f5 [⟨[⟨0, false, [.deep (.sl (.int .u8))]⟩, ⟨5, false, [.ptr 0]⟩, ⟨6, false, [.own 1 (.int .i32)]⟩, ⟨7, false, [.deep is]⟩, ⟨14, false, [.deep (.sl is)]⟩, ⟨15, false, [.deep is]⟩, ⟨16, false, [.deep is]⟩], [.cells 30 [.deep (.sl (.int .u8))], .row 21 (.int .i32)]⟩]⟩
def f5 (k : Nat) : F5.pre.T → Option F5.post.T := runFn Tryd.prog ti [Fm.entry Tryd.prog F11 11 (f11 k), Fm.entry Tryd.prog F16 16 (f16 k), Fm.entry Tryd.prog F17 17 (f17 k), Fm.entry Tryd.prog F18 18 (f18 k), Fm.entry Tryd.prog F12 12 (f12 k), Fm.entry Tryd.prog F13 13 (f13 k)] F5 Tryd.f5 k
theorem law5 (k : Nat) : ∀ e ∈ [Fm.entry Tryd.prog F11 11 (f11 k), Fm.entry Tryd.prog F16 16 (f16 k), Fm.entry Tryd.prog F17 17 (f17 k), Fm.entry Tryd.prog F18 18 (f18 k), Fm.entry Tryd.prog F12 12 (f12 k), Fm.entry Tryd.prog F13 13 (f13 k)], EGood Tryd.prog e := (goods_cons (g11 k) (goods_cons (g16 k) (goods_cons (g17 k) (goods_cons (g18 k) (goods_cons (g12 k) (goods_cons (g13 k) goods_nil))))))
/-! casement/casementref01.Bytes -/
abbrev F21 : Fm := ⟨0, ⟨[⟨0, false, [.deep (.sl (.int .i32))]⟩], []⟩, ⟨[⟨0, false, [.deep (.sl (.int .u8))]⟩], []⟩, anF Tryd.f21 [⟨[⟨0, false, [.deep (.sl (.int .i32))]⟩, ⟨3, false, [.own 0 (.int .u8)]⟩, ⟨4, false, [.deep is]⟩], [.row 5 (.int .u8)]⟩]⟩
def f21 (k : Nat) : F21.pre.T → Option F21.post.T := runFn Tryd.prog ti [Fm.entry Tryd.prog F22 22 (f22 k)] F21 Tryd.f21 k
theorem g21 (k : Nat) : EGood Tryd.prog (Fm.entry Tryd.prog F21 21 (f21 k)) := good tiok mixed (goods_cons (g22 k) goods_nil) Tryd.func21 (by kernel_rfl) (by kernel_rfl)
/-! casement/casementref01.SameBytes -/
abbrev F20 : Fm := ⟨0, ⟨[⟨0, false, [.deep (.sl (.int .u8))]⟩, ⟨1, false, [.deep (.sl (.int .u8))]⟩], []⟩, ⟨[⟨0, false, [.deep .bool]⟩], []⟩, anF Tryd.f20 [⟨[⟨0, false, [.deep (.sl (.int .u8))]⟩, ⟨1, false, [.deep (.sl (.int .u8))]⟩, ⟨5, false, [.deep is]⟩], []⟩]⟩
def f20 (k : Nat) : F20.pre.T → Option F20.post.T := runFn Tryd.prog ti [] F20 Tryd.f20 k
theorem g20 (k : Nat) : EGood Tryd.prog (Fm.entry Tryd.prog F20 20 (f20 k)) := good tiok mixed goods_nil Tryd.func20 (by kernel_rfl) (by kernel_rfl)
/-! casement/casementlaw01.GlyphWrites -/
abbrev F6 : Fm := ⟨0, ⟨[⟨0, false, [.deep (.sl (.int .i32))]⟩, ⟨1, false, [.deep (.sl (.int .u8))]⟩], []⟩, ⟨[⟨0, false, [.deep .bool]⟩], []⟩, anF Tryd.f6 [⟨[⟨0, false, [.deep (.sl (.int .i32))]⟩, ⟨1, false, [.deep (.sl (.int .u8))]⟩, ⟨6, false, [.deep (.sl (.int .i32))]⟩, ⟨26, false, [.deep is]⟩, ⟨27, false, [.deep is]⟩], []⟩]⟩
def f6 (k : Nat) : F6.pre.T → Option F6.post.T := runFn Tryd.prog ti [Fm.entry Tryd.prog F11 11 (f11 k), Fm.entry Tryd.prog F19 19 (f19 k), Fm.entry Tryd.prog F21 21 (f21 k), Fm.entry Tryd.prog F20 20 (f20 k), Fm.entry Tryd.prog F12 12 (f12 k), Fm.entry Tryd.prog F22 22 (f22 k), Fm.entry Tryd.prog F13 13 (f13 k)] F6 Tryd.f6 k
theorem law6 (k : Nat) : ∀ e ∈ [Fm.entry Tryd.prog F11 11 (f11 k), Fm.entry Tryd.prog F19 19 (f19 k), Fm.entry Tryd.prog F21 21 (f21 k), Fm.entry Tryd.prog F20 20 (f20 k), Fm.entry Tryd.prog F12 12 (f12 k), Fm.entry Tryd.prog F22 22 (f22 k), Fm.entry Tryd.prog F13 13 (f13 k)], EGood Tryd.prog e := (goods_cons (g11 k) (goods_cons (g19 k) (goods_cons (g21 k) (goods_cons (g20 k) (goods_cons (g12 k) (goods_cons (g22 k) (goods_cons (g13 k) goods_nil)))))))
/-! casement/casementlaw01.GlyphOnes -/
abbrev F9 : Fm := ⟨0, ⟨[⟨0, false, [.deep (.int .i32)]⟩, ⟨1, false, [.deep (.int .i32)]⟩, ⟨2, false, [.deep is]⟩], []⟩, ⟨[⟨0, false, [.deep .bool]⟩], []⟩, anF Tryd.f9 [⟨[⟨90, false, [.deep (.sl (.int .i32))]⟩, ⟨91, false, [.deep is]⟩, ⟨92, false, [.deep is]⟩], []⟩]⟩
def f9 (k : Nat) : F9.pre.T → Option F9.post.T := runFn Tryd.prog ti [Fm.entry Tryd.prog F11 11 (f11 k), Fm.entry Tryd.prog F22 22 (f22 k), Fm.entry Tryd.prog F23 23 (f23 k), Fm.entry Tryd.prog F19 19 (f19 k), Fm.entry Tryd.prog F12 12 (f12 k)] F9 Tryd.f9 k
theorem law9 (k : Nat) : ∀ e ∈ [Fm.entry Tryd.prog F11 11 (f11 k), Fm.entry Tryd.prog F22 22 (f22 k), Fm.entry Tryd.prog F23 23 (f23 k), Fm.entry Tryd.prog F19 19 (f19 k), Fm.entry Tryd.prog F12 12 (f12 k)], EGood Tryd.prog e := (goods_cons (g11 k) (goods_cons (g22 k) (goods_cons (g23 k) (goods_cons (g19 k) (goods_cons (g12 k) goods_nil)))))
end
end Go.Proofs.YtjdbamenbgfcjaaDoor.Gl
