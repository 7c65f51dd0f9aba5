import Derived.Test.YtopnjcclbepdoaaKF
namespace Go.Proofs.Ytopnjcclbepdoaa.Caps
open Go Go.RowKit Go.Proofs Go.Proofs.Ytopnjcclbepdoaa.X
set_option linter.unusedVariables false
noncomputable section
/-! The width as the document has it, and the law of styles, cut behind their statements -/
def regId : Code → Option Nat
  | .region id _ _ => some id
  | _ => none
def anCut (cs : List (Nat × Sig)) : Code → List Sig → An × List Sig
  | .seq a b, l => (match regId a with
    | some i => (match cs.find? (fun q => q.1 == i) with
      | some q => (.cut q.2 (anCut cs a l).1 (anCut cs b (anCut cs a l).2).1, (anCut cs b (anCut cs a l).2).2)
      | none => (.node (anCut cs a l).1 (anCut cs b (anCut cs a l).2).1, (anCut cs b (anCut cs a l).2).2))
    | none => (.node (anCut cs a l).1 (anCut cs b (anCut cs a l).2).1, (anCut cs b (anCut cs a l).2).2))
  | .cond _ a b, l => (.node (anCut cs a l).1 (anCut cs b (anCut cs a l).2).1, (anCut cs b (anCut cs a l).2).2)
  | .block _ a, l => anCut cs a l
  | .loop a, g :: l => (.loop g (anCut cs a l).1, (anCut cs a l).2)
  | _, l => (.nil, l)
def anC (f : Func) (cs : List (Nat × Sig)) (l : List Sig) : An := match f.body with
  | some c => (anCut cs c l).1
  | none => .nil
abbrev G24 : Fm := ⟨0, ⟨[⟨0, false, [.deep (.int .i32)]⟩], []⟩, ⟨[⟨0, false, [.deep is]⟩], []⟩, anC Try.f24 [(1, ⟨[⟨0, false, [.deep (.int .i32)]⟩, ⟨44, false, [.deep .bool]⟩], []⟩), (3, ⟨[⟨0, false, [.deep (.int .i32)]⟩, ⟨3, false, [.deep .bool]⟩], []⟩), (4, ⟨[⟨0, false, [.deep (.int .i32)]⟩, ⟨3, false, [.deep .bool]⟩, ⟨4, false, [.deep .bool]⟩], []⟩), (5, ⟨[⟨3, false, [.deep .bool]⟩, ⟨4, false, [.deep .bool]⟩, ⟨5, false, [.deep .bool]⟩], []⟩), (6, ⟨[⟨133, false, [.deep .bool]⟩], []⟩)] []⟩
def f124 (k : Nat) : G24.pre.T → Option G24.post.T := runFn Try.prog ti [Fm.entry Try.prog F40 40 (f40 k)] G24 Try.f24 k
theorem g124 (k : Nat) : EGood Try.prog (Fm.entry Try.prog G24 24 (f124 k)) := good tiok mixed (goods_cons (g40 k) goods_nil) Try.func24 (by kernel_rfl) (by kernel_rfl)
abbrev G8 : Fm := ⟨0, ⟨[⟨0, false, [.deep is]⟩, ⟨1, false, [.deep is]⟩, ⟨2, false, [.deep is]⟩, ⟨3, true, [.deep S49]⟩], []⟩, ⟨[⟨0, false, [.deep .bool]⟩], []⟩, anC Try.f8 [(5, ⟨[⟨0, false, [.deep is]⟩, ⟨1, false, [.deep is]⟩, ⟨2, false, [.deep is]⟩, ⟨7, false, [.ptr 0]⟩, ⟨9, false, [.ptr 1]⟩, ⟨10, false, [.deep is]⟩, ⟨11, false, [.ptr 2]⟩, ⟨12, false, [.deep is]⟩, ⟨13, false, [.deep .bool]⟩], [.cells 49 [.deep S49], .cells 51 [.deep S51], .cells 51 [.deep S51]]⟩), (6, ⟨[⟨2, false, [.deep is]⟩, ⟨7, false, [.ptr 0]⟩, ⟨9, false, [.ptr 1]⟩, ⟨10, false, [.deep is]⟩, ⟨11, false, [.ptr 2]⟩, ⟨12, false, [.deep is]⟩, ⟨13, false, [.deep .bool]⟩, ⟨14, false, [.deep .bool]⟩], [.cells 49 [.deep S49], .cells 51 [.deep S51], .cells 51 [.deep S51]]⟩)] []⟩
def f108 (k : Nat) : G8.pre.T → Option G8.post.T := runFn Try.prog ti [Fm.entry Try.prog F18 18 (f18 k), Fm.entry Try.prog F19 19 (f19 k), Fm.entry Try.prog F23 23 (f23 k), Fm.entry Try.prog G24 24 (f124 k)] G8 Try.f8 k
theorem law8 (k : Nat) : ∀ e ∈ [Fm.entry Try.prog F18 18 (f18 k), Fm.entry Try.prog F19 19 (f19 k), Fm.entry Try.prog F23 23 (f23 k), Fm.entry Try.prog G24 24 (f124 k)], EGood Try.prog e := goods_cons (g18 k) (goods_cons (g19 k) (goods_cons (g23 k) (goods_cons (g124 k) goods_nil)))
end
end Go.Proofs.Ytopnjcclbepdoaa.Caps
