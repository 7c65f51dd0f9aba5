import Derived.Test.YthllpilgfipkpaaYG
namespace Go.Proofs.Ythllpilgfipkpaa.Ring
open Go Go.RowKit Go.Proofs Go.Proofs.Ythllpilgfipkpaa.X
set_option linter.unusedVariables false
noncomputable section
/-! The ring's functions, as the evaluator runs them -/
def anOf : Code → List Sig → An × List Sig
  | .seq a b, l => (.node (anOf a l).1 (anOf b (anOf a l).2).1, (anOf b (anOf a l).2).2)
  | .cond _ a b, l => (.node (anOf a l).1 (anOf b (anOf a l).2).1, (anOf b (anOf a l).2).2)
  | .block _ a, l => anOf a l
  | .loop a, g :: l => (.loop g (anOf a l).1, (anOf a l).2)
  | _, l => (.nil, l)
def anF (f : Func) (l : List Sig) : An := match f.body with
  | some c => (anOf c l).1
  | none => .nil
abbrev i64 : VS := .deep (.int .i64)
abbrev bo : VS := .deep .bool
abbrev rt (t : Tmp) (v : VS) : Root := ⟨t, false, [v]⟩
abbrev ints : Sh := .sl (.int .i64)
abbrev F45 : Fm := ⟨0, ⟨[rt 0 i64], []⟩, ⟨[rt 0 i64], []⟩, .nil⟩
def f45 (k : Nat) : F45.pre.T → Option F45.post.T := runFn Try.prog ti [] F45 Try.f45 k
theorem g45 (k : Nat) : EGood Try.prog (Fm.entry Try.prog F45 45 (f45 k)) := good tiok mixed goods_nil Try.func45 (by kernel_rfl) (by kernel_rfl)
abbrev ring (p e : TypeId) (s : Sh) : List OS := [.cells p [.own 1 s, i64, i64, i64], .row e s]
abbrev FNew (p e : TypeId) (s : Sh) : Fm := ⟨0, ⟨[rt 0 i64], []⟩, ⟨[rt 0 (.ptr 0)], ring p e s⟩, .nil⟩
abbrev FPlace (p e : TypeId) (s : Sh) : Fm := ⟨2, ⟨[rt 0 (.ptr 0), rt 1 i64], ring p e s⟩, ⟨[rt 0 i64], []⟩, .nil⟩
abbrev FPush (p e : TypeId) (s : Sh) : Fm := ⟨0, ⟨[rt 0 (.ptr 0), rt 1 (.deep s)], ring p e s⟩, ⟨[rt 0 (.deep s), rt 1 bo], ring p e s⟩, .nil⟩
abbrev FPop (p e : TypeId) (s : Sh) : Fm := ⟨0, ⟨[rt 0 (.ptr 0)], ring p e s⟩, ⟨[rt 0 (.deep s), rt 1 bo], ring p e s⟩, .nil⟩
abbrev FAt (p e : TypeId) (s : Sh) : Fm := ⟨2, ⟨[rt 0 (.ptr 0), rt 1 i64], ring p e s⟩, ⟨[rt 0 (.deep s), rt 1 bo], []⟩, .nil⟩
abbrev FLen (p e : TypeId) (s : Sh) : Fm := ⟨2, ⟨[rt 0 (.ptr 0)], ring p e s⟩, ⟨[rt 0 i64], []⟩, .nil⟩
abbrev FAll (p e : TypeId) (s : Sh) (an : An) : Fm := ⟨2, ⟨[rt 0 (.ptr 0)], ring p e s⟩, ⟨[rt 0 (.own 2 s)], [.row e s]⟩, an⟩
abbrev allSig (e : TypeId) (s : Sh) : Sig := ⟨[rt 0 (.ptr 0), rt 3 (.own 2 s), rt 8 i64, rt 9 i64], [.row e s]⟩
/-! of texts -/
abbrev F12 := FNew 77 9 .str
def f12 (k : Nat) : F12.pre.T → Option F12.post.T := runFn Try.prog ti [Fm.entry Try.prog F45 45 (f45 k)] F12 Try.f12 k
theorem g12 (k : Nat) : EGood Try.prog (Fm.entry Try.prog F12 12 (f12 k)) := good tiok mixed (goods_cons (g45 k) goods_nil) Try.func12 (by kernel_rfl) (by kernel_rfl)
abbrev F46 := FPlace 77 9 .str
def f46 (k : Nat) : F46.pre.T → Option F46.post.T := runFn Try.prog ti [] F46 Try.f46 k
theorem g46 (k : Nat) : EGood Try.prog (Fm.entry Try.prog F46 46 (f46 k)) := good tiok mixed goods_nil Try.func46 (by kernel_rfl) (by kernel_rfl)
abbrev F14 := FPush 77 9 .str
def f14 (k : Nat) : F14.pre.T → Option F14.post.T := runFn Try.prog ti [Fm.entry Try.prog F46 46 (f46 k)] F14 Try.f14 k
theorem g14 (k : Nat) : EGood Try.prog (Fm.entry Try.prog F14 14 (f14 k)) := good tiok mixed (goods_cons (g46 k) goods_nil) Try.func14 (by kernel_rfl) (by kernel_rfl)
abbrev F15 := FLen 77 9 .str
def f15 (k : Nat) : F15.pre.T → Option F15.post.T := runFn Try.prog ti [] F15 Try.f15 k
theorem g15 (k : Nat) : EGood Try.prog (Fm.entry Try.prog F15 15 (f15 k)) := good tiok mixed goods_nil Try.func15 (by kernel_rfl) (by kernel_rfl)
def f16 (k : Nat) : F15.pre.T → Option F15.post.T := runFn Try.prog ti [] F15 Try.f16 k
theorem g16 (k : Nat) : EGood Try.prog (Fm.entry Try.prog F15 16 (f16 k)) := good tiok mixed goods_nil Try.func16 (by kernel_rfl) (by kernel_rfl)
abbrev F18 := FAll 77 9 .str (anF Try.f18 [allSig 9 .str])
def f18 (k : Nat) : F18.pre.T → Option F18.post.T := runFn Try.prog ti [Fm.entry Try.prog F46 46 (f46 k)] F18 Try.f18 k
theorem g18 (k : Nat) : EGood Try.prog (Fm.entry Try.prog F18 18 (f18 k)) := good tiok mixed (goods_cons (g46 k) goods_nil) Try.func18 (by kernel_rfl) (by kernel_rfl)
abbrev texts : VS := .deep (.sl .str)
abbrev F17 : Fm := ⟨0, ⟨[rt 0 texts, rt 1 texts], []⟩, ⟨[rt 0 bo], []⟩, anF Try.f17 [⟨[rt 0 texts, rt 1 texts, rt 5 i64], []⟩]⟩
def f17 (k : Nat) : F17.pre.T → Option F17.post.T := runFn Try.prog ti [] F17 Try.f17 k
theorem g17 (k : Nat) : EGood Try.prog (Fm.entry Try.prog F17 17 (f17 k)) := good tiok mixed goods_nil Try.func17 (by kernel_rfl) (by kernel_rfl)
/-! of whole numbers -/
abbrev F25 := FNew 82 3 (.int .i64)
def f25 (k : Nat) : F25.pre.T → Option F25.post.T := runFn Try.prog ti [Fm.entry Try.prog F45 45 (f45 k)] F25 Try.f25 k
theorem g25 (k : Nat) : EGood Try.prog (Fm.entry Try.prog F25 25 (f25 k)) := good tiok mixed (goods_cons (g45 k) goods_nil) Try.func25 (by kernel_rfl) (by kernel_rfl)
abbrev F49 := FPlace 82 3 (.int .i64)
def f49 (k : Nat) : F49.pre.T → Option F49.post.T := runFn Try.prog ti [] F49 Try.f49 k
theorem g49 (k : Nat) : EGood Try.prog (Fm.entry Try.prog F49 49 (f49 k)) := good tiok mixed goods_nil Try.func49 (by kernel_rfl) (by kernel_rfl)
abbrev F26 := FPush 82 3 (.int .i64)
def f26 (k : Nat) : F26.pre.T → Option F26.post.T := runFn Try.prog ti [Fm.entry Try.prog F49 49 (f49 k)] F26 Try.f26 k
theorem g26 (k : Nat) : EGood Try.prog (Fm.entry Try.prog F26 26 (f26 k)) := good tiok mixed (goods_cons (g49 k) goods_nil) Try.func26 (by kernel_rfl) (by kernel_rfl)
abbrev F27 := FAt 82 3 (.int .i64)
def f27 (k : Nat) : F27.pre.T → Option F27.post.T := runFn Try.prog ti [Fm.entry Try.prog F49 49 (f49 k)] F27 Try.f27 k
theorem g27 (k : Nat) : EGood Try.prog (Fm.entry Try.prog F27 27 (f27 k)) := good tiok mixed (goods_cons (g49 k) goods_nil) Try.func27 (by kernel_rfl) (by kernel_rfl)
abbrev F28 := FLen 82 3 (.int .i64)
def f28 (k : Nat) : F28.pre.T → Option F28.post.T := runFn Try.prog ti [] F28 Try.f28 k
theorem g28 (k : Nat) : EGood Try.prog (Fm.entry Try.prog F28 28 (f28 k)) := good tiok mixed goods_nil Try.func28 (by kernel_rfl) (by kernel_rfl)
def f29 (k : Nat) : F28.pre.T → Option F28.post.T := runFn Try.prog ti [] F28 Try.f29 k
theorem g29 (k : Nat) : EGood Try.prog (Fm.entry Try.prog F28 29 (f29 k)) := good tiok mixed goods_nil Try.func29 (by kernel_rfl) (by kernel_rfl)
abbrev F30 := FAll 82 3 (.int .i64) (anF Try.f30 [allSig 3 (.int .i64)])
def f30 (k : Nat) : F30.pre.T → Option F30.post.T := runFn Try.prog ti [Fm.entry Try.prog F49 49 (f49 k)] F30 Try.f30 k
theorem g30 (k : Nat) : EGood Try.prog (Fm.entry Try.prog F30 30 (f30 k)) := good tiok mixed (goods_cons (g49 k) goods_nil) Try.func30 (by kernel_rfl) (by kernel_rfl)
abbrev F33 := FPop 82 3 (.int .i64)
def f33 (k : Nat) : F33.pre.T → Option F33.post.T := runFn Try.prog ti [Fm.entry Try.prog F27 27 (f27 k), Fm.entry Try.prog F49 49 (f49 k)] F33 Try.f33 k
theorem g33 (k : Nat) : EGood Try.prog (Fm.entry Try.prog F33 33 (f33 k)) := good tiok mixed (goods_cons (g27 k) (goods_cons (g49 k) goods_nil)) Try.func33 (by kernel_rfl) (by kernel_rfl)
abbrev F13 : Fm := ⟨0, ⟨[], []⟩, ⟨[rt 0 bo], []⟩, .nil⟩
def f13 (k : Nat) : F13.pre.T → Option F13.post.T := runFn Try.prog ti [Fm.entry Try.prog F25 25 (f25 k), Fm.entry Try.prog F26 26 (f26 k), Fm.entry Try.prog F27 27 (f27 k), Fm.entry Try.prog F28 28 (f28 k), Fm.entry Try.prog F28 29 (f29 k), Fm.entry Try.prog F30 30 (f30 k), Fm.entry Try.prog F33 33 (f33 k)] F13 Try.f13 k
theorem g13 (k : Nat) : EGood Try.prog (Fm.entry Try.prog F13 13 (f13 k)) := good tiok mixed (goods_cons (g25 k) (goods_cons (g26 k) (goods_cons (g27 k) (goods_cons (g28 k) (goods_cons (g29 k) (goods_cons (g30 k) (goods_cons (g33 k) goods_nil))))))) Try.func13 (by kernel_rfl) (by kernel_rfl)
--theorem alive : f13 5 ((), ()) = some (((true, ()), ()), ()) := by kernel_rfl
/-! the law of the last ones -/
abbrev lastSig : Sig := ⟨[rt 0 i64, rt 1 texts, rt 5 (.ptr 0), rt 6 (.own 2 .str), rt 22 texts, rt 23 i64, rt 24 i64], ring 77 9 .str ++ [.row 9 .str]⟩
abbrev F3 : Fm := lawF [rt 0 i64, rt 1 texts] (anF Try.f3 [lastSig])
def f3 (k : Nat) : F3.pre.T → Option F3.post.T := runFn Try.prog ti [Fm.entry Try.prog F12 12 (f12 k), Fm.entry Try.prog F13 13 (f13 k), Fm.entry Try.prog F14 14 (f14 k), Fm.entry Try.prog F15 15 (f15 k), Fm.entry Try.prog F15 16 (f16 k), Fm.entry Try.prog F17 17 (f17 k), Fm.entry Try.prog F18 18 (f18 k)] F3 Try.f3 k
theorem law3 (k : Nat) : ∀ e ∈ [Fm.entry Try.prog F12 12 (f12 k), Fm.entry Try.prog F13 13 (f13 k), Fm.entry Try.prog F14 14 (f14 k), Fm.entry Try.prog F15 15 (f15 k), Fm.entry Try.prog F15 16 (f16 k), Fm.entry Try.prog F17 17 (f17 k), Fm.entry Try.prog F18 18 (f18 k)], EGood Try.prog e :=
  goods_cons (g12 k) (goods_cons (g13 k) (goods_cons (g14 k) (goods_cons (g15 k) (goods_cons (g16 k) (goods_cons (g17 k) (goods_cons (g18 k) goods_nil))))))
--example : f3 20 (((2, ()), (["a".toUTF8, "b".toUTF8, "c".toUTF8], ()), ()), ()) = some (((true, ()), ()), ()) := by kernel_rfl
end
end Go.Proofs.Ythllpilgfipkpaa.Ring
