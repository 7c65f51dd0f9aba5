import Derived.Test.YtjdbamenbgfcjaaDoorGA
namespace Go.Proofs.YtjdbamenbgfcjaaDoor.Gl
open Go Go.RowKit Go.Proofs Go.Proofs.YtjdbamenbgfcjaaDoor.X
set_option linter.unusedVariables false
noncomputable section
/-! A copy of a slice; the document's examples hold -/
abbrev OwnT : Type := ((Unit × Unit) × Unit) × (List Int × Unit)
abbrev ownV (xs : List Int) : OwnT := ((((), ()), ()), (xs, ()))
def cloneB (z : Nat) (xs : List Int) : Option OwnT := bif ((0 + xs.length) * z).ble 140737488355328 then some (ownV ([] ++ xs)) else none
theorem e32 (k : Nat) (xs : List Int) : f32 k (((xs, ()), ()), ()) = bif xs.isEmpty then both (some (ownV [])) (cloneB 1 xs) else cloneB 1 xs := by kernel_rfl
theorem e38 (k : Nat) (xs : List Int) : f38 k (((xs, ()), ()), ()) = bif xs.isEmpty then both (some (ownV [])) (cloneB 4 xs) else cloneB 4 xs := by kernel_rfl
theorem f32_fun (k : Nat) : f32 k = fun g => cloneB 1 g.1.1.1 := by
  funext g
  obtain ⟨⟨⟨xs, u⟩, v⟩, w⟩ := g
  refine (e32 k xs).trans ?_
  cases xs with
  | nil => exact both_self _
  | cons x xs => rfl
theorem f38_fun (k : Nat) : f38 k = fun g => cloneB 4 g.1.1.1 := by
  funext g
  obtain ⟨⟨⟨xs, u⟩, v⟩, w⟩ := g
  refine (e38 k xs).trans ?_
  cases xs with
  | nil => exact both_self _
  | cons x xs => rfl
def f116 (k : Nat) : F16.pre.T → Option F16.post.T := runFn Tryd.prog ti [Fm.entry Tryd.prog F32 32 (fun g => cloneB 1 g.1.1.1), Fm.entry Tryd.prog F33 33 (f33 k), Fm.entry Tryd.prog F29 29 (f29 k)] F16 Tryd.f16 k
theorem f16_fun (k : Nat) : f16 k = f116 k := by unfold f16 f116; rw [f32_fun]
def f127 (k : Nat) : F27.pre.T → Option F27.post.T := runFn Tryd.prog ti [Fm.entry Tryd.prog F23 23 (f23 k), Fm.entry Tryd.prog F38 38 (fun g => cloneB 4 g.1.1.1)] F27 Tryd.f27 k
theorem f27_fun (k : Nat) : f27 k = f127 k := by unfold f27 f127; rw [f38_fun]
def f111 (k : Nat) : F11.pre.T → Option F11.post.T := runFn Tryd.prog ti [Fm.entry Tryd.prog F16 16 (f116 k), Fm.entry Tryd.prog F17 17 (f17 k), Fm.entry Tryd.prog F27 27 (f127 k), Fm.entry Tryd.prog F12 12 (f12 k), Fm.entry Tryd.prog F13 13 (f13 k), Fm.entry Tryd.prog F23 23 (f23 k), Fm.entry Tryd.prog F25 25 (f25 k), Fm.entry Tryd.prog F18 18 (f18 k), Fm.entry Tryd.prog F19 19 (f19 k)] F11 Tryd.f11 k
theorem f11_fun (k : Nat) : f11 k = f111 k := by unfold f11 f111; rw [f16_fun, f27_fun]
theorem alive (k : Nat) : f11 (k + 20) ((), ()) = some (((true, ()), ()), ()) := by
  rw [f11_fun]
  have h : f111 (k + 20) ((), ()) = some (((true, ()), ()), ()) := by kernel_rfl
  exact h
end
end Go.Proofs.YtjdbamenbgfcjaaDoor.Gl
