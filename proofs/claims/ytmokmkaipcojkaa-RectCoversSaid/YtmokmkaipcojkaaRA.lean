/- The document's examples come true, in so many rounds. No condition. -/
import Derived.Test.YtmokmkaipcojkaaQx14
import Derived.OpenShut
namespace Go.Proofs.Ytmokmkaipcojkaa.Rect
open Go.RowKit Go.Proofs.Ytmokmkaipcojkaa.Q Go.Proofs.YtmokmkaipcojkaaW.PrintWords Go.Proofs.YtmokmkaipcojkaaW.PrintLast Go.Proofs.YtmokmkaipcojkaaW.PrintMore

theorem alive_ok : casementlaw02_alive.f 60 = some true := by kernel_rfl
theorem alive_k {k : Nat} (hk : 60 ≤ k) : casementlaw02_alive.f k = some true := at_rounds casementlaw02_alive.mono hk alive_ok
/-- A whole number of 64 bits. -/
def I64 (a : Int) : Prop := -9223372036854775808 ≤ a ∧ a ≤ 9223372036854775807
theorem i64_of {a : Int} (h : (Lit.int .i64 a).wf = true) : I64 a := by
  have := bounds_i64 h
  exact ⟨by omega, by omega⟩

theorem wrap_id {n : Int} (h : I64 n) : wrap64 n = n := by unfold wrap64 I64 at *; omega
theorem pos_of {k : Nat} (h : 1 ≤ k) : ∃ m, k = m + 1 := ⟨k - 1, by omega⟩
end Go.Proofs.Ytmokmkaipcojkaa.Rect
