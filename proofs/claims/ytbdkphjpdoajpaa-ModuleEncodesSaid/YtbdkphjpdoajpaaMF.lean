/- Numbers of 64 bits, and rows that are read. No condition. -/
import Derived.Test.YtbdkphjpdoajpaaQx10
import Derived.OpenShut
namespace Go.Proofs.Ytbdkphjpdoajpaa.Mdl
open Go.RowKit Go.Proofs.Ytbdkphjpdoajpaa.Q Go.Proofs.YtbdkphjpdoajpaaW.PrintWords Go.Proofs.YtbdkphjpdoajpaaW.PrintLast

def I64 (a : Int) : Prop := -9223372036854775808 ≤ a ∧ a ≤ 9223372036854775807
theorem i64_of {a : Int} (h : (Lit.int .i64 a).wf = true) : I64 a := by
  have := bounds_i64 h
  exact ⟨by omega, by omega⟩
theorem wrap_id {n : Int} (h : I64 n) : wrap64 n = n := by unfold wrap64 I64 at *; omega
theorem rdT_at (l : List S44) (i : Nat) (h : i < l.length) : rd_T44 l (i : Int) = l[i] := by
  unfold rd_T44
  simp [h]
theorem rdI_at (l : List S41) (i : Nat) (h : i < l.length) : rd_T41 l (i : Int) = l[i] := by
  unfold rd_T41
  simp [h]
end Go.Proofs.Ytbdkphjpdoajpaa.Mdl
