import Derived.Test.YtjbdeccohpbegaaVA
namespace Go.Proofs.Ytjbdeccohpbegaa.Vm
open Go Go.RowKit Go.Proofs Go.Proofs.Ytjbdeccohpbegaa.X
noncomputable section
/-- the document's examples -/
theorem alive (k : Nat) : f8 (k + 60) ((), ()) = some (((true, ()), ()), ()) := by kernel_rfl
end
end Go.Proofs.Ytjbdeccohpbegaa.Vm
