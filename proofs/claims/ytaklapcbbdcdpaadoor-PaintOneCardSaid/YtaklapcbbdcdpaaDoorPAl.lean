import Derived.Test.YtaklapcbbdcdpaaDoorPA
namespace Go.Proofs.YtaklapcbbdcdpaaDoor.Pt
open Go Go.RowKit Go.Proofs Go.Proofs.YtaklapcbbdcdpaaDoor.X
/-! The document's examples hold -/
theorem al7 : f7 24 ((), ()) = some (((true, ()), ()), ()) := by kernel_rfl
end Go.Proofs.YtaklapcbbdcdpaaDoor.Pt
