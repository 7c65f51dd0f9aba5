import Derived.Test.YtgngbbkaghmnpaaXA0
namespace Go.Proofs.Ytgngbbkaghmnpaa.X
/-- package variables that are only read, by their blocks: none -/
def globs : List (Nat × (s : Sh) × List s.T) := []
end Go.Proofs.Ytgngbbkaghmnpaa.X
