import Derived.Test.YtbdkphjpdoajpaaXA0
namespace Go.Proofs.Ytbdkphjpdoajpaa.X
/-- package variables that are only read, by their blocks: none -/
def globs : List (Nat × (s : Sh) × List s.T) := []
end Go.Proofs.Ytbdkphjpdoajpaa.X
