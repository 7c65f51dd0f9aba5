import Derived.Test.YtmokmkaipcojkaaXA0
namespace Go.Proofs.Ytmokmkaipcojkaa.X
/-- package variables that are only read, by their blocks: none -/
def globs : List (Nat × (s : Sh) × List s.T) := []
end Go.Proofs.Ytmokmkaipcojkaa.X
