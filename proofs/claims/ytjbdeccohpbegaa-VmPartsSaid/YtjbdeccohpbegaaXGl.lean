import Derived.Test.YtjbdeccohpbegaaXA0
namespace Go.Proofs.Ytjbdeccohpbegaa.X
open Go
/-- package variables that are only read, by their blocks: none -/
def globs : List (Nat × (s : Sh) × List s.T) := []
/-- the types of elements that have slices of their own: the kinds of these -/
def nests : List (TypeId × List TypeId) := [(77, [2, 2])]
def nestAt : List (TypeId × List TypeId) → TypeId → Option (List TypeId)
  | [], _ => none
  | (u, es) :: r, t => if u == t then some es else nestAt r t
end Go.Proofs.Ytjbdeccohpbegaa.X
