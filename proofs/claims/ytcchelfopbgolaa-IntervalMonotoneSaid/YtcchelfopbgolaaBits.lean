/- A short word for what has come up in a region: bit by bit. -/
import Derived.Test.YtcchelfopbgolaaAwake
namespace Go.Proofs.Ytcchelfopbgolaa.Blocks
/-- The bits of a number, the lowest first. -/
def bl (n m : Nat) : Array Bool := ((List.range n).map fun i => m.testBit i).toArray
end Go.Proofs.Ytcchelfopbgolaa.Blocks
