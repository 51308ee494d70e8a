/- Parts. -/
import Derived.Test.YtnnpilpjbjbafaaGreatNdJC
namespace Go.Nc
open Go.Proofs
end Go.Nc