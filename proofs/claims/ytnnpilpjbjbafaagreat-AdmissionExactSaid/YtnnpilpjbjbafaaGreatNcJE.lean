/- Merged: J18, J19, J20. -/
import Derived.Test.YtnnpilpjbjbafaaGreatNcJC
namespace Go.Nc
open Go.Proofs
end Go.Nc