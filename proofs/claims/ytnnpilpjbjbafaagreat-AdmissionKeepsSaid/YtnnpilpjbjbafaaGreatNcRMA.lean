/- Merged: RF1, RM5, RM6, RM7. -/
import Derived.Test.YtnnpilpjbjbafaaGreatNcOWA
import Derived.Test.YtnnpilpjbjbafaaGreatNcSLA
import Derived.Test.YtnnpilpjbjbafaaGreatNcAMB
namespace Go.Nc
open Go.Proofs


end Go.Nc
