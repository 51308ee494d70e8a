/- Parts. -/
import Derived.Test.YtooapceogfengaaGreatNdUB
namespace Go.Nc
open Go.Proofs
end Go.Nc