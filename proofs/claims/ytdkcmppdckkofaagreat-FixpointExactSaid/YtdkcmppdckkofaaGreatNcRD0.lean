/- The reference's Less, where it holds. -/
import Derived.Test.YtdkcmppdckkofaaGreatNcJ22
namespace Go.Nc
open Go.Proofs
end Go.Nc
