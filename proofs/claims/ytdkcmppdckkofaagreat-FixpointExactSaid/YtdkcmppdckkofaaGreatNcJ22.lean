/- hop.Less, where it holds. -/
import Derived.Test.YtdkcmppdckkofaaGreatNcOA
namespace Go.Nc
open Go.Proofs
def DelR (x y:Int):Prop:=(x = -1/\y = -1) \/ (0 <= x/\x <= y/\y <= 400)
end Go.Nc
