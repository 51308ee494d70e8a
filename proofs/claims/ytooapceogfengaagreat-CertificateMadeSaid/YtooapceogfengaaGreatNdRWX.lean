/- Parts. -/
import Derived.Test.YtooapceogfengaaGreatNdRBC
namespace Go.Nc
open Go.Proofs
def O9(n:Net):Prop:=NetOk n/\NamesOk n
def pt(n:Net)(d:Xa):Prop:=O9 n/\ShapeOk n d
end Go.Nc