/- Parts. -/
import Derived.Test.YtooapceogfengaaGreatNcRBC
namespace Go.Nc
open Go.Proofs.Tryz
open Go.Proofs
def FullN(n:Net):Prop:=NetOk n/\NamesOk n
def Full(n:Net)(d:Xa):Prop:=FullN n/\ShapeOk n d
theorem xf{n:Net}(h:FullN n):q0d 28 [n.av] (J 0):=by
 obtain⟨_,rfl,p⟩:=f8 n h.1 h.2;exact p
end Go.Nc