import Derived.Test.YtbdkgpcdkalfdaaGreatNcSXA
import Derived.Test.YtbdkgpcdkalfdaaGreatNcRBC
import Derived.Test.YtbdkgpcdkalfdaaGreatNcRWX
import Derived.Test.YtbdkgpcdkalfdaaGreatNcJE
namespace Go.Nc
open Go.Proofs
def LcOk(n:Net)(L k:Int):Prop:=0<=L/\L<n.lines.length/\0<=k/\k<(n.lines.getD L.toNat default).classes
section
variable {n:Net} {d:List (List Int)} (h:NetOk n) (hw:NamesOk n) (hd:ShapeOk n d) {L k:Int} (hx:¬LcOk n L k)
include h hd hx
end
end Go.Nc