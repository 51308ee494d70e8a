/- Parts. -/
import Derived.Test.YtooapceogfengaaGreatNdBW
namespace Go.Nc
def J6(b:ByteArray):List AV:=[.str b]
instance:Inhabited Line:=⟨⟨0,0,0,[],[]⟩⟩
instance:Inhabited Curve:=⟨⟨[],0,0⟩⟩
instance:Inhabited Flow:=⟨⟨.empty,[],0,0,0,⟨[],0,0⟩⟩⟩
structure Net where
 names:List ByteArray
 lines:List Line
 flows:List Flow
def Net.cells(n:Net):List AV:=[iB 1 J6 .empty n.names,iB 5 Line.cells default n.lines,iB 8 Flow.cells default n.flows]
def Net.av(n:Net):AV:=.agg n.cells
def dZ(l:List Int):List AV:=[c4 l]
def aB(d:Xa):AV:=iB 1 dZ [] d
end Go.Nc