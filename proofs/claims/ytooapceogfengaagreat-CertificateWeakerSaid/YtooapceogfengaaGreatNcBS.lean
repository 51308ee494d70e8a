/- Parts. -/
import Derived.Test.YtooapceogfengaaGreatNcBW
namespace Go.Nc
def encS(b:ByteArray):List AV:=[.str b]
instance:Inhabited Line:=⟨⟨0,0,0,[],[]⟩⟩
instance:Inhabited Curve:=⟨⟨[],0,0⟩⟩
instance:Inhabited Flow:=⟨⟨.empty,[],0,0,0,⟨[],0,0⟩⟩⟩
structure Net where
 names:List ByteArray
 lines:List Line
 flows:List Flow
def Net.cells(n:Net):List AV:=[slc 1 encS .empty n.names,slc 5 Line.cells default n.lines,slc 8 Flow.cells default n.flows]
def Net.av(n:Net):AV:=.agg n.cells
def dh(l:List Int):List AV:=[ints l]
def a9(d:Xa):AV:=slc 1 dh [] d
end Go.Nc