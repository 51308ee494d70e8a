/- Parts. -/
import Derived.Test.YtbdkgpcdkalfdaaGreatNcBW
namespace Go.Nc
def encS(b:ByteArray):List AV:=[.str b]
instance:Inhabited Line:=⟨⟨0,0,0,[],[]⟩⟩
instance:Inhabited Curve:=⟨⟨[],0,0⟩⟩
instance:Inhabited Flow:=⟨⟨.empty,[],0,0,0,⟨[],0,0⟩⟩⟩
structure Net where
 names:List ByteArray
 lines:List Line
 flows:List Flow
def Net.cells(n:Net):List AV:=[slc 1 encS .empty n.names,slc 5 Line.cells default n.lines,slc 8 Flow.cells default n.flows]
def Net.av(n:Net):AV:=.agg n.cells
def dX(l:List Int):List AV:=[ints l]
def aK(d:Xa):AV:=slc 1 dX [] d
end Go.Nc