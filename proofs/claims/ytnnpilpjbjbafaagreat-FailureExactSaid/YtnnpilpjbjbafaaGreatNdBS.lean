/- Parts. -/
import Derived.Test.YtnnpilpjbjbafaaGreatNdBW
namespace Go.Nc
def encS (b:ByteArray):List AV:=[.str b]
instance:Inhabited Line:=⟨⟨0,0,0,[],[]⟩⟩
instance:Inhabited Curve:=⟨⟨[],0,0⟩⟩
instance:Inhabited Flow:=⟨⟨.empty,[],0,0,0,⟨[],0,0⟩⟩⟩
structure Net where
 names:List ByteArray
 lines:List Line
 flows:List Flow
def Net.cells (n:Net):List AV:=[slc 1 encS .empty n.names,slc 5 Line.cells default n.lines,slc 8 Flow.cells default n.flows]
def Net.av (n:Net):AV:=.agg n.cells
def bX (l:List Int):List AV:=[ints l]
def ay (d:List (List Int)):AV:=slc 1 bX [] d
structure Prom where
 flow:Flow
 dead:Int
 prio:Int
instance:Inhabited Prom:=⟨⟨default,0,0⟩⟩
def Prom.cells (x:Prom):List AV:=[.str x.flow.name,ints x.flow.route,J x.flow.class_,J x.flow.least,J x.flow.most,ints x.flow.con.vals,J x.flow.con.per,J x.flow.con.inc,J x.dead,J x.prio]
def Prom.av (x:Prom):AV:=.agg x.cells
structure Plan where
 names:List ByteArray
 lines:List Line
 proms:List Prom
 dels:List (List Int)
instance:Inhabited Plan:=⟨⟨[],[],[],[]⟩⟩
def Plan.cells (p:Plan):List AV:=[slc 1 encS .empty p.names,slc 5 Line.cells default p.lines,slc 10 Prom.cells default p.proms,ay p.dels]
def Plan.av (p:Plan):AV:=.agg p.cells
def Plan.net (p:Plan):Net:=⟨p.names,p.lines,p.proms.map Prom.flow⟩
end Go.Nc