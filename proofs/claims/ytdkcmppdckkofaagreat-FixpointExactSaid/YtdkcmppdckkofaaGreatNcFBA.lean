/- Merged: FB0, FB1. -/
import Derived.Test.YtdkcmppdckkofaaGreatNcJ23
import Derived.Test.YtdkcmppdckkofaaGreatNcUB
import Derived.Test.YtdkcmppdckkofaaGreatNcRD0
import Derived.Test.YtdkcmppdckkofaaGreatNcUA
namespace Go.Nc
open Go.Proofs
def upV (more:List Int) (j i k:Nat) (x:Int):Int:=x + (more.getD ((i + k + 3 * j) % more.length) 0) % 12
def upR (more:List Int) (j:Nat) (r:List Int) (i:Nat):List Int:=(List.range r.length).map fun k=>upV more j i k (r.getD k 0)
def upD (more:List Int) (j:Nat) (d:List (List Int)):List (List Int):=(List.range d.length).map fun i=>upR more j (d.getD i []) i
def Found (n:Net) (d:List (List Int)):Prop:=∀ i c:Nat,i < n.lines.length -> (c:Int) < (n.lines.getD i default).classes -> 0 <= at2 d i c
def minR (a b:List Int):List Int:=(List.range a.length).map fun k=>min (a.getD k 0) (b.getD k 0)
def minD (a b:List (List Int)):List (List Int):=(List.range a.length).map fun i=>minR (a.getD i []) (b.getD i [])
structure LessOk (d e:List (List Int)):Prop where
 len:d.length = e.length
 lim:d.length <= 1000
 row:∀ i,i < d.length -> (d.getD i []).length = (e.getD i []).length/\(d.getD i []).length <= 1000
 val:∀ i j,i < d.length -> j < (d.getD i []).length -> DelR ((d.getD i []).getD j 0) ((e.getD i []).getD j 0)
structure BelowQ (n:Net) (d x:List (List Int)):Prop where
 y:LessOk (bZ n x) x
 dx:LessOk d x
 dy:LessOk d (bZ n x)
 z:Found n (bZ n (bZ n x)) -> jE n (bZ n x) (bZ n (bZ n x))
structure RawOk (n:Net) (d:List (List Int)):Prop where
 dim:DimOk n d
 val:∀ i j:Nat,i < n.lines.length -> j < (d.getD i []).length -> -1 <= (d.getD i []).getD j 0/\(d.getD i []).getD j 0 <= 1000
end Go.Nc
