/- HopMonotone: what the law adds to the delays, and what it asks of the steps. -/
import Derived.Test.YtdkcmppdckkofaaGreatNcJ22
import Derived.Test.YtdkcmppdckkofaaGreatNcJC
import Derived.Test.YtdkcmppdckkofaaGreatNcK13
namespace Go.Nc
open Go.Proofs
def bmpV (more:List Int) (i k:Nat) (x:Int):Int:=if 0 <= x/\0 < more.length then x + (more.getD ((i + k) % more.length) 0) % 5 else x
def bmpR (more:List Int) (r:List Int) (i:Nat):List Int:=(List.range r.length).map fun k=>bmpV more i k (r.getD k 0)
def bmpD (more:List Int) (d:List (List Int)):List (List Int):=(List.range d.length).map fun i=>bmpR more (d.getD i []) i
structure BmpQ (n:Net) (d e:List (List Int)):Prop where
 shape:ShapeOk n e
 len:d.length = e.length
 row:∀ i,i < d.length -> (d.getD i []).length = (e.getD i []).length
 rel:∀ i j,i < d.length -> j < (d.getD i []).length -> DelR ((d.getD i []).getD j 0) ((e.getD i []).getD j 0)
 le:DelLe d e
end Go.Nc
