/- Merged: J22, J23, J24. -/
import Derived.Test.YtdkcmppdckkofaaGreatNcRAA
import Derived.Test.YtdkcmppdckkofaaGreatNcJC
import Derived.Test.YtdkcmppdckkofaaGreatNcK13
import Derived.Test.YtdkcmppdckkofaaGreatNcJB
namespace Go.Nc
open Go.Proofs
def DelR (x y:Int):Prop:=(x = -1/\y = -1) \/ (0 <= x/\x <= y/\y <= 400)
end Go.Nc
namespace Go.Nc
open Go.Proofs
def bmpV (more:List Int) (i k:Nat) (x:Int):Int:=if 0 <= x/\0 < more.length then x + (more.getD ((i + k) % more.length) 0) % 5 else x
def bmpR (more:List Int) (r:List Int) (i:Nat):List Int:=(List.range r.length).map fun k=>bmpV more i k (r.getD k 0)
def bmpD (more:List Int) (d:List (List Int)):List (List Int):=(List.range d.length).map fun i=>bmpR more (d.getD i []) i
theorem lK {α:Type} {l:List α} {i:Nat} {x:α} (h:l.length <= i):l.getD i x = x:=by
 simp [List.getD_eq_getElem?_getD,List.getElem?_eq_none h]
structure BmpQ (n:Net) (d e:List (List Int)):Prop where
 shape:ShapeOk n e
 len:d.length = e.length
 row:∀ i,i < d.length -> (d.getD i []).length = (e.getD i []).length
 rel:∀ i j,i < d.length -> j < (d.getD i []).length -> DelR ((d.getD i []).getD j 0) ((e.getD i []).getD j 0)
 le:xj d e
theorem vM {n:Net} {d:List (List Int)} {i c:Nat} (h:0 <= d6 n d i c):cP n d i c = .ok (d6 n d i c):=by
 unfold d6 at h ⊢
 split
 ·assumption
 ·rename_i e he
  rw [he] at h
  exact absurd h (show ¬ (0:Int) <= -1 by decide)
theorem i6 {n:Net} (h:NetOk n) {d e:List (List Int)} (hd:ShapeOk n d) (he:ShapeOk n e) (hle:xj d e) {i c:Nat} (hi:i < n.lines.length) (hc:c < (n.lines.getD i default).classes.toNat)
  (h1:0 <= d6 n d i c) (h2:0 <= d6 n e i c):d6 n d i c <= d6 n e i c :=
 zL h hd he hle (L:=i) ⟨by omega,by omega⟩ (k:=c) (by rw [Int.toNat_natCast];omega) (vM h1) (vM h2)
end Go.Nc
namespace Go.Nc
open Go.Proofs
def u8s (l:List Int):AV:=.isl l.length 1 (fun i=>[.int .u8 (l.getD i 0)])
def bmpT (more r:List Int) (i j:Nat):List Int:=(List.range j).map fun k=>bmpV more i k (r.getD k 0)
def bmpU (more:List Int) (d:List (List Int)) (i:Nat):List (List Int):=(List.range i).map fun i=>bmpR more (d.getD i []) i
end Go.Nc
