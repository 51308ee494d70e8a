/- Merged: U7, U10, U8, U9. -/
import Derived.Test.YtbdkgpcdkalfdaaGreatNcUA
import Derived.Test.YtbdkgpcdkalfdaaGreatNcJC
import Derived.Test.YtbdkgpcdkalfdaaGreatNcOA
import Derived.Test.YtbdkgpcdkalfdaaGreatNcKB
import Derived.Test.YtbdkgpcdkalfdaaGreatNcJA
namespace Go.Nc
open Go.Proofs
theorem nU {n:Net} (h:NetOk n) (F:Nat -> Nat -> Int):DimOk n (rK n F):=by
 refine ⟨nO n F,fun i hi=>?_⟩
 have hc:=(h.line (n.lines.getD i default) (by rw [ν,χ hi];exact List.getElem_mem _)).cls
 rw [kz n F hi,mC]
 omega
theorem nV {n:Net} (h:NetOk n) {F:Nat -> Nat -> Int} (hF:∀ i c:Nat,i < n.lines.length -> (c:Int) < (n.lines.getD i default).classes -> -1 <= F i c/\F i c <= 400):ShapeOk n (rK n F):=by
 refine ⟨(nU h F).len,(nU h F).row,fun i j hi hj=>?_⟩
 have hr:=(nU h F).row i hi
 have:=hF i j hi ω
 rw [kz n F hi,rJ n F ω]
 exact this
theorem vJ {n:Net} (h:NetOk n) {d:List (List Int)} (hd:ShapeOk n d):ShapeOk n (vC n d):=nV h fun i c hi hc=>by
 unfold AF
 cases he:ii n d i c with
 | error e=>dsimp only;omega
 | ok v=>
  have:=CQ h hd (L:=i) ω (k:=c) (by rw [π];exact hc) he
  dsimp only
  omega
noncomputable def cH (n:Net):Nat -> List (List Int)
 | 0=>rK n (fun _ _=>0)
 | k + 1=>vC n (cH n k)
theorem fF {n:Net} (h:NetOk n):∀ k,ShapeOk n (cH n k)
 | 0=>nV h fun _ _ _ _=>ω
 | k + 1=>vJ h (fF h k)
def Sm (G:Nat -> Int):Prop:=∃ k,k <= 8/\Rep G 1 4 k/\∀ t,t < 5 -> G t <= 8
theorem Sm.of {F G:Nat -> Int} (h:Sm F) (e:∀ t,G t = F t):Sm G:=by
 rw [show G = F from funext e];exact h
end Go.Nc