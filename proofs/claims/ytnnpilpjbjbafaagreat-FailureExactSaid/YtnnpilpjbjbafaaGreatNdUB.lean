/- Parts. -/
import Derived.Test.YtnnpilpjbjbafaaGreatNdUA
import Derived.Test.YtnnpilpjbjbafaaGreatNdOA
namespace Go.Nc
open Go.Proofs.Tryz
open Go.Proofs
theorem lt2 {p:Nat -> Prop} (h0:p 0) (h1:p 1):∀ i,i < 2 -> p i:=fun i hi=>by
 match i with
 | 0=>exact h0
 | 1=>exact h1
 | i + 2=>omega
theorem n3 {n:Net} (h:NetOk n) (F:Nat -> Nat -> Int):DimOk n (l8 n F):=by
 refine ⟨dC n F,fun i hi=>?_⟩
 have hc:=(h.line (n.lines.getD i default) (by rw [ψ,β hi];exact List.getElem_mem _)).cls
 rw [cE n F hi,gU]
 omega
theorem n5 {n:Net} (h:NetOk n) {F:Nat -> Nat -> Int} (hF:∀ i c:Nat,i < n.lines.length -> (c:Int) < (n.lines.getD i default).classes -> -1 <= F i c/\F i c <= 400):ShapeOk n (l8 n F):=by
 refine ⟨(n3 h F).len,(n3 h F).row,fun i j hi hj=>?_⟩
 have hr:=(n3 h F).row i hi
 have:=hF i j hi ω
 rw [cE n F hi,jV n F ω]
 exact this
theorem jr {n:Net} (h:NetOk n) {d:List (List Int)} (hd:ShapeOk n d):ShapeOk n (dE n d):=n5 h fun i c hi hc=>by
 unfold jW
 cases he:dM n d i c with
 | error e=>dsimp only;omega
 | ok v=>
  have:=Dt h hd (L:=i) ω (k:=c) (by rw [χ];exact hc) he
  dsimp only
  omega
noncomputable def aZ (n:Net):Nat -> List (List Int)
 | 0=>l8 n (fun _ _=>0)
 | k + 1=>dE n (aZ n k)
theorem cS {n:Net} (h:NetOk n):∀ k,ShapeOk n (aZ n k)
 | 0=>n5 h fun _ _ _ _=>ω
 | k + 1=>jr h (cS h k)
theorem vF {n:Net} (h:NetOk n) (k:Nat):q0d 142 [n.av,ay (aZ n k)] (.tup [ay (aZ n (k + 1)),J 0]):=AK n (aZ n k) h (cS h k)
theorem yE (n:Net) (h:NetOk n) (rounds:Nat) (hr1:1 <= rounds) (hr2:rounds <= 60):∃ x,cN n (aZ n) rounds x/\q0d 109 [n.av,J rounds] (ny x) :=
 Bh n h rounds hr1 hr2 (aZ n) rfl (fun k _=>(cS h k).dim) fun k _=>vF h k
def Sm (G:Nat -> Int):Prop:=∃ k,k <= 8/\Rep G 1 4 k/\∀ t,t < 5 -> G t <= 8
abbrev rc:Curve:=⟨[0,4,4,4,4],4,4⟩
theorem Sm.of {F G:Nat -> Int} (h:Sm F) (e:∀ t,G t = F t):Sm G:=by
 rw [show G = F from funext e];exact h
theorem lt1 {p:Nat -> Prop} (h0:p 0):∀ i,i < 1 -> p i:=fun i hi=>by
 obtain rfl:i = 0:=ω
 exact h0
end Go.Nc