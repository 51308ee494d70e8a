/- Merged: U7, U10, U8, U9. -/
import Derived.Test.YtnnpilpjbjbafaaGreatNcUA
import Derived.Test.YtnnpilpjbjbafaaGreatNcJC
import Derived.Test.YtnnpilpjbjbafaaGreatNcOA
import Derived.Test.YtnnpilpjbjbafaaGreatNcKB
import Derived.Test.YtnnpilpjbjbafaaGreatNcJA
namespace Go.Nc
open Go.Proofs.Tryz
open Go.Proofs
theorem nz {n:Net} (h:NetOk n) (F:Nat -> Nat -> Int):DimOk n (l3 n F):=by
 refine ⟨du n F,fun i hi=>?_⟩
 have hc:=(h.line (n.lines.getD i default) (by rw [ψ,β hi];exact List.getElem_mem _)).cls
 rw [c8 n F hi,gH]
 omega
theorem n3 {n:Net} (h:NetOk n) {F:Nat -> Nat -> Int} (hF:∀ i c:Nat,i < n.lines.length -> (c:Int) < (n.lines.getD i default).classes -> -1 <= F i c/\F i c <= 400):ShapeOk n (l3 n F):=by
 refine ⟨(nz h F).len,(nz h F).row,fun i j hi hj=>?_⟩
 have hr:=(nz h F).row i hi
 have:=hF i j hi ω
 rw [c8 n F hi,jM n F ω]
 exact this
theorem jh {n:Net} (h:NetOk n) {d:List (List Int)} (hd:ShapeOk n d):ShapeOk n (dz n d):=n3 h fun i c hi hc=>by
 unfold jN
 cases he:dB n d i c with
 | error e=>dsimp only;omega
 | ok v=>
  have:=Dc h hd (L:=i) ω (k:=c) (by rw [χ];exact hc) he
  dsimp only
  omega
noncomputable def aZ (n:Net):Nat -> List (List Int)
 | 0=>l3 n (fun _ _=>0)
 | k + 1=>dz n (aZ n k)
theorem cN {n:Net} (h:NetOk n):∀ k,ShapeOk n (aZ n k)
 | 0=>n3 h fun _ _ _ _=>ω
 | k + 1=>jh h (cN h k)
theorem vp {n:Net} (h:NetOk n) (k:Nat):q0d 142 [n.av,az (aZ n k)] (.tup [az (aZ n (k + 1)),.int .i64 0]):=A6 n (aZ n k) h (cN h k)
theorem yq (n:Net) (h:NetOk n) (rounds:Nat) (hr1:1 <= rounds) (hr2:rounds <= 60):∃ x,cJ n (aZ n) rounds x/\q0d 109 [n.av,.int .i64 rounds] (nv x) :=
 AS n h rounds hr1 hr2 (aZ n) rfl (fun k _=>(cN h k).dim) fun k _=>vp h k
def Sm (G:Nat -> Int):Prop:=∃ k,k <= 8/\Rep G 1 4 k/\∀ t,t < 5 -> G t <= 8
abbrev rc:Curve:=⟨[0,4,4,4,4],4,4⟩
theorem Sm.of {F G:Nat -> Int} (h:Sm F) (e:∀ t,G t = F t):Sm G:=by
 rw [show G = F from funext e];exact h
end Go.Nc
