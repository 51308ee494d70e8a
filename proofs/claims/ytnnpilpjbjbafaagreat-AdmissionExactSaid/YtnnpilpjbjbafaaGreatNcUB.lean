/- Merged: U7, U10, U8, U9. -/
import Derived.Test.YtnnpilpjbjbafaaGreatNcUA
import Derived.Test.YtnnpilpjbjbafaaGreatNcJC
import Derived.Test.YtnnpilpjbjbafaaGreatNcOA
import Derived.Test.YtnnpilpjbjbafaaGreatNcKB
import Derived.Test.YtnnpilpjbjbafaaGreatNcJA
namespace Go.Nc
open Go.Proofs.Tryz
open Go.Proofs
theorem lt2 {p:Nat -> Prop} (h0:p 0) (h1:p 1):∀ i,i < 2 -> p i:=fun i hi=>by
 match i with
 | 0=>exact h0
 | 1=>exact h1
 | i + 2=>omega
theorem ns {n:Net} (h:NetOk n) (F:Nat -> Nat -> Int):DimOk n (l4 n F):=by
 refine ⟨dA n F,fun i hi=>?_⟩
 have hc:=(h.line (n.lines.getD i default) (by rw [ψ,β hi];exact List.getElem_mem _)).cls
 rw [c4 n F hi,gM]
 omega
theorem nu {n:Net} (h:NetOk n) {F:Nat -> Nat -> Int} (hF:∀ i c:Nat,i < n.lines.length -> (c:Int) < (n.lines.getD i default).classes -> -1 <= F i c/\F i c <= 400):ShapeOk n (l4 n F):=by
 refine ⟨(ns h F).len,(ns h F).row,fun i j hi hj=>?_⟩
 have hr:=(ns h F).row i hi
 have:=hF i j hi ω
 rw [c4 n F hi,jQ n F ω]
 exact this
theorem jk {n:Net} (h:NetOk n) {d:List (List Int)} (hd:ShapeOk n d):ShapeOk n (dB n d):=nu h fun i c hi hc=>by
 unfold jR
 cases he:dJ n d i c with
 | error e=>dsimp only;omega
 | ok v=>
  have:=CH h hd (L:=i) ω (k:=c) (by rw [χ];exact hc) he
  dsimp only
  omega
noncomputable def aW (n:Net):Nat -> List (List Int)
 | 0=>l4 n (fun _ _=>0)
 | k + 1=>dB n (aW n k)
theorem cI {n:Net} (h:NetOk n):∀ k,ShapeOk n (aW n k)
 | 0=>nu h fun _ _ _ _=>ω
 | k + 1=>jk h (cI h k)
theorem uR {n:Net} (h:NetOk n) (k:Nat):q0d 142 [n.av,ay (aW n k)] (.tup [ay (aW n (k + 1)),.int .i64 0]):=Ai n (aW n k) h (cI h k)
theorem xZ (n:Net) (h:NetOk n) (rounds:Nat) (hr1:1 <= rounds) (hr2:rounds <= 60):∃ x,cD n (aW n) rounds x/\q0d 109 [n.av,.int .i64 rounds] (nq x) :=
 A3 n h rounds hr1 hr2 (aW n) rfl (fun k _=>(cI h k).dim) fun k _=>uR h k
def Sm (G:Nat -> Int):Prop:=∃ k,k <= 8/\Rep G 1 4 k/\∀ t,t < 5 -> G t <= 8
abbrev rc:Curve:=⟨[0,4,4,4,4],4,4⟩
theorem Sm.of {F G:Nat -> Int} (h:Sm F) (e:∀ t,G t = F t):Sm G:=by
 rw [show G = F from funext e];exact h
theorem lt1 {p:Nat -> Prop} (h0:p 0):∀ i,i < 1 -> p i:=fun i hi=>by
 obtain rfl:i = 0:=ω
 exact h0
end Go.Nc