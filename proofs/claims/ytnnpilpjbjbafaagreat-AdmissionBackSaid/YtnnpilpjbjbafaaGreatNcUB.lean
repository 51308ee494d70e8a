/- Merged: U7, U10, U8, U9. -/
import Derived.Test.YtnnpilpjbjbafaaGreatNcUA
import Derived.Test.YtnnpilpjbjbafaaGreatNcJC
import Derived.Test.YtnnpilpjbjbafaaGreatNcOA
import Derived.Test.YtnnpilpjbjbafaaGreatNcKB
import Derived.Test.YtnnpilpjbjbafaaGreatNcJA
namespace Go.Nc
open Go.Proofs.Tryz
open Go.Proofs
def nRing (c:Int):Net:=⟨[⟨#[97]⟩,⟨#[98]⟩],[⟨1,c,1,[],[]⟩,⟨1,c,1,[],[]⟩],[⟨⟨#[102]⟩,[0,1],0,1,4,⟨[0,4,4,4,4],4,4⟩⟩,⟨⟨#[103]⟩,[1,0],0,1,4,⟨[0,4,4,4,4],4,4⟩⟩]⟩
def ringF (name:ByteArray) (r:AV):List AV:=[.str name,r,.int .i64 0,.int .i64 1,.int .i64 4,ints [0,4,4,4,4],.int .i64 4,.int .i64 4]
theorem nb {n:Net} (h:NetOk n) (F:Nat -> Nat -> Int):DimOk n (jb n F):=by
 refine ⟨dq n F,fun i hi=>?_⟩
 have hc:=(h.line (n.lines.getD i default) (by rw [ψ,β hi];exact List.getElem_mem _)).cls
 rw [c5 n F hi,g9]
 omega
theorem nc {n:Net} (h:NetOk n) {F:Nat -> Nat -> Int} (hF:∀ i c:Nat,i < n.lines.length -> (c:Int) < (n.lines.getD i default).classes -> -1 <= F i c/\F i c <= 400):ShapeOk n (jb n F):=by
 refine ⟨(nb h F).len,(nb h F).row,fun i j hi hj=>?_⟩
 have hr:=(nb h F).row i hi
 have:=hF i j hi ω
 rw [c5 n F hi,jH n F ω]
 exact this
theorem jd {n:Net} (h:NetOk n) {d:List (List Int)} (hd:ShapeOk n d):ShapeOk n (cL n d):=nc h fun i c hi hc=>by
 unfold ic
 cases he:dd n d i c with
 | error e=>dsimp only;omega
 | ok v=>
  have:=CG h hd (L:=i) ω (k:=c) (by rw [χ];exact hc) he
  dsimp only
  omega
noncomputable def aG (n:Net):Nat -> List (List Int)
 | 0=>jb n (fun _ _=>0)
 | k + 1=>cL n (aG n k)
theorem cK {n:Net} (h:NetOk n):∀ k,ShapeOk n (aG n k)
 | 0=>nc h fun _ _ _ _=>ω
 | k + 1=>jd h (cK h k)
theorem uU {n:Net} (h:NetOk n) (k:Nat):q0d 142 [n.av,az (aG n k)] (.tup [az (aG n (k + 1)),.int .i64 0]):=Av n (aG n k) h (cK h k)
theorem yj (n:Net) (h:NetOk n) (rounds:Nat) (hr1:1 <= rounds) (hr2:rounds <= 60):∃ x,cj n (aG n) rounds x/\q0d 109 [n.av,.int .i64 rounds] (mZ x) :=
 AH n h rounds hr1 hr2 (aG n) rfl (fun k _=>(cK h k).dim) fun k _=>uU h k
def Sm (G:Nat -> Int):Prop:=∃ k,k <= 8/\Rep G 1 4 k/\∀ t,t < 5 -> G t <= 8
theorem Sm.can {G:Nat -> Int} (h:Sm G) {x:Except Int Curve} (hx:CanQ G x):∃ a,x = .ok a/\a.per.toNat <= 4:=by
 obtain ⟨k,k1,hr,hb⟩:=h
 rcases x with e | a
 ·exact absurd (fun t ht=>by have:=hb t ht;omega) (hx.2 1 4 k hr φ φ ω)
 ·exact ⟨a,rfl,hx.2.2.2.per 1 4 k hr⟩
theorem En {a b:Curve} (h1:a.per.toNat <= 4) (h2:b.per.toNat <= 4):comP a b <= 120:=by
 unfold comP
 have h3:=Nat.div_le_self a.per.toNat (a.per.toNat.gcd b.per.toNat)
 have h4:a.per.toNat / a.per.toNat.gcd b.per.toNat * b.per.toNat <= 4 * 4:=Nat.mul_le_mul ω h2
 omega
theorem Sm.sum {c d:Curve} (hc:Gd c) (hd:Gd d) (h1:Sm fun t:Nat=>c.at t) (h2:Sm fun t:Nat=>d.at t) (h3:Sm fun t:Nat=>c.at t + d.at t):∃ z,sumX c d = .ok z/\Gd z/\∀ t:Nat,z.at t = c.at t + d.at t:=by
 obtain ⟨a,b,p,q,r⟩:=oE c d hc hd
 obtain ⟨_,e1,f1⟩:=h1.can p
 cases e1
 obtain ⟨_,e2,f2⟩:=h2.can q
 cases e2
 rw [if_pos (En f1 f2)] at r
 obtain ⟨z,e3,_⟩:=h3.can r
 have hz:SumE c d (.ok z):=e3 ▸ oE c d
 exact ⟨z,e3,hz.gd hc hd⟩
abbrev rc:Curve:=⟨[0,4,4,4,4],4,4⟩
theorem Sm.of {F G:Nat -> Int} (h:Sm F) (e:∀ t,G t = F t):Sm G:=by
 rw [show G = F from funext e];exact h
def two2:Nat -> List AV:=fun i=>bif Nat.beq i 0 then [.osl 48 1] else [.osl 49 1]
def lend3 (g1 g2 g3:Nat -> List AV):List (Nat × LObj):=[(48,.arr 1 1 g1 3),(49,.arr 1 1 g2 3),(50,.arr 2 1 g3 22)]
end Go.Nc
