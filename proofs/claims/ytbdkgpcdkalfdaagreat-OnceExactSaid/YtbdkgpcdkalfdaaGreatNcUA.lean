import Derived.Test.YtbdkgpcdkalfdaaGreatNcEB
import Derived.Test.YtbdkgpcdkalfdaaGreatNcPA
import Derived.Test.YtbdkgpcdkalfdaaGreatNcEA
import Derived.Test.YtbdkgpcdkalfdaaGreatNcKB
import Derived.Test.YtbdkgpcdkalfdaaGreatNcQA
import Derived.Test.YtbdkgpcdkalfdaaGreatNcJC
namespace Go.Nc
open Go.Proofs
section
variable {σ:Type} {ids:List Nat} {O:σ->List (Nat×LObj)}
end
section
variable {σ:Type} {lids:List Nat} {L:σ->List (Nat×LObj)}
end
def at2(d:List (List Int))(i c:Nat):Int:=(d.getD i []).getD c 0
def Used(n:Net)(P:Nat->Nat->Prop):Prop:=∀i c:Nat,i<n.lines.length->(c:Int)<(n.lines.getD i default).classes->aB n i c≠[]->P i c
def dY(n:Net)(P:Nat->Nat->Prop)(i c:Nat):Prop:=∀a b:Nat,a<n.lines.length->(b:Int)<(n.lines.getD a default).classes->aB n a b≠[]->(a<i\/a=i/\b<c)->P a b
theorem dY.zero(n:Net)(P:Nat->Nat->Prop):dY n P 0 0:=λa b _ _ _ h=>ω
theorem dY.step{n:Net}{P:Nat->Nat->Prop}{i c:Nat}(h:dY n P i c)(hp:P i c):dY n P i (c+1):=λa b h1 h2 h3 h4=>by
 by_cases e:a=i/\b=c
 ·rw[e.1,e.2];exact hp
 ·exact h a b h1 h2 h3 ω
theorem dY.skip{n:Net}{P:Nat->Nat->Prop}{i c:Nat}(h:dY n P i c)(hm:aB n i c=[]):dY n P i (c+1):=λa b h1 h2 h3 h4=>by
 by_cases e:a=i/\b=c
 ·rw[e.1,e.2,hm]at h3;exact absurd rfl h3
 ·exact h a b h1 h2 h3 ω
theorem dY.row{n:Net}{P:Nat->Nat->Prop}{i c:Nat}(h:dY n P i c)(hc:¬(c:Int)<(n.lines.getD i default).classes):dY n P (i+1) 0:=λa b h1 h2 h3 h4=>by
 refine h a b h1 h2 h3 ?_;rcases ζ a i with h5|h5
 ·exact .inl h5
 ·obtain rfl:a=i:=ω;exact .inr ⟨rfl,ω⟩
theorem dY.all{n:Net}{P:Nat->Nat->Prop}{i:Nat}(h:dY n P i 0)(hi:¬i<n.lines.length):Used n P:=λa b h1 h2 h3=>h a b h1 h2 h3 ω
structure DimOk(n:Net)(d:List (List Int)):Prop where
 len:d.length=n.lines.length
 row:∀i:Nat,i<n.lines.length->((d.getD i []).length:Int)=(n.lines.getD i default).classes
theorem ShapeOk.dim{n:Net}{d:List (List Int)}(h:ShapeOk n d):DimOk n d:=⟨h.len,h.row⟩
def resV:Option (List (List Int))->AV
 |some d=>aL d
 |none=>.nils
def CF:Option (List (List Int)×Nat)->Option (List (List Int))×Int×Int
 |some (d,k)=>(some d,k,0)
 |none=>(none,0,5)
def FB(x:Option (List (List Int)×Nat)):AV:=.tup [resV (CF x).1,.int .i64 (CF x).2.1,.int .i64 (CF x).2.2]
def nr(n:Net)(D:Nat->List (List Int))(k:Nat):Prop:=∀j,1<=j->j<=k->Used n (λi c=>0<=at2 (D j) i c)/\D (j-1)≠D j
def G4(n:Net)(D:Nat->List (List Int))(rounds:Nat):Option (List (List Int)×Nat)->Prop
 |some (d,k)=>1<=k/\k<=rounds/\d=D k/\nr n D (k-1)/\Used n (λi c=>0<=at2 (D k) i c)/\D (k-1)=D k
 |none=>(∃k,1<=k/\k<=rounds/\nr n D (k-1)/\¬Used n (λi c=>0<=at2 (D k) i c))\/nr n D rounds
theorem nr.next{n:Net}{D:Nat->List (List Int)}{k:Nat}(h:nr n D k)(hu:Used n (λi c=>0<=at2 (D (k+1)) i c))(hd:D k≠D (k+1)):nr n D (k+1):=λj h1 h2=>by
 rcases ζ k j with h3|h3
 ·obtain rfl:j=k+1:=ω;exact⟨hu,hd⟩
 ·exact h j h1 h3
end Go.Nc