import Derived.Test.YtbdkgpcdkalfdaaGreatNcUA
import Derived.Test.YtbdkgpcdkalfdaaGreatNcJC
import Derived.Test.YtbdkgpcdkalfdaaGreatNcOA
import Derived.Test.YtbdkgpcdkalfdaaGreatNcKB
import Derived.Test.YtbdkgpcdkalfdaaGreatNcJA
namespace Go.Nc
open Go.Proofs
theorem lt2{p:Nat->Prop}(h0:p 0)(h1:p 1):∀i,i<2->p i:=λi hi=>by
 match i with
 |0=>exact h0
 |1=>exact h1
 |i+2=>omega
theorem py{n:Net}(h:NetOk n)(F:Nat->Nat->Int):DimOk n (tu n F):=by
 refine⟨pk n F,λi hi=>?_⟩;have hc:=(h.line (n.lines.getD i default) (by rw[ψ,β hi];exact List.getElem_mem _)).cls;rw[lC n F hi,nI];omega
theorem pA{n:Net}(h:NetOk n){F:Nat->Nat->Int}(hF:∀i c:Nat,i<n.lines.length->(c:Int)<(n.lines.getD i default).classes-> -1<=F i c/\F i c<=400):ShapeOk n (tu n F):=by
 refine⟨(py h F).len,(py h F).row,λi j hi hj=>?_⟩;have hr:=(py h F).row i hi;have:=hF i j hi ω;rw[lC n F hi,tt n F ω];exact this
theorem xq{n:Net}(h:NetOk n){d:List (List Int)}(hd:ShapeOk n d):ShapeOk n (xj n d):=pA h λi c hi hc=>by
 unfold Ct;cases he:iP n d i c with
 |error e=>dsimp only;omega
 |ok v=>
  have:=EH h hd (L:=i) ω (k:=c) (by rw[χ];exact hc) he;dsimp only;omega
noncomputable def dk(n:Net):Nat->List (List Int)
 |0=>tu n (λ_ _=>0)
 |k+1=>xj n (dk n k)
theorem gB{n:Net}(h:NetOk n):∀k,ShapeOk n (dk n k)
 |0=>pA h λ_ _ _ _=>ω
 |k+1=>xq h (gB h k)
def Sm(G:Nat->Int):Prop:=∃k,k<=8/\Rep G 1 4 k/\∀t,t<5->G t<=8
theorem Sm.of{F G:Nat->Int}(h:Sm F)(e:∀t,G t=F t):Sm G:=by
 rw[show G=F from funext e];exact h
theorem lt1{p:Nat->Prop}(h0:p 0):∀i,i<1->p i:=λi hi=>by
 obtain rfl:i=0:=ω;exact h0
end Go.Nc