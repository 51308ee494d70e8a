/- Parts. -/
import Derived.Test.YtooapceogfengaaGreatNcUB
namespace Go.Nc
open Go.Proofs
theorem gB{α:Type}{l:List α}{i:Nat}{x:α}(h:l.length<=i):l.getD i x=x:=by
 simp[List.getElem?_eq_none h]
theorem za{n:Net}{d:Xa}{i c:Nat}(h:0<=dW n d i c):d7 n d i c=.ok (dW n d i c):=by
 unfold dW at h⊢;split
 ·assumption
 ·rename_i e he;rw[he]at h;exact absurd h (φ:¬(0:Int)<= -1)
theorem AM{n:Net}(h:NetOk n){d e:Xa}(hd:ShapeOk n d)(he:ShapeOk n e)(hle:Cs d e){i c:Nat}(hi:i<n.lines.length)(hc:c<(n.lines.getD i default).classes.toNat)
  (h1:0<=dW n d i c) (h2:0<=dW n e i c):dW n d i c<=dW n e i c :=
 Cu h hd he hle (L:=i) ⟨ω,ω⟩ (k:=c) (by rw[χ];omega) (za h1) (za h2)
def DX(n:Net)(d:Xa):Prop:=∀i c:Nat,i<n.lines.length->(c:Int)<(n.lines.getD i default).classes->0<=at2 d i c
theorem mE{n:Net}{d:Xa}{i c:Nat}(h:au n i c=[]):dW n d i c=0:=by
 unfold dW d7 fy;rw[if_pos h];rfl
theorem tt(n:Net)(d:Xa){i c:Nat}(hi:i<n.lines.length)(hc:(c:Int)<(n.lines.getD i default).classes):at2 (dI n d) i c=dW n d i c:=uY hi hc
theorem DY{n:Net}{d:Xa}(hf:DX n d)(hc:ms n d (dI n d)):∀i c:Nat,i<n.lines.length->(c:Int)<(n.lines.getD i default).classes->0<=dW n d i c/\dW n d i c<=at2 d i c:=λi c hi h=>by
 rcases Classical.em (au n i c=[])with hm|hm
 ·rw[mE hm];exact⟨Int.le_refl 0,hf i c hi h⟩
 ·have:=hc.2 i c hi h hm;dsimp only at this;rwa[tt n d hi h]at this
theorem FU{n:Net}{a b:Xa}(ha:DimOk n a)(hb:DimOk n b)(h:∀i c:Nat,i<n.lines.length->(c:Int)<(n.lines.getD i default).classes->0<=at2 a i c/\at2 a i c<=at2 b i c):Cs a b:=λi j=>by
 rcases ζ i n.lines.length with hi|hi
 ·rcases Int.lt_or_le (j:Int) (n.lines.getD i default).classes with hj|hj
  ·exact .inr (h i j hi hj)
  ·have h1:=ha.row i hi;have h2:=hb.row i hi;rw[gB (l:=a.getD i []) ω,gB (l:=b.getD i []) ω];exact .inr ⟨Int.le_refl 0,Int.le_refl 0⟩
 ·rw[gB (l:=a) (by rw[ha.len];exact hi),gB (l:=b) (by rw[hb.len];exact hi)];exact .inr ⟨Int.le_refl 0,Int.le_refl 0⟩
end Go.Nc