/- Parts. -/
import Derived.Test.YtbdkgpcdkalfdaaGreatNcRBC
namespace Go.Nc
open Go.Proofs.Tryz
open Go.Proofs
def FullN(n:Net):Prop:=NetOk n/\NamesOk n
def Full(n:Net)(d:Xa):Prop:=FullN n/\ShapeOk n d
theorem xM{n:Net}(h:FullN n):q0d 48 [n.av] (J 0):=by
 obtain⟨_,rfl,p⟩:=fG n h.1 h.2;exact p
theorem obArrL{n sz:Nat}{g g':Nat->List AV}{T:Nat}(h:∀i,i<n->AvsLe (g i) (g' i)):ObLe (.arr n sz g T) (.arr n sz g' T):=by
 refine⟨_root_.rfl,λρ Im H id hc=>?_⟩;cases hc with
 |arr0 _ _ _ h1=>exact .arr0 _ _ _ h1
 |arr _ _ _ _ b xs h1 h2 h3 h4 h5 h6 h7 h8=>
  refine .arr _ _ _ _ b xs h1 h2 h3 h4 h5 h6 (λi hi=>by rw[<-(h i hi).length];exact h7 i hi) λi j c x hi hj hx=>?_;obtain⟨u,hu,hle⟩:=(h i hi).get j c hj;exact hle.con _ _ _ _ (h8 i j u x hi hu hx)
end Go.Nc