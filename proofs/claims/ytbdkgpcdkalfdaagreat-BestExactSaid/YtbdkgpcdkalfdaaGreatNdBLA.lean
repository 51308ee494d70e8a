/- Parts. -/
import Derived.Test.YtbdkgpcdkalfdaaGreatNdCEA
import Derived.Test.YtbdkgpcdkalfdaaGreatNdR3X
namespace Go.Nc
open Go.Proofs.Tryz
open Go.Proofs
theorem yI(n:Net)(d:Xa)(a:f7 n d=true)(H:n.lines.length<=2):q0e 32 [n.av,aF d] (.tup [aF (fc n d),J 0]):=by
 have c:=(cg.1 a).1;obtain⟨⟨h,e⟩,b⟩:=id c;have p:=kQ n d;rw[a]at p;have P:=n6 n d h e b H;refine' db func32 ntmps32 results32
 all_goals exact Θ
theorem Hv{n:Net}{d:Xa}(h:NetOk n)(g:NamesOk n)(b:ShapeOk n d){i:Nat}(f:i<n.flows.length){c:List Int}(a:c.length=(n.flows.getD i default).route.length){R:Curve->Except Int eK}(j:RDelF (n.flows.getD i default).con R){e:Int}(H:y6 (gL n d i c) R=.error e):e≠0:=by
 unfold y6 at H;rcases hp:gL n d i c with E|⟨z,ps⟩
 .rw[hp]at H;cases H;exact Ae h g b f a hp
 .rw[hp]at H;dsimp only at H;rcases hb:dS (R z)with E|v
  .rw[hb]at H;cases H;exact Es (λe H=>j.err z e (u9 h g b f a hp).kind H) hb
  .rw[hb]at H;cases H
theorem Hw(a:Curve)(H:Gd a):∃R,DelX a R/\RDelF a R:=by
 obtain⟨R,h,s⟩:=Hu a H;exact⟨R,h,s,λz e c b=>by rw[h.err c b];decide⟩
end Go.Nc