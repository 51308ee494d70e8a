/- BestExact: the law as called. -/
import Derived.Test.YtbdkgpcdkalfdaaGreatNdBEA
import Derived.Test.YtbdkgpcdkalfdaaGreatNdRQ
namespace Go.Nc
open Go.Proofs.Tryz
open Go.Proofs Go.RowKit
theorem rx{ρ:Loc}{Im:Nat->Prop}{H:eZ}{a b c d:AV}{x y z u:Value}(e:Con ρ Im H a x)(f:Con ρ Im H b y)(g:Con ρ Im H c z)(j:Con ρ Im H d u):Cons ρ Im H [a,b,c,d] #[x,y,z,u]:=by
 refine⟨rfl,λi p q h hq=>?_⟩;match i with
 |0=>cases h;cases hq;exact e
 |1=>cases h;cases hq;exact f
 |2=>cases h;cases hq;exact g
 |3=>cases h;cases hq;exact j
 |i+4=>cases h
theorem bestExact_calls(t:List Int)(o:Xa)(f H:Int)(x0 x:Value)(w:World)(Im:Nat->Prop)(h:∀b,Im b->b<w.heap.size)(a:ConI Im w.heap (c4 t) x0)(c:ConI Im w.heap (aF o) x) :
  Calls prog 9 #[x0,x,.int .i64 f,.int .i64 H] w λe W=>e=.returned (.bool true)/\Below w.heap.size w W:=by
 obtain⟨b,rfl,p⟩:=wZ t o f H;exact p.law Im h (rx (.imm _ _ a) (.imm _ _ c) (.imm _ _ (.int ..)) (.imm _ _ (.int ..)))
#print axioms bestExact_calls
end Go.Nc