/- CertificateWeaker: the law as called. -/
import Derived.Test.YtooapceogfengaaGreatNcCEA
import Derived.Test.YtooapceogfengaaGreatNcR
namespace Go.Nc
open Go.Proofs.Tryz
open Go.Proofs Go.RowKit
theorem iK{ρ:Loc}{Im:Nat->Prop}{H:Heap}{a b:AV}{x y:Value}(h1:Con ρ Im H a x)(h2:Con ρ Im H b y):Cons ρ Im H [a,b] #[x,y]:=by
 refine⟨rfl,λi u v hu hv=>?_⟩;match i with
 |0=>cases hu;cases hv;exact h1
 |1=>cases hu;cases hv;exact h2
 |i+2=>cases hu
theorem certificateWeaker_calls(a:Option Addr)(len cap:Nat)(t:List Int)(v:Int)(w:World)(hv:0<=v/\v<=255)(Im:Nat->Prop)(him:∀b,Im b->b<w.heap.size)(ht:ConI Im w.heap (ints t) (.slice a len cap)) :
  Calls prog 4 #[.slice a len cap,.int .u8 v] w λe w'=>e=.returned (.bool true)/\Below w.heap.size w w':=by
 obtain⟨b,rfl,p⟩:=jJ t v hv;exact p.law Im him (iK (.imm _ _ ht) (.imm _ _ (.int ..)))
#print axioms certificateWeaker_calls
end Go.Nc