/- OnceExact: the law as called. -/
import Derived.Test.YtbdkgpcdkalfdaaGreatNcRSB
import Derived.Test.YtbdkgpcdkalfdaaGreatNcXZ
namespace Go.Nc
open Go.Proofs.Tryz
open Go.Proofs Go.RowKit
theorem qt{ρ:Loc}{Im:Nat->Prop}{H:Heap}{a b c d e f:AV}{x y z u v w:Value}(h1:Con ρ Im H a x)(h2:Con ρ Im H b y)(h3:Con ρ Im H c z)(h4:Con ρ Im H d u)(h5:Con ρ Im H e v)(h6:Con ρ Im H f w):Cons ρ Im H [a,b,c,d,e,f] #[x,y,z,u,v,w]:=by
 refine⟨rfl,λi p q hp hq=>?_⟩;match i with
 |0=>cases hp;cases hq;exact h1
 |1=>cases hp;cases hq;exact h2
 |2=>cases hp;cases hq;exact h3
 |3=>cases hp;cases hq;exact h4
 |4=>cases hp;cases hq;exact h5
 |5=>cases hp;cases hq;exact h6
 |i+6=>cases hp
theorem onceExact_calls(t:List Int)(odd:List (List Int))(fl bd:Int)(ch:List Int)(us:List Spl)(hch:jY ch)(x0 x1 x4 x5:Value)(w:World)(Im:Nat->Prop)(him:∀b,Im b->b<w.heap.size)(h0:ConI Im w.heap (ints t) x0)(h1:ConI Im w.heap (aL odd) x1)(h4:ConI Im w.heap (ints ch) x4)(h5:ConI Im w.heap (slc 5 Spl.cells default us) x5) :
  Calls prog 3 #[x0,x1,.int .i64 fl,.int .i64 bd,x4,x5] w λe w'=>e=.returned (.bool true)/\Below w.heap.size w w':=by
 obtain⟨b,rfl,p⟩:=vS t odd fl bd ch us hch;exact p.law Im him (qt (.imm _ _ h0) (.imm _ _ h1) (.imm _ _ (.int ..)) (.imm _ _ (.int ..)) (.imm _ _ h4) (.imm _ _ h5))
#print axioms onceExact_calls
end Go.Nc