/- BestImproves: the law as called. -/
import Derived.Test.YtbdkgpcdkalfdaaGreatNcBNB
import Derived.Test.YtbdkgpcdkalfdaaGreatNcR
namespace Go.Nc
open Go.Proofs.Tryz
open Go.Proofs Go.RowKit
theorem my{ρ:Loc}{Im:Nat->Prop}{H:Heap}{a b:AV}{x y:Value}(h1:Con ρ Im H a x)(h2:Con ρ Im H b y):Cons ρ Im H [a,b] #[x,y]:=by
 refine⟨rfl,λi u v hu hv=>?_⟩;match i with
 |0=>cases hu;cases hv;exact h1
 |1=>cases hu;cases hv;exact h2
 |i+2=>cases hu
theorem bestImproves_calls(a:Option Addr)(len cap:Nat)(a1:Option Addr)(len1 cap1:Nat)(t u:List Int)(w:World)(hu:∀i,i<u.length->0<=u.getD i 0/\u.getD i 0<=255)(Im:Nat->Prop)(him:∀b,Im b->b<w.heap.size)(ht:ConI Im w.heap (ints t) (.slice a len cap))(hu2:ConI Im w.heap (u8s u) (.slice a1 len1 cap1)) :
  Calls prog 7 #[.slice a len cap,.slice a1 len1 cap1] w λe w'=>e=.returned (.bool true)/\Below w.heap.size w w':=by
 obtain⟨b,rfl,p⟩:=pL t u hu;exact p.law Im him (my (.imm _ _ ht) (.imm _ _ hu2))
#print axioms bestImproves_calls
end Go.Nc