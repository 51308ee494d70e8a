/- OncePure: the walk of the law. -/
import Derived.Test.YtbdkgpcdkalfdaaGreatNcOPB
import Derived.WalkKit
namespace Go.Nc
open Go.Proofs.Tryz
open Go.Proofs Go.RowKit
theorem rU {ρ:Loc} {Im:Nat -> Prop} {H:Heap} {a:AV} {x:Value} (h1:Con ρ Im H a x):Cons ρ Im H [a] #[x]:=by
 refine ⟨rfl,fun i u v hu hv=>?_⟩
 match i with
 | 0=>cases hu;cases hv;exact h1
 | i + 1=>cases hu
theorem oncePure_calls (a:Option Addr) (len cap:Nat) (t:List Int) (w:World) (Im:Nat -> Prop) (him:∀ b,Im b -> b < w.heap.size) (ht:ConI Im w.heap (ints t) (.slice a len cap)) :
  Calls prog 4 #[.slice a len cap] w fun e w'=>e = .returned (.bool true)/\Below w.heap.size w w':=by
 obtain ⟨b,rfl,p⟩:=vK t
 exact p.law Im him (rU (.imm _ _ ht))
#print axioms oncePure_calls
end Go.Nc