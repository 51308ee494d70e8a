/- OnceRefuses: the law as called. -/
import Derived.Test.YtbdkgpcdkalfdaaGreatNcOPD
import Derived.Test.YtbdkgpcdkalfdaaGreatNcOPB
namespace Go.Nc
open Go.Proofs.Tryz
open Go.Proofs Go.RowKit
theorem lZ {ρ:Loc} {Im:Nat -> Prop} {H:Heap} {a b:AV} {x y:Value} (h1:Con ρ Im H a x) (h2:Con ρ Im H b y):Cons ρ Im H [a,b] #[x,y]:=by
 refine ⟨rfl,fun i u v hu hv=>?_⟩
 match i with
 | 0=>cases hu;cases hv;exact h1
 | 1=>cases hu;cases hv;exact h2
 | i + 2=>cases hu
theorem onceRefuses_calls (a:Option Addr) (len cap:Nat) (t:List Int) (v:Int) (w:World) (hv:0 <= v/\v <= 255) (Im:Nat -> Prop) (him:∀ b,Im b -> b < w.heap.size) (ht:ConI Im w.heap (ints t) (.slice a len cap)) :
  Calls prog 5 #[.slice a len cap,.int .u8 v] w fun e w'=>e = .returned (.bool true)/\Below w.heap.size w w':=by
 obtain ⟨b,rfl,p⟩:=oL t v hv
 exact p.law Im him (lZ (.imm _ _ ht) (.imm _ _ (.int ..)))
#print axioms onceRefuses_calls
end Go.Nc