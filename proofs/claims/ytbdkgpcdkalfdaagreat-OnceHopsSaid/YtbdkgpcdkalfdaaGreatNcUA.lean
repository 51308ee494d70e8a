/- Merged: U1, U2, U3, U4, U5, U6. -/
import Derived.Test.YtbdkgpcdkalfdaaGreatNcEB
import Derived.Test.YtbdkgpcdkalfdaaGreatNcPA
import Derived.Test.YtbdkgpcdkalfdaaGreatNcEA
import Derived.Test.YtbdkgpcdkalfdaaGreatNcKB
import Derived.Test.YtbdkgpcdkalfdaaGreatNcQA
import Derived.Test.YtbdkgpcdkalfdaaGreatNcJC
namespace Go.Nc
open Go.Proofs
section
variable {σ:Type} {ids:List Nat} {O:σ -> List (Nat × LObj)}
end
section
variable {σ:Type} {lids:List Nat} {L:σ -> List (Nat × LObj)}
end
def AG (n:Net) (P:Nat -> Nat -> Prop) (i c:Nat):Prop:=∀ a b:Nat,a < n.lines.length -> (b:Int) < (n.lines.getD a default).classes -> aD n a b ≠ [] -> (a < i \/ a = i/\b < c) -> P a b
theorem AG.row {n:Net} {P:Nat -> Nat -> Prop} {i c:Nat} (h:AG n P i c) (hc:¬ (c:Int) < (n.lines.getD i default).classes):AG n P (i + 1) 0:=fun a b h1 h2 h3 h4=>by
 refine h a b h1 h2 h3 ?_
 rcases ζ a i with h5 | h5
 ·exact .inl h5
 ·obtain rfl:a = i:=ω
  exact .inr ⟨rfl,ω⟩
end Go.Nc