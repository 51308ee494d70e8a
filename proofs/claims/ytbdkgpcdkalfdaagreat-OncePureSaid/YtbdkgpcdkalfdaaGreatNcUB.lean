/- Merged: U7, U10, U8, U9. -/
import Derived.Test.YtbdkgpcdkalfdaaGreatNcUA
import Derived.Test.YtbdkgpcdkalfdaaGreatNcJC
import Derived.Test.YtbdkgpcdkalfdaaGreatNcOA
import Derived.Test.YtbdkgpcdkalfdaaGreatNcKB
import Derived.Test.YtbdkgpcdkalfdaaGreatNcJA
namespace Go.Nc
open Go.Proofs
def Sm (G:Nat -> Int):Prop:=∃ k,k <= 8/\Rep G 1 4 k/\∀ t,t < 5 -> G t <= 8
theorem Sm.of {F G:Nat -> Int} (h:Sm F) (e:∀ t,G t = F t):Sm G:=by
 rw [show G = F from funext e];exact h
end Go.Nc