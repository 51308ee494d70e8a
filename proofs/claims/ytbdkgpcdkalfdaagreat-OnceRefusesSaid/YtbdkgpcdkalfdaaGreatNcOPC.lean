/- Merged: RS0, OP2, OP3. -/
import Derived.Test.YtbdkgpcdkalfdaaGreatNcCXB
import Derived.Test.YtbdkgpcdkalfdaaGreatNcSXA
import Derived.Test.YtbdkgpcdkalfdaaGreatNcOPA
import Derived.Test.YtbdkgpcdkalfdaaGreatNcKC
import Derived.Test.YtbdkgpcdkalfdaaGreatNcRWX
namespace Go.Nc
open Go.Proofs
theorem DelX.of {a b:Curve} {R:Curve -> Except Int Dev} (h:DelX a R) (e:∀ t:Nat,a.at t = b.at t):DelX b R:=by
 have e1:(fun t:Nat=>a.at t) = fun t:Nat=>b.at t:=funext e
 have e2:∀ k,cutF a k = cutF b k:=fun k=>funext fun t=>by unfold cutF;rw [e]
 refine ⟨fun z hz=>?_,fun k hk=>by rw [<- e2];exact h.wait k hk⟩
 have:=h.nrm z hz
 unfold DelS at *
 rw [e1] at this
 exact this
theorem Dt {n:Net} {d:List (List Int)} (h:NetOk n) (hw:NamesOk n) (hd:ShapeOk n d) {i:Nat} (hi:i < n.flows.length) {c:List Int} (hc:c.length = (n.flows.getD i default).route.length) {D:Curve -> Except Int Dev} (hD:DelF (n.flows.getD i default).con D) {e:Int} (he:ut (hU n d i c) D = .error e):e ≠ 0:=by
 unfold ut at he
 rcases hp:hU n d i c with er | ⟨z,qs⟩
 ·rw [hp] at he
  cases he
  exact x5 h hw hd hi hc hp
 ·rw [hp] at he
  dsimp only at he
  rcases hb:cY (D z) with er | v
  ·rw [hb] at he
   cases he
   exact ur (fun e h2=>hD.err z e (mF h hw hd hi hc hp).kind h2) hb
  ·rw [hb] at he;cases he
end Go.Nc