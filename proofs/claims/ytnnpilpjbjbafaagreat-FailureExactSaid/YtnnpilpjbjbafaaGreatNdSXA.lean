/- Parts. -/
import Derived.Test.YtnnpilpjbjbafaaGreatNdRWX
namespace Go.Nc
open Go.Proofs
theorem lt3 {p:Nat -> Prop} (h0:p 0) (h1:p 1) (h2:p 2):∀ i,i < 3 -> p i:=fun i hi=>by
 match i with
 | 0=>exact h0
 | 1=>exact h1
 | 2=>exact h2
 | i + 3=>omega
theorem CallSpec.res {P:Program} {f:FuncId} {vs:List AV} {r r':AV} (h:CallSpec P f vs [] r []) (hle:AvLe r r') (hn:nmV [] r' = true):CallSpec P f vs [] r' [] :=
 ⟨h.enter,h.icl,h.live,fun w ρ Im xs hm hx=>(h.calls w ρ Im xs hm hx).mono fun e w' ⟨y,ρ',Im',he,hcy,_,hmem⟩=>⟨y,ρ',Im',he,hle.con _ _ _ _ hcy,fun i hi=>by have:=bV hi hn;simp at this,hmem⟩⟩
section
end
end Go.Nc