/- Merged: K14, K15. -/
import Derived.Test.YtnnpilpjbjbafaaGreatNcKB
namespace Go.Nc
open Go.Proofs
def bump (d:List (List Int)) (i j:Nat):List (List Int):=d.set i ((d.getD i []).set j ((d.getD i []).getD j 0 + 3))
theorem c8 {P:Program} {f:FuncId} {vs:List AV} {o:Nat -> Option LObj} {k:List Nat -> AV -> List (Nat × Option LObj) -> Prop} {r:AV} {id:Nat} {b:LObj} (h:CallSpec P f vs [] r [(id,b)]) (hn:o id = none) (hk:k [id] r [(id,some b)]):vCall P f vs o k :=
 ⟨r,[],[(id,b)],h,trivial,⟨hn,trivial⟩,hk⟩
theorem Rd.net_ok {s:Rd} (hs:s.ok) (lines flows:Int):(s.net lines flows).2.ok:=by
 unfold Rd.net
 exact Rd.flows_ok _ _ (Rd.range_ok _ _ (Rd.lines_ok _ (Rd.range_ok _ _ (Rd.range_ok _ _ hs)) _)) _
theorem Dt {n:Nat} {g:Nat -> List AV} (h:n <= 1099511627776) (h1:∀ q,q < n -> d8 (g q) = true):pd 0 n g:=by
 exact ⟨ω,h1⟩
theorem mh {δ:Int -> Int}:∀ {r:List Int} {s v:Int},(∀ x ∈ r,δ x <= 400) -> bV δ r s = some v -> s <= v/\v <= s + 400 * r.length
 | [],s,v,_,e=>by
  have e2:=Option.some.inj e
  simp only [List.length_nil];omega
 | x :: r,s,v,h,e=>by
  unfold bV at e
  split at e
  ·cases e
  ·have h1:=h x η
   have h2:=mh (fun y hy=>h y (by simp [hy])) e
   simp only [List.length_cons]
   omega
end Go.Nc
