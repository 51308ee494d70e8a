/- Parts. -/
import Derived.Test.YtooapceogfengaaGreatNdKB
namespace Go.Nc
open Go.Proofs
theorem vO{x:Int}:∀{l:List Int} {k:Int},0<=k->(0<=bL x l k↔x∈l)
 |[],k,_=>by simp[bL]
 |y::l,k,h=>by
  unfold bL;split
  .rename_i e;simp[e,h]
  .rename_i e;rw[vO (l:=l) (Z:0<=k+1)];simp only[List.mem_cons];constructor
   .exactλh=>.inr h
   .rintro(h|h)
    .exact absurd h.symm e
    .exact h
theorem dF{P:Program}{f:FuncId}{v:List AV}{o:Xd}{k:List Nat->AV->Xb->Prop}{r:AV}{id:Nat}{b:LObj}(h:CallSpec P f v [] r [(id,b)])(a:o id=none)(H:k [id] r [(id,some b)]):vCall P f v o k :=
 ⟨r,[],[(id,b)],h,trivial,⟨a,trivial⟩,H⟩
theorem zB{b n:Nat}{g:Nat->List AV}(h:n<=1099511627776)(H:∀q,q<n->fX (g q)=true):oR b 0 n g:=by
 exact⟨Z,H⟩
theorem vP{a:Int->Int}:∀{r:List Int} {s v:Int},(∀x∈r,a x<=400)->cG a r s=some v->s<=v/\v<=s+400*r.length
 |[],s,v,_,e=>by
  have E:=Option.some.inj e;simp only[List.length_nil];omega
 |x::r,s,v,h,e=>by
  unfold cG at e;split at e
  .cases e
  .have b:=h x η;have c:=vP (λy H=>h y (by simp[H])) e;simp only[List.length_cons];omega
end Go.Nc