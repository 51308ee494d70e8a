/- Parts. -/
import Derived.Test.YtooapceogfengaaGreatNcKB
namespace Go.Nc
open Go.Proofs
theorem ue{x:Int}:∀{l:List Int} {k:Int},0<=k->(0<=bu x l k↔x∈l)
 |[],k,_=>by simp[bu]
 |y::l,k,h=>by
  unfold bu;split
  ·rename_i e;simp[e,h]
  ·rename_i e;rw[ue (l:=l) (ω:0<=k+1)];simp only[List.mem_cons];constructor
   ·exactλh=>.inr h
   ·rintro(h|h)
    ·exact absurd h.symm e
    ·exact h
theorem cO{P:Program}{f:FuncId}{vs:List AV}{o:Xd}{k:List Nat->AV->Xb->Prop}{r:AV}{id:Nat}{b:LObj}(h:CallSpec P f vs [] r [(id,b)])(hn:o id=none)(hk:k [id] r [(id,some b)]):vCall P f vs o k :=
 ⟨r,[],[(id,b)],h,trivial,⟨hn,trivial⟩,hk⟩
theorem Gj{b n:Nat}{g:Nat->List AV}(h:n<=1099511627776)(h1:∀q,q<n->fD (g q)=true):pQ b 0 n g:=by
 exact⟨ω,h1⟩
theorem uf{δ:Int->Int}:∀{r:List Int} {s v:Int},(∀x∈r,δ x<=400)->bF δ r s=some v->s<=v/\v<=s+400*r.length
 |[],s,v,_,e=>by
  have e2:=Option.some.inj e;simp only[List.length_nil];omega
 |x::r,s,v,h,e=>by
  unfold bF at e;split at e
  ·cases e
  ·have h1:=h x η;have h2:=uf (λy hy=>h y (by simp[hy])) e;simp only[List.length_cons];omega
end Go.Nc