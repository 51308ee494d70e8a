/- Parts. -/
import Derived.Test.YtbdkgpcdkalfdaaGreatNcKB
namespace Go.Nc
open Go.Proofs
theorem uO{x:Int}:∀{l:List Int} {k:Int},0<=k->(0<=bF x l k↔x∈l)
 |[],k,_=>by simp[bF]
 |y::l,k,h=>by
  unfold bF;split
  ·rename_i e;simp[e,h]
  ·rename_i e;rw[uO (l:=l) (ω:0<=k+1)];simp only[List.mem_cons];constructor
   ·exactλh=>.inr h
   ·rintro(h|h)
    ·exact absurd h.symm e
    ·exact h
theorem iB{P:Program}{f:FuncId}{vs:List AV}{o:Xd}{k:List Nat->AV->Xb->Prop}{r:AV}{id:Nat}{b:LObj}(h:CallSpec P f vs [] r [(id,b)])(hn:o id=none)(hk:k [id] r [(id,some b)]):vCall P f vs o k :=
 ⟨r,[],[(id,b)],h,trivial,⟨hn,trivial⟩,hk⟩
theorem yH{b n:Nat}{g:Nat->List AV}(h:n<=1099511627776)(h1:∀q,q<n->fL (g q)=true):sr b 0 n g:=by
 exact⟨ω,h1⟩
end Go.Nc