/- Parts. -/
import Derived.Test.YtbdkgpcdkalfdaaGreatNcKB
namespace Go.Nc
open Go.Proofs
theorem uD{x:Int}:∀{l:List Int} {k:Int},0<=k->(0<=b6 x l k↔x∈l)
 |[],k,_=>by simp[b6]
 |y::l,k,h=>by
  unfold b6;split
  ·rename_i e;simp[e,h]
  ·rename_i e;rw[uD (l:=l) (ω:0<=k+1)];simp only[List.mem_cons];constructor
   ·exactλh=>.inr h
   ·rintro(h|h)
    ·exact absurd h.symm e
    ·exact h
theorem iy{P:Program}{f:FuncId}{vs:List AV}{o:Nat->Option LObj}{k:List Nat->AV->List (Nat×Option LObj)->Prop}{r:AV}{id:Nat}{b:LObj}(h:CallSpec P f vs [] r [(id,b)])(hn:o id=none)(hk:k [id] r [(id,some b)]):vCall P f vs o k :=
 ⟨r,[],[(id,b)],h,trivial,⟨hn,trivial⟩,hk⟩
theorem Gw{b n:Nat}{g:Nat->List AV}(h:n<=1099511627776)(h1:∀q,q<n->fh (g q)=true):rH b 0 n g:=by
 exact⟨ω,h1⟩
end Go.Nc