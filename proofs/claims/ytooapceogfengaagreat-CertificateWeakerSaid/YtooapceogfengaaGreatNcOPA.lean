/- Parts. -/
import Derived.Test.YtooapceogfengaaGreatNcCXB
namespace Go.Nc
open Go.Proofs
theorem jF{g:Int->Int}:∀(r:List Int) (s y:Int),bF g r s=some y↔(∀x∈r,0<=g x)/\y=s+(r.map g).sum
 |[],s,y=>by
  simp only[bF,List.map_nil,List.sum_nil,List.not_mem_nil,false_implies,implies_true,true_and,Option.some.injEq];omega
 |x::r,s,y=>by
  have ih:=jF (g:=g) r (s+g x) y;rw[bF];by_cases h:g x<0
  ·rw[if_pos h];simp only[reduceCtorEq,false_iff];rintro⟨h1,_⟩;have:=h1 x η;omega
  ·rw[if_neg h,ih];simp only[List.mem_cons,forall_eq_or_imp,List.map_cons,List.sum_cons];constructor
   ·rintro⟨h1,h2⟩;exact⟨⟨ω,h1⟩,ω⟩
   ·rintro⟨⟨_,h1⟩,h2⟩;exact⟨h1,ω⟩
end Go.Nc