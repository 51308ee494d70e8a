/- Parts. -/
import Derived.Test.YtooapceogfengaaGreatNdCXB
namespace Go.Nc
open Go.Proofs
theorem nI{g:Int->Int}:∀(r:List Int) (s y:Int),cG g r s=some y↔(∀x∈r,0<=g x)/\y=s+(r.map g).sum
 |[],s,y=>by
  simp only[cG,List.map_nil,List.sum_nil,List.not_mem_nil,false_implies,implies_true,true_and,Option.some.injEq];omega
 |x::r,s,y=>by
  have i:=nI (g:=g) r (s+g x) y;rw[cG];by_cases h:g x<0
  .rw[if_pos h];simp only[reduceCtorEq,false_iff];rintro⟨H,_⟩;have:=H x η;omega
  .rw[if_neg h,i];simp only[List.mem_cons,forall_eq_or_imp,List.map_cons,List.sum_cons];constructor
   .rintro⟨H,a⟩;exact⟨⟨Z,H⟩,Z⟩
   .rintro⟨⟨_,H⟩,a⟩;exact⟨H,Z⟩
end Go.Nc