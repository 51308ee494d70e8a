/- Parts. -/
import Derived.Test.YtnnpilpjbjbafaaGreatNdPLA
namespace Go.Nc
open Go.Proofs
structure QOk (q:Plan):Prop where
 fit:PlanFit q
 len:q.proms.length <= 10
theorem BT {x:Except Int Plan} (h:∀ q,x = .ok q -> PlanOk q):PlanFit (planP x):=by
 rcases x with e | q
 ·exact ⟨π _,π _,ν,π _,ν,π _,ν⟩
 ·exact (h q rfl).fit
theorem vT {names:List ByteArray} {lines:List Line}:∀ q,newX names lines = .ok q -> PlanOk q:=fun q e=>by
 unfold newX at e
 split at e
 ·rename_i hn
  cases e
  exact (n8 ((bb _).1 hn)).2.ok
 ·cases e
section
variable {q:Plan} (h:QOk q)
include h
variable {k:Prom} (hk:bB k)
include hk
end
theorem F1 (q:Plan) (k:Prom):doX q 1 k = admX q k:=if_pos rfl
end Go.Nc