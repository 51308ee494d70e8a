/-
 Proved here: the closed facts of the row of BestExact, which the kernel reckons one by one.
 Conditions: none.
-/
import Derived.Test.YtbdkgpcdkalfdaaGreatRows
import Derived.ProofKit
import Derived.OpenShut
import Derived.WalkKit
namespace Go.Proofs.YtbdkgpcdkalfdaaGreat.bestExact
open Go.ChangeShapes Go.WideShapes Go.ChangeAt Go.RowKit
set_option maxHeartbeats 8000000 in
theorem closed:joinedFacts Tryz.pinned.checked.prog 9 Tryz.f9 Rows.bestExactSpec Rows.bestExactRow=true:=by
 unfold joinedFacts;simp only[Bool.and_eq_true];repeat' refine And.intro ?_ ?_
 all_goals as_aux_lemma=>kernel_rfl
end Go.Proofs.YtbdkgpcdkalfdaaGreat.bestExact
