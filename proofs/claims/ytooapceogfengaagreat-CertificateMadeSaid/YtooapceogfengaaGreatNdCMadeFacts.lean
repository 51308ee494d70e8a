/-
 Proved here: the closed facts of the row of CertificateMade, which the kernel reckons one by one.
 Conditions: none.
-/
import Derived.Test.YtooapceogfengaaGreatRows
import Derived.ProofKit
import Derived.OpenShut
import Derived.WalkKit
namespace Go.Proofs.YtooapceogfengaaGreat.certificateMade
open Go.ChangeShapes Go.WideShapes Go.ChangeAt Go.RowKit
set_option maxHeartbeats 8000000 in
theorem closed:joinedFacts Tryz.pinned.checked.prog 3 Tryz.f3 Rows.certificateMadeSpec Rows.certificateMadeRow=true:=by
 unfold joinedFacts;simp only[Bool.and_eq_true];repeat' refine And.intro ?_ ?_
 all_goals as_aux_lemma=>kernel_rfl
end Go.Proofs.YtooapceogfengaaGreat.certificateMade
