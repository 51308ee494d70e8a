/-
  No cell of these rows narrows 'for every input' (looked for: loops, veiled, ifaces, maps, wideKeys, modest, calm, conditions, laid).
  DERIVED. THE GIVEN ROWS OF THIS SEAT. 8 by the template 'for every input the law returns true; each argument reads behind the call as it read before'; 0 by the template 'total and deterministic' (their statements: YtnnpilpjbjbafaaGreatTotals.lean).
  GIVEN WITH THE SEED: the statements are not yours to turn. If you find one false, say at which input.
  Laid BY PROGRAM, IN A SANDBOX (cutbox-rows.mjs): the forced cells as the released guide's own fill.sh prints them over the translation ded0b0c9db24e27b… (all of the seat's roots in one cut). By AI agents, Wed Nov 11 2026. No macro, syntax, notation, axiom, sorry.
-/
import Derived.Test.YtnnpilpjbjbafaaGreatChecked
import GoSem.Claim
import GoSem.ClaimJoined
import GoSem.ClaimMapViews
import Derived.JoinedTies
import Derived.KernelRfl
namespace Go.Proofs.YtnnpilpjbjbafaaGreat
/- THE CELL 'sum', in the pinned program and in every row, IS THE sha256 OF THE DUMP (.gsa) THAT YtnnpilpjbjbafaaGreatProg.lean LOADS. Nothing in Lean hashes anything: it is a label: what it is worth is what the hold of that sum in a sandbox is worth. -/
noncomputable def Tryz.pinned : Pinned := { name := "ytnnpilpjbjbafaagreat", sum := "ded0b0c9db24e27b8775b99a8ac9379ab977e79d770828f480baac647b68cb30", checked := Tryz.checked }
namespace Rows
def none {H : Type} : Left H := { results := [], args := [] }

/-- 'netcalculuslaw39.AdmissionNames': WHATEVER THE INPUT: true; the input reads as it did. -/
def admissionNamesSpec : ChangeSpec := { name := "admissionNames", fn := fun _ => fun
  | [d] => { results := [.lit (.bool true)], args := [d] }
  | _ => none }
def admissionNamesRow : OpenClaim := { program := "ytnnpilpjbjbafaagreat", sum := "ded0b0c9db24e27b8775b99a8ac9379ab977e79d770828f480baac647b68cb30", func := "netcalculus/netcalculuslaw39.AdmissionNames", spec := "admissionNames", unfollowed := true, recurses := true, apart := false }
def AdmissionNamesSaid : Prop := admissionNamesRow.holds Tryz.pinned (OpenSpec.ofChange admissionNamesSpec)

/-- ITS FALSE NEIGHBOUR: 'it returns false'. Refute it at one input. -/
def admissionNamesWrong : ChangeSpec := { name := "admissionNames", fn := fun _ => fun
  | [d] => { results := [.lit (.bool false)], args := [d] }
  | _ => none }
def AdmissionNamesWrongFalsely : Prop := admissionNamesRow.holds Tryz.pinned (OpenSpec.ofChange admissionNamesWrong)

/-- 'netcalculuslaw39.AdmissionBack': WHATEVER THE INPUT: true; the input reads as it did. -/
def admissionBackSpec : ChangeSpec := { name := "admissionBack", fn := fun _ => fun
  | [d] => { results := [.lit (.bool true)], args := [d] }
  | _ => none }
def admissionBackRow : OpenClaim := { program := "ytnnpilpjbjbafaagreat", sum := "ded0b0c9db24e27b8775b99a8ac9379ab977e79d770828f480baac647b68cb30", func := "netcalculus/netcalculuslaw39.AdmissionBack", spec := "admissionBack", unfollowed := true, recurses := true, apart := false }
def AdmissionBackSaid : Prop := admissionBackRow.holds Tryz.pinned (OpenSpec.ofChange admissionBackSpec)

/-- ITS FALSE NEIGHBOUR: 'it returns false'. Refute it at one input. -/
def admissionBackWrong : ChangeSpec := { name := "admissionBack", fn := fun _ => fun
  | [d] => { results := [.lit (.bool false)], args := [d] }
  | _ => none }
def AdmissionBackWrongFalsely : Prop := admissionBackRow.holds Tryz.pinned (OpenSpec.ofChange admissionBackWrong)

/-- 'netcalculuslaw39.AdmissionExact': WHATEVER THE INPUT: true; the input reads as it did. -/
def admissionExactSpec : ChangeSpec := { name := "admissionExact", fn := fun _ => fun
  | [d1, d2, d3, d4, d5] => { results := [.lit (.bool true)], args := [d1, d2, d3, d4, d5] }
  | _ => none }
def admissionExactRow : OpenClaim := { program := "ytnnpilpjbjbafaagreat", sum := "ded0b0c9db24e27b8775b99a8ac9379ab977e79d770828f480baac647b68cb30", func := "netcalculus/netcalculuslaw39.AdmissionExact", spec := "admissionExact", unfollowed := true, recurses := true, apart := false }
def AdmissionExactSaid : Prop := admissionExactRow.holds Tryz.pinned (OpenSpec.ofChange admissionExactSpec)

/-- ITS FALSE NEIGHBOUR: 'it returns false'. Refute it at one input. -/
def admissionExactWrong : ChangeSpec := { name := "admissionExact", fn := fun _ => fun
  | [d1, d2, d3, d4, d5] => { results := [.lit (.bool false)], args := [d1, d2, d3, d4, d5] }
  | _ => none }
def AdmissionExactWrongFalsely : Prop := admissionExactRow.holds Tryz.pinned (OpenSpec.ofChange admissionExactWrong)

/-- 'netcalculuslaw39.AdmissionKeeps': WHATEVER THE INPUT: true; the input reads as it did. -/
def admissionKeepsSpec : ChangeSpec := { name := "admissionKeeps", fn := fun _ => fun
  | [d] => { results := [.lit (.bool true)], args := [d] }
  | _ => none }
def admissionKeepsRow : OpenClaim := { program := "ytnnpilpjbjbafaagreat", sum := "ded0b0c9db24e27b8775b99a8ac9379ab977e79d770828f480baac647b68cb30", func := "netcalculus/netcalculuslaw39.AdmissionKeeps", spec := "admissionKeeps", unfollowed := true, recurses := true, apart := false }
def AdmissionKeepsSaid : Prop := admissionKeepsRow.holds Tryz.pinned (OpenSpec.ofChange admissionKeepsSpec)

/-- ITS FALSE NEIGHBOUR: 'it returns false'. Refute it at one input. -/
def admissionKeepsWrong : ChangeSpec := { name := "admissionKeeps", fn := fun _ => fun
  | [d] => { results := [.lit (.bool false)], args := [d] }
  | _ => none }
def AdmissionKeepsWrongFalsely : Prop := admissionKeepsRow.holds Tryz.pinned (OpenSpec.ofChange admissionKeepsWrong)

/-- 'netcalculuslaw42.FailureExact': WHATEVER THE INPUT: true; the input reads as it did. -/
def failureExactSpec : ChangeSpec := { name := "failureExact", fn := fun _ => fun
  | [d1, d2, d3, d4, d5, d6] => { results := [.lit (.bool true)], args := [d1, d2, d3, d4, d5, d6] }
  | _ => none }
def failureExactRow : OpenClaim := { program := "ytnnpilpjbjbafaagreat", sum := "ded0b0c9db24e27b8775b99a8ac9379ab977e79d770828f480baac647b68cb30", func := "netcalculus/netcalculuslaw42.FailureExact", spec := "failureExact", unfollowed := true, recurses := true, apart := false }
def FailureExactSaid : Prop := failureExactRow.holds Tryz.pinned (OpenSpec.ofChange failureExactSpec)

/-- ITS FALSE NEIGHBOUR: 'it returns false'. Refute it at one input. -/
def failureExactWrong : ChangeSpec := { name := "failureExact", fn := fun _ => fun
  | [d1, d2, d3, d4, d5, d6] => { results := [.lit (.bool false)], args := [d1, d2, d3, d4, d5, d6] }
  | _ => none }
def FailureExactWrongFalsely : Prop := failureExactRow.holds Tryz.pinned (OpenSpec.ofChange failureExactWrong)

/-- 'netcalculuslaw42.FailureKept': WHATEVER THE INPUT: true; the input reads as it did. -/
def failureKeptSpec : ChangeSpec := { name := "failureKept", fn := fun _ => fun
  | [d] => { results := [.lit (.bool true)], args := [d] }
  | _ => none }
def failureKeptRow : OpenClaim := { program := "ytnnpilpjbjbafaagreat", sum := "ded0b0c9db24e27b8775b99a8ac9379ab977e79d770828f480baac647b68cb30", func := "netcalculus/netcalculuslaw42.FailureKept", spec := "failureKept", unfollowed := true, recurses := true, apart := false }
def FailureKeptSaid : Prop := failureKeptRow.holds Tryz.pinned (OpenSpec.ofChange failureKeptSpec)

/-- ITS FALSE NEIGHBOUR: 'it returns false'. Refute it at one input. -/
def failureKeptWrong : ChangeSpec := { name := "failureKept", fn := fun _ => fun
  | [d] => { results := [.lit (.bool false)], args := [d] }
  | _ => none }
def FailureKeptWrongFalsely : Prop := failureKeptRow.holds Tryz.pinned (OpenSpec.ofChange failureKeptWrong)

/-- 'netcalculuslaw42.FailureNothing': WHATEVER THE INPUT: true; the input reads as it did. -/
def failureNothingSpec : ChangeSpec := { name := "failureNothing", fn := fun _ => fun
  | [d] => { results := [.lit (.bool true)], args := [d] }
  | _ => none }
def failureNothingRow : OpenClaim := { program := "ytnnpilpjbjbafaagreat", sum := "ded0b0c9db24e27b8775b99a8ac9379ab977e79d770828f480baac647b68cb30", func := "netcalculus/netcalculuslaw42.FailureNothing", spec := "failureNothing", unfollowed := true, recurses := true, apart := false }
def FailureNothingSaid : Prop := failureNothingRow.holds Tryz.pinned (OpenSpec.ofChange failureNothingSpec)

/-- ITS FALSE NEIGHBOUR: 'it returns false'. Refute it at one input. -/
def failureNothingWrong : ChangeSpec := { name := "failureNothing", fn := fun _ => fun
  | [d] => { results := [.lit (.bool false)], args := [d] }
  | _ => none }
def FailureNothingWrongFalsely : Prop := failureNothingRow.holds Tryz.pinned (OpenSpec.ofChange failureNothingWrong)

/-- 'netcalculuslaw42.FailureOrder': WHATEVER THE INPUT: true; the input reads as it did. -/
def failureOrderSpec : ChangeSpec := { name := "failureOrder", fn := fun _ => fun
  | [d] => { results := [.lit (.bool true)], args := [d] }
  | _ => none }
def failureOrderRow : OpenClaim := { program := "ytnnpilpjbjbafaagreat", sum := "ded0b0c9db24e27b8775b99a8ac9379ab977e79d770828f480baac647b68cb30", func := "netcalculus/netcalculuslaw42.FailureOrder", spec := "failureOrder", unfollowed := true, recurses := true, apart := false }
def FailureOrderSaid : Prop := failureOrderRow.holds Tryz.pinned (OpenSpec.ofChange failureOrderSpec)

/-- ITS FALSE NEIGHBOUR: 'it returns false'. Refute it at one input. -/
def failureOrderWrong : ChangeSpec := { name := "failureOrder", fn := fun _ => fun
  | [d] => { results := [.lit (.bool false)], args := [d] }
  | _ => none }
def FailureOrderWrongFalsely : Prop := failureOrderRow.holds Tryz.pinned (OpenSpec.ofChange failureOrderWrong)

/- THE SECOND FORM. 'bulk': how many values and letters a reading holds, each counted each time it is reached (what is shared counts as often as it is met; a slice's spare places count too). A statement '..UptoSaid' is the law's where the arguments, and the package variables that the reading takes, are together of bulk at most 1048576: NARROWER than '..Said'. Prove '..Said' where nothing that the law and all that it calls make is longer than what came in: it says more and counts as full. Else prove '..UptoSaid'. A law counts once. -/
mutual
def uptoBulk {H : Type} : DataW H → Nat
  | .lit (.string bytes) => bytes.length + 1
  | .lit _ => 1
  | .nil => 1
  | .ptr d => uptoBulk d + 1
  | .slice elems spare => uptoBulkAll elems + uptoBulkAll spare + 1
  | .agg parts => uptoBulkAll parts + 1
  | .iface _ d => uptoBulk d + 1
  | .map entries => uptoBulkEntries entries + 1
  | .held _ => 1
def uptoBulkAll {H : Type} : List (DataW H) → Nat
  | [] => 0
  | d :: r => uptoBulk d + uptoBulkAll r
def uptoBulkEntries {H : Type} : List (Lit × DataW H) → Nat
  | [] => 0
  | x :: r => uptoBulkEntry x + uptoBulkEntries r
def uptoBulkEntry {H : Type} : Lit × DataW H → Nat
  | (.string bytes, d) => bytes.length + uptoBulk d + 1
  | (_, d) => uptoBulk d + 1
 end
def uptoSmall : (H : Type) → List (DataW H) → Bool := fun _ ds => decide (uptoBulkAll ds ≤ 1048576)
def OpenSpec.upto (s : _root_.Go.ChangeSpec) : _root_.Go.OpenSpec := { _root_.Go.OpenSpec.ofChange s with cond := some uptoSmall }

/-- 'netcalculuslaw39.AdmissionNames', WHERE WHAT IT READS IS OF BULK AT MOST 1048576: true; the input reads as it did. -/
def admissionNamesUptoRow : OpenClaim := { program := "ytnnpilpjbjbafaagreat", sum := "ded0b0c9db24e27b8775b99a8ac9379ab977e79d770828f480baac647b68cb30", func := "netcalculus/netcalculuslaw39.AdmissionNames", spec := "admissionNames", unfollowed := true, recurses := true, apart := false, narrowed := true }
def AdmissionNamesUptoSaid : Prop := admissionNamesUptoRow.holds Tryz.pinned (OpenSpec.upto admissionNamesSpec)

/-- 'netcalculuslaw39.AdmissionBack', WHERE WHAT IT READS IS OF BULK AT MOST 1048576: true; the input reads as it did. -/
def admissionBackUptoRow : OpenClaim := { program := "ytnnpilpjbjbafaagreat", sum := "ded0b0c9db24e27b8775b99a8ac9379ab977e79d770828f480baac647b68cb30", func := "netcalculus/netcalculuslaw39.AdmissionBack", spec := "admissionBack", unfollowed := true, recurses := true, apart := false, narrowed := true }
def AdmissionBackUptoSaid : Prop := admissionBackUptoRow.holds Tryz.pinned (OpenSpec.upto admissionBackSpec)

/-- 'netcalculuslaw39.AdmissionExact', WHERE WHAT IT READS IS OF BULK AT MOST 1048576: true; the input reads as it did. -/
def admissionExactUptoRow : OpenClaim := { program := "ytnnpilpjbjbafaagreat", sum := "ded0b0c9db24e27b8775b99a8ac9379ab977e79d770828f480baac647b68cb30", func := "netcalculus/netcalculuslaw39.AdmissionExact", spec := "admissionExact", unfollowed := true, recurses := true, apart := false, narrowed := true }
def AdmissionExactUptoSaid : Prop := admissionExactUptoRow.holds Tryz.pinned (OpenSpec.upto admissionExactSpec)

/-- 'netcalculuslaw39.AdmissionKeeps', WHERE WHAT IT READS IS OF BULK AT MOST 1048576: true; the input reads as it did. -/
def admissionKeepsUptoRow : OpenClaim := { program := "ytnnpilpjbjbafaagreat", sum := "ded0b0c9db24e27b8775b99a8ac9379ab977e79d770828f480baac647b68cb30", func := "netcalculus/netcalculuslaw39.AdmissionKeeps", spec := "admissionKeeps", unfollowed := true, recurses := true, apart := false, narrowed := true }
def AdmissionKeepsUptoSaid : Prop := admissionKeepsUptoRow.holds Tryz.pinned (OpenSpec.upto admissionKeepsSpec)

/-- 'netcalculuslaw42.FailureExact', WHERE WHAT IT READS IS OF BULK AT MOST 1048576: true; the input reads as it did. -/
def failureExactUptoRow : OpenClaim := { program := "ytnnpilpjbjbafaagreat", sum := "ded0b0c9db24e27b8775b99a8ac9379ab977e79d770828f480baac647b68cb30", func := "netcalculus/netcalculuslaw42.FailureExact", spec := "failureExact", unfollowed := true, recurses := true, apart := false, narrowed := true }
def FailureExactUptoSaid : Prop := failureExactUptoRow.holds Tryz.pinned (OpenSpec.upto failureExactSpec)

/-- 'netcalculuslaw42.FailureKept', WHERE WHAT IT READS IS OF BULK AT MOST 1048576: true; the input reads as it did. -/
def failureKeptUptoRow : OpenClaim := { program := "ytnnpilpjbjbafaagreat", sum := "ded0b0c9db24e27b8775b99a8ac9379ab977e79d770828f480baac647b68cb30", func := "netcalculus/netcalculuslaw42.FailureKept", spec := "failureKept", unfollowed := true, recurses := true, apart := false, narrowed := true }
def FailureKeptUptoSaid : Prop := failureKeptUptoRow.holds Tryz.pinned (OpenSpec.upto failureKeptSpec)

/-- 'netcalculuslaw42.FailureNothing', WHERE WHAT IT READS IS OF BULK AT MOST 1048576: true; the input reads as it did. -/
def failureNothingUptoRow : OpenClaim := { program := "ytnnpilpjbjbafaagreat", sum := "ded0b0c9db24e27b8775b99a8ac9379ab977e79d770828f480baac647b68cb30", func := "netcalculus/netcalculuslaw42.FailureNothing", spec := "failureNothing", unfollowed := true, recurses := true, apart := false, narrowed := true }
def FailureNothingUptoSaid : Prop := failureNothingUptoRow.holds Tryz.pinned (OpenSpec.upto failureNothingSpec)

/-- 'netcalculuslaw42.FailureOrder', WHERE WHAT IT READS IS OF BULK AT MOST 1048576: true; the input reads as it did. -/
def failureOrderUptoRow : OpenClaim := { program := "ytnnpilpjbjbafaagreat", sum := "ded0b0c9db24e27b8775b99a8ac9379ab977e79d770828f480baac647b68cb30", func := "netcalculus/netcalculuslaw42.FailureOrder", spec := "failureOrder", unfollowed := true, recurses := true, apart := false, narrowed := true }
def FailureOrderUptoSaid : Prop := failureOrderUptoRow.holds Tryz.pinned (OpenSpec.upto failureOrderSpec)

end Rows
end Go.Proofs.YtnnpilpjbjbafaaGreat
