/-
  No cell of these rows narrows 'for every input' (looked for: loops, veiled, ifaces, maps, wideKeys, modest, calm, conditions, laid).
  DERIVED. THE GIVEN ROWS OF THIS SEAT. 7 by the template 'for every input the law returns true; each argument reads behind the call as it read before'; 0 by the template 'total and deterministic' (their statements: YtbdkgpcdkalfdaaGreatTotals.lean).
  GIVEN WITH THE SEED: the statements are not yours to turn. If you find one false, say at which input.
  Laid BY PROGRAM, IN A SANDBOX (cutbox-rows.mjs): the forced cells as the released guide's own fill.sh prints them over the translation de31d7fbd3e16b45… (all of the seat's roots in one cut). By AI agents, Wed Nov 11 2026. No macro, syntax, notation, axiom, sorry.
-/
import Derived.Test.YtbdkgpcdkalfdaaGreatChecked
import GoSem.Claim
import GoSem.ClaimJoined
import GoSem.ClaimMapViews
import Derived.JoinedTies
import Derived.KernelRfl
namespace Go.Proofs.YtbdkgpcdkalfdaaGreat
/- THE CELL 'sum', in the pinned program and in every row, IS THE sha256 OF THE DUMP (.gsa) THAT YtbdkgpcdkalfdaaGreatProg.lean LOADS. Nothing in Lean hashes anything: it is a label: what it is worth is what the hold of that sum in a sandbox is worth. -/
noncomputable def Tryz.pinned : Pinned := { name := "ytbdkgpcdkalfdaagreat", sum := "de31d7fbd3e16b45d0f7814210135781a8f1343ba75b3a0f7b57a5b8fdef9746", checked := Tryz.checked }
namespace Rows
def none {H : Type} : Left H := { results := [], args := [] }

/-- 'netcalculuslaw30.OnceExact': WHATEVER THE INPUT: true; the input reads as it did. -/
def onceExactSpec : ChangeSpec := { name := "onceExact", fn := fun _ => fun
  | [d1, d2, d3, d4, d5, d6] => { results := [.lit (.bool true)], args := [d1, d2, d3, d4, d5, d6] }
  | _ => none }
def onceExactRow : OpenClaim := { program := "ytbdkgpcdkalfdaagreat", sum := "de31d7fbd3e16b45d0f7814210135781a8f1343ba75b3a0f7b57a5b8fdef9746", func := "netcalculus/netcalculuslaw30.OnceExact", spec := "onceExact", unfollowed := true, recurses := true, apart := false }
def OnceExactSaid : Prop := onceExactRow.holds Tryz.pinned (OpenSpec.ofChange onceExactSpec)

/-- ITS FALSE NEIGHBOUR: 'it returns false'. Refute it at one input. -/
def onceExactWrong : ChangeSpec := { name := "onceExact", fn := fun _ => fun
  | [d1, d2, d3, d4, d5, d6] => { results := [.lit (.bool false)], args := [d1, d2, d3, d4, d5, d6] }
  | _ => none }
def OnceExactWrongFalsely : Prop := onceExactRow.holds Tryz.pinned (OpenSpec.ofChange onceExactWrong)

/-- 'netcalculuslaw30.OncePure': WHATEVER THE INPUT: true; the input reads as it did. -/
def oncePureSpec : ChangeSpec := { name := "oncePure", fn := fun _ => fun
  | [d] => { results := [.lit (.bool true)], args := [d] }
  | _ => none }
def oncePureRow : OpenClaim := { program := "ytbdkgpcdkalfdaagreat", sum := "de31d7fbd3e16b45d0f7814210135781a8f1343ba75b3a0f7b57a5b8fdef9746", func := "netcalculus/netcalculuslaw30.OncePure", spec := "oncePure", unfollowed := true, recurses := true, apart := false }
def OncePureSaid : Prop := oncePureRow.holds Tryz.pinned (OpenSpec.ofChange oncePureSpec)

/-- ITS FALSE NEIGHBOUR: 'it returns false'. Refute it at one input. -/
def oncePureWrong : ChangeSpec := { name := "oncePure", fn := fun _ => fun
  | [d] => { results := [.lit (.bool false)], args := [d] }
  | _ => none }
def OncePureWrongFalsely : Prop := oncePureRow.holds Tryz.pinned (OpenSpec.ofChange oncePureWrong)

/-- 'netcalculuslaw30.OnceRefuses': WHATEVER THE INPUT: true; the input reads as it did. -/
def onceRefusesSpec : ChangeSpec := { name := "onceRefuses", fn := fun _ => fun
  | [d1, d2] => { results := [.lit (.bool true)], args := [d1, d2] }
  | _ => none }
def onceRefusesRow : OpenClaim := { program := "ytbdkgpcdkalfdaagreat", sum := "de31d7fbd3e16b45d0f7814210135781a8f1343ba75b3a0f7b57a5b8fdef9746", func := "netcalculus/netcalculuslaw30.OnceRefuses", spec := "onceRefuses", unfollowed := true, recurses := true, apart := false }
def OnceRefusesSaid : Prop := onceRefusesRow.holds Tryz.pinned (OpenSpec.ofChange onceRefusesSpec)

/-- ITS FALSE NEIGHBOUR: 'it returns false'. Refute it at one input. -/
def onceRefusesWrong : ChangeSpec := { name := "onceRefuses", fn := fun _ => fun
  | [d1, d2] => { results := [.lit (.bool false)], args := [d1, d2] }
  | _ => none }
def OnceRefusesWrongFalsely : Prop := onceRefusesRow.holds Tryz.pinned (OpenSpec.ofChange onceRefusesWrong)

/-- 'netcalculuslaw30.OnceHops': WHATEVER THE INPUT: true; the input reads as it did. -/
def onceHopsSpec : ChangeSpec := { name := "onceHops", fn := fun _ => fun
  | [d1, d2] => { results := [.lit (.bool true)], args := [d1, d2] }
  | _ => none }
def onceHopsRow : OpenClaim := { program := "ytbdkgpcdkalfdaagreat", sum := "de31d7fbd3e16b45d0f7814210135781a8f1343ba75b3a0f7b57a5b8fdef9746", func := "netcalculus/netcalculuslaw30.OnceHops", spec := "onceHops", unfollowed := true, recurses := true, apart := false }
def OnceHopsSaid : Prop := onceHopsRow.holds Tryz.pinned (OpenSpec.ofChange onceHopsSpec)

/-- ITS FALSE NEIGHBOUR: 'it returns false'. Refute it at one input. -/
def onceHopsWrong : ChangeSpec := { name := "onceHops", fn := fun _ => fun
  | [d1, d2] => { results := [.lit (.bool false)], args := [d1, d2] }
  | _ => none }
def OnceHopsWrongFalsely : Prop := onceHopsRow.holds Tryz.pinned (OpenSpec.ofChange onceHopsWrong)

/-- 'netcalculuslaw31.BestImproves': WHATEVER THE INPUT: true; the input reads as it did. -/
def bestImprovesSpec : ChangeSpec := { name := "bestImproves", fn := fun _ => fun
  | [d1, d2] => { results := [.lit (.bool true)], args := [d1, d2] }
  | _ => none }
def bestImprovesRow : OpenClaim := { program := "ytbdkgpcdkalfdaagreat", sum := "de31d7fbd3e16b45d0f7814210135781a8f1343ba75b3a0f7b57a5b8fdef9746", func := "netcalculus/netcalculuslaw31.BestImproves", spec := "bestImproves", unfollowed := true, recurses := true, apart := false }
def BestImprovesSaid : Prop := bestImprovesRow.holds Tryz.pinned (OpenSpec.ofChange bestImprovesSpec)

/-- ITS FALSE NEIGHBOUR: 'it returns false'. Refute it at one input. -/
def bestImprovesWrong : ChangeSpec := { name := "bestImproves", fn := fun _ => fun
  | [d1, d2] => { results := [.lit (.bool false)], args := [d1, d2] }
  | _ => none }
def BestImprovesWrongFalsely : Prop := bestImprovesRow.holds Tryz.pinned (OpenSpec.ofChange bestImprovesWrong)

/-- 'netcalculuslaw31.BestLeast': WHATEVER THE INPUT: true; the input reads as it did. -/
def bestLeastSpec : ChangeSpec := { name := "bestLeast", fn := fun _ => fun
  | [d1, d2] => { results := [.lit (.bool true)], args := [d1, d2] }
  | _ => none }
def bestLeastRow : OpenClaim := { program := "ytbdkgpcdkalfdaagreat", sum := "de31d7fbd3e16b45d0f7814210135781a8f1343ba75b3a0f7b57a5b8fdef9746", func := "netcalculus/netcalculuslaw31.BestLeast", spec := "bestLeast", unfollowed := true, recurses := true, apart := false }
def BestLeastSaid : Prop := bestLeastRow.holds Tryz.pinned (OpenSpec.ofChange bestLeastSpec)

/-- ITS FALSE NEIGHBOUR: 'it returns false'. Refute it at one input. -/
def bestLeastWrong : ChangeSpec := { name := "bestLeast", fn := fun _ => fun
  | [d1, d2] => { results := [.lit (.bool false)], args := [d1, d2] }
  | _ => none }
def BestLeastWrongFalsely : Prop := bestLeastRow.holds Tryz.pinned (OpenSpec.ofChange bestLeastWrong)

/-- 'netcalculuslaw31.BestExact': WHATEVER THE INPUT: true; the input reads as it did. -/
def bestExactSpec : ChangeSpec := { name := "bestExact", fn := fun _ => fun
  | [d1, d2, d3, d4] => { results := [.lit (.bool true)], args := [d1, d2, d3, d4] }
  | _ => none }
def bestExactRow : OpenClaim := { program := "ytbdkgpcdkalfdaagreat", sum := "de31d7fbd3e16b45d0f7814210135781a8f1343ba75b3a0f7b57a5b8fdef9746", func := "netcalculus/netcalculuslaw31.BestExact", spec := "bestExact", unfollowed := true, recurses := true, apart := false }
def BestExactSaid : Prop := bestExactRow.holds Tryz.pinned (OpenSpec.ofChange bestExactSpec)

/-- ITS FALSE NEIGHBOUR: 'it returns false'. Refute it at one input. -/
def bestExactWrong : ChangeSpec := { name := "bestExact", fn := fun _ => fun
  | [d1, d2, d3, d4] => { results := [.lit (.bool false)], args := [d1, d2, d3, d4] }
  | _ => none }
def BestExactWrongFalsely : Prop := bestExactRow.holds Tryz.pinned (OpenSpec.ofChange bestExactWrong)

/- THE SECOND FORM. 'bulk': how many values and letters a reading holds, each counted each time it is reached (what is shared counts as often as it is met; a slice's spare places count too). A statement '..UptoSaid' is the law's where the arguments, and the package variables that the reading takes, are together of bulk at most 1048576: NARROWER than '..Said'. Prove '..Said' where nothing that the law and all that it calls make is longer than what came in: it says more and counts as full. Else prove '..UptoSaid'. A law counts once. -/
mutual
def uptoBulk {H : Type} : DataW H → Nat
  | .lit (.string bytes) => bytes.length + 1
  | .lit _ => 1
  | .nil => 1
  | .ptr d => uptoBulk d + 1
  | .slice elems spare => uptoBulkAll elems + uptoBulkAll spare + 1
  | .agg parts => uptoBulkAll parts + 1
  | .iface _ d => uptoBulk d + 1
  | .map entries => uptoBulkEntries entries + 1
  | .held _ => 1
def uptoBulkAll {H : Type} : List (DataW H) → Nat
  | [] => 0
  | d :: r => uptoBulk d + uptoBulkAll r
def uptoBulkEntries {H : Type} : List (Lit × DataW H) → Nat
  | [] => 0
  | x :: r => uptoBulkEntry x + uptoBulkEntries r
def uptoBulkEntry {H : Type} : Lit × DataW H → Nat
  | (.string bytes, d) => bytes.length + uptoBulk d + 1
  | (_, d) => uptoBulk d + 1
 end
def uptoSmall : (H : Type) → List (DataW H) → Bool := fun _ ds => decide (uptoBulkAll ds ≤ 1048576)
def OpenSpec.upto (s : _root_.Go.ChangeSpec) : _root_.Go.OpenSpec := { _root_.Go.OpenSpec.ofChange s with cond := some uptoSmall }

/-- 'netcalculuslaw30.OnceExact', WHERE WHAT IT READS IS OF BULK AT MOST 1048576: true; the input reads as it did. -/
def onceExactUptoRow : OpenClaim := { program := "ytbdkgpcdkalfdaagreat", sum := "de31d7fbd3e16b45d0f7814210135781a8f1343ba75b3a0f7b57a5b8fdef9746", func := "netcalculus/netcalculuslaw30.OnceExact", spec := "onceExact", unfollowed := true, recurses := true, apart := false, narrowed := true }
def OnceExactUptoSaid : Prop := onceExactUptoRow.holds Tryz.pinned (OpenSpec.upto onceExactSpec)

/-- 'netcalculuslaw30.OncePure', WHERE WHAT IT READS IS OF BULK AT MOST 1048576: true; the input reads as it did. -/
def oncePureUptoRow : OpenClaim := { program := "ytbdkgpcdkalfdaagreat", sum := "de31d7fbd3e16b45d0f7814210135781a8f1343ba75b3a0f7b57a5b8fdef9746", func := "netcalculus/netcalculuslaw30.OncePure", spec := "oncePure", unfollowed := true, recurses := true, apart := false, narrowed := true }
def OncePureUptoSaid : Prop := oncePureUptoRow.holds Tryz.pinned (OpenSpec.upto oncePureSpec)

/-- 'netcalculuslaw30.OnceRefuses', WHERE WHAT IT READS IS OF BULK AT MOST 1048576: true; the input reads as it did. -/
def onceRefusesUptoRow : OpenClaim := { program := "ytbdkgpcdkalfdaagreat", sum := "de31d7fbd3e16b45d0f7814210135781a8f1343ba75b3a0f7b57a5b8fdef9746", func := "netcalculus/netcalculuslaw30.OnceRefuses", spec := "onceRefuses", unfollowed := true, recurses := true, apart := false, narrowed := true }
def OnceRefusesUptoSaid : Prop := onceRefusesUptoRow.holds Tryz.pinned (OpenSpec.upto onceRefusesSpec)

/-- 'netcalculuslaw30.OnceHops', WHERE WHAT IT READS IS OF BULK AT MOST 1048576: true; the input reads as it did. -/
def onceHopsUptoRow : OpenClaim := { program := "ytbdkgpcdkalfdaagreat", sum := "de31d7fbd3e16b45d0f7814210135781a8f1343ba75b3a0f7b57a5b8fdef9746", func := "netcalculus/netcalculuslaw30.OnceHops", spec := "onceHops", unfollowed := true, recurses := true, apart := false, narrowed := true }
def OnceHopsUptoSaid : Prop := onceHopsUptoRow.holds Tryz.pinned (OpenSpec.upto onceHopsSpec)

/-- 'netcalculuslaw31.BestImproves', WHERE WHAT IT READS IS OF BULK AT MOST 1048576: true; the input reads as it did. -/
def bestImprovesUptoRow : OpenClaim := { program := "ytbdkgpcdkalfdaagreat", sum := "de31d7fbd3e16b45d0f7814210135781a8f1343ba75b3a0f7b57a5b8fdef9746", func := "netcalculus/netcalculuslaw31.BestImproves", spec := "bestImproves", unfollowed := true, recurses := true, apart := false, narrowed := true }
def BestImprovesUptoSaid : Prop := bestImprovesUptoRow.holds Tryz.pinned (OpenSpec.upto bestImprovesSpec)

/-- 'netcalculuslaw31.BestLeast', WHERE WHAT IT READS IS OF BULK AT MOST 1048576: true; the input reads as it did. -/
def bestLeastUptoRow : OpenClaim := { program := "ytbdkgpcdkalfdaagreat", sum := "de31d7fbd3e16b45d0f7814210135781a8f1343ba75b3a0f7b57a5b8fdef9746", func := "netcalculus/netcalculuslaw31.BestLeast", spec := "bestLeast", unfollowed := true, recurses := true, apart := false, narrowed := true }
def BestLeastUptoSaid : Prop := bestLeastUptoRow.holds Tryz.pinned (OpenSpec.upto bestLeastSpec)

/-- 'netcalculuslaw31.BestExact', WHERE WHAT IT READS IS OF BULK AT MOST 1048576: true; the input reads as it did. -/
def bestExactUptoRow : OpenClaim := { program := "ytbdkgpcdkalfdaagreat", sum := "de31d7fbd3e16b45d0f7814210135781a8f1343ba75b3a0f7b57a5b8fdef9746", func := "netcalculus/netcalculuslaw31.BestExact", spec := "bestExact", unfollowed := true, recurses := true, apart := false, narrowed := true }
def BestExactUptoSaid : Prop := bestExactUptoRow.holds Tryz.pinned (OpenSpec.upto bestExactSpec)

end Rows
end Go.Proofs.YtbdkgpcdkalfdaaGreat
