/-
  No cell of these rows narrows 'for every input' (looked for: loops, veiled, ifaces, maps, wideKeys, modest, calm, conditions, laid).
  DERIVED. THE GIVEN ROWS OF THIS SEAT. 12 by the template 'for every input the law returns true; each argument reads behind the call as it read before'; 0 by the template 'total and deterministic' (their statements: YtdkcmppdckkofaaGreatTotals.lean).
  GIVEN WITH THE SEED: the statements are not yours to turn. If you find one false, say at which input.
  Laid BY PROGRAM, IN A SANDBOX (cutbox-rows.mjs): the forced cells as the released guide's own fill.sh prints them over the translation bda7b6e802cffab3… (all of the seat's roots in one cut). By AI agents, Wed Nov 11 2026. No macro, syntax, notation, axiom, sorry.
-/
import Derived.Test.YtdkcmppdckkofaaGreatChecked
import GoSem.Claim
import GoSem.ClaimJoined
import GoSem.ClaimMapViews
import Derived.JoinedTies
import Derived.KernelRfl
namespace Go.Proofs.YtdkcmppdckkofaaGreat
/- THE CELL 'sum', in the pinned program and in every row, IS THE sha256 OF THE DUMP (.gsa) THAT YtdkcmppdckkofaaGreatProg.lean LOADS. Nothing in Lean hashes anything: it is a label: what it is worth is what the hold of that sum in a sandbox is worth. -/
noncomputable def Tryz.pinned : Pinned := { name := "ytdkcmppdckkofaagreat", sum := "bda7b6e802cffab3c5b51e24eb8566b63a6f14098fb3b97f8bf466a6f9eccd1c", checked := Tryz.checked }
namespace Rows
def none {H : Type} : Left H := { results := [], args := [] }

/-- 'netcalculuslaw28.FixpointOverload': WHATEVER THE INPUT: true; the input reads as it did. -/
def fixpointOverloadSpec : ChangeSpec := { name := "fixpointOverload", fn := fun _ => fun
  | [d1, d2] => { results := [.lit (.bool true)], args := [d1, d2] }
  | _ => none }
def fixpointOverloadRow : OpenClaim := { program := "ytdkcmppdckkofaagreat", sum := "bda7b6e802cffab3c5b51e24eb8566b63a6f14098fb3b97f8bf466a6f9eccd1c", func := "netcalculus/netcalculuslaw28.FixpointOverload", spec := "fixpointOverload", unfollowed := true, recurses := true, apart := false }
def FixpointOverloadSaid : Prop := fixpointOverloadRow.holds Tryz.pinned (OpenSpec.ofChange fixpointOverloadSpec)

/-- ITS FALSE NEIGHBOUR: 'it returns false'. Refute it at one input. -/
def fixpointOverloadWrong : ChangeSpec := { name := "fixpointOverload", fn := fun _ => fun
  | [d1, d2] => { results := [.lit (.bool false)], args := [d1, d2] }
  | _ => none }
def FixpointOverloadWrongFalsely : Prop := fixpointOverloadRow.holds Tryz.pinned (OpenSpec.ofChange fixpointOverloadWrong)

/-- 'netcalculuslaw28.FixpointLeast': WHATEVER THE INPUT: true; the input reads as it did. -/
def fixpointLeastSpec : ChangeSpec := { name := "fixpointLeast", fn := fun _ => fun
  | [d] => { results := [.lit (.bool true)], args := [d] }
  | _ => none }
def fixpointLeastRow : OpenClaim := { program := "ytdkcmppdckkofaagreat", sum := "bda7b6e802cffab3c5b51e24eb8566b63a6f14098fb3b97f8bf466a6f9eccd1c", func := "netcalculus/netcalculuslaw28.FixpointLeast", spec := "fixpointLeast", unfollowed := true, recurses := true, apart := false }
def FixpointLeastSaid : Prop := fixpointLeastRow.holds Tryz.pinned (OpenSpec.ofChange fixpointLeastSpec)

/-- ITS FALSE NEIGHBOUR: 'it returns false'. Refute it at one input. -/
def fixpointLeastWrong : ChangeSpec := { name := "fixpointLeast", fn := fun _ => fun
  | [d] => { results := [.lit (.bool false)], args := [d] }
  | _ => none }
def FixpointLeastWrongFalsely : Prop := fixpointLeastRow.holds Tryz.pinned (OpenSpec.ofChange fixpointLeastWrong)

/-- 'netcalculuslaw29.SeparatedExact': WHATEVER THE INPUT: true; the input reads as it did. -/
def separatedExactSpec : ChangeSpec := { name := "separatedExact", fn := fun _ => fun
  | [d1, d2, d3, d4, d5, d6] => { results := [.lit (.bool true)], args := [d1, d2, d3, d4, d5, d6] }
  | _ => none }
def separatedExactRow : OpenClaim := { program := "ytdkcmppdckkofaagreat", sum := "bda7b6e802cffab3c5b51e24eb8566b63a6f14098fb3b97f8bf466a6f9eccd1c", func := "netcalculus/netcalculuslaw29.SeparatedExact", spec := "separatedExact", unfollowed := true, recurses := true, apart := false }
def SeparatedExactSaid : Prop := separatedExactRow.holds Tryz.pinned (OpenSpec.ofChange separatedExactSpec)

/-- ITS FALSE NEIGHBOUR: 'it returns false'. Refute it at one input. -/
def separatedExactWrong : ChangeSpec := { name := "separatedExact", fn := fun _ => fun
  | [d1, d2, d3, d4, d5, d6] => { results := [.lit (.bool false)], args := [d1, d2, d3, d4, d5, d6] }
  | _ => none }
def SeparatedExactWrongFalsely : Prop := separatedExactRow.holds Tryz.pinned (OpenSpec.ofChange separatedExactWrong)

/-- 'netcalculuslaw29.SeparatedSums': WHATEVER THE INPUT: true; the input reads as it did. -/
def separatedSumsSpec : ChangeSpec := { name := "separatedSums", fn := fun _ => fun
  | [d1, d2] => { results := [.lit (.bool true)], args := [d1, d2] }
  | _ => none }
def separatedSumsRow : OpenClaim := { program := "ytdkcmppdckkofaagreat", sum := "bda7b6e802cffab3c5b51e24eb8566b63a6f14098fb3b97f8bf466a6f9eccd1c", func := "netcalculus/netcalculuslaw29.SeparatedSums", spec := "separatedSums", unfollowed := true, recurses := true, apart := false }
def SeparatedSumsSaid : Prop := separatedSumsRow.holds Tryz.pinned (OpenSpec.ofChange separatedSumsSpec)

/-- ITS FALSE NEIGHBOUR: 'it returns false'. Refute it at one input. -/
def separatedSumsWrong : ChangeSpec := { name := "separatedSums", fn := fun _ => fun
  | [d1, d2] => { results := [.lit (.bool false)], args := [d1, d2] }
  | _ => none }
def SeparatedSumsWrongFalsely : Prop := separatedSumsRow.holds Tryz.pinned (OpenSpec.ofChange separatedSumsWrong)

/-- 'netcalculuslaw29.SeparatedAlone': WHATEVER THE INPUT: true; the input reads as it did. -/
def separatedAloneSpec : ChangeSpec := { name := "separatedAlone", fn := fun _ => fun
  | [d1, d2] => { results := [.lit (.bool true)], args := [d1, d2] }
  | _ => none }
def separatedAloneRow : OpenClaim := { program := "ytdkcmppdckkofaagreat", sum := "bda7b6e802cffab3c5b51e24eb8566b63a6f14098fb3b97f8bf466a6f9eccd1c", func := "netcalculus/netcalculuslaw29.SeparatedAlone", spec := "separatedAlone", unfollowed := true, recurses := true, apart := false }
def SeparatedAloneSaid : Prop := separatedAloneRow.holds Tryz.pinned (OpenSpec.ofChange separatedAloneSpec)

/-- ITS FALSE NEIGHBOUR: 'it returns false'. Refute it at one input. -/
def separatedAloneWrong : ChangeSpec := { name := "separatedAlone", fn := fun _ => fun
  | [d1, d2] => { results := [.lit (.bool false)], args := [d1, d2] }
  | _ => none }
def SeparatedAloneWrongFalsely : Prop := separatedAloneRow.holds Tryz.pinned (OpenSpec.ofChange separatedAloneWrong)

/-- 'netcalculuslaw28.FixpointExact': WHATEVER THE INPUT: true; the input reads as it did. -/
def fixpointExactSpec : ChangeSpec := { name := "fixpointExact", fn := fun _ => fun
  | [d1, d2, d3, d4] => { results := [.lit (.bool true)], args := [d1, d2, d3, d4] }
  | _ => none }
def fixpointExactRow : OpenClaim := { program := "ytdkcmppdckkofaagreat", sum := "bda7b6e802cffab3c5b51e24eb8566b63a6f14098fb3b97f8bf466a6f9eccd1c", func := "netcalculus/netcalculuslaw28.FixpointExact", spec := "fixpointExact", unfollowed := true, recurses := true, apart := false }
def FixpointExactSaid : Prop := fixpointExactRow.holds Tryz.pinned (OpenSpec.ofChange fixpointExactSpec)

/-- ITS FALSE NEIGHBOUR: 'it returns false'. Refute it at one input. -/
def fixpointExactWrong : ChangeSpec := { name := "fixpointExact", fn := fun _ => fun
  | [d1, d2, d3, d4] => { results := [.lit (.bool false)], args := [d1, d2, d3, d4] }
  | _ => none }
def FixpointExactWrongFalsely : Prop := fixpointExactRow.holds Tryz.pinned (OpenSpec.ofChange fixpointExactWrong)

/-- 'netcalculuslaw28.FixpointBelow': WHATEVER THE INPUT: true; the input reads as it did. -/
def fixpointBelowSpec : ChangeSpec := { name := "fixpointBelow", fn := fun _ => fun
  | [d1, d2] => { results := [.lit (.bool true)], args := [d1, d2] }
  | _ => none }
def fixpointBelowRow : OpenClaim := { program := "ytdkcmppdckkofaagreat", sum := "bda7b6e802cffab3c5b51e24eb8566b63a6f14098fb3b97f8bf466a6f9eccd1c", func := "netcalculus/netcalculuslaw28.FixpointBelow", spec := "fixpointBelow", unfollowed := true, recurses := true, apart := false }
def FixpointBelowSaid : Prop := fixpointBelowRow.holds Tryz.pinned (OpenSpec.ofChange fixpointBelowSpec)

/-- ITS FALSE NEIGHBOUR: 'it returns false'. Refute it at one input. -/
def fixpointBelowWrong : ChangeSpec := { name := "fixpointBelow", fn := fun _ => fun
  | [d1, d2] => { results := [.lit (.bool false)], args := [d1, d2] }
  | _ => none }
def FixpointBelowWrongFalsely : Prop := fixpointBelowRow.holds Tryz.pinned (OpenSpec.ofChange fixpointBelowWrong)

/-- 'netcalculuslaw27.HopEnds': WHATEVER THE INPUT: true; the input reads as it did. -/
def hopEndsSpec : ChangeSpec := { name := "hopEnds", fn := fun _ => fun
  | [d1, d2, d3] => { results := [.lit (.bool true)], args := [d1, d2, d3] }
  | _ => none }
def hopEndsRow : OpenClaim := { program := "ytdkcmppdckkofaagreat", sum := "bda7b6e802cffab3c5b51e24eb8566b63a6f14098fb3b97f8bf466a6f9eccd1c", func := "netcalculus/netcalculuslaw27.HopEnds", spec := "hopEnds", unfollowed := true, recurses := true, apart := false }
def HopEndsSaid : Prop := hopEndsRow.holds Tryz.pinned (OpenSpec.ofChange hopEndsSpec)

/-- ITS FALSE NEIGHBOUR: 'it returns false'. Refute it at one input. -/
def hopEndsWrong : ChangeSpec := { name := "hopEnds", fn := fun _ => fun
  | [d1, d2, d3] => { results := [.lit (.bool false)], args := [d1, d2, d3] }
  | _ => none }
def HopEndsWrongFalsely : Prop := hopEndsRow.holds Tryz.pinned (OpenSpec.ofChange hopEndsWrong)

/-- 'netcalculuslaw27.HopCertain': WHATEVER THE INPUT: true; the input reads as it did. -/
def hopCertainSpec : ChangeSpec := { name := "hopCertain", fn := fun _ => fun
  | [d] => { results := [.lit (.bool true)], args := [d] }
  | _ => none }
def hopCertainRow : OpenClaim := { program := "ytdkcmppdckkofaagreat", sum := "bda7b6e802cffab3c5b51e24eb8566b63a6f14098fb3b97f8bf466a6f9eccd1c", func := "netcalculus/netcalculuslaw27.HopCertain", spec := "hopCertain", unfollowed := true, recurses := true, apart := false }
def HopCertainSaid : Prop := hopCertainRow.holds Tryz.pinned (OpenSpec.ofChange hopCertainSpec)

/-- ITS FALSE NEIGHBOUR: 'it returns false'. Refute it at one input. -/
def hopCertainWrong : ChangeSpec := { name := "hopCertain", fn := fun _ => fun
  | [d] => { results := [.lit (.bool false)], args := [d] }
  | _ => none }
def HopCertainWrongFalsely : Prop := hopCertainRow.holds Tryz.pinned (OpenSpec.ofChange hopCertainWrong)

/-- 'netcalculuslaw27.HopExact': WHATEVER THE INPUT: true; the input reads as it did. -/
def hopExactSpec : ChangeSpec := { name := "hopExact", fn := fun _ => fun
  | [d1, d2, d3, d4, d5, d6] => { results := [.lit (.bool true)], args := [d1, d2, d3, d4, d5, d6] }
  | _ => none }
def hopExactRow : OpenClaim := { program := "ytdkcmppdckkofaagreat", sum := "bda7b6e802cffab3c5b51e24eb8566b63a6f14098fb3b97f8bf466a6f9eccd1c", func := "netcalculus/netcalculuslaw27.HopExact", spec := "hopExact", unfollowed := true, recurses := true, apart := false }
def HopExactSaid : Prop := hopExactRow.holds Tryz.pinned (OpenSpec.ofChange hopExactSpec)

/-- ITS FALSE NEIGHBOUR: 'it returns false'. Refute it at one input. -/
def hopExactWrong : ChangeSpec := { name := "hopExact", fn := fun _ => fun
  | [d1, d2, d3, d4, d5, d6] => { results := [.lit (.bool false)], args := [d1, d2, d3, d4, d5, d6] }
  | _ => none }
def HopExactWrongFalsely : Prop := hopExactRow.holds Tryz.pinned (OpenSpec.ofChange hopExactWrong)

/-- 'netcalculuslaw27.HopMonotone': WHATEVER THE INPUT: true; the input reads as it did. -/
def hopMonotoneSpec : ChangeSpec := { name := "hopMonotone", fn := fun _ => fun
  | [d1, d2] => { results := [.lit (.bool true)], args := [d1, d2] }
  | _ => none }
def hopMonotoneRow : OpenClaim := { program := "ytdkcmppdckkofaagreat", sum := "bda7b6e802cffab3c5b51e24eb8566b63a6f14098fb3b97f8bf466a6f9eccd1c", func := "netcalculus/netcalculuslaw27.HopMonotone", spec := "hopMonotone", unfollowed := true, recurses := true, apart := false }
def HopMonotoneSaid : Prop := hopMonotoneRow.holds Tryz.pinned (OpenSpec.ofChange hopMonotoneSpec)

/-- ITS FALSE NEIGHBOUR: 'it returns false'. Refute it at one input. -/
def hopMonotoneWrong : ChangeSpec := { name := "hopMonotone", fn := fun _ => fun
  | [d1, d2] => { results := [.lit (.bool false)], args := [d1, d2] }
  | _ => none }
def HopMonotoneWrongFalsely : Prop := hopMonotoneRow.holds Tryz.pinned (OpenSpec.ofChange hopMonotoneWrong)

/-- 'netcalculuslaw27.HopForward': WHATEVER THE INPUT: true; the input reads as it did. -/
def hopForwardSpec : ChangeSpec := { name := "hopForward", fn := fun _ => fun
  | [d] => { results := [.lit (.bool true)], args := [d] }
  | _ => none }
def hopForwardRow : OpenClaim := { program := "ytdkcmppdckkofaagreat", sum := "bda7b6e802cffab3c5b51e24eb8566b63a6f14098fb3b97f8bf466a6f9eccd1c", func := "netcalculus/netcalculuslaw27.HopForward", spec := "hopForward", unfollowed := true, recurses := true, apart := false }
def HopForwardSaid : Prop := hopForwardRow.holds Tryz.pinned (OpenSpec.ofChange hopForwardSpec)

/-- ITS FALSE NEIGHBOUR: 'it returns false'. Refute it at one input. -/
def hopForwardWrong : ChangeSpec := { name := "hopForward", fn := fun _ => fun
  | [d] => { results := [.lit (.bool false)], args := [d] }
  | _ => none }
def HopForwardWrongFalsely : Prop := hopForwardRow.holds Tryz.pinned (OpenSpec.ofChange hopForwardWrong)

/- THE SECOND FORM. 'bulk': how many values and letters a reading holds, each counted each time it is reached (what is shared counts as often as it is met; a slice's spare places count too). A statement '..UptoSaid' is the law's where the arguments, and the package variables that the reading takes, are together of bulk at most 1048576: NARROWER than '..Said'. Prove '..Said' where nothing that the law and all that it calls make is longer than what came in: it says more and counts as full. Else prove '..UptoSaid'. A law counts once. -/
mutual
def uptoBulk {H : Type} : DataW H → Nat
  | .lit (.string bytes) => bytes.length + 1
  | .lit _ => 1
  | .nil => 1
  | .ptr d => uptoBulk d + 1
  | .slice elems spare => uptoBulkAll elems + uptoBulkAll spare + 1
  | .agg parts => uptoBulkAll parts + 1
  | .iface _ d => uptoBulk d + 1
  | .map entries => uptoBulkEntries entries + 1
  | .held _ => 1
def uptoBulkAll {H : Type} : List (DataW H) → Nat
  | [] => 0
  | d :: r => uptoBulk d + uptoBulkAll r
def uptoBulkEntries {H : Type} : List (Lit × DataW H) → Nat
  | [] => 0
  | x :: r => uptoBulkEntry x + uptoBulkEntries r
def uptoBulkEntry {H : Type} : Lit × DataW H → Nat
  | (.string bytes, d) => bytes.length + uptoBulk d + 1
  | (_, d) => uptoBulk d + 1
 end
def uptoSmall : (H : Type) → List (DataW H) → Bool := fun _ ds => decide (uptoBulkAll ds ≤ 1048576)
def OpenSpec.upto (s : _root_.Go.ChangeSpec) : _root_.Go.OpenSpec := { _root_.Go.OpenSpec.ofChange s with cond := some uptoSmall }

/-- 'netcalculuslaw28.FixpointOverload', WHERE WHAT IT READS IS OF BULK AT MOST 1048576: true; the input reads as it did. -/
def fixpointOverloadUptoRow : OpenClaim := { program := "ytdkcmppdckkofaagreat", sum := "bda7b6e802cffab3c5b51e24eb8566b63a6f14098fb3b97f8bf466a6f9eccd1c", func := "netcalculus/netcalculuslaw28.FixpointOverload", spec := "fixpointOverload", unfollowed := true, recurses := true, apart := false, narrowed := true }
def FixpointOverloadUptoSaid : Prop := fixpointOverloadUptoRow.holds Tryz.pinned (OpenSpec.upto fixpointOverloadSpec)

/-- 'netcalculuslaw28.FixpointLeast', WHERE WHAT IT READS IS OF BULK AT MOST 1048576: true; the input reads as it did. -/
def fixpointLeastUptoRow : OpenClaim := { program := "ytdkcmppdckkofaagreat", sum := "bda7b6e802cffab3c5b51e24eb8566b63a6f14098fb3b97f8bf466a6f9eccd1c", func := "netcalculus/netcalculuslaw28.FixpointLeast", spec := "fixpointLeast", unfollowed := true, recurses := true, apart := false, narrowed := true }
def FixpointLeastUptoSaid : Prop := fixpointLeastUptoRow.holds Tryz.pinned (OpenSpec.upto fixpointLeastSpec)

/-- 'netcalculuslaw29.SeparatedExact', WHERE WHAT IT READS IS OF BULK AT MOST 1048576: true; the input reads as it did. -/
def separatedExactUptoRow : OpenClaim := { program := "ytdkcmppdckkofaagreat", sum := "bda7b6e802cffab3c5b51e24eb8566b63a6f14098fb3b97f8bf466a6f9eccd1c", func := "netcalculus/netcalculuslaw29.SeparatedExact", spec := "separatedExact", unfollowed := true, recurses := true, apart := false, narrowed := true }
def SeparatedExactUptoSaid : Prop := separatedExactUptoRow.holds Tryz.pinned (OpenSpec.upto separatedExactSpec)

/-- 'netcalculuslaw29.SeparatedSums', WHERE WHAT IT READS IS OF BULK AT MOST 1048576: true; the input reads as it did. -/
def separatedSumsUptoRow : OpenClaim := { program := "ytdkcmppdckkofaagreat", sum := "bda7b6e802cffab3c5b51e24eb8566b63a6f14098fb3b97f8bf466a6f9eccd1c", func := "netcalculus/netcalculuslaw29.SeparatedSums", spec := "separatedSums", unfollowed := true, recurses := true, apart := false, narrowed := true }
def SeparatedSumsUptoSaid : Prop := separatedSumsUptoRow.holds Tryz.pinned (OpenSpec.upto separatedSumsSpec)

/-- 'netcalculuslaw29.SeparatedAlone', WHERE WHAT IT READS IS OF BULK AT MOST 1048576: true; the input reads as it did. -/
def separatedAloneUptoRow : OpenClaim := { program := "ytdkcmppdckkofaagreat", sum := "bda7b6e802cffab3c5b51e24eb8566b63a6f14098fb3b97f8bf466a6f9eccd1c", func := "netcalculus/netcalculuslaw29.SeparatedAlone", spec := "separatedAlone", unfollowed := true, recurses := true, apart := false, narrowed := true }
def SeparatedAloneUptoSaid : Prop := separatedAloneUptoRow.holds Tryz.pinned (OpenSpec.upto separatedAloneSpec)

/-- 'netcalculuslaw28.FixpointExact', WHERE WHAT IT READS IS OF BULK AT MOST 1048576: true; the input reads as it did. -/
def fixpointExactUptoRow : OpenClaim := { program := "ytdkcmppdckkofaagreat", sum := "bda7b6e802cffab3c5b51e24eb8566b63a6f14098fb3b97f8bf466a6f9eccd1c", func := "netcalculus/netcalculuslaw28.FixpointExact", spec := "fixpointExact", unfollowed := true, recurses := true, apart := false, narrowed := true }
def FixpointExactUptoSaid : Prop := fixpointExactUptoRow.holds Tryz.pinned (OpenSpec.upto fixpointExactSpec)

/-- 'netcalculuslaw28.FixpointBelow', WHERE WHAT IT READS IS OF BULK AT MOST 1048576: true; the input reads as it did. -/
def fixpointBelowUptoRow : OpenClaim := { program := "ytdkcmppdckkofaagreat", sum := "bda7b6e802cffab3c5b51e24eb8566b63a6f14098fb3b97f8bf466a6f9eccd1c", func := "netcalculus/netcalculuslaw28.FixpointBelow", spec := "fixpointBelow", unfollowed := true, recurses := true, apart := false, narrowed := true }
def FixpointBelowUptoSaid : Prop := fixpointBelowUptoRow.holds Tryz.pinned (OpenSpec.upto fixpointBelowSpec)

/-- 'netcalculuslaw27.HopEnds', WHERE WHAT IT READS IS OF BULK AT MOST 1048576: true; the input reads as it did. -/
def hopEndsUptoRow : OpenClaim := { program := "ytdkcmppdckkofaagreat", sum := "bda7b6e802cffab3c5b51e24eb8566b63a6f14098fb3b97f8bf466a6f9eccd1c", func := "netcalculus/netcalculuslaw27.HopEnds", spec := "hopEnds", unfollowed := true, recurses := true, apart := false, narrowed := true }
def HopEndsUptoSaid : Prop := hopEndsUptoRow.holds Tryz.pinned (OpenSpec.upto hopEndsSpec)

/-- 'netcalculuslaw27.HopCertain', WHERE WHAT IT READS IS OF BULK AT MOST 1048576: true; the input reads as it did. -/
def hopCertainUptoRow : OpenClaim := { program := "ytdkcmppdckkofaagreat", sum := "bda7b6e802cffab3c5b51e24eb8566b63a6f14098fb3b97f8bf466a6f9eccd1c", func := "netcalculus/netcalculuslaw27.HopCertain", spec := "hopCertain", unfollowed := true, recurses := true, apart := false, narrowed := true }
def HopCertainUptoSaid : Prop := hopCertainUptoRow.holds Tryz.pinned (OpenSpec.upto hopCertainSpec)

/-- 'netcalculuslaw27.HopExact', WHERE WHAT IT READS IS OF BULK AT MOST 1048576: true; the input reads as it did. -/
def hopExactUptoRow : OpenClaim := { program := "ytdkcmppdckkofaagreat", sum := "bda7b6e802cffab3c5b51e24eb8566b63a6f14098fb3b97f8bf466a6f9eccd1c", func := "netcalculus/netcalculuslaw27.HopExact", spec := "hopExact", unfollowed := true, recurses := true, apart := false, narrowed := true }
def HopExactUptoSaid : Prop := hopExactUptoRow.holds Tryz.pinned (OpenSpec.upto hopExactSpec)

/-- 'netcalculuslaw27.HopMonotone', WHERE WHAT IT READS IS OF BULK AT MOST 1048576: true; the input reads as it did. -/
def hopMonotoneUptoRow : OpenClaim := { program := "ytdkcmppdckkofaagreat", sum := "bda7b6e802cffab3c5b51e24eb8566b63a6f14098fb3b97f8bf466a6f9eccd1c", func := "netcalculus/netcalculuslaw27.HopMonotone", spec := "hopMonotone", unfollowed := true, recurses := true, apart := false, narrowed := true }
def HopMonotoneUptoSaid : Prop := hopMonotoneUptoRow.holds Tryz.pinned (OpenSpec.upto hopMonotoneSpec)

/-- 'netcalculuslaw27.HopForward', WHERE WHAT IT READS IS OF BULK AT MOST 1048576: true; the input reads as it did. -/
def hopForwardUptoRow : OpenClaim := { program := "ytdkcmppdckkofaagreat", sum := "bda7b6e802cffab3c5b51e24eb8566b63a6f14098fb3b97f8bf466a6f9eccd1c", func := "netcalculus/netcalculuslaw27.HopForward", spec := "hopForward", unfollowed := true, recurses := true, apart := false, narrowed := true }
def HopForwardUptoSaid : Prop := hopForwardUptoRow.holds Tryz.pinned (OpenSpec.upto hopForwardSpec)

end Rows
end Go.Proofs.YtdkcmppdckkofaaGreat
