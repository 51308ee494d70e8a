/-
  No cell of these rows narrows 'for every input' (looked for: loops, veiled, ifaces, maps, wideKeys, modest, calm, conditions, laid).
  DERIVED. THE GIVEN ROWS OF THIS SEAT. 2 by the template 'for every input the law returns true; each argument reads behind the call as it read before'; 0 by the template 'total and deterministic' (their statements: YtooapceogfengaaGreatTotals.lean).
  GIVEN WITH THE SEED: the statements are not yours to turn. If you find one false, say at which input.
  Laid BY PROGRAM, IN A SANDBOX (cutbox-rows.mjs): the forced cells as the released guide's own fill.sh prints them over the translation b570be79b65be33f… (all of the seat's roots in one cut). By AI agents, Wed Nov 11 2026. No macro, syntax, notation, axiom, sorry.
-/
import Derived.Test.YtooapceogfengaaGreatChecked
import GoSem.Claim
import GoSem.ClaimJoined
import GoSem.ClaimMapViews
import Derived.JoinedTies
import Derived.KernelRfl
namespace Go.Proofs.YtooapceogfengaaGreat
/- THE CELL 'sum', in the pinned program and in every row, IS THE sha256 OF THE DUMP (.gsa) THAT YtooapceogfengaaGreatProg.lean LOADS. Nothing in Lean hashes anything: it is a label: what it is worth is what the hold of that sum in a sandbox is worth. -/
noncomputable def Tryz.pinned : Pinned := { name := "ytooapceogfengaagreat", sum := "b570be79b65be33f697863aa5e6d7dc16c44bd3419464cb5177f3098a31b622c", checked := Tryz.checked }
namespace Rows
def none {H : Type} : Left H := { results := [], args := [] }

/-- 'netcalculuslaw38.CertificateMade': WHATEVER THE INPUT: true; the input reads as it did. -/
def certificateMadeSpec : ChangeSpec := { name := "certificateMade", fn := fun _ => fun
  | [d1, d2] => { results := [.lit (.bool true)], args := [d1, d2] }
  | _ => none }
def certificateMadeRow : OpenClaim := { program := "ytooapceogfengaagreat", sum := "b570be79b65be33f697863aa5e6d7dc16c44bd3419464cb5177f3098a31b622c", func := "netcalculus/netcalculuslaw38.CertificateMade", spec := "certificateMade", unfollowed := true, recurses := true, apart := false }
def CertificateMadeSaid : Prop := certificateMadeRow.holds Tryz.pinned (OpenSpec.ofChange certificateMadeSpec)

/-- ITS FALSE NEIGHBOUR: 'it returns false'. Refute it at one input. -/
def certificateMadeWrong : ChangeSpec := { name := "certificateMade", fn := fun _ => fun
  | [d1, d2] => { results := [.lit (.bool false)], args := [d1, d2] }
  | _ => none }
def CertificateMadeWrongFalsely : Prop := certificateMadeRow.holds Tryz.pinned (OpenSpec.ofChange certificateMadeWrong)

/-- 'netcalculuslaw38.CertificateWeaker': WHATEVER THE INPUT: true; the input reads as it did. -/
def certificateWeakerSpec : ChangeSpec := { name := "certificateWeaker", fn := fun _ => fun
  | [d1, d2] => { results := [.lit (.bool true)], args := [d1, d2] }
  | _ => none }
def certificateWeakerRow : OpenClaim := { program := "ytooapceogfengaagreat", sum := "b570be79b65be33f697863aa5e6d7dc16c44bd3419464cb5177f3098a31b622c", func := "netcalculus/netcalculuslaw38.CertificateWeaker", spec := "certificateWeaker", unfollowed := true, recurses := true, apart := false }
def CertificateWeakerSaid : Prop := certificateWeakerRow.holds Tryz.pinned (OpenSpec.ofChange certificateWeakerSpec)

/-- ITS FALSE NEIGHBOUR: 'it returns false'. Refute it at one input. -/
def certificateWeakerWrong : ChangeSpec := { name := "certificateWeaker", fn := fun _ => fun
  | [d1, d2] => { results := [.lit (.bool false)], args := [d1, d2] }
  | _ => none }
def CertificateWeakerWrongFalsely : Prop := certificateWeakerRow.holds Tryz.pinned (OpenSpec.ofChange certificateWeakerWrong)

/- THE SECOND FORM. 'bulk': how many values and letters a reading holds, each counted each time it is reached (what is shared counts as often as it is met; a slice's spare places count too). A statement '..UptoSaid' is the law's where the arguments, and the package variables that the reading takes, are together of bulk at most 1048576: NARROWER than '..Said'. Prove '..Said' where nothing that the law and all that it calls make is longer than what came in: it says more and counts as full. Else prove '..UptoSaid'. A law counts once. -/
mutual
def uptoBulk {H : Type} : DataW H → Nat
  | .lit (.string bytes) => bytes.length + 1
  | .lit _ => 1
  | .nil => 1
  | .ptr d => uptoBulk d + 1
  | .slice elems spare => uptoBulkAll elems + uptoBulkAll spare + 1
  | .agg parts => uptoBulkAll parts + 1
  | .iface _ d => uptoBulk d + 1
  | .map entries => uptoBulkEntries entries + 1
  | .held _ => 1
def uptoBulkAll {H : Type} : List (DataW H) → Nat
  | [] => 0
  | d :: r => uptoBulk d + uptoBulkAll r
def uptoBulkEntries {H : Type} : List (Lit × DataW H) → Nat
  | [] => 0
  | x :: r => uptoBulkEntry x + uptoBulkEntries r
def uptoBulkEntry {H : Type} : Lit × DataW H → Nat
  | (.string bytes, d) => bytes.length + uptoBulk d + 1
  | (_, d) => uptoBulk d + 1
 end
def uptoSmall : (H : Type) → List (DataW H) → Bool := fun _ ds => decide (uptoBulkAll ds ≤ 1048576)
def OpenSpec.upto (s : _root_.Go.ChangeSpec) : _root_.Go.OpenSpec := { _root_.Go.OpenSpec.ofChange s with cond := some uptoSmall }

/-- 'netcalculuslaw38.CertificateMade', WHERE WHAT IT READS IS OF BULK AT MOST 1048576: true; the input reads as it did. -/
def certificateMadeUptoRow : OpenClaim := { program := "ytooapceogfengaagreat", sum := "b570be79b65be33f697863aa5e6d7dc16c44bd3419464cb5177f3098a31b622c", func := "netcalculus/netcalculuslaw38.CertificateMade", spec := "certificateMade", unfollowed := true, recurses := true, apart := false, narrowed := true }
def CertificateMadeUptoSaid : Prop := certificateMadeUptoRow.holds Tryz.pinned (OpenSpec.upto certificateMadeSpec)

/-- 'netcalculuslaw38.CertificateWeaker', WHERE WHAT IT READS IS OF BULK AT MOST 1048576: true; the input reads as it did. -/
def certificateWeakerUptoRow : OpenClaim := { program := "ytooapceogfengaagreat", sum := "b570be79b65be33f697863aa5e6d7dc16c44bd3419464cb5177f3098a31b622c", func := "netcalculus/netcalculuslaw38.CertificateWeaker", spec := "certificateWeaker", unfollowed := true, recurses := true, apart := false, narrowed := true }
def CertificateWeakerUptoSaid : Prop := certificateWeakerUptoRow.holds Tryz.pinned (OpenSpec.upto certificateWeakerSpec)

end Rows
end Go.Proofs.YtooapceogfengaaGreat
