/- Merged: J21, O1. -/
import Derived.Test.YtbdkgpcdkalfdaaGreatNcJB
import Derived.Test.YtbdkgpcdkalfdaaGreatNcJC
namespace Go.Nc
open Go.Proofs
theorem cB (c:Int) (_:0 <= c) (t:Nat):(aq c).at t = c * t:=by
 have hl:(aq c).vals.length = 1:=rfl
 have hp:(aq c).per = 1:=rfl
 have hi:(aq c).inc = c:=rfl
 have h0:∀ i:Nat,(aq c).vals.getD i 0 = 0:=fun i=>by
  cases i with
  | zero=>rfl
  | succ i=>rfl
 unfold Curve.at
 rw [hl,hp,hi,h0,h0]
 split
 ·rename_i h
  obtain rfl:t = 0:=ω
  simp
 ·rename_i h
  rw [if_neg (by unfold inf;omega),Int.tdiv_one]
  rw [Int.zero_add,Int.mul_comm]
  congr 1
  omega
end Go.Nc