/- Parts. -/
import Derived.Test.YtbdkgpcdkalfdaaGreatNcJC
namespace Go.Nc
open Go.Proofs
theorem bW(c:Int)(_:0<=c)(t:Nat):(ao c).at t=c*t:=by
 have hl:(ao c).vals.length=1:=rfl;have hp:(ao c).per=1:=rfl;have hi:(ao c).inc=c:=rfl;have h0:∀i:Nat,(ao c).vals.getD i 0=0:=λi=>by
  cases i with
  |zero=>rfl
  |succ i=>rfl
 unfold Curve.at;rw[hl,hp,hi,h0,h0];split
 ·rename_i h;obtain rfl:t=0:=ω;simp
 ·rename_i h;rw[if_neg (by unfold inf;omega),Int.tdiv_one];rw[Int.zero_add,Int.mul_comm];congr 1;omega
end Go.Nc