/- Parts. -/
import Derived.Test.YtooapceogfengaaGreatNdJC
namespace Go.Nc
open Go.Proofs
theorem cO(c:Int)(_:0<=c)(t:Nat):(ax c).at t=c*t:=by
 have b:(ax c).vals.length=1:=rfl;have d:(ax c).per=1:=rfl;have a:(ax c).inc=c:=rfl;have H:∀i:Nat,(ax c).vals.getD i 0=0:=λi=>by
  cases i with
  |zero=>rfl
  |succ i=>rfl
 unfold Curve.at;rw[b,d,a,H,H];split
 .rename_i h;obtain rfl:t=0:=Z;simp
 .rename_i h;rw[if_neg (by unfold cx;omega),Int.tdiv_one];rw[Int.zero_add,Int.mul_comm];congr 1;omega
end Go.Nc