/- Merged: J21, O1. -/
import Derived.Test.YtnnpilpjbjbafaaGreatNcJB
import Derived.Test.YtnnpilpjbjbafaaGreatNcJC
namespace Go.Nc
open Go.Proofs
def DelLe (d e:List (List Int)):Prop:=∀ i j:Nat,((d.getD i []).getD j 0 < 0/\(e.getD i []).getD j 0 < 0) \/ (0 <= (d.getD i []).getD j 0/\(d.getD i []).getD j 0 <= (e.getD i []).getD j 0)
def rate12 (n:Net) (j:Int):Int:=(n.flows.getD j.toNat default).con.inc * (12 / (n.flows.getD j.toNat default).con.per)
structure OvNet (n:Net):Prop where
 net:NetOk n
 kind:∀ l ∈ n.lines,l.kind = 1
 one:∀ l ∈ n.lines,l.classes = 1
 cls:∀ f ∈ n.flows,f.class_ = 0
 per:∀ f ∈ n.flows,∃ m:Nat,(m:Int) * f.con.per = 12
 inc:∀ f ∈ n.flows,0 <= f.con.inc/\f.con.inc <= 3
 flen:n.flows.length <= 4
theorem bI (c:Int) (_:0 <= c) (t:Nat):(aq c).at t = c * t:=by
 have hl:(aq c).vals.length = 1:=rfl
 have hp:(aq c).per = 1:=rfl
 have hi:(aq c).inc = c:=rfl
 have h0:∀ i:Nat,(aq c).vals.getD i 0 = 0:=fun i=>by
  cases i with
  | zero=>rfl
  | succ i=>rfl
 unfold Curve.at
 rw [hl,hp,hi,h0,h0]
 split
 ·rename_i h
  obtain rfl:t = 0:=ω
  simp
 ·rename_i h
  rw [if_neg (by unfold inf;omega),Int.tdiv_one]
  rw [Int.zero_add,Int.mul_comm]
  congr 1
  omega
end Go.Nc
