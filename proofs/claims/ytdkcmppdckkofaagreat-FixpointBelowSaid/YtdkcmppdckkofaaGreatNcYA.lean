/- Merged: Y1, Y2. -/
import Derived.Test.YtdkcmppdckkofaaGreatNcY0
namespace Go.Nc
open Go.Proofs
def nOne:Net:=⟨[⟨#[97]⟩],[⟨1,10,1,[],[]⟩],[⟨⟨#[102]⟩,[0],0,1,100,⟨[0,100],1,1⟩⟩]⟩
theorem C0:CallSpec Tryz.prog 78 [nOne.av] [] (.int .i64 0) []:=cg [] trivial (n:=500) (fz:=[]) (by kernel_rfl)
noncomputable def k1:List (Nat × List AV × AV):=[(78,[nOne.av],.int .i64 0)]
theorem AJ:tB Tryz.prog k1:=⟨C0,trivial⟩
theorem wM:CallSpec Tryz.prog 120 [nOne.av,aq [[0]]] [] (.bool true) []:=cg k1 AJ (n:=500) (fz:=[]) (by kernel_rfl)
theorem wN:CallSpec Tryz.prog 120 [nOne.av,aq [[9]]] [] (.bool true) []:=cg k1 AJ (n:=500) (fz:=[]) (by kernel_rfl)
theorem AK:CallSpec Tryz.prog 70 [nOne.av] [] (aq [[0]]) []:=cg k1 AJ (n:=500) (fz:=[5,3]) (by kernel_rfl)
noncomputable def k2:List (Nat × List AV × AV):=(120,[nOne.av,aq [[0]]],.bool true) :: (120,[nOne.av,aq [[9]]],.bool true) :: (70,[nOne.av],aq [[0]]) :: k1
theorem k2_ok:tB Tryz.prog k2:=⟨wM,wN,AK,AJ⟩
end Go.Nc
namespace Go.Nc
open Go.Proofs
noncomputable def k3:List (Nat × List AV × AV):=(119,[],nOne.av) :: (61,[nOne.av,aq [[0]],.int .i64 0,.int .i64 0],.tup [.int .i64 9,.int .i64 0]) :: (62,[nOne.av,aq [[9]],.int .i64 0,.int .i64 0],.tup [.int .i64 108,.int .i64 0]) ::
 (59,[nOne.av,aq [[9]],.int .i64 0],.tup [.int .i64 9,.bool true]) :: (69,[nOne.av],.tup [aq [[9]],.int .i64 0]) :: k2
end Go.Nc
