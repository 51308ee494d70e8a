/- Merged: Y1, Y2. -/
import Derived.Test.YtdkcmppdckkofaaGreatNcY0
namespace Go.Nc
open Go.Proofs
def nOne:Net:=⟨[⟨#[97]⟩],[⟨1,10,1,[],[]⟩],[⟨⟨#[102]⟩,[0],0,1,100,⟨[0,100],1,1⟩⟩]⟩
theorem C6:CallSpec Tryz.prog 78 [nOne.av] [] (.int .i64 0) []:=ce [] trivial (n:=500) (fz:=[]) (by kernel_rfl)
noncomputable def k1:List (Nat × List AV × AV):=[(78,[nOne.av],.int .i64 0)]
theorem AN:t5 Tryz.prog k1:=⟨C6,trivial⟩
theorem wM:CallSpec Tryz.prog 120 [nOne.av,ar [[0]]] [] (.bool true) []:=ce k1 AN (n:=500) (fz:=[]) (by kernel_rfl)
theorem wN:CallSpec Tryz.prog 120 [nOne.av,ar [[9]]] [] (.bool true) []:=ce k1 AN (n:=500) (fz:=[]) (by kernel_rfl)
theorem AO:CallSpec Tryz.prog 70 [nOne.av] [] (ar [[0]]) []:=ce k1 AN (n:=500) (fz:=[5,3]) (by kernel_rfl)
noncomputable def k2:List (Nat × List AV × AV):=(120,[nOne.av,ar [[0]]],.bool true) :: (120,[nOne.av,ar [[9]]],.bool true) :: (70,[nOne.av],ar [[0]]) :: k1
theorem k2_ok:t5 Tryz.prog k2:=⟨wM,wN,AO,AN⟩
end Go.Nc
namespace Go.Nc
open Go.Proofs
noncomputable def k3:List (Nat × List AV × AV):=(119,[],nOne.av) :: (61,[nOne.av,ar [[0]],.int .i64 0,.int .i64 0],.tup [.int .i64 9,.int .i64 0]) :: (62,[nOne.av,ar [[9]],.int .i64 0,.int .i64 0],.tup [.int .i64 108,.int .i64 0]) ::
 (59,[nOne.av,ar [[9]],.int .i64 0],.tup [.int .i64 9,.bool true]) :: (69,[nOne.av],.tup [ar [[9]],.int .i64 0]) :: k2
end Go.Nc
