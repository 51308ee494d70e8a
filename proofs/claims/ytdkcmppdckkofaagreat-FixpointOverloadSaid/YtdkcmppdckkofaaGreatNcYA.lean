/- Merged: Y1, Y2. -/
import Derived.Test.YtdkcmppdckkofaaGreatNcY0
namespace Go.Nc
open Go.Proofs
def nOne:Net:=⟨[⟨#[97]⟩],[⟨1,10,1,[],[]⟩],[⟨⟨#[102]⟩,[0],0,1,100,⟨[0,100],1,1⟩⟩]⟩
theorem xQ:CallSpec Tryz.prog 78 [nOne.av] [] (.int .i64 0) []:=bG [] trivial (n:=500) (fz:=[]) (by kernel_rfl)
noncomputable def k1:List (Nat × List AV × AV):=[(78,[nOne.av],.int .i64 0)]
theorem wh:qk Tryz.prog k1:=⟨xQ,trivial⟩
theorem sP:CallSpec Tryz.prog 120 [nOne.av,a7 [[0]]] [] (.bool true) []:=bG k1 wh (n:=500) (fz:=[]) (by kernel_rfl)
theorem sQ:CallSpec Tryz.prog 120 [nOne.av,a7 [[9]]] [] (.bool true) []:=bG k1 wh (n:=500) (fz:=[]) (by kernel_rfl)
theorem wi:CallSpec Tryz.prog 70 [nOne.av] [] (a7 [[0]]) []:=bG k1 wh (n:=500) (fz:=[5,3]) (by kernel_rfl)
noncomputable def k2:List (Nat × List AV × AV):=(120,[nOne.av,a7 [[0]]],.bool true) :: (120,[nOne.av,a7 [[9]]],.bool true) :: (70,[nOne.av],a7 [[0]]) :: k1
theorem k2_ok:qk Tryz.prog k2:=⟨sP,sQ,wi,wh⟩
end Go.Nc
namespace Go.Nc
open Go.Proofs
noncomputable def k3:List (Nat × List AV × AV):=(119,[],nOne.av) :: (61,[nOne.av,a7 [[0]],.int .i64 0,.int .i64 0],.tup [.int .i64 9,.int .i64 0]) :: (62,[nOne.av,a7 [[9]],.int .i64 0,.int .i64 0],.tup [.int .i64 108,.int .i64 0]) ::
  (59,[nOne.av,a7 [[9]],.int .i64 0],.tup [.int .i64 9,.bool true]) :: (69,[nOne.av],.tup [a7 [[9]],.int .i64 0]) :: k2
end Go.Nc
