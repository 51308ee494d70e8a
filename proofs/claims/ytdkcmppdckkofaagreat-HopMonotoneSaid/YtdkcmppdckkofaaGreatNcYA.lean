/- Merged: Y1, Y2. -/
import Derived.Test.YtdkcmppdckkofaaGreatNcY0
namespace Go.Nc
open Go.Proofs
def nOne:Net:=⟨[⟨#[97]⟩],[⟨1,10,1,[],[]⟩],[⟨⟨#[102]⟩,[0],0,1,100,⟨[0,100],1,1⟩⟩]⟩
theorem one_spec:CallSpec Tryz.prog 119 [] [] nOne.av []:=xspec [] trivial (n:=500) (fz:=[9,4,2,3,10]) (by kernel_rfl)
theorem one_chk:CallSpec Tryz.prog 78 [nOne.av] [] (.int .i64 0) []:=xspec [] trivial (n:=500) (fz:=[]) (by kernel_rfl)
noncomputable def k1:List (Nat × List AV × AV):=[(78,[nOne.av],.int .i64 0)]
theorem k1_ok:MMChk Tryz.prog k1:=⟨one_chk,trivial⟩
theorem one_shape0:CallSpec Tryz.prog 120 [nOne.av,delAV [[0]]] [] (.bool true) []:=xspec k1 k1_ok (n:=500) (fz:=[]) (by kernel_rfl)
theorem one_shape9:CallSpec Tryz.prog 120 [nOne.av,delAV [[9]]] [] (.bool true) []:=xspec k1 k1_ok (n:=500) (fz:=[]) (by kernel_rfl)
theorem one_zero:CallSpec Tryz.prog 70 [nOne.av] [] (delAV [[0]]) []:=xspec k1 k1_ok (n:=500) (fz:=[5,3]) (by kernel_rfl)
noncomputable def k2:List (Nat × List AV × AV):=(120,[nOne.av,delAV [[0]]],.bool true) :: (120,[nOne.av,delAV [[9]]],.bool true) :: (70,[nOne.av],delAV [[0]]) :: k1
theorem k2_ok:MMChk Tryz.prog k2:=⟨one_shape0,one_shape9,one_zero,k1_ok⟩
theorem one_end:CallSpec Tryz.prog 59 [nOne.av,delAV [[9]],.int .i64 0] [] (.tup [.int .i64 9,.bool true]) []:=xspec k2 k2_ok (n:=500) (fz:=[]) (by kernel_rfl)
theorem one_delay:CallSpec Tryz.prog 61 [nOne.av,delAV [[0]],.int .i64 0,.int .i64 0] [] (.tup [.int .i64 9,.int .i64 0]) []:=xspec k2 k2_ok (n:=500) (fz:=[]) (by kernel_rfl)
theorem one_back:CallSpec Tryz.prog 62 [nOne.av,delAV [[9]],.int .i64 0,.int .i64 0] [] (.tup [.int .i64 108,.int .i64 0]) []:=xspec k2 k2_ok (n:=500) (fz:=[]) (by kernel_rfl)
end Go.Nc
namespace Go.Nc
open Go.Proofs
theorem one_forward:CallSpec Tryz.prog 69 [nOne.av] [] (.tup [delAV [[9]],.int .i64 0]) []:=xspec k1 k1_ok (n:=500) (fz:=[15,12]) (by kernel_rfl)
noncomputable def k3:List (Nat × List AV × AV):=(119,[],nOne.av) :: (61,[nOne.av,delAV [[0]],.int .i64 0,.int .i64 0],.tup [.int .i64 9,.int .i64 0]) :: (62,[nOne.av,delAV [[9]],.int .i64 0,.int .i64 0],.tup [.int .i64 108,.int .i64 0]) ::
  (59,[nOne.av,delAV [[9]],.int .i64 0],.tup [.int .i64 9,.bool true]) :: (69,[nOne.av],.tup [delAV [[9]],.int .i64 0]) :: k2
theorem k3_ok:MMChk Tryz.prog k3:=⟨one_spec,one_delay,one_back,one_end,one_forward,k2_ok⟩
theorem sane27:CallSpec Tryz.prog 58 [] [] (.bool true) []:=xspec k3 k3_ok (n:=500) (fz:=[]) (by kernel_rfl)
end Go.Nc
