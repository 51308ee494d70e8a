/- The example of chapter 27 holds. -/
import Derived.Test.YtdkcmppdckkofaaGreatNcY1
namespace Go.Nc
open Go.Proofs

theorem one_forward : CallSpec Tryz.prog 69 [nOne.av] [] (.tup [delAV [[9]], .int .i64 0]) [] := xspec k1 k1_ok (n := 500) (fz := [15, 12]) (by kernel_rfl)

noncomputable def k3 : List (Nat × List AV × AV) := (119, [], nOne.av) :: (61, [nOne.av, delAV [[0]], .int .i64 0, .int .i64 0], .tup [.int .i64 9, .int .i64 0]) :: (62, [nOne.av, delAV [[9]], .int .i64 0, .int .i64 0], .tup [.int .i64 108, .int .i64 0]) ::
  (59, [nOne.av, delAV [[9]], .int .i64 0], .tup [.int .i64 9, .bool true]) :: (69, [nOne.av], .tup [delAV [[9]], .int .i64 0]) :: k2
theorem k3_ok : MMChk Tryz.prog k3 := ⟨one_spec, one_delay, one_back, one_end, one_forward, k2_ok⟩

theorem sane27 : CallSpec Tryz.prog 58 [] [] (.bool true) [] := xspec k3 k3_ok (n := 500) (fz := []) (by kernel_rfl)

#print axioms sane27
end Go.Nc
