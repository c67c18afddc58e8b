/- Runs of the law at arguments. No condition. -/
import Derived.Test.YtjjdlnghohnhhaaGreatDoorKG
import Derived.KernelRfl
set_option maxRecDepth 100000
set_option maxHeartbeats 0
namespace Go.Ab
open Go Go.Proofs
theorem run_7_1 : isT (callS EE FF (nat_lit 100001) (fnV (nat_lit 3)) [.int .u8 (.ofNat (nat_lit 7)), .int .u8 (.ofNat (nat_lit 1))] g0) = true := by kernel_rfl
theorem run_6_3 : isT (callS EE FF (nat_lit 100001) (fnV (nat_lit 3)) [.int .u8 (.ofNat (nat_lit 6)), .int .u8 (.ofNat (nat_lit 3))] g0) = true := by kernel_rfl
theorem run_4_2 : isT (callS EE FF (nat_lit 100001) (fnV (nat_lit 3)) [.int .u8 (.ofNat (nat_lit 4)), .int .u8 (.ofNat (nat_lit 2))] g0) = true := by kernel_rfl
theorem run_1_0 : isT (callS EE FF (nat_lit 100001) (fnV (nat_lit 3)) [.int .u8 (.ofNat (nat_lit 1)), .int .u8 (.ofNat (nat_lit 0))] g0) = true := by kernel_rfl
end Go.Ab
