/- The state in which the runs begin. No condition. -/
import Derived.Test.YtjjdlnghohnhhaaGreatDoorKF
namespace Go.Ab
open Go Go.Proofs
noncomputable def g0 : St := ⟨T.set .e (nat_lit 0) (.cells [.int .i64 (.ofNat (nat_lit 0)), .int .i64 (.ofNat (nat_lit 1))] (nat_lit 0) false), nat_lit 1, nat_lit 0⟩
def isT : Out → Bool
  | .ok (.bool b) _ => b
  | _ => false
end Go.Ab
