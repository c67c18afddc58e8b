/- Each compiled function is the program's. No condition. -/
import Derived.Test.YtjjdlnghohnhhaaGreatDoorKC
set_option maxRecDepth 100000
set_option maxHeartbeats 0
namespace Go.Ab
open Go Go.Proofs
theorem fo43 : Fun1 Tryz.prog EE 43 af43 := ⟨Tryz.f43, _, Tryz.func43, rfl, by kernel_rfl, by kernel_rfl⟩
theorem fo44 : Fun1 Tryz.prog EE 44 af44 := ⟨Tryz.f44, _, Tryz.func44, rfl, by kernel_rfl, by kernel_rfl⟩
theorem fo45 : Fun1 Tryz.prog EE 45 af45 := ⟨Tryz.f45, _, Tryz.func45, rfl, by kernel_rfl, by kernel_rfl⟩
theorem fo46 : Fun1 Tryz.prog EE 46 af46 := ⟨Tryz.f46, _, Tryz.func46, rfl, by kernel_rfl, by kernel_rfl⟩
theorem fo47 : Fun1 Tryz.prog EE 47 af47 := ⟨Tryz.f47, _, Tryz.func47, rfl, by kernel_rfl, by kernel_rfl⟩
theorem fo48 : Fun1 Tryz.prog EE 48 af48 := ⟨Tryz.f48, _, Tryz.func48, rfl, by kernel_rfl, by kernel_rfl⟩
theorem fo49 : Fun1 Tryz.prog EE 49 af49 := ⟨Tryz.f49, _, Tryz.func49, rfl, by kernel_rfl, by kernel_rfl⟩
theorem fo50 : Fun1 Tryz.prog EE 50 af50 := ⟨Tryz.f50, _, Tryz.func50, rfl, by kernel_rfl, by kernel_rfl⟩
theorem fo51 : Fun1 Tryz.prog EE 51 af51 := ⟨Tryz.f51, _, Tryz.func51, rfl, by kernel_rfl, by kernel_rfl⟩
theorem fo52 : Fun1 Tryz.prog EE 52 af52 := ⟨Tryz.f52, _, Tryz.func52, rfl, by kernel_rfl, by kernel_rfl⟩
theorem fo53 : Fun1 Tryz.prog EE 53 af53 := ⟨Tryz.f53, _, Tryz.func53, rfl, by kernel_rfl, by kernel_rfl⟩
theorem fo54 : Fun1 Tryz.prog EE 54 af54 := ⟨Tryz.f54, _, Tryz.func54, rfl, by kernel_rfl, by kernel_rfl⟩
theorem fo56 : Fun1 Tryz.prog EE 56 af56 := ⟨Tryz.f56, _, Tryz.func56, rfl, by kernel_rfl, by kernel_rfl⟩
theorem fo58 : Fun1 Tryz.prog EE 58 af58 := ⟨Tryz.f58, _, Tryz.func58, rfl, by kernel_rfl, by kernel_rfl⟩
theorem fo59 : Fun1 Tryz.prog EE 59 af59 := ⟨Tryz.f59, _, Tryz.func59, rfl, by kernel_rfl, by kernel_rfl⟩
theorem fo60 : Fun1 Tryz.prog EE 60 af60 := ⟨Tryz.f60, _, Tryz.func60, rfl, by kernel_rfl, by kernel_rfl⟩
theorem fo61 : Fun1 Tryz.prog EE 61 af61 := ⟨Tryz.f61, _, Tryz.func61, rfl, by kernel_rfl, by kernel_rfl⟩
theorem fo62 : Fun1 Tryz.prog EE 62 af62 := ⟨Tryz.f62, _, Tryz.func62, rfl, by kernel_rfl, by kernel_rfl⟩
theorem fo63 : Fun1 Tryz.prog EE 63 af63 := ⟨Tryz.f63, _, Tryz.func63, rfl, by kernel_rfl, by kernel_rfl⟩
theorem fo71 : Fun1 Tryz.prog EE 71 af71 := ⟨Tryz.f71, _, Tryz.func71, rfl, by kernel_rfl, by kernel_rfl⟩
theorem fo84 : Fun1 Tryz.prog EE 84 af84 := ⟨Tryz.f84, _, Tryz.func84, rfl, by kernel_rfl, by kernel_rfl⟩
theorem fo85 : Fun1 Tryz.prog EE 85 af85 := ⟨Tryz.f85, _, Tryz.func85, rfl, by kernel_rfl, by kernel_rfl⟩
theorem fo87 : Fun1 Tryz.prog EE 87 af87 := ⟨Tryz.f87, _, Tryz.func87, rfl, by kernel_rfl, by kernel_rfl⟩
theorem fo88 : Fun1 Tryz.prog EE 88 af88 := ⟨Tryz.f88, _, Tryz.func88, rfl, by kernel_rfl, by kernel_rfl⟩
theorem fo89 : Fun1 Tryz.prog EE 89 af89 := ⟨Tryz.f89, _, Tryz.func89, rfl, by kernel_rfl, by kernel_rfl⟩
theorem fo90 : Fun1 Tryz.prog EE 90 af90 := ⟨Tryz.f90, _, Tryz.func90, rfl, by kernel_rfl, by kernel_rfl⟩
theorem fo91 : Fun1 Tryz.prog EE 91 af91 := ⟨Tryz.f91, _, Tryz.func91, rfl, by kernel_rfl, by kernel_rfl⟩
theorem fo92 : Fun1 Tryz.prog EE 92 af92 := ⟨Tryz.f92, _, Tryz.func92, rfl, by kernel_rfl, by kernel_rfl⟩
theorem fo93 : Fun1 Tryz.prog EE 93 af93 := ⟨Tryz.f93, _, Tryz.func93, rfl, by kernel_rfl, by kernel_rfl⟩
theorem fo94 : Fun1 Tryz.prog EE 94 af94 := ⟨Tryz.f94, _, Tryz.func94, rfl, by kernel_rfl, by kernel_rfl⟩
theorem fo95 : Fun1 Tryz.prog EE 95 af95 := ⟨Tryz.f95, _, Tryz.func95, rfl, by kernel_rfl, by kernel_rfl⟩
theorem fo96 : Fun1 Tryz.prog EE 96 af96 := ⟨Tryz.f96, _, Tryz.func96, rfl, by kernel_rfl, by kernel_rfl⟩
theorem fo97 : Fun1 Tryz.prog EE 97 af97 := ⟨Tryz.f97, _, Tryz.func97, rfl, by kernel_rfl, by kernel_rfl⟩
theorem fo98 : Fun1 Tryz.prog EE 98 af98 := ⟨Tryz.f98, _, Tryz.func98, rfl, by kernel_rfl, by kernel_rfl⟩
theorem fo100 : Fun1 Tryz.prog EE 100 af100 := ⟨Tryz.f100, _, Tryz.func100, rfl, by kernel_rfl, by kernel_rfl⟩
theorem fo101 : Fun1 Tryz.prog EE 101 af101 := ⟨Tryz.f101, _, Tryz.func101, rfl, by kernel_rfl, by kernel_rfl⟩
end Go.Ab
