/- Each function laid out is the compiled one. No condition. -/
import Derived.Test.YtjjdlnghohnhhaaGreatDoorKS1
set_option maxRecDepth 100000
set_option maxHeartbeats 0
namespace Go.Ab
open Go Go.Proofs
theorem so43 : Sh1 EE 43 s43F := ⟨af43, h43, by kernel_rfl, by kernel_rfl⟩
theorem so44 : Sh1 EE 44 s44F := ⟨af44, h44, by kernel_rfl, by kernel_rfl⟩
theorem so45 : Sh1 EE 45 s45F := ⟨af45, h45, by kernel_rfl, by kernel_rfl⟩
theorem so46 : Sh1 EE 46 s46F := ⟨af46, h46, by kernel_rfl, by kernel_rfl⟩
theorem so47 : Sh1 EE 47 s47F := ⟨af47, h47, by kernel_rfl, by kernel_rfl⟩
theorem so48 : Sh1 EE 48 s48F := ⟨af48, h48, by kernel_rfl, by kernel_rfl⟩
theorem so49 : Sh1 EE 49 s49F := ⟨af49, h49, by kernel_rfl, by kernel_rfl⟩
theorem so50 : Sh1 EE 50 s50F := ⟨af50, h50, by kernel_rfl, by kernel_rfl⟩
theorem so51 : Sh1 EE 51 s51F := ⟨af51, h51, by kernel_rfl, by kernel_rfl⟩
theorem so52 : Sh1 EE 52 s52F := ⟨af52, h52, by kernel_rfl, by kernel_rfl⟩
theorem so53 : Sh1 EE 53 s53F := ⟨af53, h53, by kernel_rfl, by kernel_rfl⟩
theorem so54 : Sh1 EE 54 s54F := ⟨af54, h54, by kernel_rfl, by kernel_rfl⟩
theorem so56 : Sh1 EE 56 s56F := ⟨af56, h56, by kernel_rfl, by kernel_rfl⟩
theorem so58 : Sh1 EE 58 s58F := ⟨af58, h58, by kernel_rfl, by kernel_rfl⟩
theorem so59 : Sh1 EE 59 s59F := ⟨af59, h59, by kernel_rfl, by kernel_rfl⟩
theorem so60 : Sh1 EE 60 s60F := ⟨af60, h60, by kernel_rfl, by kernel_rfl⟩
theorem so61 : Sh1 EE 61 s61F := ⟨af61, h61, by kernel_rfl, by kernel_rfl⟩
theorem so62 : Sh1 EE 62 s62F := ⟨af62, h62, by kernel_rfl, by kernel_rfl⟩
theorem so63 : Sh1 EE 63 s63F := ⟨af63, h63, by kernel_rfl, by kernel_rfl⟩
theorem so71 : Sh1 EE 71 s71F := ⟨af71, h71, by kernel_rfl, by kernel_rfl⟩
theorem so84 : Sh1 EE 84 s84F := ⟨af84, h84, by kernel_rfl, by kernel_rfl⟩
theorem so85 : Sh1 EE 85 s85F := ⟨af85, h85, by kernel_rfl, by kernel_rfl⟩
theorem so87 : Sh1 EE 87 s87F := ⟨af87, h87, by kernel_rfl, by kernel_rfl⟩
theorem so88 : Sh1 EE 88 s88F := ⟨af88, h88, by kernel_rfl, by kernel_rfl⟩
theorem so89 : Sh1 EE 89 s89F := ⟨af89, h89, by kernel_rfl, by kernel_rfl⟩
theorem so90 : Sh1 EE 90 s90F := ⟨af90, h90, by kernel_rfl, by kernel_rfl⟩
theorem so91 : Sh1 EE 91 s91F := ⟨af91, h91, by kernel_rfl, by kernel_rfl⟩
theorem so92 : Sh1 EE 92 s92F := ⟨af92, h92, by kernel_rfl, by kernel_rfl⟩
theorem so93 : Sh1 EE 93 s93F := ⟨af93, h93, by kernel_rfl, by kernel_rfl⟩
theorem so94 : Sh1 EE 94 s94F := ⟨af94, h94, by kernel_rfl, by kernel_rfl⟩
theorem so95 : Sh1 EE 95 s95F := ⟨af95, h95, by kernel_rfl, by kernel_rfl⟩
theorem so96 : Sh1 EE 96 s96F := ⟨af96, h96, by kernel_rfl, by kernel_rfl⟩
theorem so97 : Sh1 EE 97 s97F := ⟨af97, h97, by kernel_rfl, by kernel_rfl⟩
theorem so98 : Sh1 EE 98 s98F := ⟨af98, h98, by kernel_rfl, by kernel_rfl⟩
theorem so100 : Sh1 EE 100 s100F := ⟨af100, h100, by kernel_rfl, by kernel_rfl⟩
theorem so101 : Sh1 EE 101 s101F := ⟨af101, h101, by kernel_rfl, by kernel_rfl⟩
end Go.Ab
