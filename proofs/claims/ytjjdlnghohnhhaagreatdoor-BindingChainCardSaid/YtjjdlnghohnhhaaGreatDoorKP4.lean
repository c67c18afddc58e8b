/- Each function laid out is the compiled one. No condition. -/
import Derived.Test.YtjjdlnghohnhhaaGreatDoorKS4
set_option maxRecDepth 100000
set_option maxHeartbeats 0
namespace Go.Ab
open Go Go.Proofs
theorem so334 : Sh1 EE 334 s334F := ⟨af334, h334, by kernel_rfl, by kernel_rfl⟩
theorem so335 : Sh1 EE 335 s335F := ⟨af335, h335, by kernel_rfl, by kernel_rfl⟩
theorem so336 : Sh1 EE 336 s336F := ⟨af336, h336, by kernel_rfl, by kernel_rfl⟩
theorem so337 : Sh1 EE 337 s337F := ⟨af337, h337, by kernel_rfl, by kernel_rfl⟩
theorem so338 : Sh1 EE 338 s338F := ⟨af338, h338, by kernel_rfl, by kernel_rfl⟩
theorem so339 : Sh1 EE 339 s339F := ⟨af339, h339, by kernel_rfl, by kernel_rfl⟩
theorem so340 : Sh1 EE 340 s340F := ⟨af340, h340, by kernel_rfl, by kernel_rfl⟩
theorem so347 : Sh1 EE 347 s347F := ⟨af347, h347, by kernel_rfl, by kernel_rfl⟩
theorem so350 : Sh1 EE 350 s350F := ⟨af350, h350, by kernel_rfl, by kernel_rfl⟩
theorem so352 : Sh1 EE 352 s352F := ⟨af352, h352, by kernel_rfl, by kernel_rfl⟩
theorem so353 : Sh1 EE 353 s353F := ⟨af353, h353, by kernel_rfl, by kernel_rfl⟩
theorem so355 : Sh1 EE 355 s355F := ⟨af355, h355, by kernel_rfl, by kernel_rfl⟩
theorem so357 : Sh1 EE 357 s357F := ⟨af357, h357, by kernel_rfl, by kernel_rfl⟩
theorem so358 : Sh1 EE 358 s358F := ⟨af358, h358, by kernel_rfl, by kernel_rfl⟩
theorem so360 : Sh1 EE 360 s360F := ⟨af360, h360, by kernel_rfl, by kernel_rfl⟩
theorem so373 : Sh1 EE 373 s373F := ⟨af373, h373, by kernel_rfl, by kernel_rfl⟩
theorem so374 : Sh1 EE 374 s374F := ⟨af374, h374, by kernel_rfl, by kernel_rfl⟩
theorem so375 : Sh1 EE 375 s375F := ⟨af375, h375, by kernel_rfl, by kernel_rfl⟩
theorem so377 : Sh1 EE 377 s377F := ⟨af377, h377, by kernel_rfl, by kernel_rfl⟩
theorem so378 : Sh1 EE 378 s378F := ⟨af378, h378, by kernel_rfl, by kernel_rfl⟩
theorem so383 : Sh1 EE 383 s383F := ⟨af383, h383, by kernel_rfl, by kernel_rfl⟩
theorem so394 : Sh1 EE 394 s394F := ⟨af394, h394, by kernel_rfl, by kernel_rfl⟩
theorem so416 : Sh1 EE 416 s416F := ⟨af416, h416, by kernel_rfl, by kernel_rfl⟩
end Go.Ab
