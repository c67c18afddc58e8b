/- Each compiled function is the program's. No condition. -/
import Derived.Test.YtjjdlnghohnhhaaGreatDoorKC
set_option maxRecDepth 100000
set_option maxHeartbeats 0
namespace Go.Ab
open Go Go.Proofs
theorem fo334 : Fun1 Tryz.prog EE 334 af334 := ⟨Tryz.f334, _, Tryz.func334, rfl, by kernel_rfl, by kernel_rfl⟩
theorem fo335 : Fun1 Tryz.prog EE 335 af335 := ⟨Tryz.f335, _, Tryz.func335, rfl, by kernel_rfl, by kernel_rfl⟩
theorem fo336 : Fun1 Tryz.prog EE 336 af336 := ⟨Tryz.f336, _, Tryz.func336, rfl, by kernel_rfl, by kernel_rfl⟩
theorem fo337 : Fun1 Tryz.prog EE 337 af337 := ⟨Tryz.f337, _, Tryz.func337, rfl, by kernel_rfl, by kernel_rfl⟩
theorem fo338 : Fun1 Tryz.prog EE 338 af338 := ⟨Tryz.f338, _, Tryz.func338, rfl, by kernel_rfl, by kernel_rfl⟩
theorem fo339 : Fun1 Tryz.prog EE 339 af339 := ⟨Tryz.f339, _, Tryz.func339, rfl, by kernel_rfl, by kernel_rfl⟩
theorem fo340 : Fun1 Tryz.prog EE 340 af340 := ⟨Tryz.f340, _, Tryz.func340, rfl, by kernel_rfl, by kernel_rfl⟩
theorem fo347 : Fun1 Tryz.prog EE 347 af347 := ⟨Tryz.f347, _, Tryz.func347, rfl, by kernel_rfl, by kernel_rfl⟩
theorem fo350 : Fun1 Tryz.prog EE 350 af350 := ⟨Tryz.f350, _, Tryz.func350, rfl, by kernel_rfl, by kernel_rfl⟩
theorem fo352 : Fun1 Tryz.prog EE 352 af352 := ⟨Tryz.f352, _, Tryz.func352, rfl, by kernel_rfl, by kernel_rfl⟩
theorem fo353 : Fun1 Tryz.prog EE 353 af353 := ⟨Tryz.f353, _, Tryz.func353, rfl, by kernel_rfl, by kernel_rfl⟩
theorem fo355 : Fun1 Tryz.prog EE 355 af355 := ⟨Tryz.f355, _, Tryz.func355, rfl, by kernel_rfl, by kernel_rfl⟩
theorem fo357 : Fun1 Tryz.prog EE 357 af357 := ⟨Tryz.f357, _, Tryz.func357, rfl, by kernel_rfl, by kernel_rfl⟩
theorem fo358 : Fun1 Tryz.prog EE 358 af358 := ⟨Tryz.f358, _, Tryz.func358, rfl, by kernel_rfl, by kernel_rfl⟩
theorem fo360 : Fun1 Tryz.prog EE 360 af360 := ⟨Tryz.f360, _, Tryz.func360, rfl, by kernel_rfl, by kernel_rfl⟩
theorem fo373 : Fun1 Tryz.prog EE 373 af373 := ⟨Tryz.f373, _, Tryz.func373, rfl, by kernel_rfl, by kernel_rfl⟩
theorem fo374 : Fun1 Tryz.prog EE 374 af374 := ⟨Tryz.f374, _, Tryz.func374, rfl, by kernel_rfl, by kernel_rfl⟩
theorem fo375 : Fun1 Tryz.prog EE 375 af375 := ⟨Tryz.f375, _, Tryz.func375, rfl, by kernel_rfl, by kernel_rfl⟩
theorem fo377 : Fun1 Tryz.prog EE 377 af377 := ⟨Tryz.f377, _, Tryz.func377, rfl, by kernel_rfl, by kernel_rfl⟩
theorem fo378 : Fun1 Tryz.prog EE 378 af378 := ⟨Tryz.f378, _, Tryz.func378, rfl, by kernel_rfl, by kernel_rfl⟩
theorem fo383 : Fun1 Tryz.prog EE 383 af383 := ⟨Tryz.f383, _, Tryz.func383, rfl, by kernel_rfl, by kernel_rfl⟩
theorem fo394 : Fun1 Tryz.prog EE 394 af394 := ⟨Tryz.f394, _, Tryz.func394, rfl, by kernel_rfl, by kernel_rfl⟩
theorem fo416 : Fun1 Tryz.prog EE 416 af416 := ⟨Tryz.f416, _, Tryz.func416, rfl, by kernel_rfl, by kernel_rfl⟩
end Go.Ab
