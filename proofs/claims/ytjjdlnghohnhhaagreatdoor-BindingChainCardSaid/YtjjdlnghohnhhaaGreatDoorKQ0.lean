/- Each compiled function is the program's. No condition. -/
import Derived.Test.YtjjdlnghohnhhaaGreatDoorKC
set_option maxRecDepth 100000
set_option maxHeartbeats 0
namespace Go.Ab
open Go Go.Proofs
theorem fo3 : Fun1 Tryz.prog EE 3 af3 := ⟨Tryz.f3, _, Tryz.func3, rfl, by kernel_rfl, by kernel_rfl⟩
theorem fo4 : Fun1 Tryz.prog EE 4 af4 := ⟨Tryz.f4, _, Tryz.func4, rfl, by kernel_rfl, by kernel_rfl⟩
theorem fo5 : Fun1 Tryz.prog EE 5 af5 := ⟨Tryz.f5, _, Tryz.func5, rfl, by kernel_rfl, by kernel_rfl⟩
theorem fo6 : Fun1 Tryz.prog EE 6 af6 := ⟨Tryz.f6, _, Tryz.func6, rfl, by kernel_rfl, by kernel_rfl⟩
theorem fo7 : Fun1 Tryz.prog EE 7 af7 := ⟨Tryz.f7, _, Tryz.func7, rfl, by kernel_rfl, by kernel_rfl⟩
theorem fo8 : Fun1 Tryz.prog EE 8 af8 := ⟨Tryz.f8, _, Tryz.func8, rfl, by kernel_rfl, by kernel_rfl⟩
theorem fo9 : Fun1 Tryz.prog EE 9 af9 := ⟨Tryz.f9, _, Tryz.func9, rfl, by kernel_rfl, by kernel_rfl⟩
theorem fo10 : Fun1 Tryz.prog EE 10 af10 := ⟨Tryz.f10, _, Tryz.func10, rfl, by kernel_rfl, by kernel_rfl⟩
theorem fo11 : Fun1 Tryz.prog EE 11 af11 := ⟨Tryz.f11, _, Tryz.func11, rfl, by kernel_rfl, by kernel_rfl⟩
theorem fo12 : Fun1 Tryz.prog EE 12 af12 := ⟨Tryz.f12, _, Tryz.func12, rfl, by kernel_rfl, by kernel_rfl⟩
theorem fo13 : Fun1 Tryz.prog EE 13 af13 := ⟨Tryz.f13, _, Tryz.func13, rfl, by kernel_rfl, by kernel_rfl⟩
theorem fo15 : Fun1 Tryz.prog EE 15 af15 := ⟨Tryz.f15, _, Tryz.func15, rfl, by kernel_rfl, by kernel_rfl⟩
theorem fo16 : Fun1 Tryz.prog EE 16 af16 := ⟨Tryz.f16, _, Tryz.func16, rfl, by kernel_rfl, by kernel_rfl⟩
theorem fo17 : Fun1 Tryz.prog EE 17 af17 := ⟨Tryz.f17, _, Tryz.func17, rfl, by kernel_rfl, by kernel_rfl⟩
theorem fo18 : Fun1 Tryz.prog EE 18 af18 := ⟨Tryz.f18, _, Tryz.func18, rfl, by kernel_rfl, by kernel_rfl⟩
theorem fo20 : Fun1 Tryz.prog EE 20 af20 := ⟨Tryz.f20, _, Tryz.func20, rfl, by kernel_rfl, by kernel_rfl⟩
theorem fo22 : Fun1 Tryz.prog EE 22 af22 := ⟨Tryz.f22, _, Tryz.func22, rfl, by kernel_rfl, by kernel_rfl⟩
theorem fo24 : Fun1 Tryz.prog EE 24 af24 := ⟨Tryz.f24, _, Tryz.func24, rfl, by kernel_rfl, by kernel_rfl⟩
theorem fo25 : Fun1 Tryz.prog EE 25 af25 := ⟨Tryz.f25, _, Tryz.func25, rfl, by kernel_rfl, by kernel_rfl⟩
theorem fo26 : Fun1 Tryz.prog EE 26 af26 := ⟨Tryz.f26, _, Tryz.func26, rfl, by kernel_rfl, by kernel_rfl⟩
theorem fo39 : Fun1 Tryz.prog EE 39 af39 := ⟨Tryz.f39, _, Tryz.func39, rfl, by kernel_rfl, by kernel_rfl⟩
theorem fo40 : Fun1 Tryz.prog EE 40 af40 := ⟨Tryz.f40, _, Tryz.func40, rfl, by kernel_rfl, by kernel_rfl⟩
theorem fo41 : Fun1 Tryz.prog EE 41 af41 := ⟨Tryz.f41, _, Tryz.func41, rfl, by kernel_rfl, by kernel_rfl⟩
theorem fo42 : Fun1 Tryz.prog EE 42 af42 := ⟨Tryz.f42, _, Tryz.func42, rfl, by kernel_rfl, by kernel_rfl⟩
end Go.Ab
