/- Each function laid out is the compiled one. No condition. -/
import Derived.Test.YtjjdlnghohnhhaaGreatDoorKS0
set_option maxRecDepth 100000
set_option maxHeartbeats 0
namespace Go.Ab
open Go Go.Proofs
theorem so3 : Sh1 EE 3 s3F := ⟨af3, h3, by kernel_rfl, by kernel_rfl⟩
theorem so4 : Sh1 EE 4 s4F := ⟨af4, h4, by kernel_rfl, by kernel_rfl⟩
theorem so5 : Sh1 EE 5 s5F := ⟨af5, h5, by kernel_rfl, by kernel_rfl⟩
theorem so6 : Sh1 EE 6 s6F := ⟨af6, h6, by kernel_rfl, by kernel_rfl⟩
theorem so7 : Sh1 EE 7 s7F := ⟨af7, h7, by kernel_rfl, by kernel_rfl⟩
theorem so8 : Sh1 EE 8 s8F := ⟨af8, h8, by kernel_rfl, by kernel_rfl⟩
theorem so9 : Sh1 EE 9 s9F := ⟨af9, h9, by kernel_rfl, by kernel_rfl⟩
theorem so10 : Sh1 EE 10 s10F := ⟨af10, h10, by kernel_rfl, by kernel_rfl⟩
theorem so11 : Sh1 EE 11 s11F := ⟨af11, h11, by kernel_rfl, by kernel_rfl⟩
theorem so12 : Sh1 EE 12 s12F := ⟨af12, h12, by kernel_rfl, by kernel_rfl⟩
theorem so13 : Sh1 EE 13 s13F := ⟨af13, h13, by kernel_rfl, by kernel_rfl⟩
theorem so15 : Sh1 EE 15 s15F := ⟨af15, h15, by kernel_rfl, by kernel_rfl⟩
theorem so16 : Sh1 EE 16 s16F := ⟨af16, h16, by kernel_rfl, by kernel_rfl⟩
theorem so17 : Sh1 EE 17 s17F := ⟨af17, h17, by kernel_rfl, by kernel_rfl⟩
theorem so18 : Sh1 EE 18 s18F := ⟨af18, h18, by kernel_rfl, by kernel_rfl⟩
theorem so20 : Sh1 EE 20 s20F := ⟨af20, h20, by kernel_rfl, by kernel_rfl⟩
theorem so22 : Sh1 EE 22 s22F := ⟨af22, h22, by kernel_rfl, by kernel_rfl⟩
theorem so24 : Sh1 EE 24 s24F := ⟨af24, h24, by kernel_rfl, by kernel_rfl⟩
theorem so25 : Sh1 EE 25 s25F := ⟨af25, h25, by kernel_rfl, by kernel_rfl⟩
theorem so26 : Sh1 EE 26 s26F := ⟨af26, h26, by kernel_rfl, by kernel_rfl⟩
theorem so39 : Sh1 EE 39 s39F := ⟨af39, h39, by kernel_rfl, by kernel_rfl⟩
theorem so40 : Sh1 EE 40 s40F := ⟨af40, h40, by kernel_rfl, by kernel_rfl⟩
theorem so41 : Sh1 EE 41 s41F := ⟨af41, h41, by kernel_rfl, by kernel_rfl⟩
theorem so42 : Sh1 EE 42 s42F := ⟨af42, h42, by kernel_rfl, by kernel_rfl⟩
end Go.Ab
