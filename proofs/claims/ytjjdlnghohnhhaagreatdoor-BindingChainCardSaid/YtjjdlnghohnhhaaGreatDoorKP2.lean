/- Each function laid out is the compiled one. No condition. -/
import Derived.Test.YtjjdlnghohnhhaaGreatDoorKS2
set_option maxRecDepth 100000
set_option maxHeartbeats 0
namespace Go.Ab
open Go Go.Proofs
theorem so102 : Sh1 EE 102 s102F := ⟨af102, h102, by kernel_rfl, by kernel_rfl⟩
theorem so103 : Sh1 EE 103 s103F := ⟨af103, h103, by kernel_rfl, by kernel_rfl⟩
theorem so104 : Sh1 EE 104 s104F := ⟨af104, h104, by kernel_rfl, by kernel_rfl⟩
theorem so105 : Sh1 EE 105 s105F := ⟨af105, h105, by kernel_rfl, by kernel_rfl⟩
theorem so106 : Sh1 EE 106 s106F := ⟨af106, h106, by kernel_rfl, by kernel_rfl⟩
theorem so107 : Sh1 EE 107 s107F := ⟨af107, h107, by kernel_rfl, by kernel_rfl⟩
theorem so108 : Sh1 EE 108 s108F := ⟨af108, h108, by kernel_rfl, by kernel_rfl⟩
theorem so109 : Sh1 EE 109 s109F := ⟨af109, h109, by kernel_rfl, by kernel_rfl⟩
theorem so129 : Sh1 EE 129 s129F := ⟨af129, h129, by kernel_rfl, by kernel_rfl⟩
theorem so130 : Sh1 EE 130 s130F := ⟨af130, h130, by kernel_rfl, by kernel_rfl⟩
theorem so131 : Sh1 EE 131 s131F := ⟨af131, h131, by kernel_rfl, by kernel_rfl⟩
theorem so132 : Sh1 EE 132 s132F := ⟨af132, h132, by kernel_rfl, by kernel_rfl⟩
theorem so133 : Sh1 EE 133 s133F := ⟨af133, h133, by kernel_rfl, by kernel_rfl⟩
theorem so134 : Sh1 EE 134 s134F := ⟨af134, h134, by kernel_rfl, by kernel_rfl⟩
theorem so136 : Sh1 EE 136 s136F := ⟨af136, h136, by kernel_rfl, by kernel_rfl⟩
theorem so137 : Sh1 EE 137 s137F := ⟨af137, h137, by kernel_rfl, by kernel_rfl⟩
theorem so138 : Sh1 EE 138 s138F := ⟨af138, h138, by kernel_rfl, by kernel_rfl⟩
theorem so139 : Sh1 EE 139 s139F := ⟨af139, h139, by kernel_rfl, by kernel_rfl⟩
theorem so140 : Sh1 EE 140 s140F := ⟨af140, h140, by kernel_rfl, by kernel_rfl⟩
theorem so141 : Sh1 EE 141 s141F := ⟨af141, h141, by kernel_rfl, by kernel_rfl⟩
theorem so142 : Sh1 EE 142 s142F := ⟨af142, h142, by kernel_rfl, by kernel_rfl⟩
theorem so143 : Sh1 EE 143 s143F := ⟨af143, h143, by kernel_rfl, by kernel_rfl⟩
theorem so145 : Sh1 EE 145 s145F := ⟨af145, h145, by kernel_rfl, by kernel_rfl⟩
theorem so146 : Sh1 EE 146 s146F := ⟨af146, h146, by kernel_rfl, by kernel_rfl⟩
theorem so147 : Sh1 EE 147 s147F := ⟨af147, h147, by kernel_rfl, by kernel_rfl⟩
theorem so148 : Sh1 EE 148 s148F := ⟨af148, h148, by kernel_rfl, by kernel_rfl⟩
theorem so149 : Sh1 EE 149 s149F := ⟨af149, h149, by kernel_rfl, by kernel_rfl⟩
theorem so150 : Sh1 EE 150 s150F := ⟨af150, h150, by kernel_rfl, by kernel_rfl⟩
theorem so152 : Sh1 EE 152 s152F := ⟨af152, h152, by kernel_rfl, by kernel_rfl⟩
theorem so153 : Sh1 EE 153 s153F := ⟨af153, h153, by kernel_rfl, by kernel_rfl⟩
theorem so154 : Sh1 EE 154 s154F := ⟨af154, h154, by kernel_rfl, by kernel_rfl⟩
theorem so155 : Sh1 EE 155 s155F := ⟨af155, h155, by kernel_rfl, by kernel_rfl⟩
theorem so156 : Sh1 EE 156 s156F := ⟨af156, h156, by kernel_rfl, by kernel_rfl⟩
theorem so157 : Sh1 EE 157 s157F := ⟨af157, h157, by kernel_rfl, by kernel_rfl⟩
theorem so158 : Sh1 EE 158 s158F := ⟨af158, h158, by kernel_rfl, by kernel_rfl⟩
theorem so159 : Sh1 EE 159 s159F := ⟨af159, h159, by kernel_rfl, by kernel_rfl⟩
theorem so160 : Sh1 EE 160 s160F := ⟨af160, h160, by kernel_rfl, by kernel_rfl⟩
theorem so161 : Sh1 EE 161 s161F := ⟨af161, h161, by kernel_rfl, by kernel_rfl⟩
theorem so162 : Sh1 EE 162 s162F := ⟨af162, h162, by kernel_rfl, by kernel_rfl⟩
theorem so163 : Sh1 EE 163 s163F := ⟨af163, h163, by kernel_rfl, by kernel_rfl⟩
theorem so164 : Sh1 EE 164 s164F := ⟨af164, h164, by kernel_rfl, by kernel_rfl⟩
theorem so166 : Sh1 EE 166 s166F := ⟨af166, h166, by kernel_rfl, by kernel_rfl⟩
theorem so167 : Sh1 EE 167 s167F := ⟨af167, h167, by kernel_rfl, by kernel_rfl⟩
theorem so168 : Sh1 EE 168 s168F := ⟨af168, h168, by kernel_rfl, by kernel_rfl⟩
theorem so169 : Sh1 EE 169 s169F := ⟨af169, h169, by kernel_rfl, by kernel_rfl⟩
theorem so170 : Sh1 EE 170 s170F := ⟨af170, h170, by kernel_rfl, by kernel_rfl⟩
theorem so171 : Sh1 EE 171 s171F := ⟨af171, h171, by kernel_rfl, by kernel_rfl⟩
theorem so172 : Sh1 EE 172 s172F := ⟨af172, h172, by kernel_rfl, by kernel_rfl⟩
theorem so173 : Sh1 EE 173 s173F := ⟨af173, h173, by kernel_rfl, by kernel_rfl⟩
theorem so174 : Sh1 EE 174 s174F := ⟨af174, h174, by kernel_rfl, by kernel_rfl⟩
theorem so175 : Sh1 EE 175 s175F := ⟨af175, h175, by kernel_rfl, by kernel_rfl⟩
theorem so176 : Sh1 EE 176 s176F := ⟨af176, h176, by kernel_rfl, by kernel_rfl⟩
theorem so177 : Sh1 EE 177 s177F := ⟨af177, h177, by kernel_rfl, by kernel_rfl⟩
theorem so178 : Sh1 EE 178 s178F := ⟨af178, h178, by kernel_rfl, by kernel_rfl⟩
theorem so179 : Sh1 EE 179 s179F := ⟨af179, h179, by kernel_rfl, by kernel_rfl⟩
theorem so180 : Sh1 EE 180 s180F := ⟨af180, h180, by kernel_rfl, by kernel_rfl⟩
theorem so187 : Sh1 EE 187 s187F := ⟨af187, h187, by kernel_rfl, by kernel_rfl⟩
theorem so188 : Sh1 EE 188 s188F := ⟨af188, h188, by kernel_rfl, by kernel_rfl⟩
theorem so189 : Sh1 EE 189 s189F := ⟨af189, h189, by kernel_rfl, by kernel_rfl⟩
theorem so191 : Sh1 EE 191 s191F := ⟨af191, h191, by kernel_rfl, by kernel_rfl⟩
theorem so202 : Sh1 EE 202 s202F := ⟨af202, h202, by kernel_rfl, by kernel_rfl⟩
theorem so203 : Sh1 EE 203 s203F := ⟨af203, h203, by kernel_rfl, by kernel_rfl⟩
theorem so204 : Sh1 EE 204 s204F := ⟨af204, h204, by kernel_rfl, by kernel_rfl⟩
theorem so205 : Sh1 EE 205 s205F := ⟨af205, h205, by kernel_rfl, by kernel_rfl⟩
theorem so206 : Sh1 EE 206 s206F := ⟨af206, h206, by kernel_rfl, by kernel_rfl⟩
end Go.Ab
