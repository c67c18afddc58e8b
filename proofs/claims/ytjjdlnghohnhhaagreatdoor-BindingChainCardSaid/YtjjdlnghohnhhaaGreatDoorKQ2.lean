/- Each compiled function is the program's. No condition. -/
import Derived.Test.YtjjdlnghohnhhaaGreatDoorKC
set_option maxRecDepth 100000
set_option maxHeartbeats 0
namespace Go.Ab
open Go Go.Proofs
theorem fo102 : Fun1 Tryz.prog EE 102 af102 := ⟨Tryz.f102, _, Tryz.func102, rfl, by kernel_rfl, by kernel_rfl⟩
theorem fo103 : Fun1 Tryz.prog EE 103 af103 := ⟨Tryz.f103, _, Tryz.func103, rfl, by kernel_rfl, by kernel_rfl⟩
theorem fo104 : Fun1 Tryz.prog EE 104 af104 := ⟨Tryz.f104, _, Tryz.func104, rfl, by kernel_rfl, by kernel_rfl⟩
theorem fo105 : Fun1 Tryz.prog EE 105 af105 := ⟨Tryz.f105, _, Tryz.func105, rfl, by kernel_rfl, by kernel_rfl⟩
theorem fo106 : Fun1 Tryz.prog EE 106 af106 := ⟨Tryz.f106, _, Tryz.func106, rfl, by kernel_rfl, by kernel_rfl⟩
theorem fo107 : Fun1 Tryz.prog EE 107 af107 := ⟨Tryz.f107, _, Tryz.func107, rfl, by kernel_rfl, by kernel_rfl⟩
theorem fo108 : Fun1 Tryz.prog EE 108 af108 := ⟨Tryz.f108, _, Tryz.func108, rfl, by kernel_rfl, by kernel_rfl⟩
theorem fo109 : Fun1 Tryz.prog EE 109 af109 := ⟨Tryz.f109, _, Tryz.func109, rfl, by kernel_rfl, by kernel_rfl⟩
theorem fo129 : Fun1 Tryz.prog EE 129 af129 := ⟨Tryz.f129, _, Tryz.func129, rfl, by kernel_rfl, by kernel_rfl⟩
theorem fo130 : Fun1 Tryz.prog EE 130 af130 := ⟨Tryz.f130, _, Tryz.func130, rfl, by kernel_rfl, by kernel_rfl⟩
theorem fo131 : Fun1 Tryz.prog EE 131 af131 := ⟨Tryz.f131, _, Tryz.func131, rfl, by kernel_rfl, by kernel_rfl⟩
theorem fo132 : Fun1 Tryz.prog EE 132 af132 := ⟨Tryz.f132, _, Tryz.func132, rfl, by kernel_rfl, by kernel_rfl⟩
theorem fo133 : Fun1 Tryz.prog EE 133 af133 := ⟨Tryz.f133, _, Tryz.func133, rfl, by kernel_rfl, by kernel_rfl⟩
theorem fo134 : Fun1 Tryz.prog EE 134 af134 := ⟨Tryz.f134, _, Tryz.func134, rfl, by kernel_rfl, by kernel_rfl⟩
theorem fo136 : Fun1 Tryz.prog EE 136 af136 := ⟨Tryz.f136, _, Tryz.func136, rfl, by kernel_rfl, by kernel_rfl⟩
theorem fo137 : Fun1 Tryz.prog EE 137 af137 := ⟨Tryz.f137, _, Tryz.func137, rfl, by kernel_rfl, by kernel_rfl⟩
theorem fo138 : Fun1 Tryz.prog EE 138 af138 := ⟨Tryz.f138, _, Tryz.func138, rfl, by kernel_rfl, by kernel_rfl⟩
theorem fo139 : Fun1 Tryz.prog EE 139 af139 := ⟨Tryz.f139, _, Tryz.func139, rfl, by kernel_rfl, by kernel_rfl⟩
theorem fo140 : Fun1 Tryz.prog EE 140 af140 := ⟨Tryz.f140, _, Tryz.func140, rfl, by kernel_rfl, by kernel_rfl⟩
theorem fo141 : Fun1 Tryz.prog EE 141 af141 := ⟨Tryz.f141, _, Tryz.func141, rfl, by kernel_rfl, by kernel_rfl⟩
theorem fo142 : Fun1 Tryz.prog EE 142 af142 := ⟨Tryz.f142, _, Tryz.func142, rfl, by kernel_rfl, by kernel_rfl⟩
theorem fo143 : Fun1 Tryz.prog EE 143 af143 := ⟨Tryz.f143, _, Tryz.func143, rfl, by kernel_rfl, by kernel_rfl⟩
theorem fo145 : Fun1 Tryz.prog EE 145 af145 := ⟨Tryz.f145, _, Tryz.func145, rfl, by kernel_rfl, by kernel_rfl⟩
theorem fo146 : Fun1 Tryz.prog EE 146 af146 := ⟨Tryz.f146, _, Tryz.func146, rfl, by kernel_rfl, by kernel_rfl⟩
theorem fo147 : Fun1 Tryz.prog EE 147 af147 := ⟨Tryz.f147, _, Tryz.func147, rfl, by kernel_rfl, by kernel_rfl⟩
theorem fo148 : Fun1 Tryz.prog EE 148 af148 := ⟨Tryz.f148, _, Tryz.func148, rfl, by kernel_rfl, by kernel_rfl⟩
theorem fo149 : Fun1 Tryz.prog EE 149 af149 := ⟨Tryz.f149, _, Tryz.func149, rfl, by kernel_rfl, by kernel_rfl⟩
theorem fo150 : Fun1 Tryz.prog EE 150 af150 := ⟨Tryz.f150, _, Tryz.func150, rfl, by kernel_rfl, by kernel_rfl⟩
theorem fo152 : Fun1 Tryz.prog EE 152 af152 := ⟨Tryz.f152, _, Tryz.func152, rfl, by kernel_rfl, by kernel_rfl⟩
theorem fo153 : Fun1 Tryz.prog EE 153 af153 := ⟨Tryz.f153, _, Tryz.func153, rfl, by kernel_rfl, by kernel_rfl⟩
theorem fo154 : Fun1 Tryz.prog EE 154 af154 := ⟨Tryz.f154, _, Tryz.func154, rfl, by kernel_rfl, by kernel_rfl⟩
theorem fo155 : Fun1 Tryz.prog EE 155 af155 := ⟨Tryz.f155, _, Tryz.func155, rfl, by kernel_rfl, by kernel_rfl⟩
theorem fo156 : Fun1 Tryz.prog EE 156 af156 := ⟨Tryz.f156, _, Tryz.func156, rfl, by kernel_rfl, by kernel_rfl⟩
theorem fo157 : Fun1 Tryz.prog EE 157 af157 := ⟨Tryz.f157, _, Tryz.func157, rfl, by kernel_rfl, by kernel_rfl⟩
theorem fo158 : Fun1 Tryz.prog EE 158 af158 := ⟨Tryz.f158, _, Tryz.func158, rfl, by kernel_rfl, by kernel_rfl⟩
theorem fo159 : Fun1 Tryz.prog EE 159 af159 := ⟨Tryz.f159, _, Tryz.func159, rfl, by kernel_rfl, by kernel_rfl⟩
theorem fo160 : Fun1 Tryz.prog EE 160 af160 := ⟨Tryz.f160, _, Tryz.func160, rfl, by kernel_rfl, by kernel_rfl⟩
theorem fo161 : Fun1 Tryz.prog EE 161 af161 := ⟨Tryz.f161, _, Tryz.func161, rfl, by kernel_rfl, by kernel_rfl⟩
theorem fo162 : Fun1 Tryz.prog EE 162 af162 := ⟨Tryz.f162, _, Tryz.func162, rfl, by kernel_rfl, by kernel_rfl⟩
theorem fo163 : Fun1 Tryz.prog EE 163 af163 := ⟨Tryz.f163, _, Tryz.func163, rfl, by kernel_rfl, by kernel_rfl⟩
theorem fo164 : Fun1 Tryz.prog EE 164 af164 := ⟨Tryz.f164, _, Tryz.func164, rfl, by kernel_rfl, by kernel_rfl⟩
theorem fo166 : Fun1 Tryz.prog EE 166 af166 := ⟨Tryz.f166, _, Tryz.func166, rfl, by kernel_rfl, by kernel_rfl⟩
theorem fo167 : Fun1 Tryz.prog EE 167 af167 := ⟨Tryz.f167, _, Tryz.func167, rfl, by kernel_rfl, by kernel_rfl⟩
theorem fo168 : Fun1 Tryz.prog EE 168 af168 := ⟨Tryz.f168, _, Tryz.func168, rfl, by kernel_rfl, by kernel_rfl⟩
theorem fo169 : Fun1 Tryz.prog EE 169 af169 := ⟨Tryz.f169, _, Tryz.func169, rfl, by kernel_rfl, by kernel_rfl⟩
theorem fo170 : Fun1 Tryz.prog EE 170 af170 := ⟨Tryz.f170, _, Tryz.func170, rfl, by kernel_rfl, by kernel_rfl⟩
theorem fo171 : Fun1 Tryz.prog EE 171 af171 := ⟨Tryz.f171, _, Tryz.func171, rfl, by kernel_rfl, by kernel_rfl⟩
theorem fo172 : Fun1 Tryz.prog EE 172 af172 := ⟨Tryz.f172, _, Tryz.func172, rfl, by kernel_rfl, by kernel_rfl⟩
theorem fo173 : Fun1 Tryz.prog EE 173 af173 := ⟨Tryz.f173, _, Tryz.func173, rfl, by kernel_rfl, by kernel_rfl⟩
theorem fo174 : Fun1 Tryz.prog EE 174 af174 := ⟨Tryz.f174, _, Tryz.func174, rfl, by kernel_rfl, by kernel_rfl⟩
theorem fo175 : Fun1 Tryz.prog EE 175 af175 := ⟨Tryz.f175, _, Tryz.func175, rfl, by kernel_rfl, by kernel_rfl⟩
theorem fo176 : Fun1 Tryz.prog EE 176 af176 := ⟨Tryz.f176, _, Tryz.func176, rfl, by kernel_rfl, by kernel_rfl⟩
theorem fo177 : Fun1 Tryz.prog EE 177 af177 := ⟨Tryz.f177, _, Tryz.func177, rfl, by kernel_rfl, by kernel_rfl⟩
theorem fo178 : Fun1 Tryz.prog EE 178 af178 := ⟨Tryz.f178, _, Tryz.func178, rfl, by kernel_rfl, by kernel_rfl⟩
theorem fo179 : Fun1 Tryz.prog EE 179 af179 := ⟨Tryz.f179, _, Tryz.func179, rfl, by kernel_rfl, by kernel_rfl⟩
theorem fo180 : Fun1 Tryz.prog EE 180 af180 := ⟨Tryz.f180, _, Tryz.func180, rfl, by kernel_rfl, by kernel_rfl⟩
theorem fo187 : Fun1 Tryz.prog EE 187 af187 := ⟨Tryz.f187, _, Tryz.func187, rfl, by kernel_rfl, by kernel_rfl⟩
theorem fo188 : Fun1 Tryz.prog EE 188 af188 := ⟨Tryz.f188, _, Tryz.func188, rfl, by kernel_rfl, by kernel_rfl⟩
theorem fo189 : Fun1 Tryz.prog EE 189 af189 := ⟨Tryz.f189, _, Tryz.func189, rfl, by kernel_rfl, by kernel_rfl⟩
theorem fo191 : Fun1 Tryz.prog EE 191 af191 := ⟨Tryz.f191, _, Tryz.func191, rfl, by kernel_rfl, by kernel_rfl⟩
theorem fo202 : Fun1 Tryz.prog EE 202 af202 := ⟨Tryz.f202, _, Tryz.func202, rfl, by kernel_rfl, by kernel_rfl⟩
theorem fo203 : Fun1 Tryz.prog EE 203 af203 := ⟨Tryz.f203, _, Tryz.func203, rfl, by kernel_rfl, by kernel_rfl⟩
theorem fo204 : Fun1 Tryz.prog EE 204 af204 := ⟨Tryz.f204, _, Tryz.func204, rfl, by kernel_rfl, by kernel_rfl⟩
theorem fo205 : Fun1 Tryz.prog EE 205 af205 := ⟨Tryz.f205, _, Tryz.func205, rfl, by kernel_rfl, by kernel_rfl⟩
theorem fo206 : Fun1 Tryz.prog EE 206 af206 := ⟨Tryz.f206, _, Tryz.func206, rfl, by kernel_rfl, by kernel_rfl⟩
end Go.Ab
