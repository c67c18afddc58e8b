/- Each compiled function is the program's. No condition. -/
import Derived.Test.YtjjdlnghohnhhaaGreatDoorKC
set_option maxRecDepth 100000
set_option maxHeartbeats 0
namespace Go.Ab
open Go Go.Proofs
theorem fo207 : Fun1 Tryz.prog EE 207 af207 := ⟨Tryz.f207, _, Tryz.func207, rfl, by kernel_rfl, by kernel_rfl⟩
theorem fo208 : Fun1 Tryz.prog EE 208 af208 := ⟨Tryz.f208, _, Tryz.func208, rfl, by kernel_rfl, by kernel_rfl⟩
theorem fo209 : Fun1 Tryz.prog EE 209 af209 := ⟨Tryz.f209, _, Tryz.func209, rfl, by kernel_rfl, by kernel_rfl⟩
theorem fo210 : Fun1 Tryz.prog EE 210 af210 := ⟨Tryz.f210, _, Tryz.func210, rfl, by kernel_rfl, by kernel_rfl⟩
theorem fo211 : Fun1 Tryz.prog EE 211 af211 := ⟨Tryz.f211, _, Tryz.func211, rfl, by kernel_rfl, by kernel_rfl⟩
theorem fo219 : Fun1 Tryz.prog EE 219 af219 := ⟨Tryz.f219, _, Tryz.func219, rfl, by kernel_rfl, by kernel_rfl⟩
theorem fo222 : Fun1 Tryz.prog EE 222 af222 := ⟨Tryz.f222, _, Tryz.func222, rfl, by kernel_rfl, by kernel_rfl⟩
theorem fo226 : Fun1 Tryz.prog EE 226 af226 := ⟨Tryz.f226, _, Tryz.func226, rfl, by kernel_rfl, by kernel_rfl⟩
theorem fo227 : Fun1 Tryz.prog EE 227 af227 := ⟨Tryz.f227, _, Tryz.func227, rfl, by kernel_rfl, by kernel_rfl⟩
theorem fo228 : Fun1 Tryz.prog EE 228 af228 := ⟨Tryz.f228, _, Tryz.func228, rfl, by kernel_rfl, by kernel_rfl⟩
theorem fo229 : Fun1 Tryz.prog EE 229 af229 := ⟨Tryz.f229, _, Tryz.func229, rfl, by kernel_rfl, by kernel_rfl⟩
theorem fo230 : Fun1 Tryz.prog EE 230 af230 := ⟨Tryz.f230, _, Tryz.func230, rfl, by kernel_rfl, by kernel_rfl⟩
theorem fo231 : Fun1 Tryz.prog EE 231 af231 := ⟨Tryz.f231, _, Tryz.func231, rfl, by kernel_rfl, by kernel_rfl⟩
theorem fo232 : Fun1 Tryz.prog EE 232 af232 := ⟨Tryz.f232, _, Tryz.func232, rfl, by kernel_rfl, by kernel_rfl⟩
theorem fo233 : Fun1 Tryz.prog EE 233 af233 := ⟨Tryz.f233, _, Tryz.func233, rfl, by kernel_rfl, by kernel_rfl⟩
theorem fo234 : Fun1 Tryz.prog EE 234 af234 := ⟨Tryz.f234, _, Tryz.func234, rfl, by kernel_rfl, by kernel_rfl⟩
theorem fo235 : Fun1 Tryz.prog EE 235 af235 := ⟨Tryz.f235, _, Tryz.func235, rfl, by kernel_rfl, by kernel_rfl⟩
theorem fo236 : Fun1 Tryz.prog EE 236 af236 := ⟨Tryz.f236, _, Tryz.func236, rfl, by kernel_rfl, by kernel_rfl⟩
theorem fo237 : Fun1 Tryz.prog EE 237 af237 := ⟨Tryz.f237, _, Tryz.func237, rfl, by kernel_rfl, by kernel_rfl⟩
theorem fo238 : Fun1 Tryz.prog EE 238 af238 := ⟨Tryz.f238, _, Tryz.func238, rfl, by kernel_rfl, by kernel_rfl⟩
theorem fo239 : Fun1 Tryz.prog EE 239 af239 := ⟨Tryz.f239, _, Tryz.func239, rfl, by kernel_rfl, by kernel_rfl⟩
theorem fo240 : Fun1 Tryz.prog EE 240 af240 := ⟨Tryz.f240, _, Tryz.func240, rfl, by kernel_rfl, by kernel_rfl⟩
theorem fo241 : Fun1 Tryz.prog EE 241 af241 := ⟨Tryz.f241, _, Tryz.func241, rfl, by kernel_rfl, by kernel_rfl⟩
theorem fo242 : Fun1 Tryz.prog EE 242 af242 := ⟨Tryz.f242, _, Tryz.func242, rfl, by kernel_rfl, by kernel_rfl⟩
theorem fo243 : Fun1 Tryz.prog EE 243 af243 := ⟨Tryz.f243, _, Tryz.func243, rfl, by kernel_rfl, by kernel_rfl⟩
theorem fo244 : Fun1 Tryz.prog EE 244 af244 := ⟨Tryz.f244, _, Tryz.func244, rfl, by kernel_rfl, by kernel_rfl⟩
theorem fo246 : Fun1 Tryz.prog EE 246 af246 := ⟨Tryz.f246, _, Tryz.func246, rfl, by kernel_rfl, by kernel_rfl⟩
theorem fo247 : Fun1 Tryz.prog EE 247 af247 := ⟨Tryz.f247, _, Tryz.func247, rfl, by kernel_rfl, by kernel_rfl⟩
theorem fo248 : Fun1 Tryz.prog EE 248 af248 := ⟨Tryz.f248, _, Tryz.func248, rfl, by kernel_rfl, by kernel_rfl⟩
theorem fo249 : Fun1 Tryz.prog EE 249 af249 := ⟨Tryz.f249, _, Tryz.func249, rfl, by kernel_rfl, by kernel_rfl⟩
theorem fo252 : Fun1 Tryz.prog EE 252 af252 := ⟨Tryz.f252, _, Tryz.func252, rfl, by kernel_rfl, by kernel_rfl⟩
theorem fo253 : Fun1 Tryz.prog EE 253 af253 := ⟨Tryz.f253, _, Tryz.func253, rfl, by kernel_rfl, by kernel_rfl⟩
theorem fo254 : Fun1 Tryz.prog EE 254 af254 := ⟨Tryz.f254, _, Tryz.func254, rfl, by kernel_rfl, by kernel_rfl⟩
theorem fo255 : Fun1 Tryz.prog EE 255 af255 := ⟨Tryz.f255, _, Tryz.func255, rfl, by kernel_rfl, by kernel_rfl⟩
theorem fo257 : Fun1 Tryz.prog EE 257 af257 := ⟨Tryz.f257, _, Tryz.func257, rfl, by kernel_rfl, by kernel_rfl⟩
theorem fo258 : Fun1 Tryz.prog EE 258 af258 := ⟨Tryz.f258, _, Tryz.func258, rfl, by kernel_rfl, by kernel_rfl⟩
theorem fo261 : Fun1 Tryz.prog EE 261 af261 := ⟨Tryz.f261, _, Tryz.func261, rfl, by kernel_rfl, by kernel_rfl⟩
theorem fo268 : Fun1 Tryz.prog EE 268 af268 := ⟨Tryz.f268, _, Tryz.func268, rfl, by kernel_rfl, by kernel_rfl⟩
theorem fo271 : Fun1 Tryz.prog EE 271 af271 := ⟨Tryz.f271, _, Tryz.func271, rfl, by kernel_rfl, by kernel_rfl⟩
theorem fo272 : Fun1 Tryz.prog EE 272 af272 := ⟨Tryz.f272, _, Tryz.func272, rfl, by kernel_rfl, by kernel_rfl⟩
theorem fo287 : Fun1 Tryz.prog EE 287 af287 := ⟨Tryz.f287, _, Tryz.func287, rfl, by kernel_rfl, by kernel_rfl⟩
theorem fo288 : Fun1 Tryz.prog EE 288 af288 := ⟨Tryz.f288, _, Tryz.func288, rfl, by kernel_rfl, by kernel_rfl⟩
theorem fo291 : Fun1 Tryz.prog EE 291 af291 := ⟨Tryz.f291, _, Tryz.func291, rfl, by kernel_rfl, by kernel_rfl⟩
theorem fo294 : Fun1 Tryz.prog EE 294 af294 := ⟨Tryz.f294, _, Tryz.func294, rfl, by kernel_rfl, by kernel_rfl⟩
theorem fo298 : Fun1 Tryz.prog EE 298 af298 := ⟨Tryz.f298, _, Tryz.func298, rfl, by kernel_rfl, by kernel_rfl⟩
theorem fo301 : Fun1 Tryz.prog EE 301 af301 := ⟨Tryz.f301, _, Tryz.func301, rfl, by kernel_rfl, by kernel_rfl⟩
theorem fo302 : Fun1 Tryz.prog EE 302 af302 := ⟨Tryz.f302, _, Tryz.func302, rfl, by kernel_rfl, by kernel_rfl⟩
theorem fo304 : Fun1 Tryz.prog EE 304 af304 := ⟨Tryz.f304, _, Tryz.func304, rfl, by kernel_rfl, by kernel_rfl⟩
theorem fo305 : Fun1 Tryz.prog EE 305 af305 := ⟨Tryz.f305, _, Tryz.func305, rfl, by kernel_rfl, by kernel_rfl⟩
theorem fo307 : Fun1 Tryz.prog EE 307 af307 := ⟨Tryz.f307, _, Tryz.func307, rfl, by kernel_rfl, by kernel_rfl⟩
theorem fo308 : Fun1 Tryz.prog EE 308 af308 := ⟨Tryz.f308, _, Tryz.func308, rfl, by kernel_rfl, by kernel_rfl⟩
theorem fo310 : Fun1 Tryz.prog EE 310 af310 := ⟨Tryz.f310, _, Tryz.func310, rfl, by kernel_rfl, by kernel_rfl⟩
theorem fo313 : Fun1 Tryz.prog EE 313 af313 := ⟨Tryz.f313, _, Tryz.func313, rfl, by kernel_rfl, by kernel_rfl⟩
theorem fo314 : Fun1 Tryz.prog EE 314 af314 := ⟨Tryz.f314, _, Tryz.func314, rfl, by kernel_rfl, by kernel_rfl⟩
theorem fo316 : Fun1 Tryz.prog EE 316 af316 := ⟨Tryz.f316, _, Tryz.func316, rfl, by kernel_rfl, by kernel_rfl⟩
theorem fo317 : Fun1 Tryz.prog EE 317 af317 := ⟨Tryz.f317, _, Tryz.func317, rfl, by kernel_rfl, by kernel_rfl⟩
theorem fo319 : Fun1 Tryz.prog EE 319 af319 := ⟨Tryz.f319, _, Tryz.func319, rfl, by kernel_rfl, by kernel_rfl⟩
theorem fo320 : Fun1 Tryz.prog EE 320 af320 := ⟨Tryz.f320, _, Tryz.func320, rfl, by kernel_rfl, by kernel_rfl⟩
theorem fo330 : Fun1 Tryz.prog EE 330 af330 := ⟨Tryz.f330, _, Tryz.func330, rfl, by kernel_rfl, by kernel_rfl⟩
theorem fo333 : Fun1 Tryz.prog EE 333 af333 := ⟨Tryz.f333, _, Tryz.func333, rfl, by kernel_rfl, by kernel_rfl⟩
end Go.Ab
