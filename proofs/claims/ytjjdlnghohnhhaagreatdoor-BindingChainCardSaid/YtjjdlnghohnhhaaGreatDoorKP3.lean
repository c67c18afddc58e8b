/- Each function laid out is the compiled one. No condition. -/
import Derived.Test.YtjjdlnghohnhhaaGreatDoorKS3
set_option maxRecDepth 100000
set_option maxHeartbeats 0
namespace Go.Ab
open Go Go.Proofs
theorem so207 : Sh1 EE 207 s207F := ⟨af207, h207, by kernel_rfl, by kernel_rfl⟩
theorem so208 : Sh1 EE 208 s208F := ⟨af208, h208, by kernel_rfl, by kernel_rfl⟩
theorem so209 : Sh1 EE 209 s209F := ⟨af209, h209, by kernel_rfl, by kernel_rfl⟩
theorem so210 : Sh1 EE 210 s210F := ⟨af210, h210, by kernel_rfl, by kernel_rfl⟩
theorem so211 : Sh1 EE 211 s211F := ⟨af211, h211, by kernel_rfl, by kernel_rfl⟩
theorem so219 : Sh1 EE 219 s219F := ⟨af219, h219, by kernel_rfl, by kernel_rfl⟩
theorem so222 : Sh1 EE 222 s222F := ⟨af222, h222, by kernel_rfl, by kernel_rfl⟩
theorem so226 : Sh1 EE 226 s226F := ⟨af226, h226, by kernel_rfl, by kernel_rfl⟩
theorem so227 : Sh1 EE 227 s227F := ⟨af227, h227, by kernel_rfl, by kernel_rfl⟩
theorem so228 : Sh1 EE 228 s228F := ⟨af228, h228, by kernel_rfl, by kernel_rfl⟩
theorem so229 : Sh1 EE 229 s229F := ⟨af229, h229, by kernel_rfl, by kernel_rfl⟩
theorem so230 : Sh1 EE 230 s230F := ⟨af230, h230, by kernel_rfl, by kernel_rfl⟩
theorem so231 : Sh1 EE 231 s231F := ⟨af231, h231, by kernel_rfl, by kernel_rfl⟩
theorem so232 : Sh1 EE 232 s232F := ⟨af232, h232, by kernel_rfl, by kernel_rfl⟩
theorem so233 : Sh1 EE 233 s233F := ⟨af233, h233, by kernel_rfl, by kernel_rfl⟩
theorem so234 : Sh1 EE 234 s234F := ⟨af234, h234, by kernel_rfl, by kernel_rfl⟩
theorem so235 : Sh1 EE 235 s235F := ⟨af235, h235, by kernel_rfl, by kernel_rfl⟩
theorem so236 : Sh1 EE 236 s236F := ⟨af236, h236, by kernel_rfl, by kernel_rfl⟩
theorem so237 : Sh1 EE 237 s237F := ⟨af237, h237, by kernel_rfl, by kernel_rfl⟩
theorem so238 : Sh1 EE 238 s238F := ⟨af238, h238, by kernel_rfl, by kernel_rfl⟩
theorem so239 : Sh1 EE 239 s239F := ⟨af239, h239, by kernel_rfl, by kernel_rfl⟩
theorem so240 : Sh1 EE 240 s240F := ⟨af240, h240, by kernel_rfl, by kernel_rfl⟩
theorem so241 : Sh1 EE 241 s241F := ⟨af241, h241, by kernel_rfl, by kernel_rfl⟩
theorem so242 : Sh1 EE 242 s242F := ⟨af242, h242, by kernel_rfl, by kernel_rfl⟩
theorem so243 : Sh1 EE 243 s243F := ⟨af243, h243, by kernel_rfl, by kernel_rfl⟩
theorem so244 : Sh1 EE 244 s244F := ⟨af244, h244, by kernel_rfl, by kernel_rfl⟩
theorem so246 : Sh1 EE 246 s246F := ⟨af246, h246, by kernel_rfl, by kernel_rfl⟩
theorem so247 : Sh1 EE 247 s247F := ⟨af247, h247, by kernel_rfl, by kernel_rfl⟩
theorem so248 : Sh1 EE 248 s248F := ⟨af248, h248, by kernel_rfl, by kernel_rfl⟩
theorem so249 : Sh1 EE 249 s249F := ⟨af249, h249, by kernel_rfl, by kernel_rfl⟩
theorem so252 : Sh1 EE 252 s252F := ⟨af252, h252, by kernel_rfl, by kernel_rfl⟩
theorem so253 : Sh1 EE 253 s253F := ⟨af253, h253, by kernel_rfl, by kernel_rfl⟩
theorem so254 : Sh1 EE 254 s254F := ⟨af254, h254, by kernel_rfl, by kernel_rfl⟩
theorem so255 : Sh1 EE 255 s255F := ⟨af255, h255, by kernel_rfl, by kernel_rfl⟩
theorem so257 : Sh1 EE 257 s257F := ⟨af257, h257, by kernel_rfl, by kernel_rfl⟩
theorem so258 : Sh1 EE 258 s258F := ⟨af258, h258, by kernel_rfl, by kernel_rfl⟩
theorem so261 : Sh1 EE 261 s261F := ⟨af261, h261, by kernel_rfl, by kernel_rfl⟩
theorem so268 : Sh1 EE 268 s268F := ⟨af268, h268, by kernel_rfl, by kernel_rfl⟩
theorem so271 : Sh1 EE 271 s271F := ⟨af271, h271, by kernel_rfl, by kernel_rfl⟩
theorem so272 : Sh1 EE 272 s272F := ⟨af272, h272, by kernel_rfl, by kernel_rfl⟩
theorem so287 : Sh1 EE 287 s287F := ⟨af287, h287, by kernel_rfl, by kernel_rfl⟩
theorem so288 : Sh1 EE 288 s288F := ⟨af288, h288, by kernel_rfl, by kernel_rfl⟩
theorem so291 : Sh1 EE 291 s291F := ⟨af291, h291, by kernel_rfl, by kernel_rfl⟩
theorem so294 : Sh1 EE 294 s294F := ⟨af294, h294, by kernel_rfl, by kernel_rfl⟩
theorem so298 : Sh1 EE 298 s298F := ⟨af298, h298, by kernel_rfl, by kernel_rfl⟩
theorem so301 : Sh1 EE 301 s301F := ⟨af301, h301, by kernel_rfl, by kernel_rfl⟩
theorem so302 : Sh1 EE 302 s302F := ⟨af302, h302, by kernel_rfl, by kernel_rfl⟩
theorem so304 : Sh1 EE 304 s304F := ⟨af304, h304, by kernel_rfl, by kernel_rfl⟩
theorem so305 : Sh1 EE 305 s305F := ⟨af305, h305, by kernel_rfl, by kernel_rfl⟩
theorem so307 : Sh1 EE 307 s307F := ⟨af307, h307, by kernel_rfl, by kernel_rfl⟩
theorem so308 : Sh1 EE 308 s308F := ⟨af308, h308, by kernel_rfl, by kernel_rfl⟩
theorem so310 : Sh1 EE 310 s310F := ⟨af310, h310, by kernel_rfl, by kernel_rfl⟩
theorem so313 : Sh1 EE 313 s313F := ⟨af313, h313, by kernel_rfl, by kernel_rfl⟩
theorem so314 : Sh1 EE 314 s314F := ⟨af314, h314, by kernel_rfl, by kernel_rfl⟩
theorem so316 : Sh1 EE 316 s316F := ⟨af316, h316, by kernel_rfl, by kernel_rfl⟩
theorem so317 : Sh1 EE 317 s317F := ⟨af317, h317, by kernel_rfl, by kernel_rfl⟩
theorem so319 : Sh1 EE 319 s319F := ⟨af319, h319, by kernel_rfl, by kernel_rfl⟩
theorem so320 : Sh1 EE 320 s320F := ⟨af320, h320, by kernel_rfl, by kernel_rfl⟩
theorem so330 : Sh1 EE 330 s330F := ⟨af330, h330, by kernel_rfl, by kernel_rfl⟩
theorem so333 : Sh1 EE 333 s333F := ⟨af333, h333, by kernel_rfl, by kernel_rfl⟩
end Go.Ab
