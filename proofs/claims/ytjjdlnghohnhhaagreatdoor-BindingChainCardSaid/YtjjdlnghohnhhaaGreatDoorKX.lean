/- Closed facts of the row: what its cells say of the whole program. No condition. -/
import Derived.Test.YtjjdlnghohnhhaaGreatDoorCards
import Derived.Test.YtjjdlnghohnhhaaGreatDoorTie
import Derived.ProofKit
import Derived.LaidMore
import Derived.OpenShut
import Derived.Stop.Joined
import Derived.SevenTiedAt
namespace Go.Proofs.YtjjdlnghohnhhaaGreatDoor
open Go Go.RowKit
set_option maxRecDepth 100000
theorem fnd : Tryz.pinned.checked.prog.funcNamed Rows.bindingChainRow.func = some 3 := by kernel_rfl
theorem noGo : Tryz.pinned.checked.prog.funcs.any Func.goes = false := by kernel_rfl
theorem goes_of {P : Program} (h : P.funcs.any Func.goes = false) (f : FuncId) : P.goes f = false := by
  have hall : ∀ fn ∈ P.funcs, fn.goes = false := by
    intro fn hfn
    obtain ⟨i, hi, rfl⟩ := Array.mem_iff_getElem.1 hfn
    simpa using Array.any_eq_false.1 h i hi
  unfold Program.goes
  rw [h, Bool.and_false, Bool.or_false, List.any_eq_false]
  intro g _ hc
  cases hg : P.funcs[g]? with
  | none => rw [hg] at hc; cases hc
  | some fn =>
    rw [hg] at hc
    have := hall fn (Array.mem_of_getElem? hg)
    rw [Option.any_some, this] at hc
    cases hc
theorem gby : false = Rows.bindingChainRow.goesBy Tryz.pinned.checked.prog := by
  unfold OpenClaim.goesBy Program.goesAt Program.goesFrom
  rw [fnd, Option.any_some, goes_of noGo]
  rfl
theorem inst : Tryz.f3.isInstance Tryz.pinned.checked.prog Rows.bindingChainRow.origin Rows.bindingChainRow.targs := (of_decide_eq_true (by kernel_rfl))
theorem wrp : Tryz.f3.isWrapper Tryz.pinned.checked.prog Rows.bindingChainRow.wrapper Rows.bindingChainRow.mainSum := by unfold Func.isWrapper; first | (rw [if_pos (by decide +kernel)]; kernel_rfl) | (rw [if_neg (by decide +kernel)]; exact ⟨rfl, rfl⟩)
theorem wft : Rows.bindingChainRow.wfByText (OpenSpec.ofChange Rows.bindingChainSpec) = true := by kernel_rfl
theorem mIs : Tryz.pinned.checked.prog.mainIs = some (true, "9c7691eb23658dbf727fcd6cd2215781f43ae7b2a4f612de99d5efaf3931cc4d".toList) := by kernel_rfl
theorem lks : true = Tryz.pinned.checked.prog.looks [] := by kernel_rfl
theorem noStand : ([5].all fun u => !Tryz.prog.wantsStandIn u) = true := by kernel_rfl
theorem call3 : Tryz.prog.funcNamed "bringup/bringuplaw38.BindingChain" = some 3 := by kernel_rfl
end Go.Proofs.YtjjdlnghohnhhaaGreatDoor
