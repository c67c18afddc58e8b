/- BindingChain: whatever the two bytes are, the law returns true and its arguments read as before. Condition: the package-level variable that the row lists reads as the text lays it (the card ties it). -/
import Derived.Test.YtjjdlnghohnhhaaGreatDoorKV
import Derived.Test.YtjjdlnghohnhhaaGreatDoorKX
import Derived.Test.YtjjdlnghohnhhaaGreatDoorKY
namespace Go.Proofs.YtjjdlnghohnhhaaGreatDoor
open Go Go.ChangeShapes Go.WideShapes Go.ChangeAt Go.RowKit
theorem row_holds : Rows.BindingChainSaid :=
  OpenClaim.holds_of_wide 3 Tryz.f3 rfl rfl rfl rfl rfl rfl rfl ⟨rfl, rfl, rfl, rfl, rfl⟩ rfl rfl rfl rfl rfl fnd Tryz.func3 jf inst wrp
    (fun os started H enc _ => lifted os started H enc)
/-- the tied card -/
theorem card_holds : Rows.BindingChainCardSaid :=
  Claim7.holds_tied_plain_at .later [] [.data] true (true, "9c7691eb23658dbf727fcd6cd2215781f43ae7b2a4f612de99d5efaf3931cc4d") true
    row_holds (fun _ h => by cases h) wft (fun _ h => by cases h) bindingChain_row_tie rfl ⟨rfl, rfl⟩ mIs rfl
    (fun f fn hf hfn => by
      obtain rfl : f = 3 := Option.some.inj (call3.symm.trans hf) |>.symm
      obtain rfl : fn = Tryz.f3 := (Option.some.inj (Tryz.func3.symm.trans hfn)).symm
      exact ⟨lks, fun j t ht => by
        rw [Tryz.params3] at ht
        have hm : t ∈ [5] := by simpa using Array.mem_of_getElem? ht
        exact (show Tryz.prog.wantsStandIn t = false by simpa using List.all_eq_true.1 noStand t hm)⟩)
    gby
#print axioms card_holds
end Go.Proofs.YtjjdlnghohnhhaaGreatDoor
