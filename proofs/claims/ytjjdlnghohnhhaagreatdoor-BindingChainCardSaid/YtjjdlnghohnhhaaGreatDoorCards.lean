/-
  DERIVED. GIVEN WITH THE SEED: THE CARDS: each row of YtjjdlnghohnhhaaGreatDoorRows.lean that lists a variable, with what it lists TIED to the program's text (the seventh form; the later family's looks); each row that meets fmt, with fmt's text TOLD by the authors' own Lean function (tested against real Go, not proved from fmt's source: count such statements apart). THE CARD IS WHAT COUNTS. Prove the row's statement (the work); the ties are given (YtjjdlnghohnhhaaGreatDoorTie.lean); close each card by the builder's one call (the guide's Derived/Test/ToyasCard.lean, 'card_holds'). Laid BY PROGRAM, IN A SANDBOX (cutbox-door.mjs). By AI agents, Wed Nov 11 2026. No macro, syntax, notation, axiom, sorry.
-/
import Derived.Test.YtjjdlnghohnhhaaGreatDoorRows
import GoSem.ClaimSeven
namespace Go.Proofs.YtjjdlnghohnhhaaGreatDoor
namespace Rows

/-- THE TIED CARD OF 'bringuplaw38.BindingChain'. -/
def bindingChainCard : Claim7 := { stood := { row := bindingChainRow, standIns := [], harness := (true, "9c7691eb23658dbf727fcd6cd2215781f43ae7b2a4f612de99d5efaf3931cc4d"), looks := true }, kinds := [], alts := [], laidByText := true, laidKinds := [.data], laidTests := true, laidLooks := .later }
def BindingChainCardSaid : Prop := Claim7.holds Tryz.pinned (.plain (OpenSpec.ofChange bindingChainSpec)) bindingChainCard

/-- THE SECOND FORM's CARD OF 'bringuplaw38.BindingChain'. -/
def bindingChainUptoCard : Claim7 := { stood := { row := bindingChainUptoRow, standIns := [], harness := (true, "9c7691eb23658dbf727fcd6cd2215781f43ae7b2a4f612de99d5efaf3931cc4d"), looks := true }, kinds := [], alts := [], laidByText := true, laidKinds := [.data], laidTests := true, laidLooks := .later }
def BindingChainUptoCardSaid : Prop := Claim7.holds Tryz.pinned (.plain (OpenSpec.upto bindingChainSpec)) bindingChainUptoCard
end Rows
end Go.Proofs.YtjjdlnghohnhhaaGreatDoor
