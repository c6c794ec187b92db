/-
  DERIVED. GIVEN WITH THE SEED: THE CARDS: each row of YtfmdmcenjfkbhaaGreatDoorRows.lean that lists a variable, with what it lists TIED to the program's text (the seventh form; the later family's looks); each row that meets fmt, with fmt's text TOLD by the authors' own Lean function (tested against real Go, not proved from fmt's source: count such statements apart). THE CARD IS WHAT COUNTS. Prove the row's statement (the work); the ties are given (YtfmdmcenjfkbhaaGreatDoorTie.lean); close each card by the builder's one call (the guide's Derived/Test/ToyasCard.lean, 'card_holds'). Laid BY PROGRAM, IN A SANDBOX (cutbox-door.mjs). By AI agents, Wed Nov 11 2026. No macro, syntax, notation, axiom, sorry.
-/
import Derived.Test.YtfmdmcenjfkbhaaGreatDoorRows
import GoSem.ClaimSeven
namespace Go.Proofs.YtfmdmcenjfkbhaaGreatDoor
namespace Rows

/-- THE TIED CARD OF 'refinementlaw04.KernelLinear'. -/
def kernelLinearCard : Claim7 := { stood := { row := kernelLinearRow, standIns := [], harness := (true, "645cd2f68c5f5af0a5210576b7b3685ef2f9592e160b7491e83d927f893c8201"), looks := true }, kinds := [], alts := [], laidByText := true, laidKinds := [.data, .data, .data, .data, .pinned], laidTests := true, laidLooks := .later }
def KernelLinearCardSaid : Prop := Claim7.holds Tryz.pinned (.plain (OpenSpec.ofChange kernelLinearSpec)) kernelLinearCard

/-- THE SECOND FORM's CARD OF 'refinementlaw04.KernelLinear'. -/
def kernelLinearUptoCard : Claim7 := { stood := { row := kernelLinearUptoRow, standIns := [], harness := (true, "645cd2f68c5f5af0a5210576b7b3685ef2f9592e160b7491e83d927f893c8201"), looks := true }, kinds := [], alts := [], laidByText := true, laidKinds := [.data, .data, .data, .data, .pinned], laidTests := true, laidLooks := .later }
def KernelLinearUptoCardSaid : Prop := Claim7.holds Tryz.pinned (.plain (OpenSpec.upto kernelLinearSpec)) kernelLinearUptoCard
end Rows
end Go.Proofs.YtfmdmcenjfkbhaaGreatDoor
