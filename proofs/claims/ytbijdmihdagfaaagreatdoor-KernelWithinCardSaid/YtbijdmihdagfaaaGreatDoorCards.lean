/-
  DERIVED. GIVEN WITH THE SEED: THE CARDS: each row of YtbijdmihdagfaaaGreatDoorRows.lean that lists a variable, with what it lists TIED to the program's text (the seventh form; the later family's looks); each row that meets fmt, with fmt's text TOLD by the authors' own Lean function (tested against real Go, not proved from fmt's source: count such statements apart). THE CARD IS WHAT COUNTS. Prove the row's statement (the work); the ties are given (YtbijdmihdagfaaaGreatDoorTie.lean); close each card by the builder's one call (the guide's Derived/Test/ToyasCard.lean, 'card_holds'). Laid BY PROGRAM, IN A SANDBOX (cutbox-door.mjs). By AI agents, Wed Nov 11 2026. No macro, syntax, notation, axiom, sorry.
-/
import Derived.Test.YtbijdmihdagfaaaGreatDoorRows
import GoSem.ClaimSeven
namespace Go.Proofs.YtbijdmihdagfaaaGreatDoor
namespace Rows

/-- THE TIED CARD OF 'refinementlaw04.KernelSequents'. -/
def kernelSequentsCard : Claim7 := { stood := { row := kernelSequentsRow, standIns := [], harness := (true, "5c94d3d194f591e8aa9dbbfeaab3e1bf3ff4340d71022215a78f5077d8d34a2b"), looks := true }, kinds := [], alts := [], laidByText := true, laidKinds := [.data, .data, .data, .data, .pinned], laidTests := true, laidLooks := .later }
def KernelSequentsCardSaid : Prop := Claim7.holds Tryz.pinned (.plain (OpenSpec.ofChange kernelSequentsSpec)) kernelSequentsCard

/-- THE TIED CARD OF 'refinementlaw04.KernelWithin'. -/
def kernelWithinCard : Claim7 := { stood := { row := kernelWithinRow, standIns := [], harness := (true, "5c94d3d194f591e8aa9dbbfeaab3e1bf3ff4340d71022215a78f5077d8d34a2b"), looks := true }, kinds := [], alts := [], laidByText := true, laidKinds := [.data, .data, .data, .data, .pinned], laidTests := true, laidLooks := .later }
def KernelWithinCardSaid : Prop := Claim7.holds Tryz.pinned (.plain (OpenSpec.ofChange kernelWithinSpec)) kernelWithinCard

/-- THE SECOND FORM's CARD OF 'refinementlaw04.KernelSequents'. -/
def kernelSequentsUptoCard : Claim7 := { stood := { row := kernelSequentsUptoRow, standIns := [], harness := (true, "5c94d3d194f591e8aa9dbbfeaab3e1bf3ff4340d71022215a78f5077d8d34a2b"), looks := true }, kinds := [], alts := [], laidByText := true, laidKinds := [.data, .data, .data, .data, .pinned], laidTests := true, laidLooks := .later }
def KernelSequentsUptoCardSaid : Prop := Claim7.holds Tryz.pinned (.plain (OpenSpec.upto kernelSequentsSpec)) kernelSequentsUptoCard

/-- THE SECOND FORM's CARD OF 'refinementlaw04.KernelWithin'. -/
def kernelWithinUptoCard : Claim7 := { stood := { row := kernelWithinUptoRow, standIns := [], harness := (true, "5c94d3d194f591e8aa9dbbfeaab3e1bf3ff4340d71022215a78f5077d8d34a2b"), looks := true }, kinds := [], alts := [], laidByText := true, laidKinds := [.data, .data, .data, .data, .pinned], laidTests := true, laidLooks := .later }
def KernelWithinUptoCardSaid : Prop := Claim7.holds Tryz.pinned (.plain (OpenSpec.upto kernelWithinSpec)) kernelWithinUptoCard
end Rows
end Go.Proofs.YtbijdmihdagfaaaGreatDoor
