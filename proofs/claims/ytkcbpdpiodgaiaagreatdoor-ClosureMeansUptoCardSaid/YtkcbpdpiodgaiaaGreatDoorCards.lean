/-
  DERIVED. GIVEN WITH THE SEED: THE CARDS: each row of YtkcbpdpiodgaiaaGreatDoorRows.lean that lists a variable, with what it lists TIED to the program's text (the seventh form; the later family's looks); each row that meets fmt, with fmt's text TOLD by the authors' own Lean function (tested against real Go, not proved from fmt's source: count such statements apart). THE CARD IS WHAT COUNTS. Prove the row's statement (the work); the ties are given (YtkcbpdpiodgaiaaGreatDoorTie.lean); close each card by the builder's one call (the guide's Derived/Test/ToyasCard.lean, 'card_holds'). Laid BY PROGRAM, IN A SANDBOX (cutbox-door.mjs). By AI agents, Wed Nov 11 2026. No macro, syntax, notation, axiom, sorry.
-/
import Derived.Test.YtkcbpdpiodgaiaaGreatDoorRows
import GoSem.ClaimSeven
namespace Go.Proofs.YtkcbpdpiodgaiaaGreatDoor
namespace Rows

/-- THE TIED CARD OF 'corbellaw12.InlineMeans'. -/
def inlineMeansCard : Claim7 := { stood := { row := inlineMeansRow, standIns := [], harness := (true, "afd3b12b40e3f924f0a34a152c1b60865710b6308c16d98d3636f9293b94451f"), looks := true }, kinds := [], alts := [], laidByText := true, laidKinds := [.data, .data, .data, .data, .sentinel, .sentinel, .pinned], laidTests := true, laidLooks := .later }
def InlineMeansCardSaid : Prop := Claim7.holds Tryz.pinned (.plain (OpenSpec.ofChange inlineMeansSpec)) inlineMeansCard

/-- THE TIED CARD OF 'corbellaw10.AssignMeans'. -/
def assignMeansCard : Claim7 := { stood := { row := assignMeansRow, standIns := [], harness := (true, "afd3b12b40e3f924f0a34a152c1b60865710b6308c16d98d3636f9293b94451f"), looks := true }, kinds := [], alts := [], laidByText := true, laidKinds := [.data, .data, .data, .data, .sentinel, .sentinel, .pinned], laidTests := true, laidLooks := .later }
def AssignMeansCardSaid : Prop := Claim7.holds Tryz.pinned (.plain (OpenSpec.ofChange assignMeansSpec)) assignMeansCard

/-- THE TIED CARD OF 'corbellaw13.ClosureMeans'. -/
def closureMeansCard : Claim7 := { stood := { row := closureMeansRow, standIns := [], harness := (true, "afd3b12b40e3f924f0a34a152c1b60865710b6308c16d98d3636f9293b94451f"), looks := true }, kinds := [], alts := [], laidByText := true, laidKinds := [.data, .data, .data, .data, .sentinel, .sentinel, .pinned], laidTests := true, laidLooks := .later }
def ClosureMeansCardSaid : Prop := Claim7.holds Tryz.pinned (.plain (OpenSpec.ofChange closureMeansSpec)) closureMeansCard

/-- THE SECOND FORM's CARD OF 'corbellaw12.InlineMeans'. -/
def inlineMeansUptoCard : Claim7 := { stood := { row := inlineMeansUptoRow, standIns := [], harness := (true, "afd3b12b40e3f924f0a34a152c1b60865710b6308c16d98d3636f9293b94451f"), looks := true }, kinds := [], alts := [], laidByText := true, laidKinds := [.data, .data, .data, .data, .sentinel, .sentinel, .pinned], laidTests := true, laidLooks := .later }
def InlineMeansUptoCardSaid : Prop := Claim7.holds Tryz.pinned (.plain (OpenSpec.upto inlineMeansSpec)) inlineMeansUptoCard

/-- THE SECOND FORM's CARD OF 'corbellaw10.AssignMeans'. -/
def assignMeansUptoCard : Claim7 := { stood := { row := assignMeansUptoRow, standIns := [], harness := (true, "afd3b12b40e3f924f0a34a152c1b60865710b6308c16d98d3636f9293b94451f"), looks := true }, kinds := [], alts := [], laidByText := true, laidKinds := [.data, .data, .data, .data, .sentinel, .sentinel, .pinned], laidTests := true, laidLooks := .later }
def AssignMeansUptoCardSaid : Prop := Claim7.holds Tryz.pinned (.plain (OpenSpec.upto assignMeansSpec)) assignMeansUptoCard

/-- THE SECOND FORM's CARD OF 'corbellaw13.ClosureMeans'. -/
def closureMeansUptoCard : Claim7 := { stood := { row := closureMeansUptoRow, standIns := [], harness := (true, "afd3b12b40e3f924f0a34a152c1b60865710b6308c16d98d3636f9293b94451f"), looks := true }, kinds := [], alts := [], laidByText := true, laidKinds := [.data, .data, .data, .data, .sentinel, .sentinel, .pinned], laidTests := true, laidLooks := .later }
def ClosureMeansUptoCardSaid : Prop := Claim7.holds Tryz.pinned (.plain (OpenSpec.upto closureMeansSpec)) closureMeansUptoCard
end Rows
end Go.Proofs.YtkcbpdpiodgaiaaGreatDoor
