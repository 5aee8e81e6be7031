/-
  DERIVED. GIVEN WITH THE SEED: THE CARDS: each row of YtpkgembbjlebcaaGreatDoorRows.lean that lists a variable, with what it lists TIED to the program's text (the seventh form; the later family's looks); each row that meets fmt, with fmt's text TOLD by the authors' own Lean function (tested against real Go, not proved from fmt's source: count such statements apart). THE CARD IS WHAT COUNTS. Prove the row's statement (the work); the ties are given (YtpkgembbjlebcaaGreatDoorTie.lean); close each card by the builder's one call (the guide's Derived/Test/ToyasCard.lean, 'card_holds'). Laid BY PROGRAM, IN A SANDBOX (cutbox-door.mjs). By AI agents, Wed Nov 11 2026. No macro, syntax, notation, axiom, sorry.
-/
import Derived.Test.YtpkgembbjlebcaaGreatDoorRows
import GoSem.ClaimSeven
namespace Go.Proofs.YtpkgembbjlebcaaGreatDoor
namespace Rows

/-- THE TIED CARD OF 'corbellaw06.TermConsts'. -/
def termConstsCard : Claim7 := { stood := { row := termConstsRow, standIns := [], harness := (true, "82fdbe966a22fdddb8038fca95a02d402aa793bd1a15065bfa7eb306955dcd16"), looks := true }, kinds := [], alts := [], laidByText := true, laidKinds := [.data, .data, .data, .data, .sentinel, .sentinel, .pinned], laidTests := true, laidLooks := .later }
def TermConstsCardSaid : Prop := Claim7.holds Tryz.pinned (.plain (OpenSpec.ofChange termConstsSpec)) termConstsCard

/-- THE TIED CARD OF 'corbellaw06.TermClosed'. -/
def termClosedCard : Claim7 := { stood := { row := termClosedRow, standIns := [], harness := (true, "82fdbe966a22fdddb8038fca95a02d402aa793bd1a15065bfa7eb306955dcd16"), looks := true }, kinds := [], alts := [], laidByText := true, laidKinds := [.data, .data, .data, .data, .sentinel, .sentinel, .pinned], laidTests := true, laidLooks := .later }
def TermClosedCardSaid : Prop := Claim7.holds Tryz.pinned (.plain (OpenSpec.ofChange termClosedSpec)) termClosedCard

/-- THE TIED CARD OF 'corbellaw10.AssignConverts'. -/
def assignConvertsCard : Claim7 := { stood := { row := assignConvertsRow, standIns := [], harness := (true, "82fdbe966a22fdddb8038fca95a02d402aa793bd1a15065bfa7eb306955dcd16"), looks := true }, kinds := [], alts := [], laidByText := true, laidKinds := [.data, .data, .data, .data, .sentinel, .sentinel, .pinned], laidTests := true, laidLooks := .later }
def AssignConvertsCardSaid : Prop := Claim7.holds Tryz.pinned (.plain (OpenSpec.ofChange assignConvertsSpec)) assignConvertsCard

/-- THE TIED CARD OF 'corbellaw10.AssignPlain'. -/
def assignPlainCard : Claim7 := { stood := { row := assignPlainRow, standIns := [], harness := (true, "82fdbe966a22fdddb8038fca95a02d402aa793bd1a15065bfa7eb306955dcd16"), looks := true }, kinds := [], alts := [], laidByText := true, laidKinds := [.data, .data, .data, .data, .sentinel, .sentinel, .pinned], laidTests := true, laidLooks := .later }
def AssignPlainCardSaid : Prop := Claim7.holds Tryz.pinned (.plain (OpenSpec.ofChange assignPlainSpec)) assignPlainCard

/-- THE TIED CARD OF 'corbellaw10.AssignShift'. -/
def assignShiftCard : Claim7 := { stood := { row := assignShiftRow, standIns := [], harness := (true, "82fdbe966a22fdddb8038fca95a02d402aa793bd1a15065bfa7eb306955dcd16"), looks := true }, kinds := [], alts := [], laidByText := true, laidKinds := [.data, .data, .data, .data, .sentinel, .sentinel, .pinned], laidTests := true, laidLooks := .later }
def AssignShiftCardSaid : Prop := Claim7.holds Tryz.pinned (.plain (OpenSpec.ofChange assignShiftSpec)) assignShiftCard

/-- THE TIED CARD OF 'corbellaw10.AssignTwice'. -/
def assignTwiceCard : Claim7 := { stood := { row := assignTwiceRow, standIns := [], harness := (true, "82fdbe966a22fdddb8038fca95a02d402aa793bd1a15065bfa7eb306955dcd16"), looks := true }, kinds := [], alts := [], laidByText := true, laidKinds := [.data, .data, .data, .data, .sentinel, .sentinel, .pinned], laidTests := true, laidLooks := .later }
def AssignTwiceCardSaid : Prop := Claim7.holds Tryz.pinned (.plain (OpenSpec.ofChange assignTwiceSpec)) assignTwiceCard

/-- THE TIED CARD OF 'corbellaw12.InlineShift'. -/
def inlineShiftCard : Claim7 := { stood := { row := inlineShiftRow, standIns := [], harness := (true, "82fdbe966a22fdddb8038fca95a02d402aa793bd1a15065bfa7eb306955dcd16"), looks := true }, kinds := [], alts := [], laidByText := true, laidKinds := [.data, .data, .data, .data, .sentinel, .sentinel, .pinned], laidTests := true, laidLooks := .later }
def InlineShiftCardSaid : Prop := Claim7.holds Tryz.pinned (.plain (OpenSpec.ofChange inlineShiftSpec)) inlineShiftCard

/-- THE TIED CARD OF 'corbellaw12.InlineOnce'. -/
def inlineOnceCard : Claim7 := { stood := { row := inlineOnceRow, standIns := [], harness := (true, "82fdbe966a22fdddb8038fca95a02d402aa793bd1a15065bfa7eb306955dcd16"), looks := true }, kinds := [], alts := [], laidByText := true, laidKinds := [.data, .data, .data, .data, .sentinel, .sentinel, .pinned], laidTests := true, laidLooks := .later }
def InlineOnceCardSaid : Prop := Claim7.holds Tryz.pinned (.plain (OpenSpec.ofChange inlineOnceSpec)) inlineOnceCard

/-- THE TIED CARD OF 'corbellaw13.ClosureConverts'. -/
def closureConvertsCard : Claim7 := { stood := { row := closureConvertsRow, standIns := [], harness := (true, "82fdbe966a22fdddb8038fca95a02d402aa793bd1a15065bfa7eb306955dcd16"), looks := true }, kinds := [], alts := [], laidByText := true, laidKinds := [.data, .data, .data, .data, .sentinel, .sentinel, .pinned], laidTests := true, laidLooks := .later }
def ClosureConvertsCardSaid : Prop := Claim7.holds Tryz.pinned (.plain (OpenSpec.ofChange closureConvertsSpec)) closureConvertsCard

/-- THE TIED CARD OF 'corbellaw13.ClosureNone'. -/
def closureNoneCard : Claim7 := { stood := { row := closureNoneRow, standIns := [], harness := (true, "82fdbe966a22fdddb8038fca95a02d402aa793bd1a15065bfa7eb306955dcd16"), looks := true }, kinds := [], alts := [], laidByText := true, laidKinds := [.data, .data, .data, .data, .sentinel, .sentinel, .pinned], laidTests := true, laidLooks := .later }
def ClosureNoneCardSaid : Prop := Claim7.holds Tryz.pinned (.plain (OpenSpec.ofChange closureNoneSpec)) closureNoneCard

/-- THE TIED CARD OF 'corbellaw13.ClosureShift'. -/
def closureShiftCard : Claim7 := { stood := { row := closureShiftRow, standIns := [], harness := (true, "82fdbe966a22fdddb8038fca95a02d402aa793bd1a15065bfa7eb306955dcd16"), looks := true }, kinds := [], alts := [], laidByText := true, laidKinds := [.data, .data, .data, .data, .sentinel, .sentinel, .pinned], laidTests := true, laidLooks := .later }
def ClosureShiftCardSaid : Prop := Claim7.holds Tryz.pinned (.plain (OpenSpec.ofChange closureShiftSpec)) closureShiftCard

/-- THE TIED CARD OF 'corbellaw13.ClosureApart'. -/
def closureApartCard : Claim7 := { stood := { row := closureApartRow, standIns := [], harness := (true, "82fdbe966a22fdddb8038fca95a02d402aa793bd1a15065bfa7eb306955dcd16"), looks := true }, kinds := [], alts := [], laidByText := true, laidKinds := [.data, .data, .data, .data, .sentinel, .sentinel, .pinned], laidTests := true, laidLooks := .later }
def ClosureApartCardSaid : Prop := Claim7.holds Tryz.pinned (.plain (OpenSpec.ofChange closureApartSpec)) closureApartCard

/-- THE SECOND FORM's CARD OF 'corbellaw06.TermConsts'. -/
def termConstsUptoCard : Claim7 := { stood := { row := termConstsUptoRow, standIns := [], harness := (true, "82fdbe966a22fdddb8038fca95a02d402aa793bd1a15065bfa7eb306955dcd16"), looks := true }, kinds := [], alts := [], laidByText := true, laidKinds := [.data, .data, .data, .data, .sentinel, .sentinel, .pinned], laidTests := true, laidLooks := .later }
def TermConstsUptoCardSaid : Prop := Claim7.holds Tryz.pinned (.plain (OpenSpec.upto termConstsSpec)) termConstsUptoCard

/-- THE SECOND FORM's CARD OF 'corbellaw06.TermClosed'. -/
def termClosedUptoCard : Claim7 := { stood := { row := termClosedUptoRow, standIns := [], harness := (true, "82fdbe966a22fdddb8038fca95a02d402aa793bd1a15065bfa7eb306955dcd16"), looks := true }, kinds := [], alts := [], laidByText := true, laidKinds := [.data, .data, .data, .data, .sentinel, .sentinel, .pinned], laidTests := true, laidLooks := .later }
def TermClosedUptoCardSaid : Prop := Claim7.holds Tryz.pinned (.plain (OpenSpec.upto termClosedSpec)) termClosedUptoCard

/-- THE SECOND FORM's CARD OF 'corbellaw10.AssignConverts'. -/
def assignConvertsUptoCard : Claim7 := { stood := { row := assignConvertsUptoRow, standIns := [], harness := (true, "82fdbe966a22fdddb8038fca95a02d402aa793bd1a15065bfa7eb306955dcd16"), looks := true }, kinds := [], alts := [], laidByText := true, laidKinds := [.data, .data, .data, .data, .sentinel, .sentinel, .pinned], laidTests := true, laidLooks := .later }
def AssignConvertsUptoCardSaid : Prop := Claim7.holds Tryz.pinned (.plain (OpenSpec.upto assignConvertsSpec)) assignConvertsUptoCard

/-- THE SECOND FORM's CARD OF 'corbellaw10.AssignPlain'. -/
def assignPlainUptoCard : Claim7 := { stood := { row := assignPlainUptoRow, standIns := [], harness := (true, "82fdbe966a22fdddb8038fca95a02d402aa793bd1a15065bfa7eb306955dcd16"), looks := true }, kinds := [], alts := [], laidByText := true, laidKinds := [.data, .data, .data, .data, .sentinel, .sentinel, .pinned], laidTests := true, laidLooks := .later }
def AssignPlainUptoCardSaid : Prop := Claim7.holds Tryz.pinned (.plain (OpenSpec.upto assignPlainSpec)) assignPlainUptoCard

/-- THE SECOND FORM's CARD OF 'corbellaw10.AssignShift'. -/
def assignShiftUptoCard : Claim7 := { stood := { row := assignShiftUptoRow, standIns := [], harness := (true, "82fdbe966a22fdddb8038fca95a02d402aa793bd1a15065bfa7eb306955dcd16"), looks := true }, kinds := [], alts := [], laidByText := true, laidKinds := [.data, .data, .data, .data, .sentinel, .sentinel, .pinned], laidTests := true, laidLooks := .later }
def AssignShiftUptoCardSaid : Prop := Claim7.holds Tryz.pinned (.plain (OpenSpec.upto assignShiftSpec)) assignShiftUptoCard

/-- THE SECOND FORM's CARD OF 'corbellaw10.AssignTwice'. -/
def assignTwiceUptoCard : Claim7 := { stood := { row := assignTwiceUptoRow, standIns := [], harness := (true, "82fdbe966a22fdddb8038fca95a02d402aa793bd1a15065bfa7eb306955dcd16"), looks := true }, kinds := [], alts := [], laidByText := true, laidKinds := [.data, .data, .data, .data, .sentinel, .sentinel, .pinned], laidTests := true, laidLooks := .later }
def AssignTwiceUptoCardSaid : Prop := Claim7.holds Tryz.pinned (.plain (OpenSpec.upto assignTwiceSpec)) assignTwiceUptoCard

/-- THE SECOND FORM's CARD OF 'corbellaw12.InlineShift'. -/
def inlineShiftUptoCard : Claim7 := { stood := { row := inlineShiftUptoRow, standIns := [], harness := (true, "82fdbe966a22fdddb8038fca95a02d402aa793bd1a15065bfa7eb306955dcd16"), looks := true }, kinds := [], alts := [], laidByText := true, laidKinds := [.data, .data, .data, .data, .sentinel, .sentinel, .pinned], laidTests := true, laidLooks := .later }
def InlineShiftUptoCardSaid : Prop := Claim7.holds Tryz.pinned (.plain (OpenSpec.upto inlineShiftSpec)) inlineShiftUptoCard

/-- THE SECOND FORM's CARD OF 'corbellaw12.InlineOnce'. -/
def inlineOnceUptoCard : Claim7 := { stood := { row := inlineOnceUptoRow, standIns := [], harness := (true, "82fdbe966a22fdddb8038fca95a02d402aa793bd1a15065bfa7eb306955dcd16"), looks := true }, kinds := [], alts := [], laidByText := true, laidKinds := [.data, .data, .data, .data, .sentinel, .sentinel, .pinned], laidTests := true, laidLooks := .later }
def InlineOnceUptoCardSaid : Prop := Claim7.holds Tryz.pinned (.plain (OpenSpec.upto inlineOnceSpec)) inlineOnceUptoCard

/-- THE SECOND FORM's CARD OF 'corbellaw13.ClosureConverts'. -/
def closureConvertsUptoCard : Claim7 := { stood := { row := closureConvertsUptoRow, standIns := [], harness := (true, "82fdbe966a22fdddb8038fca95a02d402aa793bd1a15065bfa7eb306955dcd16"), looks := true }, kinds := [], alts := [], laidByText := true, laidKinds := [.data, .data, .data, .data, .sentinel, .sentinel, .pinned], laidTests := true, laidLooks := .later }
def ClosureConvertsUptoCardSaid : Prop := Claim7.holds Tryz.pinned (.plain (OpenSpec.upto closureConvertsSpec)) closureConvertsUptoCard

/-- THE SECOND FORM's CARD OF 'corbellaw13.ClosureNone'. -/
def closureNoneUptoCard : Claim7 := { stood := { row := closureNoneUptoRow, standIns := [], harness := (true, "82fdbe966a22fdddb8038fca95a02d402aa793bd1a15065bfa7eb306955dcd16"), looks := true }, kinds := [], alts := [], laidByText := true, laidKinds := [.data, .data, .data, .data, .sentinel, .sentinel, .pinned], laidTests := true, laidLooks := .later }
def ClosureNoneUptoCardSaid : Prop := Claim7.holds Tryz.pinned (.plain (OpenSpec.upto closureNoneSpec)) closureNoneUptoCard

/-- THE SECOND FORM's CARD OF 'corbellaw13.ClosureShift'. -/
def closureShiftUptoCard : Claim7 := { stood := { row := closureShiftUptoRow, standIns := [], harness := (true, "82fdbe966a22fdddb8038fca95a02d402aa793bd1a15065bfa7eb306955dcd16"), looks := true }, kinds := [], alts := [], laidByText := true, laidKinds := [.data, .data, .data, .data, .sentinel, .sentinel, .pinned], laidTests := true, laidLooks := .later }
def ClosureShiftUptoCardSaid : Prop := Claim7.holds Tryz.pinned (.plain (OpenSpec.upto closureShiftSpec)) closureShiftUptoCard

/-- THE SECOND FORM's CARD OF 'corbellaw13.ClosureApart'. -/
def closureApartUptoCard : Claim7 := { stood := { row := closureApartUptoRow, standIns := [], harness := (true, "82fdbe966a22fdddb8038fca95a02d402aa793bd1a15065bfa7eb306955dcd16"), looks := true }, kinds := [], alts := [], laidByText := true, laidKinds := [.data, .data, .data, .data, .sentinel, .sentinel, .pinned], laidTests := true, laidLooks := .later }
def ClosureApartUptoCardSaid : Prop := Claim7.holds Tryz.pinned (.plain (OpenSpec.upto closureApartSpec)) closureApartUptoCard
end Rows
end Go.Proofs.YtpkgembbjlebcaaGreatDoor
