/-
  DERIVED. GIVEN WITH THE SEED: THE CARDS: each row of YtgkpjajioancmaaGreatDoorRows.lean that lists a variable, with what it lists TIED to the program's text (the seventh form; the later family's looks); each row that meets fmt, with fmt's text TOLD by the authors' own Lean function (tested against real Go, not proved from fmt's source: count such statements apart). THE CARD IS WHAT COUNTS. Prove the row's statement (the work); the ties are given (YtgkpjajioancmaaGreatDoorTie.lean); close each card by the builder's one call (the guide's Derived/Test/ToyasCard.lean, 'card_holds'). Laid BY PROGRAM, IN A SANDBOX (cutbox-door.mjs). By AI agents, Wed Nov 11 2026. No macro, syntax, notation, axiom, sorry.
-/
import Derived.Test.YtgkpjajioancmaaGreatDoorRows
import GoSem.ClaimSeven
namespace Go.Proofs.YtgkpjajioancmaaGreatDoor
namespace Rows

/-- THE TIED CARD OF 'corbellaw07.ScopeResolves'. -/
def scopeResolvesCard : Claim7 := { stood := { row := scopeResolvesRow, standIns := [], harness := (true, "d607b2b861695ef00d908856b26c487d9a4bd7b0712cc2a89e2408d1af6f9b76"), looks := true }, kinds := [], alts := [], laidByText := true, laidKinds := [.data, .data, .data, .data, .sentinel, .sentinel, .pinned], laidTests := true, laidLooks := .later }
def ScopeResolvesCardSaid : Prop := Claim7.holds Tryz.pinned (.plain (OpenSpec.ofChange scopeResolvesSpec)) scopeResolvesCard

/-- THE TIED CARD OF 'corbellaw07.ScopeTexts'. -/
def scopeTextsCard : Claim7 := { stood := { row := scopeTextsRow, standIns := [], harness := (true, "d607b2b861695ef00d908856b26c487d9a4bd7b0712cc2a89e2408d1af6f9b76"), looks := true }, kinds := [], alts := [], laidByText := true, laidKinds := [.data, .data, .data, .data, .sentinel, .sentinel, .pinned], laidTests := true, laidLooks := .later }
def ScopeTextsCardSaid : Prop := Claim7.holds Tryz.pinned (.plain (OpenSpec.ofChange scopeTextsSpec)) scopeTextsCard

/-- THE TIED CARD OF 'corbellaw07.ScopeNames'. -/
def scopeNamesCard : Claim7 := { stood := { row := scopeNamesRow, standIns := [], harness := (true, "d607b2b861695ef00d908856b26c487d9a4bd7b0712cc2a89e2408d1af6f9b76"), looks := true }, kinds := [], alts := [], laidByText := true, laidKinds := [.data, .data, .data, .data, .sentinel, .sentinel, .pinned], laidTests := true, laidLooks := .later }
def ScopeNamesCardSaid : Prop := Claim7.holds Tryz.pinned (.plain (OpenSpec.ofChange scopeNamesSpec)) scopeNamesCard

/-- THE TIED CARD OF 'corbellaw07.ScopeMeans'. -/
def scopeMeansCard : Claim7 := { stood := { row := scopeMeansRow, standIns := [], harness := (true, "d607b2b861695ef00d908856b26c487d9a4bd7b0712cc2a89e2408d1af6f9b76"), looks := true }, kinds := [], alts := [], laidByText := true, laidKinds := [.data, .data, .data, .data, .sentinel, .sentinel, .pinned], laidTests := true, laidLooks := .later }
def ScopeMeansCardSaid : Prop := Claim7.holds Tryz.pinned (.plain (OpenSpec.ofChange scopeMeansSpec)) scopeMeansCard

/-- THE TIED CARD OF 'corbellaw07.ScopeFree'. -/
def scopeFreeCard : Claim7 := { stood := { row := scopeFreeRow, standIns := [], harness := (true, "d607b2b861695ef00d908856b26c487d9a4bd7b0712cc2a89e2408d1af6f9b76"), looks := true }, kinds := [], alts := [], laidByText := true, laidKinds := [.data, .data, .data, .data, .sentinel, .sentinel, .pinned], laidTests := true, laidLooks := .later }
def ScopeFreeCardSaid : Prop := Claim7.holds Tryz.pinned (.plain (OpenSpec.ofChange scopeFreeSpec)) scopeFreeCard

/-- THE TIED CARD OF 'corbellaw06.TermChecks'. -/
def termChecksCard : Claim7 := { stood := { row := termChecksRow, standIns := [], harness := (true, "d607b2b861695ef00d908856b26c487d9a4bd7b0712cc2a89e2408d1af6f9b76"), looks := true }, kinds := [], alts := [], laidByText := true, laidKinds := [.data, .data, .data, .data, .sentinel, .sentinel, .pinned], laidTests := true, laidLooks := .later }
def TermChecksCardSaid : Prop := Claim7.holds Tryz.pinned (.plain (OpenSpec.ofChange termChecksSpec)) termChecksCard

/-- THE TIED CARD OF 'corbellaw06.TermConsts'. -/
def termConstsCard : Claim7 := { stood := { row := termConstsRow, standIns := [], harness := (true, "d607b2b861695ef00d908856b26c487d9a4bd7b0712cc2a89e2408d1af6f9b76"), looks := true }, kinds := [], alts := [], laidByText := true, laidKinds := [.data, .data, .data, .data, .sentinel, .sentinel, .pinned], laidTests := true, laidLooks := .later }
def TermConstsCardSaid : Prop := Claim7.holds Tryz.pinned (.plain (OpenSpec.ofChange termConstsSpec)) termConstsCard

/-- THE TIED CARD OF 'corbellaw06.TermClosed'. -/
def termClosedCard : Claim7 := { stood := { row := termClosedRow, standIns := [], harness := (true, "d607b2b861695ef00d908856b26c487d9a4bd7b0712cc2a89e2408d1af6f9b76"), looks := true }, kinds := [], alts := [], laidByText := true, laidKinds := [.data, .data, .data, .data, .sentinel, .sentinel, .pinned], laidTests := true, laidLooks := .later }
def TermClosedCardSaid : Prop := Claim7.holds Tryz.pinned (.plain (OpenSpec.ofChange termClosedSpec)) termClosedCard

/-- THE TIED CARD OF 'corbellaw06.TermParts'. -/
def termPartsCard : Claim7 := { stood := { row := termPartsRow, standIns := [], harness := (true, "d607b2b861695ef00d908856b26c487d9a4bd7b0712cc2a89e2408d1af6f9b76"), looks := true }, kinds := [], alts := [], laidByText := true, laidKinds := [.data, .data, .data, .data, .sentinel, .sentinel, .pinned], laidTests := true, laidLooks := .later }
def TermPartsCardSaid : Prop := Claim7.holds Tryz.pinned (.plain (OpenSpec.ofChange termPartsSpec)) termPartsCard

/-- THE TIED CARD OF 'corbellaw06.TermModules'. -/
def termModulesCard : Claim7 := { stood := { row := termModulesRow, standIns := [], harness := (true, "d607b2b861695ef00d908856b26c487d9a4bd7b0712cc2a89e2408d1af6f9b76"), looks := true }, kinds := [], alts := [], laidByText := true, laidKinds := [.data, .data, .data, .data, .sentinel, .sentinel, .pinned], laidTests := true, laidLooks := .later }
def TermModulesCardSaid : Prop := Claim7.holds Tryz.pinned (.plain (OpenSpec.ofChange termModulesSpec)) termModulesCard

/-- THE TIED CARD OF 'corbellaw06.TermShift'. -/
def termShiftCard : Claim7 := { stood := { row := termShiftRow, standIns := [], harness := (true, "d607b2b861695ef00d908856b26c487d9a4bd7b0712cc2a89e2408d1af6f9b76"), looks := true }, kinds := [], alts := [], laidByText := true, laidKinds := [.data, .data, .data, .data, .sentinel, .sentinel, .pinned], laidTests := true, laidLooks := .later }
def TermShiftCardSaid : Prop := Claim7.holds Tryz.pinned (.plain (OpenSpec.ofChange termShiftSpec)) termShiftCard

/-- THE SECOND FORM's CARD OF 'corbellaw07.ScopeResolves'. -/
def scopeResolvesUptoCard : Claim7 := { stood := { row := scopeResolvesUptoRow, standIns := [], harness := (true, "d607b2b861695ef00d908856b26c487d9a4bd7b0712cc2a89e2408d1af6f9b76"), looks := true }, kinds := [], alts := [], laidByText := true, laidKinds := [.data, .data, .data, .data, .sentinel, .sentinel, .pinned], laidTests := true, laidLooks := .later }
def ScopeResolvesUptoCardSaid : Prop := Claim7.holds Tryz.pinned (.plain (OpenSpec.upto scopeResolvesSpec)) scopeResolvesUptoCard

/-- THE SECOND FORM's CARD OF 'corbellaw07.ScopeTexts'. -/
def scopeTextsUptoCard : Claim7 := { stood := { row := scopeTextsUptoRow, standIns := [], harness := (true, "d607b2b861695ef00d908856b26c487d9a4bd7b0712cc2a89e2408d1af6f9b76"), looks := true }, kinds := [], alts := [], laidByText := true, laidKinds := [.data, .data, .data, .data, .sentinel, .sentinel, .pinned], laidTests := true, laidLooks := .later }
def ScopeTextsUptoCardSaid : Prop := Claim7.holds Tryz.pinned (.plain (OpenSpec.upto scopeTextsSpec)) scopeTextsUptoCard

/-- THE SECOND FORM's CARD OF 'corbellaw07.ScopeNames'. -/
def scopeNamesUptoCard : Claim7 := { stood := { row := scopeNamesUptoRow, standIns := [], harness := (true, "d607b2b861695ef00d908856b26c487d9a4bd7b0712cc2a89e2408d1af6f9b76"), looks := true }, kinds := [], alts := [], laidByText := true, laidKinds := [.data, .data, .data, .data, .sentinel, .sentinel, .pinned], laidTests := true, laidLooks := .later }
def ScopeNamesUptoCardSaid : Prop := Claim7.holds Tryz.pinned (.plain (OpenSpec.upto scopeNamesSpec)) scopeNamesUptoCard

/-- THE SECOND FORM's CARD OF 'corbellaw07.ScopeMeans'. -/
def scopeMeansUptoCard : Claim7 := { stood := { row := scopeMeansUptoRow, standIns := [], harness := (true, "d607b2b861695ef00d908856b26c487d9a4bd7b0712cc2a89e2408d1af6f9b76"), looks := true }, kinds := [], alts := [], laidByText := true, laidKinds := [.data, .data, .data, .data, .sentinel, .sentinel, .pinned], laidTests := true, laidLooks := .later }
def ScopeMeansUptoCardSaid : Prop := Claim7.holds Tryz.pinned (.plain (OpenSpec.upto scopeMeansSpec)) scopeMeansUptoCard

/-- THE SECOND FORM's CARD OF 'corbellaw07.ScopeFree'. -/
def scopeFreeUptoCard : Claim7 := { stood := { row := scopeFreeUptoRow, standIns := [], harness := (true, "d607b2b861695ef00d908856b26c487d9a4bd7b0712cc2a89e2408d1af6f9b76"), looks := true }, kinds := [], alts := [], laidByText := true, laidKinds := [.data, .data, .data, .data, .sentinel, .sentinel, .pinned], laidTests := true, laidLooks := .later }
def ScopeFreeUptoCardSaid : Prop := Claim7.holds Tryz.pinned (.plain (OpenSpec.upto scopeFreeSpec)) scopeFreeUptoCard

/-- THE SECOND FORM's CARD OF 'corbellaw06.TermChecks'. -/
def termChecksUptoCard : Claim7 := { stood := { row := termChecksUptoRow, standIns := [], harness := (true, "d607b2b861695ef00d908856b26c487d9a4bd7b0712cc2a89e2408d1af6f9b76"), looks := true }, kinds := [], alts := [], laidByText := true, laidKinds := [.data, .data, .data, .data, .sentinel, .sentinel, .pinned], laidTests := true, laidLooks := .later }
def TermChecksUptoCardSaid : Prop := Claim7.holds Tryz.pinned (.plain (OpenSpec.upto termChecksSpec)) termChecksUptoCard

/-- THE SECOND FORM's CARD OF 'corbellaw06.TermConsts'. -/
def termConstsUptoCard : Claim7 := { stood := { row := termConstsUptoRow, standIns := [], harness := (true, "d607b2b861695ef00d908856b26c487d9a4bd7b0712cc2a89e2408d1af6f9b76"), looks := true }, kinds := [], alts := [], laidByText := true, laidKinds := [.data, .data, .data, .data, .sentinel, .sentinel, .pinned], laidTests := true, laidLooks := .later }
def TermConstsUptoCardSaid : Prop := Claim7.holds Tryz.pinned (.plain (OpenSpec.upto termConstsSpec)) termConstsUptoCard

/-- THE SECOND FORM's CARD OF 'corbellaw06.TermClosed'. -/
def termClosedUptoCard : Claim7 := { stood := { row := termClosedUptoRow, standIns := [], harness := (true, "d607b2b861695ef00d908856b26c487d9a4bd7b0712cc2a89e2408d1af6f9b76"), looks := true }, kinds := [], alts := [], laidByText := true, laidKinds := [.data, .data, .data, .data, .sentinel, .sentinel, .pinned], laidTests := true, laidLooks := .later }
def TermClosedUptoCardSaid : Prop := Claim7.holds Tryz.pinned (.plain (OpenSpec.upto termClosedSpec)) termClosedUptoCard

/-- THE SECOND FORM's CARD OF 'corbellaw06.TermParts'. -/
def termPartsUptoCard : Claim7 := { stood := { row := termPartsUptoRow, standIns := [], harness := (true, "d607b2b861695ef00d908856b26c487d9a4bd7b0712cc2a89e2408d1af6f9b76"), looks := true }, kinds := [], alts := [], laidByText := true, laidKinds := [.data, .data, .data, .data, .sentinel, .sentinel, .pinned], laidTests := true, laidLooks := .later }
def TermPartsUptoCardSaid : Prop := Claim7.holds Tryz.pinned (.plain (OpenSpec.upto termPartsSpec)) termPartsUptoCard

/-- THE SECOND FORM's CARD OF 'corbellaw06.TermModules'. -/
def termModulesUptoCard : Claim7 := { stood := { row := termModulesUptoRow, standIns := [], harness := (true, "d607b2b861695ef00d908856b26c487d9a4bd7b0712cc2a89e2408d1af6f9b76"), looks := true }, kinds := [], alts := [], laidByText := true, laidKinds := [.data, .data, .data, .data, .sentinel, .sentinel, .pinned], laidTests := true, laidLooks := .later }
def TermModulesUptoCardSaid : Prop := Claim7.holds Tryz.pinned (.plain (OpenSpec.upto termModulesSpec)) termModulesUptoCard

/-- THE SECOND FORM's CARD OF 'corbellaw06.TermShift'. -/
def termShiftUptoCard : Claim7 := { stood := { row := termShiftUptoRow, standIns := [], harness := (true, "d607b2b861695ef00d908856b26c487d9a4bd7b0712cc2a89e2408d1af6f9b76"), looks := true }, kinds := [], alts := [], laidByText := true, laidKinds := [.data, .data, .data, .data, .sentinel, .sentinel, .pinned], laidTests := true, laidLooks := .later }
def TermShiftUptoCardSaid : Prop := Claim7.holds Tryz.pinned (.plain (OpenSpec.upto termShiftSpec)) termShiftUptoCard
end Rows
end Go.Proofs.YtgkpjajioancmaaGreatDoor
