/-
  DERIVED. GIVEN WITH THE SEED: THE CARDS: each row of YtmbilkpmnpmheaaGreatDoorRows.lean that lists a variable, with what it lists TIED to the program's text (the seventh form; the later family's looks); each row that meets fmt, with fmt's text TOLD by the authors' own Lean function (tested against real Go, not proved from fmt's source: count such statements apart). THE CARD IS WHAT COUNTS. Prove the row's statement (the work); the ties are given (YtmbilkpmnpmheaaGreatDoorTie.lean); close each card by the builder's one call (the guide's Derived/Test/ToyasCard.lean, 'card_holds'). Laid BY PROGRAM, IN A SANDBOX (cutbox-door.mjs). By AI agents, Wed Nov 11 2026. No macro, syntax, notation, axiom, sorry.
-/
import Derived.Test.YtmbilkpmnpmheaaGreatDoorRows
import GoSem.ClaimSeven
namespace Go.Proofs.YtmbilkpmnpmheaaGreatDoor
namespace Rows

/-- THE TIED CARD OF 'corbellaw07.ScopeResolves'. -/
def scopeResolvesCard : Claim7 := { stood := { row := scopeResolvesRow, standIns := [], harness := (true, "94eebf48db94a2626d50b3a6cf6321d6635eb2c41def459536a621f5d5f48ebf"), looks := true }, kinds := [], alts := [], laidByText := true, laidKinds := [.data, .data, .data, .data, .sentinel, .sentinel, .pinned], laidTests := true, laidLooks := .later }
def ScopeResolvesCardSaid : Prop := Claim7.holds Tryz.pinned (.plain (OpenSpec.ofChange scopeResolvesSpec)) scopeResolvesCard

/-- THE TIED CARD OF 'corbellaw07.ScopeTexts'. -/
def scopeTextsCard : Claim7 := { stood := { row := scopeTextsRow, standIns := [], harness := (true, "94eebf48db94a2626d50b3a6cf6321d6635eb2c41def459536a621f5d5f48ebf"), looks := true }, kinds := [], alts := [], laidByText := true, laidKinds := [.data, .data, .data, .data, .sentinel, .sentinel, .pinned], laidTests := true, laidLooks := .later }
def ScopeTextsCardSaid : Prop := Claim7.holds Tryz.pinned (.plain (OpenSpec.ofChange scopeTextsSpec)) scopeTextsCard

/-- THE TIED CARD OF 'corbellaw07.ScopeNames'. -/
def scopeNamesCard : Claim7 := { stood := { row := scopeNamesRow, standIns := [], harness := (true, "94eebf48db94a2626d50b3a6cf6321d6635eb2c41def459536a621f5d5f48ebf"), looks := true }, kinds := [], alts := [], laidByText := true, laidKinds := [.data, .data, .data, .data, .sentinel, .sentinel, .pinned], laidTests := true, laidLooks := .later }
def ScopeNamesCardSaid : Prop := Claim7.holds Tryz.pinned (.plain (OpenSpec.ofChange scopeNamesSpec)) scopeNamesCard

/-- THE TIED CARD OF 'corbellaw07.ScopeMeans'. -/
def scopeMeansCard : Claim7 := { stood := { row := scopeMeansRow, standIns := [], harness := (true, "94eebf48db94a2626d50b3a6cf6321d6635eb2c41def459536a621f5d5f48ebf"), looks := true }, kinds := [], alts := [], laidByText := true, laidKinds := [.data, .data, .data, .data, .sentinel, .sentinel, .pinned], laidTests := true, laidLooks := .later }
def ScopeMeansCardSaid : Prop := Claim7.holds Tryz.pinned (.plain (OpenSpec.ofChange scopeMeansSpec)) scopeMeansCard

/-- THE TIED CARD OF 'corbellaw07.ScopeFree'. -/
def scopeFreeCard : Claim7 := { stood := { row := scopeFreeRow, standIns := [], harness := (true, "94eebf48db94a2626d50b3a6cf6321d6635eb2c41def459536a621f5d5f48ebf"), looks := true }, kinds := [], alts := [], laidByText := true, laidKinds := [.data, .data, .data, .data, .sentinel, .sentinel, .pinned], laidTests := true, laidLooks := .later }
def ScopeFreeCardSaid : Prop := Claim7.holds Tryz.pinned (.plain (OpenSpec.ofChange scopeFreeSpec)) scopeFreeCard

/-- THE TIED CARD OF 'corbellaw07.ScopeRight'. -/
def scopeRightCard : Claim7 := { stood := { row := scopeRightRow, standIns := [], harness := (true, "94eebf48db94a2626d50b3a6cf6321d6635eb2c41def459536a621f5d5f48ebf"), looks := true }, kinds := [], alts := [], laidByText := true, laidKinds := [.data, .data, .data, .data, .sentinel, .sentinel, .pinned], laidTests := true, laidLooks := .later }
def ScopeRightCardSaid : Prop := Claim7.holds Tryz.pinned (.plain (OpenSpec.ofChange scopeRightSpec)) scopeRightCard

/-- THE SECOND FORM's CARD OF 'corbellaw07.ScopeResolves'. -/
def scopeResolvesUptoCard : Claim7 := { stood := { row := scopeResolvesUptoRow, standIns := [], harness := (true, "94eebf48db94a2626d50b3a6cf6321d6635eb2c41def459536a621f5d5f48ebf"), looks := true }, kinds := [], alts := [], laidByText := true, laidKinds := [.data, .data, .data, .data, .sentinel, .sentinel, .pinned], laidTests := true, laidLooks := .later }
def ScopeResolvesUptoCardSaid : Prop := Claim7.holds Tryz.pinned (.plain (OpenSpec.upto scopeResolvesSpec)) scopeResolvesUptoCard

/-- THE SECOND FORM's CARD OF 'corbellaw07.ScopeTexts'. -/
def scopeTextsUptoCard : Claim7 := { stood := { row := scopeTextsUptoRow, standIns := [], harness := (true, "94eebf48db94a2626d50b3a6cf6321d6635eb2c41def459536a621f5d5f48ebf"), looks := true }, kinds := [], alts := [], laidByText := true, laidKinds := [.data, .data, .data, .data, .sentinel, .sentinel, .pinned], laidTests := true, laidLooks := .later }
def ScopeTextsUptoCardSaid : Prop := Claim7.holds Tryz.pinned (.plain (OpenSpec.upto scopeTextsSpec)) scopeTextsUptoCard

/-- THE SECOND FORM's CARD OF 'corbellaw07.ScopeNames'. -/
def scopeNamesUptoCard : Claim7 := { stood := { row := scopeNamesUptoRow, standIns := [], harness := (true, "94eebf48db94a2626d50b3a6cf6321d6635eb2c41def459536a621f5d5f48ebf"), looks := true }, kinds := [], alts := [], laidByText := true, laidKinds := [.data, .data, .data, .data, .sentinel, .sentinel, .pinned], laidTests := true, laidLooks := .later }
def ScopeNamesUptoCardSaid : Prop := Claim7.holds Tryz.pinned (.plain (OpenSpec.upto scopeNamesSpec)) scopeNamesUptoCard

/-- THE SECOND FORM's CARD OF 'corbellaw07.ScopeMeans'. -/
def scopeMeansUptoCard : Claim7 := { stood := { row := scopeMeansUptoRow, standIns := [], harness := (true, "94eebf48db94a2626d50b3a6cf6321d6635eb2c41def459536a621f5d5f48ebf"), looks := true }, kinds := [], alts := [], laidByText := true, laidKinds := [.data, .data, .data, .data, .sentinel, .sentinel, .pinned], laidTests := true, laidLooks := .later }
def ScopeMeansUptoCardSaid : Prop := Claim7.holds Tryz.pinned (.plain (OpenSpec.upto scopeMeansSpec)) scopeMeansUptoCard

/-- THE SECOND FORM's CARD OF 'corbellaw07.ScopeFree'. -/
def scopeFreeUptoCard : Claim7 := { stood := { row := scopeFreeUptoRow, standIns := [], harness := (true, "94eebf48db94a2626d50b3a6cf6321d6635eb2c41def459536a621f5d5f48ebf"), looks := true }, kinds := [], alts := [], laidByText := true, laidKinds := [.data, .data, .data, .data, .sentinel, .sentinel, .pinned], laidTests := true, laidLooks := .later }
def ScopeFreeUptoCardSaid : Prop := Claim7.holds Tryz.pinned (.plain (OpenSpec.upto scopeFreeSpec)) scopeFreeUptoCard

/-- THE SECOND FORM's CARD OF 'corbellaw07.ScopeRight'. -/
def scopeRightUptoCard : Claim7 := { stood := { row := scopeRightUptoRow, standIns := [], harness := (true, "94eebf48db94a2626d50b3a6cf6321d6635eb2c41def459536a621f5d5f48ebf"), looks := true }, kinds := [], alts := [], laidByText := true, laidKinds := [.data, .data, .data, .data, .sentinel, .sentinel, .pinned], laidTests := true, laidLooks := .later }
def ScopeRightUptoCardSaid : Prop := Claim7.holds Tryz.pinned (.plain (OpenSpec.upto scopeRightSpec)) scopeRightUptoCard
end Rows
end Go.Proofs.YtmbilkpmnpmheaaGreatDoor
