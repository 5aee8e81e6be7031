/-
  DERIVED. GIVEN WITH THE SEED: THE CARDS: each row of YtamlcgkjinbnlaaGreatDoorRows.lean that lists a variable, with what it lists TIED to the program's text (the seventh form; the later family's looks); each row that meets fmt, with fmt's text TOLD by the authors' own Lean function (tested against real Go, not proved from fmt's source: count such statements apart). THE CARD IS WHAT COUNTS. Prove the row's statement (the work); the ties are given (YtamlcgkjinbnlaaGreatDoorTie.lean); close each card by the builder's one call (the guide's Derived/Test/ToyasCard.lean, 'card_holds'). Laid BY PROGRAM, IN A SANDBOX (cutbox-door.mjs). By AI agents, Wed Nov 11 2026. No macro, syntax, notation, axiom, sorry.
-/
import Derived.Test.YtamlcgkjinbnlaaGreatDoorRows
import GoSem.ClaimSeven
namespace Go.Proofs.YtamlcgkjinbnlaaGreatDoor
namespace Rows

/-- THE TIED CARD OF 'corbellaw09.LetrecConverts'. -/
def letrecConvertsCard : Claim7 := { stood := { row := letrecConvertsRow, standIns := [], harness := (true, "95a4c1f04a8539c612f2f20d084f60907b47a2c2410c5a7c026b41204bc735c3"), looks := true }, kinds := [], alts := [], laidByText := true, laidKinds := [.data, .data, .data, .data, .sentinel, .sentinel, .pinned], laidTests := true, laidLooks := .later }
def LetrecConvertsCardSaid : Prop := Claim7.holds Tryz.pinned (.plain (OpenSpec.ofChange letrecConvertsSpec)) letrecConvertsCard

/-- THE TIED CARD OF 'corbellaw09.LetrecTexts'. -/
def letrecTextsCard : Claim7 := { stood := { row := letrecTextsRow, standIns := [], harness := (true, "95a4c1f04a8539c612f2f20d084f60907b47a2c2410c5a7c026b41204bc735c3"), looks := true }, kinds := [], alts := [], laidByText := true, laidKinds := [.data, .data, .data, .data, .sentinel, .sentinel, .pinned], laidTests := true, laidLooks := .later }
def LetrecTextsCardSaid : Prop := Claim7.holds Tryz.pinned (.plain (OpenSpec.ofChange letrecTextsSpec)) letrecTextsCard

/-- THE TIED CARD OF 'corbellaw09.LetrecMeans'. -/
def letrecMeansCard : Claim7 := { stood := { row := letrecMeansRow, standIns := [], harness := (true, "95a4c1f04a8539c612f2f20d084f60907b47a2c2410c5a7c026b41204bc735c3"), looks := true }, kinds := [], alts := [], laidByText := true, laidKinds := [.data, .data, .data, .data, .sentinel, .sentinel, .pinned], laidTests := true, laidLooks := .later }
def LetrecMeansCardSaid : Prop := Claim7.holds Tryz.pinned (.plain (OpenSpec.ofChange letrecMeansSpec)) letrecMeansCard

/-- THE TIED CARD OF 'corbellaw09.LetrecRuns'. -/
def letrecRunsCard : Claim7 := { stood := { row := letrecRunsRow, standIns := [], harness := (true, "95a4c1f04a8539c612f2f20d084f60907b47a2c2410c5a7c026b41204bc735c3"), looks := true }, kinds := [], alts := [], laidByText := true, laidKinds := [.data, .data, .data, .data, .sentinel, .sentinel, .pinned], laidTests := true, laidLooks := .later }
def LetrecRunsCardSaid : Prop := Claim7.holds Tryz.pinned (.plain (OpenSpec.ofChange letrecRunsSpec)) letrecRunsCard

/-- THE TIED CARD OF 'corbellaw09.LetrecPlain'. -/
def letrecPlainCard : Claim7 := { stood := { row := letrecPlainRow, standIns := [], harness := (true, "95a4c1f04a8539c612f2f20d084f60907b47a2c2410c5a7c026b41204bc735c3"), looks := true }, kinds := [], alts := [], laidByText := true, laidKinds := [.data, .data, .data, .data, .sentinel, .sentinel, .pinned], laidTests := true, laidLooks := .later }
def LetrecPlainCardSaid : Prop := Claim7.holds Tryz.pinned (.plain (OpenSpec.ofChange letrecPlainSpec)) letrecPlainCard

/-- THE TIED CARD OF 'corbellaw09.LetrecShift'. -/
def letrecShiftCard : Claim7 := { stood := { row := letrecShiftRow, standIns := [], harness := (true, "95a4c1f04a8539c612f2f20d084f60907b47a2c2410c5a7c026b41204bc735c3"), looks := true }, kinds := [], alts := [], laidByText := true, laidKinds := [.data, .data, .data, .data, .sentinel, .sentinel, .pinned], laidTests := true, laidLooks := .later }
def LetrecShiftCardSaid : Prop := Claim7.holds Tryz.pinned (.plain (OpenSpec.ofChange letrecShiftSpec)) letrecShiftCard

/-- THE TIED CARD OF 'corbellaw09.LetrecTwice'. -/
def letrecTwiceCard : Claim7 := { stood := { row := letrecTwiceRow, standIns := [], harness := (true, "95a4c1f04a8539c612f2f20d084f60907b47a2c2410c5a7c026b41204bc735c3"), looks := true }, kinds := [], alts := [], laidByText := true, laidKinds := [.data, .data, .data, .data, .sentinel, .sentinel, .pinned], laidTests := true, laidLooks := .later }
def LetrecTwiceCardSaid : Prop := Claim7.holds Tryz.pinned (.plain (OpenSpec.ofChange letrecTwiceSpec)) letrecTwiceCard

/-- THE SECOND FORM's CARD OF 'corbellaw09.LetrecConverts'. -/
def letrecConvertsUptoCard : Claim7 := { stood := { row := letrecConvertsUptoRow, standIns := [], harness := (true, "95a4c1f04a8539c612f2f20d084f60907b47a2c2410c5a7c026b41204bc735c3"), looks := true }, kinds := [], alts := [], laidByText := true, laidKinds := [.data, .data, .data, .data, .sentinel, .sentinel, .pinned], laidTests := true, laidLooks := .later }
def LetrecConvertsUptoCardSaid : Prop := Claim7.holds Tryz.pinned (.plain (OpenSpec.upto letrecConvertsSpec)) letrecConvertsUptoCard

/-- THE SECOND FORM's CARD OF 'corbellaw09.LetrecTexts'. -/
def letrecTextsUptoCard : Claim7 := { stood := { row := letrecTextsUptoRow, standIns := [], harness := (true, "95a4c1f04a8539c612f2f20d084f60907b47a2c2410c5a7c026b41204bc735c3"), looks := true }, kinds := [], alts := [], laidByText := true, laidKinds := [.data, .data, .data, .data, .sentinel, .sentinel, .pinned], laidTests := true, laidLooks := .later }
def LetrecTextsUptoCardSaid : Prop := Claim7.holds Tryz.pinned (.plain (OpenSpec.upto letrecTextsSpec)) letrecTextsUptoCard

/-- THE SECOND FORM's CARD OF 'corbellaw09.LetrecMeans'. -/
def letrecMeansUptoCard : Claim7 := { stood := { row := letrecMeansUptoRow, standIns := [], harness := (true, "95a4c1f04a8539c612f2f20d084f60907b47a2c2410c5a7c026b41204bc735c3"), looks := true }, kinds := [], alts := [], laidByText := true, laidKinds := [.data, .data, .data, .data, .sentinel, .sentinel, .pinned], laidTests := true, laidLooks := .later }
def LetrecMeansUptoCardSaid : Prop := Claim7.holds Tryz.pinned (.plain (OpenSpec.upto letrecMeansSpec)) letrecMeansUptoCard

/-- THE SECOND FORM's CARD OF 'corbellaw09.LetrecRuns'. -/
def letrecRunsUptoCard : Claim7 := { stood := { row := letrecRunsUptoRow, standIns := [], harness := (true, "95a4c1f04a8539c612f2f20d084f60907b47a2c2410c5a7c026b41204bc735c3"), looks := true }, kinds := [], alts := [], laidByText := true, laidKinds := [.data, .data, .data, .data, .sentinel, .sentinel, .pinned], laidTests := true, laidLooks := .later }
def LetrecRunsUptoCardSaid : Prop := Claim7.holds Tryz.pinned (.plain (OpenSpec.upto letrecRunsSpec)) letrecRunsUptoCard

/-- THE SECOND FORM's CARD OF 'corbellaw09.LetrecPlain'. -/
def letrecPlainUptoCard : Claim7 := { stood := { row := letrecPlainUptoRow, standIns := [], harness := (true, "95a4c1f04a8539c612f2f20d084f60907b47a2c2410c5a7c026b41204bc735c3"), looks := true }, kinds := [], alts := [], laidByText := true, laidKinds := [.data, .data, .data, .data, .sentinel, .sentinel, .pinned], laidTests := true, laidLooks := .later }
def LetrecPlainUptoCardSaid : Prop := Claim7.holds Tryz.pinned (.plain (OpenSpec.upto letrecPlainSpec)) letrecPlainUptoCard

/-- THE SECOND FORM's CARD OF 'corbellaw09.LetrecShift'. -/
def letrecShiftUptoCard : Claim7 := { stood := { row := letrecShiftUptoRow, standIns := [], harness := (true, "95a4c1f04a8539c612f2f20d084f60907b47a2c2410c5a7c026b41204bc735c3"), looks := true }, kinds := [], alts := [], laidByText := true, laidKinds := [.data, .data, .data, .data, .sentinel, .sentinel, .pinned], laidTests := true, laidLooks := .later }
def LetrecShiftUptoCardSaid : Prop := Claim7.holds Tryz.pinned (.plain (OpenSpec.upto letrecShiftSpec)) letrecShiftUptoCard

/-- THE SECOND FORM's CARD OF 'corbellaw09.LetrecTwice'. -/
def letrecTwiceUptoCard : Claim7 := { stood := { row := letrecTwiceUptoRow, standIns := [], harness := (true, "95a4c1f04a8539c612f2f20d084f60907b47a2c2410c5a7c026b41204bc735c3"), looks := true }, kinds := [], alts := [], laidByText := true, laidKinds := [.data, .data, .data, .data, .sentinel, .sentinel, .pinned], laidTests := true, laidLooks := .later }
def LetrecTwiceUptoCardSaid : Prop := Claim7.holds Tryz.pinned (.plain (OpenSpec.upto letrecTwiceSpec)) letrecTwiceUptoCard
end Rows
end Go.Proofs.YtamlcgkjinbnlaaGreatDoor
