/-
  DERIVED. GIVEN WITH THE SEED: THE CARDS: each row of YtklpioocdgfbmaaGreatDoorRows.lean that lists a variable, with what it lists TIED to the program's text (the seventh form; the later family's looks); each row that meets fmt, with fmt's text TOLD by the authors' own Lean function (tested against real Go, not proved from fmt's source: count such statements apart). THE CARD IS WHAT COUNTS. Prove the row's statement (the work); the ties are given (YtklpioocdgfbmaaGreatDoorTie.lean); close each card by the builder's one call (the guide's Derived/Test/ToyasCard.lean, 'card_holds'). Laid BY PROGRAM, IN A SANDBOX (cutbox-door.mjs). By AI agents, Wed Nov 11 2026. No macro, syntax, notation, axiom, sorry.
-/
import Derived.Test.YtklpioocdgfbmaaGreatDoorRows
import GoSem.ClaimSeven
namespace Go.Proofs.YtklpioocdgfbmaaGreatDoor
namespace Rows

/-- THE TIED CARD OF 'corbellaw13.ClosureConverts'. -/
def closureConvertsCard : Claim7 := { stood := { row := closureConvertsRow, standIns := [], harness := (true, "78529c33f618cb4c6b9646e1629862fa2a10c924144ebcd0404a8fed313cf96c"), looks := true }, kinds := [], alts := [], laidByText := true, laidKinds := [.data, .data, .data, .data, .sentinel, .sentinel, .pinned], laidTests := true, laidLooks := .later }
def ClosureConvertsCardSaid : Prop := Claim7.holds Tryz.pinned (.plain (OpenSpec.ofChange closureConvertsSpec)) closureConvertsCard

/-- THE TIED CARD OF 'corbellaw19.EmitReads'. -/
def emitReadsCard : Claim7 := { stood := { row := emitReadsRow, standIns := [], harness := (true, "78529c33f618cb4c6b9646e1629862fa2a10c924144ebcd0404a8fed313cf96c"), looks := true }, kinds := [], alts := [], laidByText := true, laidKinds := [.data, .data, .data, .data, .sentinel, .sentinel, .pinned], laidTests := true, laidLooks := .later }
def EmitReadsCardSaid : Prop := Claim7.holds Tryz.pinned (.plain (OpenSpec.ofChange emitReadsSpec)) emitReadsCard

/-- THE TIED CARD OF 'corbellaw19.EmitEmits'. -/
def emitEmitsCard : Claim7 := { stood := { row := emitEmitsRow, standIns := [], harness := (true, "78529c33f618cb4c6b9646e1629862fa2a10c924144ebcd0404a8fed313cf96c"), looks := true }, kinds := [], alts := [], laidByText := true, laidKinds := [.data, .data, .data, .data, .sentinel, .sentinel, .pinned], laidTests := true, laidLooks := .later }
def EmitEmitsCardSaid : Prop := Claim7.holds Tryz.pinned (.plain (OpenSpec.ofChange emitEmitsSpec)) emitEmitsCard

/-- THE TIED CARD OF 'corbellaw19.EmitSame'. -/
def emitSameCard : Claim7 := { stood := { row := emitSameRow, standIns := [], harness := (true, "78529c33f618cb4c6b9646e1629862fa2a10c924144ebcd0404a8fed313cf96c"), looks := true }, kinds := [], alts := [], laidByText := true, laidKinds := [.data, .data, .data, .data, .sentinel, .sentinel, .pinned], laidTests := true, laidLooks := .later }
def EmitSameCardSaid : Prop := Claim7.holds Tryz.pinned (.plain (OpenSpec.ofChange emitSameSpec)) emitSameCard

/-- THE TIED CARD OF 'corbellaw19.EmitPlaces'. -/
def emitPlacesCard : Claim7 := { stood := { row := emitPlacesRow, standIns := [], harness := (true, "78529c33f618cb4c6b9646e1629862fa2a10c924144ebcd0404a8fed313cf96c"), looks := true }, kinds := [], alts := [], laidByText := true, laidKinds := [.data, .data, .data, .data, .sentinel, .sentinel, .pinned], laidTests := true, laidLooks := .later }
def EmitPlacesCardSaid : Prop := Claim7.holds Tryz.pinned (.plain (OpenSpec.ofChange emitPlacesSpec)) emitPlacesCard

/-- THE TIED CARD OF 'corbellaw19.EmitRound'. -/
def emitRoundCard : Claim7 := { stood := { row := emitRoundRow, standIns := [], harness := (true, "78529c33f618cb4c6b9646e1629862fa2a10c924144ebcd0404a8fed313cf96c"), looks := true }, kinds := [], alts := [], laidByText := true, laidKinds := [.data, .data, .data, .data, .sentinel, .sentinel, .pinned], laidTests := true, laidLooks := .later }
def EmitRoundCardSaid : Prop := Claim7.holds Tryz.pinned (.plain (OpenSpec.ofChange emitRoundSpec)) emitRoundCard

/-- THE TIED CARD OF 'corbellaw19.EmitOther'. -/
def emitOtherCard : Claim7 := { stood := { row := emitOtherRow, standIns := [], harness := (true, "78529c33f618cb4c6b9646e1629862fa2a10c924144ebcd0404a8fed313cf96c"), looks := true }, kinds := [], alts := [], laidByText := true, laidKinds := [.data, .data, .data, .data, .sentinel, .sentinel, .pinned], laidTests := true, laidLooks := .later }
def EmitOtherCardSaid : Prop := Claim7.holds Tryz.pinned (.plain (OpenSpec.ofChange emitOtherSpec)) emitOtherCard

/-- THE TIED CARD OF 'corbellaw17.SlotsSorts'. -/
def slotsSortsCard : Claim7 := { stood := { row := slotsSortsRow, standIns := [], harness := (true, "78529c33f618cb4c6b9646e1629862fa2a10c924144ebcd0404a8fed313cf96c"), looks := true }, kinds := [], alts := [], laidByText := true, laidKinds := [.data, .data, .data, .data, .sentinel, .sentinel, .pinned], laidTests := true, laidLooks := .later }
def SlotsSortsCardSaid : Prop := Claim7.holds Tryz.pinned (.plain (OpenSpec.ofChange slotsSortsSpec)) slotsSortsCard

/-- THE TIED CARD OF 'corbellaw17.SlotsColors'. -/
def slotsColorsCard : Claim7 := { stood := { row := slotsColorsRow, standIns := [], harness := (true, "78529c33f618cb4c6b9646e1629862fa2a10c924144ebcd0404a8fed313cf96c"), looks := true }, kinds := [], alts := [], laidByText := true, laidKinds := [.data, .data, .data, .data, .sentinel, .sentinel, .pinned], laidTests := true, laidLooks := .later }
def SlotsColorsCardSaid : Prop := Claim7.holds Tryz.pinned (.plain (OpenSpec.ofChange slotsColorsSpec)) slotsColorsCard

/-- THE TIED CARD OF 'corbellaw17.SlotsApart'. -/
def slotsApartCard : Claim7 := { stood := { row := slotsApartRow, standIns := [], harness := (true, "78529c33f618cb4c6b9646e1629862fa2a10c924144ebcd0404a8fed313cf96c"), looks := true }, kinds := [], alts := [], laidByText := true, laidKinds := [.data, .data, .data, .data, .sentinel, .sentinel, .pinned], laidTests := true, laidLooks := .later }
def SlotsApartCardSaid : Prop := Claim7.holds Tryz.pinned (.plain (OpenSpec.ofChange slotsApartSpec)) slotsApartCard

/-- THE TIED CARD OF 'corbellaw17.SlotsAlive'. -/
def slotsAliveCard : Claim7 := { stood := { row := slotsAliveRow, standIns := [], harness := (true, "78529c33f618cb4c6b9646e1629862fa2a10c924144ebcd0404a8fed313cf96c"), looks := true }, kinds := [], alts := [], laidByText := true, laidKinds := [.data, .data, .data, .data, .sentinel, .sentinel, .pinned], laidTests := true, laidLooks := .later }
def SlotsAliveCardSaid : Prop := Claim7.holds Tryz.pinned (.plain (OpenSpec.ofChange slotsAliveSpec)) slotsAliveCard

/-- THE SECOND FORM's CARD OF 'corbellaw13.ClosureConverts'. -/
def closureConvertsUptoCard : Claim7 := { stood := { row := closureConvertsUptoRow, standIns := [], harness := (true, "78529c33f618cb4c6b9646e1629862fa2a10c924144ebcd0404a8fed313cf96c"), looks := true }, kinds := [], alts := [], laidByText := true, laidKinds := [.data, .data, .data, .data, .sentinel, .sentinel, .pinned], laidTests := true, laidLooks := .later }
def ClosureConvertsUptoCardSaid : Prop := Claim7.holds Tryz.pinned (.plain (OpenSpec.upto closureConvertsSpec)) closureConvertsUptoCard

/-- THE SECOND FORM's CARD OF 'corbellaw19.EmitReads'. -/
def emitReadsUptoCard : Claim7 := { stood := { row := emitReadsUptoRow, standIns := [], harness := (true, "78529c33f618cb4c6b9646e1629862fa2a10c924144ebcd0404a8fed313cf96c"), looks := true }, kinds := [], alts := [], laidByText := true, laidKinds := [.data, .data, .data, .data, .sentinel, .sentinel, .pinned], laidTests := true, laidLooks := .later }
def EmitReadsUptoCardSaid : Prop := Claim7.holds Tryz.pinned (.plain (OpenSpec.upto emitReadsSpec)) emitReadsUptoCard

/-- THE SECOND FORM's CARD OF 'corbellaw19.EmitEmits'. -/
def emitEmitsUptoCard : Claim7 := { stood := { row := emitEmitsUptoRow, standIns := [], harness := (true, "78529c33f618cb4c6b9646e1629862fa2a10c924144ebcd0404a8fed313cf96c"), looks := true }, kinds := [], alts := [], laidByText := true, laidKinds := [.data, .data, .data, .data, .sentinel, .sentinel, .pinned], laidTests := true, laidLooks := .later }
def EmitEmitsUptoCardSaid : Prop := Claim7.holds Tryz.pinned (.plain (OpenSpec.upto emitEmitsSpec)) emitEmitsUptoCard

/-- THE SECOND FORM's CARD OF 'corbellaw19.EmitSame'. -/
def emitSameUptoCard : Claim7 := { stood := { row := emitSameUptoRow, standIns := [], harness := (true, "78529c33f618cb4c6b9646e1629862fa2a10c924144ebcd0404a8fed313cf96c"), looks := true }, kinds := [], alts := [], laidByText := true, laidKinds := [.data, .data, .data, .data, .sentinel, .sentinel, .pinned], laidTests := true, laidLooks := .later }
def EmitSameUptoCardSaid : Prop := Claim7.holds Tryz.pinned (.plain (OpenSpec.upto emitSameSpec)) emitSameUptoCard

/-- THE SECOND FORM's CARD OF 'corbellaw19.EmitPlaces'. -/
def emitPlacesUptoCard : Claim7 := { stood := { row := emitPlacesUptoRow, standIns := [], harness := (true, "78529c33f618cb4c6b9646e1629862fa2a10c924144ebcd0404a8fed313cf96c"), looks := true }, kinds := [], alts := [], laidByText := true, laidKinds := [.data, .data, .data, .data, .sentinel, .sentinel, .pinned], laidTests := true, laidLooks := .later }
def EmitPlacesUptoCardSaid : Prop := Claim7.holds Tryz.pinned (.plain (OpenSpec.upto emitPlacesSpec)) emitPlacesUptoCard

/-- THE SECOND FORM's CARD OF 'corbellaw19.EmitRound'. -/
def emitRoundUptoCard : Claim7 := { stood := { row := emitRoundUptoRow, standIns := [], harness := (true, "78529c33f618cb4c6b9646e1629862fa2a10c924144ebcd0404a8fed313cf96c"), looks := true }, kinds := [], alts := [], laidByText := true, laidKinds := [.data, .data, .data, .data, .sentinel, .sentinel, .pinned], laidTests := true, laidLooks := .later }
def EmitRoundUptoCardSaid : Prop := Claim7.holds Tryz.pinned (.plain (OpenSpec.upto emitRoundSpec)) emitRoundUptoCard

/-- THE SECOND FORM's CARD OF 'corbellaw19.EmitOther'. -/
def emitOtherUptoCard : Claim7 := { stood := { row := emitOtherUptoRow, standIns := [], harness := (true, "78529c33f618cb4c6b9646e1629862fa2a10c924144ebcd0404a8fed313cf96c"), looks := true }, kinds := [], alts := [], laidByText := true, laidKinds := [.data, .data, .data, .data, .sentinel, .sentinel, .pinned], laidTests := true, laidLooks := .later }
def EmitOtherUptoCardSaid : Prop := Claim7.holds Tryz.pinned (.plain (OpenSpec.upto emitOtherSpec)) emitOtherUptoCard

/-- THE SECOND FORM's CARD OF 'corbellaw17.SlotsSorts'. -/
def slotsSortsUptoCard : Claim7 := { stood := { row := slotsSortsUptoRow, standIns := [], harness := (true, "78529c33f618cb4c6b9646e1629862fa2a10c924144ebcd0404a8fed313cf96c"), looks := true }, kinds := [], alts := [], laidByText := true, laidKinds := [.data, .data, .data, .data, .sentinel, .sentinel, .pinned], laidTests := true, laidLooks := .later }
def SlotsSortsUptoCardSaid : Prop := Claim7.holds Tryz.pinned (.plain (OpenSpec.upto slotsSortsSpec)) slotsSortsUptoCard

/-- THE SECOND FORM's CARD OF 'corbellaw17.SlotsColors'. -/
def slotsColorsUptoCard : Claim7 := { stood := { row := slotsColorsUptoRow, standIns := [], harness := (true, "78529c33f618cb4c6b9646e1629862fa2a10c924144ebcd0404a8fed313cf96c"), looks := true }, kinds := [], alts := [], laidByText := true, laidKinds := [.data, .data, .data, .data, .sentinel, .sentinel, .pinned], laidTests := true, laidLooks := .later }
def SlotsColorsUptoCardSaid : Prop := Claim7.holds Tryz.pinned (.plain (OpenSpec.upto slotsColorsSpec)) slotsColorsUptoCard

/-- THE SECOND FORM's CARD OF 'corbellaw17.SlotsApart'. -/
def slotsApartUptoCard : Claim7 := { stood := { row := slotsApartUptoRow, standIns := [], harness := (true, "78529c33f618cb4c6b9646e1629862fa2a10c924144ebcd0404a8fed313cf96c"), looks := true }, kinds := [], alts := [], laidByText := true, laidKinds := [.data, .data, .data, .data, .sentinel, .sentinel, .pinned], laidTests := true, laidLooks := .later }
def SlotsApartUptoCardSaid : Prop := Claim7.holds Tryz.pinned (.plain (OpenSpec.upto slotsApartSpec)) slotsApartUptoCard

/-- THE SECOND FORM's CARD OF 'corbellaw17.SlotsAlive'. -/
def slotsAliveUptoCard : Claim7 := { stood := { row := slotsAliveUptoRow, standIns := [], harness := (true, "78529c33f618cb4c6b9646e1629862fa2a10c924144ebcd0404a8fed313cf96c"), looks := true }, kinds := [], alts := [], laidByText := true, laidKinds := [.data, .data, .data, .data, .sentinel, .sentinel, .pinned], laidTests := true, laidLooks := .later }
def SlotsAliveUptoCardSaid : Prop := Claim7.holds Tryz.pinned (.plain (OpenSpec.upto slotsAliveSpec)) slotsAliveUptoCard
end Rows
end Go.Proofs.YtklpioocdgfbmaaGreatDoor
