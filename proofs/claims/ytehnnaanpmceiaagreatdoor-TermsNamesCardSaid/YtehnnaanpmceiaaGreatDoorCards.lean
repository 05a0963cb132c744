/-
  DERIVED. GIVEN WITH THE SEED: THE CARDS: each row of YtehnnaanpmceiaaGreatDoorRows.lean that lists a variable, with what it lists TIED to the program's text (the seventh form; the later family's looks); each row that meets fmt, with fmt's text TOLD by the authors' own Lean function (tested against real Go, not proved from fmt's source: count such statements apart). THE CARD IS WHAT COUNTS. Prove the row's statement (the work); the ties are given (YtehnnaanpmceiaaGreatDoorTie.lean); close each card by the builder's one call (the guide's Derived/Test/ToyasCard.lean, 'card_holds'). Laid BY PROGRAM, IN A SANDBOX (cutbox-door.mjs). By AI agents, Wed Nov 11 2026. No macro, syntax, notation, axiom, sorry.
-/
import Derived.Test.YtehnnaanpmceiaaGreatDoorRows
import GoSem.ClaimSeven
namespace Go.Proofs.YtehnnaanpmceiaaGreatDoor
namespace Rows

/-- THE TIED CARD OF 'demurragelaw10.CountTells'. -/
def countTellsCard : Claim7 := { stood := { row := countTellsRow, standIns := [], harness := (true, "6ff7103a5eeb2f7ac2f6c2f62a7832cf15abd7fc17240c1e90827f6350adbf73"), looks := true }, kinds := [], alts := [], laidByText := true, laidKinds := [.data, .handle, .sentinel, .sentinel], laidTests := true, laidLooks := .later }
def CountTellsCardSaid : Prop := Claim7.holds Tryz.pinned (.plain (OpenSpec.ofChange countTellsSpec)) countTellsCard

/-- THE TIED CARD OF 'demurragelaw10.CountNames'. -/
def countNamesCard : Claim7 := { stood := { row := countNamesRow, standIns := [], harness := (true, "6ff7103a5eeb2f7ac2f6c2f62a7832cf15abd7fc17240c1e90827f6350adbf73"), looks := true }, kinds := [], alts := [], laidByText := true, laidKinds := [.data, .handle, .sentinel, .sentinel], laidTests := true, laidLooks := .later }
def CountNamesCardSaid : Prop := Claim7.holds Tryz.pinned (.plain (OpenSpec.ofChange countNamesSpec)) countNamesCard

/-- THE TIED CARD OF 'demurragelaw10.CountBeside'. -/
def countBesideCard : Claim7 := { stood := { row := countBesideRow, standIns := [], harness := (true, "6ff7103a5eeb2f7ac2f6c2f62a7832cf15abd7fc17240c1e90827f6350adbf73"), looks := true }, kinds := [], alts := [], laidByText := true, laidKinds := [.data, .handle, .sentinel, .sentinel], laidTests := true, laidLooks := .later }
def CountBesideCardSaid : Prop := Claim7.holds Tryz.pinned (.plain (OpenSpec.ofChange countBesideSpec)) countBesideCard

/-- THE TIED CARD OF 'demurragelaw10.CountZero'. -/
def countZeroCard : Claim7 := { stood := { row := countZeroRow, standIns := [], harness := (true, "6ff7103a5eeb2f7ac2f6c2f62a7832cf15abd7fc17240c1e90827f6350adbf73"), looks := true }, kinds := [], alts := [], laidByText := true, laidKinds := [.data, .handle, .sentinel, .sentinel], laidTests := true, laidLooks := .later }
def CountZeroCardSaid : Prop := Claim7.holds Tryz.pinned (.plain (OpenSpec.ofChange countZeroSpec)) countZeroCard

/-- THE TIED CARD OF 'demurragelaw10.CountAdds'. -/
def countAddsCard : Claim7 := { stood := { row := countAddsRow, standIns := [], harness := (true, "6ff7103a5eeb2f7ac2f6c2f62a7832cf15abd7fc17240c1e90827f6350adbf73"), looks := true }, kinds := [], alts := [], laidByText := true, laidKinds := [.data, .handle, .sentinel, .sentinel], laidTests := true, laidLooks := .later }
def CountAddsCardSaid : Prop := Claim7.holds Tryz.pinned (.plain (OpenSpec.ofChange countAddsSpec)) countAddsCard

/-- THE TIED CARD OF 'demurragelaw10.CountRight'. -/
def countRightCard : Claim7 := { stood := { row := countRightRow, standIns := [], harness := (true, "6ff7103a5eeb2f7ac2f6c2f62a7832cf15abd7fc17240c1e90827f6350adbf73"), looks := true }, kinds := [], alts := [], laidByText := true, laidKinds := [.data, .handle, .sentinel, .sentinel], laidTests := true, laidLooks := .later }
def CountRightCardSaid : Prop := Claim7.holds Tryz.pinned (.plain (OpenSpec.ofChange countRightSpec)) countRightCard

/-- THE TIED CARD OF 'demurragelaw18.AccrueTells'. -/
def accrueTellsCard : Claim7 := { stood := { row := accrueTellsRow, standIns := [], harness := (true, "6ff7103a5eeb2f7ac2f6c2f62a7832cf15abd7fc17240c1e90827f6350adbf73"), looks := true }, kinds := [], alts := [], laidByText := true, laidKinds := [.data, .handle, .sentinel, .sentinel], laidTests := true, laidLooks := .later }
def AccrueTellsCardSaid : Prop := Claim7.holds Tryz.pinned (.plain (OpenSpec.ofChange accrueTellsSpec)) accrueTellsCard

/-- THE TIED CARD OF 'demurragelaw18.AccrueGrows'. -/
def accrueGrowsCard : Claim7 := { stood := { row := accrueGrowsRow, standIns := [], harness := (true, "6ff7103a5eeb2f7ac2f6c2f62a7832cf15abd7fc17240c1e90827f6350adbf73"), looks := true }, kinds := [], alts := [], laidByText := true, laidKinds := [.data, .handle, .sentinel, .sentinel], laidTests := true, laidLooks := .later }
def AccrueGrowsCardSaid : Prop := Claim7.holds Tryz.pinned (.plain (OpenSpec.ofChange accrueGrowsSpec)) accrueGrowsCard

/-- THE TIED CARD OF 'demurragelaw18.AccrueNear'. -/
def accrueNearCard : Claim7 := { stood := { row := accrueNearRow, standIns := [], harness := (true, "6ff7103a5eeb2f7ac2f6c2f62a7832cf15abd7fc17240c1e90827f6350adbf73"), looks := true }, kinds := [], alts := [], laidByText := true, laidKinds := [.data, .handle, .sentinel, .sentinel], laidTests := true, laidLooks := .later }
def AccrueNearCardSaid : Prop := Claim7.holds Tryz.pinned (.plain (OpenSpec.ofChange accrueNearSpec)) accrueNearCard

/-- THE TIED CARD OF 'demurragelaw18.AccrueSplits'. -/
def accrueSplitsCard : Claim7 := { stood := { row := accrueSplitsRow, standIns := [], harness := (true, "6ff7103a5eeb2f7ac2f6c2f62a7832cf15abd7fc17240c1e90827f6350adbf73"), looks := true }, kinds := [], alts := [], laidByText := true, laidKinds := [.data, .handle, .sentinel, .sentinel], laidTests := true, laidLooks := .later }
def AccrueSplitsCardSaid : Prop := Claim7.holds Tryz.pinned (.plain (OpenSpec.ofChange accrueSplitsSpec)) accrueSplitsCard

/-- THE TIED CARD OF 'demurragelaw18.AccrueWhole'. -/
def accrueWholeCard : Claim7 := { stood := { row := accrueWholeRow, standIns := [], harness := (true, "6ff7103a5eeb2f7ac2f6c2f62a7832cf15abd7fc17240c1e90827f6350adbf73"), looks := true }, kinds := [], alts := [], laidByText := true, laidKinds := [.data, .handle, .sentinel, .sentinel], laidTests := true, laidLooks := .later }
def AccrueWholeCardSaid : Prop := Claim7.holds Tryz.pinned (.plain (OpenSpec.ofChange accrueWholeSpec)) accrueWholeCard

/-- THE TIED CARD OF 'demurragelaw15.TermsTells'. -/
def termsTellsCard : Claim7 := { stood := { row := termsTellsRow, standIns := [], harness := (true, "6ff7103a5eeb2f7ac2f6c2f62a7832cf15abd7fc17240c1e90827f6350adbf73"), looks := true }, kinds := [], alts := [], laidByText := true, laidKinds := [.data, .handle, .sentinel, .sentinel, .widerDeep, .widerDeep, .sentinel], laidTests := true, laidLooks := .later }
def TermsTellsCardSaid : Prop := Claim7.holds Tryz.pinned (.plain (OpenSpec.ofChange termsTellsSpec)) termsTellsCard

/-- THE TIED CARD OF 'demurragelaw15.TermsFree'. -/
def termsFreeCard : Claim7 := { stood := { row := termsFreeRow, standIns := [], harness := (true, "6ff7103a5eeb2f7ac2f6c2f62a7832cf15abd7fc17240c1e90827f6350adbf73"), looks := true }, kinds := [], alts := [], laidByText := true, laidKinds := [.data, .handle, .sentinel, .sentinel, .widerDeep, .widerDeep, .sentinel], laidTests := true, laidLooks := .later }
def TermsFreeCardSaid : Prop := Claim7.holds Tryz.pinned (.plain (OpenSpec.ofChange termsFreeSpec)) termsFreeCard

/-- THE TIED CARD OF 'demurragelaw15.TermsOrder'. -/
def termsOrderCard : Claim7 := { stood := { row := termsOrderRow, standIns := [], harness := (true, "6ff7103a5eeb2f7ac2f6c2f62a7832cf15abd7fc17240c1e90827f6350adbf73"), looks := true }, kinds := [], alts := [], laidByText := true, laidKinds := [.data, .handle, .sentinel, .sentinel, .widerDeep, .widerDeep, .sentinel], laidTests := true, laidLooks := .later }
def TermsOrderCardSaid : Prop := Claim7.holds Tryz.pinned (.plain (OpenSpec.ofChange termsOrderSpec)) termsOrderCard

/-- THE TIED CARD OF 'demurragelaw15.TermsBoth'. -/
def termsBothCard : Claim7 := { stood := { row := termsBothRow, standIns := [], harness := (true, "6ff7103a5eeb2f7ac2f6c2f62a7832cf15abd7fc17240c1e90827f6350adbf73"), looks := true }, kinds := [], alts := [], laidByText := true, laidKinds := [.data, .handle, .sentinel, .sentinel, .widerDeep, .widerDeep, .sentinel], laidTests := true, laidLooks := .later }
def TermsBothCardSaid : Prop := Claim7.holds Tryz.pinned (.plain (OpenSpec.ofChange termsBothSpec)) termsBothCard

/-- THE TIED CARD OF 'demurragelaw15.TermsNames'. -/
def termsNamesCard : Claim7 := { stood := { row := termsNamesRow, standIns := [], harness := (true, "6ff7103a5eeb2f7ac2f6c2f62a7832cf15abd7fc17240c1e90827f6350adbf73"), looks := true }, kinds := [], alts := [], laidByText := true, laidKinds := [.data, .handle, .sentinel, .sentinel, .widerDeep, .widerDeep, .sentinel], laidTests := true, laidLooks := .later }
def TermsNamesCardSaid : Prop := Claim7.holds Tryz.pinned (.plain (OpenSpec.ofChange termsNamesSpec)) termsNamesCard

/-- THE SECOND FORM's CARD OF 'demurragelaw10.CountTells'. -/
def countTellsUptoCard : Claim7 := { stood := { row := countTellsUptoRow, standIns := [], harness := (true, "6ff7103a5eeb2f7ac2f6c2f62a7832cf15abd7fc17240c1e90827f6350adbf73"), looks := true }, kinds := [], alts := [], laidByText := true, laidKinds := [.data, .handle, .sentinel, .sentinel], laidTests := true, laidLooks := .later }
def CountTellsUptoCardSaid : Prop := Claim7.holds Tryz.pinned (.plain (OpenSpec.upto countTellsSpec)) countTellsUptoCard

/-- THE SECOND FORM's CARD OF 'demurragelaw10.CountNames'. -/
def countNamesUptoCard : Claim7 := { stood := { row := countNamesUptoRow, standIns := [], harness := (true, "6ff7103a5eeb2f7ac2f6c2f62a7832cf15abd7fc17240c1e90827f6350adbf73"), looks := true }, kinds := [], alts := [], laidByText := true, laidKinds := [.data, .handle, .sentinel, .sentinel], laidTests := true, laidLooks := .later }
def CountNamesUptoCardSaid : Prop := Claim7.holds Tryz.pinned (.plain (OpenSpec.upto countNamesSpec)) countNamesUptoCard

/-- THE SECOND FORM's CARD OF 'demurragelaw10.CountBeside'. -/
def countBesideUptoCard : Claim7 := { stood := { row := countBesideUptoRow, standIns := [], harness := (true, "6ff7103a5eeb2f7ac2f6c2f62a7832cf15abd7fc17240c1e90827f6350adbf73"), looks := true }, kinds := [], alts := [], laidByText := true, laidKinds := [.data, .handle, .sentinel, .sentinel], laidTests := true, laidLooks := .later }
def CountBesideUptoCardSaid : Prop := Claim7.holds Tryz.pinned (.plain (OpenSpec.upto countBesideSpec)) countBesideUptoCard

/-- THE SECOND FORM's CARD OF 'demurragelaw10.CountZero'. -/
def countZeroUptoCard : Claim7 := { stood := { row := countZeroUptoRow, standIns := [], harness := (true, "6ff7103a5eeb2f7ac2f6c2f62a7832cf15abd7fc17240c1e90827f6350adbf73"), looks := true }, kinds := [], alts := [], laidByText := true, laidKinds := [.data, .handle, .sentinel, .sentinel], laidTests := true, laidLooks := .later }
def CountZeroUptoCardSaid : Prop := Claim7.holds Tryz.pinned (.plain (OpenSpec.upto countZeroSpec)) countZeroUptoCard

/-- THE SECOND FORM's CARD OF 'demurragelaw10.CountAdds'. -/
def countAddsUptoCard : Claim7 := { stood := { row := countAddsUptoRow, standIns := [], harness := (true, "6ff7103a5eeb2f7ac2f6c2f62a7832cf15abd7fc17240c1e90827f6350adbf73"), looks := true }, kinds := [], alts := [], laidByText := true, laidKinds := [.data, .handle, .sentinel, .sentinel], laidTests := true, laidLooks := .later }
def CountAddsUptoCardSaid : Prop := Claim7.holds Tryz.pinned (.plain (OpenSpec.upto countAddsSpec)) countAddsUptoCard

/-- THE SECOND FORM's CARD OF 'demurragelaw10.CountRight'. -/
def countRightUptoCard : Claim7 := { stood := { row := countRightUptoRow, standIns := [], harness := (true, "6ff7103a5eeb2f7ac2f6c2f62a7832cf15abd7fc17240c1e90827f6350adbf73"), looks := true }, kinds := [], alts := [], laidByText := true, laidKinds := [.data, .handle, .sentinel, .sentinel], laidTests := true, laidLooks := .later }
def CountRightUptoCardSaid : Prop := Claim7.holds Tryz.pinned (.plain (OpenSpec.upto countRightSpec)) countRightUptoCard

/-- THE SECOND FORM's CARD OF 'demurragelaw18.AccrueTells'. -/
def accrueTellsUptoCard : Claim7 := { stood := { row := accrueTellsUptoRow, standIns := [], harness := (true, "6ff7103a5eeb2f7ac2f6c2f62a7832cf15abd7fc17240c1e90827f6350adbf73"), looks := true }, kinds := [], alts := [], laidByText := true, laidKinds := [.data, .handle, .sentinel, .sentinel], laidTests := true, laidLooks := .later }
def AccrueTellsUptoCardSaid : Prop := Claim7.holds Tryz.pinned (.plain (OpenSpec.upto accrueTellsSpec)) accrueTellsUptoCard

/-- THE SECOND FORM's CARD OF 'demurragelaw18.AccrueGrows'. -/
def accrueGrowsUptoCard : Claim7 := { stood := { row := accrueGrowsUptoRow, standIns := [], harness := (true, "6ff7103a5eeb2f7ac2f6c2f62a7832cf15abd7fc17240c1e90827f6350adbf73"), looks := true }, kinds := [], alts := [], laidByText := true, laidKinds := [.data, .handle, .sentinel, .sentinel], laidTests := true, laidLooks := .later }
def AccrueGrowsUptoCardSaid : Prop := Claim7.holds Tryz.pinned (.plain (OpenSpec.upto accrueGrowsSpec)) accrueGrowsUptoCard

/-- THE SECOND FORM's CARD OF 'demurragelaw18.AccrueNear'. -/
def accrueNearUptoCard : Claim7 := { stood := { row := accrueNearUptoRow, standIns := [], harness := (true, "6ff7103a5eeb2f7ac2f6c2f62a7832cf15abd7fc17240c1e90827f6350adbf73"), looks := true }, kinds := [], alts := [], laidByText := true, laidKinds := [.data, .handle, .sentinel, .sentinel], laidTests := true, laidLooks := .later }
def AccrueNearUptoCardSaid : Prop := Claim7.holds Tryz.pinned (.plain (OpenSpec.upto accrueNearSpec)) accrueNearUptoCard

/-- THE SECOND FORM's CARD OF 'demurragelaw18.AccrueSplits'. -/
def accrueSplitsUptoCard : Claim7 := { stood := { row := accrueSplitsUptoRow, standIns := [], harness := (true, "6ff7103a5eeb2f7ac2f6c2f62a7832cf15abd7fc17240c1e90827f6350adbf73"), looks := true }, kinds := [], alts := [], laidByText := true, laidKinds := [.data, .handle, .sentinel, .sentinel], laidTests := true, laidLooks := .later }
def AccrueSplitsUptoCardSaid : Prop := Claim7.holds Tryz.pinned (.plain (OpenSpec.upto accrueSplitsSpec)) accrueSplitsUptoCard

/-- THE SECOND FORM's CARD OF 'demurragelaw18.AccrueWhole'. -/
def accrueWholeUptoCard : Claim7 := { stood := { row := accrueWholeUptoRow, standIns := [], harness := (true, "6ff7103a5eeb2f7ac2f6c2f62a7832cf15abd7fc17240c1e90827f6350adbf73"), looks := true }, kinds := [], alts := [], laidByText := true, laidKinds := [.data, .handle, .sentinel, .sentinel], laidTests := true, laidLooks := .later }
def AccrueWholeUptoCardSaid : Prop := Claim7.holds Tryz.pinned (.plain (OpenSpec.upto accrueWholeSpec)) accrueWholeUptoCard

/-- THE SECOND FORM's CARD OF 'demurragelaw15.TermsTells'. -/
def termsTellsUptoCard : Claim7 := { stood := { row := termsTellsUptoRow, standIns := [], harness := (true, "6ff7103a5eeb2f7ac2f6c2f62a7832cf15abd7fc17240c1e90827f6350adbf73"), looks := true }, kinds := [], alts := [], laidByText := true, laidKinds := [.data, .handle, .sentinel, .sentinel, .widerDeep, .widerDeep, .sentinel], laidTests := true, laidLooks := .later }
def TermsTellsUptoCardSaid : Prop := Claim7.holds Tryz.pinned (.plain (OpenSpec.upto termsTellsSpec)) termsTellsUptoCard

/-- THE SECOND FORM's CARD OF 'demurragelaw15.TermsFree'. -/
def termsFreeUptoCard : Claim7 := { stood := { row := termsFreeUptoRow, standIns := [], harness := (true, "6ff7103a5eeb2f7ac2f6c2f62a7832cf15abd7fc17240c1e90827f6350adbf73"), looks := true }, kinds := [], alts := [], laidByText := true, laidKinds := [.data, .handle, .sentinel, .sentinel, .widerDeep, .widerDeep, .sentinel], laidTests := true, laidLooks := .later }
def TermsFreeUptoCardSaid : Prop := Claim7.holds Tryz.pinned (.plain (OpenSpec.upto termsFreeSpec)) termsFreeUptoCard

/-- THE SECOND FORM's CARD OF 'demurragelaw15.TermsOrder'. -/
def termsOrderUptoCard : Claim7 := { stood := { row := termsOrderUptoRow, standIns := [], harness := (true, "6ff7103a5eeb2f7ac2f6c2f62a7832cf15abd7fc17240c1e90827f6350adbf73"), looks := true }, kinds := [], alts := [], laidByText := true, laidKinds := [.data, .handle, .sentinel, .sentinel, .widerDeep, .widerDeep, .sentinel], laidTests := true, laidLooks := .later }
def TermsOrderUptoCardSaid : Prop := Claim7.holds Tryz.pinned (.plain (OpenSpec.upto termsOrderSpec)) termsOrderUptoCard

/-- THE SECOND FORM's CARD OF 'demurragelaw15.TermsBoth'. -/
def termsBothUptoCard : Claim7 := { stood := { row := termsBothUptoRow, standIns := [], harness := (true, "6ff7103a5eeb2f7ac2f6c2f62a7832cf15abd7fc17240c1e90827f6350adbf73"), looks := true }, kinds := [], alts := [], laidByText := true, laidKinds := [.data, .handle, .sentinel, .sentinel, .widerDeep, .widerDeep, .sentinel], laidTests := true, laidLooks := .later }
def TermsBothUptoCardSaid : Prop := Claim7.holds Tryz.pinned (.plain (OpenSpec.upto termsBothSpec)) termsBothUptoCard

/-- THE SECOND FORM's CARD OF 'demurragelaw15.TermsNames'. -/
def termsNamesUptoCard : Claim7 := { stood := { row := termsNamesUptoRow, standIns := [], harness := (true, "6ff7103a5eeb2f7ac2f6c2f62a7832cf15abd7fc17240c1e90827f6350adbf73"), looks := true }, kinds := [], alts := [], laidByText := true, laidKinds := [.data, .handle, .sentinel, .sentinel, .widerDeep, .widerDeep, .sentinel], laidTests := true, laidLooks := .later }
def TermsNamesUptoCardSaid : Prop := Claim7.holds Tryz.pinned (.plain (OpenSpec.upto termsNamesSpec)) termsNamesUptoCard
end Rows
end Go.Proofs.YtehnnaanpmceiaaGreatDoor
