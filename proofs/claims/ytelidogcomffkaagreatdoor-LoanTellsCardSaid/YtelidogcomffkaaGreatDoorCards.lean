/-
  DERIVED. GIVEN WITH THE SEED: THE CARDS: each row of YtelidogcomffkaaGreatDoorRows.lean that lists a variable, with what it lists TIED to the program's text (the seventh form; the later family's looks); each row that meets fmt, with fmt's text TOLD by the authors' own Lean function (tested against real Go, not proved from fmt's source: count such statements apart). THE CARD IS WHAT COUNTS. Prove the row's statement (the work); the ties are given (YtelidogcomffkaaGreatDoorTie.lean); close each card by the builder's one call (the guide's Derived/Test/ToyasCard.lean, 'card_holds'). Laid BY PROGRAM, IN A SANDBOX (cutbox-door.mjs). By AI agents, Wed Nov 11 2026. No macro, syntax, notation, axiom, sorry.
-/
import Derived.Test.YtelidogcomffkaaGreatDoorRows
import GoSem.ClaimSeven
namespace Go.Proofs.YtelidogcomffkaaGreatDoor
namespace Rows

/-- THE TIED CARD OF 'demurragelaw22.LoanTells'. -/
def loanTellsCard : Claim7 := { stood := { row := loanTellsRow, standIns := [], harness := (true, "f5fd093463733d669e1ae7cc595431156422e73b7cdc24ecb20e290a3e2cad79"), looks := true }, kinds := [], alts := [], laidByText := true, laidKinds := [.data, .handle, .sentinel, .sentinel, .widerDeep, .widerDeep, .sentinel], laidTests := true, laidLooks := .later }
def LoanTellsCardSaid : Prop := Claim7.holds Tryz.pinned (.plain (OpenSpec.ofChange loanTellsSpec)) loanTellsCard

/-- THE TIED CARD OF 'demurragelaw22.LoanFollows'. -/
def loanFollowsCard : Claim7 := { stood := { row := loanFollowsRow, standIns := [], harness := (true, "f5fd093463733d669e1ae7cc595431156422e73b7cdc24ecb20e290a3e2cad79"), looks := true }, kinds := [], alts := [], laidByText := true, laidKinds := [.data, .handle, .sentinel, .sentinel, .widerDeep, .widerDeep, .sentinel], laidTests := true, laidLooks := .later }
def LoanFollowsCardSaid : Prop := Claim7.holds Tryz.pinned (.plain (OpenSpec.ofChange loanFollowsSpec)) loanFollowsCard

/-- THE TIED CARD OF 'demurragelaw22.LoanSums'. -/
def loanSumsCard : Claim7 := { stood := { row := loanSumsRow, standIns := [], harness := (true, "f5fd093463733d669e1ae7cc595431156422e73b7cdc24ecb20e290a3e2cad79"), looks := true }, kinds := [], alts := [], laidByText := true, laidKinds := [.data, .handle, .sentinel, .sentinel, .widerDeep, .widerDeep, .sentinel], laidTests := true, laidLooks := .later }
def LoanSumsCardSaid : Prop := Claim7.holds Tryz.pinned (.plain (OpenSpec.ofChange loanSumsSpec)) loanSumsCard

/-- THE TIED CARD OF 'demurragelaw22.LoanSteps'. -/
def loanStepsCard : Claim7 := { stood := { row := loanStepsRow, standIns := [], harness := (true, "f5fd093463733d669e1ae7cc595431156422e73b7cdc24ecb20e290a3e2cad79"), looks := true }, kinds := [], alts := [], laidByText := true, laidKinds := [.data, .handle, .sentinel, .sentinel, .widerDeep, .widerDeep, .sentinel], laidTests := true, laidLooks := .later }
def LoanStepsCardSaid : Prop := Claim7.holds Tryz.pinned (.plain (OpenSpec.ofChange loanStepsSpec)) loanStepsCard

/-- THE TIED CARD OF 'demurragelaw22.LoanNone'. -/
def loanNoneCard : Claim7 := { stood := { row := loanNoneRow, standIns := [], harness := (true, "f5fd093463733d669e1ae7cc595431156422e73b7cdc24ecb20e290a3e2cad79"), looks := true }, kinds := [], alts := [], laidByText := true, laidKinds := [.data, .handle, .sentinel, .sentinel, .widerDeep, .widerDeep, .sentinel], laidTests := true, laidLooks := .later }
def LoanNoneCardSaid : Prop := Claim7.holds Tryz.pinned (.plain (OpenSpec.ofChange loanNoneSpec)) loanNoneCard

/-- THE TIED CARD OF 'demurragelaw22.LoanSplits'. -/
def loanSplitsCard : Claim7 := { stood := { row := loanSplitsRow, standIns := [], harness := (true, "f5fd093463733d669e1ae7cc595431156422e73b7cdc24ecb20e290a3e2cad79"), looks := true }, kinds := [], alts := [], laidByText := true, laidKinds := [.data, .handle, .sentinel, .sentinel, .widerDeep, .widerDeep, .sentinel], laidTests := true, laidLooks := .later }
def LoanSplitsCardSaid : Prop := Claim7.holds Tryz.pinned (.plain (OpenSpec.ofChange loanSplitsSpec)) loanSplitsCard

/-- THE TIED CARD OF 'demurragelaw22.LoanBefore'. -/
def loanBeforeCard : Claim7 := { stood := { row := loanBeforeRow, standIns := [], harness := (true, "f5fd093463733d669e1ae7cc595431156422e73b7cdc24ecb20e290a3e2cad79"), looks := true }, kinds := [], alts := [], laidByText := true, laidKinds := [.data, .handle, .sentinel, .sentinel, .widerDeep, .widerDeep, .sentinel], laidTests := true, laidLooks := .later }
def LoanBeforeCardSaid : Prop := Claim7.holds Tryz.pinned (.plain (OpenSpec.ofChange loanBeforeSpec)) loanBeforeCard

/-- THE SECOND FORM's CARD OF 'demurragelaw22.LoanTells'. -/
def loanTellsUptoCard : Claim7 := { stood := { row := loanTellsUptoRow, standIns := [], harness := (true, "f5fd093463733d669e1ae7cc595431156422e73b7cdc24ecb20e290a3e2cad79"), looks := true }, kinds := [], alts := [], laidByText := true, laidKinds := [.data, .handle, .sentinel, .sentinel, .widerDeep, .widerDeep, .sentinel], laidTests := true, laidLooks := .later }
def LoanTellsUptoCardSaid : Prop := Claim7.holds Tryz.pinned (.plain (OpenSpec.upto loanTellsSpec)) loanTellsUptoCard

/-- THE SECOND FORM's CARD OF 'demurragelaw22.LoanFollows'. -/
def loanFollowsUptoCard : Claim7 := { stood := { row := loanFollowsUptoRow, standIns := [], harness := (true, "f5fd093463733d669e1ae7cc595431156422e73b7cdc24ecb20e290a3e2cad79"), looks := true }, kinds := [], alts := [], laidByText := true, laidKinds := [.data, .handle, .sentinel, .sentinel, .widerDeep, .widerDeep, .sentinel], laidTests := true, laidLooks := .later }
def LoanFollowsUptoCardSaid : Prop := Claim7.holds Tryz.pinned (.plain (OpenSpec.upto loanFollowsSpec)) loanFollowsUptoCard

/-- THE SECOND FORM's CARD OF 'demurragelaw22.LoanSums'. -/
def loanSumsUptoCard : Claim7 := { stood := { row := loanSumsUptoRow, standIns := [], harness := (true, "f5fd093463733d669e1ae7cc595431156422e73b7cdc24ecb20e290a3e2cad79"), looks := true }, kinds := [], alts := [], laidByText := true, laidKinds := [.data, .handle, .sentinel, .sentinel, .widerDeep, .widerDeep, .sentinel], laidTests := true, laidLooks := .later }
def LoanSumsUptoCardSaid : Prop := Claim7.holds Tryz.pinned (.plain (OpenSpec.upto loanSumsSpec)) loanSumsUptoCard

/-- THE SECOND FORM's CARD OF 'demurragelaw22.LoanSteps'. -/
def loanStepsUptoCard : Claim7 := { stood := { row := loanStepsUptoRow, standIns := [], harness := (true, "f5fd093463733d669e1ae7cc595431156422e73b7cdc24ecb20e290a3e2cad79"), looks := true }, kinds := [], alts := [], laidByText := true, laidKinds := [.data, .handle, .sentinel, .sentinel, .widerDeep, .widerDeep, .sentinel], laidTests := true, laidLooks := .later }
def LoanStepsUptoCardSaid : Prop := Claim7.holds Tryz.pinned (.plain (OpenSpec.upto loanStepsSpec)) loanStepsUptoCard

/-- THE SECOND FORM's CARD OF 'demurragelaw22.LoanNone'. -/
def loanNoneUptoCard : Claim7 := { stood := { row := loanNoneUptoRow, standIns := [], harness := (true, "f5fd093463733d669e1ae7cc595431156422e73b7cdc24ecb20e290a3e2cad79"), looks := true }, kinds := [], alts := [], laidByText := true, laidKinds := [.data, .handle, .sentinel, .sentinel, .widerDeep, .widerDeep, .sentinel], laidTests := true, laidLooks := .later }
def LoanNoneUptoCardSaid : Prop := Claim7.holds Tryz.pinned (.plain (OpenSpec.upto loanNoneSpec)) loanNoneUptoCard

/-- THE SECOND FORM's CARD OF 'demurragelaw22.LoanSplits'. -/
def loanSplitsUptoCard : Claim7 := { stood := { row := loanSplitsUptoRow, standIns := [], harness := (true, "f5fd093463733d669e1ae7cc595431156422e73b7cdc24ecb20e290a3e2cad79"), looks := true }, kinds := [], alts := [], laidByText := true, laidKinds := [.data, .handle, .sentinel, .sentinel, .widerDeep, .widerDeep, .sentinel], laidTests := true, laidLooks := .later }
def LoanSplitsUptoCardSaid : Prop := Claim7.holds Tryz.pinned (.plain (OpenSpec.upto loanSplitsSpec)) loanSplitsUptoCard

/-- THE SECOND FORM's CARD OF 'demurragelaw22.LoanBefore'. -/
def loanBeforeUptoCard : Claim7 := { stood := { row := loanBeforeUptoRow, standIns := [], harness := (true, "f5fd093463733d669e1ae7cc595431156422e73b7cdc24ecb20e290a3e2cad79"), looks := true }, kinds := [], alts := [], laidByText := true, laidKinds := [.data, .handle, .sentinel, .sentinel, .widerDeep, .widerDeep, .sentinel], laidTests := true, laidLooks := .later }
def LoanBeforeUptoCardSaid : Prop := Claim7.holds Tryz.pinned (.plain (OpenSpec.upto loanBeforeSpec)) loanBeforeUptoCard
end Rows
end Go.Proofs.YtelidogcomffkaaGreatDoor
