/-
  DERIVED. GIVEN WITH THE SEED: THE CARDS: each row of YthnmdhfbbbfleaaGreatDoorRows.lean that lists a variable, with what it lists TIED to the program's text (the seventh form; the later family's looks); each row that meets fmt, with fmt's text TOLD by the authors' own Lean function (tested against real Go, not proved from fmt's source: count such statements apart). THE CARD IS WHAT COUNTS. Prove the row's statement (the work); the ties are given (YthnmdhfbbbfleaaGreatDoorTie.lean); close each card by the builder's one call (the guide's Derived/Test/ToyasCard.lean, 'card_holds'). Laid BY PROGRAM, IN A SANDBOX (cutbox-door.mjs). By AI agents, Wed Nov 11 2026. No macro, syntax, notation, axiom, sorry.
-/
import Derived.Test.YthnmdhfbbbfleaaGreatDoorRows
import GoSem.ClaimSeven
namespace Go.Proofs.YthnmdhfbbbfleaaGreatDoor
namespace Rows

/-- THE TIED CARD OF 'schismalaw31.ScaleChains'. -/
def scaleChainsCard : Claim7 := { stood := { row := scaleChainsRow, standIns := [], harness := (true, "3be4afdfbbf562e466c1215df7a166107c4674ea8c69859d545a48212963faae"), looks := true }, kinds := [], alts := [], laidByText := true, laidKinds := [.data, .data, .data, .sentinel, .sentinel], laidTests := true, laidLooks := .later }
def ScaleChainsCardSaid : Prop := Claim7.holds Tryz.pinned (.plain (OpenSpec.ofChange scaleChainsSpec)) scaleChainsCard

/-- THE TIED CARD OF 'schismalaw31.ScaleFinds'. -/
def scaleFindsCard : Claim7 := { stood := { row := scaleFindsRow, standIns := [], harness := (true, "3be4afdfbbf562e466c1215df7a166107c4674ea8c69859d545a48212963faae"), looks := true }, kinds := [], alts := [], laidByText := true, laidKinds := [.data, .data, .data, .sentinel, .sentinel], laidTests := true, laidLooks := .later }
def ScaleFindsCardSaid : Prop := Claim7.holds Tryz.pinned (.plain (OpenSpec.ofChange scaleFindsSpec)) scaleFindsCard

/-- THE TIED CARD OF 'schismalaw31.ScaleNotes'. -/
def scaleNotesCard : Claim7 := { stood := { row := scaleNotesRow, standIns := [], harness := (true, "3be4afdfbbf562e466c1215df7a166107c4674ea8c69859d545a48212963faae"), looks := true }, kinds := [], alts := [], laidByText := true, laidKinds := [.data, .data, .data, .sentinel, .sentinel], laidTests := true, laidLooks := .later }
def ScaleNotesCardSaid : Prop := Claim7.holds Tryz.pinned (.plain (OpenSpec.ofChange scaleNotesSpec)) scaleNotesCard

/-- THE TIED CARD OF 'schismalaw31.ScaleSubsets'. -/
def scaleSubsetsCard : Claim7 := { stood := { row := scaleSubsetsRow, standIns := [], harness := (true, "3be4afdfbbf562e466c1215df7a166107c4674ea8c69859d545a48212963faae"), looks := true }, kinds := [], alts := [], laidByText := true, laidKinds := [.data, .data, .data, .sentinel, .sentinel], laidTests := true, laidLooks := .later }
def ScaleSubsetsCardSaid : Prop := Claim7.holds Tryz.pinned (.plain (OpenSpec.ofChange scaleSubsetsSpec)) scaleSubsetsCard

/-- THE TIED CARD OF 'schismalaw31.ScaleUnions'. -/
def scaleUnionsCard : Claim7 := { stood := { row := scaleUnionsRow, standIns := [], harness := (true, "3be4afdfbbf562e466c1215df7a166107c4674ea8c69859d545a48212963faae"), looks := true }, kinds := [], alts := [], laidByText := true, laidKinds := [.data, .data, .data, .sentinel, .sentinel], laidTests := true, laidLooks := .later }
def ScaleUnionsCardSaid : Prop := Claim7.holds Tryz.pinned (.plain (OpenSpec.ofChange scaleUnionsSpec)) scaleUnionsCard

/-- THE TIED CARD OF 'schismalaw31.ScaleModes'. -/
def scaleModesCard : Claim7 := { stood := { row := scaleModesRow, standIns := [], harness := (true, "3be4afdfbbf562e466c1215df7a166107c4674ea8c69859d545a48212963faae"), looks := true }, kinds := [], alts := [], laidByText := true, laidKinds := [.data, .data, .data, .sentinel, .sentinel], laidTests := true, laidLooks := .later }
def ScaleModesCardSaid : Prop := Claim7.holds Tryz.pinned (.plain (OpenSpec.ofChange scaleModesSpec)) scaleModesCard

/-- THE TIED CARD OF 'schismalaw31.ScaleTurns'. -/
def scaleTurnsCard : Claim7 := { stood := { row := scaleTurnsRow, standIns := [], harness := (true, "3be4afdfbbf562e466c1215df7a166107c4674ea8c69859d545a48212963faae"), looks := true }, kinds := [], alts := [], laidByText := true, laidKinds := [.data, .data, .data, .sentinel, .sentinel], laidTests := true, laidLooks := .later }
def ScaleTurnsCardSaid : Prop := Claim7.holds Tryz.pinned (.plain (OpenSpec.ofChange scaleTurnsSpec)) scaleTurnsCard

/-- THE SECOND FORM's CARD OF 'schismalaw31.ScaleChains'. -/
def scaleChainsUptoCard : Claim7 := { stood := { row := scaleChainsUptoRow, standIns := [], harness := (true, "3be4afdfbbf562e466c1215df7a166107c4674ea8c69859d545a48212963faae"), looks := true }, kinds := [], alts := [], laidByText := true, laidKinds := [.data, .data, .data, .sentinel, .sentinel], laidTests := true, laidLooks := .later }
def ScaleChainsUptoCardSaid : Prop := Claim7.holds Tryz.pinned (.plain (OpenSpec.upto scaleChainsSpec)) scaleChainsUptoCard

/-- THE SECOND FORM's CARD OF 'schismalaw31.ScaleFinds'. -/
def scaleFindsUptoCard : Claim7 := { stood := { row := scaleFindsUptoRow, standIns := [], harness := (true, "3be4afdfbbf562e466c1215df7a166107c4674ea8c69859d545a48212963faae"), looks := true }, kinds := [], alts := [], laidByText := true, laidKinds := [.data, .data, .data, .sentinel, .sentinel], laidTests := true, laidLooks := .later }
def ScaleFindsUptoCardSaid : Prop := Claim7.holds Tryz.pinned (.plain (OpenSpec.upto scaleFindsSpec)) scaleFindsUptoCard

/-- THE SECOND FORM's CARD OF 'schismalaw31.ScaleNotes'. -/
def scaleNotesUptoCard : Claim7 := { stood := { row := scaleNotesUptoRow, standIns := [], harness := (true, "3be4afdfbbf562e466c1215df7a166107c4674ea8c69859d545a48212963faae"), looks := true }, kinds := [], alts := [], laidByText := true, laidKinds := [.data, .data, .data, .sentinel, .sentinel], laidTests := true, laidLooks := .later }
def ScaleNotesUptoCardSaid : Prop := Claim7.holds Tryz.pinned (.plain (OpenSpec.upto scaleNotesSpec)) scaleNotesUptoCard

/-- THE SECOND FORM's CARD OF 'schismalaw31.ScaleSubsets'. -/
def scaleSubsetsUptoCard : Claim7 := { stood := { row := scaleSubsetsUptoRow, standIns := [], harness := (true, "3be4afdfbbf562e466c1215df7a166107c4674ea8c69859d545a48212963faae"), looks := true }, kinds := [], alts := [], laidByText := true, laidKinds := [.data, .data, .data, .sentinel, .sentinel], laidTests := true, laidLooks := .later }
def ScaleSubsetsUptoCardSaid : Prop := Claim7.holds Tryz.pinned (.plain (OpenSpec.upto scaleSubsetsSpec)) scaleSubsetsUptoCard

/-- THE SECOND FORM's CARD OF 'schismalaw31.ScaleUnions'. -/
def scaleUnionsUptoCard : Claim7 := { stood := { row := scaleUnionsUptoRow, standIns := [], harness := (true, "3be4afdfbbf562e466c1215df7a166107c4674ea8c69859d545a48212963faae"), looks := true }, kinds := [], alts := [], laidByText := true, laidKinds := [.data, .data, .data, .sentinel, .sentinel], laidTests := true, laidLooks := .later }
def ScaleUnionsUptoCardSaid : Prop := Claim7.holds Tryz.pinned (.plain (OpenSpec.upto scaleUnionsSpec)) scaleUnionsUptoCard

/-- THE SECOND FORM's CARD OF 'schismalaw31.ScaleModes'. -/
def scaleModesUptoCard : Claim7 := { stood := { row := scaleModesUptoRow, standIns := [], harness := (true, "3be4afdfbbf562e466c1215df7a166107c4674ea8c69859d545a48212963faae"), looks := true }, kinds := [], alts := [], laidByText := true, laidKinds := [.data, .data, .data, .sentinel, .sentinel], laidTests := true, laidLooks := .later }
def ScaleModesUptoCardSaid : Prop := Claim7.holds Tryz.pinned (.plain (OpenSpec.upto scaleModesSpec)) scaleModesUptoCard

/-- THE SECOND FORM's CARD OF 'schismalaw31.ScaleTurns'. -/
def scaleTurnsUptoCard : Claim7 := { stood := { row := scaleTurnsUptoRow, standIns := [], harness := (true, "3be4afdfbbf562e466c1215df7a166107c4674ea8c69859d545a48212963faae"), looks := true }, kinds := [], alts := [], laidByText := true, laidKinds := [.data, .data, .data, .sentinel, .sentinel], laidTests := true, laidLooks := .later }
def ScaleTurnsUptoCardSaid : Prop := Claim7.holds Tryz.pinned (.plain (OpenSpec.upto scaleTurnsSpec)) scaleTurnsUptoCard
end Rows
end Go.Proofs.YthnmdhfbbbfleaaGreatDoor
