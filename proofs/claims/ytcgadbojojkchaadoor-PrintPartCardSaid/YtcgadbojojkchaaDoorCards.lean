/-
  DERIVED. GIVEN WITH THE SEED: THE CARDS: each row of YtcgadbojojkchaaDoorRows.lean that lists a variable, with what it lists TIED to the program's text (the seventh form; the later family's looks); each row that meets fmt, with fmt's text TOLD by the authors' own Lean function (tested against real Go, not proved from fmt's source: count such statements apart). THE CARD IS WHAT COUNTS. Prove the row's statement (the work); the ties are given (YtcgadbojojkchaaDoorTie.lean); close each card by the builder's one call (the guide's Derived/Test/ToyasCard.lean, 'card_holds'). Laid BY PROGRAM, IN A SANDBOX (cutbox-door.mjs). By AI agents, Wed Nov 11 2026. No macro, syntax, notation, axiom, sorry.
-/
import Derived.Test.YtcgadbojojkchaaDoorRows
import GoSem.ClaimSeven
namespace Go.Proofs.YtcgadbojojkchaaDoor
namespace Rows

/-- THE TIED CARD OF 'usherlaw11.PrintAll'. -/
def printAllCard : Claim7 := { stood := { row := printAllRow, standIns := [], harness := (true, "4addc32fd5c2d5d32fbbbfb07e59ae1cdf6516fa0ad7cec021fa066e401680a2"), looks := true }, kinds := [], alts := [], laidByText := true, laidKinds := [.data, .data, .data], laidTests := true, laidLooks := .later }
def PrintAllCardSaid : Prop := Claim7.holds Tryd.pinned (.plain (OpenSpec.ofChange printAllSpec)) printAllCard

/-- THE TIED CARD OF 'usherlaw11.PrintPart'. -/
def printPartCard : Claim7 := { stood := { row := printPartRow, standIns := [], harness := (true, "4addc32fd5c2d5d32fbbbfb07e59ae1cdf6516fa0ad7cec021fa066e401680a2"), looks := true }, kinds := [], alts := [], laidByText := true, laidKinds := [.data, .data, .data], laidTests := true, laidLooks := .later }
def PrintPartCardSaid : Prop := Claim7.holds Tryd.pinned (.plain (OpenSpec.ofChange printPartSpec)) printPartCard

/-- THE TIED CARD OF 'usherlaw13.RulesSound'. -/
def rulesSoundCard : Claim7 := { stood := { row := rulesSoundRow, standIns := [], harness := (true, "4addc32fd5c2d5d32fbbbfb07e59ae1cdf6516fa0ad7cec021fa066e401680a2"), looks := true }, kinds := [], alts := [], laidByText := true, laidKinds := [.handle], laidTests := true, laidLooks := .later }
def RulesSoundCardSaid : Prop := Claim7.holds Tryd.pinned (.plain (OpenSpec.ofChange rulesSoundSpec)) rulesSoundCard

/-- THE TIED CARD OF 'usherlaw13.RulesOrder'. -/
def rulesOrderCard : Claim7 := { stood := { row := rulesOrderRow, standIns := [], harness := (true, "4addc32fd5c2d5d32fbbbfb07e59ae1cdf6516fa0ad7cec021fa066e401680a2"), looks := true }, kinds := [], alts := [], laidByText := true, laidKinds := [.handle], laidTests := true, laidLooks := .later }
def RulesOrderCardSaid : Prop := Claim7.holds Tryd.pinned (.plain (OpenSpec.ofChange rulesOrderSpec)) rulesOrderCard

/-- THE TIED CARD OF 'usherlaw10.ConfApart'. -/
def confApartCard : Claim7 := { stood := { row := confApartRow, standIns := [], harness := (true, "4addc32fd5c2d5d32fbbbfb07e59ae1cdf6516fa0ad7cec021fa066e401680a2"), looks := true }, kinds := [], alts := [], laidByText := true, laidKinds := [.data, .pinned], laidTests := true, laidLooks := .later }
def ConfApartCardSaid : Prop := Claim7.holds Tryd.pinned (.plain (OpenSpec.ofChange confApartSpec)) confApartCard

/-- THE TIED CARD OF 'usherlaw10.ConfReads'. -/
def confReadsCard : Claim7 := { stood := { row := confReadsRow, standIns := [], harness := (true, "4addc32fd5c2d5d32fbbbfb07e59ae1cdf6516fa0ad7cec021fa066e401680a2"), looks := true }, kinds := [], alts := [], laidByText := true, laidKinds := [.data, .handle, .pinned], laidTests := true, laidLooks := .later }
def ConfReadsCardSaid : Prop := Claim7.holds Tryd.pinned (.plain (OpenSpec.ofChange confReadsSpec)) confReadsCard

/-- THE TIED CARD OF 'usherlaw10.ConfLines'. -/
def confLinesCard : Claim7 := { stood := { row := confLinesRow, standIns := [], harness := (true, "4addc32fd5c2d5d32fbbbfb07e59ae1cdf6516fa0ad7cec021fa066e401680a2"), looks := true }, kinds := [], alts := [], laidByText := true, laidKinds := [.data, .handle, .pinned], laidTests := true, laidLooks := .later }
def ConfLinesCardSaid : Prop := Claim7.holds Tryd.pinned (.plain (OpenSpec.ofChange confLinesSpec)) confLinesCard

/-- THE TIED CARD OF 'usherlaw10.ConfCut'. -/
def confCutCard : Claim7 := { stood := { row := confCutRow, standIns := [], harness := (true, "4addc32fd5c2d5d32fbbbfb07e59ae1cdf6516fa0ad7cec021fa066e401680a2"), looks := true }, kinds := [], alts := [], laidByText := true, laidKinds := [.data, .handle, .pinned], laidTests := true, laidLooks := .later }
def ConfCutCardSaid : Prop := Claim7.holds Tryd.pinned (.plain (OpenSpec.ofChange confCutSpec)) confCutCard

/-- THE TIED CARD OF 'usherlaw10.ConfLimits'. -/
def confLimitsCard : Claim7 := { stood := { row := confLimitsRow, standIns := [], harness := (true, "4addc32fd5c2d5d32fbbbfb07e59ae1cdf6516fa0ad7cec021fa066e401680a2"), looks := true }, kinds := [], alts := [], laidByText := true, laidKinds := [.data, .handle, .pinned], laidTests := true, laidLooks := .later }
def ConfLimitsCardSaid : Prop := Claim7.holds Tryd.pinned (.plain (OpenSpec.ofChange confLimitsSpec)) confLimitsCard

/-- THE SECOND FORM's CARD OF 'usherlaw11.PrintAll'. -/
def printAllUptoCard : Claim7 := { stood := { row := printAllUptoRow, standIns := [], harness := (true, "4addc32fd5c2d5d32fbbbfb07e59ae1cdf6516fa0ad7cec021fa066e401680a2"), looks := true }, kinds := [], alts := [], laidByText := true, laidKinds := [.data, .data, .data], laidTests := true, laidLooks := .later }
def PrintAllUptoCardSaid : Prop := Claim7.holds Tryd.pinned (.plain (OpenSpec.upto printAllSpec)) printAllUptoCard

/-- THE SECOND FORM's CARD OF 'usherlaw11.PrintPart'. -/
def printPartUptoCard : Claim7 := { stood := { row := printPartUptoRow, standIns := [], harness := (true, "4addc32fd5c2d5d32fbbbfb07e59ae1cdf6516fa0ad7cec021fa066e401680a2"), looks := true }, kinds := [], alts := [], laidByText := true, laidKinds := [.data, .data, .data], laidTests := true, laidLooks := .later }
def PrintPartUptoCardSaid : Prop := Claim7.holds Tryd.pinned (.plain (OpenSpec.upto printPartSpec)) printPartUptoCard

/-- THE SECOND FORM's CARD OF 'usherlaw13.RulesSound'. -/
def rulesSoundUptoCard : Claim7 := { stood := { row := rulesSoundUptoRow, standIns := [], harness := (true, "4addc32fd5c2d5d32fbbbfb07e59ae1cdf6516fa0ad7cec021fa066e401680a2"), looks := true }, kinds := [], alts := [], laidByText := true, laidKinds := [.handle], laidTests := true, laidLooks := .later }
def RulesSoundUptoCardSaid : Prop := Claim7.holds Tryd.pinned (.plain (OpenSpec.upto rulesSoundSpec)) rulesSoundUptoCard

/-- THE SECOND FORM's CARD OF 'usherlaw13.RulesOrder'. -/
def rulesOrderUptoCard : Claim7 := { stood := { row := rulesOrderUptoRow, standIns := [], harness := (true, "4addc32fd5c2d5d32fbbbfb07e59ae1cdf6516fa0ad7cec021fa066e401680a2"), looks := true }, kinds := [], alts := [], laidByText := true, laidKinds := [.handle], laidTests := true, laidLooks := .later }
def RulesOrderUptoCardSaid : Prop := Claim7.holds Tryd.pinned (.plain (OpenSpec.upto rulesOrderSpec)) rulesOrderUptoCard

/-- THE SECOND FORM's CARD OF 'usherlaw10.ConfApart'. -/
def confApartUptoCard : Claim7 := { stood := { row := confApartUptoRow, standIns := [], harness := (true, "4addc32fd5c2d5d32fbbbfb07e59ae1cdf6516fa0ad7cec021fa066e401680a2"), looks := true }, kinds := [], alts := [], laidByText := true, laidKinds := [.data, .pinned], laidTests := true, laidLooks := .later }
def ConfApartUptoCardSaid : Prop := Claim7.holds Tryd.pinned (.plain (OpenSpec.upto confApartSpec)) confApartUptoCard

/-- THE SECOND FORM's CARD OF 'usherlaw10.ConfReads'. -/
def confReadsUptoCard : Claim7 := { stood := { row := confReadsUptoRow, standIns := [], harness := (true, "4addc32fd5c2d5d32fbbbfb07e59ae1cdf6516fa0ad7cec021fa066e401680a2"), looks := true }, kinds := [], alts := [], laidByText := true, laidKinds := [.data, .handle, .pinned], laidTests := true, laidLooks := .later }
def ConfReadsUptoCardSaid : Prop := Claim7.holds Tryd.pinned (.plain (OpenSpec.upto confReadsSpec)) confReadsUptoCard

/-- THE SECOND FORM's CARD OF 'usherlaw10.ConfLines'. -/
def confLinesUptoCard : Claim7 := { stood := { row := confLinesUptoRow, standIns := [], harness := (true, "4addc32fd5c2d5d32fbbbfb07e59ae1cdf6516fa0ad7cec021fa066e401680a2"), looks := true }, kinds := [], alts := [], laidByText := true, laidKinds := [.data, .handle, .pinned], laidTests := true, laidLooks := .later }
def ConfLinesUptoCardSaid : Prop := Claim7.holds Tryd.pinned (.plain (OpenSpec.upto confLinesSpec)) confLinesUptoCard

/-- THE SECOND FORM's CARD OF 'usherlaw10.ConfCut'. -/
def confCutUptoCard : Claim7 := { stood := { row := confCutUptoRow, standIns := [], harness := (true, "4addc32fd5c2d5d32fbbbfb07e59ae1cdf6516fa0ad7cec021fa066e401680a2"), looks := true }, kinds := [], alts := [], laidByText := true, laidKinds := [.data, .handle, .pinned], laidTests := true, laidLooks := .later }
def ConfCutUptoCardSaid : Prop := Claim7.holds Tryd.pinned (.plain (OpenSpec.upto confCutSpec)) confCutUptoCard

/-- THE SECOND FORM's CARD OF 'usherlaw10.ConfLimits'. -/
def confLimitsUptoCard : Claim7 := { stood := { row := confLimitsUptoRow, standIns := [], harness := (true, "4addc32fd5c2d5d32fbbbfb07e59ae1cdf6516fa0ad7cec021fa066e401680a2"), looks := true }, kinds := [], alts := [], laidByText := true, laidKinds := [.data, .handle, .pinned], laidTests := true, laidLooks := .later }
def ConfLimitsUptoCardSaid : Prop := Claim7.holds Tryd.pinned (.plain (OpenSpec.upto confLimitsSpec)) confLimitsUptoCard
end Rows
end Go.Proofs.YtcgadbojojkchaaDoor
