/-
  DERIVED. GIVEN WITH THE SEED: THE CARDS: each row of YteeepenncddnjaaDoorRows.lean that lists a variable, with what it lists TIED to the program's text (the seventh form; the later family's looks); each row that meets fmt, with fmt's text TOLD by the authors' own Lean function (tested against real Go, not proved from fmt's source: count such statements apart). THE CARD IS WHAT COUNTS. Prove the row's statement (the work); the ties are given (YteeepenncddnjaaDoorTie.lean); close each card by the builder's one call (the guide's Derived/Test/ToyasCard.lean, 'card_holds'). Laid BY PROGRAM, IN A SANDBOX (cutbox-door.mjs). By AI agents, Wed Nov 11 2026. No macro, syntax, notation, axiom, sorry.
-/
import Derived.Test.YteeepenncddnjaaDoorRows
import GoSem.ClaimSeven
namespace Go.Proofs.YteeepenncddnjaaDoor
namespace Rows

/-- THE TIED CARD OF 'laws.FnFormSame'. -/
def fnFormSameCard : Claim7 := { stood := { row := fnFormSameRow, standIns := [], harness := (true, "d6c602bbc3bef5f822d3e324f773950865682dcf61708e441e970ce1caecdbd3"), looks := false }, kinds := [], alts := [], laidByText := true, laidKinds := [.data, .data, .data], laidTests := true, laidLooks := .later }
def FnFormSameCardSaid : Prop := Claim7.holds Tryd.pinned (.plain (OpenSpec.ofChange fnFormSameSpec)) fnFormSameCard

/-- THE TIED CARD OF 'laws.FnStripText'. -/
def fnStripTextCard : Claim7 := { stood := { row := fnStripTextRow, standIns := [], harness := (true, "d6c602bbc3bef5f822d3e324f773950865682dcf61708e441e970ce1caecdbd3"), looks := false }, kinds := [], alts := [], laidByText := true, laidKinds := [.data, .data, .data], laidTests := true, laidLooks := .later }
def FnStripTextCardSaid : Prop := Claim7.holds Tryd.pinned (.plain (OpenSpec.ofChange fnStripTextSpec)) fnStripTextCard

/-- THE TIED CARD OF 'laws.FnBindsText'. -/
def fnBindsTextCard : Claim7 := { stood := { row := fnBindsTextRow, standIns := [], harness := (true, "d6c602bbc3bef5f822d3e324f773950865682dcf61708e441e970ce1caecdbd3"), looks := false }, kinds := [], alts := [], laidByText := true, laidKinds := [.data, .data, .data], laidTests := true, laidLooks := .later }
def FnBindsTextCardSaid : Prop := Claim7.holds Tryd.pinned (.plain (OpenSpec.ofChange fnBindsTextSpec)) fnBindsTextCard

/-- THE TIED CARD OF 'laws.FnExactFormatForm'. -/
def fnExactFormatFormCard : Claim7 := { stood := { row := fnExactFormatFormRow, standIns := [], harness := (true, "d6c602bbc3bef5f822d3e324f773950865682dcf61708e441e970ce1caecdbd3"), looks := false }, kinds := [], alts := [], laidByText := true, laidKinds := [.data, .data, .data], laidTests := true, laidLooks := .later }
def FnExactFormatFormCardSaid : Prop := Claim7.holds Tryd.pinned (.plain (OpenSpec.ofChange fnExactFormatFormSpec)) fnExactFormatFormCard

/-- THE TIED CARD OF 'laws.FnExactFormatBinds'. -/
def fnExactFormatBindsCard : Claim7 := { stood := { row := fnExactFormatBindsRow, standIns := [], harness := (true, "d6c602bbc3bef5f822d3e324f773950865682dcf61708e441e970ce1caecdbd3"), looks := false }, kinds := [], alts := [], laidByText := true, laidKinds := [.data, .data, .data], laidTests := true, laidLooks := .later }
def FnExactFormatBindsCardSaid : Prop := Claim7.holds Tryd.pinned (.plain (OpenSpec.ofChange fnExactFormatBindsSpec)) fnExactFormatBindsCard

/-- THE SECOND FORM's CARD OF 'laws.FnFormSame'. -/
def fnFormSameUptoCard : Claim7 := { stood := { row := fnFormSameUptoRow, standIns := [], harness := (true, "d6c602bbc3bef5f822d3e324f773950865682dcf61708e441e970ce1caecdbd3"), looks := false }, kinds := [], alts := [], laidByText := true, laidKinds := [.data, .data, .data], laidTests := true, laidLooks := .later }
def FnFormSameUptoCardSaid : Prop := Claim7.holds Tryd.pinned (.plain (OpenSpec.upto fnFormSameSpec)) fnFormSameUptoCard

/-- THE SECOND FORM's CARD OF 'laws.FnStripText'. -/
def fnStripTextUptoCard : Claim7 := { stood := { row := fnStripTextUptoRow, standIns := [], harness := (true, "d6c602bbc3bef5f822d3e324f773950865682dcf61708e441e970ce1caecdbd3"), looks := false }, kinds := [], alts := [], laidByText := true, laidKinds := [.data, .data, .data], laidTests := true, laidLooks := .later }
def FnStripTextUptoCardSaid : Prop := Claim7.holds Tryd.pinned (.plain (OpenSpec.upto fnStripTextSpec)) fnStripTextUptoCard

/-- THE SECOND FORM's CARD OF 'laws.FnBindsText'. -/
def fnBindsTextUptoCard : Claim7 := { stood := { row := fnBindsTextUptoRow, standIns := [], harness := (true, "d6c602bbc3bef5f822d3e324f773950865682dcf61708e441e970ce1caecdbd3"), looks := false }, kinds := [], alts := [], laidByText := true, laidKinds := [.data, .data, .data], laidTests := true, laidLooks := .later }
def FnBindsTextUptoCardSaid : Prop := Claim7.holds Tryd.pinned (.plain (OpenSpec.upto fnBindsTextSpec)) fnBindsTextUptoCard

/-- THE SECOND FORM's CARD OF 'laws.FnExactFormatForm'. -/
def fnExactFormatFormUptoCard : Claim7 := { stood := { row := fnExactFormatFormUptoRow, standIns := [], harness := (true, "d6c602bbc3bef5f822d3e324f773950865682dcf61708e441e970ce1caecdbd3"), looks := false }, kinds := [], alts := [], laidByText := true, laidKinds := [.data, .data, .data], laidTests := true, laidLooks := .later }
def FnExactFormatFormUptoCardSaid : Prop := Claim7.holds Tryd.pinned (.plain (OpenSpec.upto fnExactFormatFormSpec)) fnExactFormatFormUptoCard

/-- THE SECOND FORM's CARD OF 'laws.FnExactFormatBinds'. -/
def fnExactFormatBindsUptoCard : Claim7 := { stood := { row := fnExactFormatBindsUptoRow, standIns := [], harness := (true, "d6c602bbc3bef5f822d3e324f773950865682dcf61708e441e970ce1caecdbd3"), looks := false }, kinds := [], alts := [], laidByText := true, laidKinds := [.data, .data, .data], laidTests := true, laidLooks := .later }
def FnExactFormatBindsUptoCardSaid : Prop := Claim7.holds Tryd.pinned (.plain (OpenSpec.upto fnExactFormatBindsSpec)) fnExactFormatBindsUptoCard
end Rows
end Go.Proofs.YteeepenncddnjaaDoor
