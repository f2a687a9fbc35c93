/-
  DERIVED. GIVEN WITH THE SEED: THE CARDS: each row of YtcldhlppnedcjaaDoorRows.lean that lists a variable, with what it lists TIED to the program's text (the seventh form; the later family's looks); each row that meets fmt, with fmt's text TOLD by the authors' own Lean function (tested against real Go, not proved from fmt's source: count such statements apart). THE CARD IS WHAT COUNTS. Prove the row's statement (the work); the ties are given (YtcldhlppnedcjaaDoorTie.lean); close each card by the builder's one call (the guide's Derived/Test/ToyasCard.lean, 'card_holds'). Laid BY PROGRAM, IN A SANDBOX (cutbox-door.mjs). By AI agents, Wed Nov 11 2026. No macro, syntax, notation, axiom, sorry.
-/
import Derived.Test.YtcldhlppnedcjaaDoorRows
import GoSem.ClaimSeven
namespace Go.Proofs.YtcldhlppnedcjaaDoor
namespace Rows

/-- THE TIED CARD OF 'mezzotintlaw12.FontWidths'. -/
def fontWidthsCard : Claim7 := { stood := { row := fontWidthsRow, standIns := [], harness := (true, "5c54f80398b4e058c888f79e9b01a6760248a6fcd73a9a814abeb7a40d20d130"), looks := false }, kinds := [], alts := [], laidByText := true, laidKinds := [.data], laidTests := true, laidLooks := .later }
def FontWidthsCardSaid : Prop := Claim7.holds Tryd.pinned (.plain (OpenSpec.ofChange fontWidthsSpec)) fontWidthsCard

/-- THE TIED CARD OF 'mezzotintlaw12.FontEven'. -/
def fontEvenCard : Claim7 := { stood := { row := fontEvenRow, standIns := [], harness := (true, "5c54f80398b4e058c888f79e9b01a6760248a6fcd73a9a814abeb7a40d20d130"), looks := false }, kinds := [], alts := [], laidByText := true, laidKinds := [.data], laidTests := true, laidLooks := .later }
def FontEvenCardSaid : Prop := Claim7.holds Tryd.pinned (.plain (OpenSpec.ofChange fontEvenSpec)) fontEvenCard

/-- THE TIED CARD OF 'mezzotintlaw12.FontSums'. -/
def fontSumsCard : Claim7 := { stood := { row := fontSumsRow, standIns := [], harness := (true, "5c54f80398b4e058c888f79e9b01a6760248a6fcd73a9a814abeb7a40d20d130"), looks := false }, kinds := [], alts := [], laidByText := true, laidKinds := [.data], laidTests := true, laidLooks := .later }
def FontSumsCardSaid : Prop := Claim7.holds Tryd.pinned (.plain (OpenSpec.ofChange fontSumsSpec)) fontSumsCard

/-- THE TIED CARD OF 'mezzotintlaw12.FontNames'. -/
def fontNamesCard : Claim7 := { stood := { row := fontNamesRow, standIns := [], harness := (true, "5c54f80398b4e058c888f79e9b01a6760248a6fcd73a9a814abeb7a40d20d130"), looks := false }, kinds := [], alts := [], laidByText := true, laidKinds := [.data], laidTests := true, laidLooks := .later }
def FontNamesCardSaid : Prop := Claim7.holds Tryd.pinned (.plain (OpenSpec.ofChange fontNamesSpec)) fontNamesCard

/-- THE SECOND FORM's CARD OF 'mezzotintlaw12.FontWidths'. -/
def fontWidthsUptoCard : Claim7 := { stood := { row := fontWidthsUptoRow, standIns := [], harness := (true, "5c54f80398b4e058c888f79e9b01a6760248a6fcd73a9a814abeb7a40d20d130"), looks := false }, kinds := [], alts := [], laidByText := true, laidKinds := [.data], laidTests := true, laidLooks := .later }
def FontWidthsUptoCardSaid : Prop := Claim7.holds Tryd.pinned (.plain (OpenSpec.upto fontWidthsSpec)) fontWidthsUptoCard

/-- THE SECOND FORM's CARD OF 'mezzotintlaw12.FontEven'. -/
def fontEvenUptoCard : Claim7 := { stood := { row := fontEvenUptoRow, standIns := [], harness := (true, "5c54f80398b4e058c888f79e9b01a6760248a6fcd73a9a814abeb7a40d20d130"), looks := false }, kinds := [], alts := [], laidByText := true, laidKinds := [.data], laidTests := true, laidLooks := .later }
def FontEvenUptoCardSaid : Prop := Claim7.holds Tryd.pinned (.plain (OpenSpec.upto fontEvenSpec)) fontEvenUptoCard

/-- THE SECOND FORM's CARD OF 'mezzotintlaw12.FontSums'. -/
def fontSumsUptoCard : Claim7 := { stood := { row := fontSumsUptoRow, standIns := [], harness := (true, "5c54f80398b4e058c888f79e9b01a6760248a6fcd73a9a814abeb7a40d20d130"), looks := false }, kinds := [], alts := [], laidByText := true, laidKinds := [.data], laidTests := true, laidLooks := .later }
def FontSumsUptoCardSaid : Prop := Claim7.holds Tryd.pinned (.plain (OpenSpec.upto fontSumsSpec)) fontSumsUptoCard

/-- THE SECOND FORM's CARD OF 'mezzotintlaw12.FontNames'. -/
def fontNamesUptoCard : Claim7 := { stood := { row := fontNamesUptoRow, standIns := [], harness := (true, "5c54f80398b4e058c888f79e9b01a6760248a6fcd73a9a814abeb7a40d20d130"), looks := false }, kinds := [], alts := [], laidByText := true, laidKinds := [.data], laidTests := true, laidLooks := .later }
def FontNamesUptoCardSaid : Prop := Claim7.holds Tryd.pinned (.plain (OpenSpec.upto fontNamesSpec)) fontNamesUptoCard
end Rows
end Go.Proofs.YtcldhlppnedcjaaDoor
