/-
  DERIVED. GIVEN WITH THE SEED: THE CARDS: each row of YtpellcdggaeppaaGreatDoorRows.lean that lists a variable, with what it lists TIED to the program's text (the seventh form; the later family's looks); each row that meets fmt, with fmt's text TOLD by the authors' own Lean function (tested against real Go, not proved from fmt's source: count such statements apart). THE CARD IS WHAT COUNTS. Prove the row's statement (the work); the ties are given (YtpellcdggaeppaaGreatDoorTie.lean); close each card by the builder's one call (the guide's Derived/Test/ToyasCard.lean, 'card_holds'). Laid BY PROGRAM, IN A SANDBOX (cutbox-door.mjs). By AI agents, Wed Nov 11 2026. No macro, syntax, notation, axiom, sorry.
-/
import Derived.Test.YtpellcdggaeppaaGreatDoorRows
import GoSem.ClaimSeven
namespace Go.Proofs.YtpellcdggaeppaaGreatDoor
namespace Rows

/-- THE TIED CARD OF 'mezzotintlaw20.DrawContent'. -/
def drawContentCard : Claim7 := { stood := { row := drawContentRow, standIns := [], harness := (true, "63146f2e48dd1d1f1fa8c416bfb28910e404a3e80a86c127483b3b42e8bace75"), looks := false }, kinds := [], alts := [], laidByText := true, laidKinds := [.data, .data, .data, .data, .sentinel], laidTests := true, laidLooks := .later }
def DrawContentCardSaid : Prop := Claim7.holds Tryz.pinned (.plain (OpenSpec.ofChange drawContentSpec)) drawContentCard

/-- THE TIED CARD OF 'mezzotintlaw20.DrawBalanced'. -/
def drawBalancedCard : Claim7 := { stood := { row := drawBalancedRow, standIns := [], harness := (true, "63146f2e48dd1d1f1fa8c416bfb28910e404a3e80a86c127483b3b42e8bace75"), looks := false }, kinds := [], alts := [], laidByText := true, laidKinds := [.data, .data, .data, .data, .sentinel], laidTests := true, laidLooks := .later }
def DrawBalancedCardSaid : Prop := Claim7.holds Tryz.pinned (.plain (OpenSpec.ofChange drawBalancedSpec)) drawBalancedCard

/-- THE TIED CARD OF 'mezzotintlaw20.DrawAhead'. -/
def drawAheadCard : Claim7 := { stood := { row := drawAheadRow, standIns := [], harness := (true, "63146f2e48dd1d1f1fa8c416bfb28910e404a3e80a86c127483b3b42e8bace75"), looks := false }, kinds := [], alts := [], laidByText := true, laidKinds := [.data, .data, .data, .data, .sentinel], laidTests := true, laidLooks := .later }
def DrawAheadCardSaid : Prop := Claim7.holds Tryz.pinned (.plain (OpenSpec.ofChange drawAheadSpec)) drawAheadCard

/-- THE TIED CARD OF 'mezzotintlaw20.DrawOnce'. -/
def drawOnceCard : Claim7 := { stood := { row := drawOnceRow, standIns := [], harness := (true, "63146f2e48dd1d1f1fa8c416bfb28910e404a3e80a86c127483b3b42e8bace75"), looks := false }, kinds := [], alts := [], laidByText := true, laidKinds := [.data, .data, .data, .data, .sentinel], laidTests := true, laidLooks := .later }
def DrawOnceCardSaid : Prop := Claim7.holds Tryz.pinned (.plain (OpenSpec.ofChange drawOnceSpec)) drawOnceCard

/-- THE TIED CARD OF 'mezzotintlaw20.DrawLines'. -/
def drawLinesCard : Claim7 := { stood := { row := drawLinesRow, standIns := [], harness := (true, "63146f2e48dd1d1f1fa8c416bfb28910e404a3e80a86c127483b3b42e8bace75"), looks := false }, kinds := [], alts := [], laidByText := true, laidKinds := [.data, .data, .data, .data, .sentinel], laidTests := true, laidLooks := .later }
def DrawLinesCardSaid : Prop := Claim7.holds Tryz.pinned (.plain (OpenSpec.ofChange drawLinesSpec)) drawLinesCard

/-- THE SECOND FORM's CARD OF 'mezzotintlaw20.DrawContent'. -/
def drawContentUptoCard : Claim7 := { stood := { row := drawContentUptoRow, standIns := [], harness := (true, "63146f2e48dd1d1f1fa8c416bfb28910e404a3e80a86c127483b3b42e8bace75"), looks := false }, kinds := [], alts := [], laidByText := true, laidKinds := [.data, .data, .data, .data, .sentinel], laidTests := true, laidLooks := .later }
def DrawContentUptoCardSaid : Prop := Claim7.holds Tryz.pinned (.plain (OpenSpec.upto drawContentSpec)) drawContentUptoCard

/-- THE SECOND FORM's CARD OF 'mezzotintlaw20.DrawBalanced'. -/
def drawBalancedUptoCard : Claim7 := { stood := { row := drawBalancedUptoRow, standIns := [], harness := (true, "63146f2e48dd1d1f1fa8c416bfb28910e404a3e80a86c127483b3b42e8bace75"), looks := false }, kinds := [], alts := [], laidByText := true, laidKinds := [.data, .data, .data, .data, .sentinel], laidTests := true, laidLooks := .later }
def DrawBalancedUptoCardSaid : Prop := Claim7.holds Tryz.pinned (.plain (OpenSpec.upto drawBalancedSpec)) drawBalancedUptoCard

/-- THE SECOND FORM's CARD OF 'mezzotintlaw20.DrawAhead'. -/
def drawAheadUptoCard : Claim7 := { stood := { row := drawAheadUptoRow, standIns := [], harness := (true, "63146f2e48dd1d1f1fa8c416bfb28910e404a3e80a86c127483b3b42e8bace75"), looks := false }, kinds := [], alts := [], laidByText := true, laidKinds := [.data, .data, .data, .data, .sentinel], laidTests := true, laidLooks := .later }
def DrawAheadUptoCardSaid : Prop := Claim7.holds Tryz.pinned (.plain (OpenSpec.upto drawAheadSpec)) drawAheadUptoCard

/-- THE SECOND FORM's CARD OF 'mezzotintlaw20.DrawOnce'. -/
def drawOnceUptoCard : Claim7 := { stood := { row := drawOnceUptoRow, standIns := [], harness := (true, "63146f2e48dd1d1f1fa8c416bfb28910e404a3e80a86c127483b3b42e8bace75"), looks := false }, kinds := [], alts := [], laidByText := true, laidKinds := [.data, .data, .data, .data, .sentinel], laidTests := true, laidLooks := .later }
def DrawOnceUptoCardSaid : Prop := Claim7.holds Tryz.pinned (.plain (OpenSpec.upto drawOnceSpec)) drawOnceUptoCard

/-- THE SECOND FORM's CARD OF 'mezzotintlaw20.DrawLines'. -/
def drawLinesUptoCard : Claim7 := { stood := { row := drawLinesUptoRow, standIns := [], harness := (true, "63146f2e48dd1d1f1fa8c416bfb28910e404a3e80a86c127483b3b42e8bace75"), looks := false }, kinds := [], alts := [], laidByText := true, laidKinds := [.data, .data, .data, .data, .sentinel], laidTests := true, laidLooks := .later }
def DrawLinesUptoCardSaid : Prop := Claim7.holds Tryz.pinned (.plain (OpenSpec.upto drawLinesSpec)) drawLinesUptoCard
end Rows
end Go.Proofs.YtpellcdggaeppaaGreatDoor
