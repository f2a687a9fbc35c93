/-
  DERIVED. GIVEN WITH THE SEED: THE CARDS: each row of YtjdbefpfjhdmoaaGreatDoorRows.lean that lists a variable, with what it lists TIED to the program's text (the seventh form; the later family's looks); each row that meets fmt, with fmt's text TOLD by the authors' own Lean function (tested against real Go, not proved from fmt's source: count such statements apart). THE CARD IS WHAT COUNTS. Prove the row's statement (the work); the ties are given (YtjdbefpfjhdmoaaGreatDoorTie.lean); close each card by the builder's one call (the guide's Derived/Test/ToyasCard.lean, 'card_holds'). Laid BY PROGRAM, IN A SANDBOX (cutbox-door.mjs). By AI agents, Wed Nov 11 2026. No macro, syntax, notation, axiom, sorry.
-/
import Derived.Test.YtjdbefpfjhdmoaaGreatDoorRows
import GoSem.ClaimSeven
namespace Go.Proofs.YtjdbefpfjhdmoaaGreatDoor
namespace Rows

/-- THE TIED CARD OF 'mezzotintlaw16.ShowLetters'. -/
def showLettersCard : Claim7 := { stood := { row := showLettersRow, standIns := [], harness := (true, "a83a984f6c1fc6fc7d307660f2c754f6093c2eb53f1854fe29e84c35c1dcafac"), looks := false }, kinds := [], alts := [], laidByText := true, laidKinds := [.data], laidTests := true, laidLooks := .later }
def ShowLettersCardSaid : Prop := Claim7.holds Tryz.pinned (.plain (OpenSpec.ofChange showLettersSpec)) showLettersCard

/-- THE TIED CARD OF 'mezzotintlaw16.ShowSpaced'. -/
def showSpacedCard : Claim7 := { stood := { row := showSpacedRow, standIns := [], harness := (true, "a83a984f6c1fc6fc7d307660f2c754f6093c2eb53f1854fe29e84c35c1dcafac"), looks := false }, kinds := [], alts := [], laidByText := true, laidKinds := [.data], laidTests := true, laidLooks := .later }
def ShowSpacedCardSaid : Prop := Claim7.holds Tryz.pinned (.plain (OpenSpec.ofChange showSpacedSpec)) showSpacedCard

/-- THE SECOND FORM's CARD OF 'mezzotintlaw16.ShowLetters'. -/
def showLettersUptoCard : Claim7 := { stood := { row := showLettersUptoRow, standIns := [], harness := (true, "a83a984f6c1fc6fc7d307660f2c754f6093c2eb53f1854fe29e84c35c1dcafac"), looks := false }, kinds := [], alts := [], laidByText := true, laidKinds := [.data], laidTests := true, laidLooks := .later }
def ShowLettersUptoCardSaid : Prop := Claim7.holds Tryz.pinned (.plain (OpenSpec.upto showLettersSpec)) showLettersUptoCard

/-- THE SECOND FORM's CARD OF 'mezzotintlaw16.ShowSpaced'. -/
def showSpacedUptoCard : Claim7 := { stood := { row := showSpacedUptoRow, standIns := [], harness := (true, "a83a984f6c1fc6fc7d307660f2c754f6093c2eb53f1854fe29e84c35c1dcafac"), looks := false }, kinds := [], alts := [], laidByText := true, laidKinds := [.data], laidTests := true, laidLooks := .later }
def ShowSpacedUptoCardSaid : Prop := Claim7.holds Tryz.pinned (.plain (OpenSpec.upto showSpacedSpec)) showSpacedUptoCard
end Rows
end Go.Proofs.YtjdbefpfjhdmoaaGreatDoor
