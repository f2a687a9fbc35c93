/-
  DERIVED. GIVEN WITH THE SEED: THE CARDS: each row of YtakickodehebmaaDoorRows.lean that lists a variable, with what it lists TIED to the program's text (the seventh form; the later family's looks); each row that meets fmt, with fmt's text TOLD by the authors' own Lean function (tested against real Go, not proved from fmt's source: count such statements apart). THE CARD IS WHAT COUNTS. Prove the row's statement (the work); the ties are given (YtakickodehebmaaDoorTie.lean); close each card by the builder's one call (the guide's Derived/Test/ToyasCard.lean, 'card_holds'). Laid BY PROGRAM, IN A SANDBOX (cutbox-door.mjs). By AI agents, Wed Nov 11 2026. No macro, syntax, notation, axiom, sorry.
-/
import Derived.Test.YtakickodehebmaaDoorRows
import GoSem.ClaimSeven
namespace Go.Proofs.YtakickodehebmaaDoor
namespace Rows

/-- THE TIED CARD OF 'mezzotintlaw08.ArithDoes'. -/
def arithDoesCard : Claim7 := { stood := { row := arithDoesRow, standIns := [], harness := (true, "bc1bacb7ac22dd84447533b7bfd96b08a3f2e1e40a84f73e1cdf612f560a9203"), looks := false }, kinds := [], alts := [], laidByText := true, laidKinds := [.data], laidTests := true, laidLooks := .later }
def ArithDoesCardSaid : Prop := Claim7.holds Tryd.pinned (.plain (OpenSpec.ofChange arithDoesSpec)) arithDoesCard

/-- THE TIED CARD OF 'mezzotintlaw08.ArithOrders'. -/
def arithOrdersCard : Claim7 := { stood := { row := arithOrdersRow, standIns := [], harness := (true, "bc1bacb7ac22dd84447533b7bfd96b08a3f2e1e40a84f73e1cdf612f560a9203"), looks := false }, kinds := [], alts := [], laidByText := true, laidKinds := [.data], laidTests := true, laidLooks := .later }
def ArithOrdersCardSaid : Prop := Claim7.holds Tryd.pinned (.plain (OpenSpec.ofChange arithOrdersSpec)) arithOrdersCard

/-- THE TIED CARD OF 'mezzotintlaw08.ArithWhole'. -/
def arithWholeCard : Claim7 := { stood := { row := arithWholeRow, standIns := [], harness := (true, "bc1bacb7ac22dd84447533b7bfd96b08a3f2e1e40a84f73e1cdf612f560a9203"), looks := false }, kinds := [], alts := [], laidByText := true, laidKinds := [.data], laidTests := true, laidLooks := .later }
def ArithWholeCardSaid : Prop := Claim7.holds Tryd.pinned (.plain (OpenSpec.ofChange arithWholeSpec)) arithWholeCard

/-- THE TIED CARD OF 'mezzotintlaw08.ArithBits'. -/
def arithBitsCard : Claim7 := { stood := { row := arithBitsRow, standIns := [], harness := (true, "bc1bacb7ac22dd84447533b7bfd96b08a3f2e1e40a84f73e1cdf612f560a9203"), looks := false }, kinds := [], alts := [], laidByText := true, laidKinds := [.data], laidTests := true, laidLooks := .later }
def ArithBitsCardSaid : Prop := Claim7.holds Tryd.pinned (.plain (OpenSpec.ofChange arithBitsSpec)) arithBitsCard

/-- THE SECOND FORM's CARD OF 'mezzotintlaw08.ArithDoes'. -/
def arithDoesUptoCard : Claim7 := { stood := { row := arithDoesUptoRow, standIns := [], harness := (true, "bc1bacb7ac22dd84447533b7bfd96b08a3f2e1e40a84f73e1cdf612f560a9203"), looks := false }, kinds := [], alts := [], laidByText := true, laidKinds := [.data], laidTests := true, laidLooks := .later }
def ArithDoesUptoCardSaid : Prop := Claim7.holds Tryd.pinned (.plain (OpenSpec.upto arithDoesSpec)) arithDoesUptoCard

/-- THE SECOND FORM's CARD OF 'mezzotintlaw08.ArithOrders'. -/
def arithOrdersUptoCard : Claim7 := { stood := { row := arithOrdersUptoRow, standIns := [], harness := (true, "bc1bacb7ac22dd84447533b7bfd96b08a3f2e1e40a84f73e1cdf612f560a9203"), looks := false }, kinds := [], alts := [], laidByText := true, laidKinds := [.data], laidTests := true, laidLooks := .later }
def ArithOrdersUptoCardSaid : Prop := Claim7.holds Tryd.pinned (.plain (OpenSpec.upto arithOrdersSpec)) arithOrdersUptoCard

/-- THE SECOND FORM's CARD OF 'mezzotintlaw08.ArithWhole'. -/
def arithWholeUptoCard : Claim7 := { stood := { row := arithWholeUptoRow, standIns := [], harness := (true, "bc1bacb7ac22dd84447533b7bfd96b08a3f2e1e40a84f73e1cdf612f560a9203"), looks := false }, kinds := [], alts := [], laidByText := true, laidKinds := [.data], laidTests := true, laidLooks := .later }
def ArithWholeUptoCardSaid : Prop := Claim7.holds Tryd.pinned (.plain (OpenSpec.upto arithWholeSpec)) arithWholeUptoCard

/-- THE SECOND FORM's CARD OF 'mezzotintlaw08.ArithBits'. -/
def arithBitsUptoCard : Claim7 := { stood := { row := arithBitsUptoRow, standIns := [], harness := (true, "bc1bacb7ac22dd84447533b7bfd96b08a3f2e1e40a84f73e1cdf612f560a9203"), looks := false }, kinds := [], alts := [], laidByText := true, laidKinds := [.data], laidTests := true, laidLooks := .later }
def ArithBitsUptoCardSaid : Prop := Claim7.holds Tryd.pinned (.plain (OpenSpec.upto arithBitsSpec)) arithBitsUptoCard
end Rows
end Go.Proofs.YtakickodehebmaaDoor
