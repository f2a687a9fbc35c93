/-
  DERIVED. GIVEN WITH THE SEED: THE CARDS: each row of YtaafelkdhahaoaaDoorRows.lean that lists a variable, with what it lists TIED to the program's text (the seventh form; the later family's looks); each row that meets fmt, with fmt's text TOLD by the authors' own Lean function (tested against real Go, not proved from fmt's source: count such statements apart). THE CARD IS WHAT COUNTS. Prove the row's statement (the work); the ties are given (YtaafelkdhahaoaaDoorTie.lean); close each card by the builder's one call (the guide's Derived/Test/ToyasCard.lean, 'card_holds'). Laid BY PROGRAM, IN A SANDBOX (cutbox-door.mjs). By AI agents, Wed Nov 11 2026. No macro, syntax, notation, axiom, sorry.
-/
import Derived.Test.YtaafelkdhahaoaaDoorRows
import GoSem.ClaimSeven
namespace Go.Proofs.YtaafelkdhahaoaaDoor
namespace Rows

/-- THE TIED CARD OF 'mezzotintlaw18.PobjPrints'. -/
def pobjPrintsCard : Claim7 := { stood := { row := pobjPrintsRow, standIns := [], harness := (true, "4fcf4aedfc187e41ec895f5c3a88c19a66c01ae92967aca98a73af697f4040b0"), looks := false }, kinds := [], alts := [], laidByText := true, laidKinds := [.data, .data, .data, .sentinel], laidTests := true, laidLooks := .later }
def PobjPrintsCardSaid : Prop := Claim7.holds Tryd.pinned (.plain (OpenSpec.ofChange pobjPrintsSpec)) pobjPrintsCard

/-- THE TIED CARD OF 'mezzotintlaw18.PobjApart'. -/
def pobjApartCard : Claim7 := { stood := { row := pobjApartRow, standIns := [], harness := (true, "4fcf4aedfc187e41ec895f5c3a88c19a66c01ae92967aca98a73af697f4040b0"), looks := false }, kinds := [], alts := [], laidByText := true, laidKinds := [.data, .data, .data, .sentinel], laidTests := true, laidLooks := .later }
def PobjApartCardSaid : Prop := Claim7.holds Tryd.pinned (.plain (OpenSpec.ofChange pobjApartSpec)) pobjApartCard

/-- THE TIED CARD OF 'mezzotintlaw18.PobjNames'. -/
def pobjNamesCard : Claim7 := { stood := { row := pobjNamesRow, standIns := [], harness := (true, "4fcf4aedfc187e41ec895f5c3a88c19a66c01ae92967aca98a73af697f4040b0"), looks := false }, kinds := [], alts := [], laidByText := true, laidKinds := [.data, .data, .data, .sentinel], laidTests := true, laidLooks := .later }
def PobjNamesCardSaid : Prop := Claim7.holds Tryd.pinned (.plain (OpenSpec.ofChange pobjNamesSpec)) pobjNamesCard

/-- THE SECOND FORM's CARD OF 'mezzotintlaw18.PobjPrints'. -/
def pobjPrintsUptoCard : Claim7 := { stood := { row := pobjPrintsUptoRow, standIns := [], harness := (true, "4fcf4aedfc187e41ec895f5c3a88c19a66c01ae92967aca98a73af697f4040b0"), looks := false }, kinds := [], alts := [], laidByText := true, laidKinds := [.data, .data, .data, .sentinel], laidTests := true, laidLooks := .later }
def PobjPrintsUptoCardSaid : Prop := Claim7.holds Tryd.pinned (.plain (OpenSpec.upto pobjPrintsSpec)) pobjPrintsUptoCard

/-- THE SECOND FORM's CARD OF 'mezzotintlaw18.PobjApart'. -/
def pobjApartUptoCard : Claim7 := { stood := { row := pobjApartUptoRow, standIns := [], harness := (true, "4fcf4aedfc187e41ec895f5c3a88c19a66c01ae92967aca98a73af697f4040b0"), looks := false }, kinds := [], alts := [], laidByText := true, laidKinds := [.data, .data, .data, .sentinel], laidTests := true, laidLooks := .later }
def PobjApartUptoCardSaid : Prop := Claim7.holds Tryd.pinned (.plain (OpenSpec.upto pobjApartSpec)) pobjApartUptoCard

/-- THE SECOND FORM's CARD OF 'mezzotintlaw18.PobjNames'. -/
def pobjNamesUptoCard : Claim7 := { stood := { row := pobjNamesUptoRow, standIns := [], harness := (true, "4fcf4aedfc187e41ec895f5c3a88c19a66c01ae92967aca98a73af697f4040b0"), looks := false }, kinds := [], alts := [], laidByText := true, laidKinds := [.data, .data, .data, .sentinel], laidTests := true, laidLooks := .later }
def PobjNamesUptoCardSaid : Prop := Claim7.holds Tryd.pinned (.plain (OpenSpec.upto pobjNamesSpec)) pobjNamesUptoCard
end Rows
end Go.Proofs.YtaafelkdhahaoaaDoor
