/-
  DERIVED. GIVEN WITH THE SEED: THE CARDS: each row of YteddlahklilncaaDoorRows.lean that lists a variable, with what it lists TIED to the program's text (the seventh form; the later family's looks); each row that meets fmt, with fmt's text TOLD by the authors' own Lean function (tested against real Go, not proved from fmt's source: count such statements apart). THE CARD IS WHAT COUNTS. Prove the row's statement (the work); the ties are given (YteddlahklilncaaDoorTie.lean); close each card by the builder's one call (the guide's Derived/Test/ToyasCard.lean, 'card_holds'). Laid BY PROGRAM, IN A SANDBOX (cutbox-door.mjs). By AI agents, Wed Nov 11 2026. No macro, syntax, notation, axiom, sorry.
-/
import Derived.Test.YteddlahklilncaaDoorRows
import GoSem.ClaimSeven
namespace Go.Proofs.YteddlahklilncaaDoor
namespace Rows

/-- THE TIED CARD OF 'mezzotintlaw15.PaintSound'. -/
def paintSoundCard : Claim7 := { stood := { row := paintSoundRow, standIns := [], harness := (true, "9186f071a8df8ad9aa7e9a372d9348143fe15fa6d977032c546602ebf3121ddd"), looks := false }, kinds := [], alts := [], laidByText := true, laidKinds := [.data], laidTests := true, laidLooks := .later }
def PaintSoundCardSaid : Prop := Claim7.holds Tryd.pinned (.plain (OpenSpec.ofChange paintSoundSpec)) paintSoundCard

/-- THE TIED CARD OF 'mezzotintlaw15.PaintApart'. -/
def paintApartCard : Claim7 := { stood := { row := paintApartRow, standIns := [], harness := (true, "9186f071a8df8ad9aa7e9a372d9348143fe15fa6d977032c546602ebf3121ddd"), looks := false }, kinds := [], alts := [], laidByText := true, laidKinds := [.data], laidTests := true, laidLooks := .later }
def PaintApartCardSaid : Prop := Claim7.holds Tryd.pinned (.plain (OpenSpec.ofChange paintApartSpec)) paintApartCard

/-- THE SECOND FORM's CARD OF 'mezzotintlaw15.PaintSound'. -/
def paintSoundUptoCard : Claim7 := { stood := { row := paintSoundUptoRow, standIns := [], harness := (true, "9186f071a8df8ad9aa7e9a372d9348143fe15fa6d977032c546602ebf3121ddd"), looks := false }, kinds := [], alts := [], laidByText := true, laidKinds := [.data], laidTests := true, laidLooks := .later }
def PaintSoundUptoCardSaid : Prop := Claim7.holds Tryd.pinned (.plain (OpenSpec.upto paintSoundSpec)) paintSoundUptoCard

/-- THE SECOND FORM's CARD OF 'mezzotintlaw15.PaintApart'. -/
def paintApartUptoCard : Claim7 := { stood := { row := paintApartUptoRow, standIns := [], harness := (true, "9186f071a8df8ad9aa7e9a372d9348143fe15fa6d977032c546602ebf3121ddd"), looks := false }, kinds := [], alts := [], laidByText := true, laidKinds := [.data], laidTests := true, laidLooks := .later }
def PaintApartUptoCardSaid : Prop := Claim7.holds Tryd.pinned (.plain (OpenSpec.upto paintApartSpec)) paintApartUptoCard
end Rows
end Go.Proofs.YteddlahklilncaaDoor
