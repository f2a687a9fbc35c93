/-
  DERIVED. GIVEN WITH THE SEED: THE CARDS: each row of YtoflafbhfoncmaaDoorRows.lean that lists a variable, with what it lists TIED to the program's text (the seventh form; the later family's looks); each row that meets fmt, with fmt's text TOLD by the authors' own Lean function (tested against real Go, not proved from fmt's source: count such statements apart). THE CARD IS WHAT COUNTS. Prove the row's statement (the work); the ties are given (YtoflafbhfoncmaaDoorTie.lean); close each card by the builder's one call (the guide's Derived/Test/ToyasCard.lean, 'card_holds'). Laid BY PROGRAM, IN A SANDBOX (cutbox-door.mjs). By AI agents, Wed Nov 11 2026. No macro, syntax, notation, axiom, sorry.
-/
import Derived.Test.YtoflafbhfoncmaaDoorRows
import GoSem.ClaimSeven
namespace Go.Proofs.YtoflafbhfoncmaaDoor
namespace Rows

/-- THE TIED CARD OF 'mezzotintlaw14.GstateBalanced'. -/
def gstateBalancedCard : Claim7 := { stood := { row := gstateBalancedRow, standIns := [], harness := (true, "6d4580eb7cfcdbdfc7a3e225e7523fa7d4000b9887702f5613de9c9bf2b1f4c0"), looks := false }, kinds := [], alts := [], laidByText := true, laidKinds := [.data], laidTests := true, laidLooks := .later }
def GstateBalancedCardSaid : Prop := Claim7.holds Tryd.pinned (.plain (OpenSpec.ofChange gstateBalancedSpec)) gstateBalancedCard

/-- THE TIED CARD OF 'mezzotintlaw14.GstateApart'. -/
def gstateApartCard : Claim7 := { stood := { row := gstateApartRow, standIns := [], harness := (true, "6d4580eb7cfcdbdfc7a3e225e7523fa7d4000b9887702f5613de9c9bf2b1f4c0"), looks := false }, kinds := [], alts := [], laidByText := true, laidKinds := [.data], laidTests := true, laidLooks := .later }
def GstateApartCardSaid : Prop := Claim7.holds Tryd.pinned (.plain (OpenSpec.ofChange gstateApartSpec)) gstateApartCard

/-- THE TIED CARD OF 'mezzotintlaw14.GstateNone'. -/
def gstateNoneCard : Claim7 := { stood := { row := gstateNoneRow, standIns := [], harness := (true, "6d4580eb7cfcdbdfc7a3e225e7523fa7d4000b9887702f5613de9c9bf2b1f4c0"), looks := false }, kinds := [], alts := [], laidByText := true, laidKinds := [.data], laidTests := true, laidLooks := .later }
def GstateNoneCardSaid : Prop := Claim7.holds Tryd.pinned (.plain (OpenSpec.ofChange gstateNoneSpec)) gstateNoneCard

/-- THE SECOND FORM's CARD OF 'mezzotintlaw14.GstateBalanced'. -/
def gstateBalancedUptoCard : Claim7 := { stood := { row := gstateBalancedUptoRow, standIns := [], harness := (true, "6d4580eb7cfcdbdfc7a3e225e7523fa7d4000b9887702f5613de9c9bf2b1f4c0"), looks := false }, kinds := [], alts := [], laidByText := true, laidKinds := [.data], laidTests := true, laidLooks := .later }
def GstateBalancedUptoCardSaid : Prop := Claim7.holds Tryd.pinned (.plain (OpenSpec.upto gstateBalancedSpec)) gstateBalancedUptoCard

/-- THE SECOND FORM's CARD OF 'mezzotintlaw14.GstateApart'. -/
def gstateApartUptoCard : Claim7 := { stood := { row := gstateApartUptoRow, standIns := [], harness := (true, "6d4580eb7cfcdbdfc7a3e225e7523fa7d4000b9887702f5613de9c9bf2b1f4c0"), looks := false }, kinds := [], alts := [], laidByText := true, laidKinds := [.data], laidTests := true, laidLooks := .later }
def GstateApartUptoCardSaid : Prop := Claim7.holds Tryd.pinned (.plain (OpenSpec.upto gstateApartSpec)) gstateApartUptoCard

/-- THE SECOND FORM's CARD OF 'mezzotintlaw14.GstateNone'. -/
def gstateNoneUptoCard : Claim7 := { stood := { row := gstateNoneUptoRow, standIns := [], harness := (true, "6d4580eb7cfcdbdfc7a3e225e7523fa7d4000b9887702f5613de9c9bf2b1f4c0"), looks := false }, kinds := [], alts := [], laidByText := true, laidKinds := [.data], laidTests := true, laidLooks := .later }
def GstateNoneUptoCardSaid : Prop := Claim7.holds Tryd.pinned (.plain (OpenSpec.upto gstateNoneSpec)) gstateNoneUptoCard
end Rows
end Go.Proofs.YtoflafbhfoncmaaDoor
