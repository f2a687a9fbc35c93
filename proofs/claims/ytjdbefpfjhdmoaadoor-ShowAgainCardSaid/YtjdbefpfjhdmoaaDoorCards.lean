/-
  DERIVED. GIVEN WITH THE SEED: THE CARDS: each row of YtjdbefpfjhdmoaaDoorRows.lean that lists a variable, with what it lists TIED to the program's text (the seventh form; the later family's looks); each row that meets fmt, with fmt's text TOLD by the authors' own Lean function (tested against real Go, not proved from fmt's source: count such statements apart). THE CARD IS WHAT COUNTS. Prove the row's statement (the work); the ties are given (YtjdbefpfjhdmoaaDoorTie.lean); close each card by the builder's one call (the guide's Derived/Test/ToyasCard.lean, 'card_holds'). Laid BY PROGRAM, IN A SANDBOX (cutbox-door.mjs). By AI agents, Wed Nov 11 2026. No macro, syntax, notation, axiom, sorry.
-/
import Derived.Test.YtjdbefpfjhdmoaaDoorRows
import GoSem.ClaimSeven
namespace Go.Proofs.YtjdbefpfjhdmoaaDoor
namespace Rows

/-- THE TIED CARD OF 'mezzotintlaw16.ShowFar'. -/
def showFarCard : Claim7 := { stood := { row := showFarRow, standIns := [], harness := (true, "54bf23940d7efe096beeb86b104c7ae55c81ddf7c103510afd501747d8ffcb22"), looks := false }, kinds := [], alts := [], laidByText := true, laidKinds := [.data], laidTests := true, laidLooks := .later }
def ShowFarCardSaid : Prop := Claim7.holds Tryd.pinned (.plain (OpenSpec.ofChange showFarSpec)) showFarCard

/-- THE TIED CARD OF 'mezzotintlaw16.ShowNone'. -/
def showNoneCard : Claim7 := { stood := { row := showNoneRow, standIns := [], harness := (true, "54bf23940d7efe096beeb86b104c7ae55c81ddf7c103510afd501747d8ffcb22"), looks := false }, kinds := [], alts := [], laidByText := true, laidKinds := [.data], laidTests := true, laidLooks := .later }
def ShowNoneCardSaid : Prop := Claim7.holds Tryd.pinned (.plain (OpenSpec.ofChange showNoneSpec)) showNoneCard

/-- THE TIED CARD OF 'mezzotintlaw16.ShowAgain'. -/
def showAgainCard : Claim7 := { stood := { row := showAgainRow, standIns := [], harness := (true, "54bf23940d7efe096beeb86b104c7ae55c81ddf7c103510afd501747d8ffcb22"), looks := false }, kinds := [], alts := [], laidByText := true, laidKinds := [.data], laidTests := true, laidLooks := .later }
def ShowAgainCardSaid : Prop := Claim7.holds Tryd.pinned (.plain (OpenSpec.ofChange showAgainSpec)) showAgainCard

/-- THE SECOND FORM's CARD OF 'mezzotintlaw16.ShowFar'. -/
def showFarUptoCard : Claim7 := { stood := { row := showFarUptoRow, standIns := [], harness := (true, "54bf23940d7efe096beeb86b104c7ae55c81ddf7c103510afd501747d8ffcb22"), looks := false }, kinds := [], alts := [], laidByText := true, laidKinds := [.data], laidTests := true, laidLooks := .later }
def ShowFarUptoCardSaid : Prop := Claim7.holds Tryd.pinned (.plain (OpenSpec.upto showFarSpec)) showFarUptoCard

/-- THE SECOND FORM's CARD OF 'mezzotintlaw16.ShowNone'. -/
def showNoneUptoCard : Claim7 := { stood := { row := showNoneUptoRow, standIns := [], harness := (true, "54bf23940d7efe096beeb86b104c7ae55c81ddf7c103510afd501747d8ffcb22"), looks := false }, kinds := [], alts := [], laidByText := true, laidKinds := [.data], laidTests := true, laidLooks := .later }
def ShowNoneUptoCardSaid : Prop := Claim7.holds Tryd.pinned (.plain (OpenSpec.upto showNoneSpec)) showNoneUptoCard

/-- THE SECOND FORM's CARD OF 'mezzotintlaw16.ShowAgain'. -/
def showAgainUptoCard : Claim7 := { stood := { row := showAgainUptoRow, standIns := [], harness := (true, "54bf23940d7efe096beeb86b104c7ae55c81ddf7c103510afd501747d8ffcb22"), looks := false }, kinds := [], alts := [], laidByText := true, laidKinds := [.data], laidTests := true, laidLooks := .later }
def ShowAgainUptoCardSaid : Prop := Claim7.holds Tryd.pinned (.plain (OpenSpec.upto showAgainSpec)) showAgainUptoCard
end Rows
end Go.Proofs.YtjdbefpfjhdmoaaDoor
