/-
  NARROWER THAN 'FOR EVERY INPUT', by the rows' own cells (each row's printed sentence says how): PaintSound: laid · PaintApart: laid.
  DERIVED. THE GIVEN ROWS OF THIS SEAT. 2 by the template 'for every input the law returns true; each argument reads behind the call as it read before'; 0 by the template 'total and deterministic' (their statements: YteddlahklilncaaDoorTotals.lean).
  GIVEN WITH THE SEED: the statements are not yours to turn. If you find one false, say at which input.
  Laid BY PROGRAM, IN A SANDBOX (cutbox-rows.mjs): the forced cells as the released guide's own fill.sh prints them over the translation 7fba2c51d25b2492… (all of the seat's roots in one cut). By AI agents, Wed Nov 11 2026. No macro, syntax, notation, axiom, sorry.
-/
import Derived.Test.YteddlahklilncaaDoorChecked
import GoSem.Claim
import GoSem.ClaimJoined
import GoSem.ClaimMapViews
import Derived.JoinedTies
import Derived.KernelRfl
namespace Go.Proofs.YteddlahklilncaaDoor
/- THE CELL 'sum', in the pinned program and in every row, IS THE sha256 OF THE DUMP (.gsa) THAT YteddlahklilncaaDoorProg.lean LOADS. Nothing in Lean hashes anything: it is a label: what it is worth is what the hold of that sum in a sandbox is worth. -/
noncomputable def Tryd.pinned : Pinned := { name := "yteddlahklilncaadoor", sum := "7fba2c51d25b2492dfb62a1dbd1d59b11cf5fa7f5da18b408f4b666c98e49a7c", checked := Tryd.checked }
namespace Rows
def none {H : Type} : Left H := { results := [], args := [] }

/- WHAT THE LISTED PACKAGE-LEVEL VARIABLES READ AS WHEN THE CALL BEGINS. Each datum BY PROGRAM (the guide's laid-datum.mjs) off the statement by which the dump's own 'gosem.cut.vars' lays the variable. In a bare row this is a premise. The card (YteddlahklilncaaDoorCards.lean) ties it to the program's text. -/
def laid_mezzotint_font_names {H : Type} : DataW H := .agg [.lit (.string [67, 111, 117, 114, 105, 101, 114]), .lit (.string [67, 111, 117, 114, 105, 101, 114, 45, 66, 111, 108, 100]), .lit (.string [67, 111, 117, 114, 105, 101, 114, 45, 79, 98, 108, 105, 113, 117, 101]), .lit (.string [67, 111, 117, 114, 105, 101, 114, 45, 66, 111, 108, 100, 79, 98, 108, 105, 113, 117, 101]), .lit (.string [72, 101, 108, 118, 101, 116, 105, 99, 97]), .lit (.string [72, 101, 108, 118, 101, 116, 105, 99, 97, 45, 66, 111, 108, 100]), .lit (.string [72, 101, 108, 118, 101, 116, 105, 99, 97, 45, 79, 98, 108, 105, 113, 117, 101]), .lit (.string [72, 101, 108, 118, 101, 116, 105, 99, 97, 45, 66, 111, 108, 100, 79, 98, 108, 105, 113, 117, 101]), .lit (.string [84, 105, 109, 101, 115, 45, 82, 111, 109, 97, 110]), .lit (.string [84, 105, 109, 101, 115, 45, 66, 111, 108, 100]), .lit (.string [84, 105, 109, 101, 115, 45, 73, 116, 97, 108, 105, 99]), .lit (.string [84, 105, 109, 101, 115, 45, 66, 111, 108, 100, 73, 116, 97, 108, 105, 99]), .lit (.string [83, 121, 109, 98, 111, 108]), .lit (.string [90, 97, 112, 102, 68, 105, 110, 103, 98, 97, 116, 115])]

/-- 'mezzotintlaw15.PaintSound': WHATEVER THE INPUT: true; the input reads as it did. -/
def paintSoundSpec : ChangeSpec := { name := "paintSound", fn := fun _ => fun
  | [d] => { results := [.lit (.bool true)], args := [d] }
  | _ => none }
def paintSoundRow : OpenClaim := { program := "yteddlahklilncaadoor", sum := "7fba2c51d25b2492dfb62a1dbd1d59b11cf5fa7f5da18b408f4b666c98e49a7c", func := "mezzotint/mezzotintlaw15.PaintSound", spec := "paintSound", unfollowed := true, recurses := true, named := ["mezzotint/font.names"], apart := false, laid := [("mezzotint/font.names", laid_mezzotint_font_names)] }
def PaintSoundSaid : Prop := paintSoundRow.holds Tryd.pinned (OpenSpec.ofChange paintSoundSpec)

/-- ITS FALSE NEIGHBOUR: 'it returns false'. Refute it at one input. -/
def paintSoundWrong : ChangeSpec := { name := "paintSound", fn := fun _ => fun
  | [d] => { results := [.lit (.bool false)], args := [d] }
  | _ => none }
def PaintSoundWrongFalsely : Prop := paintSoundRow.holds Tryd.pinned (OpenSpec.ofChange paintSoundWrong)

/-- 'mezzotintlaw15.PaintApart': WHATEVER THE INPUT: true; the input reads as it did. -/
def paintApartSpec : ChangeSpec := { name := "paintApart", fn := fun _ => fun
  | [d] => { results := [.lit (.bool true)], args := [d] }
  | _ => none }
def paintApartRow : OpenClaim := { program := "yteddlahklilncaadoor", sum := "7fba2c51d25b2492dfb62a1dbd1d59b11cf5fa7f5da18b408f4b666c98e49a7c", func := "mezzotint/mezzotintlaw15.PaintApart", spec := "paintApart", unfollowed := true, recurses := true, named := ["mezzotint/font.names"], apart := false, laid := [("mezzotint/font.names", laid_mezzotint_font_names)] }
def PaintApartSaid : Prop := paintApartRow.holds Tryd.pinned (OpenSpec.ofChange paintApartSpec)

/-- ITS FALSE NEIGHBOUR: 'it returns false'. Refute it at one input. -/
def paintApartWrong : ChangeSpec := { name := "paintApart", fn := fun _ => fun
  | [d] => { results := [.lit (.bool false)], args := [d] }
  | _ => none }
def PaintApartWrongFalsely : Prop := paintApartRow.holds Tryd.pinned (OpenSpec.ofChange paintApartWrong)

/- THE SECOND FORM. 'bulk': how many values and letters a reading holds, each counted each time it is reached (what is shared counts as often as it is met; a slice's spare places count too). A statement '..UptoSaid' is the law's where the arguments, and the package variables that the reading takes, are together of bulk at most 1048576: NARROWER than '..Said'. Prove '..Said' where nothing that the law and all that it calls make is longer than what came in: it says more and counts as full. Else prove '..UptoSaid'. A law counts once. -/
mutual
def uptoBulk {H : Type} : DataW H → Nat
  | .lit (.string bytes) => bytes.length + 1
  | .lit _ => 1
  | .nil => 1
  | .ptr d => uptoBulk d + 1
  | .slice elems spare => uptoBulkAll elems + uptoBulkAll spare + 1
  | .agg parts => uptoBulkAll parts + 1
  | .iface _ d => uptoBulk d + 1
  | .map entries => uptoBulkEntries entries + 1
  | .held _ => 1
def uptoBulkAll {H : Type} : List (DataW H) → Nat
  | [] => 0
  | d :: r => uptoBulk d + uptoBulkAll r
def uptoBulkEntries {H : Type} : List (Lit × DataW H) → Nat
  | [] => 0
  | x :: r => uptoBulkEntry x + uptoBulkEntries r
def uptoBulkEntry {H : Type} : Lit × DataW H → Nat
  | (.string bytes, d) => bytes.length + uptoBulk d + 1
  | (_, d) => uptoBulk d + 1
 end
def uptoSmall : (H : Type) → List (DataW H) → Bool := fun _ ds => decide (uptoBulkAll ds ≤ 1048576)
def OpenSpec.upto (s : _root_.Go.ChangeSpec) : _root_.Go.OpenSpec := { _root_.Go.OpenSpec.ofChange s with cond := some uptoSmall }

/-- 'mezzotintlaw15.PaintSound', WHERE WHAT IT READS IS OF BULK AT MOST 1048576: true; the input reads as it did. -/
def paintSoundUptoRow : OpenClaim := { program := "yteddlahklilncaadoor", sum := "7fba2c51d25b2492dfb62a1dbd1d59b11cf5fa7f5da18b408f4b666c98e49a7c", func := "mezzotint/mezzotintlaw15.PaintSound", spec := "paintSound", unfollowed := true, recurses := true, named := ["mezzotint/font.names"], apart := false, laid := [("mezzotint/font.names", laid_mezzotint_font_names)], narrowed := true }
def PaintSoundUptoSaid : Prop := paintSoundUptoRow.holds Tryd.pinned (OpenSpec.upto paintSoundSpec)

/-- 'mezzotintlaw15.PaintApart', WHERE WHAT IT READS IS OF BULK AT MOST 1048576: true; the input reads as it did. -/
def paintApartUptoRow : OpenClaim := { program := "yteddlahklilncaadoor", sum := "7fba2c51d25b2492dfb62a1dbd1d59b11cf5fa7f5da18b408f4b666c98e49a7c", func := "mezzotint/mezzotintlaw15.PaintApart", spec := "paintApart", unfollowed := true, recurses := true, named := ["mezzotint/font.names"], apart := false, laid := [("mezzotint/font.names", laid_mezzotint_font_names)], narrowed := true }
def PaintApartUptoSaid : Prop := paintApartUptoRow.holds Tryd.pinned (OpenSpec.upto paintApartSpec)

end Rows
end Go.Proofs.YteddlahklilncaaDoor
