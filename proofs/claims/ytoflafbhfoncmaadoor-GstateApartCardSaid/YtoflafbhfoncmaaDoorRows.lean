/-
  NARROWER THAN 'FOR EVERY INPUT', by the rows' own cells (each row's printed sentence says how): GstateBalanced: laid · GstateApart: laid · GstateNone: laid.
  DERIVED. THE GIVEN ROWS OF THIS SEAT. 3 by the template 'for every input the law returns true; each argument reads behind the call as it read before'; 0 by the template 'total and deterministic' (their statements: YtoflafbhfoncmaaDoorTotals.lean).
  GIVEN WITH THE SEED: the statements are not yours to turn. If you find one false, say at which input.
  Laid BY PROGRAM, IN A SANDBOX (cutbox-rows.mjs): the forced cells as the released guide's own fill.sh prints them over the translation 7400d3a9e7eb0dff… (all of the seat's roots in one cut). By AI agents, Wed Nov 11 2026. No macro, syntax, notation, axiom, sorry.
-/
import Derived.Test.YtoflafbhfoncmaaDoorChecked
import GoSem.Claim
import GoSem.ClaimJoined
import GoSem.ClaimMapViews
import Derived.JoinedTies
import Derived.KernelRfl
namespace Go.Proofs.YtoflafbhfoncmaaDoor
/- THE CELL 'sum', in the pinned program and in every row, IS THE sha256 OF THE DUMP (.gsa) THAT YtoflafbhfoncmaaDoorProg.lean LOADS. Nothing in Lean hashes anything: it is a label: what it is worth is what the hold of that sum in a sandbox is worth. -/
noncomputable def Tryd.pinned : Pinned := { name := "ytoflafbhfoncmaadoor", sum := "7400d3a9e7eb0dffba112b33c8e1078e57facbe3d51eb3778b247f33b90bfbe6", checked := Tryd.checked }
namespace Rows
def none {H : Type} : Left H := { results := [], args := [] }

/- WHAT THE LISTED PACKAGE-LEVEL VARIABLES READ AS WHEN THE CALL BEGINS. Each datum BY PROGRAM (the guide's laid-datum.mjs) off the statement by which the dump's own 'gosem.cut.vars' lays the variable. In a bare row this is a premise. The card (YtoflafbhfoncmaaDoorCards.lean) ties it to the program's text. -/
def laid_mezzotint_font_names {H : Type} : DataW H := .agg [.lit (.string [67, 111, 117, 114, 105, 101, 114]), .lit (.string [67, 111, 117, 114, 105, 101, 114, 45, 66, 111, 108, 100]), .lit (.string [67, 111, 117, 114, 105, 101, 114, 45, 79, 98, 108, 105, 113, 117, 101]), .lit (.string [67, 111, 117, 114, 105, 101, 114, 45, 66, 111, 108, 100, 79, 98, 108, 105, 113, 117, 101]), .lit (.string [72, 101, 108, 118, 101, 116, 105, 99, 97]), .lit (.string [72, 101, 108, 118, 101, 116, 105, 99, 97, 45, 66, 111, 108, 100]), .lit (.string [72, 101, 108, 118, 101, 116, 105, 99, 97, 45, 79, 98, 108, 105, 113, 117, 101]), .lit (.string [72, 101, 108, 118, 101, 116, 105, 99, 97, 45, 66, 111, 108, 100, 79, 98, 108, 105, 113, 117, 101]), .lit (.string [84, 105, 109, 101, 115, 45, 82, 111, 109, 97, 110]), .lit (.string [84, 105, 109, 101, 115, 45, 66, 111, 108, 100]), .lit (.string [84, 105, 109, 101, 115, 45, 73, 116, 97, 108, 105, 99]), .lit (.string [84, 105, 109, 101, 115, 45, 66, 111, 108, 100, 73, 116, 97, 108, 105, 99]), .lit (.string [83, 121, 109, 98, 111, 108]), .lit (.string [90, 97, 112, 102, 68, 105, 110, 103, 98, 97, 116, 115])]

/-- 'mezzotintlaw14.GstateBalanced': WHATEVER THE INPUT: true; the input reads as it did. -/
def gstateBalancedSpec : ChangeSpec := { name := "gstateBalanced", fn := fun _ => fun
  | [d1, d2] => { results := [.lit (.bool true)], args := [d1, d2] }
  | _ => none }
def gstateBalancedRow : OpenClaim := { program := "ytoflafbhfoncmaadoor", sum := "7400d3a9e7eb0dffba112b33c8e1078e57facbe3d51eb3778b247f33b90bfbe6", func := "mezzotint/mezzotintlaw14.GstateBalanced", spec := "gstateBalanced", unfollowed := true, recurses := true, named := ["mezzotint/font.names"], apart := false, laid := [("mezzotint/font.names", laid_mezzotint_font_names)] }
def GstateBalancedSaid : Prop := gstateBalancedRow.holds Tryd.pinned (OpenSpec.ofChange gstateBalancedSpec)

/-- ITS FALSE NEIGHBOUR: 'it returns false'. Refute it at one input. -/
def gstateBalancedWrong : ChangeSpec := { name := "gstateBalanced", fn := fun _ => fun
  | [d1, d2] => { results := [.lit (.bool false)], args := [d1, d2] }
  | _ => none }
def GstateBalancedWrongFalsely : Prop := gstateBalancedRow.holds Tryd.pinned (OpenSpec.ofChange gstateBalancedWrong)

/-- 'mezzotintlaw14.GstateApart': WHATEVER THE INPUT: true; the input reads as it did. -/
def gstateApartSpec : ChangeSpec := { name := "gstateApart", fn := fun _ => fun
  | [d1, d2] => { results := [.lit (.bool true)], args := [d1, d2] }
  | _ => none }
def gstateApartRow : OpenClaim := { program := "ytoflafbhfoncmaadoor", sum := "7400d3a9e7eb0dffba112b33c8e1078e57facbe3d51eb3778b247f33b90bfbe6", func := "mezzotint/mezzotintlaw14.GstateApart", spec := "gstateApart", unfollowed := true, recurses := true, named := ["mezzotint/font.names"], apart := false, laid := [("mezzotint/font.names", laid_mezzotint_font_names)] }
def GstateApartSaid : Prop := gstateApartRow.holds Tryd.pinned (OpenSpec.ofChange gstateApartSpec)

/-- ITS FALSE NEIGHBOUR: 'it returns false'. Refute it at one input. -/
def gstateApartWrong : ChangeSpec := { name := "gstateApart", fn := fun _ => fun
  | [d1, d2] => { results := [.lit (.bool false)], args := [d1, d2] }
  | _ => none }
def GstateApartWrongFalsely : Prop := gstateApartRow.holds Tryd.pinned (OpenSpec.ofChange gstateApartWrong)

/-- 'mezzotintlaw14.GstateNone': WHATEVER THE INPUT: true; the input reads as it did. -/
def gstateNoneSpec : ChangeSpec := { name := "gstateNone", fn := fun _ => fun
  | [d] => { results := [.lit (.bool true)], args := [d] }
  | _ => none }
def gstateNoneRow : OpenClaim := { program := "ytoflafbhfoncmaadoor", sum := "7400d3a9e7eb0dffba112b33c8e1078e57facbe3d51eb3778b247f33b90bfbe6", func := "mezzotint/mezzotintlaw14.GstateNone", spec := "gstateNone", unfollowed := true, recurses := true, named := ["mezzotint/font.names"], apart := false, laid := [("mezzotint/font.names", laid_mezzotint_font_names)] }
def GstateNoneSaid : Prop := gstateNoneRow.holds Tryd.pinned (OpenSpec.ofChange gstateNoneSpec)

/-- ITS FALSE NEIGHBOUR: 'it returns false'. Refute it at one input. -/
def gstateNoneWrong : ChangeSpec := { name := "gstateNone", fn := fun _ => fun
  | [d] => { results := [.lit (.bool false)], args := [d] }
  | _ => none }
def GstateNoneWrongFalsely : Prop := gstateNoneRow.holds Tryd.pinned (OpenSpec.ofChange gstateNoneWrong)

/- THE SECOND FORM. 'bulk': how many values and letters a reading holds, each counted each time it is reached (what is shared counts as often as it is met; a slice's spare places count too). A statement '..UptoSaid' is the law's where the arguments, and the package variables that the reading takes, are together of bulk at most 1048576: NARROWER than '..Said'. Prove '..Said' where nothing that the law and all that it calls make is longer than what came in: it says more and counts as full. Else prove '..UptoSaid'. A law counts once. -/
mutual
def uptoBulk {H : Type} : DataW H → Nat
  | .lit (.string bytes) => bytes.length + 1
  | .lit _ => 1
  | .nil => 1
  | .ptr d => uptoBulk d + 1
  | .slice elems spare => uptoBulkAll elems + uptoBulkAll spare + 1
  | .agg parts => uptoBulkAll parts + 1
  | .iface _ d => uptoBulk d + 1
  | .map entries => uptoBulkEntries entries + 1
  | .held _ => 1
def uptoBulkAll {H : Type} : List (DataW H) → Nat
  | [] => 0
  | d :: r => uptoBulk d + uptoBulkAll r
def uptoBulkEntries {H : Type} : List (Lit × DataW H) → Nat
  | [] => 0
  | x :: r => uptoBulkEntry x + uptoBulkEntries r
def uptoBulkEntry {H : Type} : Lit × DataW H → Nat
  | (.string bytes, d) => bytes.length + uptoBulk d + 1
  | (_, d) => uptoBulk d + 1
 end
def uptoSmall : (H : Type) → List (DataW H) → Bool := fun _ ds => decide (uptoBulkAll ds ≤ 1048576)
def OpenSpec.upto (s : _root_.Go.ChangeSpec) : _root_.Go.OpenSpec := { _root_.Go.OpenSpec.ofChange s with cond := some uptoSmall }

/-- 'mezzotintlaw14.GstateBalanced', WHERE WHAT IT READS IS OF BULK AT MOST 1048576: true; the input reads as it did. -/
def gstateBalancedUptoRow : OpenClaim := { program := "ytoflafbhfoncmaadoor", sum := "7400d3a9e7eb0dffba112b33c8e1078e57facbe3d51eb3778b247f33b90bfbe6", func := "mezzotint/mezzotintlaw14.GstateBalanced", spec := "gstateBalanced", unfollowed := true, recurses := true, named := ["mezzotint/font.names"], apart := false, laid := [("mezzotint/font.names", laid_mezzotint_font_names)], narrowed := true }
def GstateBalancedUptoSaid : Prop := gstateBalancedUptoRow.holds Tryd.pinned (OpenSpec.upto gstateBalancedSpec)

/-- 'mezzotintlaw14.GstateApart', WHERE WHAT IT READS IS OF BULK AT MOST 1048576: true; the input reads as it did. -/
def gstateApartUptoRow : OpenClaim := { program := "ytoflafbhfoncmaadoor", sum := "7400d3a9e7eb0dffba112b33c8e1078e57facbe3d51eb3778b247f33b90bfbe6", func := "mezzotint/mezzotintlaw14.GstateApart", spec := "gstateApart", unfollowed := true, recurses := true, named := ["mezzotint/font.names"], apart := false, laid := [("mezzotint/font.names", laid_mezzotint_font_names)], narrowed := true }
def GstateApartUptoSaid : Prop := gstateApartUptoRow.holds Tryd.pinned (OpenSpec.upto gstateApartSpec)

/-- 'mezzotintlaw14.GstateNone', WHERE WHAT IT READS IS OF BULK AT MOST 1048576: true; the input reads as it did. -/
def gstateNoneUptoRow : OpenClaim := { program := "ytoflafbhfoncmaadoor", sum := "7400d3a9e7eb0dffba112b33c8e1078e57facbe3d51eb3778b247f33b90bfbe6", func := "mezzotint/mezzotintlaw14.GstateNone", spec := "gstateNone", unfollowed := true, recurses := true, named := ["mezzotint/font.names"], apart := false, laid := [("mezzotint/font.names", laid_mezzotint_font_names)], narrowed := true }
def GstateNoneUptoSaid : Prop := gstateNoneUptoRow.holds Tryd.pinned (OpenSpec.upto gstateNoneSpec)

end Rows
end Go.Proofs.YtoflafbhfoncmaaDoor
