/-
  NARROWER THAN 'FOR EVERY INPUT', by the rows' own cells (each row's printed sentence says how): FontWidths: laid · FontEven: laid · FontSums: laid · FontNames: laid.
  DERIVED. THE GIVEN ROWS OF THIS SEAT. 4 by the template 'for every input the law returns true; each argument reads behind the call as it read before'; 0 by the template 'total and deterministic' (their statements: YtcldhlppnedcjaaDoorTotals.lean).
  GIVEN WITH THE SEED: the statements are not yours to turn. If you find one false, say at which input.
  Laid BY PROGRAM, IN A SANDBOX (cutbox-rows.mjs): the forced cells as the released guide's own fill.sh prints them over the translation fbffb66d6e97d8c3… (all of the seat's roots in one cut). By AI agents, Wed Nov 11 2026. No macro, syntax, notation, axiom, sorry.
-/
import Derived.Test.YtcldhlppnedcjaaDoorChecked
import GoSem.Claim
import GoSem.ClaimJoined
import GoSem.ClaimMapViews
import Derived.JoinedTies
import Derived.KernelRfl
namespace Go.Proofs.YtcldhlppnedcjaaDoor
/- THE CELL 'sum', in the pinned program and in every row, IS THE sha256 OF THE DUMP (.gsa) THAT YtcldhlppnedcjaaDoorProg.lean LOADS. Nothing in Lean hashes anything: it is a label: what it is worth is what the hold of that sum in a sandbox is worth. -/
noncomputable def Tryd.pinned : Pinned := { name := "ytcldhlppnedcjaadoor", sum := "fbffb66d6e97d8c3f7ae2a3b55f82e7e7ca15aa2205c0f7a224bbf857dd33ad1", checked := Tryd.checked }
namespace Rows
def none {H : Type} : Left H := { results := [], args := [] }

/- WHAT THE LISTED PACKAGE-LEVEL VARIABLES READ AS WHEN THE CALL BEGINS. Each datum BY PROGRAM (the guide's laid-datum.mjs) off the statement by which the dump's own 'gosem.cut.vars' lays the variable. In a bare row this is a premise. The card (YtcldhlppnedcjaaDoorCards.lean) ties it to the program's text. -/
def laid_mezzotint_font_names {H : Type} : DataW H := .agg [.lit (.string [67, 111, 117, 114, 105, 101, 114]), .lit (.string [67, 111, 117, 114, 105, 101, 114, 45, 66, 111, 108, 100]), .lit (.string [67, 111, 117, 114, 105, 101, 114, 45, 79, 98, 108, 105, 113, 117, 101]), .lit (.string [67, 111, 117, 114, 105, 101, 114, 45, 66, 111, 108, 100, 79, 98, 108, 105, 113, 117, 101]), .lit (.string [72, 101, 108, 118, 101, 116, 105, 99, 97]), .lit (.string [72, 101, 108, 118, 101, 116, 105, 99, 97, 45, 66, 111, 108, 100]), .lit (.string [72, 101, 108, 118, 101, 116, 105, 99, 97, 45, 79, 98, 108, 105, 113, 117, 101]), .lit (.string [72, 101, 108, 118, 101, 116, 105, 99, 97, 45, 66, 111, 108, 100, 79, 98, 108, 105, 113, 117, 101]), .lit (.string [84, 105, 109, 101, 115, 45, 82, 111, 109, 97, 110]), .lit (.string [84, 105, 109, 101, 115, 45, 66, 111, 108, 100]), .lit (.string [84, 105, 109, 101, 115, 45, 73, 116, 97, 108, 105, 99]), .lit (.string [84, 105, 109, 101, 115, 45, 66, 111, 108, 100, 73, 116, 97, 108, 105, 99]), .lit (.string [83, 121, 109, 98, 111, 108]), .lit (.string [90, 97, 112, 102, 68, 105, 110, 103, 98, 97, 116, 115])]

/-- 'mezzotintlaw12.FontWidths': WHATEVER THE INPUT: true; the input reads as it did. -/
def fontWidthsSpec : ChangeSpec := { name := "fontWidths", fn := fun _ => fun
  | [d1, d2] => { results := [.lit (.bool true)], args := [d1, d2] }
  | _ => none }
def fontWidthsRow : OpenClaim := { program := "ytcldhlppnedcjaadoor", sum := "fbffb66d6e97d8c3f7ae2a3b55f82e7e7ca15aa2205c0f7a224bbf857dd33ad1", func := "mezzotint/mezzotintlaw12.FontWidths", spec := "fontWidths", named := ["mezzotint/font.names"], apart := false, laid := [("mezzotint/font.names", laid_mezzotint_font_names)] }
def FontWidthsSaid : Prop := fontWidthsRow.holds Tryd.pinned (OpenSpec.ofChange fontWidthsSpec)

/-- ITS FALSE NEIGHBOUR: 'it returns false'. Refute it at one input. -/
def fontWidthsWrong : ChangeSpec := { name := "fontWidths", fn := fun _ => fun
  | [d1, d2] => { results := [.lit (.bool false)], args := [d1, d2] }
  | _ => none }
def FontWidthsWrongFalsely : Prop := fontWidthsRow.holds Tryd.pinned (OpenSpec.ofChange fontWidthsWrong)

/-- 'mezzotintlaw12.FontEven': WHATEVER THE INPUT: true; the input reads as it did. -/
def fontEvenSpec : ChangeSpec := { name := "fontEven", fn := fun _ => fun
  | [d1, d2] => { results := [.lit (.bool true)], args := [d1, d2] }
  | _ => none }
def fontEvenRow : OpenClaim := { program := "ytcldhlppnedcjaadoor", sum := "fbffb66d6e97d8c3f7ae2a3b55f82e7e7ca15aa2205c0f7a224bbf857dd33ad1", func := "mezzotint/mezzotintlaw12.FontEven", spec := "fontEven", named := ["mezzotint/font.names"], apart := false, laid := [("mezzotint/font.names", laid_mezzotint_font_names)] }
def FontEvenSaid : Prop := fontEvenRow.holds Tryd.pinned (OpenSpec.ofChange fontEvenSpec)

/-- ITS FALSE NEIGHBOUR: 'it returns false'. Refute it at one input. -/
def fontEvenWrong : ChangeSpec := { name := "fontEven", fn := fun _ => fun
  | [d1, d2] => { results := [.lit (.bool false)], args := [d1, d2] }
  | _ => none }
def FontEvenWrongFalsely : Prop := fontEvenRow.holds Tryd.pinned (OpenSpec.ofChange fontEvenWrong)

/-- 'mezzotintlaw12.FontSums': WHATEVER THE INPUT: true; the input reads as it did. -/
def fontSumsSpec : ChangeSpec := { name := "fontSums", fn := fun _ => fun
  | [d1, d2, d3] => { results := [.lit (.bool true)], args := [d1, d2, d3] }
  | _ => none }
def fontSumsRow : OpenClaim := { program := "ytcldhlppnedcjaadoor", sum := "fbffb66d6e97d8c3f7ae2a3b55f82e7e7ca15aa2205c0f7a224bbf857dd33ad1", func := "mezzotint/mezzotintlaw12.FontSums", spec := "fontSums", named := ["mezzotint/font.names"], apart := false, laid := [("mezzotint/font.names", laid_mezzotint_font_names)] }
def FontSumsSaid : Prop := fontSumsRow.holds Tryd.pinned (OpenSpec.ofChange fontSumsSpec)

/-- ITS FALSE NEIGHBOUR: 'it returns false'. Refute it at one input. -/
def fontSumsWrong : ChangeSpec := { name := "fontSums", fn := fun _ => fun
  | [d1, d2, d3] => { results := [.lit (.bool false)], args := [d1, d2, d3] }
  | _ => none }
def FontSumsWrongFalsely : Prop := fontSumsRow.holds Tryd.pinned (OpenSpec.ofChange fontSumsWrong)

/-- 'mezzotintlaw12.FontNames': WHATEVER THE INPUT: true; the input reads as it did. -/
def fontNamesSpec : ChangeSpec := { name := "fontNames", fn := fun _ => fun
  | [d1, d2] => { results := [.lit (.bool true)], args := [d1, d2] }
  | _ => none }
def fontNamesRow : OpenClaim := { program := "ytcldhlppnedcjaadoor", sum := "fbffb66d6e97d8c3f7ae2a3b55f82e7e7ca15aa2205c0f7a224bbf857dd33ad1", func := "mezzotint/mezzotintlaw12.FontNames", spec := "fontNames", named := ["mezzotint/font.names"], apart := false, laid := [("mezzotint/font.names", laid_mezzotint_font_names)] }
def FontNamesSaid : Prop := fontNamesRow.holds Tryd.pinned (OpenSpec.ofChange fontNamesSpec)

/-- ITS FALSE NEIGHBOUR: 'it returns false'. Refute it at one input. -/
def fontNamesWrong : ChangeSpec := { name := "fontNames", fn := fun _ => fun
  | [d1, d2] => { results := [.lit (.bool false)], args := [d1, d2] }
  | _ => none }
def FontNamesWrongFalsely : Prop := fontNamesRow.holds Tryd.pinned (OpenSpec.ofChange fontNamesWrong)

/- THE SECOND FORM. 'bulk': how many values and letters a reading holds, each counted each time it is reached (what is shared counts as often as it is met; a slice's spare places count too). A statement '..UptoSaid' is the law's where the arguments, and the package variables that the reading takes, are together of bulk at most 1048576: NARROWER than '..Said'. Prove '..Said' where nothing that the law and all that it calls make is longer than what came in: it says more and counts as full. Else prove '..UptoSaid'. A law counts once. -/
mutual
def uptoBulk {H : Type} : DataW H → Nat
  | .lit (.string bytes) => bytes.length + 1
  | .lit _ => 1
  | .nil => 1
  | .ptr d => uptoBulk d + 1
  | .slice elems spare => uptoBulkAll elems + uptoBulkAll spare + 1
  | .agg parts => uptoBulkAll parts + 1
  | .iface _ d => uptoBulk d + 1
  | .map entries => uptoBulkEntries entries + 1
  | .held _ => 1
def uptoBulkAll {H : Type} : List (DataW H) → Nat
  | [] => 0
  | d :: r => uptoBulk d + uptoBulkAll r
def uptoBulkEntries {H : Type} : List (Lit × DataW H) → Nat
  | [] => 0
  | x :: r => uptoBulkEntry x + uptoBulkEntries r
def uptoBulkEntry {H : Type} : Lit × DataW H → Nat
  | (.string bytes, d) => bytes.length + uptoBulk d + 1
  | (_, d) => uptoBulk d + 1
 end
def uptoSmall : (H : Type) → List (DataW H) → Bool := fun _ ds => decide (uptoBulkAll ds ≤ 1048576)
def OpenSpec.upto (s : _root_.Go.ChangeSpec) : _root_.Go.OpenSpec := { _root_.Go.OpenSpec.ofChange s with cond := some uptoSmall }

/-- 'mezzotintlaw12.FontWidths', WHERE WHAT IT READS IS OF BULK AT MOST 1048576: true; the input reads as it did. -/
def fontWidthsUptoRow : OpenClaim := { program := "ytcldhlppnedcjaadoor", sum := "fbffb66d6e97d8c3f7ae2a3b55f82e7e7ca15aa2205c0f7a224bbf857dd33ad1", func := "mezzotint/mezzotintlaw12.FontWidths", spec := "fontWidths", named := ["mezzotint/font.names"], apart := false, laid := [("mezzotint/font.names", laid_mezzotint_font_names)], narrowed := true }
def FontWidthsUptoSaid : Prop := fontWidthsUptoRow.holds Tryd.pinned (OpenSpec.upto fontWidthsSpec)

/-- 'mezzotintlaw12.FontEven', WHERE WHAT IT READS IS OF BULK AT MOST 1048576: true; the input reads as it did. -/
def fontEvenUptoRow : OpenClaim := { program := "ytcldhlppnedcjaadoor", sum := "fbffb66d6e97d8c3f7ae2a3b55f82e7e7ca15aa2205c0f7a224bbf857dd33ad1", func := "mezzotint/mezzotintlaw12.FontEven", spec := "fontEven", named := ["mezzotint/font.names"], apart := false, laid := [("mezzotint/font.names", laid_mezzotint_font_names)], narrowed := true }
def FontEvenUptoSaid : Prop := fontEvenUptoRow.holds Tryd.pinned (OpenSpec.upto fontEvenSpec)

/-- 'mezzotintlaw12.FontSums', WHERE WHAT IT READS IS OF BULK AT MOST 1048576: true; the input reads as it did. -/
def fontSumsUptoRow : OpenClaim := { program := "ytcldhlppnedcjaadoor", sum := "fbffb66d6e97d8c3f7ae2a3b55f82e7e7ca15aa2205c0f7a224bbf857dd33ad1", func := "mezzotint/mezzotintlaw12.FontSums", spec := "fontSums", named := ["mezzotint/font.names"], apart := false, laid := [("mezzotint/font.names", laid_mezzotint_font_names)], narrowed := true }
def FontSumsUptoSaid : Prop := fontSumsUptoRow.holds Tryd.pinned (OpenSpec.upto fontSumsSpec)

/-- 'mezzotintlaw12.FontNames', WHERE WHAT IT READS IS OF BULK AT MOST 1048576: true; the input reads as it did. -/
def fontNamesUptoRow : OpenClaim := { program := "ytcldhlppnedcjaadoor", sum := "fbffb66d6e97d8c3f7ae2a3b55f82e7e7ca15aa2205c0f7a224bbf857dd33ad1", func := "mezzotint/mezzotintlaw12.FontNames", spec := "fontNames", named := ["mezzotint/font.names"], apart := false, laid := [("mezzotint/font.names", laid_mezzotint_font_names)], narrowed := true }
def FontNamesUptoSaid : Prop := fontNamesUptoRow.holds Tryd.pinned (OpenSpec.upto fontNamesSpec)

end Rows
end Go.Proofs.YtcldhlppnedcjaaDoor
