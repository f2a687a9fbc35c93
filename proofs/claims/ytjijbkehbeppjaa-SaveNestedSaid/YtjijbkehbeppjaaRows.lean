/-
  No cell of these rows narrows 'for every input' (looked for: loops, veiled, ifaces, maps, wideKeys, modest, calm, conditions, laid).
  DERIVED. THE GIVEN ROWS OF THIS SEAT. 4 by the template 'for every input the law returns true; each argument reads behind the call as it read before'; 0 by the template 'total and deterministic' (their statements: YtjijbkehbeppjaaTotals.lean).
  GIVEN WITH THE SEED: the statements are not yours to turn. If you find one false, say at which input.
  Laid BY PROGRAM, IN A SANDBOX (cutbox-rows.mjs): the forced cells as the released guide's own fill.sh prints them over the translation 895991a129df3703… (all of the seat's roots in one cut). By AI agents, Wed Nov 11 2026. No macro, syntax, notation, axiom, sorry.
-/
import Derived.Test.YtjijbkehbeppjaaChecked
import GoSem.Claim
import GoSem.ClaimJoined
import GoSem.ClaimMapViews
import Derived.JoinedTies
import Derived.KernelRfl
namespace Go.Proofs.Ytjijbkehbeppjaa
/- THE CELL 'sum', in the pinned program and in every row, IS THE sha256 OF THE DUMP (.gsa) THAT YtjijbkehbeppjaaProg.lean LOADS. Nothing in Lean hashes anything: it is a label: what it is worth is what the hold of that sum in a sandbox is worth. -/
noncomputable def Try.pinned : Pinned := { name := "ytjijbkehbeppjaa", sum := "895991a129df37038066fa80bad827808f48eaab330e718b462c706f97f6d038", checked := Try.checked }
namespace Rows
def none {H : Type} : Left H := { results := [], args := [] }

/-- 'mezzotintlaw06.SaveNested': WHATEVER THE INPUT: true; the input reads as it did. -/
def saveNestedSpec : ChangeSpec := { name := "saveNested", fn := fun _ => fun
  | [d1, d2] => { results := [.lit (.bool true)], args := [d1, d2] }
  | _ => none }
def saveNestedRow : OpenClaim := { program := "ytjijbkehbeppjaa", sum := "895991a129df37038066fa80bad827808f48eaab330e718b462c706f97f6d038", func := "mezzotint/mezzotintlaw06.SaveNested", spec := "saveNested", inPlace := ["slices.overlaps[mezzotint/store.pair]"], unfollowed := true, recurses := true, apart := false }
def SaveNestedSaid : Prop := saveNestedRow.holds Try.pinned (OpenSpec.ofChange saveNestedSpec)

/-- ITS FALSE NEIGHBOUR: 'it returns false'. Refute it at one input. -/
def saveNestedWrong : ChangeSpec := { name := "saveNested", fn := fun _ => fun
  | [d1, d2] => { results := [.lit (.bool false)], args := [d1, d2] }
  | _ => none }
def SaveNestedWrongFalsely : Prop := saveNestedRow.holds Try.pinned (OpenSpec.ofChange saveNestedWrong)

/-- 'mezzotintlaw06.SaveRefuses': WHATEVER THE INPUT: true; the input reads as it did. -/
def saveRefusesSpec : ChangeSpec := { name := "saveRefuses", fn := fun _ => fun
  | [d] => { results := [.lit (.bool true)], args := [d] }
  | _ => none }
def saveRefusesRow : OpenClaim := { program := "ytjijbkehbeppjaa", sum := "895991a129df37038066fa80bad827808f48eaab330e718b462c706f97f6d038", func := "mezzotint/mezzotintlaw06.SaveRefuses", spec := "saveRefuses", inPlace := ["slices.overlaps[mezzotint/store.pair]"], unfollowed := true, recurses := true, apart := false }
def SaveRefusesSaid : Prop := saveRefusesRow.holds Try.pinned (OpenSpec.ofChange saveRefusesSpec)

/-- ITS FALSE NEIGHBOUR: 'it returns false'. Refute it at one input. -/
def saveRefusesWrong : ChangeSpec := { name := "saveRefuses", fn := fun _ => fun
  | [d] => { results := [.lit (.bool false)], args := [d] }
  | _ => none }
def SaveRefusesWrongFalsely : Prop := saveRefusesRow.holds Try.pinned (OpenSpec.ofChange saveRefusesWrong)

/-- 'mezzotintlaw06.SaveActs': WHATEVER THE INPUT: true; the input reads as it did. -/
def saveActsSpec : ChangeSpec := { name := "saveActs", fn := fun _ => fun
  | [d] => { results := [.lit (.bool true)], args := [d] }
  | _ => none }
def saveActsRow : OpenClaim := { program := "ytjijbkehbeppjaa", sum := "895991a129df37038066fa80bad827808f48eaab330e718b462c706f97f6d038", func := "mezzotint/mezzotintlaw06.SaveActs", spec := "saveActs", inPlace := ["slices.overlaps[mezzotint/store.pair]"], unfollowed := true, recurses := true, apart := false }
def SaveActsSaid : Prop := saveActsRow.holds Try.pinned (OpenSpec.ofChange saveActsSpec)

/-- ITS FALSE NEIGHBOUR: 'it returns false'. Refute it at one input. -/
def saveActsWrong : ChangeSpec := { name := "saveActs", fn := fun _ => fun
  | [d] => { results := [.lit (.bool false)], args := [d] }
  | _ => none }
def SaveActsWrongFalsely : Prop := saveActsRow.holds Try.pinned (OpenSpec.ofChange saveActsWrong)

/-- 'mezzotintlaw06.SaveStrings': WHATEVER THE INPUT: true; the input reads as it did. -/
def saveStringsSpec : ChangeSpec := { name := "saveStrings", fn := fun _ => fun
  | [d1, d2, d3] => { results := [.lit (.bool true)], args := [d1, d2, d3] }
  | _ => none }
def saveStringsRow : OpenClaim := { program := "ytjijbkehbeppjaa", sum := "895991a129df37038066fa80bad827808f48eaab330e718b462c706f97f6d038", func := "mezzotint/mezzotintlaw06.SaveStrings", spec := "saveStrings", inPlace := ["slices.overlaps[mezzotint/store.pair]"], unfollowed := true, recurses := true, apart := false }
def SaveStringsSaid : Prop := saveStringsRow.holds Try.pinned (OpenSpec.ofChange saveStringsSpec)

/-- ITS FALSE NEIGHBOUR: 'it returns false'. Refute it at one input. -/
def saveStringsWrong : ChangeSpec := { name := "saveStrings", fn := fun _ => fun
  | [d1, d2, d3] => { results := [.lit (.bool false)], args := [d1, d2, d3] }
  | _ => none }
def SaveStringsWrongFalsely : Prop := saveStringsRow.holds Try.pinned (OpenSpec.ofChange saveStringsWrong)

/- THE SECOND FORM. 'bulk': how many values and letters a reading holds, each counted each time it is reached (what is shared counts as often as it is met; a slice's spare places count too). A statement '..UptoSaid' is the law's where the arguments, and the package variables that the reading takes, are together of bulk at most 1048576: NARROWER than '..Said'. Prove '..Said' where nothing that the law and all that it calls make is longer than what came in: it says more and counts as full. Else prove '..UptoSaid'. A law counts once. -/
mutual
def uptoBulk {H : Type} : DataW H → Nat
  | .lit (.string bytes) => bytes.length + 1
  | .lit _ => 1
  | .nil => 1
  | .ptr d => uptoBulk d + 1
  | .slice elems spare => uptoBulkAll elems + uptoBulkAll spare + 1
  | .agg parts => uptoBulkAll parts + 1
  | .iface _ d => uptoBulk d + 1
  | .map entries => uptoBulkEntries entries + 1
  | .held _ => 1
def uptoBulkAll {H : Type} : List (DataW H) → Nat
  | [] => 0
  | d :: r => uptoBulk d + uptoBulkAll r
def uptoBulkEntries {H : Type} : List (Lit × DataW H) → Nat
  | [] => 0
  | x :: r => uptoBulkEntry x + uptoBulkEntries r
def uptoBulkEntry {H : Type} : Lit × DataW H → Nat
  | (.string bytes, d) => bytes.length + uptoBulk d + 1
  | (_, d) => uptoBulk d + 1
 end
def uptoSmall : (H : Type) → List (DataW H) → Bool := fun _ ds => decide (uptoBulkAll ds ≤ 1048576)
def OpenSpec.upto (s : _root_.Go.ChangeSpec) : _root_.Go.OpenSpec := { _root_.Go.OpenSpec.ofChange s with cond := some uptoSmall }

/-- 'mezzotintlaw06.SaveNested', WHERE WHAT IT READS IS OF BULK AT MOST 1048576: true; the input reads as it did. -/
def saveNestedUptoRow : OpenClaim := { program := "ytjijbkehbeppjaa", sum := "895991a129df37038066fa80bad827808f48eaab330e718b462c706f97f6d038", func := "mezzotint/mezzotintlaw06.SaveNested", spec := "saveNested", inPlace := ["slices.overlaps[mezzotint/store.pair]"], unfollowed := true, recurses := true, apart := false, narrowed := true }
def SaveNestedUptoSaid : Prop := saveNestedUptoRow.holds Try.pinned (OpenSpec.upto saveNestedSpec)

/-- 'mezzotintlaw06.SaveRefuses', WHERE WHAT IT READS IS OF BULK AT MOST 1048576: true; the input reads as it did. -/
def saveRefusesUptoRow : OpenClaim := { program := "ytjijbkehbeppjaa", sum := "895991a129df37038066fa80bad827808f48eaab330e718b462c706f97f6d038", func := "mezzotint/mezzotintlaw06.SaveRefuses", spec := "saveRefuses", inPlace := ["slices.overlaps[mezzotint/store.pair]"], unfollowed := true, recurses := true, apart := false, narrowed := true }
def SaveRefusesUptoSaid : Prop := saveRefusesUptoRow.holds Try.pinned (OpenSpec.upto saveRefusesSpec)

/-- 'mezzotintlaw06.SaveActs', WHERE WHAT IT READS IS OF BULK AT MOST 1048576: true; the input reads as it did. -/
def saveActsUptoRow : OpenClaim := { program := "ytjijbkehbeppjaa", sum := "895991a129df37038066fa80bad827808f48eaab330e718b462c706f97f6d038", func := "mezzotint/mezzotintlaw06.SaveActs", spec := "saveActs", inPlace := ["slices.overlaps[mezzotint/store.pair]"], unfollowed := true, recurses := true, apart := false, narrowed := true }
def SaveActsUptoSaid : Prop := saveActsUptoRow.holds Try.pinned (OpenSpec.upto saveActsSpec)

/-- 'mezzotintlaw06.SaveStrings', WHERE WHAT IT READS IS OF BULK AT MOST 1048576: true; the input reads as it did. -/
def saveStringsUptoRow : OpenClaim := { program := "ytjijbkehbeppjaa", sum := "895991a129df37038066fa80bad827808f48eaab330e718b462c706f97f6d038", func := "mezzotint/mezzotintlaw06.SaveStrings", spec := "saveStrings", inPlace := ["slices.overlaps[mezzotint/store.pair]"], unfollowed := true, recurses := true, apart := false, narrowed := true }
def SaveStringsUptoSaid : Prop := saveStringsUptoRow.holds Try.pinned (OpenSpec.upto saveStringsSpec)

end Rows
end Go.Proofs.Ytjijbkehbeppjaa
