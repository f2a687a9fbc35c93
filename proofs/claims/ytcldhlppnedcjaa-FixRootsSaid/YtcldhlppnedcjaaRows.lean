/-
  No cell of these rows narrows 'for every input' (looked for: loops, veiled, ifaces, maps, wideKeys, modest, calm, conditions, laid).
  DERIVED. THE GIVEN ROWS OF THIS SEAT. 7 by the template 'for every input the law returns true; each argument reads behind the call as it read before'; 0 by the template 'total and deterministic' (their statements: YtcldhlppnedcjaaTotals.lean).
  GIVEN WITH THE SEED: the statements are not yours to turn. If you find one false, say at which input.
  Laid BY PROGRAM, IN A SANDBOX (cutbox-rows.mjs): the forced cells as the released guide's own fill.sh prints them over the translation 87038186e0541d94… (all of the seat's roots in one cut). By AI agents, Wed Nov 11 2026. No macro, syntax, notation, axiom, sorry.
-/
import Derived.Test.YtcldhlppnedcjaaChecked
import GoSem.Claim
import GoSem.ClaimJoined
import GoSem.ClaimMapViews
import Derived.JoinedTies
import Derived.KernelRfl
namespace Go.Proofs.Ytcldhlppnedcjaa
/- THE CELL 'sum', in the pinned program and in every row, IS THE sha256 OF THE DUMP (.gsa) THAT YtcldhlppnedcjaaProg.lean LOADS. Nothing in Lean hashes anything: it is a label: what it is worth is what the hold of that sum in a sandbox is worth. -/
noncomputable def Try.pinned : Pinned := { name := "ytcldhlppnedcjaa", sum := "87038186e0541d94dd95f95c6698cda47c2f9e2aebbb903f3d9734986eaf5a1e", checked := Try.checked }
namespace Rows
def none {H : Type} : Left H := { results := [], args := [] }

/-- 'mezzotintlaw01.FixProducts': WHATEVER THE INPUT: true; the input reads as it did. -/
def fixProductsSpec : ChangeSpec := { name := "fixProducts", fn := fun _ => fun
  | [d1, d2] => { results := [.lit (.bool true)], args := [d1, d2] }
  | _ => none }
def fixProductsRow : OpenClaim := { program := "ytcldhlppnedcjaa", sum := "87038186e0541d94dd95f95c6698cda47c2f9e2aebbb903f3d9734986eaf5a1e", func := "mezzotint/mezzotintlaw01.FixProducts", spec := "fixProducts", apart := false }
def FixProductsSaid : Prop := fixProductsRow.holds Try.pinned (OpenSpec.ofChange fixProductsSpec)

/-- ITS FALSE NEIGHBOUR: 'it returns false'. Refute it at one input. -/
def fixProductsWrong : ChangeSpec := { name := "fixProducts", fn := fun _ => fun
  | [d1, d2] => { results := [.lit (.bool false)], args := [d1, d2] }
  | _ => none }
def FixProductsWrongFalsely : Prop := fixProductsRow.holds Try.pinned (OpenSpec.ofChange fixProductsWrong)

/-- 'mezzotintlaw01.FixNear': WHATEVER THE INPUT: true; the input reads as it did. -/
def fixNearSpec : ChangeSpec := { name := "fixNear", fn := fun _ => fun
  | [d1, d2] => { results := [.lit (.bool true)], args := [d1, d2] }
  | _ => none }
def fixNearRow : OpenClaim := { program := "ytcldhlppnedcjaa", sum := "87038186e0541d94dd95f95c6698cda47c2f9e2aebbb903f3d9734986eaf5a1e", func := "mezzotint/mezzotintlaw01.FixNear", spec := "fixNear", apart := false }
def FixNearSaid : Prop := fixNearRow.holds Try.pinned (OpenSpec.ofChange fixNearSpec)

/-- ITS FALSE NEIGHBOUR: 'it returns false'. Refute it at one input. -/
def fixNearWrong : ChangeSpec := { name := "fixNear", fn := fun _ => fun
  | [d1, d2] => { results := [.lit (.bool false)], args := [d1, d2] }
  | _ => none }
def FixNearWrongFalsely : Prop := fixNearRow.holds Try.pinned (OpenSpec.ofChange fixNearWrong)

/-- 'mezzotintlaw01.FixRoots': WHATEVER THE INPUT: true; the input reads as it did. -/
def fixRootsSpec : ChangeSpec := { name := "fixRoots", fn := fun _ => fun
  | [d] => { results := [.lit (.bool true)], args := [d] }
  | _ => none }
def fixRootsRow : OpenClaim := { program := "ytcldhlppnedcjaa", sum := "87038186e0541d94dd95f95c6698cda47c2f9e2aebbb903f3d9734986eaf5a1e", func := "mezzotint/mezzotintlaw01.FixRoots", spec := "fixRoots", apart := false }
def FixRootsSaid : Prop := fixRootsRow.holds Try.pinned (OpenSpec.ofChange fixRootsSpec)

/-- ITS FALSE NEIGHBOUR: 'it returns false'. Refute it at one input. -/
def fixRootsWrong : ChangeSpec := { name := "fixRoots", fn := fun _ => fun
  | [d] => { results := [.lit (.bool false)], args := [d] }
  | _ => none }
def FixRootsWrongFalsely : Prop := fixRootsRow.holds Try.pinned (OpenSpec.ofChange fixRootsWrong)

/-- 'mezzotintlaw01.FixUndone': WHATEVER THE INPUT: true; the input reads as it did. -/
def fixUndoneSpec : ChangeSpec := { name := "fixUndone", fn := fun _ => fun
  | [d1, d2] => { results := [.lit (.bool true)], args := [d1, d2] }
  | _ => none }
def fixUndoneRow : OpenClaim := { program := "ytcldhlppnedcjaa", sum := "87038186e0541d94dd95f95c6698cda47c2f9e2aebbb903f3d9734986eaf5a1e", func := "mezzotint/mezzotintlaw01.FixUndone", spec := "fixUndone", apart := false }
def FixUndoneSaid : Prop := fixUndoneRow.holds Try.pinned (OpenSpec.ofChange fixUndoneSpec)

/-- ITS FALSE NEIGHBOUR: 'it returns false'. Refute it at one input. -/
def fixUndoneWrong : ChangeSpec := { name := "fixUndone", fn := fun _ => fun
  | [d1, d2] => { results := [.lit (.bool false)], args := [d1, d2] }
  | _ => none }
def FixUndoneWrongFalsely : Prop := fixUndoneRow.holds Try.pinned (OpenSpec.ofChange fixUndoneWrong)

/-- 'mezzotintlaw01.FixSums': WHATEVER THE INPUT: true; the input reads as it did. -/
def fixSumsSpec : ChangeSpec := { name := "fixSums", fn := fun _ => fun
  | [d1, d2, d3] => { results := [.lit (.bool true)], args := [d1, d2, d3] }
  | _ => none }
def fixSumsRow : OpenClaim := { program := "ytcldhlppnedcjaa", sum := "87038186e0541d94dd95f95c6698cda47c2f9e2aebbb903f3d9734986eaf5a1e", func := "mezzotint/mezzotintlaw01.FixSums", spec := "fixSums", apart := false }
def FixSumsSaid : Prop := fixSumsRow.holds Try.pinned (OpenSpec.ofChange fixSumsSpec)

/-- ITS FALSE NEIGHBOUR: 'it returns false'. Refute it at one input. -/
def fixSumsWrong : ChangeSpec := { name := "fixSums", fn := fun _ => fun
  | [d1, d2, d3] => { results := [.lit (.bool false)], args := [d1, d2, d3] }
  | _ => none }
def FixSumsWrongFalsely : Prop := fixSumsRow.holds Try.pinned (OpenSpec.ofChange fixSumsWrong)

/-- 'mezzotintlaw01.FixBetween': WHATEVER THE INPUT: true; the input reads as it did. -/
def fixBetweenSpec : ChangeSpec := { name := "fixBetween", fn := fun _ => fun
  | [d] => { results := [.lit (.bool true)], args := [d] }
  | _ => none }
def fixBetweenRow : OpenClaim := { program := "ytcldhlppnedcjaa", sum := "87038186e0541d94dd95f95c6698cda47c2f9e2aebbb903f3d9734986eaf5a1e", func := "mezzotint/mezzotintlaw01.FixBetween", spec := "fixBetween", apart := false }
def FixBetweenSaid : Prop := fixBetweenRow.holds Try.pinned (OpenSpec.ofChange fixBetweenSpec)

/-- ITS FALSE NEIGHBOUR: 'it returns false'. Refute it at one input. -/
def fixBetweenWrong : ChangeSpec := { name := "fixBetween", fn := fun _ => fun
  | [d] => { results := [.lit (.bool false)], args := [d] }
  | _ => none }
def FixBetweenWrongFalsely : Prop := fixBetweenRow.holds Try.pinned (OpenSpec.ofChange fixBetweenWrong)

/-- 'mezzotintlaw01.FixWholes': WHATEVER THE INPUT: true; the input reads as it did. -/
def fixWholesSpec : ChangeSpec := { name := "fixWholes", fn := fun _ => fun
  | [d] => { results := [.lit (.bool true)], args := [d] }
  | _ => none }
def fixWholesRow : OpenClaim := { program := "ytcldhlppnedcjaa", sum := "87038186e0541d94dd95f95c6698cda47c2f9e2aebbb903f3d9734986eaf5a1e", func := "mezzotint/mezzotintlaw01.FixWholes", spec := "fixWholes", apart := false }
def FixWholesSaid : Prop := fixWholesRow.holds Try.pinned (OpenSpec.ofChange fixWholesSpec)

/-- ITS FALSE NEIGHBOUR: 'it returns false'. Refute it at one input. -/
def fixWholesWrong : ChangeSpec := { name := "fixWholes", fn := fun _ => fun
  | [d] => { results := [.lit (.bool false)], args := [d] }
  | _ => none }
def FixWholesWrongFalsely : Prop := fixWholesRow.holds Try.pinned (OpenSpec.ofChange fixWholesWrong)

/- THE SECOND FORM. 'bulk': how many values and letters a reading holds, each counted each time it is reached (what is shared counts as often as it is met; a slice's spare places count too). A statement '..UptoSaid' is the law's where the arguments, and the package variables that the reading takes, are together of bulk at most 1048576: NARROWER than '..Said'. Prove '..Said' where nothing that the law and all that it calls make is longer than what came in: it says more and counts as full. Else prove '..UptoSaid'. A law counts once. -/
mutual
def uptoBulk {H : Type} : DataW H → Nat
  | .lit (.string bytes) => bytes.length + 1
  | .lit _ => 1
  | .nil => 1
  | .ptr d => uptoBulk d + 1
  | .slice elems spare => uptoBulkAll elems + uptoBulkAll spare + 1
  | .agg parts => uptoBulkAll parts + 1
  | .iface _ d => uptoBulk d + 1
  | .map entries => uptoBulkEntries entries + 1
  | .held _ => 1
def uptoBulkAll {H : Type} : List (DataW H) → Nat
  | [] => 0
  | d :: r => uptoBulk d + uptoBulkAll r
def uptoBulkEntries {H : Type} : List (Lit × DataW H) → Nat
  | [] => 0
  | x :: r => uptoBulkEntry x + uptoBulkEntries r
def uptoBulkEntry {H : Type} : Lit × DataW H → Nat
  | (.string bytes, d) => bytes.length + uptoBulk d + 1
  | (_, d) => uptoBulk d + 1
 end
def uptoSmall : (H : Type) → List (DataW H) → Bool := fun _ ds => decide (uptoBulkAll ds ≤ 1048576)
def OpenSpec.upto (s : _root_.Go.ChangeSpec) : _root_.Go.OpenSpec := { _root_.Go.OpenSpec.ofChange s with cond := some uptoSmall }

/-- 'mezzotintlaw01.FixProducts', WHERE WHAT IT READS IS OF BULK AT MOST 1048576: true; the input reads as it did. -/
def fixProductsUptoRow : OpenClaim := { program := "ytcldhlppnedcjaa", sum := "87038186e0541d94dd95f95c6698cda47c2f9e2aebbb903f3d9734986eaf5a1e", func := "mezzotint/mezzotintlaw01.FixProducts", spec := "fixProducts", apart := false, narrowed := true }
def FixProductsUptoSaid : Prop := fixProductsUptoRow.holds Try.pinned (OpenSpec.upto fixProductsSpec)

/-- 'mezzotintlaw01.FixNear', WHERE WHAT IT READS IS OF BULK AT MOST 1048576: true; the input reads as it did. -/
def fixNearUptoRow : OpenClaim := { program := "ytcldhlppnedcjaa", sum := "87038186e0541d94dd95f95c6698cda47c2f9e2aebbb903f3d9734986eaf5a1e", func := "mezzotint/mezzotintlaw01.FixNear", spec := "fixNear", apart := false, narrowed := true }
def FixNearUptoSaid : Prop := fixNearUptoRow.holds Try.pinned (OpenSpec.upto fixNearSpec)

/-- 'mezzotintlaw01.FixRoots', WHERE WHAT IT READS IS OF BULK AT MOST 1048576: true; the input reads as it did. -/
def fixRootsUptoRow : OpenClaim := { program := "ytcldhlppnedcjaa", sum := "87038186e0541d94dd95f95c6698cda47c2f9e2aebbb903f3d9734986eaf5a1e", func := "mezzotint/mezzotintlaw01.FixRoots", spec := "fixRoots", apart := false, narrowed := true }
def FixRootsUptoSaid : Prop := fixRootsUptoRow.holds Try.pinned (OpenSpec.upto fixRootsSpec)

/-- 'mezzotintlaw01.FixUndone', WHERE WHAT IT READS IS OF BULK AT MOST 1048576: true; the input reads as it did. -/
def fixUndoneUptoRow : OpenClaim := { program := "ytcldhlppnedcjaa", sum := "87038186e0541d94dd95f95c6698cda47c2f9e2aebbb903f3d9734986eaf5a1e", func := "mezzotint/mezzotintlaw01.FixUndone", spec := "fixUndone", apart := false, narrowed := true }
def FixUndoneUptoSaid : Prop := fixUndoneUptoRow.holds Try.pinned (OpenSpec.upto fixUndoneSpec)

/-- 'mezzotintlaw01.FixSums', WHERE WHAT IT READS IS OF BULK AT MOST 1048576: true; the input reads as it did. -/
def fixSumsUptoRow : OpenClaim := { program := "ytcldhlppnedcjaa", sum := "87038186e0541d94dd95f95c6698cda47c2f9e2aebbb903f3d9734986eaf5a1e", func := "mezzotint/mezzotintlaw01.FixSums", spec := "fixSums", apart := false, narrowed := true }
def FixSumsUptoSaid : Prop := fixSumsUptoRow.holds Try.pinned (OpenSpec.upto fixSumsSpec)

/-- 'mezzotintlaw01.FixBetween', WHERE WHAT IT READS IS OF BULK AT MOST 1048576: true; the input reads as it did. -/
def fixBetweenUptoRow : OpenClaim := { program := "ytcldhlppnedcjaa", sum := "87038186e0541d94dd95f95c6698cda47c2f9e2aebbb903f3d9734986eaf5a1e", func := "mezzotint/mezzotintlaw01.FixBetween", spec := "fixBetween", apart := false, narrowed := true }
def FixBetweenUptoSaid : Prop := fixBetweenUptoRow.holds Try.pinned (OpenSpec.upto fixBetweenSpec)

/-- 'mezzotintlaw01.FixWholes', WHERE WHAT IT READS IS OF BULK AT MOST 1048576: true; the input reads as it did. -/
def fixWholesUptoRow : OpenClaim := { program := "ytcldhlppnedcjaa", sum := "87038186e0541d94dd95f95c6698cda47c2f9e2aebbb903f3d9734986eaf5a1e", func := "mezzotint/mezzotintlaw01.FixWholes", spec := "fixWholes", apart := false, narrowed := true }
def FixWholesUptoSaid : Prop := fixWholesUptoRow.holds Try.pinned (OpenSpec.upto fixWholesSpec)

end Rows
end Go.Proofs.Ytcldhlppnedcjaa
