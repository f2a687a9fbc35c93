/-
  No cell of these rows narrows 'for every input' (looked for: loops, veiled, ifaces, maps, wideKeys, modest, calm, conditions, laid).
  DERIVED. THE GIVEN ROWS OF THIS SEAT. 5 by the template 'for every input the law returns true; each argument reads behind the call as it read before'; 0 by the template 'total and deterministic' (their statements: YtonmakmnencihaaTotals.lean).
  GIVEN WITH THE SEED: the statements are not yours to turn. If you find one false, say at which input.
  Laid BY PROGRAM, IN A SANDBOX (cutbox-rows.mjs): the forced cells as the released guide's own fill.sh prints them over the translation 9e0e517aaeca3b15… (all of the seat's roots in one cut). By AI agents, Wed Nov 11 2026. No macro, syntax, notation, axiom, sorry.
-/
import Derived.Test.YtonmakmnencihaaChecked
import GoSem.Claim
import GoSem.ClaimJoined
import GoSem.ClaimMapViews
import Derived.JoinedTies
import Derived.KernelRfl
namespace Go.Proofs.Ytonmakmnencihaa
/- THE CELL 'sum', in the pinned program and in every row, IS THE sha256 OF THE DUMP (.gsa) THAT YtonmakmnencihaaProg.lean LOADS. Nothing in Lean hashes anything: it is a label: what it is worth is what the hold of that sum in a sandbox is worth. -/
noncomputable def Try.pinned : Pinned := { name := "ytonmakmnencihaa", sum := "9e0e517aaeca3b1527f69fa8761b420e4373e6bd23b0365849caf03da1acbaab", checked := Try.checked }
namespace Rows
def none {H : Type} : Left H := { results := [], args := [] }

/-- 'mezzotintlaw03.MatLeads': WHATEVER THE INPUT: true; the input reads as it did. -/
def matLeadsSpec : ChangeSpec := { name := "matLeads", fn := fun _ => fun
  | [d1, d2] => { results := [.lit (.bool true)], args := [d1, d2] }
  | _ => none }
def matLeadsRow : OpenClaim := { program := "ytonmakmnencihaa", sum := "9e0e517aaeca3b1527f69fa8761b420e4373e6bd23b0365849caf03da1acbaab", func := "mezzotint/mezzotintlaw03.MatLeads", spec := "matLeads", apart := false }
def MatLeadsSaid : Prop := matLeadsRow.holds Try.pinned (OpenSpec.ofChange matLeadsSpec)

/-- ITS FALSE NEIGHBOUR: 'it returns false'. Refute it at one input. -/
def matLeadsWrong : ChangeSpec := { name := "matLeads", fn := fun _ => fun
  | [d1, d2] => { results := [.lit (.bool false)], args := [d1, d2] }
  | _ => none }
def MatLeadsWrongFalsely : Prop := matLeadsRow.holds Try.pinned (OpenSpec.ofChange matLeadsWrong)

/-- 'mezzotintlaw03.MatMoves': WHATEVER THE INPUT: true; the input reads as it did. -/
def matMovesSpec : ChangeSpec := { name := "matMoves", fn := fun _ => fun
  | [d1, d2, d3, d4] => { results := [.lit (.bool true)], args := [d1, d2, d3, d4] }
  | _ => none }
def matMovesRow : OpenClaim := { program := "ytonmakmnencihaa", sum := "9e0e517aaeca3b1527f69fa8761b420e4373e6bd23b0365849caf03da1acbaab", func := "mezzotint/mezzotintlaw03.MatMoves", spec := "matMoves", apart := false }
def MatMovesSaid : Prop := matMovesRow.holds Try.pinned (OpenSpec.ofChange matMovesSpec)

/-- ITS FALSE NEIGHBOUR: 'it returns false'. Refute it at one input. -/
def matMovesWrong : ChangeSpec := { name := "matMoves", fn := fun _ => fun
  | [d1, d2, d3, d4] => { results := [.lit (.bool false)], args := [d1, d2, d3, d4] }
  | _ => none }
def MatMovesWrongFalsely : Prop := matMovesRow.holds Try.pinned (OpenSpec.ofChange matMovesWrong)

/-- 'mezzotintlaw03.MatJoins': WHATEVER THE INPUT: true; the input reads as it did. -/
def matJoinsSpec : ChangeSpec := { name := "matJoins", fn := fun _ => fun
  | [d1, d2] => { results := [.lit (.bool true)], args := [d1, d2] }
  | _ => none }
def matJoinsRow : OpenClaim := { program := "ytonmakmnencihaa", sum := "9e0e517aaeca3b1527f69fa8761b420e4373e6bd23b0365849caf03da1acbaab", func := "mezzotint/mezzotintlaw03.MatJoins", spec := "matJoins", apart := false }
def MatJoinsSaid : Prop := matJoinsRow.holds Try.pinned (OpenSpec.ofChange matJoinsSpec)

/-- ITS FALSE NEIGHBOUR: 'it returns false'. Refute it at one input. -/
def matJoinsWrong : ChangeSpec := { name := "matJoins", fn := fun _ => fun
  | [d1, d2] => { results := [.lit (.bool false)], args := [d1, d2] }
  | _ => none }
def MatJoinsWrongFalsely : Prop := matJoinsRow.holds Try.pinned (OpenSpec.ofChange matJoinsWrong)

/-- 'mezzotintlaw03.MatBacks': WHATEVER THE INPUT: true; the input reads as it did. -/
def matBacksSpec : ChangeSpec := { name := "matBacks", fn := fun _ => fun
  | [d] => { results := [.lit (.bool true)], args := [d] }
  | _ => none }
def matBacksRow : OpenClaim := { program := "ytonmakmnencihaa", sum := "9e0e517aaeca3b1527f69fa8761b420e4373e6bd23b0365849caf03da1acbaab", func := "mezzotint/mezzotintlaw03.MatBacks", spec := "matBacks", apart := false }
def MatBacksSaid : Prop := matBacksRow.holds Try.pinned (OpenSpec.ofChange matBacksSpec)

/-- ITS FALSE NEIGHBOUR: 'it returns false'. Refute it at one input. -/
def matBacksWrong : ChangeSpec := { name := "matBacks", fn := fun _ => fun
  | [d] => { results := [.lit (.bool false)], args := [d] }
  | _ => none }
def MatBacksWrongFalsely : Prop := matBacksRow.holds Try.pinned (OpenSpec.ofChange matBacksWrong)

/-- 'mezzotintlaw03.MatWhole': WHATEVER THE INPUT: true; the input reads as it did. -/
def matWholeSpec : ChangeSpec := { name := "matWhole", fn := fun _ => fun
  | [d1, d2, d3, d4, d5] => { results := [.lit (.bool true)], args := [d1, d2, d3, d4, d5] }
  | _ => none }
def matWholeRow : OpenClaim := { program := "ytonmakmnencihaa", sum := "9e0e517aaeca3b1527f69fa8761b420e4373e6bd23b0365849caf03da1acbaab", func := "mezzotint/mezzotintlaw03.MatWhole", spec := "matWhole", apart := false }
def MatWholeSaid : Prop := matWholeRow.holds Try.pinned (OpenSpec.ofChange matWholeSpec)

/-- ITS FALSE NEIGHBOUR: 'it returns false'. Refute it at one input. -/
def matWholeWrong : ChangeSpec := { name := "matWhole", fn := fun _ => fun
  | [d1, d2, d3, d4, d5] => { results := [.lit (.bool false)], args := [d1, d2, d3, d4, d5] }
  | _ => none }
def MatWholeWrongFalsely : Prop := matWholeRow.holds Try.pinned (OpenSpec.ofChange matWholeWrong)

/- THE SECOND FORM. 'bulk': how many values and letters a reading holds, each counted each time it is reached (what is shared counts as often as it is met; a slice's spare places count too). A statement '..UptoSaid' is the law's where the arguments, and the package variables that the reading takes, are together of bulk at most 1048576: NARROWER than '..Said'. Prove '..Said' where nothing that the law and all that it calls make is longer than what came in: it says more and counts as full. Else prove '..UptoSaid'. A law counts once. -/
mutual
def uptoBulk {H : Type} : DataW H → Nat
  | .lit (.string bytes) => bytes.length + 1
  | .lit _ => 1
  | .nil => 1
  | .ptr d => uptoBulk d + 1
  | .slice elems spare => uptoBulkAll elems + uptoBulkAll spare + 1
  | .agg parts => uptoBulkAll parts + 1
  | .iface _ d => uptoBulk d + 1
  | .map entries => uptoBulkEntries entries + 1
  | .held _ => 1
def uptoBulkAll {H : Type} : List (DataW H) → Nat
  | [] => 0
  | d :: r => uptoBulk d + uptoBulkAll r
def uptoBulkEntries {H : Type} : List (Lit × DataW H) → Nat
  | [] => 0
  | x :: r => uptoBulkEntry x + uptoBulkEntries r
def uptoBulkEntry {H : Type} : Lit × DataW H → Nat
  | (.string bytes, d) => bytes.length + uptoBulk d + 1
  | (_, d) => uptoBulk d + 1
 end
def uptoSmall : (H : Type) → List (DataW H) → Bool := fun _ ds => decide (uptoBulkAll ds ≤ 1048576)
def OpenSpec.upto (s : _root_.Go.ChangeSpec) : _root_.Go.OpenSpec := { _root_.Go.OpenSpec.ofChange s with cond := some uptoSmall }

/-- 'mezzotintlaw03.MatLeads', WHERE WHAT IT READS IS OF BULK AT MOST 1048576: true; the input reads as it did. -/
def matLeadsUptoRow : OpenClaim := { program := "ytonmakmnencihaa", sum := "9e0e517aaeca3b1527f69fa8761b420e4373e6bd23b0365849caf03da1acbaab", func := "mezzotint/mezzotintlaw03.MatLeads", spec := "matLeads", apart := false, narrowed := true }
def MatLeadsUptoSaid : Prop := matLeadsUptoRow.holds Try.pinned (OpenSpec.upto matLeadsSpec)

/-- 'mezzotintlaw03.MatMoves', WHERE WHAT IT READS IS OF BULK AT MOST 1048576: true; the input reads as it did. -/
def matMovesUptoRow : OpenClaim := { program := "ytonmakmnencihaa", sum := "9e0e517aaeca3b1527f69fa8761b420e4373e6bd23b0365849caf03da1acbaab", func := "mezzotint/mezzotintlaw03.MatMoves", spec := "matMoves", apart := false, narrowed := true }
def MatMovesUptoSaid : Prop := matMovesUptoRow.holds Try.pinned (OpenSpec.upto matMovesSpec)

/-- 'mezzotintlaw03.MatJoins', WHERE WHAT IT READS IS OF BULK AT MOST 1048576: true; the input reads as it did. -/
def matJoinsUptoRow : OpenClaim := { program := "ytonmakmnencihaa", sum := "9e0e517aaeca3b1527f69fa8761b420e4373e6bd23b0365849caf03da1acbaab", func := "mezzotint/mezzotintlaw03.MatJoins", spec := "matJoins", apart := false, narrowed := true }
def MatJoinsUptoSaid : Prop := matJoinsUptoRow.holds Try.pinned (OpenSpec.upto matJoinsSpec)

/-- 'mezzotintlaw03.MatBacks', WHERE WHAT IT READS IS OF BULK AT MOST 1048576: true; the input reads as it did. -/
def matBacksUptoRow : OpenClaim := { program := "ytonmakmnencihaa", sum := "9e0e517aaeca3b1527f69fa8761b420e4373e6bd23b0365849caf03da1acbaab", func := "mezzotint/mezzotintlaw03.MatBacks", spec := "matBacks", apart := false, narrowed := true }
def MatBacksUptoSaid : Prop := matBacksUptoRow.holds Try.pinned (OpenSpec.upto matBacksSpec)

/-- 'mezzotintlaw03.MatWhole', WHERE WHAT IT READS IS OF BULK AT MOST 1048576: true; the input reads as it did. -/
def matWholeUptoRow : OpenClaim := { program := "ytonmakmnencihaa", sum := "9e0e517aaeca3b1527f69fa8761b420e4373e6bd23b0365849caf03da1acbaab", func := "mezzotint/mezzotintlaw03.MatWhole", spec := "matWhole", apart := false, narrowed := true }
def MatWholeUptoSaid : Prop := matWholeUptoRow.holds Try.pinned (OpenSpec.upto matWholeSpec)

end Rows
end Go.Proofs.Ytonmakmnencihaa
