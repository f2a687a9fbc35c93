/-
  No cell of these rows narrows 'for every input' (looked for: loops, veiled, ifaces, maps, wideKeys, modest, calm, conditions, laid).
  DERIVED. THE GIVEN ROWS OF THIS SEAT. 4 by the template 'for every input the law returns true; each argument reads behind the call as it read before'; 0 by the template 'total and deterministic' (their statements: YtgfkfhkgidmepaaTotals.lean).
  GIVEN WITH THE SEED: the statements are not yours to turn. If you find one false, say at which input.
  Laid BY PROGRAM, IN A SANDBOX (cutbox-rows.mjs): the forced cells as the released guide's own fill.sh prints them over the translation e656917b541e78d2… (all of the seat's roots in one cut). By AI agents, Wed Nov 11 2026. No macro, syntax, notation, axiom, sorry.
-/
import Derived.Test.YtgfkfhkgidmepaaChecked
import GoSem.Claim
import GoSem.ClaimJoined
import GoSem.ClaimMapViews
import Derived.JoinedTies
import Derived.KernelRfl
namespace Go.Proofs.Ytgfkfhkgidmepaa
/- THE CELL 'sum', in the pinned program and in every row, IS THE sha256 OF THE DUMP (.gsa) THAT YtgfkfhkgidmepaaProg.lean LOADS. Nothing in Lean hashes anything: it is a label: what it is worth is what the hold of that sum in a sandbox is worth. -/
noncomputable def Try.pinned : Pinned := { name := "ytgfkfhkgidmepaa", sum := "e656917b541e78d253166f0cafde320339d107487c6bb26bebcfa4825fb0f817", checked := Try.checked }
namespace Rows
def none {H : Type} : Left H := { results := [], args := [] }

/-- 'mezzotintlaw13.PathNone': WHATEVER THE INPUT: true; the input reads as it did. -/
def pathNoneSpec : ChangeSpec := { name := "pathNone", fn := fun _ => fun
  | [d] => { results := [.lit (.bool true)], args := [d] }
  | _ => none }
def pathNoneRow : OpenClaim := { program := "ytgfkfhkgidmepaa", sum := "e656917b541e78d253166f0cafde320339d107487c6bb26bebcfa4825fb0f817", func := "mezzotint/mezzotintlaw13.PathNone", spec := "pathNone", unfollowed := true, recurses := true, apart := false }
def PathNoneSaid : Prop := pathNoneRow.holds Try.pinned (OpenSpec.ofChange pathNoneSpec)

/-- ITS FALSE NEIGHBOUR: 'it returns false'. Refute it at one input. -/
def pathNoneWrong : ChangeSpec := { name := "pathNone", fn := fun _ => fun
  | [d] => { results := [.lit (.bool false)], args := [d] }
  | _ => none }
def PathNoneWrongFalsely : Prop := pathNoneRow.holds Try.pinned (OpenSpec.ofChange pathNoneWrong)

/-- 'mezzotintlaw13.PathBox': WHATEVER THE INPUT: true; the input reads as it did. -/
def pathBoxSpec : ChangeSpec := { name := "pathBox", fn := fun _ => fun
  | [d1, d2, d3] => { results := [.lit (.bool true)], args := [d1, d2, d3] }
  | _ => none }
def pathBoxRow : OpenClaim := { program := "ytgfkfhkgidmepaa", sum := "e656917b541e78d253166f0cafde320339d107487c6bb26bebcfa4825fb0f817", func := "mezzotint/mezzotintlaw13.PathBox", spec := "pathBox", unfollowed := true, recurses := true, apart := false }
def PathBoxSaid : Prop := pathBoxRow.holds Try.pinned (OpenSpec.ofChange pathBoxSpec)

/-- ITS FALSE NEIGHBOUR: 'it returns false'. Refute it at one input. -/
def pathBoxWrong : ChangeSpec := { name := "pathBox", fn := fun _ => fun
  | [d1, d2, d3] => { results := [.lit (.bool false)], args := [d1, d2, d3] }
  | _ => none }
def PathBoxWrongFalsely : Prop := pathBoxRow.holds Try.pinned (OpenSpec.ofChange pathBoxWrong)

/-- 'mezzotintlaw13.PathSound': WHATEVER THE INPUT: true; the input reads as it did. -/
def pathSoundSpec : ChangeSpec := { name := "pathSound", fn := fun _ => fun
  | [d] => { results := [.lit (.bool true)], args := [d] }
  | _ => none }
def pathSoundRow : OpenClaim := { program := "ytgfkfhkgidmepaa", sum := "e656917b541e78d253166f0cafde320339d107487c6bb26bebcfa4825fb0f817", func := "mezzotint/mezzotintlaw13.PathSound", spec := "pathSound", unfollowed := true, recurses := true, apart := false }
def PathSoundSaid : Prop := pathSoundRow.holds Try.pinned (OpenSpec.ofChange pathSoundSpec)

/-- ITS FALSE NEIGHBOUR: 'it returns false'. Refute it at one input. -/
def pathSoundWrong : ChangeSpec := { name := "pathSound", fn := fun _ => fun
  | [d] => { results := [.lit (.bool false)], args := [d] }
  | _ => none }
def PathSoundWrongFalsely : Prop := pathSoundRow.holds Try.pinned (OpenSpec.ofChange pathSoundWrong)

/-- 'mezzotintlaw13.PathActs': WHATEVER THE INPUT: true; the input reads as it did. -/
def pathActsSpec : ChangeSpec := { name := "pathActs", fn := fun _ => fun
  | [d1, d2] => { results := [.lit (.bool true)], args := [d1, d2] }
  | _ => none }
def pathActsRow : OpenClaim := { program := "ytgfkfhkgidmepaa", sum := "e656917b541e78d253166f0cafde320339d107487c6bb26bebcfa4825fb0f817", func := "mezzotint/mezzotintlaw13.PathActs", spec := "pathActs", unfollowed := true, recurses := true, apart := false }
def PathActsSaid : Prop := pathActsRow.holds Try.pinned (OpenSpec.ofChange pathActsSpec)

/-- ITS FALSE NEIGHBOUR: 'it returns false'. Refute it at one input. -/
def pathActsWrong : ChangeSpec := { name := "pathActs", fn := fun _ => fun
  | [d1, d2] => { results := [.lit (.bool false)], args := [d1, d2] }
  | _ => none }
def PathActsWrongFalsely : Prop := pathActsRow.holds Try.pinned (OpenSpec.ofChange pathActsWrong)

/- THE SECOND FORM. 'bulk': how many values and letters a reading holds, each counted each time it is reached (what is shared counts as often as it is met; a slice's spare places count too). A statement '..UptoSaid' is the law's where the arguments, and the package variables that the reading takes, are together of bulk at most 1048576: NARROWER than '..Said'. Prove '..Said' where nothing that the law and all that it calls make is longer than what came in: it says more and counts as full. Else prove '..UptoSaid'. A law counts once. -/
mutual
def uptoBulk {H : Type} : DataW H → Nat
  | .lit (.string bytes) => bytes.length + 1
  | .lit _ => 1
  | .nil => 1
  | .ptr d => uptoBulk d + 1
  | .slice elems spare => uptoBulkAll elems + uptoBulkAll spare + 1
  | .agg parts => uptoBulkAll parts + 1
  | .iface _ d => uptoBulk d + 1
  | .map entries => uptoBulkEntries entries + 1
  | .held _ => 1
def uptoBulkAll {H : Type} : List (DataW H) → Nat
  | [] => 0
  | d :: r => uptoBulk d + uptoBulkAll r
def uptoBulkEntries {H : Type} : List (Lit × DataW H) → Nat
  | [] => 0
  | x :: r => uptoBulkEntry x + uptoBulkEntries r
def uptoBulkEntry {H : Type} : Lit × DataW H → Nat
  | (.string bytes, d) => bytes.length + uptoBulk d + 1
  | (_, d) => uptoBulk d + 1
 end
def uptoSmall : (H : Type) → List (DataW H) → Bool := fun _ ds => decide (uptoBulkAll ds ≤ 1048576)
def OpenSpec.upto (s : _root_.Go.ChangeSpec) : _root_.Go.OpenSpec := { _root_.Go.OpenSpec.ofChange s with cond := some uptoSmall }

/-- 'mezzotintlaw13.PathNone', WHERE WHAT IT READS IS OF BULK AT MOST 1048576: true; the input reads as it did. -/
def pathNoneUptoRow : OpenClaim := { program := "ytgfkfhkgidmepaa", sum := "e656917b541e78d253166f0cafde320339d107487c6bb26bebcfa4825fb0f817", func := "mezzotint/mezzotintlaw13.PathNone", spec := "pathNone", unfollowed := true, recurses := true, apart := false, narrowed := true }
def PathNoneUptoSaid : Prop := pathNoneUptoRow.holds Try.pinned (OpenSpec.upto pathNoneSpec)

/-- 'mezzotintlaw13.PathBox', WHERE WHAT IT READS IS OF BULK AT MOST 1048576: true; the input reads as it did. -/
def pathBoxUptoRow : OpenClaim := { program := "ytgfkfhkgidmepaa", sum := "e656917b541e78d253166f0cafde320339d107487c6bb26bebcfa4825fb0f817", func := "mezzotint/mezzotintlaw13.PathBox", spec := "pathBox", unfollowed := true, recurses := true, apart := false, narrowed := true }
def PathBoxUptoSaid : Prop := pathBoxUptoRow.holds Try.pinned (OpenSpec.upto pathBoxSpec)

/-- 'mezzotintlaw13.PathSound', WHERE WHAT IT READS IS OF BULK AT MOST 1048576: true; the input reads as it did. -/
def pathSoundUptoRow : OpenClaim := { program := "ytgfkfhkgidmepaa", sum := "e656917b541e78d253166f0cafde320339d107487c6bb26bebcfa4825fb0f817", func := "mezzotint/mezzotintlaw13.PathSound", spec := "pathSound", unfollowed := true, recurses := true, apart := false, narrowed := true }
def PathSoundUptoSaid : Prop := pathSoundUptoRow.holds Try.pinned (OpenSpec.upto pathSoundSpec)

/-- 'mezzotintlaw13.PathActs', WHERE WHAT IT READS IS OF BULK AT MOST 1048576: true; the input reads as it did. -/
def pathActsUptoRow : OpenClaim := { program := "ytgfkfhkgidmepaa", sum := "e656917b541e78d253166f0cafde320339d107487c6bb26bebcfa4825fb0f817", func := "mezzotint/mezzotintlaw13.PathActs", spec := "pathActs", unfollowed := true, recurses := true, apart := false, narrowed := true }
def PathActsUptoSaid : Prop := pathActsUptoRow.holds Try.pinned (OpenSpec.upto pathActsSpec)

end Rows
end Go.Proofs.Ytgfkfhkgidmepaa
