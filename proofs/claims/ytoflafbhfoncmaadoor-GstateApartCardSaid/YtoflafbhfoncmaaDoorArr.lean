/- Arrays by value, in a walk: the element at an index. No program in sight; no condition. -/
import Derived.WalkKit
namespace Go.Proofs.YtoflafbhfoncmaaDoor
open Go Go.RowKit
theorem run_index_agg1 {P : Program} (w : World) (t e : TypeId) (n : Nat) (cs : Array Value) (k : IntKind) (i : Nat) (v : Value) (ht : P.underlying t = some (.array n e))
    (hag : ∀ w, (isAgg e).run P w = .ok false w) (hi : i < n) (hv : cs[i]? = some v) (hs : (P.info? e).map (·.size) = some 1) :
    (Instr.index t (.agg cs) (.int k (i : Int))).run P w = .ok v w := by
  obtain ⟨inf, hinf, hsz⟩ := Option.map_eq_some_iff.1 hs
  simp [Instr.index, run_underlying ht, asIntOf, part, sizeOf, typeInfo, hinf, hsz, hag, hi, hv, go_sem]
end Go.Proofs.YtoflafbhfoncmaaDoor
