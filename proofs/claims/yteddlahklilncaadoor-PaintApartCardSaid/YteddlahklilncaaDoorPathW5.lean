/- Line, Curve, Close, and what a nil path returns. -/
import Derived.Test.YteddlahklilncaaDoorPathW4
namespace Go.Proofs.YteddlahklilncaaDoor.Path
open Go.ChangeShapes Go.WideShapes Go.ChangeAt Go.RowKit
open Go.Proofs.YteddlahklilncaaDoor.FixM (fits)
open Go.Proofs.YteddlahklilncaaDoor.PathM
set_option linter.unusedVariables false
set_option linter.unusedSimpArgs false

theorem pts1 {w : World} {g : Nat} {x y : Int} (h : Row w g #[.int .i64 x, .int .i64 y]) : Pts w g 0 [(x, y)] := fun i p hp => by
  match i, hp with
  | 0, hp =>
    simp at hp
    subst hp
    exact ⟨h.cell 0 rfl, h.cell 1 rfl⟩
theorem pts3 {w : World} {g : Nat} {a b c d e f : Int} (h : Row w g #[.int .i64 a, .int .i64 b, .int .i64 c, .int .i64 d, .int .i64 e, .int .i64 f]) : Pts w g 0 [(a, b), (c, d), (e, f)] := fun i p hp => by
  match i, hp with
  | 0, hp =>
    simp at hp
    subst hp
    exact ⟨h.cell 0 rfl, h.cell 1 rfl⟩
  | 1, hp =>
    simp at hp
    subst hp
    exact ⟨h.cell 2 rfl, h.cell 3 rfl⟩
  | 2, hp =>
    simp at hp
    subst hp
    exact ⟨h.cell 4 rfl, h.cell 5 rfl⟩
theorem fits_calls2 (l : List Pt) (m g c : Nat) (cs : Array Value) (w : World) (hm : l.length = m) (hl : m ≤ 1000000000) (h : Row w g cs) (hp : Row w g cs → Pts w g 0 l) :
    Calls Tryd.prog 50 #[.slice (some ⟨g, 0, none⟩) m c] w fun e w' => e = .returned (.bool (l.all fitsP)) ∧ Up w w' := by
  subst hm
  exact fits_calls l g 0 c w hl (hp h) h.lt

end Go.Proofs.YteddlahklilncaaDoor.Path
