/- A list of segments is copied into a new slice. -/
import Derived.Test.YtgfkfhkgidmepaaPathB
import Derived.Test.YtgfkfhkgidmepaaPathR
import Derived.Test.YtgfkfhkgidmepaaPathS
import Derived.Test.YtgfkfhkgidmepaaPathM3
import Derived.Test.YtgfkfhkgidmepaaLpath
namespace Go.Proofs.Ytgfkfhkgidmepaa.Path
open Go.ChangeShapes Go.WideShapes Go.ChangeAt Go.RowKit
open Go.Proofs.Ytgfkfhkgidmepaa.PathM
set_option linter.unusedVariables false
set_option linter.unusedSimpArgs false

theorem SegAt.cells {w : World} {b o : Nat} {l : List Seg} (h : SegAt w b o l) : ∀ j u, (segCells l)[j]? = some u → w.cell? ⟨b, o + j, none⟩ = some u := fun j u hu => by
  have hj : j < l.length * 7 := by
    have := (List.getElem?_eq_some_iff.1 hu).1
    rwa [segCells_length] at this
  obtain ⟨s, hs⟩ : ∃ s, l[j / 7]? = some s := ⟨_, List.getElem?_eq_getElem (by omega)⟩
  have e := segCells_at l (j / 7) s (j % 7) hs (by omega)
  rw [show j / 7 * 7 + j % 7 = j by omega, hu] at e
  have := h (j / 7) s (j % 7) u hs e.symm
  rwa [show o + j / 7 * 7 + j % 7 = o + j by omega] at this

end Go.Proofs.Ytgfkfhkgidmepaa.Path
