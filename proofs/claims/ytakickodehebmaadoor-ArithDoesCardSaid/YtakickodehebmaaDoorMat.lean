/- What the functions of package mat return and leave behind, each over all numbers. No condition. -/
import Derived.Test.YtakickodehebmaaDoorFix2
import Derived.Test.YtakickodehebmaaDoorFixS
import Derived.Test.YtakickodehebmaaDoorSlc
import Derived.Test.YtakickodehebmaaDoorMatM
import Derived.Deep.RegionWith
import Derived.Deep.RegionHeld3
namespace Go.Proofs.YtakickodehebmaaDoor.Mat
open Go.ChangeShapes Go.WideShapes Go.ChangeAt Go.RowKit
open Go.Proofs.YtakickodehebmaaDoor.FixM (fits mul div sub add sum)
open Go.Proofs.YtakickodehebmaaDoor.MatM
set_option linter.unusedVariables false
set_option linter.unusedSimpArgs false

theorem info3 : (Tryd.prog.info? 3).map (fun i => (i.zero, i.size, i.bytes)) = some (some (.int .i64 0), 1, 8) := by kernel_rfl

theorem fits_wf {n : Int} (h : fits n = true) : (Lit.int .i64 n).wf = true := by
  obtain ⟨h1, h2⟩ := FixM.fits_iff.1 h
  exact WalkArith.wf_i64 (by omega)

theorem ints_lit' (w : World) {b : Nat} {m : Int} (e : TypeId) (hb : b = w.heap.size) (h : (Lit.int .i64 m).wf = true) : Ints .i64 (w.alloc (.cells #[.int .i64 m] e)) (.slice (some ⟨b, 0, none⟩) 1 1) [m] := by
  subst hb
  exact ints_lit w .i64 [m] e (by simp) (by simpa using h)

end Go.Proofs.YtakickodehebmaaDoor.Mat
