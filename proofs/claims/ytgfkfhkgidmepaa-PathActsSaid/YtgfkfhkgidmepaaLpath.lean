/- That a path answers at all, as the laws of layer 13 ask. No condition. -/
import Derived.Test.YtgfkfhkgidmepaaPathW7
namespace Go.Proofs.Ytgfkfhkgidmepaa.Path
open Go.ChangeShapes Go.WideShapes Go.ChangeAt Go.RowKit
open Go.Proofs.Ytgfkfhkgidmepaa.FixM (fits)
open Go.Proofs.Ytgfkfhkgidmepaa.PathM
set_option linter.unusedVariables false
set_option linter.unusedSimpArgs false

theorem answers_calls (w : World) : Calls Try.prog 9 #[] w fun E w' => E = .returned (.bool true) ∧ Up w w' := by
  have M := Lib.hid (show St.move ⟨5, [], Z, Z⟩ (1, 0) = (⟨5, [⟨1, (1, 0), Z, Z⟩], (1, 0), (1, 0)⟩, 0) from rfl)
  have L := Lib.hid (show (St.line ⟨5, [⟨1, (1, 0), Z, Z⟩], (1, 0), (1, 0)⟩ (0, 1)).2 = 0 from rfl)
  go_enter Try.func9, Try.ntmps9
  go_wp2_with (first
    | (go_at_call 20; ((with_reducible refine (new_calls 5 _).mono ?_); rintro E w1 ⟨rfl, hu1, hp1⟩; have HP1 := Lib.hid hp1; have hz1 := hp1.row.lt; clear hp1))
    | (go_at_call 10; ((with_reducible refine (move_other w.heap.size (.slice none 0 0) ⟨5, [], Z, Z⟩ 1 0 _ HP1.out (by decide) (by decide)).mono ?_); rintro E w2 ⟨rfl, v2, hp2, hc2, ho2⟩; rw [M.out] at hp2 ⊢; have HP2 := Lib.hid hp2; have HU2 := Lib.hid (show Chg [w.heap.size] w1 w2 from hc2); have HO2 := Lib.hid ho2; clear hp2 hc2 ho2))
    | (go_at_call 14; ((with_reducible refine (segments_calls w.heap.size v2 _ _ HP2.out).mono ?_); rintro E w3 ⟨v3, rfl, h1, h2, h3⟩; obtain ⟨g3, c3, hv3, _, _⟩ := World.ownsRow.form h1 (by decide); subst hv3; have HU3 := Lib.hid h2; clear h1 h2 h3))
    | (go_at_call 11; ((with_reducible refine (line_calls w.heap.size v2 _ 0 1 _ (HP2.out.up HU3.out) (by decide)).mono ?_); rintro E w4 ⟨rfl, hleft⟩; rw [L.out]; have HL4 := Lib.hid hleft; clear hleft)))
  go_ret
  refine ⟨rfl, ?_⟩
  obtain ⟨v', -, hc4, -⟩ := HL4.out
  have h1 : Chg [] w w2 := (Chg.of_up hu1).call HU2.out (fun x hx => Or.inr (by simp at hx; omega))
  have h2 : Chg [] w w3 := h1.upc HU3.out
  exact (h2.call hc4 (fun x hx => Or.inr (by
    rcases List.mem_cons.1 hx with e | e
    · omega
    · rcases HO2.out x (own_of e) with e2 | e2
      · cases e2
      · omega))).up

end Go.Proofs.Ytgfkfhkgidmepaa.Path
