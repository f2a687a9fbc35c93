/- That the saves answer at all, as the laws of layer 6 ask. -/
import Derived.Test.YtjijbkehbeppjaaSaveW6
import Derived.Test.YtjijbkehbeppjaaObj
namespace Go.Proofs.Ytjijbkehbeppjaa.Save
open Go.ChangeShapes Go.WideShapes Go.ChangeAt Go.RowKit
open Go.Proofs.Ytjijbkehbeppjaa.SaveM
set_option linter.unusedVariables false
set_option linter.unusedSimpArgs false

theorem answers_calls (w : World) : Calls Try.prog 10 #[] w fun E w' => E = .returned (.bool true) ∧ Up w w' := by
  go_enter Try.func10, Try.ntmps10
  go_wp2_with (first
    | (go_at_call 7; ((with_reducible refine (storeNew_calls 50 (by decide) (by decide) _).mono ?_); rintro E w1 ⟨rfl, hu1, hs1⟩; have HS1 := Lib.hid hs1; have hz1 := hs1.row.lt; clear hs1))
    | (go_at_call 8; ((with_reducible refine (savesNew_calls w.heap.size (.slice none 0 0) 50 0 _ HS1.out).mono ?_); rintro E w2 ⟨rfl, hu2, hv2⟩; have HV2 := Lib.hid hv2; have hz2 := hv2.row.lt; clear hv2))
    | (go_at_call 9; ((with_reducible refine (save_calls w1.heap.size w.heap.size (.slice none 0 0) (.slice none 0 0) [] 0 50 0 _ HV2.out (by decide) (by decide) (by decide) (by decide)).mono ?_); rintro E w3 ⟨rfl, vl3, vm3, hv3, hc3, -, -⟩; rw [show (0 : Int) + 1 = 1 from rfl] at hv3 ⊢; have HV3 := Lib.hid (show SavesIs w3 w1.heap.size w.heap.size vl3 vm3 [(1, 1)] 1 50 1 from by simpa using hv3); have HU3 := Lib.hid (((Chg.of_up (S := []) (Up.call hu1 hu2)).call hc3 (fun x hx => Or.inr (by simp [own, Value.ownBlock] at hx; omega))).up); clear hv3 hc3))
    | (go_at_call 12; ((with_reducible refine (depth_calls w1.heap.size w.heap.size vl3 vm3 [(1, 1)] 1 50 1 _ (HV3.out.up (by (repeat' (first | (with_reducible exact Up.refl _) | (with_reducible assumption) | (with_reducible refine Up.alloc ?_ _) | (with_reducible refine Up.drew ?_) | (with_reducible refine Up.drewN ?_ _) | (with_reducible refine Up.setCell ?_ ?_ _) | (with_reducible refine Up.call ?_ (by with_reducible assumption)) | go_size))))).mono ?_); rintro E w4 ⟨rfl, rfl⟩))
    | (go_at_call 13; ((with_reducible refine (alive_calls w1.heap.size w.heap.size vl3 vm3 [(1, 1)] 1 50 1 10 false 0 1 ⟨#[]⟩ 0 0 0 _ (HV3.out.up (by (repeat' (first | (with_reducible exact Up.refl _) | (with_reducible assumption) | (with_reducible refine Up.alloc ?_ _) | (with_reducible refine Up.drew ?_) | (with_reducible refine Up.drewN ?_ _) | (with_reducible refine Up.setCell ?_ ?_ _) | (with_reducible refine Up.call ?_ (by with_reducible assumption)) | go_size)))) 0 (by decide)).mono ?_); rintro E w5 ⟨rfl, hu5⟩)))
  go_ret
  exact ⟨rfl, by have h3 := HU3.out; (repeat' (first | (with_reducible exact Up.refl _) | (with_reducible assumption) | (with_reducible refine Up.alloc ?_ _) | (with_reducible refine Up.drew ?_) | (with_reducible refine Up.drewN ?_ _) | (with_reducible refine Up.setCell ?_ ?_ _) | (with_reducible refine Up.call ?_ (by with_reducible assumption)) | go_size))⟩

end Go.Proofs.Ytjijbkehbeppjaa.Save
