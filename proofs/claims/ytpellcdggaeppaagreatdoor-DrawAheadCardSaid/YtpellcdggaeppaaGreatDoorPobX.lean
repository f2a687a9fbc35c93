/- Package pobj, of a name: named, bare, sound, Sound, write, Print; the law's helpers. No condition. -/
import Derived.Test.YtpellcdggaeppaaGreatDoorPobW
import Derived.Test.YtpellcdggaeppaaGreatDoorOwn
namespace Go.Proofs.YtpellcdggaeppaaGreatDoor.Pob
open Go.RowKit Go.Shelf Go.ChangeShapes
set_option linter.unusedVariables false
set_option linter.unusedSimpArgs false

theorem byteCells_get (l : List UInt8) (j : Nat) (hj : j < l.length) : (Lib.byteCells l)[j]? = some (.int .u8 ((l.getD j 0).toNat : Int)) := by simp [Lib.byteCells, hj]
theorem idx_zero (l : List UInt8) : decide (Lib.indexByte l 0 < 0) = !l.contains 0 := by
  rw [Lib.contains_iff_indexByte]
  by_cases h : 0 ≤ Lib.indexByte l 0
  · simp [h]
  · simp [h]; omega

set_option maxRecDepth 8000 in
theorem named_calls (l : List UInt8) (v : Bool) (hv : namedB l = v) (w : World) :
    Calls Tryz.prog 163 #[.string ⟨l.toArray⟩] w fun e w' => e = .returned (.bool v) ∧ w = w' := by
  obtain ⟨x, hx, hxd⟩ : ∃ x : Int, Lib.indexByte (⟨l.toArray⟩ : ByteArray).data.toList ((0 : Int)).toNat.toUInt8 = x ∧ decide (x < 0) = !l.contains 0 := ⟨_, rfl, idx_zero l⟩
  have HX := Lib.hid hx
  clear hx
  by_cases h1 : l = []
  · subst h1
    obtain rfl : v = false := by rw [← hv]; rfl
    clear hv hxd
    go_enter Tryz.func163, Tryz.ntmps163
    go_wp2_with fail
    go_ret
    exact ⟨rfl, rfl⟩
  · have h2 : l.isEmpty = false := by simpa using h1
    by_cases h3 : l.length ≤ 127
    · have d3 : decide ((l.length : Int) ≤ 127) = true := decide_eq_true (by omega)
      have hxv : decide (x < 0) = v := by rw [← hv, hxd]; simp only [namedB, h2, h3, decide_true, Bool.not_false, Bool.true_and]
      clear hv hxd
      go_enter Tryz.func163, Tryz.ntmps163
      go_wp2_with (go_at_call 168; refine (Tryz.strings_IndexByte _ _ _).mono ?_; rw [HX.out]; rintro e w' ⟨rfl, hw⟩; obtain rfl := hw.symm; clear hw)
      go_ret
      exact ⟨rfl, rfl⟩
    · have d3 : decide ((l.length : Int) ≤ 127) = false := decide_eq_false (by omega)
      obtain rfl : v = false := by rw [← hv]; simp only [namedB, h3, decide_false, Bool.and_false, Bool.false_and]
      clear hv hxd
      go_enter Tryz.func163, Tryz.ntmps163
      go_wp2_with fail
      go_ret
      exact ⟨rfl, rfl⟩

/-- a name as an object -/
abbrev nameO (l : List UInt8) : Value := .agg #[.int .i64 4, .int .i64 0, .string ⟨l.toArray⟩, .slice none 0 0, .slice none 0 0, .slice none 0 0]

set_option maxRecDepth 8000 in
theorem bare_calls (l : List UInt8) (w : World) :
    Calls Tryz.prog 162 #[nameO l, .bool false, .bool true, .bool false, .bool false, .bool false] w fun e w' => e = .returned (.bool true) ∧ Up w w' := by
  go_enter Tryz.func162, Tryz.ntmps162
  go_wp2_with fail
  go_ret
  exact ⟨rfl, by (repeat' (first | (with_reducible exact Up.refl _) | (with_reducible assumption) | (with_reducible refine Up.alloc ?_ _) | (with_reducible refine Up.drew ?_) | (with_reducible refine Up.drewN ?_ _) | (with_reducible refine Up.setCell ?_ ?_ _) | (with_reducible refine Up.call ?_ (by with_reducible assumption)) | go_size))⟩

set_option maxRecDepth 8000 in
set_option maxHeartbeats 1000000 in
theorem sound_calls (l : List UInt8) (v : Bool) (hv : namedB l = v) (w : World) :
    Calls Tryz.prog 148 #[nameO l, .int .i64 32] w fun e w' => e = .returned (.bool v) ∧ Up w w' := by
  have HV := Lib.hid hv
  clear hv
  go_enter Tryz.func148, Tryz.ntmps148
  go_wp2_with (first
    | (go_at_call 162; ((with_reducible refine (bare_calls l _).mono ?_); rintro e w1 ⟨rfl, hu1⟩; have k_w1 := hu1.cells.1; have f_w1 := hu1.cells.2; have z_w1 := hu1.size; (try simp at z_w1); have l0_w1 : w.heap.size < w1.heap.size := (by omega)))
    | (go_at_call 163; ((with_reducible refine (named_calls l v HV.out _).mono ?_); rintro e w2 ⟨rfl, rfl⟩)))
  go_ret
  exact ⟨rfl, by (repeat' (first | (with_reducible exact Up.refl _) | (with_reducible assumption) | (with_reducible refine Up.alloc ?_ _) | (with_reducible refine Up.drew ?_) | (with_reducible refine Up.drewN ?_ _) | (with_reducible refine Up.setCell ?_ ?_ _) | (with_reducible refine Up.call ?_ (by with_reducible assumption)) | go_size))⟩

set_option maxRecDepth 8000 in
theorem psound_calls (l : List UInt8) (v : Bool) (hv : namedB l = v) (w : World) :
    Calls Tryz.prog 121 #[nameO l] w fun e w' => e = .returned (.bool v) ∧ Up w w' := by
  go_enter Tryz.func121, Tryz.ntmps121
  go_wp2_with (go_at_call 148; ((with_reducible refine (sound_calls l v hv _).mono ?_); rintro e w1 ⟨rfl, hu1⟩))
  go_ret
  exact ⟨rfl, by (repeat' (first | (with_reducible exact Up.refl _) | (with_reducible assumption) | (with_reducible refine Up.alloc ?_ _) | (with_reducible refine Up.drew ?_) | (with_reducible refine Up.drewN ?_ _) | (with_reducible refine Up.setCell ?_ ?_ _) | (with_reducible refine Up.call ?_ (by with_reducible assumption)) | go_size))⟩

set_option maxRecDepth 8000 in
set_option maxHeartbeats 1000000 in
theorem write_name (B b : Nat) (bs : List UInt8) (l : List UInt8) (w : World) (h : IsBuf B b (Lib.byteCells bs) w) (hBw : B ≤ w.heap.size) (hlim : bs.length + 3 * l.length + 1 ≤ 140737488355328) :
    Calls Tryz.prog 122 #[.pointer (some ⟨b, 0, none⟩), nameO l] w fun e w' => e = .returned (.tuple #[]) ∧ IsBuf B b (Lib.byteCells (bs ++ 47 :: enc l)) w' ∧ Below B w w' := by
  have H := Lib.hid h
  clear h
  go_enter Tryz.func122, Tryz.ntmps122
  go_wp2_with (first
    | (go_at_call 151; ((with_reducible refine (name_calls B b bs l _ (Lib.IsBuffer.old H.out (by (repeat' (first | (with_reducible exact Up.refl _) | (with_reducible assumption) | (with_reducible refine Up.alloc ?_ _) | (with_reducible refine Up.drew ?_) | (with_reducible refine Up.drewN ?_ _) | (with_reducible refine Up.setCell ?_ ?_ _) | (with_reducible refine Up.call ?_ (by with_reducible assumption)) | go_size)))) (by simp; omega) hlim).mono ?_); rintro e w1 ⟨rfl, hI, hb, hk⟩; have HI := Lib.hid hI; clear hI)))
  go_returns
  exact ⟨rfl, HI.out, Below.trans ((show Up w _ by (repeat' (first | (with_reducible exact Up.refl _) | (with_reducible assumption) | (with_reducible refine Up.alloc ?_ _) | (with_reducible refine Up.drew ?_) | (with_reducible refine Up.drewN ?_ _) | (with_reducible refine Up.setCell ?_ ?_ _) | (with_reducible refine Up.call ?_ (by with_reducible assumption)) | go_size))).mono hBw) hb⟩

/-- a slice of bytes that is there -/
structure BytesAt (w : World) (v : Value) (l : List UInt8) : Prop where
  form : ∃ g cap, v = .slice (some ⟨g, 0, none⟩) l.length cap ∧ l.length ≤ cap ∧ cap ≤ maxLen ∧ g < w.heap.size ∧ ∀ j, j < l.length → w.cell? ⟨g, j, none⟩ = some (.int .u8 ((l.getD j 0).toNat : Int))
theorem BytesAt.up {w w1 : World} {v : Value} {l : List UInt8} (h : BytesAt w v l) (hu : Up w w1) : BytesAt w1 v l := by
  obtain ⟨g, cap, e, h1, h2, h3, h4⟩ := h.form
  exact ⟨g, cap, e, h1, h2, Nat.lt_of_lt_of_le h3 hu.size, fun j hj => (hu.cells.1 g j h3).trans (h4 j hj)⟩

set_option maxRecDepth 8000 in
set_option maxHeartbeats 1000000 in
theorem print_ok (l : List UInt8) (hv : namedB l = true) (w : World) :
    Calls Tryz.prog 83 #[nameO l] w fun e w' => ∃ v, e = .returned (.tuple #[v, .int .i64 0]) ∧ BytesAt w' v (47 :: enc l) ∧ Up w w' := by
  have hl : l.length ≤ 127 := by simp only [namedB, Bool.and_eq_true, decide_eq_true_eq] at hv; exact hv.1.2
  have HV := Lib.hid hv
  clear hv
  go_enter Tryz.func83, Tryz.ntmps83
  go_wp2_with (first
    | (go_at_call 121; ((with_reducible refine (psound_calls l true HV.out _).mono ?_); rintro e w1 ⟨rfl, hu1⟩; have k_w1 := hu1.cells.1; have f_w1 := hu1.cells.2; have z_w1 := hu1.size; (try simp at z_w1); have l0_w1 : w.heap.size < w1.heap.size := (by omega)))
    | (go_at_call 122; ((refine (write_name w1.heap.size w1.heap.size [] l _ (Lib.fresh_isBuffer 67 5 w1) (by simp) (by simp; omega)).mono ?_); rintro e w2 ⟨rfl, hI, hb⟩; have HI := Lib.hid hI; have HU := Lib.hid (show Up w w2 from (show Up w w1 by (repeat' (first | (with_reducible exact Up.refl _) | (with_reducible assumption) | (with_reducible refine Up.alloc ?_ _) | (with_reducible refine Up.drew ?_) | (with_reducible refine Up.drewN ?_ _) | (with_reducible refine Up.setCell ?_ ?_ _) | (with_reducible refine Up.call ?_ (by with_reducible assumption)) | go_size))).call ((Up.alloc (Up.refl w1) _).trans hb)); clear hI hb))
    | (go_at_call 23; ((with_reducible refine (Tryz.Buffer_Bytes w1.heap.size w1.heap.size _ _ HI.out).mono ?_); rintro e w3 ⟨v, rfl, hown, n, hw3⟩; have HO := Lib.hid hown; have HU3 := Lib.hid (show Up w w3 by rw [hw3]; exact HU.out.drewN n); clear hown hw3)))
  go_returns
  refine ⟨v, rfl, ?_, HU3.out⟩
  have h9 : w3.ownsRow w1.heap.size 5 1 v (47 :: enc l).length (Lib.byteCells (47 :: enc l)) := by
    have := HO.out
    rwa [Lib.byteCells_length] at this
  obtain ⟨g, cap, rfl, -, h1, h2, h3, h4, h5⟩ := owns_some h9 (fun e => by
    subst e
    rcases h9.2 with ⟨_, h0⟩ | ⟨g, cap, cur, h0, _⟩
    · simp at h0
    · cases h0)
  exact ⟨g, cap, rfl, h1, h2, h3, fun j hj => h5 j _ (byteCells_get _ j hj)⟩

set_option maxRecDepth 8000 in
theorem print_bad (l : List UInt8) (hv : namedB l = false) (w : World) :
    Calls Tryz.prog 83 #[nameO l] w fun e w' => e = .returned (.tuple #[.slice none 0 0, .int .i64 22]) ∧ Up w w' := by
  have HV := Lib.hid hv
  clear hv
  go_enter Tryz.func83, Tryz.ntmps83
  go_wp2_with (first
    | (go_at_call 121; ((with_reducible refine (psound_calls l false HV.out _).mono ?_); rintro e w1 ⟨rfl, hu1⟩; have k_w1 := hu1.cells.1; have f_w1 := hu1.cells.2; have z_w1 := hu1.size; (try simp at z_w1); have l0_w1 : w.heap.size < w1.heap.size := (by omega))))
  go_returns
  exact ⟨rfl, by (repeat' (first | (with_reducible exact Up.refl _) | (with_reducible assumption) | (with_reducible refine Up.alloc ?_ _) | (with_reducible refine Up.drew ?_) | (with_reducible refine Up.drewN ?_ _) | (with_reducible refine Up.setCell ?_ ?_ _) | (with_reducible refine Up.call ?_ (by with_reducible assumption)) | go_size))⟩

end Go.Proofs.YtpellcdggaeppaaGreatDoor.Pob
