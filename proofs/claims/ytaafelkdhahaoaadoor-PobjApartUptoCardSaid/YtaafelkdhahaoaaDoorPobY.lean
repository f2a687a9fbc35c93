/- The law PobNames' helpers: zero, Regular, answers. No condition. -/
import Derived.Test.YtaafelkdhahaoaaDoorPobX
import Derived.Test.YtaafelkdhahaoaaDoorStr
import Derived.Laws.BytesArg
namespace Go.Proofs.YtaafelkdhahaoaaDoor.Pob
open Go.RowKit Go.Shelf Go.ChangeShapes
set_option linter.unusedVariables false
set_option linter.unusedSimpArgs false

theorem ne_of {c : UInt8} {k : Nat} {z : Int} (h : c ≠ UInt8.ofNat k) (hk : k < 256) (hz : z = k) : ((c.toNat : Int) == z) = false := by
  rw [beq_eq_false_iff_ne]
  subst hz
  intro e
  exact h (UInt8.toNat_inj.1 (by simp; omega))

set_option maxRecDepth 8000 in
theorem blank_calls (c : UInt8) (h : regular c = true) (w : World) :
    Calls Tryd.prog 25 #[.int .u8 (c.toNat : Int)] w fun e w' => e = .returned (.bool false) ∧ w = w' := by
  simp only [regular, Bool.and_eq_true, Bool.not_eq_true', List.contains_eq_any_beq, List.any_cons, List.any_nil, Bool.or_eq_false_iff, beq_eq_false_iff_ne, ne_eq] at h
  obtain ⟨⟨b0, b1, b2, b3, b4, b5, -⟩, c0, c1, c2, c3, c4, c5, c6, c7, c8, c9, -⟩ := h
  have b0 := ne_of (k := 0) (z := 0) b0 (by decide) rfl
  have b1 := ne_of (k := 9) (z := 9) b1 (by decide) rfl
  have b2 := ne_of (k := 10) (z := 10) b2 (by decide) rfl
  have b3 := ne_of (k := 12) (z := 12) b3 (by decide) rfl
  have b4 := ne_of (k := 13) (z := 13) b4 (by decide) rfl
  have b5 := ne_of (k := 32) (z := 32) b5 (by decide) rfl
  have c0 := ne_of (k := 40) (z := 40) c0 (by decide) rfl
  have c1 := ne_of (k := 41) (z := 41) c1 (by decide) rfl
  have c2 := ne_of (k := 60) (z := 60) c2 (by decide) rfl
  have c3 := ne_of (k := 62) (z := 62) c3 (by decide) rfl
  have c4 := ne_of (k := 91) (z := 91) c4 (by decide) rfl
  have c5 := ne_of (k := 93) (z := 93) c5 (by decide) rfl
  have c6 := ne_of (k := 123) (z := 123) c6 (by decide) rfl
  have c7 := ne_of (k := 125) (z := 125) c7 (by decide) rfl
  have c8 := ne_of (k := 47) (z := 47) c8 (by decide) rfl
  have c9 := ne_of (k := 37) (z := 37) c9 (by decide) rfl
  generalize (c.toNat : Int) = z at b0 b1 b2 b3 b4 b5 c0 c1 c2 c3 c4 c5 c6 c7 c8 c9 ⊢
  go_enter Tryd.func25, Tryd.ntmps25
  go_wp2
  go_ret
  exact ⟨rfl, rfl⟩

set_option maxRecDepth 8000 in
theorem delim_calls (c : UInt8) (h : regular c = true) (w : World) :
    Calls Tryd.prog 26 #[.int .u8 (c.toNat : Int)] w fun e w' => e = .returned (.bool false) ∧ w = w' := by
  simp only [regular, Bool.and_eq_true, Bool.not_eq_true', List.contains_eq_any_beq, List.any_cons, List.any_nil, Bool.or_eq_false_iff, beq_eq_false_iff_ne, ne_eq] at h
  obtain ⟨⟨b0, b1, b2, b3, b4, b5, -⟩, c0, c1, c2, c3, c4, c5, c6, c7, c8, c9, -⟩ := h
  have b0 := ne_of (k := 0) (z := 0) b0 (by decide) rfl
  have b1 := ne_of (k := 9) (z := 9) b1 (by decide) rfl
  have b2 := ne_of (k := 10) (z := 10) b2 (by decide) rfl
  have b3 := ne_of (k := 12) (z := 12) b3 (by decide) rfl
  have b4 := ne_of (k := 13) (z := 13) b4 (by decide) rfl
  have b5 := ne_of (k := 32) (z := 32) b5 (by decide) rfl
  have c0 := ne_of (k := 40) (z := 40) c0 (by decide) rfl
  have c1 := ne_of (k := 41) (z := 41) c1 (by decide) rfl
  have c2 := ne_of (k := 60) (z := 60) c2 (by decide) rfl
  have c3 := ne_of (k := 62) (z := 62) c3 (by decide) rfl
  have c4 := ne_of (k := 91) (z := 91) c4 (by decide) rfl
  have c5 := ne_of (k := 93) (z := 93) c5 (by decide) rfl
  have c6 := ne_of (k := 123) (z := 123) c6 (by decide) rfl
  have c7 := ne_of (k := 125) (z := 125) c7 (by decide) rfl
  have c8 := ne_of (k := 47) (z := 47) c8 (by decide) rfl
  have c9 := ne_of (k := 37) (z := 37) c9 (by decide) rfl
  generalize (c.toNat : Int) = z at b0 b1 b2 b3 b4 b5 c0 c1 c2 c3 c4 c5 c6 c7 c8 c9 ⊢
  go_enter Tryd.func26, Tryd.ntmps26
  go_wp2
  go_ret
  exact ⟨rfl, rfl⟩

set_option maxRecDepth 8000 in
theorem regular_calls (c : UInt8) (h : regular c = true) (w : World) :
    Calls Tryd.prog 15 #[.int .u8 (c.toNat : Int)] w fun e w' => e = .returned (.bool true) ∧ w = w' := by
  go_enter Tryd.func15, Tryd.ntmps15
  go_wp2_with (first | (go_at_call 25; ((with_reducible refine (blank_calls c h _).mono ?_); rintro e w' ⟨rfl, rfl⟩)) | (go_at_call 26; ((with_reducible refine (delim_calls c h _).mono ?_); rintro e w' ⟨rfl, rfl⟩)))
  go_ret
  exact ⟨rfl, rfl⟩

set_option maxRecDepth 8000 in
theorem zero_calls (l : List UInt8) (hl : l.length ≤ 127) (h : l.contains 0 = true) (w : World) :
    Calls Tryd.prog 14 #[.string ⟨l.toArray⟩] w fun e w' => e = .returned (.bool true) ∧ w = w' := by
  have ix := fun (j : Nat) (hj : j < l.length) => run_index_list (P := Tryd.prog) w 9 l .i64 j Tryd.underlying9 hj
  have hm : ∃ j, j < l.length ∧ l.getD j 0 = 0 := by
    rw [List.contains_iff_mem] at h
    obtain ⟨j, hj, e⟩ := List.mem_iff_getElem.1 h
    exact ⟨j, hj, by simp [hj, e]⟩
  clear h
  obtain ⟨m, hm, e0⟩ := hm
  have E0 := Lib.hid e0
  clear e0
  go_enter Tryd.func14, Tryd.ntmps14
  go_wp2_with fail
  go_loop [3] (fun s3 => ∃ k : Nat, k ≤ m ∧ s3 = .int .i64 k) (fun s3 => m - (intOf s3).toNat)
  case atStart => exact ⟨0, Nat.zero_le _, rfl⟩
  case round =>
    obtain ⟨k, hk, rfl⟩ := hrel
    have d0 : decide (k < l.length) = true := decide_eq_true (by omega)
    have ik := ix k (by omega)
    clear ix
    by_cases hz : l.getD k 0 = 0
    · have HZ := Lib.hid hz
      rw [hz] at ik
      clear hz
      go_wp2
      go_ret
      exact ⟨rfl, rfl⟩
    · have hkm : k ≠ m := fun e => hz (by rw [e]; exact E0.out)
      have z0 := ne_of (c := l.getD k 0) (k := 0) (z := 0) hz (by decide) rfl
      generalize l.getD k 0 = c at ik z0 hz
      go_wp2
      go_round
      case rel => exact ⟨k + 1, by omega, by go_num⟩
      case measure => simp [intOf]; omega

/-- string(..) of a slice of bytes -/
theorem BytesAt.conv {w : World} {v : Value} {l : List UInt8} (h : BytesAt w v l) : (convert 24 9 v).run Tryd.prog w = .ok (.string ⟨l.toArray⟩) w := by
  obtain ⟨g, cap, rfl, h1, h2, h3, h4⟩ := h.form
  have := run_convert_bytes_arg w 24 5 Tryd.underlying24 Tryd.underlying5 g 0 l.length cap (l.map (fun c => (c.toNat : Int))) (by simp) (fun i hi => by
    rw [Nat.zero_add, h4 i (by simpa using hi)]; simp [show i < l.length by simpa using hi]) 9 Tryd.underlying9
  rw [this]
  have e : List.map (fun n : Int => UInt8.ofNat n.toNat) (l.map (fun c => (c.toNat : Int))) = l := by
    rw [List.map_map]
    have : ((fun n : Int => UInt8.ofNat n.toNat) ∘ fun c : UInt8 => (c.toNat : Int)) = id := by funext c; simp
    rw [this, List.map_id]
  rw [strOfNums, e]

set_option maxRecDepth 8000 in
theorem answers_calls (w : World) : Calls Tryd.prog 6 #[] w fun e w' => e = .returned (.bool true) ∧ Up w w' := by
  have he : enc [97, 32, 98] = [97, 35, 50, 48, 98] := by decide
  go_enter Tryd.func6, Tryd.ntmps6
  go_wp2_with (first
    | (go_at_call 8; ((refine (print_ok [97, 32, 98] (by decide) _).mono ?_); rintro e w1 ⟨v, rfl, hb, hu1⟩; have cv := hb.conv; rw [he] at cv; clear hb)))
  go_ret
  exact ⟨rfl, by (repeat' (first | (with_reducible exact Up.refl _) | (with_reducible assumption) | (with_reducible refine Up.alloc ?_ _) | (with_reducible refine Up.drew ?_) | (with_reducible refine Up.drewN ?_ _) | (with_reducible refine Up.setCell ?_ ?_ _) | (with_reducible refine Up.call ?_ (by with_reducible assumption)) | go_size))⟩

end Go.Proofs.YtaafelkdhahaoaaDoor.Pob
