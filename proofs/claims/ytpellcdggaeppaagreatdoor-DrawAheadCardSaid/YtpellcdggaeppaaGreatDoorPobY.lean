/- The law PobNames' helpers: zero, Regular, answers. No condition. -/
import Derived.Test.YtpellcdggaeppaaGreatDoorPobX
import Derived.Test.YtpellcdggaeppaaGreatDoorStr
import Derived.Laws.BytesArg
namespace Go.Proofs.YtpellcdggaeppaaGreatDoor.Pob
open Go.RowKit Go.Shelf Go.ChangeShapes
set_option linter.unusedVariables false
set_option linter.unusedSimpArgs false

theorem ne_of {c : UInt8} {k : Nat} {z : Int} (h : c ≠ UInt8.ofNat k) (hk : k < 256) (hz : z = k) : ((c.toNat : Int) == z) = false := by
  rw [beq_eq_false_iff_ne]
  subst hz
  intro e
  exact h (UInt8.toNat_inj.1 (by simp; omega))

set_option maxRecDepth 8000 in
theorem blank_calls (c : UInt8) (h : regular c = true) (w : World) :
    Calls Tryz.prog 58 #[.int .u8 (c.toNat : Int)] w fun e w' => e = .returned (.bool false) ∧ w = w' := by
  simp only [regular, Bool.and_eq_true, Bool.not_eq_true', List.contains_eq_any_beq, List.any_cons, List.any_nil, Bool.or_eq_false_iff, beq_eq_false_iff_ne, ne_eq] at h
  obtain ⟨⟨b0, b1, b2, b3, b4, b5, -⟩, c0, c1, c2, c3, c4, c5, c6, c7, c8, c9, -⟩ := h
  have b0 := ne_of (k := 0) (z := 0) b0 (by decide) rfl
  have b1 := ne_of (k := 9) (z := 9) b1 (by decide) rfl
  have b2 := ne_of (k := 10) (z := 10) b2 (by decide) rfl
  have b3 := ne_of (k := 12) (z := 12) b3 (by decide) rfl
  have b4 := ne_of (k := 13) (z := 13) b4 (by decide) rfl
  have b5 := ne_of (k := 32) (z := 32) b5 (by decide) rfl
  have c0 := ne_of (k := 40) (z := 40) c0 (by decide) rfl
  have c1 := ne_of (k := 41) (z := 41) c1 (by decide) rfl
  have c2 := ne_of (k := 60) (z := 60) c2 (by decide) rfl
  have c3 := ne_of (k := 62) (z := 62) c3 (by decide) rfl
  have c4 := ne_of (k := 91) (z := 91) c4 (by decide) rfl
  have c5 := ne_of (k := 93) (z := 93) c5 (by decide) rfl
  have c6 := ne_of (k := 123) (z := 123) c6 (by decide) rfl
  have c7 := ne_of (k := 125) (z := 125) c7 (by decide) rfl
  have c8 := ne_of (k := 47) (z := 47) c8 (by decide) rfl
  have c9 := ne_of (k := 37) (z := 37) c9 (by decide) rfl
  generalize (c.toNat : Int) = z at b0 b1 b2 b3 b4 b5 c0 c1 c2 c3 c4 c5 c6 c7 c8 c9 ⊢
  go_enter Tryz.func58, Tryz.ntmps58
  go_wp2
  go_ret
  exact ⟨rfl, rfl⟩

set_option maxRecDepth 8000 in
theorem delim_calls (c : UInt8) (h : regular c = true) (w : World) :
    Calls Tryz.prog 59 #[.int .u8 (c.toNat : Int)] w fun e w' => e = .returned (.bool false) ∧ w = w' := by
  simp only [regular, Bool.and_eq_true, Bool.not_eq_true', List.contains_eq_any_beq, List.any_cons, List.any_nil, Bool.or_eq_false_iff, beq_eq_false_iff_ne, ne_eq] at h
  obtain ⟨⟨b0, b1, b2, b3, b4, b5, -⟩, c0, c1, c2, c3, c4, c5, c6, c7, c8, c9, -⟩ := h
  have b0 := ne_of (k := 0) (z := 0) b0 (by decide) rfl
  have b1 := ne_of (k := 9) (z := 9) b1 (by decide) rfl
  have b2 := ne_of (k := 10) (z := 10) b2 (by decide) rfl
  have b3 := ne_of (k := 12) (z := 12) b3 (by decide) rfl
  have b4 := ne_of (k := 13) (z := 13) b4 (by decide) rfl
  have b5 := ne_of (k := 32) (z := 32) b5 (by decide) rfl
  have c0 := ne_of (k := 40) (z := 40) c0 (by decide) rfl
  have c1 := ne_of (k := 41) (z := 41) c1 (by decide) rfl
  have c2 := ne_of (k := 60) (z := 60) c2 (by decide) rfl
  have c3 := ne_of (k := 62) (z := 62) c3 (by decide) rfl
  have c4 := ne_of (k := 91) (z := 91) c4 (by decide) rfl
  have c5 := ne_of (k := 93) (z := 93) c5 (by decide) rfl
  have c6 := ne_of (k := 123) (z := 123) c6 (by decide) rfl
  have c7 := ne_of (k := 125) (z := 125) c7 (by decide) rfl
  have c8 := ne_of (k := 47) (z := 47) c8 (by decide) rfl
  have c9 := ne_of (k := 37) (z := 37) c9 (by decide) rfl
  generalize (c.toNat : Int) = z at b0 b1 b2 b3 b4 b5 c0 c1 c2 c3 c4 c5 c6 c7 c8 c9 ⊢
  go_enter Tryz.func59, Tryz.ntmps59
  go_wp2
  go_ret
  exact ⟨rfl, rfl⟩

set_option maxRecDepth 8000 in
theorem regular_calls (c : UInt8) (h : regular c = true) (w : World) :
    Calls Tryz.prog 34 #[.int .u8 (c.toNat : Int)] w fun e w' => e = .returned (.bool true) ∧ w = w' := by
  go_enter Tryz.func34, Tryz.ntmps34
  go_wp2_with (first | (go_at_call 58; ((with_reducible refine (blank_calls c h _).mono ?_); rintro e w' ⟨rfl, rfl⟩)) | (go_at_call 59; ((with_reducible refine (delim_calls c h _).mono ?_); rintro e w' ⟨rfl, rfl⟩)))
  go_ret
  exact ⟨rfl, rfl⟩

/-- string(..) of a slice of bytes -/
theorem BytesAt.conv {w : World} {v : Value} {l : List UInt8} (h : BytesAt w v l) : (convert 27 9 v).run Tryz.prog w = .ok (.string ⟨l.toArray⟩) w := by
  obtain ⟨g, cap, rfl, h1, h2, h3, h4⟩ := h.form
  have := run_convert_bytes_arg w 27 5 Tryz.underlying27 Tryz.underlying5 g 0 l.length cap (l.map (fun c => (c.toNat : Int))) (by simp) (fun i hi => by
    rw [Nat.zero_add, h4 i (by simpa using hi)]; simp [show i < l.length by simpa using hi]) 9 Tryz.underlying9
  rw [this]
  have e : List.map (fun n : Int => UInt8.ofNat n.toNat) (l.map (fun c => (c.toNat : Int))) = l := by
    rw [List.map_map]
    have : ((fun n : Int => UInt8.ofNat n.toNat) ∘ fun c : UInt8 => (c.toNat : Int)) = id := by funext c; simp
    rw [this, List.map_id]
  rw [strOfNums, e]

end Go.Proofs.YtpellcdggaeppaaGreatDoor.Pob
