/- A store in which one array is, or one string. -/
import Derived.Test.YtcbelhfbdgkcoaaRows
import Derived.Test.YtcbelhfbdgkcoaaBase
import Derived.WalkKit
import Derived.ProofKit
import Derived.OpenShut
import Derived.BigQuiet
import Derived.Deep.QuietTactic
import Derived.Lib.Hide
import Derived.Lib.MinMax
import Derived.Handy
import Derived.Test.YtcbelhfbdgkcoaaOwn
import Derived.Test.YtcbelhfbdgkcoaaArgs
import Derived.Test.YtcbelhfbdgkcoaaStep
import Derived.Deep.RegionHeld3
import Derived.Deep.RegionWith
import Derived.Deep.RegionLaw
namespace Go.Proofs.Ytcbelhfbdgkcoaa.St
open Go.ChangeShapes Go.WideShapes Go.ChangeAt Go.RowKit
set_option linter.unusedVariables false
set_option linter.unusedSimpArgs false

theorem cast {w : World} {b : Nat} {cs cs2 : Array Value} (h : Row w b cs) (e : cs = cs2) : Row w b cs2 := e ▸ h
theorem infoObj : (Try.prog.info? 27).map (fun i => (i.zero, i.size, i.bytes)) = some (some (.agg #[.int .i64 0, .bool false, .int .i64 0, .int .i64 0, .string ⟨#[]⟩, .int .i64 0, .int .i64 0, .int .i64 0]), 8, 72) := by kernel_rfl
/-- a store in which nothing is -/
def Empty (w : World) (b : Nat) (free : Int) : Prop := Row w b #[.int .i64 free, .slice none 0 0, .slice none 0 0, .slice none 0 0, .slice none 0 0, .slice none 0 0]
/-- a store in which one array is, of n items -/
structure ArrIs (w : World) (b gl cap gi : Nat) (free : Int) (n : Nat) (cs : List Value) : Prop where
  row : Row w b #[.int .i64 free, .slice none 0 0, .slice (some ⟨gl, 0, none⟩) 1 cap, .slice none 0 0, .slice none 0 0, .slice none 0 0]
  at0 : w.cell? ⟨gl, 0, none⟩ = some (.slice (some ⟨gi, 0, none⟩) n n)
  own : w.ownsRow 0 27 8 (.slice (some ⟨gi, 0, none⟩) n n) n cs
  cap1 : 1 ≤ cap
  capm : cap ≤ maxLen
  ne1 : gl ≠ b
  ne2 : gi ≠ b
  ne3 : gi ≠ gl
  len : n ≤ 1000
theorem ArrIs.chg {S : List Nat} {w w1 : World} {b gl cap gi : Nat} {free : Int} {n : Nat} {cs : List Value} (h : ArrIs w b gl cap gi free n cs) (hc : Chg S w w1) (h1 : b ∉ S) (h2 : gl ∉ S) (h3 : gi ∉ S) : ArrIs w1 b gl cap gi free n cs :=
  ⟨h.row.chg hc h1, (hc.cells.1 gl 0 (cell_lt h.at0) h2).trans h.at0, owned_chg h.own hc (fun g hg => by simp only [Value.ownBlock, Option.some.injEq] at hg; subst hg; exact h3), h.cap1, h.capm, h.ne1, h.ne2, h.ne3, h.len⟩
theorem ArrIs.up {w w1 : World} {b gl cap gi : Nat} {free : Int} {n : Nat} {cs : List Value} (h : ArrIs w b gl cap gi free n cs) (hc : Up w w1) : ArrIs w1 b gl cap gi free n cs := h.chg (S := []) (Chg.of_up hc) (by simp) (by simp) (by simp)

theorem within_calls (f l n : Int) (h0 : 0 ≤ f) (h1 : 0 ≤ l) (h2 : f + l ≤ n) (hn : n ≤ 1000) (w : World) :
    Calls Try.prog 65 #[.agg #[.int .i64 7, .bool false, .int .i64 0, .int .i64 0, .string ⟨#[]⟩, .int .i64 0, .int .i64 f, .int .i64 l], .int .i64 n] w fun E w' => E = .returned (.bool true) ∧ Up w w' := by
  have x0 : decide (0 ≤ f) = true := decide_eq_true h0
  have x1 : decide (0 ≤ l) = true := decide_eq_true h1
  have x2 : decide (f ≤ n) = true := decide_eq_true (by omega)
  have x3 : decide (l ≤ n - f) = true := decide_eq_true (by omega)
  go_enter Try.func65, Try.ntmps65
  go_wp2
  go_ret
  exact ⟨rfl, by (repeat' (first | (with_reducible exact Up.refl _) | (with_reducible assumption) | (with_reducible refine Up.alloc ?_ _) | (with_reducible refine Up.drew ?_) | (with_reducible refine Up.drewN ?_ _) | (with_reducible refine Up.setCell ?_ ?_ _) | (with_reducible refine Up.call ?_ (by with_reducible assumption)) | go_size))⟩

/-- the array's part is there -/
theorem valid_arr (b gl cap gi : Nat) (free : Int) (n : Nat) (cs : List Value) (f l : Int) (h0 : 0 ≤ f) (h1 : 0 ≤ l) (h2 : f + l ≤ n) (w : World) (h : ArrIs w b gl cap gi free n cs) :
    Calls Try.prog 34 #[.pointer (some ⟨b, 0, none⟩), .agg #[.int .i64 7, .bool false, .int .i64 0, .int .i64 0, .string ⟨#[]⟩, .int .i64 0, .int .i64 f, .int .i64 l]] w fun E w' => E = .returned (.bool true) ∧ Up w w' := by
  have q2 : w.cell? ⟨b, 2, none⟩ = some (.slice (some ⟨gl, 0, none⟩) 1 cap) := h.row.cell 2 rfl
  have hb := h.row.lt
  have hb1 : b < w.heap.size + 1 := by omega
  have hg := cell_lt h.at0
  have hg1 : gl < w.heap.size + 1 := by omega
  have q0 := h.at0
  have hlen := h.len
  clear h
  go_enter Try.func34, Try.ntmps34
  go_wp2
  go_region_held3 (fun w' => w'.cell? ⟨w.heap.size, 0, none⟩ = some (.int .i64 7) ∧ w'.cell? ⟨w.heap.size, 1, none⟩ = some (.bool false) ∧ w'.cell? ⟨w.heap.size, 2, none⟩ = some (.int .i64 0) ∧ w'.cell? ⟨w.heap.size, 3, none⟩ = some (.int .i64 0) ∧ w'.cell? ⟨w.heap.size, 4, none⟩ = some (.string ⟨#[]⟩) ∧ w'.cell? ⟨w.heap.size, 5, none⟩ = some (.int .i64 0) ∧ w'.cell? ⟨w.heap.size, 6, none⟩ = some (.int .i64 f) ∧ w'.cell? ⟨w.heap.size, 7, none⟩ = some (.int .i64 l) ∧ w'.cell? ⟨b, 2, none⟩ = some (.slice (some ⟨gl, 0, none⟩) 1 cap) ∧ w'.cell? ⟨gl, 0, none⟩ = some (.slice (some ⟨gi, 0, none⟩) n n)) (first | (with_reducible exact ⟨o0, o1, o2, o3, o4, o5, o6, o7, g2, g0⟩) | go_keep) (first
    | (go_at_call 65; ((with_reducible refine (within_calls f l n h0 h1 (by omega) (by omega) _).mono ?_); rintro E w1 ⟨rfl, hu1⟩; have Ro : Row w1 (w.heap.size) #[.int .i64 7, .bool false, .int .i64 0, .int .i64 0, .string ⟨#[]⟩, .int .i64 0, .int .i64 f, .int .i64 l] := Row.up (show Row _ (w.heap.size) #[.int .i64 7, .bool false, .int .i64 0, .int .i64 0, .string ⟨#[]⟩, .int .i64 0, .int .i64 f, .int .i64 l] by (repeat' (first | (with_reducible assumption) | (with_reducible refine Row.at _ _ ?_; (simp; done)) | (with_reducible refine Row.alloc ?_ _) | (with_reducible refine Row.drew ?_) | (with_reducible refine Row.drewN ?_ _) | (with_reducible refine Row.other ?_ (by first | (simp; done) | (simp; omega) | omega) _) | (with_reducible refine Row.up ?_ (by with_reducible assumption)) | (with_reducible refine Row.chg ?_ (by with_reducible assumption) (by first | (simp; done) | (simp; omega)))))) hu1; have o0 := Ro.cell 0 rfl; have o1 := Ro.cell 1 rfl; have o2 := Ro.cell 2 rfl; have o3 := Ro.cell 3 rfl; have o4 := Ro.cell 4 rfl; have o5 := Ro.cell 5 rfl; have o6 := Ro.cell 6 rfl; have o7 := Ro.cell 7 rfl; have lo := Ro.lt; have g2 := ((show Up w w1 by (repeat' (first | (with_reducible exact Up.refl _) | (with_reducible assumption) | (with_reducible refine Up.alloc ?_ _) | (with_reducible refine Up.drew ?_) | (with_reducible refine Up.drewN ?_ _) | (with_reducible refine Up.setCell ?_ ?_ _) | (with_reducible refine Up.call ?_ (by with_reducible assumption)) | go_size))).cells.1 b 2 hb).trans q2; have g0 := ((show Up w w1 by (repeat' (first | (with_reducible exact Up.refl _) | (with_reducible assumption) | (with_reducible refine Up.alloc ?_ _) | (with_reducible refine Up.drew ?_) | (with_reducible refine Up.drewN ?_ _) | (with_reducible refine Up.setCell ?_ ?_ _) | (with_reducible refine Up.call ?_ (by with_reducible assumption)) | go_size))).cells.1 gl 0 hg).trans q0)))
  all_goals go_wp2
  go_ret
  exact ⟨rfl, by (repeat' (first | (with_reducible exact Up.refl _) | (with_reducible assumption) | (with_reducible refine Up.alloc ?_ _) | (with_reducible refine Up.drew ?_) | (with_reducible refine Up.drewN ?_ _) | (with_reducible refine Up.setCell ?_ ?_ _) | (with_reducible refine Up.call ?_ (by with_reducible assumption)) | go_size))⟩

end Go.Proofs.Ytcbelhfbdgkcoaa.St
