/- A store's marks: what now and Mark return and leave behind, while nothing is in the store. -/
import Derived.Test.YtjijbkehbeppjaaRows
import Derived.Test.YtjijbkehbeppjaaBase
import Derived.WalkKit
import Derived.ProofKit
import Derived.OpenShut
import Derived.BigQuiet
import Derived.Deep.QuietTactic
import Derived.Lib.Hide
import Derived.Handy
import Derived.Test.YtjijbkehbeppjaaOwn
import Derived.Test.YtjijbkehbeppjaaArgs
import Derived.Test.YtjijbkehbeppjaaStep
import Derived.Deep.RegionHeld3
import Derived.Deep.RegionWith
namespace Go.Proofs.Ytjijbkehbeppjaa.Save
open Go.ChangeShapes Go.WideShapes Go.ChangeAt Go.RowKit
set_option linter.unusedVariables false
set_option linter.unusedSimpArgs false

theorem cast {w : World} {b : Nat} {cs cs2 : Array Value} (h : Row w b cs) (e : cs = cs2) : Row w b cs2 := e ▸ h
theorem infoSizes : (Try.prog.info? 118).map (fun i => (i.zero, i.size, i.bytes)) = some (some (.agg #[.int .i64 0, .int .i64 0, .int .i64 0, .int .i64 0, .int .i64 0]), 5, 40) := by kernel_rfl
theorem infoState : (Try.prog.info? 91).map (fun i => (i.zero, i.size, i.bytes)) = some (some (.agg #[.int .i64 0, .int .i64 0]), 2, 16) := by kernel_rfl
def szCells (free : Int) : List Value := [.int .i64 0, .int .i64 0, .int .i64 0, .int .i64 free, .int .i64 0]
/-- n marks, all of the same sizes -/
def marks (free : Int) (n : Nat) : List Value := (List.replicate n (szCells free)).flatten
theorem marks_length (free : Int) (n : Nat) : (marks free n).length = n * 5 := by simp [marks, szCells]
theorem marks_succ (free : Int) (n : Nat) : marks free n ++ szCells free = marks free (n + 1) := by
  unfold marks
  rw [List.replicate_succ', List.flatten_append]
  simp
/-- a store in which nothing is -/
structure StoreIs (w : World) (b : Nat) (v : Value) (free : Int) (n : Nat) : Prop where
  row : Row w b #[.int .i64 free, .slice none 0 0, .slice none 0 0, .slice none 0 0, .slice none 0 0, v]
  own : w.ownsRow 0 118 5 v n (marks free n)
  len : n ≤ 1000
theorem apart {w : World} {b : Nat} {v : Value} {cs : Array Value} {e : TypeId} {k n : Nat} {xs : List Value} (hr : Row w b cs) (ho : w.ownsRow 0 e k v n xs) (hne : ∀ c : Array Value, c.size = cs.size → ∀ cap, c.size = cap * k → False) : ∀ g, v.ownBlock = some g → g ≠ b := by
  intro g hg e
  obtain ⟨ty, hb⟩ := hr
  rcases ho.2 with ⟨h1, _⟩ | ⟨g', cap, cur, hv, _, hg', _, _, hs, _⟩
  · rw [h1] at hg; cases hg
  · rw [hv] at hg
    simp only [Value.ownBlock, Option.some.injEq] at hg
    subst hg e
    rw [hb] at hg'
    simp only [Option.some.injEq, Obj.cells.injEq] at hg'
    have := hg'.1
    subst this
    exact hne _ rfl _ hs
theorem StoreIs.apart {w : World} {b : Nat} {v : Value} {free : Int} {n : Nat} (h : StoreIs w b v free n) : ∀ g, v.ownBlock = some g → g ≠ b :=
  Save.apart h.row h.own (fun c hc cap hs => by simp at hc; omega)
theorem StoreIs.chg {S : List Nat} {w w1 : World} {b : Nat} {v : Value} {free : Int} {n : Nat} (h : StoreIs w b v free n) (hc : Chg S w w1) (hb : b ∉ S) (hn : ∀ g, v.ownBlock = some g → g ∉ S) : StoreIs w1 b v free n :=
  ⟨h.row.chg hc hb, owned_chg h.own hc hn, h.len⟩
theorem StoreIs.up {w w1 : World} {b : Nat} {v : Value} {free : Int} {n : Nat} (h : StoreIs w b v free n) (hc : Up w w1) : StoreIs w1 b v free n := h.chg (S := []) (Chg.of_up hc) (by simp) (by simp)

theorem results_now (tmps : Array Value) (w : World) (b2 : Nat) (x0 x1 x2 x3 x4 : Int) (h2 : Row w b2 #[.int .i64 x0, .int .i64 x1, .int .i64 x2, .int .i64 x3, .int .i64 x4])
    (e2 : tmps[2]?.getD undef = .pointer (some ⟨b2, 0, none⟩)) :
    (results Try.f56 tmps).run Try.prog w = .ok (.agg #[.int .i64 x0, .int .i64 x1, .int .i64 x2, .int .i64 x3, .int .i64 x4]) w := by
  have c0 := h2.cell 0 rfl
  have c1 := h2.cell 1 rfl
  have c2 := h2.cell 2 rfl
  have c3 := h2.cell 3 rfl
  have c4 := h2.cell 4 rfl
  simp [results, Try.results56, go_sem, e2, c0, c1, c2, c3, c4]

set_option maxRecDepth 4000 in
theorem now_calls (b : Nat) (v : Value) (free : Int) (n : Nat) (w : World) (h : StoreIs w b v free n) :
    Calls Try.prog 56 #[.pointer (some ⟨b, 0, none⟩)] w fun E w' => E = .returned (.agg #[.int .i64 0, .int .i64 0, .int .i64 0, .int .i64 free, .int .i64 0]) ∧ Up w w' := by
  have hb := h.row.lt
  have q0 : w.cell? ⟨b, 0, none⟩ = some (.int .i64 free) := h.row.cell 0 rfl
  have q1 : w.cell? ⟨b, 1, none⟩ = some (.slice none 0 0) := h.row.cell 1 rfl
  have q2 : w.cell? ⟨b, 2, none⟩ = some (.slice none 0 0) := h.row.cell 2 rfl
  have q3 : w.cell? ⟨b, 3, none⟩ = some (.slice none 0 0) := h.row.cell 3 rfl
  have q4 : w.cell? ⟨b, 4, none⟩ = some (.slice none 0 0) := h.row.cell 4 rfl
  have hb1 : b < w.heap.size + 1 := by omega
  clear h
  go_enter Try.func56, Try.ntmps56
  go_wp2
  go_region
  go_wp2
  (try simp only [Exit.inBlock, Exit.then])
  refine bodyPost_ret (results_now _ _ w.heap.size 0 0 0 free 0 (by apply cast; (case h => (repeat (first | (with_reducible assumption) | (with_reducible apply Row.at; (simp; done)) | (with_reducible apply Row.alloc) | (with_reducible apply Row.drew) | (with_reducible apply Row.drewN) | (with_reducible apply Row.set) | ((with_reducible apply Row.other); (case hp => first | (simp; done) | (simp; omega) | omega))))); (case e => rfl)) rfl) rfl ?_
  exact ⟨rfl, by (repeat' (first | (with_reducible exact Up.refl _) | (with_reducible assumption) | (with_reducible refine Up.alloc ?_ _) | (with_reducible refine Up.drew ?_) | (with_reducible refine Up.drewN ?_ _) | (with_reducible refine Up.setCell ?_ ?_ _) | (with_reducible refine Up.call ?_ (by with_reducible assumption)) | go_size))⟩

end Go.Proofs.Ytjijbkehbeppjaa.Save
