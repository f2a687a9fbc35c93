/- Saves: none, Depth, at, Alive. -/
import Derived.Test.YtjijbkehbeppjaaSaveW2
import Derived.Test.YtjijbkehbeppjaaSaveM
import Derived.LoopN
namespace Go.Proofs.Ytjijbkehbeppjaa.Save
open Go.ChangeShapes Go.WideShapes Go.ChangeAt Go.RowKit
open Go.Proofs.Ytjijbkehbeppjaa.SaveM
set_option linter.unusedVariables false
set_option linter.unusedSimpArgs false

/-- saves over a store in which nothing is -/
structure SavesIs (w : World) (bs bt : Nat) (vl vm : Value) (l : List Sv) (last : Int) (free : Int) (n : Nat) : Prop where
  row : Row w bs #[.pointer (some ⟨bt, 0, none⟩), vl, .int .i64 last]
  st : StoreIs w bt vm free n
  own : w.ownsRow 0 91 2 vl l.length (stCells l)
  len : l.length ≤ 1000
  ap : ∀ g, vl.ownBlock = some g → g ≠ bt
theorem SavesIs.ap2 {w : World} {bs bt : Nat} {vl vm : Value} {l : List Sv} {last free : Int} {n : Nat} (h : SavesIs w bs bt vl vm l last free n) : ∀ g, vl.ownBlock = some g → g ≠ bs :=
  Save.apart h.row h.own (fun c hc cap hs => by simp at hc; omega)
theorem SavesIs.ap3 {w : World} {bs bt : Nat} {vl vm : Value} {l : List Sv} {last free : Int} {n : Nat} (h : SavesIs w bs bt vl vm l last free n) : ∀ g, vm.ownBlock = some g → g ≠ bs :=
  Save.apart h.row h.st.own (fun c hc cap hs => by simp at hc; omega)
theorem SavesIs.ne {w : World} {bs bt : Nat} {vl vm : Value} {l : List Sv} {last free : Int} {n : Nat} (h : SavesIs w bs bt vl vm l last free n) : bs ≠ bt := by
  rintro rfl
  obtain ⟨t, h1⟩ := h.row
  obtain ⟨t', h2⟩ := h.st.row
  rw [h1] at h2
  simp at h2
theorem two_types {w : World} {e e' : TypeId} {k k' n n' : Nat} {v v' : Value} {xs xs' : List Value} (h : w.ownsRow 0 e k v n xs) (h' : w.ownsRow 0 e' k' v' n' xs') (hne : e ≠ e') : ∀ g, v.ownBlock = some g → v'.ownBlock ≠ some g := by
  intro g hg hg'
  rcases h.2 with ⟨h1, _⟩ | ⟨a, cap, cur, hv, _, ha, _⟩
  · rw [h1] at hg; cases hg
  · rcases h'.2 with ⟨h1, _⟩ | ⟨a', cap', cur', hv', _, ha', _⟩
    · rw [h1] at hg'; cases hg'
    · rw [hv] at hg
      rw [hv'] at hg'
      simp only [Value.ownBlock, Option.some.injEq] at hg hg'
      subst hg hg'
      rw [ha] at ha'
      simp only [Option.some.injEq, Obj.cells.injEq] at ha'
      exact hne ha'.2.1
theorem SavesIs.ap4 {w : World} {bs bt : Nat} {vl vm : Value} {l : List Sv} {last free : Int} {n : Nat} (h : SavesIs w bs bt vl vm l last free n) : ∀ g, vl.ownBlock = some g → vm.ownBlock ≠ some g := two_types h.own h.st.own (by decide)
theorem SavesIs.chg {S : List Nat} {w w1 : World} {bs bt : Nat} {vl vm : Value} {l : List Sv} {last free : Int} {n : Nat} (h : SavesIs w bs bt vl vm l last free n) (hc : Chg S w w1) (h1 : bs ∉ S) (h2 : bt ∉ S) (h3 : ∀ g, vl.ownBlock = some g → g ∉ S) (h4 : ∀ g, vm.ownBlock = some g → g ∉ S) : SavesIs w1 bs bt vl vm l last free n :=
  ⟨h.row.chg hc h1, h.st.chg hc h2 h4, owned_chg h.own hc h3, h.len, h.ap⟩
theorem SavesIs.up {w w1 : World} {bs bt : Nat} {vl vm : Value} {l : List Sv} {last free : Int} {n : Nat} (h : SavesIs w bs bt vl vm l last free n) (hc : Up w w1) : SavesIs w1 bs bt vl vm l last free n := h.chg (S := []) (Chg.of_up hc) (by simp) (by simp) (by simp) (by simp)

theorem none_calls (bs bt : Nat) (w : World) (h0 : w.cell? ⟨bs, 0, none⟩ = some (.pointer (some ⟨bt, 0, none⟩))) :
    Calls Try.prog 36 #[.pointer (some ⟨bs, 0, none⟩)] w fun E w' => E = .returned (.bool false) ∧ w = w' := by
  go_enter Try.func36, Try.ntmps36
  go_wp2
  go_ret
  exact ⟨rfl, rfl⟩
theorem none_nil (w : World) :
    Calls Try.prog 36 #[.pointer none] w fun E w' => E = .returned (.bool true) ∧ w = w' := by
  go_enter Try.func36, Try.ntmps36
  go_wp2
  go_ret
  exact ⟨rfl, rfl⟩
theorem none_empty (bs : Nat) (w : World) (h0 : w.cell? ⟨bs, 0, none⟩ = some (.pointer none)) :
    Calls Try.prog 36 #[.pointer (some ⟨bs, 0, none⟩)] w fun E w' => E = .returned (.bool true) ∧ w = w' := by
  go_enter Try.func36, Try.ntmps36
  go_wp2
  go_ret
  exact ⟨rfl, rfl⟩

theorem depth_calls (bs bt : Nat) (vl vm : Value) (l : List Sv) (last free : Int) (n : Nat) (w : World) (h : SavesIs w bs bt vl vm l last free n) :
    Calls Try.prog 12 #[.pointer (some ⟨bs, 0, none⟩)] w fun E w' => E = .returned (.int .i64 l.length) ∧ w = w' := by
  have q0 : w.cell? ⟨bs, 0, none⟩ = some (.pointer (some ⟨bt, 0, none⟩)) := h.row.cell 0 rfl
  have q1 : w.cell? ⟨bs, 1, none⟩ = some vl := h.row.cell 1 rfl
  obtain ⟨a, cap, rfl⟩ := owned_val h.own
  clear h
  go_enter Try.func12, Try.ntmps12
  go_wp2_with (go_at_call 36; ((with_reducible refine (none_calls bs bt _ q0).mono ?_); rintro E w1 ⟨rfl, rfl⟩))
  go_ret
  exact ⟨rfl, rfl⟩

/-- an object's cells -/
def objC (kind : Int) (exec : Bool) (acc n : Int) (name : ByteArray) (ref frm len : Int) : Array Value := #[.int .i64 kind, .bool exec, .int .i64 acc, .int .i64 n, .string name, .int .i64 ref, .int .i64 frm, .int .i64 len]

theorem at1_calls (num mark N : Int) (bo : Nat) (w : World) (hN : w.cell? ⟨bo, 3, none⟩ = some (.int .i64 N)) :
    Calls Try.prog 58 #[.agg #[.int .i64 num, .int .i64 mark], .pointer (some ⟨bo, 0, none⟩)] w fun E w' => E = .returned (.bool (num == N)) ∧ Up w w' := by
  have hb := cell_lt hN
  have hb1 : bo < w.heap.size + 1 := by omega
  go_enter Try.func58, Try.ntmps58
  go_wp2
  go_ret
  exact ⟨rfl, by (repeat' (first | (with_reducible exact Up.refl _) | (with_reducible assumption) | (with_reducible refine Up.alloc ?_ _) | (with_reducible refine Up.drew ?_) | (with_reducible refine Up.drewN ?_ _) | (with_reducible refine Up.setCell ?_ ?_ _) | (with_reducible refine Up.call ?_ (by with_reducible assumption)) | go_size))⟩

end Go.Proofs.Ytjijbkehbeppjaa.Save
