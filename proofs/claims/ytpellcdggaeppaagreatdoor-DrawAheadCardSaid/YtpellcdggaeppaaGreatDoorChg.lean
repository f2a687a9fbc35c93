/- A world in which some listed blocks may have turned and nothing else that was there. No program in sight; no condition. -/
import Derived.Test.YtpellcdggaeppaaGreatDoorBase
import Derived.OneCell
import Derived.Laws.Rows
import Derived.Laws.Tables
namespace Go.Proofs.YtpellcdggaeppaaGreatDoor
open Go.RowKit

/-- of what was there nothing has turned but the blocks of S -/
structure Chg (S : List Nat) (w w' : World) : Prop where
  os : w'.os = w.os
  tape : w'.tape = w.tape
  output : w'.output = w.output
  size : w.heap.size ≤ w'.heap.size
  block : ∀ k, k < w.heap.size → k ∉ S → w'.heap[k]? = w.heap[k]?

theorem Chg.refl (S : List Nat) (w : World) : Chg S w w := ⟨rfl, rfl, rfl, Nat.le_refl _, fun _ _ _ => rfl⟩
theorem Chg.of_up {S : List Nat} {w w' : World} (h : Up w w') : Chg S w w' := ⟨h.os, h.tape, h.output, h.size, fun k hk _ => h.block k hk⟩
theorem Chg.up {w w' : World} (h : Chg [] w w') : Up w w' := ⟨h.os, h.tape, h.output, h.size, fun k hk => h.block k hk (by simp)⟩
theorem Chg.call {S S' : List Nat} {w a b : World} (h : Chg S w a) (k : Chg S' a b) (hs : ∀ x ∈ S', x ∈ S ∨ w.heap.size ≤ x) : Chg S w b :=
  ⟨k.os.trans h.os, k.tape.trans h.tape, k.output.trans h.output, Nat.le_trans h.size k.size, fun i hi hn => by
    rw [k.block i (Nat.lt_of_lt_of_le hi h.size) (fun hm => (hs i hm).elim hn (fun h2 => by omega)), h.block i hi hn]⟩
theorem Chg.upc {S : List Nat} {w a b : World} (h : Chg S w a) (k : Up a b) : Chg S w b := h.call (S' := []) (Chg.of_up k) (fun x hx => by simp at hx)
theorem Chg.mono {S S' : List Nat} {w a : World} (h : Chg S w a) (hs : ∀ x ∈ S, x ∈ S') : Chg S' w a :=
  ⟨h.os, h.tape, h.output, h.size, fun k hk hn => h.block k hk (fun hm => hn (hs k hm))⟩
theorem Chg.alloc {S : List Nat} {w a : World} (h : Chg S w a) (o : Obj) : Chg S w (a.alloc o) := h.upc (Up.alloc (Up.refl a) o)
theorem Chg.drew {S : List Nat} {w a : World} (h : Chg S w a) : Chg S w a.drew := h.upc (Up.drew (Up.refl a))
theorem Chg.drewN {S : List Nat} {w a : World} (h : Chg S w a) (n : Nat) : Chg S w (a.drewN n) := h.upc (Up.drewN (Up.refl a) n)
theorem Chg.setCell {S : List Nat} {w a : World} (h : Chg S w a) {p : Addr} (hp : p.block ∈ S ∨ w.heap.size ≤ p.block) (u : Value) : Chg S w (a.setCell p u) :=
  ⟨h.os, h.tape, h.output, by have := h.size; simp [World.setCell]; exact this, fun k hk hn => by
    rw [Below.heap_setCell _ _ _ _ (fun e => by subst e; exact hp.elim hn (fun h2 => by omega))]; exact h.block k hk hn⟩
theorem Chg.cells {S : List Nat} {W w1 : World} (hb : Chg S W w1) : (∀ b o, b < W.heap.size → b ∉ S → w1.cell? ⟨b, o, none⟩ = W.cell? ⟨b, o, none⟩) ∧ (∀ b o, b < W.heap.size → b ∉ S → w1.frozen? ⟨b, o, none⟩ = W.frozen? ⟨b, o, none⟩) :=
  ⟨fun b _ h hn => World.cell?_of_block (hb.block b h hn), fun b _ h hn => World.frozen?_of_block (hb.block b h hn)⟩

/-- a block that holds one value and may be written -/
def One (w : World) (b : Nat) (v : Value) : Prop := ∃ t, w.heap[b]? = some (.cells #[v] t (0, 0))
theorem One.cell {w : World} {b : Nat} {v : Value} (h : One w b v) : w.cell? ⟨b, 0, none⟩ = some v := by
  obtain ⟨t, h⟩ := h
  simp [World.cell?, h]
theorem One.free {w : World} {b : Nat} {v : Value} (h : One w b v) : w.frozen? ⟨b, 0, none⟩ = false := by
  obtain ⟨t, h⟩ := h
  simp [World.frozen?, h]
theorem One.lt {w : World} {b : Nat} {v : Value} (h : One w b v) : b < w.heap.size := by
  obtain ⟨t, h⟩ := h
  exact (Array.getElem?_eq_some_iff.1 h).1
theorem One.chg {S : List Nat} {w w' : World} {b : Nat} {v : Value} (h : One w b v) (hc : Chg S w w') (hn : b ∉ S) : One w' b v := by
  have hl := h.lt
  obtain ⟨t, h⟩ := h
  exact ⟨t, by rw [hc.block b hl hn]; exact h⟩
theorem One.up {w w' : World} {b : Nat} {v : Value} (h : One w b v) (hc : Up w w') : One w' b v := h.chg (S := []) (Chg.of_up hc) (by simp)
theorem One.set {w : World} {b : Nat} {v : Value} (h : One w b v) (u : Value) : One (w.setCell ⟨b, 0, none⟩ u) b u := by
  obtain ⟨t, h⟩ := h
  exact ⟨t, by simp [World.setCell, Array.getElem?_modify, h]⟩
theorem One.new (w : World) (v : Value) (t : TypeId) : One (w.alloc (.cells #[v] t)) w.heap.size v := ⟨t, heap_alloc_new w _⟩

theorem One.at {a : World} {b : Nat} (v : Value) (t : TypeId) (h : b = a.heap.size) : One (a.alloc (.cells #[v] t)) b v := by subst h; exact One.new a v t

/-- a block that holds these cells and may be written -/
def Row (w : World) (b : Nat) (cs : Array Value) : Prop := ∃ t, w.heap[b]? = some (.cells cs t (0, 0))
theorem Row.cell {w : World} {b : Nat} {cs : Array Value} (h : Row w b cs) (i : Nat) {v : Value} (hv : cs[i]? = some v) : w.cell? ⟨b, i, none⟩ = some v := by
  obtain ⟨t, h⟩ := h
  simp [World.cell?, h, hv]
theorem Row.free {w : World} {b : Nat} {cs : Array Value} (h : Row w b cs) (i : Nat) : w.frozen? ⟨b, i, none⟩ = false := by
  obtain ⟨t, h⟩ := h
  simp [World.frozen?, h]
theorem Row.lt {w : World} {b : Nat} {cs : Array Value} (h : Row w b cs) : b < w.heap.size := by
  obtain ⟨t, h⟩ := h
  exact (Array.getElem?_eq_some_iff.1 h).1
theorem Row.chg {S : List Nat} {w w' : World} {b : Nat} {cs : Array Value} (h : Row w b cs) (hc : Chg S w w') (hn : b ∉ S) : Row w' b cs := by
  have hl := h.lt
  obtain ⟨t, h⟩ := h
  exact ⟨t, by rw [hc.block b hl hn]; exact h⟩
theorem Row.up {w w' : World} {b : Nat} {cs : Array Value} (h : Row w b cs) (hc : Up w w') : Row w' b cs := h.chg (S := []) (Chg.of_up hc) (by simp)
theorem Row.set {w : World} {b : Nat} {cs : Array Value} (h : Row w b cs) (i : Nat) (u : Value) : Row (w.setCell ⟨b, i, none⟩ u) b (cs.setIfInBounds i u) := by
  obtain ⟨t, h⟩ := h
  exact ⟨t, by simp [World.setCell, Array.getElem?_modify, h]⟩
theorem Row.at {a : World} {b : Nat} (cs : Array Value) (t : TypeId) (h : b = a.heap.size) : Row (a.alloc (.cells cs t)) b cs := by subst h; exact ⟨t, heap_alloc_new a _⟩
theorem Row.alloc {a : World} {b : Nat} {cs : Array Value} (h : Row a b cs) (o : Obj) : Row (a.alloc o) b cs := h.up (Up.alloc (Up.refl a) o)
theorem Row.drew {a : World} {b : Nat} {cs : Array Value} (h : Row a b cs) : Row a.drew b cs := h
theorem Row.drewN {a : World} {b : Nat} {cs : Array Value} (h : Row a b cs) (n : Nat) : Row (a.drewN n) b cs := h.up (Up.drewN (Up.refl a) n)
theorem Row.other {a : World} {b : Nat} {cs : Array Value} {p : Addr} (h : Row a b cs) (hp : ¬ p.block = b) (u : Value) : Row (a.setCell p u) b cs := by
  obtain ⟨t, h⟩ := h
  exact ⟨t, by rw [Below.heap_setCell _ _ _ _ (fun e => hp e.symm)]; exact h⟩
theorem One.other {a : World} {b : Nat} {v : Value} {p : Addr} (h : One a b v) (hp : ¬ p.block = b) (u : Value) : One (a.setCell p u) b v := by
  obtain ⟨t, h⟩ := h
  exact ⟨t, by rw [Below.heap_setCell _ _ _ _ (fun e => hp e.symm)]; exact h⟩
theorem One.alloc {a : World} {b : Nat} {v : Value} (h : One a b v) (o : Obj) : One (a.alloc o) b v := h.up (Up.alloc (Up.refl a) o)
theorem One.drew {a : World} {b : Nat} {v : Value} (h : One a b v) : One a.drew b v := h
theorem One.drewN {a : World} {b : Nat} {v : Value} (h : One a b v) (n : Nat) : One (a.drewN n) b v := h.up (Up.drewN (Up.refl a) n)
theorem Row.one {w : World} {b : Nat} {v : Value} (h : One w b v) : Row w b #[v] := h
/-- a whole block is read -/
theorem wpList_load_Row {P : Program} {ops : Array Oper} {rest : List Oper} {o : Oper} {a : Act} {w : World} {Q : Exit → Act → World → Prop} (hgd : o.guard = none) (ty : TypeId) (x : Operand) (ho : o.op = .load ty x)
    (g : Nat) (hx : a.eval x = .pointer (some ⟨g, 0, none⟩)) (cs : Array Value) (d : TypeDesc) (hr : Row w g cs)
    (hu : P.underlying ty = some d) (hd : (match d with | .struct _ | .array _ _ => true | _ => false) = true) {n : Nat} (hi : (P.info? ty).map (·.size) = some n) (hn : cs.size = n)
    (h : wpList P ops Q rest (a.put o.dst (.agg cs)) w) : wpList P ops Q (o :: rest) a w := by
  obtain ⟨t, hb⟩ := hr
  exact wpList_load_row hgd ty x ho g hx t cs (0, 0) d hb hu hd (by rw [hn]; exact hi) h
/-- a whole block is written -/
theorem wpList_store_Row {P : Program} {ops : Array Oper} {rest : List Oper} {o : Oper} {a : Act} {w : World} {Q : Exit → Act → World → Prop} (hgd : o.guard = none) (ty : TypeId) (x y : Operand) (ho : o.op = .store ty x y)
    (g : Nat) (cells : Array Value) (hx : a.eval x = .pointer (some ⟨g, 0, none⟩)) (hy : a.eval y = .agg cells)
    (old : Array Value) (hg : Row w g old) {n : Nat} (hi : (P.info? ty).map (·.size) = some n) (hn : cells.size = n)
    (hold : old.size = n) (h1 : cells.all (·.oneCell') = true)
    (h : ∀ w2, Row w2 g cells → Chg [g] w w2 → wpList P ops Q rest (a.put o.dst undef) w2) : wpList P ops Q (o :: rest) a w := by
  obtain ⟨t, hb⟩ := hg
  refine wpList_store_row hgd ty x y ho g cells hx hy t old hb (by rw [hn]; exact hi) (by rw [hn]; exact hold) h1 (h _ ⟨t, setRow_heap w g old cells t (0, 0) hb⟩ ⟨rfl, rfl, rfl, by simp, fun k hk hns => ?_⟩)
  have hne : ¬ g = k := fun e => hns (by simp [e])
  simp [World.setRow, Array.getElem?_modify, hne]

end Go.Proofs.YtpellcdggaeppaaGreatDoor
