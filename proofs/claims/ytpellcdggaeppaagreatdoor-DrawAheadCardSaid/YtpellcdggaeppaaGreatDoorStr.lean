/- Strings as lists of bytes, in a walk: a cut, and the row that []byte of a string makes. No program in sight; no condition. -/
import Derived.Test.YtpellcdggaeppaaGreatDoorBase
import Derived.Laws.Strings2
namespace Go.Proofs.YtpellcdggaeppaaGreatDoor
open Go Go.RowKit

theorem run_slice_list {P : Program} (w : World) (t : TypeId) (l : List UInt8) (k k' : IntKind) (i j : Int) (h : P.underlying t = some .string) (h0 : 0 ≤ i) (h1 : i ≤ j) (h2 : j ≤ l.length) :
    (Instr.slice t (.string ⟨l.toArray⟩) (some (.int k i)) (some (.int k' j)) none).run P w = .ok (.string ⟨((l.drop i.toNat).take (j.toNat - i.toNat)).toArray⟩) w := by
  rw [run_slice_string w t ⟨l.toArray⟩ k k' i j h h0 h1 h2]
  congr 2
  apply ByteArray.ext
  simp [ByteArray.data_extract, List.extract_eq_take_drop]
theorem cell_bytes (w : World) (l : List UInt8) (c : Nat) (e : TypeId) (fr : Nat × Nat) (j : Nat) (h : j < l.length) : (w.alloc (.cells (bytesRow ⟨l.toArray⟩ c) e fr)).cell? ⟨w.heap.size, j, none⟩ = some (.int .u8 ((l.getD j 0).toNat : Int)) := by
  rw [World.cell?_alloc_mark, bytesRow_at _ _ _ (by simpa using h)]
  simp [h]
theorem run_index_list {P : Program} (w : World) (t : TypeId) (l : List UInt8) (k : IntKind) (j : Nat) (h : P.underlying t = some .string) (hj : j < l.length) :
    (Instr.index t (.string ⟨l.toArray⟩) (.int k (j : Int))).run P w = .ok (.int .u8 ((l.getD j 0).toNat : Int)) w := by
  have hs : (⟨l.toArray⟩ : ByteArray).size = l.length := rfl
  rw [run_index_string w t ⟨l.toArray⟩ k j h, dif_pos ⟨by omega, by rw [hs]; omega⟩]
  congr 3
  simp [List.getD, hj, ByteArray.getElem_eq_getElem_data]
theorem bytes_of_list {P : Program} (w : World) (src dst e : TypeId) (l : List UInt8) (hs : P.underlying src = some .string) (hd : P.underlying dst = some (.slice e)) (he : P.underlying e = some (.int .u8)) :
    ∃ cap w1, (convert src dst (.string ⟨l.toArray⟩)).run P w = .ok (.slice (some ⟨w.heap.size, 0, none⟩) l.length cap) w1 ∧ Up w w1 ∧ w.heap.size < w1.heap.size ∧ ∀ j, j < l.length → w1.cell? ⟨w.heap.size, j, none⟩ = some (.int .u8 ((l.getD j 0).toNat : Int)) :=
  ⟨_, _, run_bytes_of_string w src dst e ⟨l.toArray⟩ hs hd he, Up.alloc (Up.drew (Up.refl w)) _, by simp, fun j hj => cell_bytes w.drew l _ e _ j hj⟩

end Go.Proofs.YtpellcdggaeppaaGreatDoor
