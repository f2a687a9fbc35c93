/- Law 18's light of any object. No condition. -/
import Derived.Test.YtpellcdggaeppaaGreatDoorPobT
namespace Go.Proofs.YtpellcdggaeppaaGreatDoor.Pob
open Go.ChangeShapes Go.WideShapes Go.RowKit Go.Shelf
set_option linter.unusedVariables false
set_option linter.unusedSimpArgs false


/-- law 18's light -/
def lightR : Nat → PO → Bool
  | 0, _ => false
  | n + 1, o => decide (o.l.length ≤ 300) && decide (o.ks.length ≤ 300) && decide (o.t.length ≤ 70000) && decide (o.d.length ≤ 5000) && o.ks.all (fun s => decide (s.length ≤ 300)) && o.l.all (lightR n)
theorem lightR_elim {n : Nat} {o : PO} (h : lightR n o = true) : ∃ m, n = m + 1 ∧ o.l.length ≤ 300 ∧ o.ks.length ≤ 300 ∧ o.t.length ≤ 70000 ∧ o.d.length ≤ 5000 ∧ (∀ s ∈ o.ks, s.length ≤ 300) ∧ ∀ c ∈ o.l, lightR m c = true := by
  cases n with
  | zero => cases h
  | succ m =>
    simp only [lightR, Bool.and_eq_true, decide_eq_true_eq, List.all_eq_true] at h
    exact ⟨m, rfl, h.1.1.1.1.1, h.1.1.1.1.2, h.1.1.1.2, h.1.1.2, h.1.2, h.2⟩
theorem all_step {α : Type} {p : α → Bool} {l : List α} {k : Nat} {c : α} (hk : l[k]? = some c) (h : (l.take k).all p = true) (hc : p c = true) : (l.take (k + 1)).all p = true := by
  rw [List.take_add_one, hk]
  simp only [Option.toList_some, List.all_append, h, List.all_cons, hc, List.all_nil, Bool.and_self]
theorem all_miss {α : Type} {p : α → Bool} {l : List α} {k : Nat} {c : α} (hk : l[k]? = some c) (hc : p c = false) : l.all p = false := by
  rw [List.all_eq_false]
  exact ⟨c, List.mem_of_getElem? hk, by simp [hc]⟩
theorem all_full {α : Type} {p : α → Bool} {l : List α} {k : Nat} (hk : l.length = k) (h : (l.take k).all p = true) : l.all p = true := by
  rwa [List.take_of_length_le (by omega)] at h
theorem po_at {w wr : World} {b o k : Nat} {l : List PO} (hb : b < w.heap.size) (hc : ∀ (i : Nat) (s : PO) (j : Nat) (u : Value), l[i]? = some s → s.cells[j]? = some u → w.cell? ⟨b, o + i * 6 + j, none⟩ = some u) (hu : Up w wr) {ck cn : Int} {ct : List UInt8} {cka : Option Addr} {ckl ckc : Nat} {cks : List (List UInt8)} {cla : Option Addr} {cll clc : Nat} {cl : List PO} {cda : Option Addr} {cdl cdc : Nat} {cd : List UInt8} (hk : l[k]? = some (.mk ck cn ct cka ckl ckc cks cla cll clc cl cda cdl cdc cd)) :
    wr.cell? ⟨b, o + k * 6, none⟩ = some (.int .i64 ck) ∧ wr.cell? ⟨b, o + k * 6 + 1, none⟩ = some (.int .i64 cn) ∧ wr.cell? ⟨b, o + k * 6 + 2, none⟩ = some (.string ⟨ct.toArray⟩) ∧ wr.cell? ⟨b, o + k * 6 + 3, none⟩ = some (.slice cka ckl ckc) ∧ wr.cell? ⟨b, o + k * 6 + 4, none⟩ = some (.slice cla cll clc) ∧ wr.cell? ⟨b, o + k * 6 + 5, none⟩ = some (.slice cda cdl cdc) :=
  ⟨(hu.cells.1 b _ hb).trans (hc k _ 0 _ hk rfl), (hu.cells.1 b _ hb).trans (hc k _ 1 _ hk rfl), (hu.cells.1 b _ hb).trans (hc k _ 2 _ hk rfl), (hu.cells.1 b _ hb).trans (hc k _ 3 _ hk rfl), (hu.cells.1 b _ hb).trans (hc k _ 4 _ hk rfl), (hu.cells.1 b _ hb).trans (hc k _ 5 _ hk rfl)⟩
/-- a list that came in, where it has elements -/
theorem sl_some {α : Type} {K : Nat} {cells : α → List Value} {w : World} {a : Option Addr} {len cap : Nat} {l : List α} (h : Sl K cells w a len cap l) (h0 : 0 < len) : ∃ b o, a = some ⟨b, o, none⟩ ∧ b < w.heap.size ∧ ∀ (i : Nat) (s : α) (j : Nat) (u : Value), l[i]? = some s → (cells s)[j]? = some u → w.cell? ⟨b, o + i * K + j, none⟩ = some u := h.2.2.2.2 h0

end Go.Proofs.YtpellcdggaeppaaGreatDoor.Pob
