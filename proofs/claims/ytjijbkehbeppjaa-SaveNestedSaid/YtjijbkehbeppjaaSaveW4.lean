/- Saves: which one an object is. -/
import Derived.Test.YtjijbkehbeppjaaSaveW3
namespace Go.Proofs.Ytjijbkehbeppjaa.Save
open Go.ChangeShapes Go.WideShapes Go.ChangeAt Go.RowKit
open Go.Proofs.Ytjijbkehbeppjaa.SaveM
set_option linter.unusedVariables false
set_option linter.unusedSimpArgs false

theorem index_calls (l : List Sv) (v : Value) (N : Int) (bo : Nat) (w : World) (h : w.ownsRow 0 91 2 v l.length (stCells l)) (hlen : l.length ≤ 1000) (hN : w.cell? ⟨bo, 3, none⟩ = some (.int .i64 N)) :
    Calls Try.prog 57 #[v, .func (.func 58) #[] #[.pointer (some ⟨bo, 0, none⟩)]] w fun E w' => E = .returned (.int .i64 (idxS (fun s => s.1 == N) l)) ∧ Up w w' := by
  have hbo := cell_lt hN
  rcases owned_form h with ⟨rfl, hl⟩ | ⟨g, cap, rfl, hn, hm, hg⟩
  · have HE := Lib.hid (show idxS (fun s => s.1 == N) l = -1 by rw [List.eq_nil_of_length_eq_zero hl]; rfl)
    clear h
    go_enter Try.func57, Try.ntmps57
    go_wp2
    refine wp_loop_rounds 1 ?_
    repeat any_goals (rw [rounds_succ]; go_wp2)
    go_ret
    exact ⟨by rw [HE.out]; rfl, by (repeat' (first | (with_reducible exact Up.refl _) | (with_reducible assumption) | (with_reducible refine Up.alloc ?_ _) | (with_reducible refine Up.drew ?_) | (with_reducible refine Up.drewN ?_ _) | (with_reducible refine Up.setCell ?_ ?_ _) | (with_reducible refine Up.call ?_ (by with_reducible assumption)) | go_size))⟩
  · have HS := Lib.hid h
    clear h
    go_enter Try.func57, Try.ntmps57
    go_wp2
    go_loopw [8] (fun i wr => ∃ k : Nat, k ≤ l.length ∧ i = .int .i64 k ∧ (l.take k).any (fun s => s.1 == N) = false ∧ Up w wr) (fun i _ => l.length - (intOf i).toNat)
    case atStart => exact ⟨0, Nat.zero_le _, rfl, rfl, Up.refl _⟩
    case round =>
      obtain ⟨k, hk, rfl, hno, hup⟩ := hrel
      have HN := Lib.hid hno
      clear hno
      by_cases hlt : k < l.length
      · obtain ⟨x, y, hxy⟩ : ∃ x y, l[k] = (x, y) := ⟨_, _, rfl⟩
        have hg2 : l[k]? = some (x, y) := by rw [List.getElem?_eq_getElem hlt, hxy]
        obtain ⟨e0, e1⟩ := stCells_at l k (x, y) hg2
        have hq0 : wr.cell? ⟨g, k * 2, none⟩ = some (.int .i64 x) := (hup.cells.1 g _ hg).trans ((HS.out.cellAt _ (by omega)).trans e0)
        have hq1 : wr.cell? ⟨g, k * 2 + 1, none⟩ = some (.int .i64 y) := (hup.cells.1 g _ hg).trans ((HS.out.cellAt _ (by omega)).trans e1)
        have hNr : wr.cell? ⟨bo, 3, none⟩ = some (.int .i64 N) := (hup.cells.1 bo _ hbo).trans hN
        have hz := hup.size
        have HG := Lib.hid hg2
        have HL := Lib.hid (And.intro hlt hxy)
        clear hg2 hxy e0 e1
        obtain ⟨t, ht⟩ : ∃ t, (x == N) = t := ⟨_, rfl⟩
        have HT := Lib.hid ht
        clear ht
        cases t
        · go_wp2_with (go_at_call 58; ((with_reducible refine (at1_calls x y N bo _ hNr).mono ?_); rintro E w1 ⟨rfl, hu1⟩; rw [HT.out]))
          go_roundw
          case rel => exact ⟨k + 1, by omega, by go_num, by rw [List.take_succ_eq_append_getElem HL.out.1, List.any_append, HN.out, HL.out.2]; simpa using HT.out, by (repeat' (first | (with_reducible exact Up.refl _) | (with_reducible assumption) | (with_reducible refine Up.alloc ?_ _) | (with_reducible refine Up.drew ?_) | (with_reducible refine Up.drewN ?_ _) | (with_reducible refine Up.setCell ?_ ?_ _) | (with_reducible refine Up.call ?_ (by with_reducible assumption)) | go_size))⟩
          case measure => have := HL.out.1; simp [intOf]; omega
        · have HE : Hid (idxS (fun s => s.1 == N) l = k) := Lib.hid (by
            have ha : l.any (fun s => s.1 == N) = true := List.any_eq_true.2 ⟨(x, y), List.mem_of_getElem? HG.out, HT.out⟩
            unfold idxS
            rw [if_pos ha]
            congr 1
            rw [List.findIdx_eq HL.out.1]
            refine ⟨by rw [HL.out.2]; exact HT.out, fun j hj => ?_⟩
            have h1 := HN.out
            rw [List.any_eq_false] at h1
            have h2 := h1 (l[j]'(by have := HL.out.1; omega)) (List.mem_take_iff_getElem.2 ⟨j, by have := HL.out.1; omega, rfl⟩)
            simpa using h2)
          go_wp2_with (go_at_call 58; ((with_reducible refine (at1_calls x y N bo _ hNr).mono ?_); rintro E w1 ⟨rfl, hu1⟩; rw [HT.out]))
          go_ret
          exact ⟨by rw [HE.out]; rfl, by (repeat' (first | (with_reducible exact Up.refl _) | (with_reducible assumption) | (with_reducible refine Up.alloc ?_ _) | (with_reducible refine Up.drew ?_) | (with_reducible refine Up.drewN ?_ _) | (with_reducible refine Up.setCell ?_ ?_ _) | (with_reducible refine Up.call ?_ (by with_reducible assumption)) | go_size))⟩
      · have HE : Hid (idxS (fun s => s.1 == N) l = -1) := Lib.hid (by
          have := HN.out
          rw [List.take_of_length_le (by omega)] at this
          unfold idxS
          rw [this]
          rfl)
        go_wp2
        go_ret
        exact ⟨by rw [HE.out]; rfl, by (repeat' (first | (with_reducible exact Up.refl _) | (with_reducible assumption) | (with_reducible refine Up.alloc ?_ _) | (with_reducible refine Up.drew ?_) | (with_reducible refine Up.drewN ?_ _) | (with_reducible refine Up.setCell ?_ ?_ _) | (with_reducible refine Up.call ?_ (by with_reducible assumption)) | go_size))⟩

/-- which of the saves an object is -/
def atS (kind N : Int) (l : List Sv) : Int := if kind = 10 then idxS (fun s => s.1 == N) l else -1
theorem at_calls (bs bt : Nat) (vl vm : Value) (l : List Sv) (last free : Int) (n : Nat) (kind : Int) (exec : Bool) (acc N : Int) (name : ByteArray) (ref frm ln : Int) (w : World) (h : SavesIs w bs bt vl vm l last free n) :
    Calls Try.prog 38 #[.pointer (some ⟨bs, 0, none⟩), .agg #[.int .i64 kind, .bool exec, .int .i64 acc, .int .i64 N, .string name, .int .i64 ref, .int .i64 frm, .int .i64 ln]] w fun E w' => E = .returned (.int .i64 (atS kind N l)) ∧ Up w w' := by
  have q0 : w.cell? ⟨bs, 0, none⟩ = some (.pointer (some ⟨bt, 0, none⟩)) := h.row.cell 0 rfl
  have q1 : w.cell? ⟨bs, 1, none⟩ = some vl := h.row.cell 1 rfl
  have hbs := h.row.lt
  have hb1 : bs < w.heap.size + 1 := by omega
  have HO := Lib.hid h.own
  have hlen := h.len
  clear h
  by_cases hk : kind = 10
  · subst hk
    have HE := Lib.hid (show atS 10 N l = idxS (fun s => s.1 == N) l from rfl)
    go_enter Try.func38, Try.ntmps38
    go_wp2_with (first
      | (go_at_call 36; ((with_reducible refine (none_calls bs bt _ (((show Up w _ by (repeat' (first | (with_reducible exact Up.refl _) | (with_reducible assumption) | (with_reducible refine Up.alloc ?_ _) | (with_reducible refine Up.drew ?_) | (with_reducible refine Up.drewN ?_ _) | (with_reducible refine Up.setCell ?_ ?_ _) | (with_reducible refine Up.call ?_ (by with_reducible assumption)) | go_size))).cells.1 bs 0 hbs).trans q0)).mono ?_); rintro E w1 ⟨rfl, rfl⟩))
      | (go_at_call 57; ((with_reducible refine (index_calls l vl N w.heap.size _ (owned_up HO.out (by (repeat' (first | (with_reducible exact Up.refl _) | (with_reducible assumption) | (with_reducible refine Up.alloc ?_ _) | (with_reducible refine Up.drew ?_) | (with_reducible refine Up.drewN ?_ _) | (with_reducible refine Up.setCell ?_ ?_ _) | (with_reducible refine Up.call ?_ (by with_reducible assumption)) | go_size)))) hlen ((show Row _ w.heap.size #[.int .i64 10, .bool exec, .int .i64 acc, .int .i64 N, .string name, .int .i64 ref, .int .i64 frm, .int .i64 ln] by (repeat' (first | (with_reducible assumption) | (with_reducible refine Row.at _ _ ?_; (simp; done)) | (with_reducible refine Row.alloc ?_ _) | (with_reducible refine Row.drew ?_) | (with_reducible refine Row.drewN ?_ _) | (with_reducible refine Row.other ?_ (by first | (simp; done) | (simp; omega) | omega) _) | (with_reducible refine Row.up ?_ (by with_reducible assumption)) | (with_reducible refine Row.chg ?_ (by with_reducible assumption) (by first | (simp; done) | (simp; omega)))))).cell 3 rfl)).mono ?_); rintro E w2 ⟨rfl, hu2⟩)))
    go_ret
    exact ⟨by rw [HE.out]; rfl, by (repeat' (first | (with_reducible exact Up.refl _) | (with_reducible assumption) | (with_reducible refine Up.alloc ?_ _) | (with_reducible refine Up.drew ?_) | (with_reducible refine Up.drewN ?_ _) | (with_reducible refine Up.setCell ?_ ?_ _) | (with_reducible refine Up.call ?_ (by with_reducible assumption)) | go_size))⟩
  · have HE := Lib.hid (show atS kind N l = -1 by unfold atS; rw [if_neg hk])
    have dk : (kind != 10) = true := by simpa using hk
    clear hk
    go_enter Try.func38, Try.ntmps38
    go_wp2_with (go_at_call 36; ((with_reducible refine (none_calls bs bt _ (((show Up w _ by (repeat' (first | (with_reducible exact Up.refl _) | (with_reducible assumption) | (with_reducible refine Up.alloc ?_ _) | (with_reducible refine Up.drew ?_) | (with_reducible refine Up.drewN ?_ _) | (with_reducible refine Up.setCell ?_ ?_ _) | (with_reducible refine Up.call ?_ (by with_reducible assumption)) | go_size))).cells.1 bs 0 hbs).trans q0)).mono ?_); rintro E w1 ⟨rfl, rfl⟩))
    go_ret
    exact ⟨by rw [HE.out]; rfl, by (repeat' (first | (with_reducible exact Up.refl _) | (with_reducible assumption) | (with_reducible refine Up.alloc ?_ _) | (with_reducible refine Up.drew ?_) | (with_reducible refine Up.drewN ?_ _) | (with_reducible refine Up.setCell ?_ ?_ _) | (with_reducible refine Up.call ?_ (by with_reducible assumption)) | go_size))⟩
theorem at_nil (kind : Int) (exec : Bool) (acc N : Int) (name : ByteArray) (ref frm ln : Int) (w : World)  :
    Calls Try.prog 38 #[.pointer none, .agg #[.int .i64 kind, .bool exec, .int .i64 acc, .int .i64 N, .string name, .int .i64 ref, .int .i64 frm, .int .i64 ln]] w fun E w' => E = .returned (.int .i64 (-1)) ∧ Up w w' := by
  go_enter Try.func38, Try.ntmps38
  go_wp2_with (go_at_call 36; ((with_reducible refine (none_nil _).mono ?_); rintro E w1 ⟨rfl, rfl⟩))
  go_ret
  exact ⟨rfl, by (repeat' (first | (with_reducible exact Up.refl _) | (with_reducible assumption) | (with_reducible refine Up.alloc ?_ _) | (with_reducible refine Up.drew ?_) | (with_reducible refine Up.drewN ?_ _) | (with_reducible refine Up.setCell ?_ ?_ _) | (with_reducible refine Up.call ?_ (by with_reducible assumption)) | go_size))⟩
theorem alive_nil (kind : Int) (exec : Bool) (acc N : Int) (name : ByteArray) (ref frm ln : Int) (w : World)  :
    Calls Try.prog 13 #[.pointer none, .agg #[.int .i64 kind, .bool exec, .int .i64 acc, .int .i64 N, .string name, .int .i64 ref, .int .i64 frm, .int .i64 ln]] w fun E w' => E = .returned (.bool false) ∧ Up w w' := by
  go_enter Try.func13, Try.ntmps13
  go_wp2_with (go_at_call 38; ((with_reducible refine (at_nil kind exec acc N name ref frm ln _).mono ?_); rintro E w1 ⟨rfl, hu1⟩))
  go_ret
  exact ⟨rfl, by (repeat' (first | (with_reducible exact Up.refl _) | (with_reducible assumption) | (with_reducible refine Up.alloc ?_ _) | (with_reducible refine Up.drew ?_) | (with_reducible refine Up.drewN ?_ _) | (with_reducible refine Up.setCell ?_ ?_ _) | (with_reducible refine Up.call ?_ (by with_reducible assumption)) | go_size))⟩
theorem depth_nil (w : World)  :
    Calls Try.prog 12 #[.pointer none] w fun E w' => E = .returned (.int .i64 0) ∧ Up w w' := by
  go_enter Try.func12, Try.ntmps12
  go_wp2_with (go_at_call 36; ((with_reducible refine (none_nil _).mono ?_); rintro E w1 ⟨rfl, rfl⟩))
  go_ret
  exact ⟨rfl, by (repeat' (first | (with_reducible exact Up.refl _) | (with_reducible assumption) | (with_reducible refine Up.alloc ?_ _) | (with_reducible refine Up.drew ?_) | (with_reducible refine Up.drewN ?_ _) | (with_reducible refine Up.setCell ?_ ?_ _) | (with_reducible refine Up.call ?_ (by with_reducible assumption)) | go_size))⟩
theorem at_empty (kind : Int) (exec : Bool) (acc N : Int) (name : ByteArray) (ref frm ln : Int) (w : World) (bs : Nat) (hbs : bs < w.heap.size) (q0 : w.cell? ⟨bs, 0, none⟩ = some (.pointer none)) :
    Calls Try.prog 38 #[.pointer (some ⟨bs, 0, none⟩), .agg #[.int .i64 kind, .bool exec, .int .i64 acc, .int .i64 N, .string name, .int .i64 ref, .int .i64 frm, .int .i64 ln]] w fun E w' => E = .returned (.int .i64 (-1)) ∧ Up w w' := by
  have hb1 : bs < w.heap.size + 1 := by omega
  go_enter Try.func38, Try.ntmps38
  go_wp2_with (go_at_call 36; ((with_reducible refine (none_empty bs _ (((show Up w _ by (repeat' (first | (with_reducible exact Up.refl _) | (with_reducible assumption) | (with_reducible refine Up.alloc ?_ _) | (with_reducible refine Up.drew ?_) | (with_reducible refine Up.drewN ?_ _) | (with_reducible refine Up.setCell ?_ ?_ _) | (with_reducible refine Up.call ?_ (by with_reducible assumption)) | go_size))).cells.1 bs 0 hbs).trans q0)).mono ?_); rintro E w1 ⟨rfl, rfl⟩))
  go_ret
  exact ⟨rfl, by (repeat' (first | (with_reducible exact Up.refl _) | (with_reducible assumption) | (with_reducible refine Up.alloc ?_ _) | (with_reducible refine Up.drew ?_) | (with_reducible refine Up.drewN ?_ _) | (with_reducible refine Up.setCell ?_ ?_ _) | (with_reducible refine Up.call ?_ (by with_reducible assumption)) | go_size))⟩
theorem alive_empty (kind : Int) (exec : Bool) (acc N : Int) (name : ByteArray) (ref frm ln : Int) (w : World) (bs : Nat) (hbs : bs < w.heap.size) (q0 : w.cell? ⟨bs, 0, none⟩ = some (.pointer none)) :
    Calls Try.prog 13 #[.pointer (some ⟨bs, 0, none⟩), .agg #[.int .i64 kind, .bool exec, .int .i64 acc, .int .i64 N, .string name, .int .i64 ref, .int .i64 frm, .int .i64 ln]] w fun E w' => E = .returned (.bool false) ∧ Up w w' := by
  have hb1 : bs < w.heap.size + 1 := by omega
  go_enter Try.func13, Try.ntmps13
  go_wp2_with (go_at_call 38; ((with_reducible refine (at_empty kind exec acc N name ref frm ln _ bs (by (try simp); omega) (((show Up w _ by (repeat' (first | (with_reducible exact Up.refl _) | (with_reducible assumption) | (with_reducible refine Up.alloc ?_ _) | (with_reducible refine Up.drew ?_) | (with_reducible refine Up.drewN ?_ _) | (with_reducible refine Up.setCell ?_ ?_ _) | (with_reducible refine Up.call ?_ (by with_reducible assumption)) | go_size))).cells.1 bs 0 hbs).trans q0)).mono ?_); rintro E w1 ⟨rfl, hu1⟩))
  go_ret
  exact ⟨rfl, by (repeat' (first | (with_reducible exact Up.refl _) | (with_reducible assumption) | (with_reducible refine Up.alloc ?_ _) | (with_reducible refine Up.drew ?_) | (with_reducible refine Up.drewN ?_ _) | (with_reducible refine Up.setCell ?_ ?_ _) | (with_reducible refine Up.call ?_ (by with_reducible assumption)) | go_size))⟩
theorem depth_empty (w : World) (bs : Nat) (hbs : bs < w.heap.size) (q0 : w.cell? ⟨bs, 0, none⟩ = some (.pointer none)) :
    Calls Try.prog 12 #[.pointer (some ⟨bs, 0, none⟩)] w fun E w' => E = .returned (.int .i64 0) ∧ Up w w' := by
  have hb1 : bs < w.heap.size + 1 := by omega
  go_enter Try.func12, Try.ntmps12
  go_wp2_with (go_at_call 36; ((with_reducible refine (none_empty bs _ (((show Up w _ by (repeat' (first | (with_reducible exact Up.refl _) | (with_reducible assumption) | (with_reducible refine Up.alloc ?_ _) | (with_reducible refine Up.drew ?_) | (with_reducible refine Up.drewN ?_ _) | (with_reducible refine Up.setCell ?_ ?_ _) | (with_reducible refine Up.call ?_ (by with_reducible assumption)) | go_size))).cells.1 bs 0 hbs).trans q0)).mono ?_); rintro E w1 ⟨rfl, rfl⟩))
  go_ret
  exact ⟨rfl, by (repeat' (first | (with_reducible exact Up.refl _) | (with_reducible assumption) | (with_reducible refine Up.alloc ?_ _) | (with_reducible refine Up.drew ?_) | (with_reducible refine Up.drewN ?_ _) | (with_reducible refine Up.setCell ?_ ?_ _) | (with_reducible refine Up.call ?_ (by with_reducible assumption)) | go_size))⟩
theorem alive_calls (bs bt : Nat) (vl vm : Value) (l : List Sv) (last free : Int) (n : Nat) (kind : Int) (exec : Bool) (acc N : Int) (name : ByteArray) (ref frm ln : Int) (w : World) (h : SavesIs w bs bt vl vm l last free n) (x : Int) (hx : atS kind N l = x) :
    Calls Try.prog 13 #[.pointer (some ⟨bs, 0, none⟩), .agg #[.int .i64 kind, .bool exec, .int .i64 acc, .int .i64 N, .string name, .int .i64 ref, .int .i64 frm, .int .i64 ln]] w fun E w' => E = .returned (.bool (decide (0 ≤ x))) ∧ Up w w' := by
  have HS := Lib.hid h
  have HX := Lib.hid hx
  clear h hx
  go_enter Try.func13, Try.ntmps13
  go_wp2_with (go_at_call 38; ((with_reducible refine (at_calls bs bt vl vm l last free n kind exec acc N name ref frm ln _ (HS.out.up (by (repeat' (first | (with_reducible exact Up.refl _) | (with_reducible assumption) | (with_reducible refine Up.alloc ?_ _) | (with_reducible refine Up.drew ?_) | (with_reducible refine Up.drewN ?_ _) | (with_reducible refine Up.setCell ?_ ?_ _) | (with_reducible refine Up.call ?_ (by with_reducible assumption)) | go_size))))).mono ?_); rintro E w1 ⟨rfl, hu1⟩; rw [HX.out]))
  go_ret
  exact ⟨rfl, by (repeat' (first | (with_reducible exact Up.refl _) | (with_reducible assumption) | (with_reducible refine Up.alloc ?_ _) | (with_reducible refine Up.drew ?_) | (with_reducible refine Up.drewN ?_ _) | (with_reducible refine Up.setCell ?_ ?_ _) | (with_reducible refine Up.call ?_ (by with_reducible assumption)) | go_size))⟩

end Go.Proofs.Ytjijbkehbeppjaa.Save
