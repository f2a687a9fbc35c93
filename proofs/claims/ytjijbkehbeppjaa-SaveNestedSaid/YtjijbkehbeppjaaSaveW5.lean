/- A save is made. -/
import Derived.Test.YtjijbkehbeppjaaSaveW4
import Derived.Deep.RegionLaw
import Derived.Deep.Cut
import Derived.Deep.CutRange
namespace Go.Proofs.Ytjijbkehbeppjaa.Save
open Go.ChangeShapes Go.WideShapes Go.ChangeAt Go.RowKit
open Go.Proofs.Ytjijbkehbeppjaa.SaveM
set_option linter.unusedVariables false
set_option linter.unusedSimpArgs false

theorem svOne (x y : Int) : ∀ u ∈ [Value.int .i64 x, .int .i64 y], u.oneCell' = true := by
  intro u hu
  simp only [List.mem_cons, List.not_mem_nil, or_false] at hu
  rcases hu with rfl | rfl <;> rfl
theorem results_save (tmps : Array Value) (w : World) (b2 : Nat) (e : Int) (kind : Int) (exec : Bool) (acc N : Int) (name : ByteArray) (ref frm ln : Int) (h2 : Row w b2 #[.int .i64 kind, .bool exec, .int .i64 acc, .int .i64 N, .string name, .int .i64 ref, .int .i64 frm, .int .i64 ln])
    (e2 : tmps[2]?.getD undef = .pointer (some ⟨b2, 0, none⟩)) (e3 : tmps[3]?.getD undef = .int .i64 e) :
    (results Try.f9 tmps).run Try.prog w = .ok (.tuple #[.agg #[.int .i64 kind, .bool exec, .int .i64 acc, .int .i64 N, .string name, .int .i64 ref, .int .i64 frm, .int .i64 ln], .int .i64 e]) w := by
  have c0 := h2.cell 0 rfl
  have c1 := h2.cell 1 rfl
  have c2 := h2.cell 2 rfl
  have c3 := h2.cell 3 rfl
  have c4 := h2.cell 4 rfl
  have c5 := h2.cell 5 rfl
  have c6 := h2.cell 6 rfl
  have c7 := h2.cell 7 rfl
  simp [results, Try.results9, go_sem, e2, e3, c0, c1, c2, c3, c4, c5, c6, c7]
theorem save_nil (w : World)  :
    Calls Try.prog 9 #[.pointer none] w fun E w' => E = .returned (.tuple #[.agg #[.int .i64 0, .bool false, .int .i64 0, .int .i64 0, .string ⟨#[]⟩, .int .i64 0, .int .i64 0, .int .i64 0], .int .i64 21]) ∧ Up w w' := by
  go_enter Try.func9, Try.ntmps9
  go_wp2_with (go_at_call 36; ((with_reducible refine (none_nil _).mono ?_); rintro E w1 ⟨rfl, rfl⟩))
  (try simp only [Exit.inBlock, Exit.then])
  refine bodyPost_ret (results_save _ _ w.heap.size 21 0 false 0 0 ⟨#[]⟩ 0 0 0 (by apply cast; (case h => (repeat (first | (with_reducible assumption) | (with_reducible apply Row.at; (simp; done)) | (with_reducible apply Row.alloc) | (with_reducible apply Row.drew) | (with_reducible apply Row.drewN) | (with_reducible apply Row.set) | ((with_reducible apply Row.other); (case hp => first | (simp; done) | (simp; omega) | omega))))); (case e => rfl)) rfl rfl) rfl ?_
  exact ⟨rfl, by (repeat' (first | (with_reducible exact Up.refl _) | (with_reducible assumption) | (with_reducible refine Up.alloc ?_ _) | (with_reducible refine Up.drew ?_) | (with_reducible refine Up.drewN ?_ _) | (with_reducible refine Up.setCell ?_ ?_ _) | (with_reducible refine Up.call ?_ (by with_reducible assumption)) | go_size))⟩
theorem save_empty (w : World) (bs : Nat) (hbs : bs < w.heap.size) (q0 : w.cell? ⟨bs, 0, none⟩ = some (.pointer none)) :
    Calls Try.prog 9 #[.pointer (some ⟨bs, 0, none⟩)] w fun E w' => E = .returned (.tuple #[.agg #[.int .i64 0, .bool false, .int .i64 0, .int .i64 0, .string ⟨#[]⟩, .int .i64 0, .int .i64 0, .int .i64 0], .int .i64 21]) ∧ Up w w' := by
  have hb1 : bs < w.heap.size + 1 := by omega
  go_enter Try.func9, Try.ntmps9
  go_wp2_with (go_at_call 36; ((with_reducible refine (none_empty bs _ (((show Up w _ by (repeat' (first | (with_reducible exact Up.refl _) | (with_reducible assumption) | (with_reducible refine Up.alloc ?_ _) | (with_reducible refine Up.drew ?_) | (with_reducible refine Up.drewN ?_ _) | (with_reducible refine Up.setCell ?_ ?_ _) | (with_reducible refine Up.call ?_ (by with_reducible assumption)) | go_size))).cells.1 bs 0 hbs).trans q0)).mono ?_); rintro E w1 ⟨rfl, rfl⟩))
  (try simp only [Exit.inBlock, Exit.then])
  refine bodyPost_ret (results_save _ _ w.heap.size 21 0 false 0 0 ⟨#[]⟩ 0 0 0 (by apply cast; (case h => (repeat (first | (with_reducible assumption) | (with_reducible apply Row.at; (simp; done)) | (with_reducible apply Row.alloc) | (with_reducible apply Row.drew) | (with_reducible apply Row.drewN) | (with_reducible apply Row.set) | ((with_reducible apply Row.other); (case hp => first | (simp; done) | (simp; omega) | omega))))); (case e => rfl)) rfl rfl) rfl ?_
  exact ⟨rfl, by (repeat' (first | (with_reducible exact Up.refl _) | (with_reducible assumption) | (with_reducible refine Up.alloc ?_ _) | (with_reducible refine Up.drew ?_) | (with_reducible refine Up.drewN ?_ _) | (with_reducible refine Up.setCell ?_ ?_ _) | (with_reducible refine Up.call ?_ (by with_reducible assumption)) | go_size))⟩
theorem save_full (bs bt : Nat) (vl vm : Value) (l : List Sv) (last free : Int) (n : Nat) (w : World) (h : SavesIs w bs bt vl vm l last free n) (hfull : 15 ≤ l.length) :
    Calls Try.prog 9 #[.pointer (some ⟨bs, 0, none⟩)] w fun E w' => E = .returned (.tuple #[.agg #[.int .i64 0, .bool false, .int .i64 0, .int .i64 0, .string ⟨#[]⟩, .int .i64 0, .int .i64 0, .int .i64 0], .int .i64 9]) ∧ Up w w' := by
  have q0 : w.cell? ⟨bs, 0, none⟩ = some (.pointer (some ⟨bt, 0, none⟩)) := h.row.cell 0 rfl
  have q1 : w.cell? ⟨bs, 1, none⟩ = some vl := h.row.cell 1 rfl
  have hbs := h.row.lt
  have hb1 : bs < w.heap.size + 1 := by omega
  obtain ⟨a, cap, rfl⟩ := owned_val h.own
  have df : decide ((15 : Int) ≤ (l.length : Int)) = true := decide_eq_true (by omega)
  clear h
  go_enter Try.func9, Try.ntmps9
  go_wp2_with (go_at_call 36; ((with_reducible refine (none_calls bs bt _ (((show Up w _ by (repeat' (first | (with_reducible exact Up.refl _) | (with_reducible assumption) | (with_reducible refine Up.alloc ?_ _) | (with_reducible refine Up.drew ?_) | (with_reducible refine Up.drewN ?_ _) | (with_reducible refine Up.setCell ?_ ?_ _) | (with_reducible refine Up.call ?_ (by with_reducible assumption)) | go_size))).cells.1 bs 0 hbs).trans q0)).mono ?_); rintro E w1 ⟨rfl, rfl⟩))
  (try simp only [Exit.inBlock, Exit.then])
  refine bodyPost_ret (results_save _ _ w.heap.size 9 0 false 0 0 ⟨#[]⟩ 0 0 0 (by apply cast; (case h => (repeat (first | (with_reducible assumption) | (with_reducible apply Row.at; (simp; done)) | (with_reducible apply Row.alloc) | (with_reducible apply Row.drew) | (with_reducible apply Row.drewN) | (with_reducible apply Row.set) | ((with_reducible apply Row.other); (case hp => first | (simp; done) | (simp; omega) | omega))))); (case e => rfl)) rfl rfl) rfl ?_
  exact ⟨rfl, by (repeat' (first | (with_reducible exact Up.refl _) | (with_reducible assumption) | (with_reducible refine Up.alloc ?_ _) | (with_reducible refine Up.drew ?_) | (with_reducible refine Up.drewN ?_ _) | (with_reducible refine Up.setCell ?_ ?_ _) | (with_reducible refine Up.call ?_ (by with_reducible assumption)) | go_size))⟩
theorem saved {w w0 w1 w2 : World} {bs bt g c2 H n : Nat} {vl vm vm1 : Value} {l : List Sv} {last free : Int} (hS : SavesIs w bs bt vl vm l last free n) (hl : l.length < 15)
    (C0 : Chg [bs] w w0) (Z0 : Row w0 w.heap.size #[.int .i64 0, .bool false, .int .i64 0, .int .i64 0, .string ⟨#[]⟩, .int .i64 0, .int .i64 0, .int .i64 0]) (C1 : Chg (bt :: own vm) w0 w1) (S1 : StoreIs w1 bt vm1 free (n + 1)) (OM : Own w0 vm vm1) (C2 : Chg (own vl) w1 w2)
    (R2 : Row w2 bs #[.pointer (some ⟨bt, 0, none⟩), vl, .int .i64 (last + 1)]) (OW : w2.ownsRow 0 91 2 (.slice (some ⟨g, 0, none⟩) (l.length + 1) c2) (l.length + 1) (stCells l ++ [.int .i64 (last + 1), .int .i64 ((n : Int) + 1)])) (AT : vl.ownBlock = some g ∨ g = H) (hH : w1.heap.size ≤ H) :
    ∃ vl' vm', SavesIs (w2.setCell ⟨bs, 1, none⟩ (.slice (some ⟨g, 0, none⟩) (l.length + 1) c2)) bs bt vl' vm' (l ++ [(last + 1, (n : Int) + 1)]) (last + 1) free (n + 1) ∧ Chg (bs :: bt :: (own vl ++ own vm)) w (w2.setCell ⟨bs, 1, none⟩ (.slice (some ⟨g, 0, none⟩) (l.length + 1) c2)) ∧ Own w vl vl' ∧ Own w vm vm' ∧ Row (w2.setCell ⟨bs, 1, none⟩ (.slice (some ⟨g, 0, none⟩) (l.length + 1) c2)) w.heap.size #[.int .i64 0, .bool false, .int .i64 0, .int .i64 0, .string ⟨#[]⟩, .int .i64 0, .int .i64 0, .int .i64 0] ∧ (∀ g, vl'.ownBlock = some g → g ≠ w.heap.size) ∧ (∀ g, vm'.ownBlock = some g → g ≠ w.heap.size) := by
  have hbs := hS.row.lt
  have hbt : bt < w.heap.size := hS.st.row.lt
  have hvl : ∀ g, vl.ownBlock = some g → g < w.heap.size := fun g hg => (hS.own.lt g hg).2
  have hvm : ∀ g, vm.ownBlock = some g → g < w.heap.size := fun g hg => (hS.st.own.lt g hg).2
  have z0 := C0.size
  have z1 := C1.size
  have hzz := Z0.lt
  have hgb : g ≠ bs := by
    rcases AT with h1 | h1
    · exact hS.ap2 g h1
    · omega
  have hgt : g ≠ bt := by
    rcases AT with h1 | h1
    · exact hS.ap g h1
    · omega
  have hgw : g ≠ w.heap.size := by
    rcases AT with h1 | h1
    · have := hvl g h1; omega
    · omega
  have C3 : Chg (bs :: own vl) w1 (w2.setCell ⟨bs, 1, none⟩ (.slice (some ⟨g, 0, none⟩) (l.length + 1) c2)) := (C2.mono (fun x hx => List.mem_cons_of_mem _ hx)).setCell (Or.inl (by simp)) _
  refine ⟨_, vm1, ⟨Row.put R2 rfl, S1.chg C3 ?_ ?_, ?_, by simp; omega, fun g' hg' => by simp only [Value.ownBlock, Option.some.injEq] at hg'; rw [← hg']; exact hgt⟩, ?_, ?_, ?_, ?_, ?_, ?_⟩
  · intro hm
    rcases List.mem_cons.1 hm with e | e
    · exact hS.ne e.symm
    · exact hS.ap bt (own_of e) rfl
  · intro g' hg' hm
    rcases OM g' hg' with h1 | h1
    · rcases List.mem_cons.1 hm with e | e
      · exact hS.ap3 g' h1 e
      · exact hS.ap4 g' (own_of e) h1
    · rcases List.mem_cons.1 hm with e | e
      · omega
      · have := hvl g' (own_of e); omega
  · have h1 := OW
    rw [List.length_append, stCells_append]
    exact ownsRow_setCell_other h1 (fun e => by simp only [Value.ownBlock, Option.some.injEq] at e; exact hgb e) _
  · have c01 : Chg (bs :: bt :: (own vl ++ own vm)) w w1 := (C0.mono (fun x hx => by simp at hx; simp [hx])).call C1 (fun x hx => Or.inl (by rcases List.mem_cons.1 hx with e | e <;> simp [e]))
    exact c01.call C3 (fun x hx => Or.inl (by rcases List.mem_cons.1 hx with e | e <;> simp [e]))
  · intro g' hg'
    simp only [Value.ownBlock, Option.some.injEq] at hg'
    subst hg'
    rcases AT with h1 | h1
    · exact Or.inl h1
    · exact Or.inr (by omega)
  · intro g' hg'
    rcases OM g' hg' with h1 | h1
    · exact Or.inl h1
    · exact Or.inr (by omega)
  · refine (Z0.chg C1 ?_).chg C3 ?_
    · intro hm
      rcases List.mem_cons.1 hm with e | e
      · omega
      · have := hvm _ (own_of e); omega
    · intro hm
      rcases List.mem_cons.1 hm with e | e
      · omega
      · have := hvl _ (own_of e); omega
  · intro g' hg'
    simp only [Value.ownBlock, Option.some.injEq] at hg'
    rw [← hg']; exact hgw
  · intro g' hg'
    rcases OM g' hg' with h1 | h1
    · have := hvm g' h1; omega
    · omega
set_option maxRecDepth 8000 in
set_option maxHeartbeats 4000000 in
theorem save_calls (bs bt : Nat) (vl vm : Value) (l : List Sv) (last free : Int) (n : Nat) (w : World) (h : SavesIs w bs bt vl vm l last free n) (hfull : l.length < 15) (hn : n + 1 ≤ 1000) (hl0 : 0 ≤ last) (hl1 : last ≤ 1000000) :
    Calls Try.prog 9 #[.pointer (some ⟨bs, 0, none⟩)] w fun E w' => E = .returned (.tuple #[.agg #[.int .i64 10, .bool false, .int .i64 0, .int .i64 (last + 1), .string ⟨#[]⟩, .int .i64 0, .int .i64 0, .int .i64 0], .int .i64 0]) ∧
      ∃ vl' vm', SavesIs w' bs bt vl' vm' (l ++ [(last + 1, (n : Int) + 1)]) (last + 1) free (n + 1) ∧ Chg (bs :: bt :: (own vl ++ own vm)) w w' ∧ Own w vl vl' ∧ Own w vm vm' := by
  have q0 : w.cell? ⟨bs, 0, none⟩ = some (.pointer (some ⟨bt, 0, none⟩)) := h.row.cell 0 rfl
  have q1 : w.cell? ⟨bs, 1, none⟩ = some vl := h.row.cell 1 rfl
  have hbs := h.row.lt
  have hb1 : bs < w.heap.size + 1 := by omega
  have q2 : w.cell? ⟨bs, 2, none⟩ = some (.int .i64 last) := h.row.cell 2 rfl
  have f2 := h.row.free 2
  have hR := Lib.hid h.row
  have HS := Lib.hid h
  obtain ⟨a, cap, hav⟩ := owned_val h.own
  have HAV := Lib.hid hav
  have hbt : bt < w.heap.size := h.st.row.lt
  have df : decide ((15 : Int) ≤ (l.length : Int)) = false := decide_eq_false (by omega)
  obtain ⟨i0, ji, jz0, jz1, jz2⟩ := info_parts infoState
  clear h
  subst hav
  go_enter Try.func9, Try.ntmps9
  go_upto_region 6 with (go_at_call 36; ((with_reducible refine (none_calls bs bt _ (((show Up w _ by (repeat' (first | (with_reducible exact Up.refl _) | (with_reducible assumption) | (with_reducible refine Up.alloc ?_ _) | (with_reducible refine Up.drew ?_) | (with_reducible refine Up.drewN ?_ _) | (with_reducible refine Up.setCell ?_ ?_ _) | (with_reducible refine Up.call ?_ (by with_reducible assumption)) | go_size))).cells.1 bs 0 hbs).trans q0)).mono ?_); rintro E w1 ⟨rfl, rfl⟩))
  generalize hW : World.alloc (World.setCell _ _ _) _ = w0
  have R0 : Row w0 bs #[.pointer (some ⟨bt, 0, none⟩), .slice a l.length cap, .int .i64 (last + 1)] := by
    rw [← hW]
    exact Row.alloc (Row.put hR.out rfl) _
  have Z0 : Row w0 w.heap.size #[.int .i64 0, .bool false, .int .i64 0, .int .i64 0, .string ⟨#[]⟩, .int .i64 0, .int .i64 0, .int .i64 0] := by rw [← hW]; (repeat' (first | (with_reducible assumption) | (with_reducible refine Row.at _ _ ?_; (simp; done)) | (with_reducible refine Row.alloc ?_ _) | (with_reducible refine Row.drew ?_) | (with_reducible refine Row.drewN ?_ _) | (with_reducible refine Row.other ?_ (by first | (simp; done) | (simp; omega) | omega) _) | (with_reducible refine Row.up ?_ (by with_reducible assumption)) | (with_reducible refine Row.chg ?_ (by with_reducible assumption) (by first | (simp; done) | (simp; omega)))))
  have C0 : Chg [bs] w w0 := by rw [← hW]; (repeat' (first | (with_reducible exact Chg.refl _ _) | (with_reducible assumption) | (with_reducible refine Chg.alloc ?_ _) | (with_reducible refine Chg.drew ?_) | (with_reducible refine Chg.drewN ?_ _) | (with_reducible refine Chg.setCell ?_ ?_ _) | (with_reducible refine Chg.upc ?_ (by with_reducible assumption)) | (with_reducible refine Chg.call ?_ (by with_reducible assumption) ?_) | (refine Or.inl ?_; (simp; done)) | (simp; done) | (simp; omega) | omega))
  have hz0 : w.heap.size < w0.heap.size := Z0.lt
  have S0 : StoreIs w0 bt vm free n := HS.out.st.chg C0 (by simpa using fun e => HS.out.ne e.symm) (fun g hg => by simpa using HS.out.ap3 g hg)
  have O0 : w0.ownsRow 0 91 2 (.slice a l.length cap) l.length (stCells l) := owned_chg HS.out.own C0 (fun g hg => by simpa using HS.out.ap2 g hg)
  have HR0 := Lib.hid R0
  have HZ0 := Lib.hid Z0
  have HC0 := Lib.hid C0
  have HS0 := Lib.hid S0
  have HO0 := Lib.hid O0
  have p0 : w0.cell? ⟨bs, 0, none⟩ = some (.pointer (some ⟨bt, 0, none⟩)) := R0.cell 0 rfl
  have p1 : w0.cell? ⟨bs, 1, none⟩ = some (.slice a l.length cap) := R0.cell 1 rfl
  have p2 : w0.cell? ⟨bs, 2, none⟩ = some (.int .i64 (last + 1)) := R0.cell 2 rfl
  have hb0 := R0.lt
  clear hW R0 Z0 C0 S0 O0 q0 q1 q2 f2 hb1
  go_cut [0] from 23 (fun s0 wx => s0 = .pointer (some ⟨bs, 0, none⟩) ∧ ∃ vl' vm', SavesIs wx bs bt vl' vm' (l ++ [(last + 1, (n : Int) + 1)]) (last + 1) free (n + 1) ∧ Chg (bs :: bt :: (own (.slice a l.length cap) ++ own vm)) w wx ∧ Own w (.slice a l.length cap) vl' ∧ Own w vm vm' ∧ Row wx w.heap.size #[.int .i64 0, .bool false, .int .i64 0, .int .i64 0, .string ⟨#[]⟩, .int .i64 0, .int .i64 0, .int .i64 0] ∧ (∀ g, vl'.ownBlock = some g → g ≠ w.heap.size) ∧ (∀ g, vm'.ownBlock = some g → g ≠ w.heap.size))
  case first =>
    go_region_law (first
      | (refine step_append_lies _ rfl _ _ 87 rfl 0 91 i0 _ 2 16 Try.underlying87 ji jz0 jz1 jz2 rfl (by decide) (.slice a l.length cap) l.length (stCells l) rfl (owned_up HO1.out (by (repeat' (first | (with_reducible exact Up.refl _) | (with_reducible assumption) | (with_reducible refine Up.alloc ?_ _) | (with_reducible refine Up.drew ?_) | (with_reducible refine Up.drewN ?_ _) | (with_reducible refine Up.setCell ?_ ?_ _) | (with_reducible refine Up.call ?_ (by with_reducible assumption)) | go_size)))) _ 1 1 [.int .i64 (last + 1), .int .i64 ((n : Int) + 1)] rfl rfl (news_at (show Row _ _ #[.int .i64 (last + 1), .int .i64 ((n : Int) + 1)] by (repeat' (first | (with_reducible assumption) | (with_reducible refine Row.at _ _ ?_; (simp; done)) | (with_reducible refine Row.alloc ?_ _) | (with_reducible refine Row.drew ?_) | (with_reducible refine Row.drewN ?_ _) | (with_reducible refine Row.other ?_ (by first | (simp; done) | (simp; omega) | omega) _) | (with_reducible refine Row.up ?_ (by with_reducible assumption)) | (with_reducible refine Row.chg ?_ (by with_reducible assumption) (by first | (simp; done) | (simp; omega)))))) rfl) (svOne _ _) (by decide) (by unfold maxLen; omega) (by omega) (Nat.zero_le _) _ rfl ?_; intro g c2 w2 hown hgr hat hg1; have hC : Chg (own (.slice a l.length cap)) w1 w2 := Chg.grown (Chg.of_up (by (repeat' (first | (with_reducible exact Up.refl _) | (with_reducible assumption) | (with_reducible refine Up.alloc ?_ _) | (with_reducible refine Up.drew ?_) | (with_reducible refine Up.drewN ?_ _) | (with_reducible refine Up.setCell ?_ ?_ _) | (with_reducible refine Up.call ?_ (by with_reducible assumption)) | go_size)))) hgr (fun k hk => Or.inl (own_mem hk)); have hR2 := HR1.out.chg hC (fun hm => HS.out.ap2 bs (own_of hm) rfl); have z51 : w2.cell? ⟨bs, 1, none⟩ = some (.slice a l.length cap) := hR2.cell 1 rfl; have z50 : w2.cell? ⟨bs, 0, none⟩ = some (.pointer (some ⟨bt, 0, none⟩)) := hR2.cell 0 rfl; have z5f := hR2.free 1; have HOW := Lib.hid hown; have HAT := Lib.hid hat; have HC2 := Lib.hid hC; have HR2 := Lib.hid hR2; clear hown hat hC hR2 hgr)
      | (go_simp; go_at_call 37; ((with_reducible refine (mark_calls bt vm free n _ (HS0.out.up (by (repeat' (first | (with_reducible exact Up.refl _) | (with_reducible assumption) | (with_reducible refine Up.alloc ?_ _) | (with_reducible refine Up.drew ?_) | (with_reducible refine Up.drewN ?_ _) | (with_reducible refine Up.setCell ?_ ?_ _) | (with_reducible refine Up.call ?_ (by with_reducible assumption)) | go_size)))) hn).mono ?_); rintro E w1 ⟨rfl, vm1, hst1, hc1, ho1⟩; have hc1 : Chg (bt :: own vm) w0 w1 := (Chg.of_up (by (repeat' (first | (with_reducible exact Up.refl _) | (with_reducible assumption) | (with_reducible refine Up.alloc ?_ _) | (with_reducible refine Up.drew ?_) | (with_reducible refine Up.drewN ?_ _) | (with_reducible refine Up.setCell ?_ ?_ _) | (with_reducible refine Up.call ?_ (by with_reducible assumption)) | go_size)))).call hc1 (fun x hx => Or.inl hx); have hR1 := HR0.out.chg hc1 (fun hm => (List.mem_cons.1 hm).elim (fun e => HS.out.ne e) (fun e => HS.out.ap3 bs (own_of e) rfl)); have HO1 := Lib.hid (owned_chg HO0.out hc1 (fun g hg hm => (List.mem_cons.1 hm).elim (fun e => HS.out.ap g hg e) (fun e => HS.out.ap4 g hg (own_of e)))); have y0 : w1.cell? ⟨bs, 0, none⟩ = some (.pointer (some ⟨bt, 0, none⟩)) := hR1.cell 0 rfl; have y1 : w1.cell? ⟨bs, 1, none⟩ = some (.slice a l.length cap) := hR1.cell 1 rfl; have y2 : w1.cell? ⟨bs, 2, none⟩ = some (.int .i64 (last + 1)) := hR1.cell 2 rfl; have l1 := hR1.lt; have l2 : bs < w1.heap.size + 1 := (by omega); have HR1 := Lib.hid hR1; have HST1 := Lib.hid hst1; have HC1 := Lib.hid hc1; have HOM := Lib.hid ho1; clear hst1 hc1 ho1 hR1)))
    all_goals go_wp2
    all_goals go_meet
    all_goals
      case rel => exact ⟨rfl, saved HS.out hfull HC0.out HZ0.out HC1.out HST1.out HOM.out HC2.out HR2.out HOW.out HAT.out (by simp)⟩
  case rest =>
    obtain ⟨rfl, vl', vm', hSV, hCH, hOL, hOM, hZ, hN1, hN2⟩ := hcut
    have HN1 := Lib.hid hN1
    have HN2 := Lib.hid hN2
    clear hN1 hN2
    have wq2 : wc.cell? ⟨bs, 2, none⟩ = some (.int .i64 (last + 1)) := hSV.row.cell 2 rfl
    have wl := hZ.lt
    have wcc0 : wc.cell? ⟨w.heap.size, 0, none⟩ = some (.int .i64 0) := hZ.cell 0 rfl
    have wcf0 := hZ.free 0
    have wcc1 : wc.cell? ⟨w.heap.size, 1, none⟩ = some (.bool false) := hZ.cell 1 rfl
    have wcf1 := hZ.free 1
    have wcc2 : wc.cell? ⟨w.heap.size, 2, none⟩ = some (.int .i64 0) := hZ.cell 2 rfl
    have wcf2 := hZ.free 2
    have wcc3 : wc.cell? ⟨w.heap.size, 3, none⟩ = some (.int .i64 0) := hZ.cell 3 rfl
    have wcf3 := hZ.free 3
    have wcc4 : wc.cell? ⟨w.heap.size, 4, none⟩ = some (.string ⟨#[]⟩) := hZ.cell 4 rfl
    have wcf4 := hZ.free 4
    have wcc5 : wc.cell? ⟨w.heap.size, 5, none⟩ = some (.int .i64 0) := hZ.cell 5 rfl
    have wcf5 := hZ.free 5
    have wcc6 : wc.cell? ⟨w.heap.size, 6, none⟩ = some (.int .i64 0) := hZ.cell 6 rfl
    have wcf6 := hZ.free 6
    have wcc7 : wc.cell? ⟨w.heap.size, 7, none⟩ = some (.int .i64 0) := hZ.cell 7 rfl
    have wcf7 := hZ.free 7
    have HZ := Lib.hid hZ
    have HSV := Lib.hid hSV
    have HOL := Lib.hid hOL
    have HOM := Lib.hid hOM
    have HCH := Lib.hid hCH
    have R2 : Row wc w.heap.size #[.int .i64 0, .bool false, .int .i64 0, .int .i64 0, .string ⟨#[]⟩, .int .i64 0, .int .i64 0, .int .i64 0] := hZ
    clear hSV hCH hOL hOM hZ
    go_wp2
    (try simp only [Exit.inBlock, Exit.then])
    refine bodyPost_ret (results_save _ _ w.heap.size 0 10 false 0 (last + 1) ⟨#[]⟩ 0 0 0 (by apply cast; (case h => (repeat (first | (with_reducible assumption) | (with_reducible apply Row.at; (simp; done)) | (with_reducible apply Row.alloc) | (with_reducible apply Row.drew) | (with_reducible apply Row.drewN) | (with_reducible apply Row.set) | ((with_reducible apply Row.other); (case hp => first | (simp; done) | (simp; omega) | omega))))); (case e => rfl)) rfl rfl) rfl ?_
    exact ⟨rfl, vl', vm', HSV.out.chg (S := [w.heap.size]) (by (repeat' (first | (with_reducible exact Chg.refl _ _) | (with_reducible assumption) | (with_reducible refine Chg.alloc ?_ _) | (with_reducible refine Chg.drew ?_) | (with_reducible refine Chg.drewN ?_ _) | (with_reducible refine Chg.setCell ?_ ?_ _) | (with_reducible refine Chg.upc ?_ (by with_reducible assumption)) | (with_reducible refine Chg.call ?_ (by with_reducible assumption) ?_) | (refine Or.inl ?_; (simp; done)) | (simp; done) | (simp; omega) | omega))) (by simp; omega) (by simp; omega) (fun g hg => by simpa using HN1.out g hg) (fun g hg => by simpa using HN2.out g hg), HCH.out.call (S' := [w.heap.size]) (by (repeat' (first | (with_reducible exact Chg.refl _ _) | (with_reducible assumption) | (with_reducible refine Chg.alloc ?_ _) | (with_reducible refine Chg.drew ?_) | (with_reducible refine Chg.drewN ?_ _) | (with_reducible refine Chg.setCell ?_ ?_ _) | (with_reducible refine Chg.upc ?_ (by with_reducible assumption)) | (with_reducible refine Chg.call ?_ (by with_reducible assumption) ?_) | (refine Or.inl ?_; (simp; done)) | (simp; done) | (simp; omega) | omega))) (fun x hx => Or.inr (by simp at hx; omega)), HOL.out, HOM.out⟩

end Go.Proofs.Ytjijbkehbeppjaa.Save
