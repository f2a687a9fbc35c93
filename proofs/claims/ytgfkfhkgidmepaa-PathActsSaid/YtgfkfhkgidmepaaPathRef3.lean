/- The reference's path: back to where the subpath began. -/
import Derived.Test.YtgfkfhkgidmepaaPathRef2
namespace Go.Proofs.Ytgfkfhkgidmepaa.Path
open Go.ChangeShapes Go.WideShapes Go.ChangeAt Go.RowKit
open Go.Proofs.Ytgfkfhkgidmepaa.PathM
set_option linter.unusedVariables false
set_option linter.unusedSimpArgs false

theorem news_at {w : World} {g : Nat} {cs : Array Value} {l : List Value} (h : Row w g cs) (e : cs.toList = l) : ∀ j u, l[j]? = some u → w.cell? ((⟨g, 0, none⟩ : Addr).add j) = some u := fun j u hu => by
  rw [add_plain, Nat.zero_add]
  exact h.cell j (by subst e; simpa using hu)
theorem made_at {w : World} {g : Nat} (e : g = w.heap.size) : (w.alloc (.cells #[] 43)).ownsRow 0 43 7 (.slice (some ⟨g, 0, none⟩) 0 0) 0 [] := by
  subst e
  exact World.ownsRow_made w #[] 0 (Nat.zero_le _) (by decide) rfl
theorem raw_up {w w1 : World} {e : TypeId} {k : Nat} {v : Value} {n : Nat} {xs : List Value} (h : w.ownsRow 0 e k v n xs) (hc : Up w w1) : w1.ownsRow 0 e k v n xs := by
  refine ⟨h.1, ?_⟩
  rcases h.2 with h1 | ⟨g, cap, cur, hv, hb, hg, hr⟩
  · exact Or.inl h1
  · refine Or.inr ⟨g, cap, cur, hv, hb, ?_, hr⟩
    rw [hc.block g (Array.getElem?_eq_some_iff.1 hg).1]
    exact hg
/-- what a call leaves of the reference's path -/
def RLeft (w : World) (b : Nat) (v : Value) (most : Int) (l : List Seg) (w' : World) : Prop := ∃ v', RefIs w' b v' most l ∧ Chg [b] w w' ∧ Own w v v'
theorem RLeft.same {w w1 : World} {b : Nat} {v : Value} {most : Int} {l : List Seg} (hu : Up w w1) (h : RefIs w b v most l) : RLeft w b v most l w1 := ⟨v, h.up hu, Chg.of_up hu, Own.refl _ _⟩
/-- a list that is new in every cell is stored -/
theorem RLeft.stored {w wa w2 : World} {b g2 c2 H : Nat} {v va : Value} {most : Int} {l l' : List Seg} (h : RefIs w b v most l) (hua : Up w wa) (hva : ∀ g, va.ownBlock = some g → w.heap.size ≤ g) (hc : Chg (own va) wa w2)
    (hat : va.ownBlock = some g2 ∨ g2 = H) (hH : wa.heap.size ≤ H) (ho : w2.ownsRow 0 43 7 (.slice (some ⟨g2, 0, none⟩) l'.length c2) l'.length (segCells l')) (hlen : l'.length ≤ 100000000) :
    RLeft w b v most l' (w2.setCell ⟨b, 1, none⟩ (.slice (some ⟨g2, 0, none⟩) l'.length c2)) := by
  have hb := h.row.lt
  have hz := hua.size
  have hgw : w.heap.size ≤ g2 := by
    rcases hat with h1 | h1
    · exact hva g2 h1
    · omega
  have hC : Chg [] w w2 := (Chg.of_up hua).call hc (fun x hx => Or.inr (hva x (own_of hx)))
  have hR : Row w2 b #[.int .i64 most, v] := h.row.chg hC (by simp)
  refine ⟨.slice (some ⟨g2, 0, none⟩) l'.length c2, ⟨Row.put hR rfl, ?_, hlen⟩, (hC.mono (by simp)).setCell (Or.inl (by simp)) _, fun g hg => Or.inr (by simp only [Value.ownBlock, Option.some.injEq] at hg; omega)⟩
  exact ownsRow_setCell_other ho (fun e => by simp only [Value.ownBlock, Option.some.injEq] at e; omega) _

set_option maxRecDepth 8000 in
set_option maxHeartbeats 2000000 in
theorem rclose_calls (b : Nat) (v : Value) (most : Int) (l : List Seg) (w : World) (h : RefIs w b v most l) (hk0 : lastK l = 0 → l = []) (hlen : l.length ≤ 1000000) :
    Calls Try.prog 37 #[.pointer (some ⟨b, 0, none⟩)] w fun E w' => E = .returned (.int .i64 (lClose most l).2) ∧ RLeft w b v most (lClose most l).1 w' := by
  have hlt := h.row.lt
  have q0 : w.cell? ⟨b, 0, none⟩ = some (.int .i64 most) := h.row.cell 0 rfl
  have q1 : w.cell? ⟨b, 1, none⟩ = some v := h.row.cell 1 rfl
  have HR := Lib.hid h
  obtain ⟨i0, ji, jz0, jz1, jz2⟩ := info_parts infoSeg
  rcases h.segs.form with ⟨rfl, rfl⟩ | ⟨g, cap, rfl, hn, hm, hg⟩
  · clear h hk0
    go_enter Try.func37, Try.ntmps37
    go_wp2
    go_ret
    exact ⟨rfl, RLeft.same (by (repeat' (first | (with_reducible exact Up.refl _) | (with_reducible assumption) | (with_reducible refine Up.alloc ?_ _) | (with_reducible refine Up.drew ?_) | (with_reducible refine Up.drewN ?_ _) | (with_reducible refine Up.setCell ?_ ?_ _) | (with_reducible refine Up.call ?_ (by with_reducible assumption)) | go_size))) HR.out⟩
  by_cases h00 : l.length = 0
  · obtain rfl := List.eq_nil_of_length_eq_zero h00
    clear h hk0
    go_enter Try.func37, Try.ntmps37
    go_wp2
    go_ret
    exact ⟨rfl, RLeft.same (by (repeat' (first | (with_reducible exact Up.refl _) | (with_reducible assumption) | (with_reducible refine Up.alloc ?_ _) | (with_reducible refine Up.drew ?_) | (with_reducible refine Up.drewN ?_ _) | (with_reducible refine Up.setCell ?_ ?_ _) | (with_reducible refine Up.call ?_ (by with_reducible assumption)) | go_size))) HR.out⟩
  obtain ⟨k, hk⟩ : ∃ k, l.length = k + 1 := ⟨l.length - 1, by omega⟩
  obtain ⟨s, hsg⟩ : ∃ s, l[k]? = some s := ⟨_, List.getElem?_eq_getElem (by omega)⟩
  have c0 := h.segs.at k _ hsg 0 (by decide) _ rfl
  rw [Nat.add_zero] at c0
  have hl : lastK l = s.k := by unfold lastK; rw [List.getLast?_eq_getElem?, hk, Nat.add_sub_cancel, hsg]
  have dk : (((k : Int) + 1) == 0) = false := by rw [beq_eq_false_iff_ne]; omega
  have hk2 : k + 1 ≤ 1000000 := by omega
  have hs0 : s.k ≠ 0 := fun e => by rw [e] at hl; exact h00 (by rw [hk0 hl]; rfl)
  have hb1 : b < w.heap.size + 1 := by omega
  have hgs := Lib.hid h.segs
  rw [hk] at q1
  by_cases h4 : s.k = 4
  · have HE := Lib.hid (show lClose most l = (l, 0) by
      unfold lClose St.close
      rw [show lastK (stOf most l).l = 4 from hl.trans h4]
      rfl)
    rw [h4] at c0
    clear h hk0 hl hs0 h4
    go_enter Try.func37, Try.ntmps37
    go_wp2
    go_ret
    exact ⟨by rw [HE.out]; rfl, by rw [HE.out]; exact RLeft.same (by (repeat' (first | (with_reducible exact Up.refl _) | (with_reducible assumption) | (with_reducible refine Up.alloc ?_ _) | (with_reducible refine Up.drew ?_) | (with_reducible refine Up.drewN ?_ _) | (with_reducible refine Up.setCell ?_ ?_ _) | (with_reducible refine Up.call ?_ (by with_reducible assumption)) | go_size))) HR.out⟩
  · have d4 : (s.k == 4) = false := by simpa using h4
    by_cases hmost : most < (k : Int) + 1 + 1
    · have dm : decide (most < (k : Int) + 1 + 1) = true := decide_eq_true hmost
      have HE := Lib.hid (show lClose most l = (l, 9) by
        have hc : most < (l.length : Int) + ([(⟨4, Z, Z, Z⟩ : Seg)].length : Int) := by rw [hk]; simp; omega
        have e : St.add (stOf most l) (startOf l) [⟨4, Z, Z, Z⟩] = (stOf most l, 9) := if_pos hc
        unfold lClose St.close
        rw [show lastK (stOf most l).l = s.k from hl, if_neg hs0, if_neg h4, show (stOf most l).s = startOf l from rfl, e]
        rfl)
      clear h hk0 hl hs0 h4 hmost
      go_enter Try.func37, Try.ntmps37
      go_wp2
      go_ret
      exact ⟨by rw [HE.out]; rfl, by rw [HE.out]; exact RLeft.same (by (repeat' (first | (with_reducible exact Up.refl _) | (with_reducible assumption) | (with_reducible refine Up.alloc ?_ _) | (with_reducible refine Up.drew ?_) | (with_reducible refine Up.drewN ?_ _) | (with_reducible refine Up.setCell ?_ ?_ _) | (with_reducible refine Up.call ?_ (by with_reducible assumption)) | go_size))) HR.out⟩
    · have dm : decide (most < (k : Int) + 1 + 1) = false := decide_eq_false hmost
      have HE := Lib.hid (show lClose most l = (l ++ [⟨4, Z, Z, Z⟩], 0) by
        have hc : ¬ most < (l.length : Int) + ([(⟨4, Z, Z, Z⟩ : Seg)].length : Int) := by rw [hk]; simp; omega
        have e : St.add (stOf most l) (startOf l) [⟨4, Z, Z, Z⟩] = (⟨most, l ++ [⟨4, Z, Z, Z⟩], startOf l, startOf l⟩, 0) := if_neg hc
        unfold lClose St.close
        rw [show lastK (stOf most l).l = s.k from hl, if_neg hs0, if_neg h4, show (stOf most l).s = startOf l from rfl, e])
      clear h hk0 hl hs0 h4 hmost
      go_enter Try.func37, Try.ntmps37
      go_wp2_with (first
        | (at_builtin; refine wpList_append_own_at _ rfl (.tmp 31) (.tmp 35) 32 rfl 0 43 i0 _ 7 56 Try.underlying32 ji jz0 jz1 jz2 rfl (by decide) (.slice (some ⟨w.heap.size, 0, none⟩) 0 0) 0 [] rfl (made_at rfl) ⟨g, 0, none⟩ (k + 1) cap (segCells l) rfl (by rw [segCells_length, hk]) (fun j u hu => by rw [add_plain, Nat.zero_add]; exact ((show Up w _ by (repeat' (first | (with_reducible exact Up.refl _) | (with_reducible assumption) | (with_reducible refine Up.alloc ?_ _) | (with_reducible refine Up.drew ?_) | (with_reducible refine Up.drewN ?_ _) | (with_reducible refine Up.setCell ?_ ?_ _) | (with_reducible refine Up.call ?_ (by with_reducible assumption)) | go_size))).cells.1 g j hg).trans (by have := hgs.out.cells (g := g) rfl j u hu; rwa [add_plain, Nat.zero_add] at this)) (segCells_one l) (by unfold maxLen; omega) (by omega) (Nat.zero_le _) ?_; intro va wa hown hgr hnil hat; have HO := Lib.hid hown; have hua : Up w wa := grown_up (Up.alloc (Up.refl w) _) hgr (fun k hk => by simp only [Value.ownBlock, Option.some.injEq] at hk; omega); have HA := Lib.hid (show ∀ g, va.ownBlock = some g → w.heap.size ≤ g from fun g hg => by rcases hat with h1 | h1; (rw [h1] at hg; simp only [Value.ownBlock, Option.some.injEq] at hg; omega); (rw [h1] at hg; simp at hg; omega)); clear hown hgr hnil hat)
        | (at_builtin; refine wpList_append_lies _ rfl (.tmp 36) (.tmp 38) 32 rfl 0 43 i0 _ 7 56 Try.underlying32 ji jz0 jz1 jz2 rfl (by decide) va (0 + (k + 1)) ([] ++ segCells l) rfl (Go.Proofs.Ytgfkfhkgidmepaa.Path.raw_up HO.out (by (repeat' (first | (with_reducible exact Up.refl _) | (with_reducible assumption) | (with_reducible refine Up.alloc ?_ _) | (with_reducible refine Up.drew ?_) | (with_reducible refine Up.drewN ?_ _) | (with_reducible refine Up.setCell ?_ ?_ _) | (with_reducible refine Up.call ?_ (by with_reducible assumption)) | go_size)))) _ 1 1 (segCells [⟨4, Z, Z, Z⟩]) rfl rfl (news_at (show Row _ _ #[.int .i64 4, .int .i64 0, .int .i64 0, .int .i64 0, .int .i64 0, .int .i64 0, .int .i64 0] by (repeat' (first | (with_reducible assumption) | (with_reducible refine Row.at _ _ ?_; (simp; done)) | (with_reducible refine Row.alloc ?_ _) | (with_reducible refine Row.drew ?_) | (with_reducible refine Row.drewN ?_ _) | (with_reducible refine Row.other ?_ (by first | (simp; done) | (simp; omega) | omega) _) | (with_reducible refine Row.up ?_ (by with_reducible assumption)) | (with_reducible refine Row.chg ?_ (by with_reducible assumption) (by first | (simp; done) | (simp; omega)))))) rfl) (segCells_one _) (by decide) (by unfold maxLen; omega) (by omega) (Nat.zero_le _) _ rfl ?_; intro g2 c2 w2 hown hgr hat hg1; have hC2 : Chg (own va) wa w2 := Chg.grown (Chg.of_up (by (repeat' (first | (with_reducible exact Up.refl _) | (with_reducible assumption) | (with_reducible refine Up.alloc ?_ _) | (with_reducible refine Up.drew ?_) | (with_reducible refine Up.drewN ?_ _) | (with_reducible refine Up.setCell ?_ ?_ _) | (with_reducible refine Up.call ?_ (by with_reducible assumption)) | go_size)))) hgr (fun k hk => Or.inl (own_mem hk)); have hCw : Chg [] w w2 := (Chg.of_up hua).call hC2 (fun x hx => Or.inr (HA.out x (own_of hx))); have hRw := HR.out.row.chg hCw (by simp); have z1 : w2.cell? ⟨b, 1, none⟩ = some (.slice (some ⟨g, 0, none⟩) l.length cap) := hRw.cell 1 rfl; have zf := hRw.free 1; have HOW := Lib.hid hown; have HAT := Lib.hid hat; have HC2 := Lib.hid hC2; clear hown hat hC2 hgr hCw hRw))
      go_ret
      refine ⟨by rw [HE.out]; rfl, ?_⟩
      rw [HE.out]
      have e : (l ++ [(⟨4, Z, Z, Z⟩ : Seg)]).length = k + 1 + 1 := by simp [hk]
      have hw := HOW.out
      rw [List.nil_append, Nat.zero_add, ← segCells_append, ← e] at hw
      have := RLeft.stored HR.out hua HA.out HC2.out HAT.out (by simp) hw (by omega)
      rw [e] at this
      exact this

end Go.Proofs.Ytgfkfhkgidmepaa.Path
