/- SaveNested: for every two small numbers the law returns true. No condition. -/
import Derived.Test.YtjijbkehbeppjaaSaveN
namespace Go.Proofs.Ytjijbkehbeppjaa.saveNested
open Go.ChangeShapes Go.WideShapes Go.ChangeAt Go.RowKit
open Go.Proofs.Ytjijbkehbeppjaa.SaveM Go.Proofs.Ytjijbkehbeppjaa.Save
set_option linter.unusedVariables false
set_option linter.unusedSimpArgs false

/-- a block of the state is another than the objects' -/
theorem apartRow {w : World} {b : Nat} {cs : Array Value} {e : TypeId} {k n : Nat} {v : Value} {xs : List Value} (hr : Row w b cs) (ho : w.ownsRow 0 e k v n xs) (hne : ∀ cap, cs.size = cap * k → False) : ∀ g, v.ownBlock = some g → g ≠ b :=
  Save.apart hr ho (fun c hc cap hs => hne cap (hc ▸ hs))

set_option maxRecDepth 30000 in
set_option maxHeartbeats 8000000 in
theorem walk (a0 a1 : Int) (w0 : (Lit.int .u8 a0).wf = true) (w1 : (Lit.int .u8 a1).wf = true) {w : World} :
    Calls Try.prog 3 #[.int .u8 a0, .int .u8 a1] w fun e w' => e = .returned (.bool true) ∧ Up w w' := by
  obtain ⟨x0, x1⟩ : 0 ≤ a0 ∧ a0 ≤ 255 := by simp [Lit.wf, IntKind.min, IntKind.max, IntKind.signed, IntKind.bits] at w0; omega
  obtain ⟨y0, y1⟩ : 0 ≤ a1 ∧ a1 ≤ 255 := by simp [Lit.wf, IntKind.min, IntKind.max, IntKind.signed, IntKind.bits] at w1; omega
  clear w0 w1
  obtain ⟨i0, ji, jz0, jz1, jz2⟩ := info_parts infoObj
  obtain ⟨q, hq⟩ : ∃ q : Nat, a0 % 20 = (q : Int) := ⟨(a0 % 20).toNat, by omega⟩
  have hq19 : q ≤ 19 := by omega
  go_enter Try.func3, Try.ntmps3
  go_wp2_with (first
    | (go_at_call 7; ((with_reducible refine (storeNew_calls 100 (by decide) (by decide) _).mono ?_); rintro E w1 ⟨rfl, hu1, hs1⟩; have HS1 := Lib.hid hs1; have hz1 := hs1.row.lt; clear hs1))
    | (go_at_call 8; ((with_reducible refine (savesNew_calls w.heap.size (.slice none 0 0) 100 0 _ HS1.out).mono ?_); rintro E w2 ⟨rfl, hu2, hv2⟩; have HV2 := Lib.hid hv2; have hz2 := hv2.row.lt; clear hv2)))
  clear hq
  go_loopw [9, 10] (fun s9 s10 wr => ∃ (i m : Nat) (vl vm vo : Value), i ≤ q + 1 ∧ m = min i 15 ∧ vo = s9 ∧ s10 = .int .i64 i ∧ SavesIs wr w1.heap.size w.heap.size vl vm (numl m) m 100 m ∧ wr.ownsRow 0 30 8 vo m (objL m) ∧ Up w wr ∧ (∀ g, vl.ownBlock = some g → w.heap.size ≤ g) ∧ (∀ g, vm.ownBlock = some g → w.heap.size ≤ g) ∧ (∀ g, vo.ownBlock = some g → w.heap.size ≤ g)) (fun _ s10 _ => q + 1 - (intOf s10).toNat)
  case atStart => exact ⟨0, 0, _, _, _, Nat.zero_le _, rfl, rfl, rfl, HV2.out, World.ownsRow_nil _ _ _ _, by (repeat' (first | (with_reducible exact Up.refl _) | (with_reducible assumption) | (with_reducible refine Up.alloc ?_ _) | (with_reducible refine Up.drew ?_) | (with_reducible refine Up.drewN ?_ _) | (with_reducible refine Up.setCell ?_ ?_ _) | (with_reducible refine Up.call ?_ (by with_reducible assumption)) | go_size)), (fun g hg => by cases hg), (fun g hg => by cases hg), (fun g hg => by cases hg)⟩
  case round =>
    obtain ⟨i, m, vl, vm, vo, hi, hm, rfl, rfl, hv, ho, hup, hl1, hl2, hl3⟩ := hrel
    have HV := Lib.hid hv
    have HO := Lib.hid ho
    have apB := Lib.hid (apartRow hv.row ho (fun cap hc => by simp at hc; omega))
    have apT := Lib.hid (apartRow hv.st.row ho (fun cap hc => by simp at hc; omega))
    have HL1 := Lib.hid hl1
    have HL2 := Lib.hid hl2
    have HL3 := Lib.hid hl3
    have hzr := hup.size
    clear hv ho hl1 hl2 hl3
    by_cases hlt : i < q + 1
    · by_cases h15 : i < 15
      · obtain rfl : m = i := by omega
        clear hm
        have d15 : decide ((m : Int) < 15) = true := decide_eq_true (by omega)
        go_wp2_with (first
          | (go_at_call 9; ((with_reducible refine (save_calls w1.heap.size w.heap.size vl vm (numl m) m 100 m _ HV.out (by rw [numl_length]; exact h15) (by omega) (by omega) (by omega)).mono ?_); rintro E w3 ⟨rfl, vl3, vm3, hv3, hc3, ho3, ho4⟩; rw [← numl_succ] at hv3; have HO3 := Lib.hid (owned_chg HO.out hc3 (fun g hg hmem => by simp only [List.mem_cons, List.mem_append] at hmem; rcases hmem with e | e | e | e; (exact apB.out g hg e); (exact apT.out g hg e); (exact two_types HO.out HV.out.own (by decide) g hg (own_of e)); (exact two_types HO.out HV.out.st.own (by decide) g hg (own_of e)))); have HU3 := Lib.hid (((Chg.of_up (S := []) hup).call hc3 (fun x hx => Or.inr (by simp only [List.mem_cons, List.mem_append] at hx; rcases hx with e | e | e | e; omega; omega; (exact HL1.out x (own_of e)); (exact HL2.out x (own_of e))))).up); have HV3 := Lib.hid hv3; have HL31 := Lib.hid (show ∀ g, vl3.ownBlock = some g → w.heap.size ≤ g from fun g hg => (ho3 g hg).elim (HL1.out g) (fun h => by omega)); have HL32 := Lib.hid (show ∀ g, vm3.ownBlock = some g → w.heap.size ≤ g from fun g hg => (ho4 g hg).elim (HL2.out g) (fun h => by omega)); clear hv3 hc3 ho3 ho4))
          | (at_builtin; refine wpList_append_lies _ rfl _ _ 28 rfl 0 30 i0 _ 8 72 Try.underlying28 ji jz0 jz1 jz2 rfl (by decide) vo m (objL m) rfl (owned_up HO3.out (by (repeat' (first | (with_reducible exact Up.refl _) | (with_reducible assumption) | (with_reducible refine Up.alloc ?_ _) | (with_reducible refine Up.drew ?_) | (with_reducible refine Up.drewN ?_ _) | (with_reducible refine Up.setCell ?_ ?_ _) | (with_reducible refine Up.call ?_ (by with_reducible assumption)) | go_size)))) _ 1 1 (objN m) rfl rfl (news_at (show Row _ _ #[.int .i64 10, .bool false, .int .i64 0, .int .i64 ((m : Int) + 1), .string ⟨#[]⟩, .int .i64 0, .int .i64 0, .int .i64 0] by (repeat' (first | (with_reducible assumption) | (with_reducible refine Row.at _ _ ?_; (simp; done)) | (with_reducible refine Row.alloc ?_ _) | (with_reducible refine Row.drew ?_) | (with_reducible refine Row.drewN ?_ _) | (with_reducible refine Row.other ?_ (by first | (simp; done) | (simp; omega) | omega) _) | (with_reducible refine Row.up ?_ (by with_reducible assumption)) | (with_reducible refine Row.chg ?_ (by with_reducible assumption) (by first | (simp; done) | (simp; omega)))))) rfl) (objN_one m) (by decide) (by unfold maxLen; omega) (by omega) (Nat.zero_le _) _ rfl ?_; intro g cap w4 hown hgr hat hg1; have HC4 := Lib.hid (show Chg (own vo) w3 w4 from Chg.grown (Chg.of_up (by (repeat' (first | (with_reducible exact Up.refl _) | (with_reducible assumption) | (with_reducible refine Up.alloc ?_ _) | (with_reducible refine Up.drew ?_) | (with_reducible refine Up.drewN ?_ _) | (with_reducible refine Up.setCell ?_ ?_ _) | (with_reducible refine Up.call ?_ (by with_reducible assumption)) | go_size)))) hgr (fun k hk => Or.inl (own_mem hk))); have HOW := Lib.hid hown; have HAT := Lib.hid hat; clear hown hgr hat))
        go_roundw
        case rel =>
          have hz3 := HU3.out.size
          refine ⟨m + 1, m + 1, vl3, vm3, _, by omega, by omega, rfl, by go_num, HV3.out.chg HC4.out ?_ ?_ ?_ ?_, ?_, (((Chg.of_up (S := []) HU3.out).call HC4.out (fun x hx => Or.inr (HL3.out x (own_of hx)))).up), HL31.out, HL32.out, ?_⟩
          · exact fun hmem => apB.out _ (own_of hmem) rfl
          · exact fun hmem => apT.out _ (own_of hmem) rfl
          · exact fun g' hg' hmem => two_types HV3.out.own HO3.out (by decide) g' hg' (own_of hmem)
          · exact fun g' hg' hmem => two_types HV3.out.st.own HO3.out (by decide) g' hg' (own_of hmem)
          · rw [objL_succ]; exact HOW.out
          · intro g' hg'
            simp only [Value.ownBlock, Option.some.injEq] at hg'
            subst hg'
            rcases HAT.out with h1 | h1
            · exact HL3.out g h1
            · simp at h1; omega
        case measure => simp [intOf]; omega
      · obtain rfl : m = 15 := by omega
        clear hm
        have d15 : decide ((i : Int) < 15) = false := decide_eq_false (by omega)
        go_wp2_with (go_at_call 9; ((with_reducible refine (save_full w1.heap.size w.heap.size vl vm (numl 15) ((15 : Nat) : Int) 100 15 _ HV.out (by decide)).mono ?_); rintro E w3 ⟨rfl, hu3⟩; have HU3 := Lib.hid hu3))
        go_roundw
        case rel => exact ⟨i + 1, 15, vl, vm, vo, by omega, by omega, rfl, by go_num, HV.out.up (by (repeat' (first | (with_reducible exact Up.refl _) | (with_reducible assumption) | (with_reducible refine Up.alloc ?_ _) | (with_reducible refine Up.drew ?_) | (with_reducible refine Up.drewN ?_ _) | (with_reducible refine Up.setCell ?_ ?_ _) | (with_reducible refine Up.call ?_ (by with_reducible assumption)) | go_size))), owned_up HO.out (by (repeat' (first | (with_reducible exact Up.refl _) | (with_reducible assumption) | (with_reducible refine Up.alloc ?_ _) | (with_reducible refine Up.drew ?_) | (with_reducible refine Up.drewN ?_ _) | (with_reducible refine Up.setCell ?_ ?_ _) | (with_reducible refine Up.call ?_ (by with_reducible assumption)) | go_size))), by (repeat' (first | (with_reducible exact Up.refl _) | (with_reducible assumption) | (with_reducible refine Up.alloc ?_ _) | (with_reducible refine Up.drew ?_) | (with_reducible refine Up.drewN ?_ _) | (with_reducible refine Up.setCell ?_ ?_ _) | (with_reducible refine Up.call ?_ (by with_reducible assumption)) | go_size)), HL1.out, HL2.out, HL3.out⟩
        case measure => simp [intOf]; omega
    · obtain rfl : i = q + 1 := by omega
      have hm1 : 1 ≤ m := by omega
      have hm15 : m ≤ 15 := by omega
      obtain ⟨j, hj⟩ : ∃ j : Nat, a1 % (m : Int) = (j : Int) := ⟨(a1 % (m : Int)).toNat, by have := Int.emod_nonneg a1 (show (m : Int) ≠ 0 by omega); omega⟩
      have hjm : j < m := by have := Int.emod_lt_of_pos a1 (show (0 : Int) < (m : Int) by omega); omega
      have dm : ((m : Int) == 0) = false := by rw [beq_eq_false_iff_ne]; omega
      have dm2 : ¬ (m : Int) = 0 := by omega
      clear hm
      rcases owned_form HO.out with ⟨_, h0⟩ | ⟨go, co, rfl, hn, hmx, hgo⟩
      · omega
      have HCO : Hid (∀ i r, i < m → r < 8 → wr.cell? ⟨go, i * 8 + r, none⟩ = (objN i)[r]?) := Lib.hid (fun i r hi hr => (HO.out.cellAt _ (by omega)).trans (objL_at m i r hi hr))
      have HCJ := Lib.hid (fun r hr => HCO.out j r hjm hr : ∀ r, r < 8 → wr.cell? ⟨go, j * 8 + r, none⟩ = (objN j)[r]?)
      have cj0 : wr.cell? ⟨go, j * 8, none⟩ = some (.int .i64 10) := HCJ.out 0 (by decide)
      have cj1 : wr.cell? ⟨go, j * 8 + 1, none⟩ = some (.bool false) := HCJ.out 1 (by decide)
      have cj2 : wr.cell? ⟨go, j * 8 + 2, none⟩ = some (.int .i64 0) := HCJ.out 2 (by decide)
      have cj3 : wr.cell? ⟨go, j * 8 + 3, none⟩ = some (.int .i64 ((j : Int) + 1)) := HCJ.out 3 (by decide)
      have cj4 : wr.cell? ⟨go, j * 8 + 4, none⟩ = some (.string ⟨#[]⟩) := HCJ.out 4 (by decide)
      have cj5 : wr.cell? ⟨go, j * 8 + 5, none⟩ = some (.int .i64 0) := HCJ.out 5 (by decide)
      have cj6 : wr.cell? ⟨go, j * 8 + 6, none⟩ = some (.int .i64 0) := HCJ.out 6 (by decide)
      have cj7 : wr.cell? ⟨go, j * 8 + 7, none⟩ = some (.int .i64 0) := HCJ.out 7 (by decide)
      have hgow : w.heap.size ≤ go := HL3.out go rfl
      obtain ⟨wo, hwo⟩ : ∃ x, x = wr := ⟨wr, rfl⟩
      subst hwo
      go_wp2_with (first
        | (go_at_call 10; ((with_reducible refine (answers_calls _).mono ?_); rintro E w5 ⟨rfl, hu5⟩; have ck0 : w5.cell? ⟨go, j * 8, none⟩ = some (.int .i64 10) := (hu5.cells.1 go _ hgo).trans cj0; have ck1 : w5.cell? ⟨go, j * 8 + 1, none⟩ = some (.bool false) := (hu5.cells.1 go _ hgo).trans cj1; have ck2 : w5.cell? ⟨go, j * 8 + 2, none⟩ = some (.int .i64 0) := (hu5.cells.1 go _ hgo).trans cj2; have ck3 : w5.cell? ⟨go, j * 8 + 3, none⟩ = some (.int .i64 ((j : Int) + 1)) := (hu5.cells.1 go _ hgo).trans cj3; have ck4 : w5.cell? ⟨go, j * 8 + 4, none⟩ = some (.string ⟨#[]⟩) := (hu5.cells.1 go _ hgo).trans cj4; have ck5 : w5.cell? ⟨go, j * 8 + 5, none⟩ = some (.int .i64 0) := (hu5.cells.1 go _ hgo).trans cj5; have ck6 : w5.cell? ⟨go, j * 8 + 6, none⟩ = some (.int .i64 0) := (hu5.cells.1 go _ hgo).trans cj6; have ck7 : w5.cell? ⟨go, j * 8 + 7, none⟩ = some (.int .i64 0) := (hu5.cells.1 go _ hgo).trans cj7; have hgo5 : go < w5.heap.size := Nat.lt_of_lt_of_le hgo hu5.size))
        | (go_at_call 11; ((with_reducible refine (restore_good w1.heap.size w.heap.size vl vm (numl m) m 100 m false 0 ((j : Int) + 1) ⟨#[]⟩ 0 0 0 j ((j : Int) + 1) j _ (HV.out.up (by (repeat' (first | (with_reducible exact Up.refl _) | (with_reducible assumption) | (with_reducible refine Up.alloc ?_ _) | (with_reducible refine Up.drew ?_) | (with_reducible refine Up.drewN ?_ _) | (with_reducible refine Up.setCell ?_ ?_ _) | (with_reducible refine Up.call ?_ (by with_reducible assumption)) | go_size)))) (numl_at hjm) hjm (by rw [atS_num, if_pos hjm])).mono ?_); rintro E w6 ⟨rfl, vl6, vm6, hv6, hc6, e6, e7⟩; rw [numl_take (show j ≤ m by omega)] at hv6; have HV6 := Lib.hid hv6; have HO6 := Lib.hid (owned_chg (owned_up HO.out hu5) hc6 (fun g hg hmem => by simp only [List.mem_cons, List.not_mem_nil, or_false] at hmem; rcases hmem with e | e; (exact apB.out g hg e); (exact apT.out g hg e))); have HU6 := Lib.hid (((Chg.of_up (S := []) (Up.call hup hu5)).call hc6 (fun x hx => Or.inr (by simp only [List.mem_cons, List.not_mem_nil, or_false] at hx; omega))).up); have HL61 := Lib.hid (show ∀ g, vl6.ownBlock = some g → w.heap.size ≤ g from fun g hg => HL1.out g (by rw [← e6]; exact hg)); have HL62 := Lib.hid (show ∀ g, vm6.ownBlock = some g → w.heap.size ≤ g from fun g hg => HL2.out g (by rw [← e7]; exact hg)); clear hv6 hc6 e6 e7))
        | (go_at_call 12; ((with_reducible refine (depth_calls w1.heap.size w.heap.size vl6 vm6 (numl j) m 100 (j + 1) _ HV6.out).mono ?_); rintro E w7 ⟨rfl, rfl⟩; rw [numl_length])))
      clear cj0 cj1 cj2 cj3 cj4 cj5 cj6 cj7 ck0 ck1 ck2 ck3 ck4 ck5 ck6 ck7 hgo hgo5 HCO HCJ
      have hgo6 : go < w6.heap.size := (owned_form HO6.out).elim (fun h => by omega) (fun ⟨g, c, e, _, _, h⟩ => by injection e with e; injection e with e; injection e with e; omega)
      have HC6 : Hid (∀ i r, i < m → r < 8 → w6.cell? ⟨go, i * 8 + r, none⟩ = (objN i)[r]?) := Lib.hid (fun i r hi hr => (HO6.out.cellAt _ (by omega)).trans (objL_at m i r hi hr))
      go_loopw [14] (fun s14 wr => ∃ i : Nat, i ≤ m ∧ s14 = .int .i64 i ∧ Up w6 wr) (fun s14 _ => m - (intOf s14).toNat)
      case atStart => exact ⟨0, Nat.zero_le _, rfl, Up.refl _⟩
      case round =>
        obtain ⟨i, hi, rfl, hup6⟩ := hrel
        by_cases hlt : i < m
        · have HCI := Lib.hid (fun r hr => (hup6.cells.1 go _ hgo6).trans (HC6.out i r hlt hr) : ∀ r, r < 8 → wr.cell? ⟨go, i * 8 + r, none⟩ = (objN i)[r]?)
          have ci0 : wr.cell? ⟨go, i * 8, none⟩ = some (.int .i64 10) := HCI.out 0 (by decide)
          have ci1 : wr.cell? ⟨go, i * 8 + 1, none⟩ = some (.bool false) := HCI.out 1 (by decide)
          have ci2 : wr.cell? ⟨go, i * 8 + 2, none⟩ = some (.int .i64 0) := HCI.out 2 (by decide)
          have ci3 : wr.cell? ⟨go, i * 8 + 3, none⟩ = some (.int .i64 ((i : Int) + 1)) := HCI.out 3 (by decide)
          have ci4 : wr.cell? ⟨go, i * 8 + 4, none⟩ = some (.string ⟨#[]⟩) := HCI.out 4 (by decide)
          have ci5 : wr.cell? ⟨go, i * 8 + 5, none⟩ = some (.int .i64 0) := HCI.out 5 (by decide)
          have ci6 : wr.cell? ⟨go, i * 8 + 6, none⟩ = some (.int .i64 0) := HCI.out 6 (by decide)
          have ci7 : wr.cell? ⟨go, i * 8 + 7, none⟩ = some (.int .i64 0) := HCI.out 7 (by decide)
          have hgr : go < wr.heap.size := Nat.lt_of_lt_of_le hgo6 hup6.size
          by_cases hij : i < j
          · have d1 : decide ((i : Int) < (j : Int)) = true := decide_eq_true (by omega)
            have d2 : decide ((j : Int) ≤ (i : Int)) = false := decide_eq_false (by omega)
            have d3 : decide ((0 : Int) ≤ (i : Int)) = true := decide_eq_true (by omega)
            have HA := Lib.hid (show atS 10 ((i : Int) + 1) (numl j) = (i : Int) by rw [atS_num, if_pos hij])
            go_wp2_with (go_at_call 13; ((with_reducible refine (alive_calls w1.heap.size w.heap.size vl6 vm6 (numl j) m 100 (j + 1) 10 false 0 ((i : Int) + 1) ⟨#[]⟩ 0 0 0 _ (HV6.out.up (by (repeat' (first | (with_reducible exact Up.refl _) | (with_reducible assumption) | (with_reducible refine Up.alloc ?_ _) | (with_reducible refine Up.drew ?_) | (with_reducible refine Up.drewN ?_ _) | (with_reducible refine Up.setCell ?_ ?_ _) | (with_reducible refine Up.call ?_ (by with_reducible assumption)) | go_size)))) (i : Int) HA.out).mono ?_); rintro E w8 ⟨rfl, hu8⟩; rw [d3]))
            go_roundw
            case rel => exact ⟨i + 1, by omega, by go_num, by (repeat' (first | (with_reducible exact Up.refl _) | (with_reducible assumption) | (with_reducible refine Up.alloc ?_ _) | (with_reducible refine Up.drew ?_) | (with_reducible refine Up.drewN ?_ _) | (with_reducible refine Up.setCell ?_ ?_ _) | (with_reducible refine Up.call ?_ (by with_reducible assumption)) | go_size))⟩
            case measure => simp [intOf]; omega
          · have d1 : decide ((i : Int) < (j : Int)) = false := decide_eq_false (by omega)
            have d2 : decide ((j : Int) ≤ (i : Int)) = true := decide_eq_true (by omega)
            have HA := Lib.hid (show atS 10 ((i : Int) + 1) (numl j) = -1 by rw [atS_num, if_neg hij])
            go_wp2_with (first
              | (go_at_call 13; ((with_reducible refine (alive_calls w1.heap.size w.heap.size vl6 vm6 (numl j) m 100 (j + 1) 10 false 0 ((i : Int) + 1) ⟨#[]⟩ 0 0 0 _ (HV6.out.up (by (repeat' (first | (with_reducible exact Up.refl _) | (with_reducible assumption) | (with_reducible refine Up.alloc ?_ _) | (with_reducible refine Up.drew ?_) | (with_reducible refine Up.drewN ?_ _) | (with_reducible refine Up.setCell ?_ ?_ _) | (with_reducible refine Up.call ?_ (by with_reducible assumption)) | go_size)))) (-1) HA.out).mono ?_); rintro E w8 ⟨rfl, hu8⟩; rw [show decide ((0 : Int) ≤ -1) = false from rfl]; have ck0 : w8.cell? ⟨go, i * 8, none⟩ = some (.int .i64 10) := (hu8.cells.1 go _ hgr).trans ci0; have ck1 : w8.cell? ⟨go, i * 8 + 1, none⟩ = some (.bool false) := (hu8.cells.1 go _ hgr).trans ci1; have ck2 : w8.cell? ⟨go, i * 8 + 2, none⟩ = some (.int .i64 0) := (hu8.cells.1 go _ hgr).trans ci2; have ck3 : w8.cell? ⟨go, i * 8 + 3, none⟩ = some (.int .i64 ((i : Int) + 1)) := (hu8.cells.1 go _ hgr).trans ci3; have ck4 : w8.cell? ⟨go, i * 8 + 4, none⟩ = some (.string ⟨#[]⟩) := (hu8.cells.1 go _ hgr).trans ci4; have ck5 : w8.cell? ⟨go, i * 8 + 5, none⟩ = some (.int .i64 0) := (hu8.cells.1 go _ hgr).trans ci5; have ck6 : w8.cell? ⟨go, i * 8 + 6, none⟩ = some (.int .i64 0) := (hu8.cells.1 go _ hgr).trans ci6; have ck7 : w8.cell? ⟨go, i * 8 + 7, none⟩ = some (.int .i64 0) := (hu8.cells.1 go _ hgr).trans ci7))
              | (go_at_call 11; ((with_reducible refine (restore_bad w1.heap.size w.heap.size vl6 vm6 (numl j) m 100 (j + 1) 10 false 0 ((i : Int) + 1) ⟨#[]⟩ 0 0 0 (.slice none 0 0) _ (HV6.out.up (by (repeat' (first | (with_reducible exact Up.refl _) | (with_reducible assumption) | (with_reducible refine Up.alloc ?_ _) | (with_reducible refine Up.drew ?_) | (with_reducible refine Up.drewN ?_ _) | (with_reducible refine Up.setCell ?_ ?_ _) | (with_reducible refine Up.call ?_ (by with_reducible assumption)) | go_size)))) (by rw [HA.out]; decide)).mono ?_); rintro E w9 ⟨rfl, hu9⟩; rw [if_pos rfl])))
            go_roundw
            case rel => exact ⟨i + 1, by omega, by go_num, by (repeat' (first | (with_reducible exact Up.refl _) | (with_reducible assumption) | (with_reducible refine Up.alloc ?_ _) | (with_reducible refine Up.drew ?_) | (with_reducible refine Up.drewN ?_ _) | (with_reducible refine Up.setCell ?_ ?_ _) | (with_reducible refine Up.call ?_ (by with_reducible assumption)) | go_size))⟩
            case measure => simp [intOf]; omega
        · obtain rfl : m = i := by omega
          obtain ⟨wp, hwp⟩ : ∃ x, x = wr := ⟨wr, rfl⟩
          subst hwp
          have hV := HV6.out.up hup6
          have HV := Lib.hid hV
          have HO7 := Lib.hid (owned_up HO6.out hup6)
          have apB6 := Lib.hid (apartRow hV.row HO7.out (fun cap hc => by simp at hc; omega))
          have apT6 := Lib.hid (apartRow hV.st.row HO7.out (fun cap hc => by simp at hc; omega))
          have hgo7 : go < wp.heap.size := Nat.lt_of_lt_of_le hgo6 hup6.size
          clear hV
          go_wp2_with (go_at_call 9; ((with_reducible refine (save_calls w1.heap.size w.heap.size vl6 vm6 (numl j) m 100 (j + 1) _ HV.out (by rw [numl_length]; omega) (by omega) (by omega) (by omega)).mono ?_); rintro E w10 ⟨rfl, vl10, vm10, hv10, hc10, ho10, ho11⟩; have HV10 := Lib.hid hv10; have HO10 := Lib.hid (owned_chg HO7.out hc10 (fun g hg hmem => by simp only [List.mem_cons, List.mem_append] at hmem; rcases hmem with e | e | e | e; (exact apB6.out g hg e); (exact apT6.out g hg e); (exact two_types HO7.out HV.out.own (by decide) g hg (own_of e)); (exact two_types HO7.out HV.out.st.own (by decide) g hg (own_of e)))); have HU10 := Lib.hid (((Chg.of_up (S := []) (Up.call HU6.out hup6)).call hc10 (fun x hx => Or.inr (by simp only [List.mem_cons, List.mem_append] at hx; rcases hx with e | e | e | e; omega; omega; (exact HL61.out x (own_of e)); (exact HL62.out x (own_of e))))).up); clear hv10 hc10 ho10 ho11))
          have hgo10 : go < w10.heap.size := (owned_form HO10.out).elim (fun h => by omega) (fun ⟨g, c, e, _, _, h⟩ => by injection e with e; injection e with e; injection e with e; omega)
          have HC10 : Hid (∀ i r, i < m → r < 8 → w10.cell? ⟨go, i * 8 + r, none⟩ = (objN i)[r]?) := Lib.hid (fun i r hi hr => (HO10.out.cellAt _ (by omega)).trans (objL_at m i r hi hr))
          go_loopw [17] (fun s17 wr => ∃ i : Nat, i ≤ m ∧ s17 = .int .i64 i ∧ Up w10 wr ∧ wr.cell? ⟨w10.heap.size, 3, none⟩ = some (.int .i64 ((m : Int) + 1))) (fun s17 _ => m - (intOf s17).toNat)
          case atStart => exact ⟨0, Nat.zero_le _, rfl, by (repeat' (first | (with_reducible exact Up.refl _) | (with_reducible assumption) | (with_reducible refine Up.alloc ?_ _) | (with_reducible refine Up.drew ?_) | (with_reducible refine Up.drewN ?_ _) | (with_reducible refine Up.setCell ?_ ?_ _) | (with_reducible refine Up.call ?_ (by with_reducible assumption)) | go_size)), (show Row _ w10.heap.size #[.int .i64 10, .bool false, .int .i64 0, .int .i64 ((m : Int) + 1), .string ⟨#[]⟩, .int .i64 0, .int .i64 0, .int .i64 0] by (repeat' (first | (with_reducible assumption) | (with_reducible refine Row.at _ _ ?_; (simp; done)) | (with_reducible refine Row.alloc ?_ _) | (with_reducible refine Row.drew ?_) | (with_reducible refine Row.drewN ?_ _) | (with_reducible refine Row.other ?_ (by first | (simp; done) | (simp; omega) | omega) _) | (with_reducible refine Row.up ?_ (by with_reducible assumption)) | (with_reducible refine Row.chg ?_ (by with_reducible assumption) (by first | (simp; done) | (simp; omega)))))).cell 3 rfl⟩
          case round =>
            obtain ⟨i, hi, rfl, hup10, hc3⟩ := hrel
            by_cases hlt : i < m
            · have ci3 : wr.cell? ⟨go, i * 8 + 3, none⟩ = some (.int .i64 ((i : Int) + 1)) := (hup10.cells.1 go _ hgo10).trans (HC10.out i 3 hlt (by decide))
              have dq : (((i : Int) + 1) == ((m : Int) + 1)) = false := by rw [beq_eq_false_iff_ne]; omega
              have dq2 : ((i : Int) == (m : Int)) = false := by rw [beq_eq_false_iff_ne]; omega
              go_wp2
              go_region
              go_wp2
              all_goals go_roundw
              case rel => exact ⟨i + 1, by omega, by go_num, by (repeat' (first | (with_reducible exact Up.refl _) | (with_reducible assumption) | (with_reducible refine Up.alloc ?_ _) | (with_reducible refine Up.drew ?_) | (with_reducible refine Up.drewN ?_ _) | (with_reducible refine Up.setCell ?_ ?_ _) | (with_reducible refine Up.call ?_ (by with_reducible assumption)) | go_size)), hc3⟩
              case measure => simp [intOf]; omega
            · go_wp2_with (go_at_call 12; ((with_reducible refine (depth_calls w1.heap.size w.heap.size vl10 vm10 (numl j ++ [((m : Int) + 1, ((j + 1 : Nat) : Int) + 1)]) ((m : Int) + 1) 100 (j + 1 + 1) _ (HV10.out.up (by (repeat' (first | (with_reducible exact Up.refl _) | (with_reducible assumption) | (with_reducible refine Up.alloc ?_ _) | (with_reducible refine Up.drew ?_) | (with_reducible refine Up.drewN ?_ _) | (with_reducible refine Up.setCell ?_ ?_ _) | (with_reducible refine Up.call ?_ (by with_reducible assumption)) | go_size))))).mono ?_); rintro E w12 ⟨rfl, rfl⟩; rw [show (numl j ++ [((m : Int) + 1, ((j + 1 : Nat) : Int) + 1)]).length = j + 1 by simp [numl_length]]))
              go_ret
              exact ⟨rfl, Up.call HU10.out hup10⟩

theorem own : ownKnob Try.prog.godebug = none := by kernel_rfl
theorem laidOut : laidOutB Try.prog = true := by kernel_rfl
set_option maxRecDepth 100000 in
theorem lifted (os : Os) (started : os.Started) (H : Type) (enc : TypeId × Value → H) :
    ReturnsInHanded {} Try.checked os 3 .any (Rows.saveNestedSpec.pre6 enc Try.prog Try.f3 Rows.saveNestedRow.domain false) (Rows.saveNestedSpec.post enc Try.prog Try.f3 false true false false) := by
  refine returnsInHanded_of_change (C := Try.checked) own started (by kernel_rfl) Try.func3
    (ChangeSpec.witness6 (enc := enc) (C := Try.checked) false ⟨#[], #[.int .u8 0, .int .u8 0], []⟩ 8 (by kernel_rfl) (by kernel_rfl) (by kernel_rfl) (by kernel_rfl)) ?_
  intro W base args ds gs before hval0 hW hcnd _
  have hval : ∀ (j : Nat) t v, Try.f3.params[j]? = some t → args[j]? = some v → Value.okWide Try.prog W .any base t v := hval0
  have hW' := hW
  obtain ⟨p, q, hA0, hV, rfl, hfz, hnd⟩ := hW
  have hA : DataW.TrodAll enc Try.prog W 0 (fun _ => true) true Try.f3.params.toList args.toList ds p := hA0
  rw [Try.params3] at hA hval
  obtain ⟨v0, vs0, d0, ds0, p0, q0, hargs, rfl, rfl, h0, r0⟩ := trodAll_cons hA
  obtain ⟨v1, vs1, d1, ds1, p1, q1, rfl, rfl, rfl, h1, r1⟩ := trodAll_cons r0
  obtain ⟨rfl, rfl, rfl⟩ := trodAll_nil r1
  obtain rfl : args = #[v0, v1] := by cases args; simp_all
  obtain ⟨rfl, rfl⟩ := trodVars_none hV
  have k0 := h0
  have lt0 : ∀ x ∈ p0, x.block < W.heap.size := by obtain ⟨m, hm⟩ := k0; exact DataW.trod_lt m _ _ _ hm
  have k1 := h1
  have lt1 : ∀ x ∈ p1, x.block < W.heap.size := by obtain ⟨m, hm⟩ := k1; exact DataW.trod_lt m _ _ _ hm
  obtain ⟨a0, rfl, rfl, rfl, w0⟩ := open_int Try.underlying5 (hval 0 5 v0 rfl rfl) h0
  obtain ⟨a1, rfl, rfl, rfl, w1⟩ := open_int Try.underlying5 (hval 1 5 v1 rfl rfl) h1
  clear hA0 hval0
  refine (walk (w := W) a0 a1 w0 w1 ).mono fun e W' ⟨he, bel⟩ => ?_
  subst he
  exact ⟨_, rfl, _, _, _, [], _, [], hW', trodAll_mk1 (shut_bool Try.underlying4 _), (trodAll_cons_mk (Below.trod laidOut (by kernel_rfl) (of_decide_eq_true (by kernel_rfl)) k0 bel lt0) (trodAll_cons_mk (Below.trod laidOut (by kernel_rfl) (of_decide_eq_true (by kernel_rfl)) k1 bel lt1) trodAll_mk0)), rfl, bel.frame _, fun h => by cases h⟩

theorem over : Rows.saveNestedRow.holds Try.pinned (OpenSpec.ofChange Rows.saveNestedSpec) :=
  OpenClaim.holds_of_wide 3 Try.f3 rfl rfl rfl rfl rfl rfl rfl ⟨rfl, rfl, rfl, rfl, rfl⟩ rfl rfl rfl rfl rfl (by kernel_rfl) Try.func3 (by kernel_rfl)
    (of_decide_eq_true (by kernel_rfl)) (by unfold Func.isWrapper; first | (rw [if_pos (by decide +kernel)]; kernel_rfl) | (rw [if_neg (by decide +kernel)]; exact ⟨rfl, rfl⟩))
    (fun os started H enc _ => lifted os started H enc)

/-- THE STATEMENT -/
theorem proved : Rows.SaveNestedSaid := over
#print axioms proved
end Go.Proofs.Ytjijbkehbeppjaa.saveNested
