/- The fonts' names: what the package-level list holds, and the law's own question 'answers'. No condition. -/
import Derived.Test.YtcldhlppnedcjaaDoorFont
import Derived.Test.YtcldhlppnedcjaaDoorArr
import Derived.Test.YtcldhlppnedcjaaDoorCards
import Derived.Test.YtcldhlppnedcjaaDoorTie
import Derived.Deep.DeepHandedRow
import Derived.Lib.LaidTab
namespace Go.Proofs.YtcldhlppnedcjaaDoor.Font
open Go.ChangeShapes Go.WideShapes Go.ChangeAt Go.RowKit
open Go.Proofs.YtcldhlppnedcjaaDoor.FontM

def namesL : List (List UInt8) := [[67, 111, 117, 114, 105, 101, 114], [67, 111, 117, 114, 105, 101, 114, 45, 66, 111, 108, 100], [67, 111, 117, 114, 105, 101, 114, 45, 79, 98, 108, 105, 113, 117, 101], [67, 111, 117, 114, 105, 101, 114, 45, 66, 111, 108, 100, 79, 98, 108, 105, 113, 117, 101], [72, 101, 108, 118, 101, 116, 105, 99, 97], [72, 101, 108, 118, 101, 116, 105, 99, 97, 45, 66, 111, 108, 100], [72, 101, 108, 118, 101, 116, 105, 99, 97, 45, 79, 98, 108, 105, 113, 117, 101], [72, 101, 108, 118, 101, 116, 105, 99, 97, 45, 66, 111, 108, 100, 79, 98, 108, 105, 113, 117, 101], [84, 105, 109, 101, 115, 45, 82, 111, 109, 97, 110], [84, 105, 109, 101, 115, 45, 66, 111, 108, 100], [84, 105, 109, 101, 115, 45, 73, 116, 97, 108, 105, 99], [84, 105, 109, 101, 115, 45, 66, 111, 108, 100, 73, 116, 97, 108, 105, 99], [83, 121, 109, 98, 111, 108], [90, 97, 112, 102, 68, 105, 110, 103, 98, 97, 116, 115]]

def namesV : Array Value := (namesL.map fun l => Value.string ⟨l.toArray⟩).toArray
/-- the list's block -/
def Tab (W : World) : Prop := ∃ t fr, W.heap[0]? = some (.cells namesV t fr)
theorem namesV_at (i : Nat) (h : i < 14) : namesV[i]? = some (.string ⟨(namesL.getD i []).toArray⟩) := by
  have hl : namesL.length = 14 := rfl
  simp [namesV, List.getD, show i < namesL.length by omega]
theorem Tab.cell {W : World} (h : Tab W) : ∀ i, i < 14 → W.cell? ⟨0, i, none⟩ = some (.string ⟨(namesL.getD i []).toArray⟩) := by
  intro i hi
  obtain ⟨t, fr, hb⟩ := h
  rw [← namesV_at i hi]
  simp [World.cell?, hb]

theorem gTab : Tryd.prog.globalNamed "mezzotint/font.names" = some 0 := by kernel_rfl
theorem gTabType : (Tryd.prog.globals[0]?).map (·.type) = some 36 := by kernel_rfl
theorem cellsT : Tryd.prog.cellsOf 36 = 14 := by kernel_rfl
theorem cellsE : Tryd.prog.cellsOf 9 = 1 := by kernel_rfl

/-- an array of strings that reads as these holds these, cell for cell -/
theorem cells_of_strings {H : Type} {enc : TypeId × Value → H} {P : Program} {w : World} {base : Nat} {sp : Nat → Bool} {held : Bool} {fuel : Nat} {t e : TypeId} {n : Nat} {cs : List Value} {ls : List (List UInt8)} {p : List MemPlace}
    (ht : P.underlying t = some (.array n e)) (he : P.underlying e = some .string) (hce : P.cellsOf e = 1) (hct : P.cellsOf t = n) (hln : ls.length = n)
    (h : DataW.trod enc P w base sp held fuel t cs = some (.agg (ls.map fun l => .lit (.string l)), p)) : cs = ls.map fun l => Value.string ⟨l.toArray⟩ := by
  cases fuel with
  | zero => simp [DataW.trod] at h
  | succ fuel =>
    simp only [DataW.trod, ht, hce, hct, Nat.mul_one] at h
    split at h
    · rename_i hl
      obtain ⟨xs, hm, hx⟩ := Option.map_eq_some_iff.1 h
      have hxs : xs.map (·.1) = ls.map fun l => (DataW.lit (.string l) : DataW H) := by
        have := congrArg Prod.fst hx
        simpa using this
      apply List.ext_getElem?
      intro i
      by_cases hi : i < n
      · obtain ⟨b, hb, hf⟩ := Lib.mapM_at hm i i (by simp [hi])
        obtain ⟨z, hc, rfl, _⟩ := DataW.trod_string he hf
        have h1 : cs[i]? = some (.string z) := by
          have := congrArg (·[0]?) hc
          simpa [List.getElem?_take, List.getElem?_drop] using this
        have h2 : (xs.map (·.1))[i]? = some (DataW.lit (.string z.data.toList) : DataW H) := by simp [hb]
        rw [hxs] at h2
        simp only [List.getElem?_map, Option.map_eq_some_iff, DataW.lit.injEq, Lit.string.injEq] at h2
        obtain ⟨l, hl2, hl3⟩ := h2
        rw [h1, List.getElem?_map, hl2]
        subst hl3
        rfl
      · rw [List.getElem?_eq_none (by omega), List.getElem?_eq_none (by simp; omega)]
    · cases h

theorem table {W : World} (h : laidMetH Tryd.prog [("mezzotint/font.names", Rows.laid_mezzotint_font_names)] W) : Tab W := by
  have h' : laidMet Tryd.prog [("mezzotint/font.names", .agg (namesL.map fun l => .lit (.string l)))] W := h
  obtain ⟨ps, ⟨g', t', cs, fuel, p, q, hg', ht', hvar, hd, _, _⟩, _⟩ := h'
  obtain rfl := Option.some.inj (gTab.symm.trans hg')
  obtain rfl := Option.some.inj (gTabType.symm.trans ht')
  have h1 := cells_of_strings Tryd.underlying36 Tryd.underlying9 cellsE cellsT rfl hd
  have h2 : cs = namesV := by
    apply Array.ext'
    rw [h1]
    rfl
  subst h2
  simp only [World.var?, gTab, Option.bind_some] at hvar
  split at hvar
  · rename_i cs' t fr hb
    exact ⟨t, fr, by rw [hb]; injection hvar with hv; rw [hv]⟩
  · cases hvar

theorem Tab.up {W W1 : World} (h : Tab W) (hup : Up W W1) : Tab W1 := by
  obtain ⟨t, fr, hb⟩ := h
  exact ⟨t, fr, by rw [hup.block _ (Array.getElem?_eq_some_iff.1 hb).1]; exact hb⟩

theorem name_calls (i : Int) (w : World) (hT : Tab w) :
    Calls Tryd.prog 15 #[.int .i64 i] w fun e w' => e = .returned (.string ⟨(if 0 ≤ i ∧ i < 14 then namesL.getD i.toNat [] else []).toArray⟩) ∧ w = w' := by
  have HT := Lib.hid hT
  clear hT
  by_cases h0 : 0 ≤ i
  · by_cases h1 : i < 14
    · rw [if_pos ⟨h0, h1⟩]
      obtain ⟨k, rfl⟩ := Int.eq_ofNat_of_zero_le h0
      have d1 : decide ((k : Int) < 0) = false := decide_eq_false (by omega)
      have d2 : decide (14 ≤ (k : Int)) = false := decide_eq_false (by omega)
      have hcell := HT.out.cell k (by omega)
      rw [Int.toNat_natCast]
      generalize (⟨(namesL.getD k []).toArray⟩ : ByteArray) = s at *
      go_enter Tryd.func15, Tryd.ntmps15
      go_wp2
      go_ret
      exact ⟨rfl, rfl⟩
    · rw [if_neg (by omega)]
      have d1 : decide (i < 0) = false := decide_eq_false (by omega)
      have d2 : decide (14 ≤ i) = true := decide_eq_true (by omega)
      go_enter Tryd.func15, Tryd.ntmps15
      go_wp2
      go_ret
      exact ⟨rfl, rfl⟩
  · rw [if_neg (by omega)]
    have d1 : decide (i < 0) = true := decide_eq_true (by omega)
    go_enter Tryd.func15, Tryd.ntmps15
    go_wp2
    go_ret
    exact ⟨rfl, rfl⟩

theorem answers_calls (w : World) (hT : Tab w) : Calls Tryd.prog 7 #[] w fun e w' => e = .returned (.bool true) ∧ Up w w' := by
  have HT := Lib.hid hT
  clear hT
  have h1 : width 4 65 = 667 := by decide +kernel
  go_enter Tryd.func7, Tryd.ntmps7
  go_wp2_with (first
    | (go_at_call 8; ((with_reducible refine (width_calls _ _ _ (by decide) (by decide)).mono ?_); rintro e w' ⟨rfl, hu⟩))
    | (go_at_call 15; ((with_reducible refine (name_calls 0 _ (HT.out.up (by assumption))).mono ?_); rintro e w' ⟨rfl, rfl⟩)))
  go_ret
  exact ⟨by first | rfl | (simp [namesL]; done), by (repeat' (first | (with_reducible exact Up.refl _) | (with_reducible assumption) | (with_reducible refine Up.alloc ?_ _) | (with_reducible refine Up.drew ?_) | (with_reducible refine Up.drewN ?_ _) | (with_reducible refine Up.setCell ?_ ?_ _) | (with_reducible refine Up.call ?_ (by with_reducible assumption)) | go_size))⟩

/-- where a name stands -/
def look (s : List UInt8) : List (List UInt8) → Nat → Option Nat
  | [], _ => none
  | n :: l, k => if n = s then some k else look s l (k + 1)
def idx (s : List UInt8) : Option Nat := look s namesL 0
theorem look_at (s : List UInt8) : ∀ (l : List (List UInt8)) (k i : Nat) (h : i < l.length), (∀ j, (hj : j < i) → l[j] ≠ s) → (l[i] = s → look s l k = some (k + i)) := by
  intro l
  induction l with
  | nil => intro k i h; simp at h
  | cons n l ih =>
    intro k i h hno hyes
    cases i with
    | zero => simp at hyes; simp [look, hyes]
    | succ i =>
      have h0 : n ≠ s := by have := hno 0 (by omega); simpa using this
      rw [look, if_neg h0, ih (k + 1) i (by simpa using h) (fun j hj => by have := hno (j + 1) (by omega); simpa using this) (by simpa using hyes)]
      congr 1; omega
theorem look_none (s : List UInt8) : ∀ (l : List (List UInt8)) (k : Nat), (∀ j, (hj : j < l.length) → l[j] ≠ s) → look s l k = none := by
  intro l
  induction l with
  | nil => intro k _; rfl
  | cons n l ih =>
    intro k hno
    have h0 : n ≠ s := by have := hno 0 (by simp); simpa using this
    rw [look, if_neg h0]
    exact ih (k + 1) fun j hj => by have := hno (j + 1) (by simpa using hj); simpa using this

theorem isAggE (w : World) : (isAgg 9).run Tryd.prog w = .ok false w := by kernel_rfl
theorem infoE : (Tryd.prog.info? 9).map (·.size) = some 1 := by kernel_rfl
theorem infoT : (Tryd.prog.info? 36).map (·.size) = some namesV.size := by kernel_rfl

set_option maxHeartbeats 400000 in
theorem find_calls (s : List UInt8) (w : World) (hT : Tab w) :
    Calls Tryd.prog 13 #[.string ⟨s.toArray⟩] w fun e w' => e = .returned (.tuple #[.int .i64 ((idx s).getD 0 : Nat), .bool (idx s).isSome]) ∧ w = w' := by
  obtain ⟨t, fr, hb⟩ := hT
  go_enter Tryd.func13, Tryd.ntmps13
  go_wp2_with (with_reducible refine wpList_load_row rfl 36 (.global 0) rfl _ rfl _ namesV _ _ hb Tryd.underlying36 rfl infoT ?_)
  have HB := Lib.hid hb
  clear hb
  go_loop [7] (fun i => ∃ k : Nat, k ≤ 14 ∧ i = .int .i64 k ∧ ∀ j, (hj : j < namesL.length) → j < k → namesL[j] ≠ s) (fun i => 14 - (intOf i).toNat)
  case atStart => exact ⟨0, by decide, rfl, fun j _ h => absurd h (by omega)⟩
  case round =>
    obtain ⟨k, hk, rfl, hno⟩ := hrel
    have HN := Lib.hid hno
    clear hno
    have hl : namesL.length = 14 := rfl
    by_cases hlt : k < 14
    · have hix := fun w => run_index_agg1 (P := Tryd.prog) w 36 9 14 namesV .i64 k _ Tryd.underlying36 isAggE hlt (namesV_at k hlt) infoE
      have hkl : k < namesL.length := by omega
      obtain ⟨n, hn⟩ : ∃ n, namesL.getD k [] = n := ⟨_, rfl⟩
      have HG : Hid (namesL[k] = n) := Lib.hid (by rw [← hn, List.getD, List.getElem?_eq_getElem hkl]; rfl)
      rw [hn] at hix
      clear hn
      by_cases he : n = s
      · have H : Hid (idx s = some k) := Lib.hid (by
          have := look_at s namesL 0 k hkl (fun j hj => HN.out j (by omega) hj) (by rw [HG.out, he])
          simpa [idx] using this)
        have hb : (n == s) = true := by simpa using he
        clear he
        go_wp2
        go_ret2
        exact ⟨by rw [H.out]; rfl, rfl⟩
      · have hb : (n == s) = false := by simpa using he
        have HE := Lib.hid he
        clear he
        go_wp2
        go_round
        case rel => exact ⟨k + 1, by omega, by go_num, fun j hj h => by
          by_cases hjk : j = k
          · subst hjk; rw [HG.out]; exact HE.out
          · exact HN.out j hj (by omega)⟩
        case measure => simp [intOf]; omega
    · have H : Hid (idx s = none) := Lib.hid (look_none s namesL 0 (fun j hj => HN.out j hj (by omega)))
      go_wp2
      go_ret2
      exact ⟨by rw [H.out]; rfl, rfl⟩

def numOf : Option Nat → Int
  | some k => (k : Int)
  | none => -1

set_option maxHeartbeats 400000 in
theorem names_calls (w : World) : Calls Tryd.prog 12 #[] w fun e w' => ∃ fr, e = .returned (.slice (some ⟨w.heap.size, 0, none⟩) 14 14) ∧ w' = w.alloc (.cells namesV 9 fr) := by
  go_enter Tryd.func12, Tryd.ntmps12
  go_wp2
  go_ret
  exact ⟨_, rfl, rfl⟩

set_option maxHeartbeats 400000 in
theorem font_calls (s : List UInt8) (w : World) :
    Calls Tryd.prog 14 #[.string ⟨s.toArray⟩] w fun e w' => e = .returned (.int .i64 (numOf (idx s))) ∧ Up w w' := by
  go_enter Tryd.func14, Tryd.ntmps14
  go_wp2_with (go_at_call 12; ((with_reducible refine (names_calls _).mono ?_); rintro e w' ⟨fr, rfl, rfl⟩))
  have hb : ∀ i, i < 14 → (w.alloc (.cells namesV 9 fr)).cell? ⟨w.heap.size, i, none⟩ = some (.string ⟨(namesL.getD i []).toArray⟩) := fun i hi => by rw [World.cell?_alloc_mark, namesV_at i hi]
  have HB := Lib.hid hb
  clear hb
  go_loop [4] (fun i => ∃ k : Nat, k ≤ 14 ∧ i = .int .i64 k ∧ ∀ j, (hj : j < namesL.length) → j < k → namesL[j] ≠ s) (fun i => 14 - (intOf i).toNat)
  case atStart => exact ⟨0, by decide, rfl, fun j _ h => absurd h (by omega)⟩
  case round =>
    obtain ⟨k, hk, rfl, hno⟩ := hrel
    have HN := Lib.hid hno
    clear hno
    have hl : namesL.length = 14 := rfl
    by_cases hlt : k < 14
    · have hcell := HB.out k hlt
      have hkl : k < namesL.length := by omega
      obtain ⟨n, hn⟩ : ∃ n, namesL.getD k [] = n := ⟨_, rfl⟩
      have HG : Hid (namesL[k] = n) := Lib.hid (by rw [← hn, List.getD, List.getElem?_eq_getElem hkl]; rfl)
      rw [hn] at hcell
      clear hn
      by_cases he : n = s
      · have H : Hid (idx s = some k) := Lib.hid (by
          have := look_at s namesL 0 k hkl (fun j hj => HN.out j (by omega) hj) (by rw [HG.out, he])
          simpa [idx] using this)
        have hb : (n == s) = true := by simpa using he
        clear he
        go_wp2
        go_ret
        exact ⟨by rw [H.out]; rfl, by (repeat' (first | (with_reducible exact Up.refl _) | (with_reducible assumption) | (with_reducible refine Up.alloc ?_ _) | (with_reducible refine Up.drew ?_) | (with_reducible refine Up.drewN ?_ _) | (with_reducible refine Up.setCell ?_ ?_ _) | (with_reducible refine Up.call ?_ (by with_reducible assumption)) | go_size))⟩
      · have hb : (n == s) = false := by simpa using he
        have HE := Lib.hid he
        clear he
        go_wp2
        go_round
        case rel => exact ⟨k + 1, by omega, by go_num, fun j hj h => by
          by_cases hjk : j = k
          · subst hjk; rw [HG.out]; exact HE.out
          · exact HN.out j hj (by omega)⟩
        case measure => simp [intOf]; omega
    · have H : Hid (idx s = none) := Lib.hid (look_none s namesL 0 (fun j hj => HN.out j hj (by omega)))
      go_wp2
      go_ret
      exact ⟨by rw [H.out]; rfl, by (repeat' (first | (with_reducible exact Up.refl _) | (with_reducible assumption) | (with_reducible refine Up.alloc ?_ _) | (with_reducible refine Up.drew ?_) | (with_reducible refine Up.drewN ?_ _) | (with_reducible refine Up.setCell ?_ ?_ _) | (with_reducible refine Up.call ?_ (by with_reducible assumption)) | go_size))⟩

end Go.Proofs.YtcldhlppnedcjaaDoor.Font
