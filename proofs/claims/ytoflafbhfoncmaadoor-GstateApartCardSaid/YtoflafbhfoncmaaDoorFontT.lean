/- The fonts' names: what the package-level list holds. No condition. -/
import Derived.Test.YtoflafbhfoncmaaDoorFont
import Derived.Test.YtoflafbhfoncmaaDoorArr
import Derived.Test.YtoflafbhfoncmaaDoorCards
import Derived.Test.YtoflafbhfoncmaaDoorTie
import Derived.Deep.DeepHandedRow
import Derived.Lib.LaidTab
namespace Go.Proofs.YtoflafbhfoncmaaDoor.Font
open Go.ChangeShapes Go.WideShapes Go.ChangeAt Go.RowKit
open Go.Proofs.YtoflafbhfoncmaaDoor.FontM

def namesL : List (List UInt8) := [[67, 111, 117, 114, 105, 101, 114], [67, 111, 117, 114, 105, 101, 114, 45, 66, 111, 108, 100], [67, 111, 117, 114, 105, 101, 114, 45, 79, 98, 108, 105, 113, 117, 101], [67, 111, 117, 114, 105, 101, 114, 45, 66, 111, 108, 100, 79, 98, 108, 105, 113, 117, 101], [72, 101, 108, 118, 101, 116, 105, 99, 97], [72, 101, 108, 118, 101, 116, 105, 99, 97, 45, 66, 111, 108, 100], [72, 101, 108, 118, 101, 116, 105, 99, 97, 45, 79, 98, 108, 105, 113, 117, 101], [72, 101, 108, 118, 101, 116, 105, 99, 97, 45, 66, 111, 108, 100, 79, 98, 108, 105, 113, 117, 101], [84, 105, 109, 101, 115, 45, 82, 111, 109, 97, 110], [84, 105, 109, 101, 115, 45, 66, 111, 108, 100], [84, 105, 109, 101, 115, 45, 73, 116, 97, 108, 105, 99], [84, 105, 109, 101, 115, 45, 66, 111, 108, 100, 73, 116, 97, 108, 105, 99], [83, 121, 109, 98, 111, 108], [90, 97, 112, 102, 68, 105, 110, 103, 98, 97, 116, 115]]

def namesV : Array Value := (namesL.map fun l => Value.string ⟨l.toArray⟩).toArray
/-- the list's block -/
def Tab (W : World) : Prop := ∃ t fr, W.heap[0]? = some (.cells namesV t fr)
theorem namesV_at (i : Nat) (h : i < 14) : namesV[i]? = some (.string ⟨(namesL.getD i []).toArray⟩) := by
  have hl : namesL.length = 14 := rfl
  simp [namesV, List.getD, show i < namesL.length by omega]
theorem Tab.cell {W : World} (h : Tab W) : ∀ i, i < 14 → W.cell? ⟨0, i, none⟩ = some (.string ⟨(namesL.getD i []).toArray⟩) := by
  intro i hi
  obtain ⟨t, fr, hb⟩ := h
  rw [← namesV_at i hi]
  simp [World.cell?, hb]

theorem gTab : Tryd.prog.globalNamed "mezzotint/font.names" = some 0 := by kernel_rfl
theorem gTabType : (Tryd.prog.globals[0]?).map (·.type) = some 98 := by kernel_rfl
theorem cellsT : Tryd.prog.cellsOf 98 = 14 := by kernel_rfl
theorem cellsE : Tryd.prog.cellsOf 9 = 1 := by kernel_rfl

/-- an array of strings that reads as these holds these, cell for cell -/
theorem cells_of_strings {H : Type} {enc : TypeId × Value → H} {P : Program} {w : World} {base : Nat} {sp : Nat → Bool} {held : Bool} {fuel : Nat} {t e : TypeId} {n : Nat} {cs : List Value} {ls : List (List UInt8)} {p : List MemPlace}
    (ht : P.underlying t = some (.array n e)) (he : P.underlying e = some .string) (hce : P.cellsOf e = 1) (hct : P.cellsOf t = n) (hln : ls.length = n)
    (h : DataW.trod enc P w base sp held fuel t cs = some (.agg (ls.map fun l => .lit (.string l)), p)) : cs = ls.map fun l => Value.string ⟨l.toArray⟩ := by
  cases fuel with
  | zero => simp [DataW.trod] at h
  | succ fuel =>
    simp only [DataW.trod, ht, hce, hct, Nat.mul_one] at h
    split at h
    · rename_i hl
      obtain ⟨xs, hm, hx⟩ := Option.map_eq_some_iff.1 h
      have hxs : xs.map (·.1) = ls.map fun l => (DataW.lit (.string l) : DataW H) := by
        have := congrArg Prod.fst hx
        simpa using this
      apply List.ext_getElem?
      intro i
      by_cases hi : i < n
      · obtain ⟨b, hb, hf⟩ := Lib.mapM_at hm i i (by simp [hi])
        obtain ⟨z, hc, rfl, _⟩ := DataW.trod_string he hf
        have h1 : cs[i]? = some (.string z) := by
          have := congrArg (·[0]?) hc
          simpa [List.getElem?_take, List.getElem?_drop] using this
        have h2 : (xs.map (·.1))[i]? = some (DataW.lit (.string z.data.toList) : DataW H) := by simp [hb]
        rw [hxs] at h2
        simp only [List.getElem?_map, Option.map_eq_some_iff, DataW.lit.injEq, Lit.string.injEq] at h2
        obtain ⟨l, hl2, hl3⟩ := h2
        rw [h1, List.getElem?_map, hl2]
        subst hl3
        rfl
      · rw [List.getElem?_eq_none (by omega), List.getElem?_eq_none (by simp; omega)]
    · cases h

theorem table {W : World} (h : laidMetH Tryd.prog [("mezzotint/font.names", Rows.laid_mezzotint_font_names)] W) : Tab W := by
  have h' : laidMet Tryd.prog [("mezzotint/font.names", .agg (namesL.map fun l => .lit (.string l)))] W := h
  obtain ⟨ps, ⟨g', t', cs, fuel, p, q, hg', ht', hvar, hd, _, _⟩, _⟩ := h'
  obtain rfl := Option.some.inj (gTab.symm.trans hg')
  obtain rfl := Option.some.inj (gTabType.symm.trans ht')
  have h1 := cells_of_strings Tryd.underlying98 Tryd.underlying9 cellsE cellsT rfl hd
  have h2 : cs = namesV := by
    apply Array.ext'
    rw [h1]
    rfl
  subst h2
  simp only [World.var?, gTab, Option.bind_some] at hvar
  split at hvar
  · rename_i cs' t fr hb
    exact ⟨t, fr, by rw [hb]; injection hvar with hv; rw [hv]⟩
  · cases hvar

theorem Tab.up {W W1 : World} (h : Tab W) (hup : Up W W1) : Tab W1 := by
  obtain ⟨t, fr, hb⟩ := h
  exact ⟨t, fr, by rw [hup.block _ (Array.getElem?_eq_some_iff.1 hb).1]; exact hb⟩

theorem name_calls (i : Int) (w : World) (hT : Tab w) :
    Calls Tryd.prog 47 #[.int .i64 i] w fun e w' => e = .returned (.string ⟨(if 0 ≤ i ∧ i < 14 then namesL.getD i.toNat [] else []).toArray⟩) ∧ w = w' := by
  have HT := Lib.hid hT
  clear hT
  by_cases h0 : 0 ≤ i
  · by_cases h1 : i < 14
    · rw [if_pos ⟨h0, h1⟩]
      obtain ⟨k, rfl⟩ := Int.eq_ofNat_of_zero_le h0
      have d1 : decide ((k : Int) < 0) = false := decide_eq_false (by omega)
      have d2 : decide (14 ≤ (k : Int)) = false := decide_eq_false (by omega)
      have hcell := HT.out.cell k (by omega)
      rw [Int.toNat_natCast]
      generalize (⟨(namesL.getD k []).toArray⟩ : ByteArray) = s at *
      go_enter Tryd.func47, Tryd.ntmps47
      go_wp2
      go_ret
      exact ⟨rfl, rfl⟩
    · rw [if_neg (by omega)]
      have d1 : decide (i < 0) = false := decide_eq_false (by omega)
      have d2 : decide (14 ≤ i) = true := decide_eq_true (by omega)
      go_enter Tryd.func47, Tryd.ntmps47
      go_wp2
      go_ret
      exact ⟨rfl, rfl⟩
  · rw [if_neg (by omega)]
    have d1 : decide (i < 0) = true := decide_eq_true (by omega)
    go_enter Tryd.func47, Tryd.ntmps47
    go_wp2
    go_ret
    exact ⟨rfl, rfl⟩

end Go.Proofs.YtoflafbhfoncmaaDoor.Font
