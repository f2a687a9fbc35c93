/- Law 15's answers: a page that is empty is made, shown and handed over. No condition. -/
import Derived.Test.YtpellcdggaeppaaGreatDoorGB
import Derived.Test.YtpellcdggaeppaaGreatDoorStepA
import Derived.Test.YtpellcdggaeppaaGreatDoorOwn
import Derived.Deep.AppendLies
import Derived.Deep.RegionHeld3
import Derived.Deep.RegionLaw
import Derived.Deep.Cut
namespace Go.Proofs.YtpellcdggaeppaaGreatDoor.Pt
open Go.ChangeShapes Go.WideShapes Go.ChangeAt Go.RowKit
open Go.Proofs.YtpellcdggaeppaaGreatDoor.FixM (fits)
open Go.Proofs.YtpellcdggaeppaaGreatDoor.PathM (Seg sound)
open Go.Proofs.YtpellcdggaeppaaGreatDoor.MatM (M6)
set_option linter.unusedVariables false
set_option linter.unusedSimpArgs false

theorem infoPg : (Tryz.prog.info? 24).map (fun i => (i.zero, i.size, i.bytes)) = some (some (.agg #[.int .i64 0, .int .i64 0, .slice none 0 0]), 3, 40) := by kernel_rfl
theorem info_parts3 {t : TypeId} {z : Value} {n b : Nat} (h : (Tryz.prog.info? t).map (fun i => (i.zero, i.size, i.bytes)) = some (some z, n, b)) : ∃ i, Tryz.prog.info? t = some i ∧ i.zero = some z ∧ i.size = n ∧ i.bytes = b := by
  cases hi : Tryz.prog.info? t with
  | none => rw [hi] at h; cases h
  | some i => rw [hi] at h; simp at h; exact ⟨i, rfl, h.1, h.2.1, h.2.2⟩
theorem raw_up {w w1 : World} {base : Nat} {e : TypeId} {k : Nat} {v : Value} {n : Nat} {xs : List Value} (h : w.ownsRow base e k v n xs) (hc : Up w w1) : w1.ownsRow base e k v n xs := by
  refine ⟨h.1, ?_⟩
  rcases h.2 with h1 | ⟨g, cap, cur, hv, hb, hg, hr⟩
  · exact Or.inl h1
  · refine Or.inr ⟨g, cap, cur, hv, hb, ?_, hr⟩
    rw [hc.block g (Array.getElem?_eq_some_iff.1 hg).1]
    exact hg
theorem owned_new {w : World} {base : Nat} {e : TypeId} {k : Nat} {v : Value} {n : Nat} {xs : List Value} (h : w.ownsRow base e k v n xs) : w.ownsRow 0 e k v n xs ∧ ∀ g, v.ownBlock = some g → base ≤ g := by
  rcases h.2 with ⟨h1, h2⟩ | ⟨g, cap, cur, hv, hb, hg, hr⟩
  · exact ⟨⟨h.1, Or.inl ⟨h1, h2⟩⟩, fun g hg => by rw [h1] at hg; cases hg⟩
  · exact ⟨⟨h.1, Or.inr ⟨g, cap, cur, hv, Nat.zero_le _, hg, hr⟩⟩, fun g' hg' => by rw [hv] at hg'; simp only [Value.ownBlock, Option.some.injEq] at hg'; omega⟩
theorem c3_of {w : World} {c : Nat} {W H : Int} {x y : Value} (h : Row w c #[.int .i64 W, .int .i64 H, .slice none 0 0, x, y]) : w.cell? ⟨c, 0, none⟩ = some (.int .i64 W) ∧ w.cell? ⟨c, 1, none⟩ = some (.int .i64 H) ∧ w.cell? ⟨c, 2, none⟩ = some (.slice none 0 0) := ⟨h.cell 0 rfl, h.cell 1 rfl, h.cell 2 rfl⟩

end Go.Proofs.YtpellcdggaeppaaGreatDoor.Pt
