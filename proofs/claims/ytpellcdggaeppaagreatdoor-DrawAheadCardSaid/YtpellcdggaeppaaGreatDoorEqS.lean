/- Points and segments are compared cell by cell. No condition. -/
import Derived.Test.YtpellcdggaeppaaGreatDoorFix
import Derived.Test.YtpellcdggaeppaaGreatDoorPathM
import Derived.ChangeKeysEq
import Derived.Laws.StructEq
namespace Go.Proofs.YtpellcdggaeppaaGreatDoor
open Go.RowKit
open Go.Proofs.YtpellcdggaeppaaGreatDoor.PathM
section
variable {P : Program}
/-- the fields, as far as a comparison asks for them -/
def eqRows (d : Nat) (xs ys : Array Value) : List (Bool × Nat × TypeId) → Sem Bool
  | [] => pure true
  | (n, off, t) :: fs =>
    if n = true then do
      let a ← part t xs off
      let b ← part t ys off
      let r ← Op.equalIn d t a b
      if (!r) = true then pure false else eqRows d xs ys fs
    else eqRows d xs ys fs
theorem eqFields_rows (d : Nat) (xs ys : Array Value) : ∀ fs : List Field, Op.eqFields d xs ys fs = eqRows d xs ys (fs.map fun f => (f.name != "_", f.offset, f.type))
  | [] => rfl
  | f :: fs => by
    simp only [Op.eqFields, List.map_cons, eqRows, eqFields_rows d xs ys fs]
    by_cases h : f.name = "_"
    · simp [h]
    · simp [h]
theorem run_part_agg {t : TypeId} {d : TypeDesc} {i : TypeInfo} (hu : P.underlying t = some d) (hd : (match d with | .struct _ | .array _ _ => true | _ => false) = true) (hi : P.info? t = some i) (xs : Array Value) (off : Nat) (w : World) :
    (part t xs off).run P w = .ok (.agg (xs.extract off (off + P.cellsOf t))) w := by
  cases d <;> simp at hd <;> simp [part, isAgg, run_underlying hu, run_sizeOf w hi]
theorem row_of {d off : Nat} {t : TypeId} {xs ys : Array Value} {a b : Value} {r : Bool} {fs : List (Bool × Nat × TypeId)} {w : World} (ha : (part t xs off).run P w = .ok a w) (hb : (part t ys off).run P w = .ok b w) (he : (Op.equalIn d t a b).run P w = .ok r w) :
    (eqRows d xs ys ((true, off, t) :: fs)).run P w = bif r then (eqRows d xs ys fs).run P w else .ok false w := by
  simp only [eqRows, if_true, Sem.run_bind]
  rw [ha]
  simp only [Result.andThen_ok]
  rw [hb]
  simp only [Result.andThen_ok]
  rw [he]
  simp only [Result.andThen_ok]
  cases r <;> simp [Sem.run_pure]
theorem item_of {d : Nat} {t : TypeId} {c j : Nat} {is : List Nat} {xs ys : Array Value} {a b : Value} {r : Bool} {w : World} (ha : (part t xs (j * c)).run P w = .ok a w) (hb : (part t ys (j * c)).run P w = .ok b w) (he : (Op.equalIn d t a b).run P w = .ok r w) :
    (Op.eqItems d t c xs ys (j :: is)).run P w = bif r then (Op.eqItems d t c xs ys is).run P w else .ok false w := by
  simp only [Op.eqItems, Sem.run_bind]
  rw [ha]
  simp only [Result.andThen_ok]
  rw [hb]
  simp only [Result.andThen_ok]
  rw [he]
  simp only [Result.andThen_ok]
  cases r <;> simp [Sem.run_pure]
end
theorem eqsInt : Tryz.prog.plainKey 3 = true := by kernel_rfl
theorem eqsPt : (Tryz.prog.info? 54).isSome = true := by kernel_rfl
theorem eqsArr : (Tryz.prog.info? 55).isSome = true := by kernel_rfl
theorem eqsCPt : Tryz.prog.cellsOf 54 = 2 := by kernel_rfl
theorem eqsCArr : Tryz.prog.cellsOf 55 = 6 := by kernel_rfl
theorem eqsFPt : (Tryz.prog.fieldsOf 54).toList.map (fun f => (f.name != "_", f.offset, f.type)) = [(true, 0, 3), (true, 1, 3)] := by kernel_rfl
theorem eqsFSeg : (Tryz.prog.fieldsOf 57).toList.map (fun f => (f.name != "_", f.offset, f.type)) = [(true, 0, 3), (true, 1, 55)] := by kernel_rfl
theorem eqsUPt : Tryz.prog.underlying 54 = some (.struct (Tryz.prog.fieldsOf 54)) := by kernel_rfl
theorem eqsUSeg : Tryz.prog.underlying 57 = some (.struct (Tryz.prog.fieldsOf 57)) := by kernel_rfl
theorem eqsHPt : Tryz.prog.stoodInHeld 54 = false := by kernel_rfl
theorem eqsHSeg : Tryz.prog.stoodInHeld 57 = false := by kernel_rfl

theorem run_eqPt (d : Nat) (x y x' y' : Int) (w : World) :
    (Op.equalIn (d + 2) 54 (.agg #[.int .i64 x, .int .i64 y]) (.agg #[.int .i64 x', .int .i64 y'])).run Tryz.prog w = .ok ((x, y) == ((x', y') : Pt)) w := by
  rw [run_equalIn_struct w (d + 1) _ _ _ eqsUPt eqsHPt, eqFields_rows, eqsFPt]
  rw [row_of (run_part_plain w eqsInt rfl) (run_part_plain w eqsInt rfl) (run_equalIn_int w d _ _ .i64 x x' Tryz.underlying3)]
  rw [row_of (run_part_plain w eqsInt rfl) (run_part_plain w eqsInt rfl) (run_equalIn_int w d _ _ .i64 y y' Tryz.underlying3)]
  simp only [eqRows, Sem.run_pure]
  rw [show ((x, y) == ((x', y') : Pt)) = (x == x' && y == y') from rfl]
  cases (x == x') <;> cases (y == y') <;> rfl

theorem run_eqSeg (k x0 y0 x1 y1 x2 y2 k' x0' y0' x1' y1' x2' y2' : Int) (w : World) :
    (Op.equalIn 10000 57 (.agg #[.int .i64 k, .int .i64 x0, .int .i64 y0, .int .i64 x1, .int .i64 y1, .int .i64 x2, .int .i64 y2]) (.agg #[.int .i64 k', .int .i64 x0', .int .i64 y0', .int .i64 x1', .int .i64 y1', .int .i64 x2', .int .i64 y2'])).run Tryz.prog w
      = .ok (decide ((⟨k, (x0, y0), (x1, y1), (x2, y2)⟩ : Seg) = ⟨k', (x0', y0'), (x1', y1'), (x2', y2')⟩)) w := by
  obtain ⟨i, hi⟩ := Option.isSome_iff_exists.1 eqsPt
  obtain ⟨i', hi'⟩ := Option.isSome_iff_exists.1 eqsArr
  have arr : (Op.equalIn 9999 55 (.agg #[.int .i64 x0, .int .i64 y0, .int .i64 x1, .int .i64 y1, .int .i64 x2, .int .i64 y2]) (.agg #[.int .i64 x0', .int .i64 y0', .int .i64 x1', .int .i64 y1', .int .i64 x2', .int .i64 y2'])).run Tryz.prog w
      = .ok ((x0, y0) == ((x0', y0') : Pt) && ((x1, y1) == ((x1', y1') : Pt) && (x2, y2) == ((x2', y2') : Pt))) w := by
    rw [show (9999 : Nat) = 9998 + 1 from rfl, run_equalIn_array (w := w) 9998 _ _ Tryz.underlying55 hi, eqsCPt, show List.range 3 = [0, 1, 2] from rfl]
    have part0 : ∀ (a b c d e f : Value) (j : Nat) (g h : Value), (#[a, b, c, d, e, f] : Array Value).extract (j * 2) (j * 2 + 2) = #[g, h] → (part 54 #[a, b, c, d, e, f] (j * 2)).run Tryz.prog w = .ok (.agg #[g, h]) w := fun a b c d e f j g h e1 => by
      rw [run_part_agg Tryz.underlying54 rfl hi, eqsCPt, e1]
    rw [item_of (part0 _ _ _ _ _ _ 0 _ _ rfl) (part0 _ _ _ _ _ _ 0 _ _ rfl) (run_eqPt 9996 x0 y0 x0' y0' w)]
    rw [item_of (part0 _ _ _ _ _ _ 1 _ _ rfl) (part0 _ _ _ _ _ _ 1 _ _ rfl) (run_eqPt 9996 x1 y1 x1' y1' w)]
    rw [item_of (part0 _ _ _ _ _ _ 2 _ _ rfl) (part0 _ _ _ _ _ _ 2 _ _ rfl) (run_eqPt 9996 x2 y2 x2' y2' w)]
    simp only [Op.eqItems, Sem.run_pure]
    cases ((x0, y0) == ((x0', y0') : Pt)) <;> cases ((x1, y1) == ((x1', y1') : Pt)) <;> cases ((x2, y2) == ((x2', y2') : Pt)) <;> rfl
  have pt : ∀ (s a b c d e f : Value), (part 55 #[s, a, b, c, d, e, f] 1).run Tryz.prog w = .ok (.agg #[a, b, c, d, e, f]) w := fun s a b c d e f => by
    rw [run_part_agg Tryz.underlying55 rfl hi', eqsCArr]
    rfl
  rw [show (10000 : Nat) = 9999 + 1 from rfl, run_equalIn_struct w 9999 _ _ _ eqsUSeg eqsHSeg, eqFields_rows, eqsFSeg]
  rw [row_of (run_part_plain w eqsInt rfl) (run_part_plain w eqsInt rfl) (run_equalIn_int w 9998 _ _ .i64 k k' Tryz.underlying3)]
  rw [row_of (pt _ _ _ _ _ _ _) (pt _ _ _ _ _ _ _) arr]
  simp only [eqRows, Sem.run_pure]
  have e : decide ((⟨k, (x0, y0), (x1, y1), (x2, y2)⟩ : Seg) = ⟨k', (x0', y0'), (x1', y1'), (x2', y2')⟩) = (k == k' && ((x0, y0) == ((x0', y0') : Pt) && ((x1, y1) == ((x1', y1') : Pt) && (x2, y2) == ((x2', y2') : Pt)))) := by
    rw [Bool.eq_iff_iff]
    simp only [decide_eq_true_eq, Seg.mk.injEq, Bool.and_eq_true, beq_iff_eq]
  rw [e]
  cases (k == k') <;> cases ((x0, y0) == ((x0', y0') : Pt)) <;> cases ((x1, y1) == ((x1', y1') : Pt)) <;> cases ((x2, y2) == ((x2', y2') : Pt)) <;> rfl

end Go.Proofs.YtpellcdggaeppaaGreatDoor
