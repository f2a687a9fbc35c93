/- Two arrays of six integers are compared cell by cell. No condition. -/
import Derived.Test.YtpellcdggaeppaaGreatDoorFix
import Derived.ChangeKeysEq
namespace Go.Proofs.YtpellcdggaeppaaGreatDoor
open Go.RowKit

theorem infoInt : (Tryz.prog.info? 3).isSome = true := by kernel_rfl
theorem plainInt : Tryz.prog.plainKey 3 = true := by kernel_rfl
theorem cellsInt : Tryz.prog.cellsOf 3 = 1 := by kernel_rfl
/-- six numbers are six numbers -/
def all6 (x0 x1 x2 x3 x4 x5 y0 y1 y2 y3 y4 y5 : Int) : Bool := x0 == y0 && (x1 == y1 && (x2 == y2 && (x3 == y3 && (x4 == y4 && x5 == y5))))
theorem all6_iff (x0 x1 x2 x3 x4 x5 y0 y1 y2 y3 y4 y5 : Int) : all6 x0 x1 x2 x3 x4 x5 y0 y1 y2 y3 y4 y5 = true ↔ x0 = y0 ∧ x1 = y1 ∧ x2 = y2 ∧ x3 = y3 ∧ x4 = y4 ∧ x5 = y5 := by simp [all6]
theorem item (xs ys : Array Value) (j : Nat) (is : List Nat) (x y : Int) {w : World} (hx : xs[j * 1]? = some (.int .i64 x)) (hy : ys[j * 1]? = some (.int .i64 y)) :
    (Op.eqItems 9999 3 1 xs ys (j :: is)).run Tryz.prog w = bif x == y then (Op.eqItems 9999 3 1 xs ys is).run Tryz.prog w else .ok false w := by
  simp only [Op.eqItems, Sem.run_bind]
  rw [run_part_plain w plainInt hx]
  simp only [Result.andThen_ok]
  rw [run_part_plain w plainInt hy]
  simp only [Result.andThen_ok]
  rw [run_equalIn_int w 9998 _ _ _ x y Tryz.underlying3]
  simp only [Result.andThen_ok]
  cases (x == y) <;> simp [Sem.run_pure]
theorem run_eq6 (x0 x1 x2 x3 x4 x5 y0 y1 y2 y3 y4 y5 : Int) (w : World) :
    (Op.equalIn 10000 48 (.agg #[.int .i64 x0, .int .i64 x1, .int .i64 x2, .int .i64 x3, .int .i64 x4, .int .i64 x5]) (.agg #[.int .i64 y0, .int .i64 y1, .int .i64 y2, .int .i64 y3, .int .i64 y4, .int .i64 y5])).run Tryz.prog w
      = .ok (all6 x0 x1 x2 x3 x4 x5 y0 y1 y2 y3 y4 y5) w := by
  obtain ⟨i, hi⟩ := Option.isSome_iff_exists.1 infoInt
  rw [show (10000 : Nat) = 9999 + 1 from rfl, run_equalIn_array (w := w) 9999 _ _ Tryz.underlying48 hi, cellsInt, show List.range 6 = [0, 1, 2, 3, 4, 5] from rfl]
  rw [item _ _ 0 _ x0 y0 rfl rfl, item _ _ 1 _ x1 y1 rfl rfl, item _ _ 2 _ x2 y2 rfl rfl, item _ _ 3 _ x3 y3 rfl rfl, item _ _ 4 _ x4 y4 rfl rfl, item _ _ 5 _ x5 y5 rfl rfl]
  simp only [Op.eqItems, Sem.run_pure]
  unfold all6
  cases (x0 == y0) <;> cases (x1 == y1) <;> cases (x2 == y2) <;> cases (x3 == y3) <;> cases (x4 == y4) <;> cases (x5 == y5) <;> rfl

end Go.Proofs.YtpellcdggaeppaaGreatDoor
