/- What an object is as bytes; a bytes.Buffer's writes as lists of bytes. No condition but lengths. -/
import Derived.Test.YtaafelkdhahaoaaDoorPobTr
import Derived.Test.YtaafelkdhahaoaaDoorPobDp
import Derived.Lib.OthersKept
import Derived.Laws.IdiomCopy
namespace Go.Proofs.YtaafelkdhahaoaaDoor.Pob
open Go.ChangeShapes Go.WideShapes Go.RowKit Go.Shelf
set_option linter.unusedVariables false
set_option linter.unusedSimpArgs false

def dfl : PO := .mk 0 0 [] none 0 0 [] none 0 0 [] none 0 0 []
/-- an object without parts -/
def leafP : PO → List UInt8
  | .mk k n t ka kl kc ks la ll lc l da dl dc d =>
    if k = 0 then [110, 117, 108, 108] else
    if k = 1 then (if n = 1 then [116, 114, 117, 101] else [102, 97, 108, 115, 101]) else
    if k = 2 then intL n else
    if k = 3 then prR n else
    if k = 4 then 47 :: enc t else
    if k = 5 then 40 :: (txt t ++ [41]) else intL n ++ [32, 48, 32, 82]
/-- elements, the first i -/
def elsP (f : PO → List UInt8) (l : List PO) (i : Nat) : List UInt8 := (List.range i).flatMap (fun j => (if j = 0 then [] else [32]) ++ f (l.getD j dfl))
/-- keys and objects, the first i -/
def parP (f : PO → List UInt8) (ks : List (List UInt8)) (l : List PO) (i : Nat) : List UInt8 := (List.range i).flatMap (fun j => 32 :: 47 :: (enc (ks.getD j []) ++ 32 :: f (l.getD j dfl)))
def dictP (f : PO → List UInt8) (ks : List (List UInt8)) (l : List PO) (more : List UInt8) : List UInt8 := 60 :: 60 :: (parP f ks l ks.length ++ (more ++ [32, 62, 62]))
def lenP (n : Nat) : List UInt8 := [32, 47, 76, 101, 110, 103, 116, 104, 32] ++ intL n
/-- an object as bytes, m deep -/
def prn : Nat → PO → List UInt8
  | 0, o => leafP o
  | m + 1, o =>
    if o.k = 6 then 91 :: (elsP (prn m) o.l o.l.length ++ [93]) else
    if o.k = 7 then dictP (prn m) o.ks o.l [] else
    if o.k = 9 then dictP (prn m) o.ks o.l (lenP o.d.length) ++ ([10, 115, 116, 114, 101, 97, 109, 10] ++ (o.d ++ [10, 101, 110, 100, 115, 116, 114, 101, 97, 109])) else leafP o
theorem els_succ (f : PO → List UInt8) (l : List PO) (i : Nat) : elsP f l (i + 1) = elsP f l i ++ ((if i = 0 then [] else [32]) ++ f (l.getD i dfl)) := by
  unfold elsP; rw [List.range_succ, List.flatMap_append]; simp
theorem par_succ (f : PO → List UInt8) (ks : List (List UInt8)) (l : List PO) (i : Nat) : parP f ks l (i + 1) = parP f ks l i ++ (32 :: 47 :: (enc (ks.getD i []) ++ 32 :: f (l.getD i dfl))) := by
  unfold parP; rw [List.range_succ, List.flatMap_append]; simp
theorem flat_le (g : Nat → List UInt8) : ∀ (n i : Nat), i ≤ n → ((List.range i).flatMap g).length ≤ ((List.range n).flatMap g).length
  | 0, i, h => by obtain rfl : i = 0 := by omega
                  exact Nat.le_refl _
  | n + 1, i, h => by
    by_cases e : i = n + 1
    · rw [e]; exact Nat.le_refl _
    · rw [List.range_succ, List.flatMap_append, List.length_append]
      have := flat_le g n i (by omega)
      omega
theorem par_le (f : PO → List UInt8) (ks : List (List UInt8)) (l : List PO) {i n : Nat} (h : i < n) : (parP f ks l i).length + (enc (ks.getD i [])).length + (f (l.getD i dfl)).length + 3 ≤ (parP f ks l n).length := by
  have h1 := flat_le (fun j => 32 :: 47 :: (enc (ks.getD j []) ++ 32 :: f (l.getD j dfl))) n (i + 1) h
  have h2 := congrArg List.length (par_succ f ks l i)
  rw [List.length_append, List.length_cons, List.length_cons, List.length_append, List.length_cons] at h2
  have h3 : (parP f ks l (i + 1)).length ≤ (parP f ks l n).length := h1
  omega
theorem els_le (f : PO → List UInt8) (l : List PO) {i n : Nat} (h : i < n) : (elsP f l i).length + (f (l.getD i dfl)).length ≤ (elsP f l n).length := by
  have h1 := flat_le (fun j => (if j = 0 then [] else [32]) ++ f (l.getD j dfl)) n (i + 1) h
  have h2 := congrArg List.length (els_succ f l i)
  rw [List.length_append, List.length_append] at h2
  have h3 : (elsP f l (i + 1)).length ≤ (elsP f l n).length := h1
  omega

/-- a box of an object -/
abbrev BoxAt (w : World) (g : Nat) (cs : Array Value) : Prop := w.heap[g]? = some (.cells cs 26 (0, 0))
theorem BoxAt.kept {w w1 : World} {g b : Nat} {cs : Array Value} (h : BoxAt w g cs) (k : Lib.OthersKept 5 (some b) w w1) (hb : g ≠ b) : BoxAt w1 g cs :=
  k g _ h (fun e => hb (Option.some.inj e)) (fun c f he => by injection he with _ h2 _; exact absurd h2 (by decide))
theorem BoxAt.up {w w1 : World} {g : Nat} {cs : Array Value} (h : BoxAt w g cs) (hu : Up w w1) : BoxAt w1 g cs := by
  show w1.heap[g]? = _
  rw [hu.block g (Array.getElem?_eq_some_iff.1 h).1]; exact h
theorem BoxAt.lt {w : World} {g : Nat} {cs : Array Value} (h : BoxAt w g cs) : g < w.heap.size := (Array.getElem?_eq_some_iff.1 h).1
theorem BoxAt.cell {w : World} {g : Nat} {cs : Array Value} (h : BoxAt w g cs) (i : Nat) {v : Value} (hv : cs[i]? = some v) : w.cell? ⟨g, i, none⟩ = some v := by
  rw [Lib.cell_of_heap h]; exact hv
theorem BoxAt.new (w : World) (cs : Array Value) : BoxAt (w.alloc (.cells cs 26)) w.heap.size cs := heap_alloc_new w _

abbrev OK (b : Nat) (w w' : World) : Prop := Lib.OthersKept 5 (some b) w w'
theorem OK.of {b : Nat} {w w1 : World} (h : Kept 5 b w w1) : OK b w w1 := fun k o hk hb ho => h k o hk (fun e => hb (congrArg some e)) (fun c => ho c (0, 0))
theorem OK.upc {b : Nat} {w w1 w2 : World} (h : OK b w w1) (hu : Up w1 w2) : OK b w w2 := fun k o hk hb ho => by
  have h1 := h k o hk hb ho
  rw [hu.block k (Array.getElem?_eq_some_iff.1 h1).1]; exact h1
theorem OK.refl (b : Nat) (w : World) : OK b w w := Lib.OthersKept.refl _ _ _
theorem OK.tr {b : Nat} {w w1 w2 : World} (h : OK b w w1) (k : OK b w1 w2) : OK b w w2 := fun i o hi hb ho => k i o (h i o hi hb ho) hb ho
theorem up_below {w0 w w1 : World} {B : Nat} (hu : Up w0 w) (hb : Below B w w1) (h : w0.heap.size ≤ B) : Up w0 w1 := Below.trans hu (hb.mono h)

theorem wByte (B b : Nat) (bs : List UInt8) (c : UInt8) (z : Int) (hz : (c.toNat : Int) = z) (w : World) (h : IsBuf B b (Lib.byteCells bs) w) (hBw : B ≤ w.heap.size) (hlim : bs.length + 1 ≤ 140737488355328) :
    Calls Tryd.prog 33 #[.pointer (some ⟨b, 0, none⟩), .int .u8 z] w fun e w' => e = .returned .nilIface ∧ IsBuf B b (Lib.byteCells (bs ++ [c])) w' ∧ Below B w w' ∧ OK b w w' := by
  subst hz
  refine (Tryd.Buffer_WriteByte_kept B b (Lib.byteCells bs) (c.toNat : Int) w h hBw (Lib.byteCells_one _) (by rw [Lib.byteCells_length]; exact hlim)).mono ?_
  rintro e w' ⟨rfl, h1, h2, h3⟩
  exact ⟨rfl, by rw [show Lib.byteCells (bs ++ [c]) = Lib.byteCells bs ++ [.int .u8 (c.toNat : Int)] by simp [Lib.byteCells]]; exact h1, h2, h3⟩
theorem wStr (B b : Nat) (bs s : List UInt8) (w : World) (h : IsBuf B b (Lib.byteCells bs) w) (hBw : B ≤ w.heap.size) (hlim : bs.length + s.length ≤ 140737488355328) :
    Calls Tryd.prog 27 #[.pointer (some ⟨b, 0, none⟩), .string ⟨s.toArray⟩] w fun e w' => e = .returned (.tuple #[.int .i64 (s.length : Nat), .nilIface]) ∧ IsBuf B b (Lib.byteCells (bs ++ s)) w' ∧ Below B w w' ∧ OK b w w' := by
  have hs : (⟨s.toArray⟩ : ByteArray).size = s.length := by show s.toArray.size = _; simp
  refine (Tryd.Buffer_WriteString_kept B b (Lib.byteCells bs) ⟨s.toArray⟩ w h hBw (Lib.byteCells_one _) (by rw [Lib.byteCells_length, hs]; exact hlim)).mono ?_
  rintro e w' ⟨rfl, h1, h2, h3⟩
  exact ⟨by rw [hs], by rw [cells_app]; simpa using h1, h2, h3⟩
theorem byteCells_at (l : List UInt8) (j : Nat) (v : Value) (h : (Lib.byteCells l)[j]? = some v) : ∃ c, l[j]? = some c ∧ v = .int .u8 (c.toNat : Int) := by
  simp only [Lib.byteCells, List.getElem?_map, Option.map_eq_some_iff] at h
  obtain ⟨c, h1, h2⟩ := h
  exact ⟨c, h1, h2.symm⟩
/-- Write of a slice of bytes that lies below the buffer -/
theorem wBytes (B b : Nat) (bs : List UInt8) (g o n c : Nat) (d : List UInt8) (w : World) (h : IsBuf B b (Lib.byteCells bs) w) (hBw : B ≤ w.heap.size) (hn : d.length = n) (hg : g < B) (hd : ∀ (j : Nat) (x : UInt8), d[j]? = some x → w.cell? ⟨g, o + j, none⟩ = some (.int .u8 (x.toNat : Int))) (hlim : bs.length + n ≤ 140737488355328) :
    Calls Tryd.prog 35 #[.pointer (some ⟨b, 0, none⟩), .slice (some ⟨g, o, none⟩) n c] w fun e w' => e = .returned (.tuple #[.int .i64 (n : Nat), .nilIface]) ∧ IsBuf B b (Lib.byteCells (bs ++ d)) w' ∧ Below B w w' ∧ OK b w w' := by
  refine (Tryd.Buffer_Write_kept B b (Lib.byteCells bs) (Lib.byteCells d) ⟨g, o, none⟩ n c w h hBw (Lib.byteCells_one _) (by rw [Lib.byteCells_length]; exact hn) hg (fun j v hv => ?_) (Lib.byteCells_one _) (by rw [Lib.byteCells_length]; exact hlim)).mono ?_
  · obtain ⟨x, h1, rfl⟩ := byteCells_at d j v hv
    rw [add_plain]; exact hd j x h1
  · rintro e w' ⟨rfl, h1, h2, h3⟩
    exact ⟨rfl, by rw [cells_app]; exact h1, h2, h3⟩

set_option maxRecDepth 8000 in
/-- Write of no byte -/
theorem wNil (B b : Nat) (bs : List UInt8) (da : Option Addr) (dc : Nat) (hdc : dc ≤ 9223372036854775807) (w : World) (h : IsBuf B b (Lib.byteCells bs) w) (hBw : B ≤ w.heap.size) (hlim : bs.length ≤ 140737488355328) (hne : bs ≠ []) :
    Calls Tryd.prog 35 #[.pointer (some ⟨b, 0, none⟩), .slice da 0 dc] w fun e w' => e = .returned (.tuple #[.int .i64 0, .nilIface]) ∧ IsBuf B b (Lib.byteCells bs) w' ∧ Below B w w' ∧ OK b w w' := by
  obtain ⟨hB, v0, lr, hbk, -, -⟩ := id h
  have c2 : w.cell? ⟨b, 2, none⟩ = some (.int .i8 lr) := by rw [Lib.cell_of_heap hbk]; rfl
  have f2 : w.frozen? ⟨b, 2, none⟩ = false := Lib.frozen_of_heap hbk 2
  have h' := h.setLast 0
  have hbel0 : Below B w (w.setCell ⟨b, 2, none⟩ (.int .i8 0)) := (Below.refl B w).setCell (p := ⟨b, 2, none⟩) hB _
  have hk0 : OK b w (w.setCell ⟨b, 2, none⟩ (.int .i8 0)) := OK.of (Kept.setB _ _)
  have hBw' : B ≤ (w.setCell ⟨b, 2, none⟩ (.int .i8 0)).heap.size := by simpa [World.setCell] using hBw
  clear hbk v0
  have fin : ∀ W1 xs, xs.length = 0 → IsBuf B b (Lib.byteCells bs ++ xs) W1 → ∃ g cap, W1.cell? ⟨b, 0, none⟩ = some (.slice (some ⟨g, 0, none⟩) bs.length cap) ∧ cap ≤ 9223372036854775807 ∧ bs.length ≤ cap ∧ IsBuf B b (Lib.byteCells bs) W1 := by
    intro W1 xs hxl hI
    obtain rfl := List.eq_nil_of_length_eq_zero hxl
    rw [List.append_nil] at hI
    obtain ⟨-, lr2, hc⟩ := id hI.cases
    rcases hc with ⟨hnil, -⟩ | ⟨g, cap, cur, hbk2, hBg, hg, hnc, hcm, hcs, htk, hgb⟩
    · exact absurd (congrArg List.length hnil) (by rw [Lib.byteCells_length, List.length_nil]; intro e; exact hne (List.eq_nil_of_length_eq_zero e))
    · rw [Lib.byteCells_length] at hbk2 hnc
      exact ⟨g, cap, by rw [Lib.cell_of_heap hbk2]; rfl, hcm, hnc, hI⟩
  have hT := fun W hW => Tryd.Buffer_tryGrow_own B b 0 (Lib.byteCells bs) W hW
  have hG := fun W hW hn hs => Tryd.Buffer_grow_own B b 0 (Lib.byteCells bs) W hW hn hs (Lib.byteCells_one _) (by rw [Lib.byteCells_length]; exact hlim)
  have cn := fun (W : World) (a : Option Addr) (l c : Nat) => run_copy_none (P := Tryd.prog) W 24 24 3 5 a da l c 0 dc Tryd.underlying24 (by kernel_rfl) (Nat.zero_min _)
  rw [Lib.byteCells_length] at hT hG
  go_enter Tryd.func35, Tryd.ntmps35
  go_wp2_with (go_at_call 47; refine (hT _ h').mono ?_)
  rintro e W1 (⟨rfl, xs, hxl, hI, hbel, hok, hg⟩ | ⟨rfl, rfl, hnr⟩)
  · have hbelW := hbel0.trans hbel
    have hkW := hk0.tr hok
    obtain ⟨g, cap, d0, k1, k2, r1⟩ := fin W1 xs hxl hI
    clear hT hG h' hbel hbel0 hBw' c2 f2 fin hI hok
    go_wp2
    all_goals
      go_ret2
      exact ⟨rfl, r1, hbelW, hkW⟩
  · go_wp2_with (go_at_call 48; refine (hG _ h' hnr hBw').mono ?_)
    rintro e W1 ⟨rfl, xs, hxl, hI, hbel, hok, hg⟩
    have hbelW := hbel0.trans hbel
    have hkW := hk0.tr hok
    obtain ⟨g, cap, d0, k1, k2, r1⟩ := fin W1 xs hxl hI
    clear hT hG h' hbel hbel0 hBw' c2 f2 hnr fin hI hok
    go_wp2
    all_goals
      go_ret2
      exact ⟨rfl, r1, hbelW, hkW⟩
end Go.Proofs.YtaafelkdhahaoaaDoor.Pob
