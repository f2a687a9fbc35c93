/- What a page's content is, as a plain function. No program in sight; no condition. Package draw: numbers in lines. Its condition: numbers that fit, lengths that a buffer bears. Package draw: segments, colours, digits and gaps as lines. Its condition: numbers that fit, lengths that a buffer bears. Package draw: digits, gaps and colours as lines. Its condition: numbers that fit, lengths that a buffer bears. Package draw: a writer's fields, and how they turn; colours. Its condition: numbers that fit, lengths that a buffer bears. -/
import Derived.Test.YtpellcdggaeppaaGreatDoorGT
import Derived.Test.YtpellcdggaeppaaGreatDoorGPa1
import Derived.Test.YtpellcdggaeppaaGreatDoorGPobDp
import Derived.Lib.BufferAt
import Derived.Test.YtpellcdggaeppaaGreatDoorEqS
section
namespace Go.Proofs.YtpellcdggaeppaaGreatDoor.Dr
open Go.Proofs.YtpellcdggaeppaaGreatDoor.Pob (prP intL txt)
open Go.Proofs.YtpellcdggaeppaaGreatDoor.PathM (Seg)
open Go.Proofs.YtpellcdggaeppaaGreatDoor.MatM (M6)
set_option linter.unusedVariables false

/-- numbers, a blank behind each; a line -/
def numsB (zs : List Int) : List UInt8 := zs.flatMap (fun z => prP z ++ [32])
def lineB (op : List UInt8) (zs : List Int) : List UInt8 := numsB zs ++ (op ++ [10])
def segB (s : Seg) : List UInt8 :=
  if s.k = 1 then lineB [109] [s.a.1, s.a.2] else
  if s.k = 2 then lineB [108] [s.a.1, s.a.2] else
  if s.k = 3 then lineB [99] [s.a.1, s.a.2, s.b.1, s.b.2, s.c.1, s.c.2] else lineB [104] []
def pathB (l : List Seg) : List UInt8 := l.flatMap segB
abbrev ClD : Type := List Seg × Bool
def clipB (c : ClD) : List UInt8 := pathB c.1 ++ (if c.2 then [87, 42, 32, 110, 10] else [87, 32, 110, 10])
/-- a colour; a pen; what is so -/
structure Col where
  sp : Int
  p0 : Int
  p1 : Int
  p2 : Int
  p3 : Int
deriving DecidableEq
def Col.parts (c : Col) : List Int := [c.p0, c.p1, c.p2, c.p3]
structure PenD where
  wd : Int
  cap : Int
  jn : Int
  mt : Int
  ds : List Int
  ph : Int
deriving DecidableEq
structure SoD where
  fill : Col
  stroke : Col
  pen : PenD
/-- a colour's line, by its operators -/
def colB (o1 o3 o4 : List UInt8) (c : Col) : List UInt8 := lineB (if c.sp = 3 then o3 else if c.sp = 4 then o4 else o1) (c.parts.take c.sp.toNat)
def digB (n : Int) (op : List UInt8) : List UInt8 := intL n ++ (32 :: (op ++ [10]))
def dashL (ds : List Int) (i : Nat) : List UInt8 := (List.range i).flatMap (fun j => (if j = 0 then [] else [32]) ++ prP (ds.getD j 0))
def dashB (p : PenD) : List UInt8 := 91 :: (dashL p.ds p.ds.length ++ ([93, 32] ++ lineB [100] [p.ph]))
def penB (old p : PenD) : List UInt8 :=
  (if p.wd = old.wd then [] else lineB [119] [p.wd]) ++ ((if p.cap = old.cap then [] else digB p.cap [74]) ++ ((if p.jn = old.jn then [] else digB p.jn [106]) ++ ((if p.mt = old.mt then [] else lineB [77] [p.mt]) ++
    (if p.ph = old.ph ∧ p.ds = old.ds then [] else dashB p))))
def textB (fn : Int) (m : M6) (bs : List UInt8) : List UInt8 :=
  lineB [66, 84] [] ++ (([47, 70] ++ (intL fn ++ [32, 49, 32, 84, 102, 10])) ++ (lineB [84, 109] [m.a, m.b, m.c, m.d, m.x, m.y] ++ ((40 :: (txt bs ++ [41])) ++ ([32, 84, 106, 10] ++ lineB [69, 84] []))))
/-- a stream that is written -/
structure St where
  out : List UInt8
  so : SoD
  outer : SoD
  cl : List ClD
  fs : List Int
def first : SoD := ⟨⟨1, 0, 0, 0, 0⟩, ⟨1, 0, 0, 0, 0⟩, ⟨65536, 0, 0, 655360, [], 0⟩⟩
def bad (x : St) (l : List ClD) : Prop := x.cl.length > l.length ∨ x.cl ≠ l.take x.cl.length
open Classical in
/-- the clips are these -/
noncomputable def boundS (x : St) (l : List ClD) : St :=
  let o1 := if bad x l then x.out ++ [81, 10] else x.out
  let s1 := if bad x l then x.outer else x.so
  let n := if bad x l then 0 else x.cl.length
  let o2 := if n = 0 ∧ l ≠ [] then o1 ++ [113, 10] else o1
  let u2 := if n = 0 ∧ l ≠ [] then s1 else x.outer
  ⟨o2 ++ (l.drop n).flatMap clipB, s1, u2, l, x.fs⟩
def colOf (d : Pt.Dat) : Col := ⟨d.col.1, d.col.2.1, d.col.2.2.1, d.col.2.2.2.1, d.col.2.2.2.2⟩
def penOf (d : Pt.Dat) : PenD := ⟨d.pen.1, d.pen.2.1, d.pen.2.2.1, d.pen.2.2.2, d.ds, d.ph⟩
def fillS (x : St) (c : Col) : St := if c = x.so.fill then x else { x with out := x.out ++ colB [103] [114, 103] [107] c, so := { x.so with fill := c } }
def strokeS (x : St) (c : Col) : St := if c = x.so.stroke then x else { x with out := x.out ++ colB [71] [82, 71] [75] c, so := { x.so with stroke := c } }
def penS (x : St) (p : PenD) : St := { x with out := x.out ++ penB x.so.pen p, so := { x.so with pen := p } }
def bytesOf (l : List Int) : List UInt8 := l.map (fun z => UInt8.ofNat z.toNat)
def textS (x : St) (d : Pt.Dat) : St := { x with out := x.out ++ textB d.fn d.m (bytesOf d.bs), fs := if d.fn ∈ x.fs then x.fs else x.fs ++ [d.fn] }
def pathS (x : St) (l : List Seg) (op : List UInt8) : St := { x with out := x.out ++ (pathB l ++ lineB op []) }
noncomputable def itemS (x : St) (d : Pt.Dat) : St :=
  let y := boundS x d.cl
  if d.k = 3 then pathS (penS (strokeS y (colOf d)) (penOf d)) d.l [83]
  else
    let z := fillS y (colOf d)
    if d.k = 4 then textS z d else if d.k = 1 then pathS z d.l [102] else pathS z d.l [102, 42]
def start : St := ⟨[], first, first, [], []⟩
end Go.Proofs.YtpellcdggaeppaaGreatDoor.Dr
end

section
namespace Go.Proofs.YtpellcdggaeppaaGreatDoor.Dr
open Go.ChangeShapes Go.WideShapes Go.RowKit Go.Shelf
open Go.Proofs.YtpellcdggaeppaaGreatDoor.Pob
set_option linter.unusedVariables false
set_option linter.unusedSimpArgs false

set_option maxRecDepth 8000 in
theorem print_calls (n : Int) (h1 : -2147483648 ≤ n) (h2 : n ≤ 2147483647) (w : World) : Calls Tryz.prog 49 #[.int .i64 n] w fun e w' => e = .returned (.string ⟨(prP n).toArray⟩) ∧ Up w w' := by
  obtain ⟨S, hS⟩ : ∃ S, (if n < 0 then [45] else [] : List UInt8) = S := ⟨_, rfl⟩
  obtain ⟨D, hD⟩ : ∃ D, decL (n.natAbs / 65536) = D := ⟨_, rfl⟩
  obtain ⟨X, hX⟩ : ∃ X, fracL (n.natAbs % 65536) = X := ⟨_, rfl⟩
  have HP : Hid (∀ W, Calls Tryz.prog 87 #[.int .i64 n] W fun e w' => e = .returned (.tuple #[.string ⟨S.toArray⟩, .string ⟨D.toArray⟩, .string ⟨X.toArray⟩]) ∧ Up W w') := Lib.hid (fun W => by rw [← hS, ← hD, ← hX]; exact parts_calls n h1 h2 W)
  have sl : S.length ≤ 1 := by rw [← hS]; split <;> simp
  have dl : D.length ≤ 100 := by rw [← hD]; exact decL_len _ (by omega)
  have xl : X.length ≤ 65536 := by rw [← hX]; exact fracL_len _ _ (meas_le _)
  have hpr : prP n = S ++ D ++ (if X = [] then [] else 46 :: X) := by
    unfold prP prM fracP
    rw [← hS, ← hD, ← hX]
    by_cases h0 : n.natAbs % 65536 = 0
    · rw [if_pos h0, if_pos ((fracL_nil (Nat.mod_lt _ (by decide))).2 h0)]
      by_cases hn : n < 0
      · rw [if_pos hn, if_pos hn]; simp
      · rw [if_neg hn, if_neg hn]; simp
    · rw [if_neg h0, if_neg (fun h => h0 ((fracL_nil (Nat.mod_lt _ (by decide))).1 h))]
      by_cases hn : n < 0
      · rw [if_pos hn, if_pos hn]; simp
      · rw [if_neg hn, if_neg hn]; simp
  obtain ⟨T, hT⟩ : ∃ T, prP n = T := ⟨_, rfl⟩
  rw [hT]
  have HT := Lib.hid (hT.symm.trans hpr)
  clear hS hD hX hpr hT h1 h2
  by_cases hx : X = []
  · have HE := Lib.hid (show T = S ++ D by rw [HT.out, if_pos hx, List.append_nil])
    subst hx
    have HST : Hid ((⟨S.toArray⟩ : ByteArray) ++ ⟨D.toArray⟩ = ⟨(S ++ D).toArray⟩) := Lib.hid (str_app S D)
    go_enter Tryz.func49, Tryz.ntmps49
    go_wp2_with (go_at_call 87; ((with_reducible refine (HP.out _).mono ?_); rintro e w1 ⟨rfl, hu1⟩))
    go_ret
    exact ⟨by rw [HE.out, ← HST.out]; rfl, by (repeat' (first | (with_reducible first | exact Up.refl _ | assumption | refine Up.alloc ?_ _ | refine Up.drew ?_ | refine Up.drewN ?_ _ | refine Up.setCell ?_ ?_ _ | refine Up.call ?_ (by assumption)) | go_size))⟩
  · have HE := Lib.hid (show T = S ++ D ++ [46] ++ X by rw [HT.out, if_neg hx]; simp)
    have HST : Hid ((⟨S.toArray⟩ : ByteArray) ++ ⟨D.toArray⟩ ++ ⟨#[46]⟩ ++ ⟨X.toArray⟩ = ⟨(S ++ D ++ [46] ++ X).toArray⟩) := Lib.hid (by rw [str_app]; exact (congrArg (· ++ (⟨X.toArray⟩ : ByteArray)) (str_app (S ++ D) [46])).trans (str_app _ X))
    have t2 : (X == []) = false := beq_eq_false_iff_ne.2 hx
    have t3 : X.isEmpty = false := by simpa using hx
    clear hx
    go_enter Tryz.func49, Tryz.ntmps49
    go_wp2_with (go_at_call 87; ((with_reducible refine (HP.out _).mono ?_); rintro e w1 ⟨rfl, hu1⟩))
    go_ret
    exact ⟨by rw [HE.out, ← HST.out]; rfl, by (repeat' (first | (with_reducible first | exact Up.refl _ | assumption | refine Up.alloc ?_ _ | refine Up.drew ?_ | refine Up.drewN ?_ _ | refine Up.setCell ?_ ?_ _ | refine Up.call ?_ (by assumption)) | go_size))⟩

/-- a buffer at the head of a writer, whose other fields R tells -/
abbrev WBuf (R : Nat → Option Value) (B b : Nat) (bs : List UInt8) (w : World) : Prop := LibA.IsBuffer 69 R 5 B b 0 (Lib.byteCells bs) w
theorem aStr (R : Nat → Option Value) (B b : Nat) (bs s : List UInt8) (w : World) (h : WBuf R B b bs w) (hBw : B ≤ w.heap.size) (hlim : bs.length + s.length ≤ 140737488355328) :
    Calls Tryz.prog 48 #[.pointer (some ⟨b, 0, none⟩), .string ⟨s.toArray⟩] w fun e w' => e = .returned (.tuple #[.int .i64 (s.length : Nat), .nilIface]) ∧ WBuf R B b (bs ++ s) w' ∧ Below B w w' ∧ OK b w w' := by
  have hs : (⟨s.toArray⟩ : ByteArray).size = s.length := by show s.toArray.size = _; simp
  refine (Tryz.Buffer_WriteString_at 69 R B b 0 (Lib.byteCells bs) ⟨s.toArray⟩ w h hBw (Lib.byteCells_one _) (by rw [Lib.byteCells_length, hs]; exact hlim)).mono ?_
  rintro e w' ⟨rfl, h1, h2, h3⟩
  exact ⟨by rw [hs], by unfold WBuf; rw [cells_app]; simpa using h1, h2, h3⟩
theorem aByte (R : Nat → Option Value) (B b : Nat) (bs : List UInt8) (c : UInt8) (z : Int) (hz : (c.toNat : Int) = z) (w : World) (h : WBuf R B b bs w) (hBw : B ≤ w.heap.size) (hlim : bs.length + 1 ≤ 140737488355328) :
    Calls Tryz.prog 118 #[.pointer (some ⟨b, 0, none⟩), .int .u8 z] w fun e w' => e = .returned .nilIface ∧ WBuf R B b (bs ++ [c]) w' ∧ Below B w w' ∧ OK b w w' := by
  subst hz
  refine (Tryz.Buffer_WriteByte_at 69 R B b 0 (Lib.byteCells bs) (c.toNat : Int) w h hBw (Lib.byteCells_one _) (by rw [Lib.byteCells_length]; exact hlim)).mono ?_
  rintro e w' ⟨rfl, h1, h2, h3⟩
  exact ⟨rfl, by unfold WBuf; rw [show Lib.byteCells (bs ++ [c]) = Lib.byteCells bs ++ [.int .u8 (c.toNat : Int)] by simp [Lib.byteCells]]; exact h1, h2, h3⟩
theorem WBuf.old {R : Nat → Option Value} {B b : Nat} {bs : List UInt8} {w w1 : World} (h : WBuf R B b bs w) (hu : Up w w1) : WBuf R B b bs w1 := by
  obtain ⟨hB, v, lr, ht, ho, hn⟩ := h
  have hlt := ht.lt
  refine ⟨hB, v, lr, ht.of_heap (hu.block b hlt), ?_, hn⟩
  refine ⟨ho.1, ho.2.imp id ?_⟩
  rintro ⟨g, cap, cur, e, hb, hg, hr⟩
  exact ⟨g, cap, cur, e, hb, by rw [hu.block g (Array.getElem?_eq_some_iff.1 hg).1]; exact hg, hr⟩

/-- numbers in a row that no write into the buffer turns -/
def IRow (w : World) (b : Nat) (a : Option Addr) (n c : Nat) (zs : List Int) : Prop := zs.length = n ∧ n ≤ c ∧ c ≤ 9223372036854775807 ∧ (0 < n → ∃ g o cs t fr, a = some ⟨g, o, none⟩ ∧ g ≠ b ∧ w.heap[g]? = some (.cells cs t fr) ∧ t ≠ 5 ∧ ∀ i z, zs[i]? = some z → cs[o + i]? = some (.int .i64 z))
theorem IRow.kept {w w1 : World} {b : Nat} {a : Option Addr} {n c : Nat} {zs : List Int} (h : IRow w b a n c zs) (k : OK b w w1) : IRow w1 b a n c zs := by
  obtain ⟨h1, h2, h3, h4⟩ := h
  refine ⟨h1, h2, h3, fun h0 => ?_⟩
  obtain ⟨g, o, cs, t, fr, e, hg, hh, ht, hc⟩ := h4 h0
  exact ⟨g, o, cs, t, fr, e, hg, k g _ hh (fun e => hg (Option.some.inj e)) (fun c f he => by injection he with _ h2 _; exact ht h2), ht, hc⟩
theorem IRow.up {w w1 : World} {b : Nat} {a : Option Addr} {n c : Nat} {zs : List Int} (h : IRow w b a n c zs) (hu : Up w w1) : IRow w1 b a n c zs := by
  obtain ⟨h1, h2, h3, h4⟩ := h
  refine ⟨h1, h2, h3, fun h0 => ?_⟩
  obtain ⟨g, o, cs, t, fr, e, hg, hh, ht, hc⟩ := h4 h0
  exact ⟨g, o, cs, t, fr, e, hg, by rw [hu.block g (Array.getElem?_eq_some_iff.1 hh).1]; exact hh, ht, hc⟩
theorem nums_step {zs : List Int} {i : Nat} {z : Int} (h : zs[i]? = some z) : numsB (zs.take (i + 1)) = numsB (zs.take i) ++ (prP z ++ [32]) := by
  rw [List.take_add_one, h]
  simp [numsB]
theorem nums_len (zs : List Int) (h : ∀ z ∈ zs, -2147483648 ≤ z ∧ z ≤ 2147483647) : (numsB zs).length ≤ 100002 * zs.length := by
  induction zs with
  | nil => simp [numsB]
  | cons z zs ih =>
    have h1 := ih (fun x hx => h x (List.mem_cons_of_mem _ hx))
    have h2 := prP_len z (h z (by simp)).1 (h z (by simp)).2
    simp only [numsB, List.flatMap_cons, List.length_append, List.length_cons, List.length_nil] at h1 ⊢
    omega

set_option maxRecDepth 8000 in
set_option maxHeartbeats 4000000 in
/-- a line -/
theorem line_calls (R : Nat → Option Value) (B b : Nat) (bs op : List UInt8) (a : Option Addr) (n c : Nat) (zs : List Int) (w : World) (h : WBuf R B b bs w) (hBw : B ≤ w.heap.size) (hz : IRow w b a n c zs) (hf : ∀ z ∈ zs, -2147483648 ≤ z ∧ z ≤ 2147483647) (hop : op.length ≤ 100) (hlim : bs.length + 100002 * n + 200 ≤ 140737488355328) :
    Calls Tryz.prog 21 #[.pointer (some ⟨b, 0, none⟩), .string ⟨op.toArray⟩, .slice a n c] w fun e w' => e = .returned (.tuple #[]) ∧ WBuf R B b (bs ++ lineB op zs) w' ∧ Below B w w' ∧ OK b w w' := by
  have hb := LibA.IsBuffer.lt h
  have H := Lib.hid h
  have HZ := Lib.hid hz
  have HF := Lib.hid hf
  have HN := Lib.hid hz.1
  have z1 := hz.2.1
  have z2 := hz.2.2.1
  have HOP : Hid ((⟨op.toArray⟩ : ByteArray) ++ ⟨#[10]⟩ = ⟨(op ++ [10]).toArray⟩) := Lib.hid (str_app op [10])
  have HLIM := Lib.hid hlim
  have hlen0 : bs.length ≤ 140737488355128 := by omega
  clear h hz hf hlim
  go_enter Tryz.func21, Tryz.ntmps21
  go_wp2
  go_loopw [10] (fun s10 wr => ∃ i : Nat, i ≤ n ∧ s10 = .int .i64 i ∧ Hid (WBuf R B b (bs ++ numsB (zs.take i)) wr ∧ Below B w wr ∧ OK b w wr)) (fun s10 _ => n - (intOf s10).toNat)
  case atStart => exact ⟨0, Nat.zero_le _, rfl, Lib.hid ⟨by have := H.out; simpa [numsB] using this, Below.refl _ _, OK.refl _ _⟩⟩
  case round =>
    obtain ⟨i, hi, rfl, HR⟩ := hrel
    have zr := HR.out.2.1.size
    have HZR := Lib.hid (HZ.out.kept HR.out.2.2)
    by_cases hlt : i < n
    · have dlt : decide (i < n) = true := decide_eq_true hlt
      obtain ⟨g, o, cs, t, fr, rfl, hgb, hh, ht, hc⟩ := HZR.out.2.2.2 (by omega)
      obtain ⟨z, hz⟩ : ∃ z, zs[i]? = some z := ⟨_, List.getElem?_eq_getElem (by have := HN.out; omega)⟩
      have q0 : wr.cell? ⟨g, o + i, none⟩ = some (.int .i64 z) := by rw [Lib.cell_of_heap hh]; exact hc i z hz
      have lg : g < wr.heap.size := (Array.getElem?_eq_some_iff.1 hh).1
      have hzf := HF.out z (List.mem_of_getElem? hz)
      obtain ⟨P, hP⟩ : ∃ P, prP z = P := ⟨_, rfl⟩
      have HPR : Hid (∀ W, Calls Tryz.prog 49 #[.int .i64 z] W fun e w' => e = .returned (.string ⟨P.toArray⟩) ∧ Up W w') := Lib.hid (fun W => by rw [← hP]; exact print_calls z hzf.1 hzf.2 W)
      have pl : P.length ≤ 100001 := by rw [← hP]; exact prP_len z hzf.1 hzf.2
      have HST := Lib.hid (show numsB (zs.take (i + 1)) = numsB (zs.take i) ++ (P ++ [32]) by rw [nums_step hz, hP])
      have HNL := Lib.hid (show (numsB (zs.take i)).length ≤ 100002 * i by
        have h1 := nums_len (zs.take i) (fun x hx => HF.out x (List.mem_of_mem_take hx))
        rw [List.length_take] at h1
        have : min i zs.length ≤ i := Nat.min_le_left _ _
        omega)
      have HPS : Hid ((⟨P.toArray⟩ : ByteArray) ++ ⟨#[32]⟩ = ⟨(P ++ [32]).toArray⟩) := Lib.hid (str_app P [32])
      have nl9 : ¬ (9223372036854775807 < P.length + 1) := by omega
      have hbw : b < wr.heap.size := by omega
      clear hh hc hz hzf hP ht
      go_wp2
      go_region_law (first
        | (go_simp; go_at_call 49; ((with_reducible refine (HPR.out _).mono ?_); rintro e w1 ⟨rfl, hu1⟩; have z9 := hu1.size; (try simp at z9)))
        | (go_simp; go_at_call 48; ((with_reducible rw [HPS.out]); (with_reducible refine Calls.mono (aStr R B b (bs ++ numsB (zs.take i)) (P ++ [32]) _ (HR.out.1.old ?_) ?_ ?_) ?_); (focus ((repeat' (first | (with_reducible first | exact Up.refl _ | assumption | refine Up.alloc ?_ _ | refine Up.drew ?_ | refine Up.drewN ?_ _ | refine Up.setCell ?_ ?_ _ | refine Up.call ?_ (by assumption)) | go_size)))); (focus (first | omega | (simp; omega))); (focus (have h1 := HLIM.out; have h2 := HNL.out; have h3 : 100002 * (i + 1) ≤ 100002 * n := Nat.mul_le_mul_left _ hlt; simp only [List.length_append, List.length_cons, List.length_nil]; omega)); rintro e w2 ⟨rfl, hI2, hb2, ho2⟩; have HI2 := Lib.hid hI2; have HB2 := Lib.hid (HR.out.2.1.trans (Below.trans ((show Up wr _ by (repeat' (first | (with_reducible first | exact Up.refl _ | assumption | refine Up.alloc ?_ _ | refine Up.drew ?_ | refine Up.drewN ?_ _ | refine Up.setCell ?_ ?_ _ | refine Up.call ?_ (by assumption)) | go_size))).mono (by omega)) hb2)); have HO2 := Lib.hid (HR.out.2.2.tr (((OK.refl b wr).upc (show Up wr _ by (repeat' (first | (with_reducible first | exact Up.refl _ | assumption | refine Up.alloc ?_ _ | refine Up.drew ?_ | refine Up.drewN ?_ _ | refine Up.setCell ?_ ?_ _ | refine Up.call ?_ (by assumption)) | go_size)))).tr ho2)); clear hI2 hb2 ho2)))
      all_goals
        go_wp2
        go_roundw
      all_goals try (case measure => simp [intOf]; omega)
      all_goals exact ⟨i + 1, by omega, by go_num, Lib.hid ⟨by have := HI2.out; rw [HST.out, ← List.append_assoc]; exact this, HB2.out, HO2.out⟩⟩
    · have dlt : decide (i < n) = false := decide_eq_false hlt
      obtain rfl : n = i := by omega
      have HNL := Lib.hid (show (numsB (zs.take n)).length ≤ 100002 * n by
        have h1 := nums_len (zs.take n) (fun x hx => HF.out x (List.mem_of_mem_take hx))
        rw [List.length_take] at h1
        have : min n zs.length ≤ n := Nat.min_le_left _ _
        omega)
      go_wp2_with (go_at_call 48; ((with_reducible rw [HOP.out]); (with_reducible refine (aStr R B b (bs ++ numsB (zs.take n)) (op ++ [10]) _ HR.out.1 (by omega) (by have h1 := HLIM.out; have h2 := HNL.out; simp only [List.length_append, List.length_cons, List.length_nil]; omega)).mono ?_); rintro e w2 ⟨rfl, hI2, hb2, ho2⟩; have HI2 := Lib.hid hI2; have HB2 := Lib.hid (HR.out.2.1.trans hb2); have HO2 := Lib.hid (HR.out.2.2.tr ho2); clear hI2 hb2 ho2))
      go_returns
      refine ⟨rfl, ?_, HB2.out, HO2.out⟩
      have := HI2.out
      rw [List.take_of_length_le (by have := HN.out; omega), List.append_assoc] at this
      exact this

end Go.Proofs.YtpellcdggaeppaaGreatDoor.Dr
end

section
namespace Go.Proofs.YtpellcdggaeppaaGreatDoor.Dr
open Go.ChangeShapes Go.WideShapes Go.RowKit Go.Shelf
open Go.Proofs.YtpellcdggaeppaaGreatDoor.Pob
open Go.Proofs.YtpellcdggaeppaaGreatDoor.PathM (Seg)
open Go.Proofs.YtpellcdggaeppaaGreatDoor.Path (SegV)
set_option linter.unusedVariables false
set_option linter.unusedSimpArgs false

def Fit (z : Int) : Prop := -2147483648 ≤ z ∧ z ≤ 2147483647
def SegFit (s : Seg) : Prop := Fit s.a.1 ∧ Fit s.a.2 ∧ Fit s.b.1 ∧ Fit s.b.2 ∧ Fit s.c.1 ∧ Fit s.c.2
/-- a row that was made just now -/
theorem irow_at {w : World} {b g n : Nat} (zs : List Int) (hg : g = w.heap.size) (hb : g ≠ b) (hn : zs.length = n) (hm : n ≤ 1000000) : IRow (w.alloc (.cells (zs.map (Value.int .i64)).toArray 3)) b (some ⟨g, 0, none⟩) n n zs := by
  subst hg
  refine ⟨hn, Nat.le_refl _, by omega, fun _ => ⟨_, 0, _, 3, (0, 0), rfl, hb, heap_alloc_new w _, by decide, fun i z h => ?_⟩⟩
  rw [Nat.zero_add]
  simp [h]
theorem irow_none (w : World) (b : Nat) : IRow w b none 0 0 [] := ⟨rfl, Nat.le_refl _, by decide, fun h => absurd h (by decide)⟩
theorem seg_len (s : Seg) (h : SegFit s) : (segB s).length ≤ 1000000 := by
  obtain ⟨h1, h2, h3, h4, h5, h6⟩ := h
  have e1 := prP_len s.a.1 h1.1 h1.2
  have e2 := prP_len s.a.2 h2.1 h2.2
  have e3 := prP_len s.b.1 h3.1 h3.2
  have e4 := prP_len s.b.2 h4.1 h4.2
  have e5 := prP_len s.c.1 h5.1 h5.2
  have e6 := prP_len s.c.2 h6.1 h6.2
  unfold segB
  repeat' split
  all_goals simp only [lineB, numsB, List.flatMap_cons, List.flatMap_nil, List.append_nil, List.length_append, List.length_cons, List.length_nil]
  all_goals omega
theorem path_len (l : List Seg) (h : ∀ s ∈ l, SegFit s) : (pathB l).length ≤ 1000000 * l.length := by
  induction l with
  | nil => simp [pathB]
  | cons s l ih =>
    have h1 := ih (fun x hx => h x (List.mem_cons_of_mem _ hx))
    have h2 := seg_len s (h s (by simp))
    simp only [pathB, List.flatMap_cons, List.length_append, List.length_cons] at h1 ⊢
    omega
theorem path_step {l : List Seg} {i : Nat} {s : Seg} (h : l[i]? = some s) : pathB (l.take (i + 1)) = pathB (l.take i) ++ segB s := by
  rw [List.take_add_one, h]
  simp [pathB]

set_option maxRecDepth 8000 in
set_option maxHeartbeats 8000000 in
/-- segments as lines -/
theorem path_calls (R : Nat → Option Value) (B b : Nat) (bs : List UInt8) (a : Option Addr) (len c : Nat) (l : List Seg) (w0 w : World) (hs : SegV w0 (.slice a len c) l) (hll : l.length = len) (hle : len ≤ 100000) (hf : ∀ s ∈ l, SegFit s) (h0 : w0.heap.size ≤ B) (hu : Up w0 w) (h : WBuf R B b bs w) (hBw : B ≤ w.heap.size) (hlim : bs.length + 1000000 * len + 1000 ≤ 140737488355328) :
    Calls Tryz.prog 45 #[.pointer (some ⟨b, 0, none⟩), .slice a len c] w fun e w' => e = .returned (.tuple #[]) ∧ WBuf R B b (bs ++ pathB l) w' ∧ Below B w w' ∧ OK b w w' := by
  have hb := LibA.IsBuffer.lt h
  have hBb := h.1
  have H := Lib.hid h
  have HS := Lib.hid hs
  have HF := Lib.hid hf
  have HN := Lib.hid hll
  have HU0 := Lib.hid hu
  have HLIM := Lib.hid hlim
  have hlen0 : bs.length ≤ 140737488355328 := by omega
  clear h hs hf hll hu hlim
  go_enter Tryz.func45, Tryz.ntmps45
  go_wp2
  go_loopw [9] (fun s9 wr => ∃ i : Nat, i ≤ len ∧ s9 = .int .i64 i ∧ Hid (WBuf R B b (bs ++ pathB (l.take i)) wr ∧ Below B w wr ∧ OK b w wr)) (fun s9 _ => len - (intOf s9).toNat)
  case atStart => exact ⟨0, Nat.zero_le _, rfl, Lib.hid ⟨by have := H.out; simpa [pathB] using this, Below.refl _ _, OK.refl _ _⟩⟩
  case round =>
    obtain ⟨i, hi, rfl, HR⟩ := hrel
    have zr := HR.out.2.1.size
    have hbr : b < wr.heap.size := by omega
    by_cases hlt : i < len
    · have dlt : decide (i < len) = true := decide_eq_true hlt
      have HUR := Lib.hid (up_below HU0.out HR.out.2.1 h0)
      have hsv := HS.out
      rcases hsv with ⟨a', c', e1, e2⟩ | ⟨g, og, c', e1, hpos, hg, hat, -⟩
      · exfalso; have := HN.out; rw [e2] at this; simp at this; omega
      injection e1 with e1 e2 e3
      subst e1
      obtain ⟨s, hx⟩ : ∃ s, l[i]? = some s := ⟨_, List.getElem?_eq_getElem (by have := HN.out; omega)⟩
      have hsf := HF.out s (List.mem_of_getElem? hx)
      have HST := Lib.hid (path_step hx)
      have HNL := Lib.hid (show (pathB (l.take i)).length ≤ 1000000 * i by
        have h1 := path_len (l.take i) (fun x hx => HF.out x (List.mem_of_mem_take hx))
        rw [List.length_take] at h1
        have : min i l.length ≤ i := Nat.min_le_left _ _
        omega)
      have HX := Lib.hid hx
      obtain ⟨kk, ⟨ax, ay⟩, ⟨bx, by_⟩, ⟨cx, cy⟩⟩ := s
      have q0 : wr.cell? ⟨g, og + i * 7, none⟩ = some (.int .i64 kk) := (HUR.out.cells.1 g _ hg).trans (hat i _ 0 _ hx rfl)
      have q1 : wr.cell? ⟨g, og + i * 7 + 1, none⟩ = some (.int .i64 ax) := (HUR.out.cells.1 g _ hg).trans (hat i _ 1 _ hx rfl)
      have q2 : wr.cell? ⟨g, og + i * 7 + 2, none⟩ = some (.int .i64 ay) := (HUR.out.cells.1 g _ hg).trans (hat i _ 2 _ hx rfl)
      have q3 : wr.cell? ⟨g, og + i * 7 + 3, none⟩ = some (.int .i64 bx) := (HUR.out.cells.1 g _ hg).trans (hat i _ 3 _ hx rfl)
      have q4 : wr.cell? ⟨g, og + i * 7 + 4, none⟩ = some (.int .i64 by_) := (HUR.out.cells.1 g _ hg).trans (hat i _ 4 _ hx rfl)
      have q5 : wr.cell? ⟨g, og + i * 7 + 5, none⟩ = some (.int .i64 cx) := (HUR.out.cells.1 g _ hg).trans (hat i _ 5 _ hx rfl)
      have q6 : wr.cell? ⟨g, og + i * 7 + 6, none⟩ = some (.int .i64 cy) := (HUR.out.cells.1 g _ hg).trans (hat i _ 6 _ hx rfl)
      have lg : g < wr.heap.size := Nat.lt_of_lt_of_le hg HUR.out.size
      obtain ⟨⟨f1, f2⟩, ⟨f3, f4⟩, ⟨f5, f6⟩, ⟨f7, f8⟩, ⟨f9, f10⟩, ⟨f11, f12⟩⟩ := hsf
      simp only at f1 f2 f3 f4 f5 f6 f7 f8 f9 f10 f11 f12
      clear hx hat e2 e3 hpos
      by_cases k1 : kk = 1
      · subst k1
        have HSB := Lib.hid (show segB ⟨1, (ax, ay), (bx, by_), (cx, cy)⟩ = lineB [109] [ax, ay] by simp [segB])
        go_wp2_with (go_at_call 21; ((refine (line_calls R B b (bs ++ pathB (l.take i)) [109] (some ⟨wr.heap.size + 1 + 1, 0, none⟩) 2 2 [ax, ay] _ (HR.out.1.old (by (repeat' (first | (with_reducible first | exact Up.refl _ | assumption | refine Up.alloc ?_ _ | refine Up.drew ?_ | refine Up.drewN ?_ _ | refine Up.setCell ?_ ?_ _ | refine Up.call ?_ (by assumption)) | go_size)))) (by first | (simp; omega) | omega) (by exact irow_at [ax, ay] (by simp) (by omega) rfl (by decide)) (fun z hz => by simp only [List.mem_cons, List.not_mem_nil, or_false] at hz; rcases hz with rfl | rfl <;> (constructor <;> omega)) (by decide) (by have h1 := HLIM.out; have h2 := HNL.out; have h3 : 1000000 * (i + 1) ≤ 1000000 * len := Nat.mul_le_mul_left _ hlt; simp only [List.length_append]; omega)).mono ?_); rintro e w2 ⟨rfl, hI2, hb2, ho2⟩; have HI2 := Lib.hid hI2; have HB2 := Lib.hid (HR.out.2.1.trans (Below.trans ((show Up wr _ by (repeat' (first | (with_reducible first | exact Up.refl _ | assumption | refine Up.alloc ?_ _ | refine Up.drew ?_ | refine Up.drewN ?_ _ | refine Up.setCell ?_ ?_ _ | refine Up.call ?_ (by assumption)) | go_size))).mono (by omega)) hb2)); have HO2 := Lib.hid (HR.out.2.2.tr (((OK.refl b wr).upc (show Up wr _ by (repeat' (first | (with_reducible first | exact Up.refl _ | assumption | refine Up.alloc ?_ _ | refine Up.drew ?_ | refine Up.drewN ?_ _ | refine Up.setCell ?_ ?_ _ | refine Up.call ?_ (by assumption)) | go_size)))).tr ho2)); clear hI2 hb2 ho2))
        go_roundw
        case measure => simp [intOf]; omega
        case rel => exact ⟨i + 1, by omega, by go_num, Lib.hid ⟨by have := HI2.out; rw [HST.out, HSB.out, ← List.append_assoc]; exact this, HB2.out, HO2.out⟩⟩
      by_cases k2 : kk = 2
      · subst k2
        have HSB := Lib.hid (show segB ⟨2, (ax, ay), (bx, by_), (cx, cy)⟩ = lineB [108] [ax, ay] by simp [segB])
        go_wp2_with (go_at_call 21; ((refine (line_calls R B b (bs ++ pathB (l.take i)) [108] (some ⟨wr.heap.size + 1 + 1, 0, none⟩) 2 2 [ax, ay] _ (HR.out.1.old (by (repeat' (first | (with_reducible first | exact Up.refl _ | assumption | refine Up.alloc ?_ _ | refine Up.drew ?_ | refine Up.drewN ?_ _ | refine Up.setCell ?_ ?_ _ | refine Up.call ?_ (by assumption)) | go_size)))) (by first | (simp; omega) | omega) (by exact irow_at [ax, ay] (by simp) (by omega) rfl (by decide)) (fun z hz => by simp only [List.mem_cons, List.not_mem_nil, or_false] at hz; rcases hz with rfl | rfl <;> (constructor <;> omega)) (by decide) (by have h1 := HLIM.out; have h2 := HNL.out; have h3 : 1000000 * (i + 1) ≤ 1000000 * len := Nat.mul_le_mul_left _ hlt; simp only [List.length_append]; omega)).mono ?_); rintro e w2 ⟨rfl, hI2, hb2, ho2⟩; have HI2 := Lib.hid hI2; have HB2 := Lib.hid (HR.out.2.1.trans (Below.trans ((show Up wr _ by (repeat' (first | (with_reducible first | exact Up.refl _ | assumption | refine Up.alloc ?_ _ | refine Up.drew ?_ | refine Up.drewN ?_ _ | refine Up.setCell ?_ ?_ _ | refine Up.call ?_ (by assumption)) | go_size))).mono (by omega)) hb2)); have HO2 := Lib.hid (HR.out.2.2.tr (((OK.refl b wr).upc (show Up wr _ by (repeat' (first | (with_reducible first | exact Up.refl _ | assumption | refine Up.alloc ?_ _ | refine Up.drew ?_ | refine Up.drewN ?_ _ | refine Up.setCell ?_ ?_ _ | refine Up.call ?_ (by assumption)) | go_size)))).tr ho2)); clear hI2 hb2 ho2))
        go_roundw
        case measure => simp [intOf]; omega
        case rel => exact ⟨i + 1, by omega, by go_num, Lib.hid ⟨by have := HI2.out; rw [HST.out, HSB.out, ← List.append_assoc]; exact this, HB2.out, HO2.out⟩⟩
      by_cases k3 : kk = 3
      · subst k3
        have HSB := Lib.hid (show segB ⟨3, (ax, ay), (bx, by_), (cx, cy)⟩ = lineB [99] [ax, ay, bx, by_, cx, cy] by simp [segB])
        go_wp2_with (go_at_call 21; ((refine (line_calls R B b (bs ++ pathB (l.take i)) [99] (some ⟨wr.heap.size + 1 + 1, 0, none⟩) 6 6 [ax, ay, bx, by_, cx, cy] _ (HR.out.1.old (by (repeat' (first | (with_reducible first | exact Up.refl _ | assumption | refine Up.alloc ?_ _ | refine Up.drew ?_ | refine Up.drewN ?_ _ | refine Up.setCell ?_ ?_ _ | refine Up.call ?_ (by assumption)) | go_size)))) (by first | (simp; omega) | omega) (by exact irow_at [ax, ay, bx, by_, cx, cy] (by simp) (by omega) rfl (by decide)) (fun z hz => by simp only [List.mem_cons, List.not_mem_nil, or_false] at hz; rcases hz with rfl | rfl | rfl | rfl | rfl | rfl <;> (constructor <;> omega)) (by decide) (by have h1 := HLIM.out; have h2 := HNL.out; have h3 : 1000000 * (i + 1) ≤ 1000000 * len := Nat.mul_le_mul_left _ hlt; simp only [List.length_append]; omega)).mono ?_); rintro e w2 ⟨rfl, hI2, hb2, ho2⟩; have HI2 := Lib.hid hI2; have HB2 := Lib.hid (HR.out.2.1.trans (Below.trans ((show Up wr _ by (repeat' (first | (with_reducible first | exact Up.refl _ | assumption | refine Up.alloc ?_ _ | refine Up.drew ?_ | refine Up.drewN ?_ _ | refine Up.setCell ?_ ?_ _ | refine Up.call ?_ (by assumption)) | go_size))).mono (by omega)) hb2)); have HO2 := Lib.hid (HR.out.2.2.tr (((OK.refl b wr).upc (show Up wr _ by (repeat' (first | (with_reducible first | exact Up.refl _ | assumption | refine Up.alloc ?_ _ | refine Up.drew ?_ | refine Up.drewN ?_ _ | refine Up.setCell ?_ ?_ _ | refine Up.call ?_ (by assumption)) | go_size)))).tr ho2)); clear hI2 hb2 ho2))
        go_roundw
        case measure => simp [intOf]; omega
        case rel => exact ⟨i + 1, by omega, by go_num, Lib.hid ⟨by have := HI2.out; rw [HST.out, HSB.out, ← List.append_assoc]; exact this, HB2.out, HO2.out⟩⟩
      have HSB := Lib.hid (show segB ⟨kk, (ax, ay), (bx, by_), (cx, cy)⟩ = lineB [104] [] by simp [segB, k1, k2, k3])
      have t1 : ((kk : Int) == 1) = false := by simp [k1]
      have t2 : ((kk : Int) == 2) = false := by simp [k2]
      have t3 : ((kk : Int) == 3) = false := by simp [k3]
      clear k1 k2 k3
      go_wp2_with (go_at_call 21; ((refine (line_calls R B b (bs ++ pathB (l.take i)) [104] none 0 0 [] _ (HR.out.1.old (by (repeat' (first | (with_reducible first | exact Up.refl _ | assumption | refine Up.alloc ?_ _ | refine Up.drew ?_ | refine Up.drewN ?_ _ | refine Up.setCell ?_ ?_ _ | refine Up.call ?_ (by assumption)) | go_size)))) (by first | (simp; omega) | omega) (irow_none _ _) (fun z hz => by cases hz) (by decide) (by have h1 := HLIM.out; have h2 := HNL.out; have h3 : 1000000 * (i + 1) ≤ 1000000 * len := Nat.mul_le_mul_left _ hlt; simp only [List.length_append]; omega)).mono ?_); rintro e w2 ⟨rfl, hI2, hb2, ho2⟩; have HI2 := Lib.hid hI2; have HB2 := Lib.hid (HR.out.2.1.trans (Below.trans ((show Up wr _ by (repeat' (first | (with_reducible first | exact Up.refl _ | assumption | refine Up.alloc ?_ _ | refine Up.drew ?_ | refine Up.drewN ?_ _ | refine Up.setCell ?_ ?_ _ | refine Up.call ?_ (by assumption)) | go_size))).mono (by omega)) hb2)); have HO2 := Lib.hid (HR.out.2.2.tr (((OK.refl b wr).upc (show Up wr _ by (repeat' (first | (with_reducible first | exact Up.refl _ | assumption | refine Up.alloc ?_ _ | refine Up.drew ?_ | refine Up.drewN ?_ _ | refine Up.setCell ?_ ?_ _ | refine Up.call ?_ (by assumption)) | go_size)))).tr ho2)); clear hI2 hb2 ho2))
      go_roundw
      case measure => simp [intOf]; omega
      case rel => exact ⟨i + 1, by omega, by go_num, Lib.hid ⟨by have := HI2.out; rw [HST.out, HSB.out, ← List.append_assoc]; exact this, HB2.out, HO2.out⟩⟩
    · have dlt : decide (i < len) = false := decide_eq_false hlt
      obtain rfl : len = i := by omega
      go_wp2
      go_returns
      refine ⟨rfl, ?_, HR.out.2.1, HR.out.2.2⟩
      have := HR.out.1
      rw [List.take_of_length_le (by have := HN.out; omega)] at this
      exact this

end Go.Proofs.YtpellcdggaeppaaGreatDoor.Dr
end

section
namespace Go.Proofs.YtpellcdggaeppaaGreatDoor.Dr
open Go.ChangeShapes Go.WideShapes Go.RowKit Go.Shelf
open Go.Proofs.YtpellcdggaeppaaGreatDoor.Pob
set_option linter.unusedVariables false
set_option linter.unusedSimpArgs false

/-- a box that no write into the buffer turns -/
def Bx (t : TypeId) (w : World) (g : Nat) (cs : Array Value) : Prop := t ≠ 5 ∧ w.heap[g]? = some (.cells cs t (0, 0))
theorem Bx.kept {t : TypeId} {w w1 : World} {g b : Nat} {cs : Array Value} (h : Bx t w g cs) (k : OK b w w1) (hb : g ≠ b) : Bx t w1 g cs :=
  ⟨h.1, k g _ h.2 (fun e => hb (Option.some.inj e)) (fun c f he => by injection he with _ h2 _; exact h.1 h2)⟩
theorem Bx.up {t : TypeId} {w w1 : World} {g : Nat} {cs : Array Value} (h : Bx t w g cs) (hu : Up w w1) : Bx t w1 g cs := ⟨h.1, by rw [hu.block g (Array.getElem?_eq_some_iff.1 h.2).1]; exact h.2⟩
theorem Bx.lt {t : TypeId} {w : World} {g : Nat} {cs : Array Value} (h : Bx t w g cs) : g < w.heap.size := (Array.getElem?_eq_some_iff.1 h.2).1
theorem Bx.cell {t : TypeId} {w : World} {g : Nat} {cs : Array Value} (h : Bx t w g cs) (i : Nat) {v : Value} (hv : cs[i]? = some v) : w.cell? ⟨g, i, none⟩ = some v := by rw [Lib.cell_of_heap h.2]; exact hv
theorem Bx.new (t : TypeId) (ht : t ≠ 5) (w : World) (cs : Array Value) : Bx t (w.alloc (.cells cs t)) w.heap.size cs := ⟨ht, heap_alloc_new w _⟩
theorem Bx.irow {t : TypeId} {w : World} {g b o n c : Nat} {cs : Array Value} {zs : List Int} (h : Bx t w g cs) (hb : g ≠ b) (hn : zs.length = n) (hc : n ≤ c) (hm : c ≤ 1000000) (hz : ∀ i z, zs[i]? = some z → cs[o + i]? = some (.int .i64 z)) : IRow w b (some ⟨g, o, none⟩) n c zs :=
  ⟨hn, hc, by omega, fun _ => ⟨g, o, cs, t, (0, 0), rfl, hb, h.2, h.1, hz⟩⟩

set_option maxRecDepth 8000 in
set_option maxHeartbeats 4000000 in
/-- a digit's line -/
theorem digit_calls (R : Nat → Option Value) (B b : Nat) (bs op : List UInt8) (n : Int) (w : World) (h : WBuf R B b bs w) (hBw : B ≤ w.heap.size) (hn : Fit n) (hop : op.length ≤ 100) (ht : PTab w) (hlim : bs.length + 1000 ≤ 140737488355328) :
    Calls Tryz.prog 78 #[.pointer (some ⟨b, 0, none⟩), .int .i64 n, .string ⟨op.toArray⟩] w fun e w' => e = .returned (.tuple #[]) ∧ WBuf R B b (bs ++ digB n op) w' ∧ Below B w w' ∧ OK b w w' := by
  have hb := LibA.IsBuffer.lt h
  have H := Lib.hid h
  obtain ⟨L, hL⟩ : ∃ L, intL n = L := ⟨_, rfl⟩
  have HC : Hid (∀ W, Up w W → Calls Tryz.prog 82 #[.int .i64 n] W fun e w' => e = .returned (.string ⟨L.toArray⟩) ∧ Up W w') := Lib.hid (fun W hW => by rw [← hL]; exact itoa_calls n hn.1 hn.2 W (ht.up hW))
  have ll9 : L.length ≤ 101 := by rw [← hL]; exact intL_len n hn.1 hn.2
  have HST : Hid ((⟨L.toArray⟩ : ByteArray) ++ ⟨#[32]⟩ ++ ⟨op.toArray⟩ ++ ⟨#[10]⟩ = ⟨(digB n op).toArray⟩) := Lib.hid (((congrArg (fun z : ByteArray => z ++ ⟨op.toArray⟩ ++ (⟨#[10]⟩ : ByteArray)) (str_app L [32])).trans ((congrArg (fun z : ByteArray => z ++ (⟨#[10]⟩ : ByteArray)) (str_app (L ++ [32]) op)).trans (str_app _ [10]))).trans (by rw [← hL]; simp [digB]))
  have HLN := Lib.hid (show (digB n op).length ≤ 300 by unfold digB; rw [hL]; simp only [List.length_append, List.length_cons, List.length_nil]; omega)
  have n1 : ¬ (9223372036854775807 < L.length + 1) := by omega
  have n2 : ¬ (9223372036854775807 < L.length + 1 + op.length) := by omega
  have n3 : ¬ (9223372036854775807 < L.length + 1 + op.length + 1) := by omega
  have HLIM := Lib.hid hlim
  clear h hL hn ht hlim
  go_enter Tryz.func78, Tryz.ntmps78
  go_wp2
  go_region_law (first
    | (go_simp; go_at_call 82; ((with_reducible refine Calls.mono (HC.out _ ?_) ?_); (focus ((repeat' (first | (with_reducible first | exact Up.refl _ | assumption | refine Up.alloc ?_ _ | refine Up.drew ?_ | refine Up.drewN ?_ _ | refine Up.setCell ?_ ?_ _ | refine Up.call ?_ (by assumption)) | go_size)))); rintro e w1 ⟨rfl, hu1⟩; have z9 := hu1.size; (try simp at z9)))
    | (go_simp; go_at_call 48; ((with_reducible rw [HST.out]); (with_reducible refine Calls.mono (aStr R B b bs (digB n op) _ (H.out.old ?_) ?_ ?_) ?_); (focus ((repeat' (first | (with_reducible first | exact Up.refl _ | assumption | refine Up.alloc ?_ _ | refine Up.drew ?_ | refine Up.drewN ?_ _ | refine Up.setCell ?_ ?_ _ | refine Up.call ?_ (by assumption)) | go_size)))); (focus (first | omega | (simp; omega))); (focus (have h1 := HLIM.out; have h2 := HLN.out; omega)); rintro e w2 ⟨rfl, hI2, hb2, ho2⟩; have HI2 := Lib.hid hI2; have HB2 := Lib.hid (Below.trans ((show Up w _ by (repeat' (first | (with_reducible first | exact Up.refl _ | assumption | refine Up.alloc ?_ _ | refine Up.drew ?_ | refine Up.drewN ?_ _ | refine Up.setCell ?_ ?_ _ | refine Up.call ?_ (by assumption)) | go_size))).mono hBw) hb2); have HO2 := Lib.hid (((OK.refl b w).upc (show Up w _ by (repeat' (first | (with_reducible first | exact Up.refl _ | assumption | refine Up.alloc ?_ _ | refine Up.drew ?_ | refine Up.drewN ?_ _ | refine Up.setCell ?_ ?_ _ | refine Up.call ?_ (by assumption)) | go_size)))).tr ho2); clear hI2 hb2 ho2)))
  all_goals
    go_wp2
    go_returns
    exact ⟨rfl, HI2.out, HB2.out, HO2.out⟩

theorem dash_succ (ds : List Int) (i : Nat) {z : Int} (h : ds[i]? = some z) : dashL ds (i + 1) = dashL ds i ++ ((if i = 0 then [] else [32]) ++ prP z) := by
  unfold dashL
  rw [List.range_succ, List.flatMap_append, List.flatMap_cons, List.flatMap_nil, List.append_nil]
  rw [show ds.getD i 0 = z by rw [List.getD_eq_getElem?_getD, h]; rfl]
theorem dash_len (ds : List Int) (hf : ∀ z ∈ ds, Fit z) : ∀ i, i ≤ ds.length → (dashL ds i).length ≤ 100002 * i
  | 0, _ => Nat.zero_le _
  | i + 1, h => by
    have h1 := dash_len ds hf i (by omega)
    have hx : ds[i]? = some ds[i] := List.getElem?_eq_getElem (by omega)
    have h2 := hf ds[i] (List.getElem_mem (by omega))
    have h3 := prP_len ds[i] h2.1 h2.2
    rw [dash_succ ds i hx, List.length_append, List.length_append]
    split <;> simp only [List.length_cons, List.length_nil] <;> omega
set_option maxRecDepth 8000 in
set_option maxHeartbeats 8000000 in
/-- a pen's gaps -/
theorem dash_calls (R : Nat → Option Value) (B b : Nat) (bs : List UInt8) (wd cap jn mt ph : Int) (da : Option Addr) (dl dc : Nat) (ds : List Int) (w0 w : World) (hd : Ints .i64 w0 (.slice da dl dc) ds) (hdl : ds.length = dl) (hll : dl ≤ 1000) (hf : ∀ z ∈ ds, Fit z) (hph : Fit ph) (h0 : w0.heap.size ≤ B) (hu : Up w0 w) (h : WBuf R B b bs w) (hBw : B ≤ w.heap.size) (hlim : bs.length + 200000000 ≤ 140737488355328) :
    Calls Tryz.prog 80 #[.pointer (some ⟨b, 0, none⟩), .agg #[.int .i64 wd, .int .i64 cap, .int .i64 jn, .int .i64 mt, .slice da dl dc, .int .i64 ph]] w fun e w' => e = .returned (.tuple #[]) ∧ WBuf R B b (bs ++ dashB ⟨wd, cap, jn, mt, ds, ph⟩) w' ∧ Below B w w' ∧ OK b w w' := by
  have hb := LibA.IsBuffer.lt h
  have hBb := h.1
  have H := Lib.hid h
  have HF := Lib.hid hf
  have HN := Lib.hid hdl
  have HU0 := Lib.hid hu
  have HLIM := Lib.hid hlim
  obtain ⟨p1, p2⟩ := hph
  have hlen0 : bs.length + 200000000 ≤ 140737488355328 := hlim
  obtain ⟨da', dc', hv, hi1, hi2, hi3, hi4, hi5⟩ := hd
  injection hv with e1 e2 e3
  subst e1 e3
  have hdc : dl ≤ dc := by omega
  have HI4 := Lib.hid hi4
  clear h hf hdl hu hlim hi3 hi4 hi5 hi1 e2
  go_enter Tryz.func80, Tryz.ntmps80
  go_wp2_with (go_at_call 118; ((refine (aByte R B b bs 91 91 rfl _ (H.out.old (by (repeat' (first | (with_reducible first | exact Up.refl _ | assumption | refine Up.alloc ?_ _ | refine Up.drew ?_ | refine Up.drewN ?_ _ | refine Up.setCell ?_ ?_ _ | refine Up.call ?_ (by assumption)) | go_size)))) (by first | (simp; omega) | omega) (by omega)).mono ?_); rintro e w1 ⟨rfl, hI1, hb1, ho1⟩; have HI1 := Lib.hid hI1; have HB1 := Lib.hid (Below.trans ((show Up w _ by (repeat' (first | (with_reducible first | exact Up.refl _ | assumption | refine Up.alloc ?_ _ | refine Up.drew ?_ | refine Up.drewN ?_ _ | refine Up.setCell ?_ ?_ _ | refine Up.call ?_ (by assumption)) | go_size))).mono hBw) hb1); have HO1 := Lib.hid (((OK.refl b w).upc (show Up w _ by (repeat' (first | (with_reducible first | exact Up.refl _ | assumption | refine Up.alloc ?_ _ | refine Up.drew ?_ | refine Up.drewN ?_ _ | refine Up.setCell ?_ ?_ _ | refine Up.call ?_ (by assumption)) | go_size)))).tr ho1); have HX1 := Lib.hid ((Bx.new 47 (by decide) w #[.int .i64 wd, .int .i64 cap, .int .i64 jn, .int .i64 mt, .slice da dl dc, .int .i64 ph]).kept ho1 (by omega)); have x4 := HX1.out.cell 4 rfl; have lx1 := HX1.out.lt; clear hI1 hb1 ho1))
  go_loopw [13] (fun s13 wr => ∃ i : Nat, i ≤ dl ∧ s13 = .int .i64 i ∧ Hid (WBuf R B b (bs ++ 91 :: dashL ds i) wr ∧ Below B w wr ∧ OK b w wr ∧ Bx 47 wr w.heap.size #[.int .i64 wd, .int .i64 cap, .int .i64 jn, .int .i64 mt, .slice da dl dc, .int .i64 ph])) (fun s13 _ => dl - (intOf s13).toNat)
  case atStart => exact ⟨0, Nat.zero_le _, rfl, Lib.hid ⟨HI1.out, HB1.out, HO1.out, HX1.out⟩⟩
  case round =>
    obtain ⟨i, hi, rfl, HR⟩ := hrel
    clear x4 lx1
    have zr := HR.out.2.1.size
    have hbr : b < wr.heap.size := by omega
    have y5 := HR.out.2.2.2.cell 5 rfl
    have ly := HR.out.2.2.2.lt
    have HUR := Lib.hid (up_below HU0.out HR.out.2.1 h0)
    by_cases hlt : i < dl
    · have dlt : decide (i < dl) = true := decide_eq_true hlt
      obtain ⟨g, o, rfl, hg, hc⟩ := HI4.out (by have := HN.out; omega)
      obtain ⟨z, hx⟩ : ∃ z, ds[i]? = some z := ⟨_, List.getElem?_eq_getElem (by have := HN.out; omega)⟩
      have q0 : wr.cell? ⟨g, o + i, none⟩ = some (.int .i64 z) := (HUR.out.cells.1 g _ hg).trans (by rw [hc i (by have := HN.out; omega), List.getD_eq_getElem?_getD, hx]; rfl)
      have lg : g < wr.heap.size := Nat.lt_of_lt_of_le hg HUR.out.size
      have hzf := HF.out z (List.mem_of_getElem? hx)
      obtain ⟨P, hP⟩ : ∃ P, prP z = P := ⟨_, rfl⟩
      have HPR : Hid (∀ W, Calls Tryz.prog 49 #[.int .i64 z] W fun e w' => e = .returned (.string ⟨P.toArray⟩) ∧ Up W w') := Lib.hid (fun W => by rw [← hP]; exact print_calls z hzf.1 hzf.2 W)
      have pl : P.length ≤ 100001 := by rw [← hP]; exact prP_len z hzf.1 hzf.2
      have HST := Lib.hid (dash_succ ds i hx)
      rw [hP] at HST
      have HNL := Lib.hid (dash_len ds HF.out i (by have := HN.out; omega))
      clear hx hc hzf hP
      by_cases hi0 : i = 0
      · subst hi0
        rw [Nat.add_zero] at q0
        rw [if_pos rfl] at HST
        go_wp2
        go_region_law (first
          | (go_simp; go_at_call 49; ((with_reducible refine (HPR.out _).mono ?_); rintro e w3 ⟨rfl, hu3⟩; have z9 := hu3.size; (try simp at z9)))
          | (go_simp; go_at_call 48; ((with_reducible refine Calls.mono (aStr R B b (bs ++ 91 :: dashL ds 0) P _ (HR.out.1.old ?_) ?_ ?_) ?_); (focus ((repeat' (first | (with_reducible first | exact Up.refl _ | assumption | refine Up.alloc ?_ _ | refine Up.drew ?_ | refine Up.drewN ?_ _ | refine Up.setCell ?_ ?_ _ | refine Up.call ?_ (by assumption)) | go_size)))); (focus (first | omega | (simp; omega))); (focus (have h1 := HLIM.out; have h2 := HNL.out; simp only [List.length_append, List.length_cons, List.length_nil]; omega)); rintro e w4 ⟨rfl, hI4, hb4, ho4⟩; have HI44 := Lib.hid hI4; have HB4 := Lib.hid (HR.out.2.1.trans (Below.trans ((show Up wr _ by (repeat' (first | (with_reducible first | exact Up.refl _ | assumption | refine Up.alloc ?_ _ | refine Up.drew ?_ | refine Up.drewN ?_ _ | refine Up.setCell ?_ ?_ _ | refine Up.call ?_ (by assumption)) | go_size))).mono (by omega)) hb4)); have HO4 := Lib.hid (HR.out.2.2.1.tr (((OK.refl b wr).upc (show Up wr _ by (repeat' (first | (with_reducible first | exact Up.refl _ | assumption | refine Up.alloc ?_ _ | refine Up.drew ?_ | refine Up.drewN ?_ _ | refine Up.setCell ?_ ?_ _ | refine Up.call ?_ (by assumption)) | go_size)))).tr ho4)); have HX4 := Lib.hid ((HR.out.2.2.2.up (show Up wr _ by (repeat' (first | (with_reducible first | exact Up.refl _ | assumption | refine Up.alloc ?_ _ | refine Up.drew ?_ | refine Up.drewN ?_ _ | refine Up.setCell ?_ ?_ _ | refine Up.call ?_ (by assumption)) | go_size)))).kept ho4 (by omega)); clear hI4 hb4 ho4)))
        all_goals
          go_wp2
          go_roundw
        all_goals try (case measure => simp [intOf]; omega)
        all_goals exact ⟨0 + 1, by omega, by go_num, Lib.hid ⟨by have := HI44.out; rw [HST.out]; simpa using this, HB4.out, HO4.out, HX4.out⟩⟩
      · have hi1 : 0 < i := by omega
        have di1 : decide (0 < i) = true := decide_eq_true hi1
        rw [if_neg hi0] at HST
        clear hi0
        go_wp2_with (go_at_call 118; ((refine (aByte R B b (bs ++ 91 :: dashL ds i) 32 32 rfl _ HR.out.1 (by omega) (by have h1 := HLIM.out; have h2 := HNL.out; simp only [List.length_append, List.length_cons, List.length_nil]; omega)).mono ?_); rintro e w2 ⟨rfl, hI2, hb2, ho2⟩; have HW := Lib.hid (And.intro hI2 (And.intro (HR.out.2.1.trans hb2) (And.intro (HR.out.2.2.1.tr ho2) (HR.out.2.2.2.kept ho2 (by omega))))); have z2 := HW.out.2.1.size; clear hI2 hb2 ho2))
        go_wp2
        go_region_law (first
          | (go_simp; go_at_call 49; ((with_reducible refine (HPR.out _).mono ?_); rintro e w3 ⟨rfl, hu3⟩; have z9 := hu3.size; (try simp at z9)))
          | (go_simp; go_at_call 48; ((with_reducible refine Calls.mono (aStr R B b (bs ++ 91 :: dashL ds i ++ [32]) P _ (HW.out.1.old ?_) ?_ ?_) ?_); (focus ((repeat' (first | (with_reducible first | exact Up.refl _ | assumption | refine Up.alloc ?_ _ | refine Up.drew ?_ | refine Up.drewN ?_ _ | refine Up.setCell ?_ ?_ _ | refine Up.call ?_ (by assumption)) | go_size)))); (focus (first | omega | (simp; omega))); (focus (have h1 := HLIM.out; have h2 := HNL.out; simp only [List.length_append, List.length_cons, List.length_nil]; omega)); rintro e w4 ⟨rfl, hI4, hb4, ho4⟩; have HI44 := Lib.hid hI4; have HB4 := Lib.hid (HW.out.2.1.trans (Below.trans ((show Up w2 _ by (repeat' (first | (with_reducible first | exact Up.refl _ | assumption | refine Up.alloc ?_ _ | refine Up.drew ?_ | refine Up.drewN ?_ _ | refine Up.setCell ?_ ?_ _ | refine Up.call ?_ (by assumption)) | go_size))).mono (by omega)) hb4)); have HO4 := Lib.hid (HW.out.2.2.1.tr (((OK.refl b w2).upc (show Up w2 _ by (repeat' (first | (with_reducible first | exact Up.refl _ | assumption | refine Up.alloc ?_ _ | refine Up.drew ?_ | refine Up.drewN ?_ _ | refine Up.setCell ?_ ?_ _ | refine Up.call ?_ (by assumption)) | go_size)))).tr ho4)); have HX4 := Lib.hid ((HW.out.2.2.2.up (show Up w2 _ by (repeat' (first | (with_reducible first | exact Up.refl _ | assumption | refine Up.alloc ?_ _ | refine Up.drew ?_ | refine Up.drewN ?_ _ | refine Up.setCell ?_ ?_ _ | refine Up.call ?_ (by assumption)) | go_size)))).kept ho4 (by omega)); clear hI4 hb4 ho4)))
        all_goals
          go_wp2
          go_roundw
        all_goals try (case measure => simp [intOf]; omega)
        all_goals exact ⟨i + 1, by omega, by go_num, Lib.hid ⟨by have := HI44.out; rw [HST.out]; simpa using this, HB4.out, HO4.out, HX4.out⟩⟩
    · have dlt : decide (i < dl) = false := decide_eq_false hlt
      obtain rfl : dl = i := by omega
      have HNL := Lib.hid (dash_len ds HF.out dl (by have := HN.out; omega))
      go_wp2_with (first
        | (go_at_call 48; ((refine (aStr R B b (bs ++ 91 :: dashL ds dl) [93, 32] _ HR.out.1 (by omega) (by have h1 := HLIM.out; have h2 := HNL.out; simp only [List.length_append, List.length_cons, List.length_nil]; omega)).mono ?_); rintro e w5 ⟨rfl, hI5, hb5, ho5⟩; have HI5 := Lib.hid hI5; have HB5 := Lib.hid (HR.out.2.1.trans hb5); have HO5 := Lib.hid (HR.out.2.2.1.tr ho5); have HX5 := Lib.hid (HR.out.2.2.2.kept ho5 (by omega)); have x5 := HX5.out.cell 5 rfl; have lx5 := HX5.out.lt; have z5 := HB5.out.size; clear hI5 hb5 ho5))
        | (go_at_call 21; ((refine (line_calls R B b (bs ++ 91 :: dashL ds dl ++ [93, 32]) [100] (some ⟨w5.heap.size, 0, none⟩) 1 1 [ph] _ (HI5.out.old (by (repeat' (first | (with_reducible first | exact Up.refl _ | assumption | refine Up.alloc ?_ _ | refine Up.drew ?_ | refine Up.drewN ?_ _ | refine Up.setCell ?_ ?_ _ | refine Up.call ?_ (by assumption)) | go_size)))) (by first | (simp; omega) | omega) (by exact irow_at [ph] (by simp) (by omega) rfl (by decide)) (fun z hz => by simp only [List.mem_cons, List.not_mem_nil, or_false] at hz; rcases hz with rfl; constructor <;> omega) (by decide) (by have h1 := HLIM.out; have h2 := HNL.out; simp only [List.length_append, List.length_cons, List.length_nil]; omega)).mono ?_); rintro e w6 ⟨rfl, hI6, hb6, ho6⟩; have HI6 := Lib.hid hI6; have HB6 := Lib.hid (HB5.out.trans (Below.trans ((show Up w5 _ by (repeat' (first | (with_reducible first | exact Up.refl _ | assumption | refine Up.alloc ?_ _ | refine Up.drew ?_ | refine Up.drewN ?_ _ | refine Up.setCell ?_ ?_ _ | refine Up.call ?_ (by assumption)) | go_size))).mono (by omega)) hb6)); have HO6 := Lib.hid (HO5.out.tr (((OK.refl b w5).upc (show Up w5 _ by (repeat' (first | (with_reducible first | exact Up.refl _ | assumption | refine Up.alloc ?_ _ | refine Up.drew ?_ | refine Up.drewN ?_ _ | refine Up.setCell ?_ ?_ _ | refine Up.call ?_ (by assumption)) | go_size)))).tr ho6)); clear hI6 hb6 ho6)))
      go_returns
      refine ⟨rfl, ?_, HB6.out, HO6.out⟩
      have e9 : bs ++ dashB ⟨wd, cap, jn, mt, ds, ph⟩ = bs ++ 91 :: dashL ds dl ++ [93, 32] ++ lineB [100] [ph] := by simp only [dashB, HN.out]; simp
      rw [e9]; exact HI6.out

set_option maxRecDepth 8000 in
set_option maxHeartbeats 4000000 in
theorem color_1 (R : Nat → Option Value) (B b : Nat) (bs : List UInt8) (p0 p1 p2 p3 : Int) (o1 o3 o4 : List UInt8) (w : World) (h : WBuf R B b bs w) (hBw : B ≤ w.heap.size) (hp : Fit p0 ∧ Fit p1 ∧ Fit p2 ∧ Fit p3) (ho : o1.length ≤ 100) (hlim : bs.length + 1000000 ≤ 140737488355328) :
    Calls Tryz.prog 77 #[.pointer (some ⟨b, 0, none⟩), .agg #[.int .i64 1, .int .i64 p0, .int .i64 p1, .int .i64 p2, .int .i64 p3], .agg #[.string ⟨o1.toArray⟩, .string ⟨o3.toArray⟩, .string ⟨o4.toArray⟩]] w fun e w' => e = .returned (.tuple #[]) ∧ WBuf R B b (bs ++ colB o1 o3 o4 ⟨1, p0, p1, p2, p3⟩) w' ∧ Below B w w' ∧ OK b w w' := by
  have hb := LibA.IsBuffer.lt h
  have hBb := h.1
  have H := Lib.hid h
  have HO9 := Lib.hid ho
  have HX := Lib.hid ((Bx.new 44 (by decide) w #[.int .i64 1, .int .i64 p0, .int .i64 p1, .int .i64 p2, .int .i64 p3]).up (Up.alloc (Up.refl _) (.cells #[.string ⟨o1.toArray⟩, .string ⟨o3.toArray⟩, .string ⟨o4.toArray⟩] 127)))
  have hlen0 : bs.length + 1000000 ≤ 140737488355328 := hlim
  obtain ⟨⟨f1, f2⟩, ⟨f3, f4⟩, ⟨f5, f6⟩, ⟨f7, f8⟩⟩ := hp
  clear h ho hlim
  go_enter Tryz.func77, Tryz.ntmps77
  go_wp2_with (go_at_call 21; ((refine (line_calls R B b bs o1 (some ⟨w.heap.size, 1, none⟩) 1 4 [p0] _ (H.out.old (by (repeat' (first | (with_reducible first | exact Up.refl _ | assumption | refine Up.alloc ?_ _ | refine Up.drew ?_ | refine Up.drewN ?_ _ | refine Up.setCell ?_ ?_ _ | refine Up.call ?_ (by assumption)) | go_size)))) (by first | (simp; omega) | omega) (by exact HX.out.irow (by omega) rfl (by decide) (by decide) (fun i z h => by match i, h with | 0, h => (simp at h; subst h; rfl) | (i + 1), h => simp at h)) (fun z hz => by simp only [List.mem_cons, List.not_mem_nil, or_false] at hz; rcases hz with rfl; constructor <;> omega) HO9.out (by omega)).mono ?_); rintro e w2 ⟨rfl, hI2, hb2, ho2⟩; have HI2 := Lib.hid hI2; have HB2 := Lib.hid (Below.trans ((show Up w _ by (repeat' (first | (with_reducible first | exact Up.refl _ | assumption | refine Up.alloc ?_ _ | refine Up.drew ?_ | refine Up.drewN ?_ _ | refine Up.setCell ?_ ?_ _ | refine Up.call ?_ (by assumption)) | go_size))).mono hBw) hb2); have HO2 := Lib.hid (((OK.refl b w).upc (show Up w _ by (repeat' (first | (with_reducible first | exact Up.refl _ | assumption | refine Up.alloc ?_ _ | refine Up.drew ?_ | refine Up.drewN ?_ _ | refine Up.setCell ?_ ?_ _ | refine Up.call ?_ (by assumption)) | go_size)))).tr ho2); clear hI2 hb2 ho2))
  go_returns
  exact ⟨rfl, HI2.out, HB2.out, HO2.out⟩

set_option maxRecDepth 8000 in
set_option maxHeartbeats 4000000 in
theorem color_3 (R : Nat → Option Value) (B b : Nat) (bs : List UInt8) (p0 p1 p2 p3 : Int) (o1 o3 o4 : List UInt8) (w : World) (h : WBuf R B b bs w) (hBw : B ≤ w.heap.size) (hp : Fit p0 ∧ Fit p1 ∧ Fit p2 ∧ Fit p3) (ho : o3.length ≤ 100) (hlim : bs.length + 1000000 ≤ 140737488355328) :
    Calls Tryz.prog 77 #[.pointer (some ⟨b, 0, none⟩), .agg #[.int .i64 3, .int .i64 p0, .int .i64 p1, .int .i64 p2, .int .i64 p3], .agg #[.string ⟨o1.toArray⟩, .string ⟨o3.toArray⟩, .string ⟨o4.toArray⟩]] w fun e w' => e = .returned (.tuple #[]) ∧ WBuf R B b (bs ++ colB o1 o3 o4 ⟨3, p0, p1, p2, p3⟩) w' ∧ Below B w w' ∧ OK b w w' := by
  have hb := LibA.IsBuffer.lt h
  have hBb := h.1
  have H := Lib.hid h
  have HO9 := Lib.hid ho
  have HX := Lib.hid ((Bx.new 44 (by decide) w #[.int .i64 3, .int .i64 p0, .int .i64 p1, .int .i64 p2, .int .i64 p3]).up (Up.alloc (Up.refl _) (.cells #[.string ⟨o1.toArray⟩, .string ⟨o3.toArray⟩, .string ⟨o4.toArray⟩] 127)))
  have hlen0 : bs.length + 1000000 ≤ 140737488355328 := hlim
  obtain ⟨⟨f1, f2⟩, ⟨f3, f4⟩, ⟨f5, f6⟩, ⟨f7, f8⟩⟩ := hp
  clear h ho hlim
  go_enter Tryz.func77, Tryz.ntmps77
  go_wp2_with (go_at_call 21; ((refine (line_calls R B b bs o3 (some ⟨w.heap.size, 1, none⟩) 3 4 [p0, p1, p2] _ (H.out.old (by (repeat' (first | (with_reducible first | exact Up.refl _ | assumption | refine Up.alloc ?_ _ | refine Up.drew ?_ | refine Up.drewN ?_ _ | refine Up.setCell ?_ ?_ _ | refine Up.call ?_ (by assumption)) | go_size)))) (by first | (simp; omega) | omega) (by exact HX.out.irow (by omega) rfl (by decide) (by decide) (fun i z h => by match i, h with | 0, h => (simp at h; subst h; rfl) | 1, h => (simp at h; subst h; rfl) | 2, h => (simp at h; subst h; rfl) | (i + 3), h => simp at h)) (fun z hz => by simp only [List.mem_cons, List.not_mem_nil, or_false] at hz; rcases hz with rfl | rfl | rfl <;> (constructor <;> omega)) HO9.out (by omega)).mono ?_); rintro e w2 ⟨rfl, hI2, hb2, ho2⟩; have HI2 := Lib.hid hI2; have HB2 := Lib.hid (Below.trans ((show Up w _ by (repeat' (first | (with_reducible first | exact Up.refl _ | assumption | refine Up.alloc ?_ _ | refine Up.drew ?_ | refine Up.drewN ?_ _ | refine Up.setCell ?_ ?_ _ | refine Up.call ?_ (by assumption)) | go_size))).mono hBw) hb2); have HO2 := Lib.hid (((OK.refl b w).upc (show Up w _ by (repeat' (first | (with_reducible first | exact Up.refl _ | assumption | refine Up.alloc ?_ _ | refine Up.drew ?_ | refine Up.drewN ?_ _ | refine Up.setCell ?_ ?_ _ | refine Up.call ?_ (by assumption)) | go_size)))).tr ho2); clear hI2 hb2 ho2))
  go_returns
  exact ⟨rfl, HI2.out, HB2.out, HO2.out⟩

set_option maxRecDepth 8000 in
set_option maxHeartbeats 4000000 in
theorem color_4 (R : Nat → Option Value) (B b : Nat) (bs : List UInt8) (p0 p1 p2 p3 : Int) (o1 o3 o4 : List UInt8) (w : World) (h : WBuf R B b bs w) (hBw : B ≤ w.heap.size) (hp : Fit p0 ∧ Fit p1 ∧ Fit p2 ∧ Fit p3) (ho : o4.length ≤ 100) (hlim : bs.length + 1000000 ≤ 140737488355328) :
    Calls Tryz.prog 77 #[.pointer (some ⟨b, 0, none⟩), .agg #[.int .i64 4, .int .i64 p0, .int .i64 p1, .int .i64 p2, .int .i64 p3], .agg #[.string ⟨o1.toArray⟩, .string ⟨o3.toArray⟩, .string ⟨o4.toArray⟩]] w fun e w' => e = .returned (.tuple #[]) ∧ WBuf R B b (bs ++ colB o1 o3 o4 ⟨4, p0, p1, p2, p3⟩) w' ∧ Below B w w' ∧ OK b w w' := by
  have hb := LibA.IsBuffer.lt h
  have hBb := h.1
  have H := Lib.hid h
  have HO9 := Lib.hid ho
  have HX := Lib.hid ((Bx.new 44 (by decide) w #[.int .i64 4, .int .i64 p0, .int .i64 p1, .int .i64 p2, .int .i64 p3]).up (Up.alloc (Up.refl _) (.cells #[.string ⟨o1.toArray⟩, .string ⟨o3.toArray⟩, .string ⟨o4.toArray⟩] 127)))
  have hlen0 : bs.length + 1000000 ≤ 140737488355328 := hlim
  obtain ⟨⟨f1, f2⟩, ⟨f3, f4⟩, ⟨f5, f6⟩, ⟨f7, f8⟩⟩ := hp
  clear h ho hlim
  go_enter Tryz.func77, Tryz.ntmps77
  go_wp2_with (go_at_call 21; ((refine (line_calls R B b bs o4 (some ⟨w.heap.size, 1, none⟩) 4 4 [p0, p1, p2, p3] _ (H.out.old (by (repeat' (first | (with_reducible first | exact Up.refl _ | assumption | refine Up.alloc ?_ _ | refine Up.drew ?_ | refine Up.drewN ?_ _ | refine Up.setCell ?_ ?_ _ | refine Up.call ?_ (by assumption)) | go_size)))) (by first | (simp; omega) | omega) (by exact HX.out.irow (by omega) rfl (by decide) (by decide) (fun i z h => by match i, h with | 0, h => (simp at h; subst h; rfl) | 1, h => (simp at h; subst h; rfl) | 2, h => (simp at h; subst h; rfl) | 3, h => (simp at h; subst h; rfl) | (i + 4), h => simp at h)) (fun z hz => by simp only [List.mem_cons, List.not_mem_nil, or_false] at hz; rcases hz with rfl | rfl | rfl | rfl <;> (constructor <;> omega)) HO9.out (by omega)).mono ?_); rintro e w2 ⟨rfl, hI2, hb2, ho2⟩; have HI2 := Lib.hid hI2; have HB2 := Lib.hid (Below.trans ((show Up w _ by (repeat' (first | (with_reducible first | exact Up.refl _ | assumption | refine Up.alloc ?_ _ | refine Up.drew ?_ | refine Up.drewN ?_ _ | refine Up.setCell ?_ ?_ _ | refine Up.call ?_ (by assumption)) | go_size))).mono hBw) hb2); have HO2 := Lib.hid (((OK.refl b w).upc (show Up w _ by (repeat' (first | (with_reducible first | exact Up.refl _ | assumption | refine Up.alloc ?_ _ | refine Up.drew ?_ | refine Up.drewN ?_ _ | refine Up.setCell ?_ ?_ _ | refine Up.call ?_ (by assumption)) | go_size)))).tr ho2); clear hI2 hb2 ho2))
  go_returns
  exact ⟨rfl, HI2.out, HB2.out, HO2.out⟩

end Go.Proofs.YtpellcdggaeppaaGreatDoor.Dr
end

section
namespace Go.Proofs.YtpellcdggaeppaaGreatDoor.Dr
open Go.ChangeShapes Go.WideShapes Go.RowKit Go.Shelf
open Go.Proofs.YtpellcdggaeppaaGreatDoor.Pob
set_option linter.unusedVariables false
set_option linter.unusedSimpArgs false

/-- what is so, in memory -/
structure Sm where
  f : Col
  s : Col
  wd : Int
  cap : Int
  jn : Int
  mt : Int
  dv : Value
  ph : Int
def Col.cells (c : Col) : List Value := [.int .i64 c.sp, .int .i64 c.p0, .int .i64 c.p1, .int .i64 c.p2, .int .i64 c.p3]
def Sm.cells (x : Sm) : List Value := [.int .i64 x.f.sp, .int .i64 x.f.p0, .int .i64 x.f.p1, .int .i64 x.f.p2, .int .i64 x.f.p3, .int .i64 x.s.sp, .int .i64 x.s.p0, .int .i64 x.s.p1, .int .i64 x.s.p2, .int .i64 x.s.p3, .int .i64 x.wd, .int .i64 x.cap, .int .i64 x.jn, .int .i64 x.mt, x.dv, .int .i64 x.ph]
/-- a writer's fields behind its buffer -/
structure Wm where
  so : Sm
  outer : Sm
  cv : Value
  fv : Value
def Wm.rest (x : Wm) : List Value := x.so.cells ++ (x.outer.cells ++ [x.cv, x.fv])
def Rl (l : List Value) (i : Nat) : Option Value := l[i - 3]?
abbrev Wm.R (x : Wm) : Nat → Option Value := Rl x.rest
theorem WBuf.cell {l : List Value} {B b : Nat} {bs : List UInt8} {w : World} (h : WBuf (Rl l) B b bs w) (i : Nat) {v : Value} (hi : l[i]? = some v) : w.cell? ⟨b, 3 + i, none⟩ = some v := by
  obtain ⟨hB, v0, lr, ht, ho, hn⟩ := h
  rw [ht.rest (3 + i) (Or.inr (by omega))]
  unfold Rl
  rw [show 3 + i - 3 = i by omega, hi]
theorem WBuf.free {R : Nat → Option Value} {B b : Nat} {bs : List UInt8} {w : World} (h : WBuf R B b bs w) (i : Nat) : w.frozen? ⟨b, i, none⟩ = false := by
  obtain ⟨hB, v0, lr, ht, ho, hn⟩ := h
  exact ht.f i
/-- a field turns -/
theorem WBuf.set {l : List Value} {B b : Nat} {bs : List UInt8} {w : World} (h : WBuf (Rl l) B b bs w) (i : Nat) (hi : i < l.length) (v : Value) : WBuf (Rl (l.set i v)) B b bs (w.setCell ⟨b, 3 + i, none⟩ v) := by
  obtain ⟨hB, v0, lr, ⟨cs, hb, c0, c1, c2, hr⟩, ho, hn⟩ := h
  have hlt : 3 + i < cs.size := by
    have h1 := hr (3 + i) (Or.inr (by omega))
    unfold Rl at h1
    rw [show 3 + i - 3 = i by omega, List.getElem?_eq_getElem hi] at h1
    exact (Array.getElem?_eq_some_iff.1 h1).1
  refine ⟨hB, v0, lr, ⟨_, Lib.heap_setCell_same (i := 3 + i) hb v, by rw [Array.getElem?_setIfInBounds_ne (by omega)]; exact c0, by rw [Array.getElem?_setIfInBounds_ne (by omega)]; exact c1, by rw [Array.getElem?_setIfInBounds_ne (by omega)]; exact c2, fun j hj => ?_⟩, ?_, hn⟩
  · by_cases hji : j = 3 + i
    · subst hji
      rw [Array.getElem?_setIfInBounds_self_of_lt hlt]
      unfold Rl
      rw [show 3 + i - 3 = i by omega, List.getElem?_set_self hi]
    · rw [Array.getElem?_setIfInBounds_ne (fun e => hji e.symm), hr j hj]
      unfold Rl
      rcases hj with hj | hj
      · omega
      · rw [List.getElem?_set_ne (by omega)]
  · exact ho.kept (Lib.grownBy_setCell w b (3 + i) v) (Or.inr hn)
theorem OK.setB {b : Nat} {w w1 : World} (h : OK b w w1) (i : Nat) (v : Value) : OK b w (w1.setCell ⟨b, i, none⟩ v) := fun k o hk hb ho => by
  have h1 := h k o hk hb ho
  rw [Below.heap_setCell _ _ _ _ (fun e => hb (congrArg some e))]
  exact h1

theorem colF : (Tryz.prog.fieldsOf 44).toList.map (fun f => (f.name != "_", f.offset, f.type)) = [(true, 0, 3), (true, 1, 42)] := by kernel_rfl
theorem colU : Tryz.prog.underlying 44 = some (.struct (Tryz.prog.fieldsOf 44)) := by kernel_rfl
theorem colH : Tryz.prog.stoodInHeld 44 = false := by kernel_rfl
theorem colI : (Tryz.prog.info? 42).isSome = true := by kernel_rfl
theorem colC : Tryz.prog.cellsOf 42 = 4 := by kernel_rfl
set_option maxRecDepth 100000 in
/-- two colours compared -/
theorem eq_colors (a b : Col) (w : World) : (Op.equalIn 10000 44 (.agg a.cells.toArray) (.agg b.cells.toArray)).run Tryz.prog w = .ok (decide (a = b)) w := by
  obtain ⟨sp, p0, p1, p2, p3⟩ := a
  obtain ⟨sp', p0', p1', p2', p3'⟩ := b
  obtain ⟨i, hi⟩ := Option.isSome_iff_exists.1 infoInt
  obtain ⟨i', hi'⟩ := Option.isSome_iff_exists.1 colI
  have arr : (Op.equalIn 9999 42 (.agg #[.int .i64 p0, .int .i64 p1, .int .i64 p2, .int .i64 p3]) (.agg #[.int .i64 p0', .int .i64 p1', .int .i64 p2', .int .i64 p3'])).run Tryz.prog w = .ok (p0 == p0' && (p1 == p1' && (p2 == p2' && p3 == p3'))) w := by
    rw [show (9999 : Nat) = 9998 + 1 from rfl, run_equalIn_array (w := w) 9998 _ _ Tryz.underlying42 hi, cellsInt, show List.range 4 = [0, 1, 2, 3] from rfl]
    rw [item_of (j := 0) (run_part_plain w eqsInt rfl) (run_part_plain w eqsInt rfl) (run_equalIn_int w 9997 _ _ .i64 p0 p0' Tryz.underlying3)]
    rw [item_of (j := 1) (run_part_plain w eqsInt rfl) (run_part_plain w eqsInt rfl) (run_equalIn_int w 9997 _ _ .i64 p1 p1' Tryz.underlying3)]
    rw [item_of (j := 2) (run_part_plain w eqsInt rfl) (run_part_plain w eqsInt rfl) (run_equalIn_int w 9997 _ _ .i64 p2 p2' Tryz.underlying3)]
    rw [item_of (j := 3) (run_part_plain w eqsInt rfl) (run_part_plain w eqsInt rfl) (run_equalIn_int w 9997 _ _ .i64 p3 p3' Tryz.underlying3)]
    simp only [Op.eqItems, Sem.run_pure]
    cases (p0 == p0') <;> cases (p1 == p1') <;> cases (p2 == p2') <;> cases (p3 == p3') <;> rfl
  have pt : ∀ (s a b c d : Value), (part 42 #[s, a, b, c, d] 1).run Tryz.prog w = .ok (.agg #[a, b, c, d]) w := fun s a b c d => by
    rw [run_part_agg Tryz.underlying42 rfl hi', colC]
    rfl
  show (Op.equalIn 10000 44 (.agg #[.int .i64 sp, .int .i64 p0, .int .i64 p1, .int .i64 p2, .int .i64 p3]) (.agg #[.int .i64 sp', .int .i64 p0', .int .i64 p1', .int .i64 p2', .int .i64 p3'])).run Tryz.prog w = _
  rw [show (10000 : Nat) = 9999 + 1 from rfl, run_equalIn_struct w 9999 _ _ _ colU colH, eqFields_rows, colF]
  rw [row_of (run_part_plain w eqsInt rfl) (run_part_plain w eqsInt rfl) (run_equalIn_int w 9998 _ _ .i64 sp sp' Tryz.underlying3)]
  rw [row_of (pt _ _ _ _ _) (pt _ _ _ _ _) arr]
  simp only [eqRows, Sem.run_pure]
  have e : decide ((⟨sp, p0, p1, p2, p3⟩ : Col) = ⟨sp', p0', p1', p2', p3'⟩) = ((sp == sp') && (p0 == p0' && (p1 == p1' && (p2 == p2' && p3 == p3')))) := by
    by_cases h : (⟨sp, p0, p1, p2, p3⟩ : Col) = ⟨sp', p0', p1', p2', p3'⟩
    · injection h with h1 h2 h3 h4 h5
      subst h1 h2 h3 h4 h5
      simp
    · rw [decide_eq_false h]
      symm
      rw [Bool.and_eq_false_iff, Bool.and_eq_false_iff, Bool.and_eq_false_iff, Bool.and_eq_false_iff]
      simp only [beq_eq_false_iff_ne]
      apply Classical.byContradiction
      intro h9
      simp only [not_or, Classical.not_not] at h9
      apply h
      rw [h9.1, h9.2.1, h9.2.2.1, h9.2.2.2.1, h9.2.2.2.2]
  rw [e]
  cases (sp == sp') <;> cases (p0 == p0' && (p1 == p1' && (p2 == p2' && p3 == p3'))) <;> rfl
set_option maxRecDepth 8000 in
set_option maxHeartbeats 4000000 in
theorem filled_eq (sp p0 p1 p2 p3 sq q0 q1 q2 q3 : Int) (oc : Col) (wd cap jn mt ph : Int) (dv : Value) (ou : Sm) (cv fv : Value) (B b : Nat) (bs : List UInt8) (w : World) (h : WBuf (⟨⟨⟨sq, q0, q1, q2, q3⟩, oc, wd, cap, jn, mt, dv, ph⟩, ou, cv, fv⟩ : Wm).R B b bs w) (hBw : B ≤ w.heap.size) (he : (⟨sp, p0, p1, p2, p3⟩ : Col) = ⟨sq, q0, q1, q2, q3⟩) :
    Calls Tryz.prog 46 #[.pointer (some ⟨b, 0, none⟩), .agg #[.int .i64 sp, .int .i64 p0, .int .i64 p1, .int .i64 p2, .int .i64 p3]] w fun e w' => e = .returned (.tuple #[]) ∧ WBuf (⟨⟨⟨sq, q0, q1, q2, q3⟩, oc, wd, cap, jn, mt, dv, ph⟩, ou, cv, fv⟩ : Wm).R B b bs w' ∧ Below B w w' ∧ OK b w w' := by
  have hb := LibA.IsBuffer.lt h
  have hBb := h.1
  have eqC : ∀ W, (Op.equalIn 10000 44 (.agg #[.int .i64 sp, .int .i64 p0, .int .i64 p1, .int .i64 p2, .int .i64 p3]) (.agg #[.int .i64 sq, .int .i64 q0, .int .i64 q1, .int .i64 q2, .int .i64 q3])).run Tryz.prog W = .ok true W := fun W => (eq_colors ⟨sp, p0, p1, p2, p3⟩ ⟨sq, q0, q1, q2, q3⟩ W).trans (by rw [decide_eq_true he])
  have s0 := h.cell 0 (v := .int .i64 sq) rfl
  have s1 := h.cell 1 (v := .int .i64 q0) rfl
  have s2 := h.cell 2 (v := .int .i64 q1) rfl
  have s3 := h.cell 3 (v := .int .i64 q2) rfl
  have s4 := h.cell 4 (v := .int .i64 q3) rfl
  have H := Lib.hid h
  clear h he
  go_enter Tryz.func46, Tryz.ntmps46
  go_wp2
  go_region
  go_wp2
  go_returns
  exact ⟨rfl, H.out.old (by (repeat' (first | (with_reducible first | exact Up.refl _ | assumption | refine Up.alloc ?_ _ | refine Up.drew ?_ | refine Up.drewN ?_ _ | refine Up.setCell ?_ ?_ _ | refine Up.call ?_ (by assumption)) | go_size))), (show Up w _ by (repeat' (first | (with_reducible first | exact Up.refl _ | assumption | refine Up.alloc ?_ _ | refine Up.drew ?_ | refine Up.drewN ?_ _ | refine Up.setCell ?_ ?_ _ | refine Up.call ?_ (by assumption)) | go_size))).mono hBw, (OK.refl b w).upc (by (repeat' (first | (with_reducible first | exact Up.refl _ | assumption | refine Up.alloc ?_ _ | refine Up.drew ?_ | refine Up.drewN ?_ _ | refine Up.setCell ?_ ?_ _ | refine Up.call ?_ (by assumption)) | go_size)))⟩
set_option maxRecDepth 8000 in
set_option maxHeartbeats 4000000 in
theorem filled_1 (sp p0 p1 p2 p3 sq q0 q1 q2 q3 : Int) (oc : Col) (wd cap jn mt ph : Int) (dv : Value) (ou : Sm) (cv fv : Value) (B b : Nat) (bs : List UInt8) (w : World) (h : WBuf (⟨⟨⟨sq, q0, q1, q2, q3⟩, oc, wd, cap, jn, mt, dv, ph⟩, ou, cv, fv⟩ : Wm).R B b bs w) (hBw : B ≤ w.heap.size) (he : (⟨sp, p0, p1, p2, p3⟩ : Col) ≠ ⟨sq, q0, q1, q2, q3⟩) (hsp : sp = 1) (hp : Fit p0 ∧ Fit p1 ∧ Fit p2 ∧ Fit p3) (hlim : bs.length + 1000000 ≤ 140737488355328) :
    Calls Tryz.prog 46 #[.pointer (some ⟨b, 0, none⟩), .agg #[.int .i64 sp, .int .i64 p0, .int .i64 p1, .int .i64 p2, .int .i64 p3]] w fun e w' => e = .returned (.tuple #[]) ∧ WBuf (⟨⟨⟨sp, p0, p1, p2, p3⟩, oc, wd, cap, jn, mt, dv, ph⟩, ou, cv, fv⟩ : Wm).R B b (bs ++ colB [103] [114, 103] [107] ⟨sp, p0, p1, p2, p3⟩) w' ∧ Below B w w' ∧ OK b w w' := by
  have hb := LibA.IsBuffer.lt h
  have hBb := h.1
  have eqC : ∀ W, (Op.equalIn 10000 44 (.agg #[.int .i64 sp, .int .i64 p0, .int .i64 p1, .int .i64 p2, .int .i64 p3]) (.agg #[.int .i64 sq, .int .i64 q0, .int .i64 q1, .int .i64 q2, .int .i64 q3])).run Tryz.prog W = .ok false W := fun W => (eq_colors ⟨sp, p0, p1, p2, p3⟩ ⟨sq, q0, q1, q2, q3⟩ W).trans (by rw [decide_eq_false he])
  have s0 := h.cell 0 (v := .int .i64 sq) rfl
  have s1 := h.cell 1 (v := .int .i64 q0) rfl
  have s2 := h.cell 2 (v := .int .i64 q1) rfl
  have s3 := h.cell 3 (v := .int .i64 q2) rfl
  have s4 := h.cell 4 (v := .int .i64 q3) rfl
  have H := Lib.hid h
  have HP := Lib.hid hp
  have hlen0 : bs.length + 1000000 ≤ 140737488355328 := hlim
  subst hsp
  clear hp hlim
  clear h he
  go_enter Tryz.func46, Tryz.ntmps46
  go_wp2
  go_region
  go_wp2_with (go_at_call 77; ((refine (color_1 _ B b bs p0 p1 p2 p3 [103] [114, 103] [107] _ (H.out.old (by (repeat' (first | (with_reducible first | exact Up.refl _ | assumption | refine Up.alloc ?_ _ | refine Up.drew ?_ | refine Up.drewN ?_ _ | refine Up.setCell ?_ ?_ _ | refine Up.call ?_ (by assumption)) | go_size)))) (by first | (simp; omega) | omega) HP.out (by decide) (by omega)).mono ?_); rintro e w2 ⟨rfl, hI2, hb2, ho2⟩; have HI2 := Lib.hid hI2; have HB2 := Lib.hid (Below.trans ((show Up w _ by (repeat' (first | (with_reducible first | exact Up.refl _ | assumption | refine Up.alloc ?_ _ | refine Up.drew ?_ | refine Up.drewN ?_ _ | refine Up.setCell ?_ ?_ _ | refine Up.call ?_ (by assumption)) | go_size))).mono hBw) hb2); have HO2 := Lib.hid (((OK.refl b w).upc (show Up w _ by (repeat' (first | (with_reducible first | exact Up.refl _ | assumption | refine Up.alloc ?_ _ | refine Up.drew ?_ | refine Up.drewN ?_ _ | refine Up.setCell ?_ ?_ _ | refine Up.call ?_ (by assumption)) | go_size)))).tr ho2); have HX2 := Lib.hid (((Bx.new 44 (by decide) w #[.int .i64 1, .int .i64 p0, .int .i64 p1, .int .i64 p2, .int .i64 p3]).up (show Up (w.alloc _) _ by (repeat' (first | (with_reducible first | exact Up.refl _ | assumption | refine Up.alloc ?_ _ | refine Up.drew ?_ | refine Up.drewN ?_ _ | refine Up.setCell ?_ ?_ _ | refine Up.call ?_ (by assumption)) | go_size)))).kept ho2 (by omega)); have x0 := HX2.out.cell 0 rfl; have x1 := HX2.out.cell 1 rfl; have x2 := HX2.out.cell 2 rfl; have x3 := HX2.out.cell 3 rfl; have x4 := HX2.out.cell 4 rfl; have lx := HX2.out.lt; have y0 := hI2.cell 0 rfl; have y1 := hI2.cell 1 rfl; have y2 := hI2.cell 2 rfl; have y3 := hI2.cell 3 rfl; have y4 := hI2.cell 4 rfl; have g0 := hI2.free 3; have g1 := hI2.free 4; have g2 := hI2.free 5; have g3 := hI2.free 6; have g4 := hI2.free 7; clear hI2 hb2 ho2 s0 s1 s2 s3 s4 eqC))
  go_returns
  exact ⟨rfl, (((((HI2.out.set 0 (by simp [Wm.rest, Sm.cells]) (.int .i64 1)).set 1 (by simp [Wm.rest, Sm.cells]) (.int .i64 p0)).set 2 (by simp [Wm.rest, Sm.cells]) (.int .i64 p1)).set 3 (by simp [Wm.rest, Sm.cells]) (.int .i64 p2)).set 4 (by simp [Wm.rest, Sm.cells]) (.int .i64 p3)), (Below.setCell (Below.setCell (Below.setCell (Below.setCell (Below.setCell HB2.out (p := ⟨b, 3, none⟩) hBb _) (p := ⟨b, 4, none⟩) hBb _) (p := ⟨b, 5, none⟩) hBb _) (p := ⟨b, 6, none⟩) hBb _) (p := ⟨b, 7, none⟩) hBb _), (OK.setB (OK.setB (OK.setB (OK.setB (OK.setB HO2.out 3 _) 4 _) 5 _) 6 _) 7 _)⟩
set_option maxRecDepth 8000 in
set_option maxHeartbeats 4000000 in
theorem filled_3 (sp p0 p1 p2 p3 sq q0 q1 q2 q3 : Int) (oc : Col) (wd cap jn mt ph : Int) (dv : Value) (ou : Sm) (cv fv : Value) (B b : Nat) (bs : List UInt8) (w : World) (h : WBuf (⟨⟨⟨sq, q0, q1, q2, q3⟩, oc, wd, cap, jn, mt, dv, ph⟩, ou, cv, fv⟩ : Wm).R B b bs w) (hBw : B ≤ w.heap.size) (he : (⟨sp, p0, p1, p2, p3⟩ : Col) ≠ ⟨sq, q0, q1, q2, q3⟩) (hsp : sp = 3) (hp : Fit p0 ∧ Fit p1 ∧ Fit p2 ∧ Fit p3) (hlim : bs.length + 1000000 ≤ 140737488355328) :
    Calls Tryz.prog 46 #[.pointer (some ⟨b, 0, none⟩), .agg #[.int .i64 sp, .int .i64 p0, .int .i64 p1, .int .i64 p2, .int .i64 p3]] w fun e w' => e = .returned (.tuple #[]) ∧ WBuf (⟨⟨⟨sp, p0, p1, p2, p3⟩, oc, wd, cap, jn, mt, dv, ph⟩, ou, cv, fv⟩ : Wm).R B b (bs ++ colB [103] [114, 103] [107] ⟨sp, p0, p1, p2, p3⟩) w' ∧ Below B w w' ∧ OK b w w' := by
  have hb := LibA.IsBuffer.lt h
  have hBb := h.1
  have eqC : ∀ W, (Op.equalIn 10000 44 (.agg #[.int .i64 sp, .int .i64 p0, .int .i64 p1, .int .i64 p2, .int .i64 p3]) (.agg #[.int .i64 sq, .int .i64 q0, .int .i64 q1, .int .i64 q2, .int .i64 q3])).run Tryz.prog W = .ok false W := fun W => (eq_colors ⟨sp, p0, p1, p2, p3⟩ ⟨sq, q0, q1, q2, q3⟩ W).trans (by rw [decide_eq_false he])
  have s0 := h.cell 0 (v := .int .i64 sq) rfl
  have s1 := h.cell 1 (v := .int .i64 q0) rfl
  have s2 := h.cell 2 (v := .int .i64 q1) rfl
  have s3 := h.cell 3 (v := .int .i64 q2) rfl
  have s4 := h.cell 4 (v := .int .i64 q3) rfl
  have H := Lib.hid h
  have HP := Lib.hid hp
  have hlen0 : bs.length + 1000000 ≤ 140737488355328 := hlim
  subst hsp
  clear hp hlim
  clear h he
  go_enter Tryz.func46, Tryz.ntmps46
  go_wp2
  go_region
  go_wp2_with (go_at_call 77; ((refine (color_3 _ B b bs p0 p1 p2 p3 [103] [114, 103] [107] _ (H.out.old (by (repeat' (first | (with_reducible first | exact Up.refl _ | assumption | refine Up.alloc ?_ _ | refine Up.drew ?_ | refine Up.drewN ?_ _ | refine Up.setCell ?_ ?_ _ | refine Up.call ?_ (by assumption)) | go_size)))) (by first | (simp; omega) | omega) HP.out (by decide) (by omega)).mono ?_); rintro e w2 ⟨rfl, hI2, hb2, ho2⟩; have HI2 := Lib.hid hI2; have HB2 := Lib.hid (Below.trans ((show Up w _ by (repeat' (first | (with_reducible first | exact Up.refl _ | assumption | refine Up.alloc ?_ _ | refine Up.drew ?_ | refine Up.drewN ?_ _ | refine Up.setCell ?_ ?_ _ | refine Up.call ?_ (by assumption)) | go_size))).mono hBw) hb2); have HO2 := Lib.hid (((OK.refl b w).upc (show Up w _ by (repeat' (first | (with_reducible first | exact Up.refl _ | assumption | refine Up.alloc ?_ _ | refine Up.drew ?_ | refine Up.drewN ?_ _ | refine Up.setCell ?_ ?_ _ | refine Up.call ?_ (by assumption)) | go_size)))).tr ho2); have HX2 := Lib.hid (((Bx.new 44 (by decide) w #[.int .i64 3, .int .i64 p0, .int .i64 p1, .int .i64 p2, .int .i64 p3]).up (show Up (w.alloc _) _ by (repeat' (first | (with_reducible first | exact Up.refl _ | assumption | refine Up.alloc ?_ _ | refine Up.drew ?_ | refine Up.drewN ?_ _ | refine Up.setCell ?_ ?_ _ | refine Up.call ?_ (by assumption)) | go_size)))).kept ho2 (by omega)); have x0 := HX2.out.cell 0 rfl; have x1 := HX2.out.cell 1 rfl; have x2 := HX2.out.cell 2 rfl; have x3 := HX2.out.cell 3 rfl; have x4 := HX2.out.cell 4 rfl; have lx := HX2.out.lt; have y0 := hI2.cell 0 rfl; have y1 := hI2.cell 1 rfl; have y2 := hI2.cell 2 rfl; have y3 := hI2.cell 3 rfl; have y4 := hI2.cell 4 rfl; have g0 := hI2.free 3; have g1 := hI2.free 4; have g2 := hI2.free 5; have g3 := hI2.free 6; have g4 := hI2.free 7; clear hI2 hb2 ho2 s0 s1 s2 s3 s4 eqC))
  go_returns
  exact ⟨rfl, (((((HI2.out.set 0 (by simp [Wm.rest, Sm.cells]) (.int .i64 3)).set 1 (by simp [Wm.rest, Sm.cells]) (.int .i64 p0)).set 2 (by simp [Wm.rest, Sm.cells]) (.int .i64 p1)).set 3 (by simp [Wm.rest, Sm.cells]) (.int .i64 p2)).set 4 (by simp [Wm.rest, Sm.cells]) (.int .i64 p3)), (Below.setCell (Below.setCell (Below.setCell (Below.setCell (Below.setCell HB2.out (p := ⟨b, 3, none⟩) hBb _) (p := ⟨b, 4, none⟩) hBb _) (p := ⟨b, 5, none⟩) hBb _) (p := ⟨b, 6, none⟩) hBb _) (p := ⟨b, 7, none⟩) hBb _), (OK.setB (OK.setB (OK.setB (OK.setB (OK.setB HO2.out 3 _) 4 _) 5 _) 6 _) 7 _)⟩
set_option maxRecDepth 8000 in
set_option maxHeartbeats 4000000 in
theorem filled_4 (sp p0 p1 p2 p3 sq q0 q1 q2 q3 : Int) (oc : Col) (wd cap jn mt ph : Int) (dv : Value) (ou : Sm) (cv fv : Value) (B b : Nat) (bs : List UInt8) (w : World) (h : WBuf (⟨⟨⟨sq, q0, q1, q2, q3⟩, oc, wd, cap, jn, mt, dv, ph⟩, ou, cv, fv⟩ : Wm).R B b bs w) (hBw : B ≤ w.heap.size) (he : (⟨sp, p0, p1, p2, p3⟩ : Col) ≠ ⟨sq, q0, q1, q2, q3⟩) (hsp : sp = 4) (hp : Fit p0 ∧ Fit p1 ∧ Fit p2 ∧ Fit p3) (hlim : bs.length + 1000000 ≤ 140737488355328) :
    Calls Tryz.prog 46 #[.pointer (some ⟨b, 0, none⟩), .agg #[.int .i64 sp, .int .i64 p0, .int .i64 p1, .int .i64 p2, .int .i64 p3]] w fun e w' => e = .returned (.tuple #[]) ∧ WBuf (⟨⟨⟨sp, p0, p1, p2, p3⟩, oc, wd, cap, jn, mt, dv, ph⟩, ou, cv, fv⟩ : Wm).R B b (bs ++ colB [103] [114, 103] [107] ⟨sp, p0, p1, p2, p3⟩) w' ∧ Below B w w' ∧ OK b w w' := by
  have hb := LibA.IsBuffer.lt h
  have hBb := h.1
  have eqC : ∀ W, (Op.equalIn 10000 44 (.agg #[.int .i64 sp, .int .i64 p0, .int .i64 p1, .int .i64 p2, .int .i64 p3]) (.agg #[.int .i64 sq, .int .i64 q0, .int .i64 q1, .int .i64 q2, .int .i64 q3])).run Tryz.prog W = .ok false W := fun W => (eq_colors ⟨sp, p0, p1, p2, p3⟩ ⟨sq, q0, q1, q2, q3⟩ W).trans (by rw [decide_eq_false he])
  have s0 := h.cell 0 (v := .int .i64 sq) rfl
  have s1 := h.cell 1 (v := .int .i64 q0) rfl
  have s2 := h.cell 2 (v := .int .i64 q1) rfl
  have s3 := h.cell 3 (v := .int .i64 q2) rfl
  have s4 := h.cell 4 (v := .int .i64 q3) rfl
  have H := Lib.hid h
  have HP := Lib.hid hp
  have hlen0 : bs.length + 1000000 ≤ 140737488355328 := hlim
  subst hsp
  clear hp hlim
  clear h he
  go_enter Tryz.func46, Tryz.ntmps46
  go_wp2
  go_region
  go_wp2_with (go_at_call 77; ((refine (color_4 _ B b bs p0 p1 p2 p3 [103] [114, 103] [107] _ (H.out.old (by (repeat' (first | (with_reducible first | exact Up.refl _ | assumption | refine Up.alloc ?_ _ | refine Up.drew ?_ | refine Up.drewN ?_ _ | refine Up.setCell ?_ ?_ _ | refine Up.call ?_ (by assumption)) | go_size)))) (by first | (simp; omega) | omega) HP.out (by decide) (by omega)).mono ?_); rintro e w2 ⟨rfl, hI2, hb2, ho2⟩; have HI2 := Lib.hid hI2; have HB2 := Lib.hid (Below.trans ((show Up w _ by (repeat' (first | (with_reducible first | exact Up.refl _ | assumption | refine Up.alloc ?_ _ | refine Up.drew ?_ | refine Up.drewN ?_ _ | refine Up.setCell ?_ ?_ _ | refine Up.call ?_ (by assumption)) | go_size))).mono hBw) hb2); have HO2 := Lib.hid (((OK.refl b w).upc (show Up w _ by (repeat' (first | (with_reducible first | exact Up.refl _ | assumption | refine Up.alloc ?_ _ | refine Up.drew ?_ | refine Up.drewN ?_ _ | refine Up.setCell ?_ ?_ _ | refine Up.call ?_ (by assumption)) | go_size)))).tr ho2); have HX2 := Lib.hid (((Bx.new 44 (by decide) w #[.int .i64 4, .int .i64 p0, .int .i64 p1, .int .i64 p2, .int .i64 p3]).up (show Up (w.alloc _) _ by (repeat' (first | (with_reducible first | exact Up.refl _ | assumption | refine Up.alloc ?_ _ | refine Up.drew ?_ | refine Up.drewN ?_ _ | refine Up.setCell ?_ ?_ _ | refine Up.call ?_ (by assumption)) | go_size)))).kept ho2 (by omega)); have x0 := HX2.out.cell 0 rfl; have x1 := HX2.out.cell 1 rfl; have x2 := HX2.out.cell 2 rfl; have x3 := HX2.out.cell 3 rfl; have x4 := HX2.out.cell 4 rfl; have lx := HX2.out.lt; have y0 := hI2.cell 0 rfl; have y1 := hI2.cell 1 rfl; have y2 := hI2.cell 2 rfl; have y3 := hI2.cell 3 rfl; have y4 := hI2.cell 4 rfl; have g0 := hI2.free 3; have g1 := hI2.free 4; have g2 := hI2.free 5; have g3 := hI2.free 6; have g4 := hI2.free 7; clear hI2 hb2 ho2 s0 s1 s2 s3 s4 eqC))
  go_returns
  exact ⟨rfl, (((((HI2.out.set 0 (by simp [Wm.rest, Sm.cells]) (.int .i64 4)).set 1 (by simp [Wm.rest, Sm.cells]) (.int .i64 p0)).set 2 (by simp [Wm.rest, Sm.cells]) (.int .i64 p1)).set 3 (by simp [Wm.rest, Sm.cells]) (.int .i64 p2)).set 4 (by simp [Wm.rest, Sm.cells]) (.int .i64 p3)), (Below.setCell (Below.setCell (Below.setCell (Below.setCell (Below.setCell HB2.out (p := ⟨b, 3, none⟩) hBb _) (p := ⟨b, 4, none⟩) hBb _) (p := ⟨b, 5, none⟩) hBb _) (p := ⟨b, 6, none⟩) hBb _) (p := ⟨b, 7, none⟩) hBb _), (OK.setB (OK.setB (OK.setB (OK.setB (OK.setB HO2.out 3 _) 4 _) 5 _) 6 _) 7 _)⟩
set_option maxRecDepth 8000 in
set_option maxHeartbeats 4000000 in
theorem stroked_eq (sp p0 p1 p2 p3 sq q0 q1 q2 q3 : Int) (oc : Col) (wd cap jn mt ph : Int) (dv : Value) (ou : Sm) (cv fv : Value) (B b : Nat) (bs : List UInt8) (w : World) (h : WBuf (⟨⟨oc, ⟨sq, q0, q1, q2, q3⟩, wd, cap, jn, mt, dv, ph⟩, ou, cv, fv⟩ : Wm).R B b bs w) (hBw : B ≤ w.heap.size) (he : (⟨sp, p0, p1, p2, p3⟩ : Col) = ⟨sq, q0, q1, q2, q3⟩) :
    Calls Tryz.prog 43 #[.pointer (some ⟨b, 0, none⟩), .agg #[.int .i64 sp, .int .i64 p0, .int .i64 p1, .int .i64 p2, .int .i64 p3]] w fun e w' => e = .returned (.tuple #[]) ∧ WBuf (⟨⟨oc, ⟨sq, q0, q1, q2, q3⟩, wd, cap, jn, mt, dv, ph⟩, ou, cv, fv⟩ : Wm).R B b bs w' ∧ Below B w w' ∧ OK b w w' := by
  have hb := LibA.IsBuffer.lt h
  have hBb := h.1
  have eqC : ∀ W, (Op.equalIn 10000 44 (.agg #[.int .i64 sp, .int .i64 p0, .int .i64 p1, .int .i64 p2, .int .i64 p3]) (.agg #[.int .i64 sq, .int .i64 q0, .int .i64 q1, .int .i64 q2, .int .i64 q3])).run Tryz.prog W = .ok true W := fun W => (eq_colors ⟨sp, p0, p1, p2, p3⟩ ⟨sq, q0, q1, q2, q3⟩ W).trans (by rw [decide_eq_true he])
  have s0 := h.cell 5 (v := .int .i64 sq) rfl
  have s1 := h.cell 6 (v := .int .i64 q0) rfl
  have s2 := h.cell 7 (v := .int .i64 q1) rfl
  have s3 := h.cell 8 (v := .int .i64 q2) rfl
  have s4 := h.cell 9 (v := .int .i64 q3) rfl
  have H := Lib.hid h
  clear h he
  go_enter Tryz.func43, Tryz.ntmps43
  go_wp2
  go_region
  go_wp2
  go_returns
  exact ⟨rfl, H.out.old (by (repeat' (first | (with_reducible first | exact Up.refl _ | assumption | refine Up.alloc ?_ _ | refine Up.drew ?_ | refine Up.drewN ?_ _ | refine Up.setCell ?_ ?_ _ | refine Up.call ?_ (by assumption)) | go_size))), (show Up w _ by (repeat' (first | (with_reducible first | exact Up.refl _ | assumption | refine Up.alloc ?_ _ | refine Up.drew ?_ | refine Up.drewN ?_ _ | refine Up.setCell ?_ ?_ _ | refine Up.call ?_ (by assumption)) | go_size))).mono hBw, (OK.refl b w).upc (by (repeat' (first | (with_reducible first | exact Up.refl _ | assumption | refine Up.alloc ?_ _ | refine Up.drew ?_ | refine Up.drewN ?_ _ | refine Up.setCell ?_ ?_ _ | refine Up.call ?_ (by assumption)) | go_size)))⟩
set_option maxRecDepth 8000 in
set_option maxHeartbeats 4000000 in
theorem stroked_1 (sp p0 p1 p2 p3 sq q0 q1 q2 q3 : Int) (oc : Col) (wd cap jn mt ph : Int) (dv : Value) (ou : Sm) (cv fv : Value) (B b : Nat) (bs : List UInt8) (w : World) (h : WBuf (⟨⟨oc, ⟨sq, q0, q1, q2, q3⟩, wd, cap, jn, mt, dv, ph⟩, ou, cv, fv⟩ : Wm).R B b bs w) (hBw : B ≤ w.heap.size) (he : (⟨sp, p0, p1, p2, p3⟩ : Col) ≠ ⟨sq, q0, q1, q2, q3⟩) (hsp : sp = 1) (hp : Fit p0 ∧ Fit p1 ∧ Fit p2 ∧ Fit p3) (hlim : bs.length + 1000000 ≤ 140737488355328) :
    Calls Tryz.prog 43 #[.pointer (some ⟨b, 0, none⟩), .agg #[.int .i64 sp, .int .i64 p0, .int .i64 p1, .int .i64 p2, .int .i64 p3]] w fun e w' => e = .returned (.tuple #[]) ∧ WBuf (⟨⟨oc, ⟨sp, p0, p1, p2, p3⟩, wd, cap, jn, mt, dv, ph⟩, ou, cv, fv⟩ : Wm).R B b (bs ++ colB [71] [82, 71] [75] ⟨sp, p0, p1, p2, p3⟩) w' ∧ Below B w w' ∧ OK b w w' := by
  have hb := LibA.IsBuffer.lt h
  have hBb := h.1
  have eqC : ∀ W, (Op.equalIn 10000 44 (.agg #[.int .i64 sp, .int .i64 p0, .int .i64 p1, .int .i64 p2, .int .i64 p3]) (.agg #[.int .i64 sq, .int .i64 q0, .int .i64 q1, .int .i64 q2, .int .i64 q3])).run Tryz.prog W = .ok false W := fun W => (eq_colors ⟨sp, p0, p1, p2, p3⟩ ⟨sq, q0, q1, q2, q3⟩ W).trans (by rw [decide_eq_false he])
  have s0 := h.cell 5 (v := .int .i64 sq) rfl
  have s1 := h.cell 6 (v := .int .i64 q0) rfl
  have s2 := h.cell 7 (v := .int .i64 q1) rfl
  have s3 := h.cell 8 (v := .int .i64 q2) rfl
  have s4 := h.cell 9 (v := .int .i64 q3) rfl
  have H := Lib.hid h
  have HP := Lib.hid hp
  have hlen0 : bs.length + 1000000 ≤ 140737488355328 := hlim
  subst hsp
  clear hp hlim
  clear h he
  go_enter Tryz.func43, Tryz.ntmps43
  go_wp2
  go_region
  go_wp2_with (go_at_call 77; ((refine (color_1 _ B b bs p0 p1 p2 p3 [71] [82, 71] [75] _ (H.out.old (by (repeat' (first | (with_reducible first | exact Up.refl _ | assumption | refine Up.alloc ?_ _ | refine Up.drew ?_ | refine Up.drewN ?_ _ | refine Up.setCell ?_ ?_ _ | refine Up.call ?_ (by assumption)) | go_size)))) (by first | (simp; omega) | omega) HP.out (by decide) (by omega)).mono ?_); rintro e w2 ⟨rfl, hI2, hb2, ho2⟩; have HI2 := Lib.hid hI2; have HB2 := Lib.hid (Below.trans ((show Up w _ by (repeat' (first | (with_reducible first | exact Up.refl _ | assumption | refine Up.alloc ?_ _ | refine Up.drew ?_ | refine Up.drewN ?_ _ | refine Up.setCell ?_ ?_ _ | refine Up.call ?_ (by assumption)) | go_size))).mono hBw) hb2); have HO2 := Lib.hid (((OK.refl b w).upc (show Up w _ by (repeat' (first | (with_reducible first | exact Up.refl _ | assumption | refine Up.alloc ?_ _ | refine Up.drew ?_ | refine Up.drewN ?_ _ | refine Up.setCell ?_ ?_ _ | refine Up.call ?_ (by assumption)) | go_size)))).tr ho2); have HX2 := Lib.hid (((Bx.new 44 (by decide) w #[.int .i64 1, .int .i64 p0, .int .i64 p1, .int .i64 p2, .int .i64 p3]).up (show Up (w.alloc _) _ by (repeat' (first | (with_reducible first | exact Up.refl _ | assumption | refine Up.alloc ?_ _ | refine Up.drew ?_ | refine Up.drewN ?_ _ | refine Up.setCell ?_ ?_ _ | refine Up.call ?_ (by assumption)) | go_size)))).kept ho2 (by omega)); have x0 := HX2.out.cell 0 rfl; have x1 := HX2.out.cell 1 rfl; have x2 := HX2.out.cell 2 rfl; have x3 := HX2.out.cell 3 rfl; have x4 := HX2.out.cell 4 rfl; have lx := HX2.out.lt; have y0 := hI2.cell 5 rfl; have y1 := hI2.cell 6 rfl; have y2 := hI2.cell 7 rfl; have y3 := hI2.cell 8 rfl; have y4 := hI2.cell 9 rfl; have g0 := hI2.free 8; have g1 := hI2.free 9; have g2 := hI2.free 10; have g3 := hI2.free 11; have g4 := hI2.free 12; clear hI2 hb2 ho2 s0 s1 s2 s3 s4 eqC))
  go_returns
  exact ⟨rfl, (((((HI2.out.set 5 (by simp [Wm.rest, Sm.cells]) (.int .i64 1)).set 6 (by simp [Wm.rest, Sm.cells]) (.int .i64 p0)).set 7 (by simp [Wm.rest, Sm.cells]) (.int .i64 p1)).set 8 (by simp [Wm.rest, Sm.cells]) (.int .i64 p2)).set 9 (by simp [Wm.rest, Sm.cells]) (.int .i64 p3)), (Below.setCell (Below.setCell (Below.setCell (Below.setCell (Below.setCell HB2.out (p := ⟨b, 8, none⟩) hBb _) (p := ⟨b, 9, none⟩) hBb _) (p := ⟨b, 10, none⟩) hBb _) (p := ⟨b, 11, none⟩) hBb _) (p := ⟨b, 12, none⟩) hBb _), (OK.setB (OK.setB (OK.setB (OK.setB (OK.setB HO2.out 8 _) 9 _) 10 _) 11 _) 12 _)⟩
set_option maxRecDepth 8000 in
set_option maxHeartbeats 4000000 in
theorem stroked_3 (sp p0 p1 p2 p3 sq q0 q1 q2 q3 : Int) (oc : Col) (wd cap jn mt ph : Int) (dv : Value) (ou : Sm) (cv fv : Value) (B b : Nat) (bs : List UInt8) (w : World) (h : WBuf (⟨⟨oc, ⟨sq, q0, q1, q2, q3⟩, wd, cap, jn, mt, dv, ph⟩, ou, cv, fv⟩ : Wm).R B b bs w) (hBw : B ≤ w.heap.size) (he : (⟨sp, p0, p1, p2, p3⟩ : Col) ≠ ⟨sq, q0, q1, q2, q3⟩) (hsp : sp = 3) (hp : Fit p0 ∧ Fit p1 ∧ Fit p2 ∧ Fit p3) (hlim : bs.length + 1000000 ≤ 140737488355328) :
    Calls Tryz.prog 43 #[.pointer (some ⟨b, 0, none⟩), .agg #[.int .i64 sp, .int .i64 p0, .int .i64 p1, .int .i64 p2, .int .i64 p3]] w fun e w' => e = .returned (.tuple #[]) ∧ WBuf (⟨⟨oc, ⟨sp, p0, p1, p2, p3⟩, wd, cap, jn, mt, dv, ph⟩, ou, cv, fv⟩ : Wm).R B b (bs ++ colB [71] [82, 71] [75] ⟨sp, p0, p1, p2, p3⟩) w' ∧ Below B w w' ∧ OK b w w' := by
  have hb := LibA.IsBuffer.lt h
  have hBb := h.1
  have eqC : ∀ W, (Op.equalIn 10000 44 (.agg #[.int .i64 sp, .int .i64 p0, .int .i64 p1, .int .i64 p2, .int .i64 p3]) (.agg #[.int .i64 sq, .int .i64 q0, .int .i64 q1, .int .i64 q2, .int .i64 q3])).run Tryz.prog W = .ok false W := fun W => (eq_colors ⟨sp, p0, p1, p2, p3⟩ ⟨sq, q0, q1, q2, q3⟩ W).trans (by rw [decide_eq_false he])
  have s0 := h.cell 5 (v := .int .i64 sq) rfl
  have s1 := h.cell 6 (v := .int .i64 q0) rfl
  have s2 := h.cell 7 (v := .int .i64 q1) rfl
  have s3 := h.cell 8 (v := .int .i64 q2) rfl
  have s4 := h.cell 9 (v := .int .i64 q3) rfl
  have H := Lib.hid h
  have HP := Lib.hid hp
  have hlen0 : bs.length + 1000000 ≤ 140737488355328 := hlim
  subst hsp
  clear hp hlim
  clear h he
  go_enter Tryz.func43, Tryz.ntmps43
  go_wp2
  go_region
  go_wp2_with (go_at_call 77; ((refine (color_3 _ B b bs p0 p1 p2 p3 [71] [82, 71] [75] _ (H.out.old (by (repeat' (first | (with_reducible first | exact Up.refl _ | assumption | refine Up.alloc ?_ _ | refine Up.drew ?_ | refine Up.drewN ?_ _ | refine Up.setCell ?_ ?_ _ | refine Up.call ?_ (by assumption)) | go_size)))) (by first | (simp; omega) | omega) HP.out (by decide) (by omega)).mono ?_); rintro e w2 ⟨rfl, hI2, hb2, ho2⟩; have HI2 := Lib.hid hI2; have HB2 := Lib.hid (Below.trans ((show Up w _ by (repeat' (first | (with_reducible first | exact Up.refl _ | assumption | refine Up.alloc ?_ _ | refine Up.drew ?_ | refine Up.drewN ?_ _ | refine Up.setCell ?_ ?_ _ | refine Up.call ?_ (by assumption)) | go_size))).mono hBw) hb2); have HO2 := Lib.hid (((OK.refl b w).upc (show Up w _ by (repeat' (first | (with_reducible first | exact Up.refl _ | assumption | refine Up.alloc ?_ _ | refine Up.drew ?_ | refine Up.drewN ?_ _ | refine Up.setCell ?_ ?_ _ | refine Up.call ?_ (by assumption)) | go_size)))).tr ho2); have HX2 := Lib.hid (((Bx.new 44 (by decide) w #[.int .i64 3, .int .i64 p0, .int .i64 p1, .int .i64 p2, .int .i64 p3]).up (show Up (w.alloc _) _ by (repeat' (first | (with_reducible first | exact Up.refl _ | assumption | refine Up.alloc ?_ _ | refine Up.drew ?_ | refine Up.drewN ?_ _ | refine Up.setCell ?_ ?_ _ | refine Up.call ?_ (by assumption)) | go_size)))).kept ho2 (by omega)); have x0 := HX2.out.cell 0 rfl; have x1 := HX2.out.cell 1 rfl; have x2 := HX2.out.cell 2 rfl; have x3 := HX2.out.cell 3 rfl; have x4 := HX2.out.cell 4 rfl; have lx := HX2.out.lt; have y0 := hI2.cell 5 rfl; have y1 := hI2.cell 6 rfl; have y2 := hI2.cell 7 rfl; have y3 := hI2.cell 8 rfl; have y4 := hI2.cell 9 rfl; have g0 := hI2.free 8; have g1 := hI2.free 9; have g2 := hI2.free 10; have g3 := hI2.free 11; have g4 := hI2.free 12; clear hI2 hb2 ho2 s0 s1 s2 s3 s4 eqC))
  go_returns
  exact ⟨rfl, (((((HI2.out.set 5 (by simp [Wm.rest, Sm.cells]) (.int .i64 3)).set 6 (by simp [Wm.rest, Sm.cells]) (.int .i64 p0)).set 7 (by simp [Wm.rest, Sm.cells]) (.int .i64 p1)).set 8 (by simp [Wm.rest, Sm.cells]) (.int .i64 p2)).set 9 (by simp [Wm.rest, Sm.cells]) (.int .i64 p3)), (Below.setCell (Below.setCell (Below.setCell (Below.setCell (Below.setCell HB2.out (p := ⟨b, 8, none⟩) hBb _) (p := ⟨b, 9, none⟩) hBb _) (p := ⟨b, 10, none⟩) hBb _) (p := ⟨b, 11, none⟩) hBb _) (p := ⟨b, 12, none⟩) hBb _), (OK.setB (OK.setB (OK.setB (OK.setB (OK.setB HO2.out 8 _) 9 _) 10 _) 11 _) 12 _)⟩
set_option maxRecDepth 8000 in
set_option maxHeartbeats 4000000 in
theorem stroked_4 (sp p0 p1 p2 p3 sq q0 q1 q2 q3 : Int) (oc : Col) (wd cap jn mt ph : Int) (dv : Value) (ou : Sm) (cv fv : Value) (B b : Nat) (bs : List UInt8) (w : World) (h : WBuf (⟨⟨oc, ⟨sq, q0, q1, q2, q3⟩, wd, cap, jn, mt, dv, ph⟩, ou, cv, fv⟩ : Wm).R B b bs w) (hBw : B ≤ w.heap.size) (he : (⟨sp, p0, p1, p2, p3⟩ : Col) ≠ ⟨sq, q0, q1, q2, q3⟩) (hsp : sp = 4) (hp : Fit p0 ∧ Fit p1 ∧ Fit p2 ∧ Fit p3) (hlim : bs.length + 1000000 ≤ 140737488355328) :
    Calls Tryz.prog 43 #[.pointer (some ⟨b, 0, none⟩), .agg #[.int .i64 sp, .int .i64 p0, .int .i64 p1, .int .i64 p2, .int .i64 p3]] w fun e w' => e = .returned (.tuple #[]) ∧ WBuf (⟨⟨oc, ⟨sp, p0, p1, p2, p3⟩, wd, cap, jn, mt, dv, ph⟩, ou, cv, fv⟩ : Wm).R B b (bs ++ colB [71] [82, 71] [75] ⟨sp, p0, p1, p2, p3⟩) w' ∧ Below B w w' ∧ OK b w w' := by
  have hb := LibA.IsBuffer.lt h
  have hBb := h.1
  have eqC : ∀ W, (Op.equalIn 10000 44 (.agg #[.int .i64 sp, .int .i64 p0, .int .i64 p1, .int .i64 p2, .int .i64 p3]) (.agg #[.int .i64 sq, .int .i64 q0, .int .i64 q1, .int .i64 q2, .int .i64 q3])).run Tryz.prog W = .ok false W := fun W => (eq_colors ⟨sp, p0, p1, p2, p3⟩ ⟨sq, q0, q1, q2, q3⟩ W).trans (by rw [decide_eq_false he])
  have s0 := h.cell 5 (v := .int .i64 sq) rfl
  have s1 := h.cell 6 (v := .int .i64 q0) rfl
  have s2 := h.cell 7 (v := .int .i64 q1) rfl
  have s3 := h.cell 8 (v := .int .i64 q2) rfl
  have s4 := h.cell 9 (v := .int .i64 q3) rfl
  have H := Lib.hid h
  have HP := Lib.hid hp
  have hlen0 : bs.length + 1000000 ≤ 140737488355328 := hlim
  subst hsp
  clear hp hlim
  clear h he
  go_enter Tryz.func43, Tryz.ntmps43
  go_wp2
  go_region
  go_wp2_with (go_at_call 77; ((refine (color_4 _ B b bs p0 p1 p2 p3 [71] [82, 71] [75] _ (H.out.old (by (repeat' (first | (with_reducible first | exact Up.refl _ | assumption | refine Up.alloc ?_ _ | refine Up.drew ?_ | refine Up.drewN ?_ _ | refine Up.setCell ?_ ?_ _ | refine Up.call ?_ (by assumption)) | go_size)))) (by first | (simp; omega) | omega) HP.out (by decide) (by omega)).mono ?_); rintro e w2 ⟨rfl, hI2, hb2, ho2⟩; have HI2 := Lib.hid hI2; have HB2 := Lib.hid (Below.trans ((show Up w _ by (repeat' (first | (with_reducible first | exact Up.refl _ | assumption | refine Up.alloc ?_ _ | refine Up.drew ?_ | refine Up.drewN ?_ _ | refine Up.setCell ?_ ?_ _ | refine Up.call ?_ (by assumption)) | go_size))).mono hBw) hb2); have HO2 := Lib.hid (((OK.refl b w).upc (show Up w _ by (repeat' (first | (with_reducible first | exact Up.refl _ | assumption | refine Up.alloc ?_ _ | refine Up.drew ?_ | refine Up.drewN ?_ _ | refine Up.setCell ?_ ?_ _ | refine Up.call ?_ (by assumption)) | go_size)))).tr ho2); have HX2 := Lib.hid (((Bx.new 44 (by decide) w #[.int .i64 4, .int .i64 p0, .int .i64 p1, .int .i64 p2, .int .i64 p3]).up (show Up (w.alloc _) _ by (repeat' (first | (with_reducible first | exact Up.refl _ | assumption | refine Up.alloc ?_ _ | refine Up.drew ?_ | refine Up.drewN ?_ _ | refine Up.setCell ?_ ?_ _ | refine Up.call ?_ (by assumption)) | go_size)))).kept ho2 (by omega)); have x0 := HX2.out.cell 0 rfl; have x1 := HX2.out.cell 1 rfl; have x2 := HX2.out.cell 2 rfl; have x3 := HX2.out.cell 3 rfl; have x4 := HX2.out.cell 4 rfl; have lx := HX2.out.lt; have y0 := hI2.cell 5 rfl; have y1 := hI2.cell 6 rfl; have y2 := hI2.cell 7 rfl; have y3 := hI2.cell 8 rfl; have y4 := hI2.cell 9 rfl; have g0 := hI2.free 8; have g1 := hI2.free 9; have g2 := hI2.free 10; have g3 := hI2.free 11; have g4 := hI2.free 12; clear hI2 hb2 ho2 s0 s1 s2 s3 s4 eqC))
  go_returns
  exact ⟨rfl, (((((HI2.out.set 5 (by simp [Wm.rest, Sm.cells]) (.int .i64 4)).set 6 (by simp [Wm.rest, Sm.cells]) (.int .i64 p0)).set 7 (by simp [Wm.rest, Sm.cells]) (.int .i64 p1)).set 8 (by simp [Wm.rest, Sm.cells]) (.int .i64 p2)).set 9 (by simp [Wm.rest, Sm.cells]) (.int .i64 p3)), (Below.setCell (Below.setCell (Below.setCell (Below.setCell (Below.setCell HB2.out (p := ⟨b, 8, none⟩) hBb _) (p := ⟨b, 9, none⟩) hBb _) (p := ⟨b, 10, none⟩) hBb _) (p := ⟨b, 11, none⟩) hBb _) (p := ⟨b, 12, none⟩) hBb _), (OK.setB (OK.setB (OK.setB (OK.setB (OK.setB HO2.out 8 _) 9 _) 10 _) 11 _) 12 _)⟩

end Go.Proofs.YtpellcdggaeppaaGreatDoor.Dr
end
