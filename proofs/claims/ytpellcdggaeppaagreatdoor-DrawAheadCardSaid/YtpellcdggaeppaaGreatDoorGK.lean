/- What a page's content is as a plain function, and what sound items are. No program in sight; no condition. Package draw: Content of any page. Its condition: the library's tables lie as they are laid. -/
import Derived.Test.YtpellcdggaeppaaGreatDoorGH
import Derived.Test.YtpellcdggaeppaaGreatDoorGB
section
namespace Go.Proofs.YtpellcdggaeppaaGreatDoor.Dr
open Go.ChangeShapes Go.WideShapes Go.ChangeAt Go.RowKit Go.Shelf
open Go.Proofs.YtpellcdggaeppaaGreatDoor.Pob
open Go.Proofs.YtpellcdggaeppaaGreatDoor.FixM (fits)
open Go.Proofs.YtpellcdggaeppaaGreatDoor.MatM (M6)
open Go.Proofs.YtpellcdggaeppaaGreatDoor.PathM (Seg sound soundFrom soundSeg fitsP)
open Go.Proofs.YtpellcdggaeppaaGreatDoor.Pt (lM itemR itemB colorR clipsR lettersR noneR penR penB m0 clipOk dashOk spaceOk partOk)
set_option linter.unusedVariables false
set_option linter.unusedSimpArgs false

theorem soundSeg_fit {k : Int} {s : Seg} (h : soundSeg k s = true) : SegFit s := by
  unfold soundSeg at h
  simp only [Bool.and_eq_true] at h
  have h2 := h.2.2.1
  simp only [Seg.pts, List.all_cons, List.all_nil, Bool.and_true, Bool.and_eq_true, fitsP, FixM.fits_iff] at h2
  exact ⟨h2.1.1, h2.1.2, h2.2.1.1, h2.2.1.2, h2.2.2.1, h2.2.2.2⟩
theorem soundFrom_fit : ∀ (l : List Seg) (k : Int), soundFrom k l = true → ∀ s ∈ l, SegFit s
  | [], _, _, s, hs => by cases hs
  | x :: l, k, h, s, hs => by
    simp only [soundFrom, Bool.and_eq_true] at h
    rcases List.mem_cons.1 hs with rfl | hs
    · exact soundSeg_fit h.1
    · exact soundFrom_fit l _ h.2 s hs
theorem sound_fit {l : List Seg} (h : sound l = true) : l.length ≤ 4096 ∧ ∀ s ∈ l, SegFit s := by
  simp only [sound, Bool.and_eq_true, decide_eq_true_eq] at h
  exact ⟨h.1, soundFrom_fit l 0 h.2⟩
/-- what is known of a sound item's numbers -/
structure ItF (i : Pt.Item) : Prop where
  pl : i.l.length ≤ 10000
  pf : ∀ s ∈ i.l, SegFit s
  cl : i.cl.length ≤ 1000
  cf : ∀ c ∈ i.cl, c.l.length ≤ 10000 ∧ ∀ s ∈ c.l, SegFit s
  dl : i.ds.length ≤ 1000
  df : ∀ z ∈ i.ds, Fit z
  pen : Fit i.wd ∧ Fit i.cap ∧ Fit i.jn ∧ Fit i.mt ∧ Fit i.ph
  sp : i.sp = 1 ∨ i.sp = 3 ∨ i.sp = 4
  col : Fit i.p0 ∧ Fit i.p1 ∧ Fit i.p2 ∧ Fit i.p3
  fn : 0 ≤ i.fn ∧ i.fn < 14
  m : Fit i.m.a ∧ Fit i.m.b ∧ Fit i.m.c ∧ Fit i.m.d ∧ Fit i.m.x ∧ Fit i.m.y
  bl : i.bs.length ≤ 65535
  k : i.k = 1 ∨ i.k = 2 ∨ i.k = 3 ∨ i.k = 4
theorem fit0 : Fit 0 := ⟨by decide, by decide⟩
theorem none_fit {wd cp jn mt ph : Int} {dl : Nat} (h : noneR wd cp jn mt dl ph = true) : dl = 0 ∧ Fit wd ∧ Fit cp ∧ Fit jn ∧ Fit mt ∧ Fit ph := by
  simp only [noneR, Bool.and_eq_true, beq_iff_eq] at h
  obtain ⟨rfl, rfl, rfl, rfl, h5, rfl⟩ := h
  exact ⟨by omega, fit0, fit0, fit0, fit0, fit0⟩
theorem pen_fit {wd cp jn mt ph : Int} {ds : List Int} (h : penR wd cp jn mt ds ph = true) : ds.length ≤ 11 ∧ (∀ z ∈ ds, Fit z) ∧ Fit wd ∧ Fit cp ∧ Fit jn ∧ Fit mt ∧ Fit ph := by
  simp only [penR, Bool.and_eq_true, Bool.not_eq_true', List.all_eq_true] at h
  obtain ⟨⟨hb, h12⟩, h13⟩ := h
  unfold Pt.penB at hb
  simp only [Bool.or_eq_false_iff, decide_eq_false_iff_not, Bool.not_eq_false', FixM.fits_iff] at hb
  obtain ⟨h1, h2, h3, h4, h5, h6, h7, h8, h9, h10, h11⟩ := hb
  refine ⟨by omega, fun z hz => ?_, h2, ⟨by omega, by omega⟩, ⟨by omega, by omega⟩, h8, h10⟩
  have h14 := h12 z hz
  simp only [dashOk, Bool.and_eq_true, FixM.fits_iff] at h14
  exact h14.2
theorem color_fit {sp p0 p1 p2 p3 : Int} (h : colorR sp p0 p1 p2 p3 = true) : (sp = 1 ∨ sp = 3 ∨ sp = 4) ∧ Fit p0 ∧ Fit p1 ∧ Fit p2 ∧ Fit p3 := by
  simp only [colorR, spaceOk, partOk, Bool.and_eq_true, Bool.or_eq_true, beq_iff_eq, Bool.not_eq_true', decide_eq_false_iff_not] at h
  obtain ⟨h1, ⟨⟨a1, a2⟩, a3⟩, ⟨⟨b1, b2⟩, b3⟩, ⟨⟨c1, c2⟩, c3⟩, ⟨⟨d1, d2⟩, d3⟩⟩ := h
  exact ⟨by omega, ⟨by omega, by omega⟩, ⟨by omega, by omega⟩, ⟨by omega, by omega⟩, ⟨by omega, by omega⟩⟩
theorem clips_fit {l : List Pt.Clip} (h : clipsR l = true) : l.length ≤ 1000 ∧ ∀ c ∈ l, c.l.length ≤ 10000 ∧ ∀ s ∈ c.l, SegFit s := by
  simp only [clipsR, Bool.and_eq_true, decide_eq_true_eq, List.all_eq_true] at h
  refine ⟨by omega, fun c hc => ?_⟩
  have h2 := h.2 c hc
  simp only [clipOk, Bool.and_eq_true] at h2
  have h3 := sound_fit h2.2
  exact ⟨by omega, h3.2⟩
theorem letters_fit {fn : Int} {m : M6} {bl : Nat} (h : lettersR fn m bl = true) : (0 ≤ fn ∧ fn < 14) ∧ bl ≤ 65535 ∧ Fit m.a ∧ Fit m.b ∧ Fit m.c ∧ Fit m.d ∧ Fit m.x ∧ Fit m.y := by
  simp only [lettersR, lM, Bool.and_eq_true, decide_eq_true_eq, Bool.not_eq_true', List.any_eq_false, List.mem_cons, List.not_mem_nil, or_false, Bool.not_eq_true, Bool.not_eq_false'] at h
  obtain ⟨h1, h2, h3, h4⟩ := h
  have f : ∀ z, (z = m.a ∨ z = m.b ∨ z = m.c ∨ z = m.d ∨ z = m.x ∨ z = m.y) → Fit z := fun z hz => FixM.fits_iff.1 (by have := h4 z hz; simpa using this)
  exact ⟨h1, h3, f _ (by simp), f _ (by simp), f _ (by simp), f _ (by simp), f _ (by simp), f _ (by simp)⟩
theorem m0_fit {m : M6} (h : m0 m = true) : Fit m.a ∧ Fit m.b ∧ Fit m.c ∧ Fit m.d ∧ Fit m.x ∧ Fit m.y := by
  unfold m0 at h
  rw [all6_iff] at h
  obtain ⟨h1, h2, h3, h4, h5, h6⟩ := h
  rw [h1, h2, h3, h4, h5, h6]
  exact ⟨fit0, fit0, fit0, fit0, fit0, fit0⟩
theorem itF_of {i : Pt.Item} (h : itemR i = true) : ItF i := by
  unfold itemR itemB at h
  split at h
  rotate_left
  · cases h
  rename_i h1
  rw [Bool.and_eq_true] at h1
  obtain ⟨hc, hk⟩ := h1
  have c1 := color_fit hc
  have c2 := clips_fit hk
  by_cases k4 : i.k = 4
  · rw [if_pos k4, Bool.and_eq_true, Bool.and_eq_true] at h
    obtain ⟨hl, hp, hn⟩ := h
    have l1 := letters_fit hl
    have n1 := none_fit hn
    have p0 : i.l = [] := List.eq_nil_of_length_eq_zero (by simpa using hp)
    have d0 : i.ds = [] := List.eq_nil_of_length_eq_zero n1.1
    exact ⟨by rw [p0]; decide, fun s hs => (by rw [p0] at hs; cases hs), c2.1, c2.2, by rw [d0]; decide, fun z hz => (by rw [d0] at hz; cases hz), n1.2, c1.1, c1.2, l1.1, l1.2.2, l1.2.1, Or.inr (Or.inr (Or.inr k4))⟩
  · rw [if_neg k4] at h
    split at h
    · cases h
    rename_i h2
    simp only [Bool.or_eq_true, not_or, Bool.not_eq_true, Bool.not_eq_true', bne_eq_false_iff_eq, Bool.not_eq_false', decide_eq_false_iff_not, Bool.and_eq_true, Bool.and_eq_false_imp, beq_iff_eq, Bool.not_eq_false] at h2
    obtain ⟨q1, q2, q3, q4, q5⟩ := h2
    have s1 := sound_fit q5
    have m1 := m0_fit q2
    have b0 : i.bs.length = 0 := by omega
    by_cases k12 : i.k = 1 ∨ i.k = 2
    · rw [if_pos k12] at h
      have n1 := none_fit h
      have d0 : i.ds = [] := List.eq_nil_of_length_eq_zero n1.1
      exact ⟨by omega, s1.2, c2.1, c2.2, by rw [d0]; decide, fun z hz => (by rw [d0] at hz; cases hz), n1.2, c1.1, c1.2, by omega, m1, by omega, by omega⟩
    · rw [if_neg k12] at h
      split at h
      · rename_i k3
        have p1 := pen_fit h
        exact ⟨by omega, s1.2, c2.1, c2.2, by omega, p1.2.1, p1.2.2, c1.1, c1.2, by omega, m1, by omega, by omega⟩
      · cases h

/-- a page's content: the stream behind the first items, or it is too long -/
noncomputable def runS : St → List Pt.Dat → Option St
  | x, [] => some x
  | x, d :: l => if 1048576 < (itemS x d).out.length then none else runS (itemS x d) l
noncomputable def endS (x : St) : List UInt8 := x.out ++ (if x.cl = [] then [] else [81, 10])
noncomputable def contS (l : List Pt.Dat) : Option (List UInt8 × List Int) :=
  match runS start l with
  | none => none
  | some x => if 1048576 < (endS x).length then none else some (endS x, x.fs)
theorem itemS_cl (x : St) (d : Pt.Dat) : (itemS x d).cl = d.cl := by
  unfold itemS
  simp only [pathS, penS, textS, strokeS_eq, fillS_eq]
  split
  · rfl
  · split
    · rfl
    · split <;> rfl
theorem itemS_fs (x : St) (d : Pt.Dat) : (itemS x d).fs = if d.k ≠ 3 ∧ d.k = 4 ∧ d.fn ∉ x.fs then x.fs ++ [d.fn] else x.fs := by
  unfold itemS
  simp only [pathS, penS, textS, strokeS_eq, fillS_eq]
  by_cases h3 : d.k = 3
  · have e : (if d.k ≠ 3 ∧ d.k = 4 ∧ d.fn ∉ x.fs then x.fs ++ [d.fn] else x.fs) = x.fs := if_neg (fun h => h.1 h3)
    rw [e, if_pos h3]
    rfl
  · rw [if_neg h3]
    by_cases h4 : d.k = 4
    · rw [if_pos h4]
      show (if d.fn ∈ (boundS x d.cl).fs then (boundS x d.cl).fs else (boundS x d.cl).fs ++ [d.fn]) = _
      have e : (boundS x d.cl).fs = x.fs := rfl
      rw [e]
      by_cases hf : d.fn ∈ x.fs
      · rw [if_pos hf, if_neg (fun h => h.2.2 hf)]
      · rw [if_neg hf, if_pos ⟨h3, h4, hf⟩]
    · have e : (if d.k ≠ 3 ∧ d.k = 4 ∧ d.fn ∉ x.fs then x.fs ++ [d.fn] else x.fs) = x.fs := if_neg (fun h => h4 h.2.1)
      rw [e, if_neg h4]
      by_cases h1 : d.k = 1
      · rw [if_pos h1]; rfl
      · rw [if_neg h1]; rfl
theorem itemS_fsl (x : St) (d : Pt.Dat) : (itemS x d).fs.length ≤ x.fs.length + 1 := by
  rw [itemS_fs]
  split
  · simp
  · omega
end Go.Proofs.YtpellcdggaeppaaGreatDoor.Dr
end

section
namespace Go.Proofs.YtpellcdggaeppaaGreatDoor.Dr
open Go.ChangeShapes Go.WideShapes Go.ChangeAt Go.RowKit Go.Shelf
open Go.Proofs.YtpellcdggaeppaaGreatDoor.Pob
open Go.Proofs.YtpellcdggaeppaaGreatDoor.MatM (M6)
open Go.Proofs.YtpellcdggaeppaaGreatDoor.PathM (Seg)
open Go.Proofs.YtpellcdggaeppaaGreatDoor.Path (SegV)
open Go.Proofs.YtpellcdggaeppaaGreatDoor.Pt (pageR sideR itemR raw_up)
set_option linter.unusedVariables false
set_option linter.unusedSimpArgs false

/-- an item behind its clips -/
noncomputable def itemY (y : St) (d : Pt.Dat) : St :=
  if d.k = 3 then pathS (penS (strokeS y (colOf d)) (penOf d)) d.l [83]
  else
    let z := fillS y (colOf d)
    if d.k = 4 then textS z d else if d.k = 1 then pathS z d.l [102] else pathS z d.l [102, 42]
theorem itemS_Y (x : St) (d : Pt.Dat) : itemS x d = itemY (boundS x d.cl) d := rfl
theorem itemY_outer (y : St) (d : Pt.Dat) (o : SoD) : itemY { y with outer := o } d = { itemY y d with outer := o } := by
  unfold itemY
  simp only [fillS_eq, strokeS_eq]
  by_cases h3 : d.k = 3
  · rw [if_pos h3, if_pos h3]; rfl
  · rw [if_neg h3, if_neg h3]
    by_cases h4 : d.k = 4
    · rw [if_pos h4, if_pos h4]; rfl
    · rw [if_neg h4, if_neg h4]
      by_cases h1 : d.k = 1
      · rw [if_pos h1, if_pos h1]; rfl
      · rw [if_neg h1, if_neg h1]; rfl
theorem itemS_outer (x : St) (d : Pt.Dat) (o : SoD) (h : x.cl = []) : itemS { x with outer := o } d = { itemS x d with outer := if d.cl = [] then o else (itemS x d).outer } := by
  rw [itemS_Y, itemS_Y]
  have hb : ∀ o, ¬ bad { x with outer := o } d.cl := fun o hb => by
    have e : ({ x with outer := o } : St).cl = [] := h
    unfold bad at hb
    rw [e] at hb
    simp at hb
  have e1 : ∀ o, boundS { x with outer := o } d.cl = { boundS x d.cl with outer := if d.cl = [] then o else x.so } := fun o => by
    have hx : ¬ bad x d.cl := hb x.outer
    unfold boundS
    simp only [if_neg (hb o), if_neg hx, h, List.length_nil, List.drop_zero]
    by_cases hd : d.cl = []
    · simp [hd]
    · simp [hd]
  have e2 : (boundS x d.cl) = { boundS x d.cl with outer := if d.cl = [] then x.outer else x.so } := e1 x.outer
  rw [e1 o, itemY_outer]
  by_cases hd : d.cl = []
  · rw [if_pos hd, if_pos hd]
  · rw [if_neg hd, if_neg hd]
    rw [if_neg hd] at e2
    have e3 := itemY_outer (boundS x d.cl) d x.so
    rw [← e2] at e3
    conv => rhs; rw [e3]
theorem runS_outer : ∀ (l : List Pt.Dat) (x : St) (o : SoD), x.cl = [] → (runS { x with outer := o } l).map (fun y => (y.out, y.cl, y.fs)) = (runS x l).map (fun y => (y.out, y.cl, y.fs))
  | [], x, o, h => rfl
  | d :: l, x, o, h => by
    have hc := itemS_cl x d
    have he := itemS_outer x d o h
    have ih := fun hd : d.cl = [] => runS_outer l (itemS x d) o (by rw [hc]; exact hd)
    rw [runS, runS, he]
    generalize itemS x d = y at hc ih ⊢
    by_cases hd : d.cl = []
    · rw [if_pos hd]
      show Option.map _ (if 1048576 < y.out.length then none else runS { y with outer := o } l) = _
      by_cases hb : 1048576 < y.out.length
      · rw [if_pos hb, if_pos hb]
      · rw [if_neg hb, if_neg hb]
        exact ih hd
    · rw [if_neg hd]
/-- a stream at first, whatever is so ahead of the last q -/
def startO (o : SoD) : St := ⟨[], first, o, [], []⟩
noncomputable def contO (o : SoD) (l : List Pt.Dat) : Option (List UInt8 × List Int) :=
  match runS (startO o) l with
  | none => none
  | some x => if 1048576 < (endS x).length then none else some (endS x, x.fs)
theorem contO_eq (o : SoD) (l : List Pt.Dat) : contO o l = contS l := by
  have h := runS_outer l start o rfl
  have e : ({ start with outer := o } : St) = startO o := rfl
  rw [e] at h
  unfold contO contS
  cases h1 : runS (startO o) l with
  | none =>
    cases h2 : runS start l with
    | none => rfl
    | some y => rw [h1, h2] at h; cases h
  | some x =>
    cases h2 : runS start l with
    | none => rw [h1, h2] at h; cases h
    | some y =>
      rw [h1, h2] at h
      simp only [Option.map_some, Option.some.injEq, Prod.mk.injEq] at h
      obtain ⟨q1, q2, q3⟩ := h
      have e2 : endS x = endS y := by unfold endS; rw [q1, q2]
      simp only [e2, q3]
def soZ : SoD := ⟨⟨0, 0, 0, 0, 0⟩, ⟨0, 0, 0, 0, 0⟩, ⟨0, 0, 0, 0, [], 0⟩⟩
/-- a writer made just now -/
def wmZ : Wm := ⟨⟨⟨1, 0, 0, 0, 0⟩, ⟨1, 0, 0, 0, 0⟩, 65536, 0, 0, 655360, .slice none 0 0, 0⟩, ⟨⟨0, 0, 0, 0, 0⟩, ⟨0, 0, 0, 0, 0⟩, 0, 0, 0, 0, .slice none 0 0, 0⟩, .slice none 0 0, .slice none 0 0⟩
def wrC : Array Value := #[.slice none 0 0, .int .i64 0, .int .i8 0, .int .i64 1, .int .i64 0, .int .i64 0, .int .i64 0, .int .i64 0, .int .i64 1, .int .i64 0, .int .i64 0, .int .i64 0, .int .i64 0, .int .i64 65536, .int .i64 0, .int .i64 0, .int .i64 655360, .slice none 0 0, .int .i64 0,
  .int .i64 0, .int .i64 0, .int .i64 0, .int .i64 0, .int .i64 0, .int .i64 0, .int .i64 0, .int .i64 0, .int .i64 0, .int .i64 0, .int .i64 0, .int .i64 0, .int .i64 0, .int .i64 0, .slice none 0 0, .int .i64 0, .slice none 0 0, .slice none 0 0]
theorem wbuf_new (w : World) : WBuf wmZ.R w.heap.size w.heap.size [] (w.alloc (.cells wrC 69)) := by
  refine LibA.zero_isBuffer (Nat.le_refl _) (lr := 0) ⟨_, heap_alloc_new w _, rfl, rfl, rfl, fun i hi => ?_⟩
  obtain ⟨k, rfl⟩ : ∃ k, i = 3 + k := ⟨i - 3, by omega⟩
  have e : wrC = (Value.slice none 0 0 :: Value.int .i64 0 :: Value.int .i8 0 :: wmZ.rest).toArray := rfl
  rw [e]
  show _ = wmZ.rest[3 + k - 3]?
  rw [Nat.add_sub_cancel_left]
  simp only [List.getElem?_toArray]
  rw [show 3 + k = k + 1 + 1 + 1 by omega]
  simp only [List.getElem?_cons_succ]
theorem ints_nil (w : World) : Ints .i64 w (.slice none 0 0) [] := ⟨none, 0, rfl, Nat.le_refl _, by decide, fun _ => ⟨rfl, rfl⟩, fun h => absurd h (by decide), fun z hz => by cases hz⟩
theorem wr_new (w0 w : World) : Wr w0 w.heap.size w.heap.size (startO soZ) (w.alloc (.cells wrC 69)) :=
  ⟨_, _, none, 0, 0, [], .slice none 0 0, wbuf_new w, ⟨rfl, rfl, rfl, rfl, rfl, rfl, rfl, ints_nil _⟩, ⟨rfl, rfl, rfl, rfl, rfl, rfl, rfl, ints_nil _⟩, ClS.nil, rfl, World.ownsRow_nil _ _ _ _, fun g hg => by cases hg⟩
theorem Wr.up {w0 w w1 : World} {B b : Nat} {x : St} (h : Wr w0 B b x w) (hu : Up w w1) : Wr w0 B b x w1 := by
  obtain ⟨so, ou, ca, n, cc, old, fv, h1, h2, h3, h4, h5, h6⟩ := h.mem
  exact ⟨so, ou, ca, n, cc, old, fv, h1.old hu, h2, h3, h4, h5, h6.up hu⟩
theorem Wr.lt {w0 w : World} {B b : Nat} {x : St} (h : Wr w0 B b x w) : b < w.heap.size := by
  obtain ⟨so, ou, ca, n, cc, old, fv, h1, _⟩ := h.mem
  exact LibA.IsBuffer.lt h1
theorem Wr.len {w0 w : World} {B b : Nat} {x : St} (h : Wr w0 B b x w) : Calls Tryz.prog 20 #[.pointer (some ⟨b, 0, none⟩)] w fun e w' => e = .returned (.int .i64 (x.out.length : Nat)) ∧ Up w w' := by
  obtain ⟨so, ou, ca, n, cc, old, fv, h1, _⟩ := h.mem
  exact len_calls _ B b _ w h1
/-- what Content hands back -/
def CRes (w0 : World) (l : List Pt.Dat) (ok : Bool) (w : World) (bv fv : Value) (E : Int) : Prop :=
  if ok = true then
    match contS l with
    | none => bv = .slice none 0 0 ∧ fv = .slice none 0 0 ∧ E = 25
    | some (o, fs) => E = 0 ∧ w.ownsRow w0.heap.size 5 1 bv o.length (Lib.byteCells o) ∧ w.ownsRow w0.heap.size 3 1 fv fs.length ((srt fs).map (Value.int .i64))
  else bv = .slice none 0 0 ∧ fv = .slice none 0 0 ∧ E = 22
theorem runS_step {x : St} {l : List Pt.Dat} {i : Nat} {d : Pt.Dat} (h : l[i]? = some d) : runS x (l.drop i) = if 1048576 < (itemS x d).out.length then none else runS (itemS x d) (l.drop (i + 1)) := by
  have e : l.drop i = d :: l.drop (i + 1) := by
    obtain ⟨hi, he⟩ := List.getElem?_eq_some_iff.1 h
    rw [List.drop_eq_getElem_cons hi, he]
  rw [e, runS]
theorem owns_le {w : World} {base base' size n : Nat} {e : TypeId} {v : Value} {xs : List Value} (h : w.ownsRow base e size v n xs) (hb : base' ≤ base) : w.ownsRow base' e size v n xs :=
  ⟨h.1, h.2.imp id (fun ⟨g, cap, cur, e1, e2, r⟩ => ⟨g, cap, cur, e1, Nat.le_trans hb e2, r⟩)⟩

set_option maxRecDepth 8000 in
set_option maxHeartbeats 4000000 in
theorem content_bad (W H : Int) (its : List Pt.Item) (a : Option Addr) (n c : Nat) (w : World) (h : Sl 22 Pt.Item.cells w a n c its) (hs : ∀ i ∈ its, i.is w) (hT : Font.Tab w) (hr : pageR W H its = false) :
    Calls Tryz.prog 10 #[.agg #[.int .i64 W, .int .i64 H, .slice a n c]] w fun e w' => e = .returned (.tuple #[.slice none 0 0, .slice none 0 0, .int .i64 22]) ∧ Up w w' := by
  have HS := Lib.hid h
  have HI := Lib.hid hs
  have HT := Lib.hid hT
  clear h hs hT
  go_enter Tryz.func10, Tryz.ntmps10
  go_wp2_with (go_at_call 17; ((refine Calls.mono (Pt.sound_calls W H its a n c _ (Pt.sl_up HS.out ?_) (fun i hi => (HI.out i hi).up ?_) (HT.out.up ?_)) ?_); (focus ((repeat' (first | (with_reducible first | exact Up.refl _ | assumption | refine Up.alloc ?_ _ | refine Up.drew ?_ | refine Up.drewN ?_ _ | refine Up.setCell ?_ ?_ _ | refine Up.call ?_ (by assumption)) | go_size)))); (focus ((repeat' (first | (with_reducible first | exact Up.refl _ | assumption | refine Up.alloc ?_ _ | refine Up.drew ?_ | refine Up.drewN ?_ _ | refine Up.setCell ?_ ?_ _ | refine Up.call ?_ (by assumption)) | go_size)))); (focus ((repeat' (first | (with_reducible first | exact Up.refl _ | assumption | refine Up.alloc ?_ _ | refine Up.drew ?_ | refine Up.drewN ?_ _ | refine Up.setCell ?_ ?_ _ | refine Up.call ?_ (by assumption)) | go_size)))); rw [hr]; rintro e w1 ⟨rfl, hu1⟩))
  go_returns
  exact ⟨rfl, by (repeat' (first | (with_reducible first | exact Up.refl _ | assumption | refine Up.alloc ?_ _ | refine Up.drew ?_ | refine Up.drewN ?_ _ | refine Up.setCell ?_ ?_ _ | refine Up.call ?_ (by assumption)) | go_size))⟩

set_option maxRecDepth 8000 in
set_option maxHeartbeats 16000000 in
theorem content_ok (W H : Int) (its : List Pt.Item) (a : Option Addr) (n c : Nat) (w : World) (h : Sl 22 Pt.Item.cells w a n c its) (hs : ∀ i ∈ its, i.is w) (hT : Font.Tab w) (hP : PTab w) (hr : pageR W H its = true) :
    Calls Tryz.prog 10 #[.agg #[.int .i64 W, .int .i64 H, .slice a n c]] w fun e w' => ∃ bv fv E, e = .returned (.tuple #[bv, fv, .int .i64 E]) ∧ Hid (CRes w (its.map Pt.Item.dat) true w' bv fv E) ∧ Up w w' := by
  have hall : n ≤ 4096 ∧ ∀ i ∈ its, ItF i := by
    have h2 := hr
    simp only [pageR, Bool.and_eq_true, decide_eq_true_eq, List.all_eq_true] at h2
    exact ⟨by rw [← h.2.2.1]; exact h2.2.2.1, fun i hi => itF_of (h2.2.2.2 i hi)⟩
  obtain ⟨hn9, hIF⟩ := hall
  have HIF := Lib.hid hIF
  have HS := Lib.hid h
  have HN := Lib.hid h.2.2.1
  have HI := Lib.hid hs
  have HT := Lib.hid hT
  have HP := Lib.hid hP
  obtain ⟨DS, hDS⟩ : ∃ DS, its.map Pt.Item.dat = DS := ⟨_, rfl⟩
  rw [hDS]
  have HDS := Lib.hid hDS
  clear h hs hT hP hIF hDS
  go_enter Tryz.func10, Tryz.ntmps10
  go_upto_region 4 with (first
    | (go_at_call 17; ((refine Calls.mono (Pt.sound_calls W H its a n c _ (Pt.sl_up HS.out ?_) (fun i hi => (HI.out i hi).up ?_) (HT.out.up ?_)) ?_); (focus ((repeat' (first | (with_reducible first | exact Up.refl _ | assumption | refine Up.alloc ?_ _ | refine Up.drew ?_ | refine Up.drewN ?_ _ | refine Up.setCell ?_ ?_ _ | refine Up.call ?_ (by assumption)) | go_size)))); (focus ((repeat' (first | (with_reducible first | exact Up.refl _ | assumption | refine Up.alloc ?_ _ | refine Up.drew ?_ | refine Up.drewN ?_ _ | refine Up.setCell ?_ ?_ _ | refine Up.call ?_ (by assumption)) | go_size)))); (focus ((repeat' (first | (with_reducible first | exact Up.refl _ | assumption | refine Up.alloc ?_ _ | refine Up.drew ?_ | refine Up.drewN ?_ _ | refine Up.setCell ?_ ?_ _ | refine Up.call ?_ (by assumption)) | go_size)))); rw [hr]; rintro e w1 ⟨rfl, hu1⟩; have z1 := hu1.size; (try simp at z1); have HX1 := Lib.hid ((Bx.new 24 (by decide) w #[.int .i64 W, .int .i64 H, .slice a n c]).up hu1); have HU1 := Lib.hid (show Up w w1 by (repeat' (first | (with_reducible first | exact Up.refl _ | assumption | refine Up.alloc ?_ _ | refine Up.drew ?_ | refine Up.drewN ?_ _ | refine Up.setCell ?_ ?_ _ | refine Up.call ?_ (by assumption)) | go_size)))))
    | (go_at_call 18; ((refine (start_calls _).mono ?_); rintro e w2 ⟨rfl, hu2⟩; have z2 := hu2.size; have HX2 := Lib.hid (HX1.out.up hu2); have HU2 := Lib.hid (HU1.out.call hu2))))
  have HW3 := Lib.hid (show Wr w w2.heap.size w2.heap.size (startO soZ) (w2.alloc (.cells wrC 69)) from wr_new w w2)
  have HU3 := Lib.hid (HU2.out.call (show Up w2 (w2.alloc (.cells wrC 69)) by (repeat' (first | (with_reducible first | exact Up.refl _ | assumption | refine Up.alloc ?_ _ | refine Up.drew ?_ | refine Up.drewN ?_ _ | refine Up.setCell ?_ ?_ _ | refine Up.call ?_ (by assumption)) | go_size))))
  have HX3 := Lib.hid (HX2.out.up (show Up w2 (w2.alloc (.cells wrC 69)) by (repeat' (first | (with_reducible first | exact Up.refl _ | assumption | refine Up.alloc ?_ _ | refine Up.drew ?_ | refine Up.drewN ?_ _ | refine Up.setCell ?_ ?_ _ | refine Up.call ?_ (by assumption)) | go_size))))
  have hz3 : (w2.alloc (.cells wrC 69)).heap.size = w2.heap.size + 1 := by simp
  change Code.wp _ _ _ _ (w2.alloc (.cells wrC 69))
  generalize hW3 : (w2.alloc (.cells wrC 69)) = w3 at HW3 HU3 HX3 hz3 ⊢
  clear hW3
  have hx3 := HX3.out.cell 2 rfl
  have lx3 := HX3.out.lt
  have hz2 : w.heap.size ≤ w2.heap.size := HU2.out.size
  obtain ⟨b, hb⟩ : ∃ b, w2.heap.size = b := ⟨_, rfl⟩
  rw [hb] at HW3 hz3 hz2 ⊢
  clear hb
  go_wp2
  go_loopw [17] (fun s17 wr => ∃ i : Nat, i ≤ n ∧ s17 = .int .i64 i ∧ ∃ x : St, Hid (runS (startO soZ) DS = runS x (DS.drop i) ∧ Wr w b b x wr ∧ Below b w3 wr ∧ x.out.length ≤ 1048576 ∧ x.cl.length ≤ 1000 ∧ x.fs.length ≤ i)) (fun s17 _ => n - (intOf s17).toNat)
  case atStart => exact ⟨0, Nat.zero_le _, rfl, startO soZ, Lib.hid ⟨by simp, HW3.out, Below.refl _ _, by decide, by decide, Nat.le_refl _⟩⟩
  case round =>
    obtain ⟨i, hi, rfl, x, HR⟩ := hrel
    clear hx3 lx3
    have zr := HR.out.2.2.1.size
    have lbr := HR.out.2.1.lt
    have HUR := Lib.hid (up_below HU3.out HR.out.2.2.1 hz2)
    have zw := HUR.out.size
    by_cases hlt : i < n
    · have dlt : decide (i < n) = true := decide_eq_true hlt
      obtain ⟨it, hx⟩ : ∃ x, its[i]? = some x := ⟨_, List.getElem?_eq_getElem (by have := HN.out; omega)⟩
      obtain ⟨g, o, ha, hg, hc⟩ := HS.out.2.2.2.2 (by omega)
      subst ha
      have his := HI.out _ (List.mem_of_getElem? hx)
      have hif := HIF.out _ (List.mem_of_getElem? hx)
      have hDi : DS[i]? = some it.dat := by rw [← HDS.out, List.getElem?_map, hx]; rfl
      have hst := runS_step (x := x) hDi
      have hcj := fun q u hq => hc i it q u hx hq
      obtain ⟨k, pv, l, sp, p0, p1, p2, p3, cv, cs, wd, cap, jn, mt, dv, ds, ph, fn, m, bv, zs⟩ := it
      obtain ⟨pa, pl, pc, ca, cl, cc, da, dl, dc, ba, bl, bc, e1, e2, e3, e4, hLs⟩ := Pt.item_lists his
      simp only at e1 e2 e3 e4
      subst e1 e2 e3 e4
      have HRG := Lib.hid (show w.rangeAt g (o + i * 22) [.int .i64 k, .slice pa pl pc, .int .i64 sp, .int .i64 p0, .int .i64 p1, .int .i64 p2, .int .i64 p3, .slice ca cl cc, .int .i64 wd, .int .i64 cap, .int .i64 jn, .int .i64 mt, .slice da dl dc, .int .i64 ph, .int .i64 fn, .int .i64 m.a, .int .i64 m.b, .int .i64 m.c, .int .i64 m.d, .int .i64 m.x, .int .i64 m.y, .slice ba bl bc] from fun q u hq => hcj q u hq)
      obtain ⟨y, hy⟩ : ∃ y, itemS x (Pt.Item.dat ⟨k, .slice pa pl pc, l, sp, p0, p1, p2, p3, .slice ca cl cc, cs, wd, cap, jn, mt, .slice da dl dc, ds, ph, fn, m, .slice ba bl bc, zs⟩) = y := ⟨_, rfl⟩
      rw [hy] at hst
      have HST := Lib.hid hst
      have HITM := Lib.hid (fun (W : World) (hW : Wr w b b x W) (hBw : b ≤ W.heap.size) (hu : Up w W) => show Calls _ _ _ W (fun e w' => e = .returned (.tuple #[]) ∧ Wr w b b y w' ∧ Below b W w') from hy ▸ item_any k pa pl pc sp p0 p1 p2 p3 ca cl cc wd cap jn mt da dl dc ph fn m ba bl bc l cs ds zs x b b w W hW hBw hLs.pv hLs.pn (by rw [← hLs.pn]; exact hif.pl) hif.pf ⟨ca, cl, cc, rfl, hLs.sl, hLs.sv⟩ hif.cf (by rw [← hLs.sl.2.2.1]; exact hif.cl) hLs.dv hLs.dn (by rw [← hLs.dn]; exact hif.dl) hif.df hif.pen hif.sp hif.col ⟨by have := hif.fn; simp only at this; omega, by have := hif.fn; simp only at this; omega⟩ hif.m his.2.2.2 hif.bl HR.out.2.2.2.2.1 (by have := HR.out.2.2.2.2.2; omega) hz2 hu HP.out (by have := HR.out.2.2.2.1; omega))
      have HCL := Lib.hid (show y.cl.length ≤ 1000 by rw [← hy, itemS_cl]; show (cs.map _).length ≤ 1000; rw [List.length_map]; exact hif.cl)
      have HFL := Lib.hid (show y.fs.length ≤ i + 1 by rw [← hy]; have := itemS_fsl x (Pt.Item.dat ⟨k, .slice pa pl pc, l, sp, p0, p1, p2, p3, .slice ca cl cc, cs, wd, cap, jn, mt, .slice da dl dc, ds, ph, fn, m, .slice ba bl bc, zs⟩); have := HR.out.2.2.2.2.2; omega)
      obtain ⟨N, hN⟩ : ∃ N, y.out.length = N := ⟨_, rfl⟩
      have HLEN := Lib.hid (fun (W : World) (hW : Wr w b b y W) => show Calls _ _ _ W (fun e w' => e = .returned (.int .i64 (N : Nat)) ∧ Up W w') from hN ▸ hW.len)
      rw [hN] at HST
      have HNN := Lib.hid hN
      have lg : g < wr.heap.size := Nat.lt_of_lt_of_le hg zw
      obtain ⟨C, hC⟩ : ∃ C : List Value, ([.int .i64 k, .slice pa pl pc, .int .i64 sp, .int .i64 p0, .int .i64 p1, .int .i64 p2, .int .i64 p3, .slice ca cl cc, .int .i64 wd, .int .i64 cap, .int .i64 jn, .int .i64 mt, .slice da dl dc, .int .i64 ph, .int .i64 fn, .int .i64 m.a, .int .i64 m.b, .int .i64 m.c, .int .i64 m.d, .int .i64 m.x, .int .i64 m.y, .slice ba bl bc] : List Value) = C := ⟨_, rfl⟩
      have hC22 : C.length = 22 := by rw [← hC]; rfl
      have hCs : C.toArray.size = 22 := by rw [List.size_toArray]; exact hC22
      have hC1 : C.toArray.all (·.oneCell') = true := by rw [← hC]; simp [Value.oneCell']
      rw [hC] at HITM HRG
      have HINF := Lib.hid (show (Tryz.prog.info? 50).map (·.size) = some C.length by rw [hC22]; exact infoItem)
      clear hc hcj hx his hif hDi hst hy hLs hN hC hC22
      by_cases hbig : 1048576 < N
      · have db : decide ((1048576 : Int) < (N : Int)) = true := decide_eq_true (by omega)
        have HC := Lib.hid (show contS DS = none by
          rw [← contO_eq soZ]; unfold contO; rw [HR.out.1, HST.out, if_pos hbig])
        clear hbig
        go_wp2_with (first
          | ((refine at_op (.load 50 (.tmp 19)) rfl ?_); (refine wpList_load_mid rfl 50 (.tmp 19) rfl g (o + i * 22) (by first | rfl | simp) C _ (fun q u hq => (HUR.out.cells.1 g (o + i * 22 + q) hg).trans (HRG.out q u hq)) Tryz.underlying50 rfl HINF.out ?_))
          | ((refine at_op (.store 50 (.tmp 7) (.tmp 20)) rfl ?_); (refine wpList_store_Row rfl 50 (.tmp 7) (.tmp 20) rfl wr.heap.size C.toArray rfl rfl #[.int .i64 0, .slice none 0 0, .int .i64 0, .int .i64 0, .int .i64 0, .int .i64 0, .int .i64 0, .slice none 0 0, .int .i64 0, .int .i64 0, .int .i64 0, .int .i64 0, .slice none 0 0, .int .i64 0, .int .i64 0, .int .i64 0, .int .i64 0, .int .i64 0, .int .i64 0, .int .i64 0, .int .i64 0, .slice none 0 0] (by (repeat' (with_reducible first | assumption | (refine Row.at _ _ ?_; (simp; done)) | refine Row.alloc ?_ _ | refine Row.drew ?_ | refine Row.drewN ?_ _ | refine Row.other ?_ (by first | (simp; done) | (simp; omega) | omega) _ | refine Row.up ?_ (by assumption) | refine Row.chg ?_ (by assumption) (by first | (simp; done) | (simp; omega))))) infoItem hCs rfl hC1 ?_); intro w4 hr4 hc4; have HR4 := Lib.hid hr4; have hu4 : Up wr w4 := ((Chg.of_up (S := []) (show Up wr _ by (repeat' (first | (with_reducible first | exact Up.refl _ | assumption | refine Up.alloc ?_ _ | refine Up.drew ?_ | refine Up.drewN ?_ _ | refine Up.setCell ?_ ?_ _ | refine Up.call ?_ (by assumption)) | go_size)))).call hc4 (fun k hk => Or.inr (by simp at hk; omega))).up; have z4 := hu4.size; have lr4 := hr4.lt; clear hr4 hc4)
          | ((refine at_op (.load 50 (.tmp 7)) rfl ?_); (refine wpList_load_mid rfl 50 (.tmp 7) rfl wr.heap.size 0 rfl C _ (fun q u hq => by rw [Nat.zero_add]; exact HR4.out.cell q (by simpa using hq)) Tryz.underlying50 rfl HINF.out ?_))
          | (go_at_call 19; ((refine Calls.mono (HITM.out _ (HR.out.2.1.up ?_) ?_ ?_) ?_); (focus ((repeat' (first | (with_reducible first | exact Up.refl _ | assumption | refine Up.alloc ?_ _ | refine Up.drew ?_ | refine Up.drewN ?_ _ | refine Up.setCell ?_ ?_ _ | refine Up.call ?_ (by assumption)) | go_size)))); (focus (first | omega | (simp; omega))); (focus (exact HUR.out.call (by (repeat' (first | (with_reducible first | exact Up.refl _ | assumption | refine Up.alloc ?_ _ | refine Up.drew ?_ | refine Up.drewN ?_ _ | refine Up.setCell ?_ ?_ _ | refine Up.call ?_ (by assumption)) | go_size))))); rintro e w5 ⟨rfl, hw5, hb5⟩; have HW5 := Lib.hid hw5; have HB5 := Lib.hid (HR.out.2.2.1.trans (Below.trans ((show Up wr _ by (repeat' (first | (with_reducible first | exact Up.refl _ | assumption | refine Up.alloc ?_ _ | refine Up.drew ?_ | refine Up.drewN ?_ _ | refine Up.setCell ?_ ?_ _ | refine Up.call ?_ (by assumption)) | go_size))).mono (by omega)) hb5)); have z5 := HB5.out.size; clear hw5 hb5))
          | (go_at_call 20; ((refine Calls.mono (HLEN.out _ HW5.out) ?_); rintro e w6 ⟨rfl, hu6⟩; have z6 := hu6.size)))
        go_returns
        exact ⟨_, _, _, rfl, Lib.hid (by unfold CRes; rw [if_pos rfl, HC.out]; exact ⟨rfl, rfl, rfl⟩), (up_below HU3.out HB5.out hz2).call (by (repeat' (first | (with_reducible first | exact Up.refl _ | assumption | refine Up.alloc ?_ _ | refine Up.drew ?_ | refine Up.drewN ?_ _ | refine Up.setCell ?_ ?_ _ | refine Up.call ?_ (by assumption)) | go_size)))⟩
      · have db : decide ((1048576 : Int) < (N : Int)) = false := decide_eq_false (by omega)
        have HC := Lib.hid hbig
        clear hbig
        go_wp2_with (first
          | ((refine at_op (.load 50 (.tmp 19)) rfl ?_); (refine wpList_load_mid rfl 50 (.tmp 19) rfl g (o + i * 22) (by first | rfl | simp) C _ (fun q u hq => (HUR.out.cells.1 g (o + i * 22 + q) hg).trans (HRG.out q u hq)) Tryz.underlying50 rfl HINF.out ?_))
          | ((refine at_op (.store 50 (.tmp 7) (.tmp 20)) rfl ?_); (refine wpList_store_Row rfl 50 (.tmp 7) (.tmp 20) rfl wr.heap.size C.toArray rfl rfl #[.int .i64 0, .slice none 0 0, .int .i64 0, .int .i64 0, .int .i64 0, .int .i64 0, .int .i64 0, .slice none 0 0, .int .i64 0, .int .i64 0, .int .i64 0, .int .i64 0, .slice none 0 0, .int .i64 0, .int .i64 0, .int .i64 0, .int .i64 0, .int .i64 0, .int .i64 0, .int .i64 0, .int .i64 0, .slice none 0 0] (by (repeat' (with_reducible first | assumption | (refine Row.at _ _ ?_; (simp; done)) | refine Row.alloc ?_ _ | refine Row.drew ?_ | refine Row.drewN ?_ _ | refine Row.other ?_ (by first | (simp; done) | (simp; omega) | omega) _ | refine Row.up ?_ (by assumption) | refine Row.chg ?_ (by assumption) (by first | (simp; done) | (simp; omega))))) infoItem hCs rfl hC1 ?_); intro w4 hr4 hc4; have HR4 := Lib.hid hr4; have hu4 : Up wr w4 := ((Chg.of_up (S := []) (show Up wr _ by (repeat' (first | (with_reducible first | exact Up.refl _ | assumption | refine Up.alloc ?_ _ | refine Up.drew ?_ | refine Up.drewN ?_ _ | refine Up.setCell ?_ ?_ _ | refine Up.call ?_ (by assumption)) | go_size)))).call hc4 (fun k hk => Or.inr (by simp at hk; omega))).up; have z4 := hu4.size; have lr4 := hr4.lt; clear hr4 hc4)
          | ((refine at_op (.load 50 (.tmp 7)) rfl ?_); (refine wpList_load_mid rfl 50 (.tmp 7) rfl wr.heap.size 0 rfl C _ (fun q u hq => by rw [Nat.zero_add]; exact HR4.out.cell q (by simpa using hq)) Tryz.underlying50 rfl HINF.out ?_))
          | (go_at_call 19; ((refine Calls.mono (HITM.out _ (HR.out.2.1.up ?_) ?_ ?_) ?_); (focus ((repeat' (first | (with_reducible first | exact Up.refl _ | assumption | refine Up.alloc ?_ _ | refine Up.drew ?_ | refine Up.drewN ?_ _ | refine Up.setCell ?_ ?_ _ | refine Up.call ?_ (by assumption)) | go_size)))); (focus (first | omega | (simp; omega))); (focus (exact HUR.out.call (by (repeat' (first | (with_reducible first | exact Up.refl _ | assumption | refine Up.alloc ?_ _ | refine Up.drew ?_ | refine Up.drewN ?_ _ | refine Up.setCell ?_ ?_ _ | refine Up.call ?_ (by assumption)) | go_size))))); rintro e w5 ⟨rfl, hw5, hb5⟩; have HW5 := Lib.hid hw5; have HB5 := Lib.hid (HR.out.2.2.1.trans (Below.trans ((show Up wr _ by (repeat' (first | (with_reducible first | exact Up.refl _ | assumption | refine Up.alloc ?_ _ | refine Up.drew ?_ | refine Up.drewN ?_ _ | refine Up.setCell ?_ ?_ _ | refine Up.call ?_ (by assumption)) | go_size))).mono (by omega)) hb5)); have z5 := HB5.out.size; clear hw5 hb5))
          | (go_at_call 20; ((refine Calls.mono (HLEN.out _ HW5.out) ?_); rintro e w6 ⟨rfl, hu6⟩; have z6 := hu6.size)))
        go_roundw
        case measure => simp [intOf]; omega
        case rel => exact ⟨i + 1, by omega, by go_num, y, Lib.hid ⟨by rw [HR.out.1, HST.out, if_neg HC.out], HW5.out.up hu6, HB5.out.trans (hu6.mono (by omega)), by have := HC.out; have := HNN.out; omega, HCL.out, HFL.out⟩⟩
    · have dlt : decide (i < n) = false := decide_eq_false hlt
      obtain rfl : n = i := by omega
      have HXX := Lib.hid (show runS (startO soZ) DS = some x by
        rw [HR.out.1, List.drop_eq_nil_of_le (by rw [← HDS.out, List.length_map]; have := HN.out; omega)]
        rfl)
      obtain ⟨so, ou, oa, m, oc, old, fv, hI, hso, hou, hcs, hcl, hF⟩ := HR.out.2.1.mem
      have hm : m = x.cl.length := by rw [← hcl, List.length_map, hcs.1]
      have HI0 := Lib.hid hI
      have HF0 := Lib.hid hF
      have c32 := HI0.out.cell 32 (v := .slice oa m oc) rfl
      have HXL := Lib.hid (show x.fs.length ≤ 10000 by have := HR.out.2.2.2.2.2; omega)
      have HOL := Lib.hid HR.out.2.2.2.1
      have HB0 := Lib.hid HR.out.2.2.1
      have HMM := Lib.hid hm
      have hmi : m ≤ 1000 := by rw [hm]; exact HR.out.2.2.2.2.1
      clear hI hso hou hcs hcl hF hm
      obtain ⟨N, hN⟩ : ∃ N, (endS x).length = N := ⟨_, rfl⟩
      have HNN := Lib.hid hN
      have HLQ := Lib.hid (fun (R : Nat → Option Value) (W : World) (hW : WBuf R b b (endS x) W) => show Calls Tryz.prog 20 #[.pointer (some ⟨b, 0, none⟩)] W (fun e w' => e = .returned (.int .i64 (N : Nat)) ∧ Up W w') by rw [← hN]; exact len_calls R b b (endS x) W hW)
      clear hN
      by_cases hm0 : 0 < m
      · have dm : decide (0 < m) = true := decide_eq_true hm0
        have HE := Lib.hid (show endS x = x.out ++ [81, 10] by unfold endS; rw [if_neg (fun e => by have := HMM.out; rw [e] at this; simp at this; omega)])
        by_cases hbig : 1048576 < N
        · have db : decide ((1048576 : Int) < (N : Int)) = true := decide_eq_true (by omega)
          have HC := Lib.hid (show contS DS = none by
            rw [← contO_eq soZ]; unfold contO; rw [HXX.out]; show (if 1048576 < (endS x).length then none else some (endS x, x.fs)) = none; rw [HNN.out, if_pos hbig])
          clear hbig
          go_wp2_with (first
          | (go_at_call 21; ((refine Calls.mono (line_calls _ b b x.out [81] none 0 0 [] _ (HI0.out.old ?_) ?_ (irow_none _ _) (fun z hz => by cases hz) (by decide) ?_) ?_); (focus ((repeat' (first | (with_reducible first | exact Up.refl _ | assumption | refine Up.alloc ?_ _ | refine Up.drew ?_ | refine Up.drewN ?_ _ | refine Up.setCell ?_ ?_ _ | refine Up.call ?_ (by assumption)) | go_size)))); (focus (first | omega | (simp; omega))); (focus (have := HOL.out; omega)); rintro e w5 ⟨rfl, hI, hb2, ho⟩; have ho2 := ((OK.refl b wr).upc (show Up wr _ by (repeat' (first | (with_reducible first | exact Up.refl _ | assumption | refine Up.alloc ?_ _ | refine Up.drew ?_ | refine Up.drewN ?_ _ | refine Up.setCell ?_ ?_ _ | refine Up.call ?_ (by assumption)) | go_size)))).tr ho; have HI5 := Lib.hid (show WBuf _ b b (endS x) w5 by rw [HE.out]; exact hI); have HB5 := Lib.hid (HB0.out.trans (Below.trans ((show Up wr _ by (repeat' (first | (with_reducible first | exact Up.refl _ | assumption | refine Up.alloc ?_ _ | refine Up.drew ?_ | refine Up.drewN ?_ _ | refine Up.setCell ?_ ?_ _ | refine Up.call ?_ (by assumption)) | go_size))).mono (by omega)) hb2)); have HF5 := Lib.hid (HF0.out.kept ho2); have z5 := HB5.out.size; have lb5 := LibA.IsBuffer.lt HI5.out; clear hI hb2 ho ho2))
          | (go_at_call 20; ((refine Calls.mono (HLQ.out _ _ (HI5.out.old ?_)) ?_); (focus ((repeat' (first | (with_reducible first | exact Up.refl _ | assumption | refine Up.alloc ?_ _ | refine Up.drew ?_ | refine Up.drewN ?_ _ | refine Up.setCell ?_ ?_ _ | refine Up.call ?_ (by assumption)) | go_size)))); rintro e w6 ⟨rfl, hu6⟩; have z6 := hu6.size; have HU6 := Lib.hid (show Up w5 w6 by (repeat' (first | (with_reducible first | exact Up.refl _ | assumption | refine Up.alloc ?_ _ | refine Up.drew ?_ | refine Up.drewN ?_ _ | refine Up.setCell ?_ ?_ _ | refine Up.call ?_ (by assumption)) | go_size))); have HI6 := Lib.hid (HI5.out.old HU6.out); have HB6 := Lib.hid (HB5.out.trans (HU6.out.mono (by omega))); have HF6 := Lib.hid (HF5.out.up HU6.out); have y6 := HI6.out.cell 33 (v := fv) rfl; have lb6 := LibA.IsBuffer.lt HI6.out)))
          go_returns
          exact ⟨_, _, _, rfl, Lib.hid (by unfold CRes; rw [if_pos rfl, HC.out]; exact ⟨rfl, rfl, rfl⟩), (up_below HU3.out HB6.out hz2).call (by (repeat' (first | (with_reducible first | exact Up.refl _ | assumption | refine Up.alloc ?_ _ | refine Up.drew ?_ | refine Up.drewN ?_ _ | refine Up.setCell ?_ ?_ _ | refine Up.call ?_ (by assumption)) | go_size)))⟩
        · have db : decide ((1048576 : Int) < (N : Int)) = false := decide_eq_false (by omega)
          have HC := Lib.hid (show contS DS = some (endS x, x.fs) by
            rw [← contO_eq soZ]; unfold contO; rw [HXX.out]; show (if 1048576 < (endS x).length then none else some (endS x, x.fs)) = _; rw [HNN.out, if_neg hbig])
          clear hbig
          go_wp2_with (first
          | (go_at_call 21; ((refine Calls.mono (line_calls _ b b x.out [81] none 0 0 [] _ (HI0.out.old ?_) ?_ (irow_none _ _) (fun z hz => by cases hz) (by decide) ?_) ?_); (focus ((repeat' (first | (with_reducible first | exact Up.refl _ | assumption | refine Up.alloc ?_ _ | refine Up.drew ?_ | refine Up.drewN ?_ _ | refine Up.setCell ?_ ?_ _ | refine Up.call ?_ (by assumption)) | go_size)))); (focus (first | omega | (simp; omega))); (focus (have := HOL.out; omega)); rintro e w5 ⟨rfl, hI, hb2, ho⟩; have ho2 := ((OK.refl b wr).upc (show Up wr _ by (repeat' (first | (with_reducible first | exact Up.refl _ | assumption | refine Up.alloc ?_ _ | refine Up.drew ?_ | refine Up.drewN ?_ _ | refine Up.setCell ?_ ?_ _ | refine Up.call ?_ (by assumption)) | go_size)))).tr ho; have HI5 := Lib.hid (show WBuf _ b b (endS x) w5 by rw [HE.out]; exact hI); have HB5 := Lib.hid (HB0.out.trans (Below.trans ((show Up wr _ by (repeat' (first | (with_reducible first | exact Up.refl _ | assumption | refine Up.alloc ?_ _ | refine Up.drew ?_ | refine Up.drewN ?_ _ | refine Up.setCell ?_ ?_ _ | refine Up.call ?_ (by assumption)) | go_size))).mono (by omega)) hb2)); have HF5 := Lib.hid (HF0.out.kept ho2); have z5 := HB5.out.size; have lb5 := LibA.IsBuffer.lt HI5.out; clear hI hb2 ho ho2))
          | (go_at_call 20; ((refine Calls.mono (HLQ.out _ _ (HI5.out.old ?_)) ?_); (focus ((repeat' (first | (with_reducible first | exact Up.refl _ | assumption | refine Up.alloc ?_ _ | refine Up.drew ?_ | refine Up.drewN ?_ _ | refine Up.setCell ?_ ?_ _ | refine Up.call ?_ (by assumption)) | go_size)))); rintro e w6 ⟨rfl, hu6⟩; have z6 := hu6.size; have HU6 := Lib.hid (show Up w5 w6 by (repeat' (first | (with_reducible first | exact Up.refl _ | assumption | refine Up.alloc ?_ _ | refine Up.drew ?_ | refine Up.drewN ?_ _ | refine Up.setCell ?_ ?_ _ | refine Up.call ?_ (by assumption)) | go_size))); have HI6 := Lib.hid (HI5.out.old HU6.out); have HB6 := Lib.hid (HB5.out.trans (HU6.out.mono (by omega))); have HF6 := Lib.hid (HF5.out.up HU6.out); have y6 := HI6.out.cell 33 (v := fv) rfl; have lb6 := LibA.IsBuffer.lt HI6.out))
          | (go_at_call 22; ((refine Calls.mono (sortF_calls b b fv x.fs _ (HF6.out.up ?_) ?_) ?_); (focus ((repeat' (first | (with_reducible first | exact Up.refl _ | assumption | refine Up.alloc ?_ _ | refine Up.drew ?_ | refine Up.drewN ?_ _ | refine Up.setCell ?_ ?_ _ | refine Up.call ?_ (by assumption)) | go_size)))); (focus (have := HXL.out; omega)); rintro e w7 ⟨rfl, hf7, hg7⟩; have HI7 := Lib.hid (WBuf.grown (HI6.out.old (show Up w6 _ by (repeat' (first | (with_reducible first | exact Up.refl _ | assumption | refine Up.alloc ?_ _ | refine Up.drew ?_ | refine Up.drewN ?_ _ | refine Up.setCell ?_ ?_ _ | refine Up.call ?_ (by assumption)) | go_size)))) (HF6.out.up (show Up w6 _ by (repeat' (first | (with_reducible first | exact Up.refl _ | assumption | refine Up.alloc ?_ _ | refine Up.drew ?_ | refine Up.drewN ?_ _ | refine Up.setCell ?_ ?_ _ | refine Up.call ?_ (by assumption)) | go_size)))) hg7); have HB7 := Lib.hid (Below.grown (HB6.out.trans ((show Up w6 _ by (repeat' (first | (with_reducible first | exact Up.refl _ | assumption | refine Up.alloc ?_ _ | refine Up.drew ?_ | refine Up.drewN ?_ _ | refine Up.setCell ?_ ?_ _ | refine Up.call ?_ (by assumption)) | go_size))).mono (by omega))) hg7 (by first | omega | (simp; omega)) (fun k hk => (HF6.out.1.lt k hk).1)); have HF7 := Lib.hid hf7; have z7 := HB7.out.size; have y7 := HI7.out.cell 33 (v := fv) rfl; have lb7 := LibA.IsBuffer.lt HI7.out; clear hf7 hg7)))
          go_region_law (go_simp; go_at_call 23; ((refine Calls.mono (bytes_calls _ b b (endS x) _ (HI7.out.old ?_)) ?_); (focus ((repeat' (first | (with_reducible first | exact Up.refl _ | assumption | refine Up.alloc ?_ _ | refine Up.drew ?_ | refine Up.drewN ?_ _ | refine Up.setCell ?_ ?_ _ | refine Up.call ?_ (by assumption)) | go_size)))); rintro e w8 ⟨bv, rfl, hown, hu8⟩; have HU8 := Lib.hid (show Up w7 w8 by (repeat' (first | (with_reducible first | exact Up.refl _ | assumption | refine Up.alloc ?_ _ | refine Up.drew ?_ | refine Up.drewN ?_ _ | refine Up.setCell ?_ ?_ _ | refine Up.call ?_ (by assumption)) | go_size))); have HO8 := Lib.hid (raw_up hown hu8); have y8 := (HI7.out.old HU8.out).cell 33 (v := fv) rfl; have z8 := HU8.out.size; have lb8 := LibA.IsBuffer.lt (HI7.out.old HU8.out); clear hown))
          all_goals go_wp2
          all_goals go_returns
          all_goals exact ⟨_, _, _, rfl, Lib.hid (by unfold CRes; rw [if_pos rfl, HC.out]; exact ⟨rfl, owns_le HO8.out hz2, by have h9 := (HF7.out.up HU8.out).1; rw [srt_len] at h9; exact owns_le h9 hz2⟩), (up_below HU3.out HB7.out hz2).call (by (repeat' (first | (with_reducible first | exact Up.refl _ | assumption | refine Up.alloc ?_ _ | refine Up.drew ?_ | refine Up.drewN ?_ _ | refine Up.setCell ?_ ?_ _ | refine Up.call ?_ (by assumption)) | go_size)))⟩
      · have dm : decide (0 < m) = false := decide_eq_false hm0
        have HE := Lib.hid (show endS x = x.out by unfold endS; rw [if_pos (List.eq_nil_of_length_eq_zero (by have := HMM.out; omega)), List.append_nil])
        by_cases hbig : 1048576 < N
        · have db : decide ((1048576 : Int) < (N : Int)) = true := decide_eq_true (by omega)
          have HC := Lib.hid (show contS DS = none by
            rw [← contO_eq soZ]; unfold contO; rw [HXX.out]; show (if 1048576 < (endS x).length then none else some (endS x, x.fs)) = none; rw [HNN.out, if_pos hbig])
          clear hbig
          go_wp2_with (first
          | (go_at_call 20; ((refine Calls.mono (HLQ.out _ _ ((show Hid (WBuf _ b b (endS x) wr) by rw [HE.out]; exact HI0).out.old ?_)) ?_); (focus ((repeat' (first | (with_reducible first | exact Up.refl _ | assumption | refine Up.alloc ?_ _ | refine Up.drew ?_ | refine Up.drewN ?_ _ | refine Up.setCell ?_ ?_ _ | refine Up.call ?_ (by assumption)) | go_size)))); rintro e w6 ⟨rfl, hu6⟩; have z6 := hu6.size; have HU6 := Lib.hid (show Up wr w6 by (repeat' (first | (with_reducible first | exact Up.refl _ | assumption | refine Up.alloc ?_ _ | refine Up.drew ?_ | refine Up.drewN ?_ _ | refine Up.setCell ?_ ?_ _ | refine Up.call ?_ (by assumption)) | go_size))); have HI6 := Lib.hid (show WBuf _ b b (endS x) w6 by rw [HE.out]; exact HI0.out.old HU6.out); have HB6 := Lib.hid (HB0.out.trans (HU6.out.mono (by omega))); have HF6 := Lib.hid (HF0.out.up HU6.out); have y6 := HI6.out.cell 33 (v := fv) rfl; have lb6 := LibA.IsBuffer.lt HI6.out)))
          go_returns
          exact ⟨_, _, _, rfl, Lib.hid (by unfold CRes; rw [if_pos rfl, HC.out]; exact ⟨rfl, rfl, rfl⟩), (up_below HU3.out HB6.out hz2).call (by (repeat' (first | (with_reducible first | exact Up.refl _ | assumption | refine Up.alloc ?_ _ | refine Up.drew ?_ | refine Up.drewN ?_ _ | refine Up.setCell ?_ ?_ _ | refine Up.call ?_ (by assumption)) | go_size)))⟩
        · have db : decide ((1048576 : Int) < (N : Int)) = false := decide_eq_false (by omega)
          have HC := Lib.hid (show contS DS = some (endS x, x.fs) by
            rw [← contO_eq soZ]; unfold contO; rw [HXX.out]; show (if 1048576 < (endS x).length then none else some (endS x, x.fs)) = _; rw [HNN.out, if_neg hbig])
          clear hbig
          go_wp2_with (first
          | (go_at_call 20; ((refine Calls.mono (HLQ.out _ _ ((show Hid (WBuf _ b b (endS x) wr) by rw [HE.out]; exact HI0).out.old ?_)) ?_); (focus ((repeat' (first | (with_reducible first | exact Up.refl _ | assumption | refine Up.alloc ?_ _ | refine Up.drew ?_ | refine Up.drewN ?_ _ | refine Up.setCell ?_ ?_ _ | refine Up.call ?_ (by assumption)) | go_size)))); rintro e w6 ⟨rfl, hu6⟩; have z6 := hu6.size; have HU6 := Lib.hid (show Up wr w6 by (repeat' (first | (with_reducible first | exact Up.refl _ | assumption | refine Up.alloc ?_ _ | refine Up.drew ?_ | refine Up.drewN ?_ _ | refine Up.setCell ?_ ?_ _ | refine Up.call ?_ (by assumption)) | go_size))); have HI6 := Lib.hid (show WBuf _ b b (endS x) w6 by rw [HE.out]; exact HI0.out.old HU6.out); have HB6 := Lib.hid (HB0.out.trans (HU6.out.mono (by omega))); have HF6 := Lib.hid (HF0.out.up HU6.out); have y6 := HI6.out.cell 33 (v := fv) rfl; have lb6 := LibA.IsBuffer.lt HI6.out))
          | (go_at_call 22; ((refine Calls.mono (sortF_calls b b fv x.fs _ (HF6.out.up ?_) ?_) ?_); (focus ((repeat' (first | (with_reducible first | exact Up.refl _ | assumption | refine Up.alloc ?_ _ | refine Up.drew ?_ | refine Up.drewN ?_ _ | refine Up.setCell ?_ ?_ _ | refine Up.call ?_ (by assumption)) | go_size)))); (focus (have := HXL.out; omega)); rintro e w7 ⟨rfl, hf7, hg7⟩; have HI7 := Lib.hid (WBuf.grown (HI6.out.old (show Up w6 _ by (repeat' (first | (with_reducible first | exact Up.refl _ | assumption | refine Up.alloc ?_ _ | refine Up.drew ?_ | refine Up.drewN ?_ _ | refine Up.setCell ?_ ?_ _ | refine Up.call ?_ (by assumption)) | go_size)))) (HF6.out.up (show Up w6 _ by (repeat' (first | (with_reducible first | exact Up.refl _ | assumption | refine Up.alloc ?_ _ | refine Up.drew ?_ | refine Up.drewN ?_ _ | refine Up.setCell ?_ ?_ _ | refine Up.call ?_ (by assumption)) | go_size)))) hg7); have HB7 := Lib.hid (Below.grown (HB6.out.trans ((show Up w6 _ by (repeat' (first | (with_reducible first | exact Up.refl _ | assumption | refine Up.alloc ?_ _ | refine Up.drew ?_ | refine Up.drewN ?_ _ | refine Up.setCell ?_ ?_ _ | refine Up.call ?_ (by assumption)) | go_size))).mono (by omega))) hg7 (by first | omega | (simp; omega)) (fun k hk => (HF6.out.1.lt k hk).1)); have HF7 := Lib.hid hf7; have z7 := HB7.out.size; have y7 := HI7.out.cell 33 (v := fv) rfl; have lb7 := LibA.IsBuffer.lt HI7.out; clear hf7 hg7)))
          go_region_law (go_simp; go_at_call 23; ((refine Calls.mono (bytes_calls _ b b (endS x) _ (HI7.out.old ?_)) ?_); (focus ((repeat' (first | (with_reducible first | exact Up.refl _ | assumption | refine Up.alloc ?_ _ | refine Up.drew ?_ | refine Up.drewN ?_ _ | refine Up.setCell ?_ ?_ _ | refine Up.call ?_ (by assumption)) | go_size)))); rintro e w8 ⟨bv, rfl, hown, hu8⟩; have HU8 := Lib.hid (show Up w7 w8 by (repeat' (first | (with_reducible first | exact Up.refl _ | assumption | refine Up.alloc ?_ _ | refine Up.drew ?_ | refine Up.drewN ?_ _ | refine Up.setCell ?_ ?_ _ | refine Up.call ?_ (by assumption)) | go_size))); have HO8 := Lib.hid (raw_up hown hu8); have y8 := (HI7.out.old HU8.out).cell 33 (v := fv) rfl; have z8 := HU8.out.size; have lb8 := LibA.IsBuffer.lt (HI7.out.old HU8.out); clear hown))
          all_goals go_wp2
          all_goals go_returns
          all_goals exact ⟨_, _, _, rfl, Lib.hid (by unfold CRes; rw [if_pos rfl, HC.out]; exact ⟨rfl, owns_le HO8.out hz2, by have h9 := (HF7.out.up HU8.out).1; rw [srt_len] at h9; exact owns_le h9 hz2⟩), (up_below HU3.out HB7.out hz2).call (by (repeat' (first | (with_reducible first | exact Up.refl _ | assumption | refine Up.alloc ?_ _ | refine Up.drew ?_ | refine Up.drewN ?_ _ | refine Up.setCell ?_ ?_ _ | refine Up.call ?_ (by assumption)) | go_size)))⟩

end Go.Proofs.YtpellcdggaeppaaGreatDoor.Dr
end
