/- Package draw: letters. Its condition: numbers that fit, lengths that a buffer bears. Package draw: item. Its condition: numbers that fit, lengths that a buffer bears. Package draw: what Content calls: lengths, bytes, sorting, what is so at first. Its condition: lengths that a list bears. -/
import Derived.Test.YtpellcdggaeppaaGreatDoorGE
import Derived.Test.YtpellcdggaeppaaGreatDoorGT
import Derived.Test.YtpellcdggaeppaaGreatDoorStep
import Derived.Test.YtpellcdggaeppaaGreatDoorGPt8
import Derived.Sort.OwnSortedInts
section
namespace Go.Proofs.YtpellcdggaeppaaGreatDoor.Dr
open Go.ChangeShapes Go.WideShapes Go.ChangeAt Go.RowKit Go.Shelf
open Go.Proofs.YtpellcdggaeppaaGreatDoor.Pob
open Go.Proofs.YtpellcdggaeppaaGreatDoor.MatM (M6)
open Go.Proofs.YtpellcdggaeppaaGreatDoor.Pt (raw_up info_parts3 infoI1)
set_option linter.unusedVariables false
set_option linter.unusedSimpArgs false

theorem bodyPost_fin {P : Program} {fn : Func} {R : Ending → World → Prop} {a : Act} {w : World} (hr : fn.results = #[]) (hd : a.defers = []) (hR : R (.returned (.tuple #[])) w) : bodyPost P fn R .normal a w :=
  bodyPost_end (results_none hr _ _ _) hd hR
/-- bytes out of a row are written into the buffer -/
theorem aBytes (R : Nat → Option Value) (B b : Nat) (bs d : List UInt8) (v : Value) (w : World) (h : WBuf R B b bs w) (hBw : B ≤ w.heap.size) (hv : BytesAt w v d) (hd : d ≠ []) (hlim : bs.length + d.length ≤ 140737488355328) :
    Calls Tryz.prog 84 #[.pointer (some ⟨b, 0, none⟩), v] w fun e w' => ∃ x, e = .returned x ∧ WBuf R B b (bs ++ d) w' ∧ Below B w w' ∧ OK b w w' := by
  obtain ⟨g, cap, rfl, h1, h2, h3, h4⟩ := hv.form
  have hgb : g ≠ b := fun e => by
    subst e
    obtain ⟨hB, v0, lr, ht, ho, hn⟩ := h
    have c0 := ht.c0
    have h5 := h4 0 (by cases d with | nil => exact absurd rfl hd | cons x d => simp)
    rw [c0] at h5
    rcases ho.2 with ⟨e, _⟩ | ⟨g, cap, cur, e, _⟩ <;> (rw [e] at h5; cases h5)
  refine (Tryz.Buffer_Write_at 69 R B b 0 (Lib.byteCells bs) (Lib.byteCells d) ⟨g, 0, none⟩ d.length cap w h hBw (Lib.byteCells_one _) (Lib.byteCells_length _) hgb (fun j v hj => ?_) (Lib.byteCells_one _) (by rw [Lib.byteCells_length]; exact hlim)).mono ?_
  · obtain ⟨c, hc, rfl⟩ := byteCells_at d j v hj
    rw [add_plain, Nat.zero_add]
    have hj2 := (List.getElem?_eq_some_iff.1 hc).1
    rw [h4 j hj2, List.getD_eq_getElem?_getD, hc]
    rfl
  · rintro e w' ⟨rfl, k1, k2, k3⟩
    exact ⟨_, rfl, by unfold WBuf; rw [cells_app]; exact k1, k2, k3⟩

/-- the fonts' list is a row of the writer's own -/
def Fo (w : World) (B b : Nat) (fv : Value) (fs : List Int) : Prop := w.ownsRow B 3 1 fv fs.length (fs.map (Value.int .i64)) ∧ ∀ g, fv.ownBlock = some g → g ≠ b
theorem Fo.kept {w w1 : World} {B b : Nat} {fv : Value} {fs : List Int} (h : Fo w B b fv fs) (k : OK b w w1) : Fo w1 B b fv fs := by
  obtain ⟨⟨h1, h2⟩, h3⟩ := h
  refine ⟨⟨h1, ?_⟩, h3⟩
  rcases h2 with h4 | ⟨g, cap, cur, e, hb, hg, hr⟩
  · exact Or.inl h4
  · refine Or.inr ⟨g, cap, cur, e, hb, ?_, hr⟩
    exact k g _ hg (fun e2 => h3 g (by rw [e]; rfl) (Option.some.inj e2)) (fun c f he => by injection he with _ h5 _; exact absurd h5 (by decide))
theorem Fo.up {w w1 : World} {B b : Nat} {fv : Value} {fs : List Int} (h : Fo w B b fv fs) (hu : Up w w1) : Fo w1 B b fv fs := ⟨raw_up h.1 hu, h.2⟩
theorem Fo.val {w : World} {B b : Nat} {fv : Value} {fs : List Int} (h : Fo w B b fv fs) : ∃ a c, fv = .slice a fs.length c := by
  rcases h.1.2 with ⟨rfl, h0⟩ | ⟨g, cap, cur, rfl, _⟩
  · exact ⟨none, 0, by rw [h0]⟩
  · exact ⟨_, _, rfl⟩
/-- is a font in the list? -/
theorem hasFont_calls (B b : Nat) (fv : Value) (fs : List Int) (fn : Int) (w0 w : World) (h : Fo w0 B b fv fs) (hl : fs.length ≤ 1000000) (hu : Up w0 w) :
    Calls Tryz.prog 81 #[fv, .int .i64 fn] w fun e w' => e = .returned (.bool (decide (fn ∈ fs))) ∧ Up w w' := by
  rcases (raw_up h.1 hu).2 with ⟨rfl, h0⟩ | ⟨g, cap, cur, rfl, hb, hg, hn, hm, hcs, htk⟩
  · have e : fs = [] := List.eq_nil_of_length_eq_zero h0
    subst e
    refine (Tryz.slices_Contains_int_empty none 0 fn w).mono ?_
    rintro e w' ⟨rfl, rfl⟩
    exact ⟨by simp, Up.refl _⟩
  · refine (Tryz.slices_Contains_int g 0 fs.length cap fs fn w (Nat.le_refl _) (by omega) (fun j hj => ?_)).mono ?_
    · have := (raw_up h.1 hu).cells (g := g) rfl j (.int .i64 (fs.getD j 0)) (by rw [List.getElem?_map, List.getD_eq_getElem?_getD, List.getElem?_eq_getElem hj]; rfl)
      rw [add_plain] at this
      exact this
    · rintro e w' ⟨rfl, rfl⟩
      refine ⟨?_, Up.refl _⟩
      rw [List.take_length]
      congr 2
      by_cases hc : fn ∈ fs <;> simp [hc]
/-- a row of the writer's own grows: what its buffer is -/
theorem WBuf.grown {R : Nat → Option Value} {B b : Nat} {bs : List UInt8} {w w1 : World} {fv : Value} {fs : List Int} (h : WBuf R B b bs w) (hf : Fo w B b fv fs) (hg : w.grownBy w1 fv.ownBlock) : WBuf R B b bs w1 := by
  obtain ⟨hB, v, lr, ht, ho, hn⟩ := h
  have hlt := ht.lt
  refine ⟨hB, v, lr, ht.of_heap (hg.block b hlt (fun e => hf.2 b e.symm rfl)), ?_, hn⟩
  refine ho.kept hg ?_
  by_cases hv : v.ownBlock = none
  · exact Or.inl hv
  · refine Or.inr (fun e => ?_)
    obtain ⟨g, hg2⟩ := Option.ne_none_iff_exists'.1 hv
    obtain ⟨c1, f1, k1⟩ := Lib.ownsRow_kind ho g hg2
    obtain ⟨c2, f2, k2⟩ := Lib.ownsRow_kind hf.1 g (by rw [← e]; exact hg2)
    rw [k1] at k2
    injection k2 with k2
    injection k2 with _ k3 _
    exact absurd k3 (by decide)
theorem Bx.grown {t : TypeId} {w w1 : World} {g : Nat} {cs : Array Value} {B b : Nat} {fv : Value} {fs : List Int} (h : Bx t w g cs) (ht : t ≠ 3) (hf : Fo w B b fv fs) (hg : w.grownBy w1 fv.ownBlock) : Bx t w1 g cs := by
  refine ⟨h.1, ?_⟩
  rw [hg.block g h.lt (fun e => ?_)]
  · exact h.2
  · obtain ⟨c2, f2, k2⟩ := Lib.ownsRow_kind hf.1 g e.symm
    rw [h.2] at k2
    injection k2 with k2
    injection k2 with _ k3 _
    exact ht k3
theorem Bx.setB {t : TypeId} {w : World} {g b : Nat} {cs : Array Value} (h : Bx t w g cs) (hb : g ≠ b) (i : Nat) (v : Value) : Bx t (w.setCell ⟨b, i, none⟩ v) g cs :=
  ⟨h.1, by rw [Below.heap_setCell _ _ _ _ (by exact hb)]; exact h.2⟩
theorem Fo.setB {w : World} {B b : Nat} {fv : Value} {fs : List Int} (h : Fo w B b fv fs) (i : Nat) (v : Value) : Fo (w.setCell ⟨b, i, none⟩ v) B b fv fs :=
  ⟨Go.ownsRow_setCell_other h.1 (a := ⟨b, i, none⟩) (fun e => h.2 b e rfl) v, h.2⟩
theorem textB_len (fn : Int) (m : M6) (t : List UInt8) (hf : Fit fn) (hm : Fit m.a ∧ Fit m.b ∧ Fit m.c ∧ Fit m.d ∧ Fit m.x ∧ Fit m.y) (ht : t.length ≤ 65535) : (textB fn m t).length ≤ 2000000 := by
  obtain ⟨h1, h2, h3, h4, h5, h6⟩ := hm
  have e1 := prP_len m.a h1.1 h1.2
  have e2 := prP_len m.b h2.1 h2.2
  have e3 := prP_len m.c h3.1 h3.2
  have e4 := prP_len m.d h4.1 h4.2
  have e5 := prP_len m.x h5.1 h5.2
  have e6 := prP_len m.y h6.1 h6.2
  have e7 := txt_len t
  have e8 := intL_len fn hf.1 hf.2
  simp only [textB, lineB, numsB, List.flatMap_cons, List.flatMap_nil, List.append_nil, List.length_append, List.length_cons, List.length_nil]
  omega
/-- string(..) of bytes that came in -/
theorem bytes_conv {w0 W : World} {a : Option Addr} {n c : Nat} {zs : List Int} (hz : Ints .u8 w0 (.slice a n c) zs) (hu : Up w0 W) : (convert 27 9 (.slice a n c)).run Tryz.prog W = .ok (.string ⟨(bytesOf zs).toArray⟩) W := by
  obtain ⟨ao, c', hv, h1, h2, h3, h4, h5⟩ := hz
  simp only [Value.slice.injEq] at hv
  obtain ⟨e1, e2, e3⟩ := hv
  subst e1 e2 e3
  cases a with
  | none =>
    obtain ⟨h6, h7⟩ := h3 rfl
    subst h6 h7
    show (convert 27 9 (.slice none 0 0)).run Tryz.prog W = _
    rw [run_convert_bytes_string W 27 9 5 none 0 0 Tryz.underlying27 Tryz.underlying5 Tryz.underlying9]
    rfl
  | some ad =>
    have hl : (bytesOf zs).length = zs.length := by simp [bytesOf]
    rw [← hl]
    refine run_convert_bytes_back W 27 9 5 ad c (bytesOf zs) Tryz.underlying27 Tryz.underlying5 Tryz.underlying9 (fun j hj => ?_)
    rw [hl] at hj
    obtain ⟨b, o, e, hb, hc⟩ := h4 (by omega)
    obtain rfl := Option.some.inj e
    rw [add_plain, hu.cells.1 b _ hb, hc j hj]
    obtain ⟨k1, k2⟩ : 0 ≤ zs[j] ∧ zs[j] ≤ 255 := by simpa [Lit.wf, IntKind.min, IntKind.max, IntKind.signed, IntKind.bits] using h5 zs[j] (List.getElem_mem hj)
    rw [List.getD_eq_getElem?_getD, List.getElem?_eq_getElem hj]
    simp only [bytesOf, List.getElem_map, Option.getD_some, UInt8.toNat_ofNat']
    congr 2
    omega
/-- a string as an object -/
def strO (t : List UInt8) : PO := .mk 5 0 t none 0 0 [] none 0 0 [] none 0 0 []
theorem strO_ok (w : World) (t : List UInt8) : POk w (strO t) :=
  .mk 5 0 t none 0 0 [] none 0 0 [] none 0 0 [] (by decide) ⟨Nat.le_refl _, by decide, rfl, fun _ => ⟨rfl, rfl⟩, fun h => absurd h (by decide)⟩ ⟨Nat.le_refl _, by decide, rfl, fun _ => ⟨rfl, rfl⟩, fun h => absurd h (by decide)⟩ (fun c hc => by cases hc) ⟨Nat.le_refl _, by decide, rfl, fun _ => ⟨rfl, rfl⟩, fun h => absurd h (by decide)⟩
theorem strO_print (t : List UInt8) (h : t.length ≤ 65535) (w : World) (hp : PTab w) :
    Calls Tryz.prog 83 #[.agg #[.int .i64 5, .int .i64 0, .string ⟨t.toArray⟩, .slice none 0 0, .slice none 0 0, .slice none 0 0]] w fun e w' => ∃ v, e = .returned (.tuple #[v, .int .i64 0]) ∧ BytesAt w' v (40 :: (txt t ++ [41])) ∧ Up w w' := by
  have e1 : prn 32 (strO t) = 40 :: (txt t ++ [41]) := by
    rw [prn_leaf 32 (by simp [strO, PO.k])]
    simp [strO, leafP]
  have h2 := txt_len t
  rw [← e1]
  exact pprint_ok 1 (strO t) w (strO_ok w t) (by show (decide (([] : List PO).length ≤ 300) && decide (([] : List (List UInt8)).length ≤ 300) && decide (t.length ≤ 70000) && decide (([] : List UInt8).length ≤ 5000) && ([] : List (List UInt8)).all (fun s => decide (s.length ≤ 300)) && ([] : List PO).all (lightR 0)) = true; rw [decide_eq_true (show t.length ≤ 70000 by omega)]; rfl) (by rw [snd_leaf 32 (by simp [strO, PO.k])]; simp [strO, leafR, bareC, h]) hp (by rw [e1]; simp only [List.length_cons, List.length_append, List.length_nil]; omega)
theorem textB_eq (bs t L : List UInt8) (fn : Int) (m : M6) (hL : intL fn = L) : bs ++ textB fn m t = bs ++ lineB [66, 84] [] ++ ([47, 70] ++ (L ++ [32, 49, 32, 84, 102, 10])) ++ lineB [84, 109] [m.a, m.b, m.c, m.d, m.x, m.y] ++ 40 :: (txt t ++ [41]) ++ [32, 84, 106, 10] ++ lineB [69, 84] [] := by
  subst hL
  unfold textB
  generalize lineB [66, 84] [] = A
  generalize lineB [84, 109] [m.a, m.b, m.c, m.d, m.x, m.y] = B
  generalize lineB [69, 84] [] = C
  generalize intL fn = D
  generalize txt t = E
  simp only [List.append_assoc, List.cons_append, List.nil_append]
theorem row6 {k : Int} {pa : Option Addr} {pl pc : Nat} {sp p0 p1 p2 p3 : Int} {ca : Option Addr} {cl cc : Nat} {wd cap jn mt : Int} {da : Option Addr} {dl dc : Nat} {ph fn : Int} {m : M6} {bv : Value} : ∀ (i : Nat) (z : Int), [m.a, m.b, m.c, m.d, m.x, m.y][i]? = some z → (#[.int .i64 k, .slice pa pl pc, .int .i64 sp, .int .i64 p0, .int .i64 p1, .int .i64 p2, .int .i64 p3, .slice ca cl cc, .int .i64 wd, .int .i64 cap, .int .i64 jn, .int .i64 mt, .slice da dl dc, .int .i64 ph, .int .i64 fn, .int .i64 m.a, .int .i64 m.b, .int .i64 m.c, .int .i64 m.d, .int .i64 m.x, .int .i64 m.y, bv] : Array Value)[15 + i]? = some (.int .i64 z)
  | 0, z, h => by injection h with h; subst h; rfl
  | 1, z, h => by injection h with h; subst h; rfl
  | 2, z, h => by injection h with h; subst h; rfl
  | 3, z, h => by injection h with h; subst h; rfl
  | 4, z, h => by injection h with h; subst h; rfl
  | 5, z, h => by injection h with h; subst h; rfl
  | i + 6, z, h => by simp at h
theorem rng6 {m : M6} (hm : Fit m.a ∧ Fit m.b ∧ Fit m.c ∧ Fit m.d ∧ Fit m.x ∧ Fit m.y) : ∀ z ∈ [m.a, m.b, m.c, m.d, m.x, m.y], -2147483648 ≤ z ∧ z ≤ 2147483647 := fun z hz => by
  obtain ⟨h1, h2, h3, h4, h5, h6⟩ := hm
  simp only [List.mem_cons, List.not_mem_nil, or_false] at hz
  rcases hz with rfl | rfl | rfl | rfl | rfl | rfl <;> assumption
theorem textB_lens (fn : Int) (m : M6) (t : List UInt8) (hf : Fit fn) (hm : Fit m.a ∧ Fit m.b ∧ Fit m.c ∧ Fit m.d ∧ Fit m.x ∧ Fit m.y) (ht : t.length ≤ 65535) : (lineB [66, 84] []).length + (lineB [84, 109] [m.a, m.b, m.c, m.d, m.x, m.y]).length ≤ 1000000 ∧ (txt t).length ≤ 262140 := by
  have h7 := textB_len fn m t hf hm ht
  obtain ⟨h1, h2, h3, h4, h5, h6⟩ := hm
  have e1 := prP_len m.a h1.1 h1.2
  have e2 := prP_len m.b h2.1 h2.2
  have e3 := prP_len m.c h3.1 h3.2
  have e4 := prP_len m.d h4.1 h4.2
  have e5 := prP_len m.x h5.1 h5.2
  have e6 := prP_len m.y h6.1 h6.2
  have e7 := txt_len t
  refine ⟨?_, by omega⟩
  simp only [lineB, numsB, List.flatMap_cons, List.flatMap_nil, List.append_nil, List.length_append, List.length_cons, List.length_nil]
  omega

set_option maxRecDepth 8000 in
set_option maxHeartbeats 8000000 in
/-- letters -/
theorem text_calls (k : Int) (pa : Option Addr) (pl pc : Nat) (sp p0 p1 p2 p3 : Int) (ca : Option Addr) (cl cc : Nat) (wd cap jn mt : Int) (da : Option Addr) (dl dc : Nat) (ph fn : Int) (m : M6) (ba : Option Addr) (bl bc : Nat) (zs : List Int) (so ou : Sm) (cv fv : Value) (fs : List Int) (B b : Nat) (bs : List UInt8) (w0 w : World) (h : WBuf (⟨so, ou, cv, fv⟩ : Wm).R B b bs w) (hBw : B ≤ w.heap.size) (hF : Fo w B b fv fs) (hfl : fs.length ≤ 10000) (hfn : Fit fn) (hm : Fit m.a ∧ Fit m.b ∧ Fit m.c ∧ Fit m.d ∧ Fit m.x ∧ Fit m.y) (hz : Ints .u8 w0 (.slice ba bl bc) zs) (hbl : zs.length ≤ 65535) (h0 : w0.heap.size ≤ B) (hu : Up w0 w) (ht : PTab w0) (hlim : bs.length + 300000000 ≤ 140737488355328) :
    Calls Tryz.prog 47 #[.pointer (some ⟨b, 0, none⟩), .agg #[.int .i64 k, .slice pa pl pc, .int .i64 sp, .int .i64 p0, .int .i64 p1, .int .i64 p2, .int .i64 p3, .slice ca cl cc, .int .i64 wd, .int .i64 cap, .int .i64 jn, .int .i64 mt, .slice da dl dc, .int .i64 ph, .int .i64 fn, .int .i64 m.a, .int .i64 m.b, .int .i64 m.c, .int .i64 m.d, .int .i64 m.x, .int .i64 m.y, .slice ba bl bc]] w fun e w' => e = .returned (.tuple #[]) ∧ Hid (∃ fv', WBuf (⟨so, ou, cv, fv'⟩ : Wm).R B b (bs ++ textB fn m (bytesOf zs)) w' ∧ Fo w' B b fv' (if fn ∈ fs then fs else fs ++ [fn]) ∧ Below B w w') := by
  have hb := LibA.IsBuffer.lt h
  have hBb := h.1
  have HI := Lib.hid h
  have HF := Lib.hid hF
  have HU00 := Lib.hid hu
  have hn0 : w.heap.size ≠ b := by omega
  have HT := Lib.hid (fun (W : World) (hW : Up w0 W) => ht.up hW)
  have hlen0 : bs.length + 300000000 ≤ 140737488355328 := hlim
  have HTL := Lib.hid (textB_len fn m (bytesOf zs) hfn hm (by unfold bytesOf; rw [List.length_map]; exact hbl))
  have HFN := Lib.hid hfn
  have HM := Lib.hid hm
  have HZL := Lib.hid (show (bytesOf zs).length ≤ 65535 by unfold bytesOf; rw [List.length_map]; exact hbl)
  have HCV := Lib.hid (fun (W : World) (hW : Up w0 W) => bytes_conv hz hW)
  obtain ⟨i0, hi, hz0, hz1, hz2⟩ := info_parts3 infoI1
  clear h hF hu ht hlim hfn hm hz hbl
  obtain ⟨cn, hcn⟩ : ∃ cn, decide (fn ∈ fs) = cn := ⟨_, rfl⟩
  have HCT := Lib.hid (fun (W1 W : World) (h1 : Fo W1 B b fv fs) (h2 : Up W1 W) => hasFont_calls B b fv fs fn W1 W h1 (by omega) h2)
  rw [hcn] at HCT
  have HCN := Lib.hid hcn
  clear hcn
  obtain ⟨F', hF'⟩ : ∃ F', (if fn ∈ fs then fs else fs ++ [fn]) = F' := ⟨_, rfl⟩
  rw [hF']
  have HF' := Lib.hid hF'
  obtain ⟨t, ht⟩ : ∃ t, bytesOf zs = t := ⟨_, rfl⟩
  rw [ht] at HTL HZL HCV ⊢
  clear hF' ht
  go_enter Tryz.func47, Tryz.ntmps47
  go_upto_region 1 with fail
  have HX := Lib.hid (Bx.new 50 (by decide) w #[.int .i64 k, .slice pa pl pc, .int .i64 sp, .int .i64 p0, .int .i64 p1, .int .i64 p2, .int .i64 p3, .slice ca cl cc, .int .i64 wd, .int .i64 cap, .int .i64 jn, .int .i64 mt, .slice da dl dc, .int .i64 ph, .int .i64 fn, .int .i64 m.a, .int .i64 m.b, .int .i64 m.c, .int .i64 m.d, .int .i64 m.x, .int .i64 m.y, .slice ba bl bc])
  have HU1 := Lib.hid (show Up w (w.alloc (.cells #[.int .i64 k, .slice pa pl pc, .int .i64 sp, .int .i64 p0, .int .i64 p1, .int .i64 p2, .int .i64 p3, .slice ca cl cc, .int .i64 wd, .int .i64 cap, .int .i64 jn, .int .i64 mt, .slice da dl dc, .int .i64 ph, .int .i64 fn, .int .i64 m.a, .int .i64 m.b, .int .i64 m.c, .int .i64 m.d, .int .i64 m.x, .int .i64 m.y, .slice ba bl bc] 50)) by (repeat' (first | (with_reducible first | exact Up.refl _ | assumption | refine Up.alloc ?_ _ | refine Up.drew ?_ | refine Up.drewN ?_ _ | refine Up.setCell ?_ ?_ _ | refine Up.call ?_ (by assumption)) | go_size)))
  generalize hW1 : (w.alloc (.cells #[.int .i64 k, .slice pa pl pc, .int .i64 sp, .int .i64 p0, .int .i64 p1, .int .i64 p2, .int .i64 p3, .slice ca cl cc, .int .i64 wd, .int .i64 cap, .int .i64 jn, .int .i64 mt, .slice da dl dc, .int .i64 ph, .int .i64 fn, .int .i64 m.a, .int .i64 m.b, .int .i64 m.c, .int .i64 m.d, .int .i64 m.x, .int .i64 m.y, .slice ba bl bc] 50)) = w1 at HX HU1 ⊢
  have hn1 : w1.heap.size = w.heap.size + 1 := by rw [← hW1]; simp
  clear hW1
  go_cut [13] from 6 (fun s13 wx => s13 = .bool (!cn) ∧ Up w1 wx)
  case first =>
    have x14 := HX.out.cell 14 rfl
    have y33 := (HI.out.old HU1.out).cell 33 (v := fv) rfl
    have hb1 : b < w1.heap.size := by omega
    have hx1 := HX.out.lt
    go_region_law (go_simp; go_at_call 81; ((with_reducible refine Calls.mono (HCT.out w _ HF.out ?_) ?_); (focus (exact HU1.out.call (by (repeat' (first | (with_reducible first | exact Up.refl _ | assumption | refine Up.alloc ?_ _ | refine Up.drew ?_ | refine Up.drewN ?_ _ | refine Up.setCell ?_ ?_ _ | refine Up.call ?_ (by assumption)) | go_size))))); rintro e w2 ⟨rfl, hu2⟩))
    all_goals go_wp2
    all_goals go_meet
    all_goals (case rel => exact ⟨rfl, by (repeat' (first | (with_reducible first | exact Up.refl _ | assumption | refine Up.alloc ?_ _ | refine Up.drew ?_ | refine Up.drewN ?_ _ | refine Up.setCell ?_ ?_ _ | refine Up.call ?_ (by assumption)) | go_size))⟩)
  obtain ⟨rfl, hu2⟩ := hcut
  rename World => w2
  replace HU1 := Lib.hid (HU1.out.call hu2)
  replace HX := Lib.hid (HX.out.up hu2)
  have hn2 := hu2.size
  clear hu2
  replace HI := Lib.hid (HI.out.old HU1.out)
  replace HF := Lib.hid (HF.out.up HU1.out)
  have HB := Lib.hid (HU1.out.mono hBw)
  go_upto_if 13 with fail
  go_cut [] from 6 (fun wx => ∃ fv', Hid (WBuf (⟨so, ou, cv, fv'⟩ : Wm).R B b bs wx ∧ Below B w wx ∧ Fo wx B b fv' F' ∧ Bx 50 wx w.heap.size #[.int .i64 k, .slice pa pl pc, .int .i64 sp, .int .i64 p0, .int .i64 p1, .int .i64 p2, .int .i64 p3, .slice ca cl cc, .int .i64 wd, .int .i64 cap, .int .i64 jn, .int .i64 mt, .slice da dl dc, .int .i64 ph, .int .i64 fn, .int .i64 m.a, .int .i64 m.b, .int .i64 m.c, .int .i64 m.d, .int .i64 m.x, .int .i64 m.y, .slice ba bl bc]))
  case first =>
    cases cn
    rotate_left
    · have HF2 := Lib.hid (show F' = fs by rw [← HF'.out, if_pos (of_decide_eq_true HCN.out)])
      go_wp2
      go_meet
      case rel => exact ⟨fv, Lib.hid ⟨HI.out, HB.out, by rw [HF2.out]; exact HF.out, HX.out⟩⟩
    · have HF2 := Lib.hid (show F' = fs ++ [fn] by rw [← HF'.out, if_neg (of_decide_eq_false HCN.out)])
      have x14 := HX.out.cell 14 rfl
      have y33 := HI.out.cell 33 (v := fv) rfl
      have hb2 : b < w2.heap.size := by omega
      have hx1 := HX.out.lt
      have fr := HI.out.free 36
      go_wp2
      go_region_law (refine step_append_own rfl (.tmp 18) (.tmp 21) 28 rfl B 3 i0 _ 1 8 Tryz.underlying28 hi hz0 hz1 hz2 rfl (by decide) fv fs.length (fs.map (Value.int .i64)) rfl (raw_up HF.out.1 (by (repeat' (first | (with_reducible first | exact Up.refl _ | assumption | refine Up.alloc ?_ _ | refine Up.drew ?_ | refine Up.drewN ?_ _ | refine Up.setCell ?_ ?_ _ | refine Up.call ?_ (by assumption)) | go_size)))) _ 1 1 [.int .i64 fn] rfl rfl (news_at (show Row _ _ #[.int .i64 fn] by (repeat' (with_reducible first | assumption | (refine Row.at _ _ ?_; (simp; done)) | refine Row.alloc ?_ _ | refine Row.drew ?_ | refine Row.drewN ?_ _ | refine Row.other ?_ (by first | (simp; done) | (simp; omega) | omega) _ | refine Row.up ?_ (by assumption) | refine Row.chg ?_ (by assumption) (by first | (simp; done) | (simp; omega))))) rfl) (by simp [Value.oneCell']) (by unfold maxLen; omega) (by omega) (by first | omega | (simp; omega)) ?_; intro fv' w4 hown hgr hnil hat; have HIa := Lib.hid (WBuf.grown (HI.out.old (show Up w2 _ by (repeat' (first | (with_reducible first | exact Up.refl _ | assumption | refine Up.alloc ?_ _ | refine Up.drew ?_ | refine Up.drewN ?_ _ | refine Up.setCell ?_ ?_ _ | refine Up.call ?_ (by assumption)) | go_size)))) (HF.out.up (show Up w2 _ by (repeat' (first | (with_reducible first | exact Up.refl _ | assumption | refine Up.alloc ?_ _ | refine Up.drew ?_ | refine Up.drewN ?_ _ | refine Up.setCell ?_ ?_ _ | refine Up.call ?_ (by assumption)) | go_size)))) hgr); have HBa := Lib.hid (Below.grown (HB.out.trans ((show Up w2 _ by (repeat' (first | (with_reducible first | exact Up.refl _ | assumption | refine Up.alloc ?_ _ | refine Up.drew ?_ | refine Up.drewN ?_ _ | refine Up.setCell ?_ ?_ _ | refine Up.call ?_ (by assumption)) | go_size))).mono (by omega))) hgr (by first | omega | (simp; omega)) (fun k hk => (HF.out.1.lt k hk).1)); have HXa := Lib.hid (Bx.grown (HX.out.up (show Up w2 _ by (repeat' (first | (with_reducible first | exact Up.refl _ | assumption | refine Up.alloc ?_ _ | refine Up.drew ?_ | refine Up.drewN ?_ _ | refine Up.setCell ?_ ?_ _ | refine Up.call ?_ (by assumption)) | go_size)))) (by decide) (HF.out.up (show Up w2 _ by (repeat' (first | (with_reducible first | exact Up.refl _ | assumption | refine Up.alloc ?_ _ | refine Up.drew ?_ | refine Up.drewN ?_ _ | refine Up.setCell ?_ ?_ _ | refine Up.call ?_ (by assumption)) | go_size)))) hgr); have HFa := Lib.hid (show Fo w4 B b fv' (fs ++ [fn]) from ⟨by rw [List.length_append, List.map_append]; exact hown, fun g hg => hat.elim (fun e => HF.out.2 g (e.symm.trans hg)) (fun e => by have := e.symm.trans hg; have e2 := Option.some.inj this; simp at e2; omega)⟩); (obtain ⟨fa9, fc9, hfv⟩ : ∃ a c, fv' = .slice a (fs.length + 1) c := (by have h8 := HFa.out.val; rw [List.length_append] at h8; exact h8)); subst hfv; have zr := HBa.out.size; have lbr := LibA.IsBuffer.lt HIa.out; have frr := HIa.out.free 36; have yrr := HIa.out.cell 33 (v := fv) rfl; clear hown hgr hnil hat)
      all_goals go_wp2
      all_goals go_meet
      all_goals (case rel => exact ⟨.slice fa9 (fs.length + 1) fc9, Lib.hid ⟨HIa.out.set 33 (by simp [Wm.rest, Sm.cells]) (.slice fa9 (fs.length + 1) fc9), Below.setCell HBa.out (p := ⟨b, 36, none⟩) hBb _, by rw [HF2.out]; exact HFa.out.setB 36 _, HXa.out.setB hn0 36 _⟩⟩)
  obtain ⟨fv', hR⟩ := hcut
  rename World => w3
  clear hi hz0 hz1 hz2
  clear HI HB HF HX HU1 hn2 hn1
  have HI3 := Lib.hid hR.out.1
  have HB3 := Lib.hid hR.out.2.1
  have HF3 := Lib.hid hR.out.2.2.1
  have HX3 := Lib.hid hR.out.2.2.2
  have HU3 := Lib.hid (up_below HU00.out HB3.out h0)
  have z3 := HB3.out.size
  have lb3 := LibA.IsBuffer.lt HI3.out
  clear hR
  have hL9 := textB_lens fn m t HFN.out HM.out HZL.out
  have HLL := Lib.hid hL9
  clear hL9
  obtain ⟨L, hL⟩ : ∃ L, intL fn = L := ⟨_, rfl⟩
  have HC : Hid (∀ W, Up w0 W → Calls Tryz.prog 82 #[.int .i64 fn] W fun e w' => e = .returned (.string ⟨L.toArray⟩) ∧ Up W w') := Lib.hid (fun W hW => by rw [← hL]; exact itoa_calls fn HFN.out.1 HFN.out.2 W (HT.out W hW))
  have ll9 : L.length ≤ 101 := by rw [← hL]; exact intL_len fn HFN.out.1 HFN.out.2
  have HST : Hid ((⟨#[47, 70]⟩ : ByteArray) ++ ⟨L.toArray⟩ ++ ⟨#[32, 49, 32, 84, 102, 10]⟩ = ⟨([47, 70] ++ (L ++ [32, 49, 32, 84, 102, 10])).toArray⟩) := Lib.hid (((congrArg (fun z : ByteArray => z ++ (⟨#[32, 49, 32, 84, 102, 10]⟩ : ByteArray)) (str_app [47, 70] L)).trans (str_app _ [32, 49, 32, 84, 102, 10])).trans (by simp))
  have n1 : ¬ (9223372036854775807 < 2 + L.length) := by omega
  have n2 : ¬ (9223372036854775807 < 2 + L.length + 6) := by omega
  have HL := Lib.hid hL
  clear hL
  go_wp2_with (go_at_call 21; ((refine Calls.mono (line_calls _ B b (bs) [66, 84] none 0 0 [] _ (HI3.out.old ?_) ?_ (irow_none _ _) (fun z hz => by cases hz) (by decide) ?_) ?_); (focus ((repeat' (first | (with_reducible first | exact Up.refl _ | assumption | refine Up.alloc ?_ _ | refine Up.drew ?_ | refine Up.drewN ?_ _ | refine Up.setCell ?_ ?_ _ | refine Up.call ?_ (by assumption)) | go_size)))); (focus (first | (simp; omega) | omega)); (focus (have h1 := HLL.out.1; have h2 := HLL.out.2; (try simp only [List.length_append, List.length_cons, List.length_nil] at h1 h2 ⊢); omega)); rintro e w4 ⟨rfl, hI, hb2, ho⟩; have ho2 := ((OK.refl b w3).upc (show Up w3 _ by (repeat' (first | (with_reducible first | exact Up.refl _ | assumption | refine Up.alloc ?_ _ | refine Up.drew ?_ | refine Up.drewN ?_ _ | refine Up.setCell ?_ ?_ _ | refine Up.call ?_ (by assumption)) | go_size)))).tr ho; have HI4 := Lib.hid hI; have HB4 := Lib.hid (HB3.out.trans (Below.trans ((show Up w3 _ by (repeat' (first | (with_reducible first | exact Up.refl _ | assumption | refine Up.alloc ?_ _ | refine Up.drew ?_ | refine Up.drewN ?_ _ | refine Up.setCell ?_ ?_ _ | refine Up.call ?_ (by assumption)) | go_size))).mono (by omega)) hb2)); have HF4 := Lib.hid (HF3.out.kept ho2); have HX4 := Lib.hid (HX3.out.kept ho2 hn0); have HU4 := Lib.hid (up_below HU00.out HB4.out h0); have z4 := HB4.out.size; have lb4 := LibA.IsBuffer.lt HI4.out; clear hI hb2 ho ho2))
  go_cut [] from 27 (fun wx => Hid (WBuf (⟨so, ou, cv, fv'⟩ : Wm).R B b (bs ++ lineB [66, 84] [] ++ ([47, 70] ++ (L ++ [32, 49, 32, 84, 102, 10]))) wx ∧ Below B w wx ∧ Fo wx B b fv' F' ∧ Bx 50 wx w.heap.size #[.int .i64 k, .slice pa pl pc, .int .i64 sp, .int .i64 p0, .int .i64 p1, .int .i64 p2, .int .i64 p3, .slice ca cl cc, .int .i64 wd, .int .i64 cap, .int .i64 jn, .int .i64 mt, .slice da dl dc, .int .i64 ph, .int .i64 fn, .int .i64 m.a, .int .i64 m.b, .int .i64 m.c, .int .i64 m.d, .int .i64 m.x, .int .i64 m.y, .slice ba bl bc]))
  case first =>
    have x14 := HX4.out.cell 14 rfl
    have hx4 := HX4.out.lt
    go_region_law (first
      | (go_simp; go_at_call 82; ((with_reducible refine Calls.mono (HC.out _ ?_) ?_); (focus (exact HU4.out.call (by (repeat' (first | (with_reducible first | exact Up.refl _ | assumption | refine Up.alloc ?_ _ | refine Up.drew ?_ | refine Up.drewN ?_ _ | refine Up.setCell ?_ ?_ _ | refine Up.call ?_ (by assumption)) | go_size))))); rintro e w8 ⟨rfl, hu8⟩; have z8 := hu8.size; (try simp at z8)))
      | (go_simp; go_at_call 48; ((with_reducible rw [HST.out]); (refine Calls.mono (aStr _ B b (bs ++ lineB [66, 84] []) ([47, 70] ++ (L ++ [32, 49, 32, 84, 102, 10])) _ (HI4.out.old ?_) ?_ ?_) ?_); (focus ((repeat' (first | (with_reducible first | exact Up.refl _ | assumption | refine Up.alloc ?_ _ | refine Up.drew ?_ | refine Up.drewN ?_ _ | refine Up.setCell ?_ ?_ _ | refine Up.call ?_ (by assumption)) | go_size)))); (focus (first | omega | (simp; omega))); (focus (have h1 := HLL.out.1; simp only [List.length_append, List.length_cons, List.length_nil] at h1 ⊢; omega)); rintro e w5 ⟨rfl, hI, hb2, ho⟩; have ho2 := ((OK.refl b w4).upc (show Up w4 _ by (repeat' (first | (with_reducible first | exact Up.refl _ | assumption | refine Up.alloc ?_ _ | refine Up.drew ?_ | refine Up.drewN ?_ _ | refine Up.setCell ?_ ?_ _ | refine Up.call ?_ (by assumption)) | go_size)))).tr ho; have HI5 := Lib.hid hI; have HB5 := Lib.hid (HB4.out.trans (Below.trans ((show Up w4 _ by (repeat' (first | (with_reducible first | exact Up.refl _ | assumption | refine Up.alloc ?_ _ | refine Up.drew ?_ | refine Up.drewN ?_ _ | refine Up.setCell ?_ ?_ _ | refine Up.call ?_ (by assumption)) | go_size))).mono (by omega)) hb2)); have HF5 := Lib.hid (HF4.out.kept ho2); have HX5 := Lib.hid (HX4.out.kept ho2 hn0); have HU5 := Lib.hid (up_below HU00.out HB5.out h0); have z5 := HB5.out.size; have lb5 := LibA.IsBuffer.lt HI5.out; clear hI hb2 ho ho2)))
    all_goals go_wp2
    all_goals go_meet
    all_goals (case rel => exact Lib.hid ⟨HI5.out, HB5.out, HF5.out, HX5.out⟩)
  rename World => w5
  have HI5 := Lib.hid hcut.out.1
  have HB5 := Lib.hid hcut.out.2.1
  have HF5 := Lib.hid hcut.out.2.2.1
  have HX5 := Lib.hid hcut.out.2.2.2
  have HU5 := Lib.hid (up_below HU00.out HB5.out h0)
  have z5 := HB5.out.size
  have lb5 := LibA.IsBuffer.lt HI5.out
  clear hcut
  go_upto_region 9 with (first
    | (go_at_call 21; ((refine Calls.mono (line_calls _ B b (bs ++ lineB [66, 84] [] ++ ([47, 70] ++ (L ++ [32, 49, 32, 84, 102, 10]))) [84, 109] (some ⟨w.heap.size, 15, none⟩) 6 6 [m.a, m.b, m.c, m.d, m.x, m.y] _ (HI5.out.old ?_) ?_ (Bx.irow (HX5.out.up (by (repeat' (first | (with_reducible first | exact Up.refl _ | assumption | refine Up.alloc ?_ _ | refine Up.drew ?_ | refine Up.drewN ?_ _ | refine Up.setCell ?_ ?_ _ | refine Up.call ?_ (by assumption)) | go_size)))) hn0 rfl (by decide) (by decide) row6) (rng6 HM.out) (by decide) ?_) ?_); (focus ((repeat' (first | (with_reducible first | exact Up.refl _ | assumption | refine Up.alloc ?_ _ | refine Up.drew ?_ | refine Up.drewN ?_ _ | refine Up.setCell ?_ ?_ _ | refine Up.call ?_ (by assumption)) | go_size)))); (focus (first | (simp; omega) | omega)); (focus (have h1 := HLL.out.1; have h2 := HLL.out.2; (try simp only [List.length_append, List.length_cons, List.length_nil] at h1 h2 ⊢); omega)); rintro e w6 ⟨rfl, hI, hb2, ho⟩; have ho2 := ((OK.refl b w5).upc (show Up w5 _ by (repeat' (first | (with_reducible first | exact Up.refl _ | assumption | refine Up.alloc ?_ _ | refine Up.drew ?_ | refine Up.drewN ?_ _ | refine Up.setCell ?_ ?_ _ | refine Up.call ?_ (by assumption)) | go_size)))).tr ho; have HI6 := Lib.hid hI; have HB6 := Lib.hid (HB5.out.trans (Below.trans ((show Up w5 _ by (repeat' (first | (with_reducible first | exact Up.refl _ | assumption | refine Up.alloc ?_ _ | refine Up.drew ?_ | refine Up.drewN ?_ _ | refine Up.setCell ?_ ?_ _ | refine Up.call ?_ (by assumption)) | go_size))).mono (by omega)) hb2)); have HF6 := Lib.hid (HF5.out.kept ho2); have HX6 := Lib.hid (HX5.out.kept ho2 hn0); have HU6 := Lib.hid (up_below HU00.out HB6.out h0); have z6 := HB6.out.size; have lb6 := LibA.IsBuffer.lt HI6.out; clear hI hb2 ho ho2; have x21 := HX6.out.cell 21 rfl; have hx6 := HX6.out.lt; have cv6 := HCV.out w6 HU6.out))
    | (go_at_call 83; ((with_reducible refine (strO_print t HZL.out _ (HT.out _ (HU6.out.call (by (repeat' (first | (with_reducible first | exact Up.refl _ | assumption | refine Up.alloc ?_ _ | refine Up.drew ?_ | refine Up.drewN ?_ _ | refine Up.setCell ?_ ?_ _ | refine Up.call ?_ (by assumption)) | go_size)))))).mono ?_); rintro e w7 ⟨v7, rfl, hv7, hu7⟩; have HV7 := Lib.hid hv7; have HU7 := Lib.hid (HU6.out.call (show Up w6 w7 by (repeat' (first | (with_reducible first | exact Up.refl _ | assumption | refine Up.alloc ?_ _ | refine Up.drew ?_ | refine Up.drewN ?_ _ | refine Up.setCell ?_ ?_ _ | refine Up.call ?_ (by assumption)) | go_size)))); have HI7 := Lib.hid (HI6.out.old (show Up w6 w7 by (repeat' (first | (with_reducible first | exact Up.refl _ | assumption | refine Up.alloc ?_ _ | refine Up.drew ?_ | refine Up.drewN ?_ _ | refine Up.setCell ?_ ?_ _ | refine Up.call ?_ (by assumption)) | go_size)))); have HB7 := Lib.hid (HB6.out.trans ((show Up w6 w7 by (repeat' (first | (with_reducible first | exact Up.refl _ | assumption | refine Up.alloc ?_ _ | refine Up.drew ?_ | refine Up.drewN ?_ _ | refine Up.setCell ?_ ?_ _ | refine Up.call ?_ (by assumption)) | go_size))).mono (by omega))); have HF7 := Lib.hid (HF6.out.up (show Up w6 w7 by (repeat' (first | (with_reducible first | exact Up.refl _ | assumption | refine Up.alloc ?_ _ | refine Up.drew ?_ | refine Up.drewN ?_ _ | refine Up.setCell ?_ ?_ _ | refine Up.call ?_ (by assumption)) | go_size)))); have HX7 := Lib.hid (HX6.out.up (show Up w6 w7 by (repeat' (first | (with_reducible first | exact Up.refl _ | assumption | refine Up.alloc ?_ _ | refine Up.drew ?_ | refine Up.drewN ?_ _ | refine Up.setCell ?_ ?_ _ | refine Up.call ?_ (by assumption)) | go_size)))); have z7 := HB7.out.size; have lb7 := LibA.IsBuffer.lt HI7.out; clear hv7))
    | (go_at_call 84; ((refine Calls.mono (aBytes _ B b (bs ++ lineB [66, 84] [] ++ ([47, 70] ++ (L ++ [32, 49, 32, 84, 102, 10])) ++ lineB [84, 109] [m.a, m.b, m.c, m.d, m.x, m.y]) (40 :: (txt t ++ [41])) v7 _ (HI7.out.old ?_) ?_ (HV7.out.up ?_) (by simp) ?_) ?_); (focus ((repeat' (first | (with_reducible first | exact Up.refl _ | assumption | refine Up.alloc ?_ _ | refine Up.drew ?_ | refine Up.drewN ?_ _ | refine Up.setCell ?_ ?_ _ | refine Up.call ?_ (by assumption)) | go_size)))); (focus (first | (simp; omega) | omega)); (focus ((repeat' (first | (with_reducible first | exact Up.refl _ | assumption | refine Up.alloc ?_ _ | refine Up.drew ?_ | refine Up.drewN ?_ _ | refine Up.setCell ?_ ?_ _ | refine Up.call ?_ (by assumption)) | go_size)))); (focus (have h1 := HLL.out.1; have h2 := HLL.out.2; (try simp only [List.length_append, List.length_cons, List.length_nil] at h1 h2 ⊢); omega)); rintro e w8 ⟨x8, rfl, hI, hb2, ho⟩; have ho2 := ((OK.refl b w7).upc (show Up w7 _ by (repeat' (first | (with_reducible first | exact Up.refl _ | assumption | refine Up.alloc ?_ _ | refine Up.drew ?_ | refine Up.drewN ?_ _ | refine Up.setCell ?_ ?_ _ | refine Up.call ?_ (by assumption)) | go_size)))).tr ho; have HI8 := Lib.hid hI; have HB8 := Lib.hid (HB7.out.trans (Below.trans ((show Up w7 _ by (repeat' (first | (with_reducible first | exact Up.refl _ | assumption | refine Up.alloc ?_ _ | refine Up.drew ?_ | refine Up.drewN ?_ _ | refine Up.setCell ?_ ?_ _ | refine Up.call ?_ (by assumption)) | go_size))).mono (by omega)) hb2)); have HF8 := Lib.hid (HF7.out.kept ho2); have HX8 := Lib.hid (HX7.out.kept ho2 hn0); have HU8 := Lib.hid (up_below HU00.out HB8.out h0); have z8 := HB8.out.size; have lb8 := LibA.IsBuffer.lt HI8.out; clear hI hb2 ho ho2))
    | (go_at_call 48; ((refine Calls.mono (aStr _ B b (bs ++ lineB [66, 84] [] ++ ([47, 70] ++ (L ++ [32, 49, 32, 84, 102, 10])) ++ lineB [84, 109] [m.a, m.b, m.c, m.d, m.x, m.y] ++ 40 :: (txt t ++ [41])) [32, 84, 106, 10] _ (HI8.out.old ?_) ?_ ?_) ?_); (focus ((repeat' (first | (with_reducible first | exact Up.refl _ | assumption | refine Up.alloc ?_ _ | refine Up.drew ?_ | refine Up.drewN ?_ _ | refine Up.setCell ?_ ?_ _ | refine Up.call ?_ (by assumption)) | go_size)))); (focus (first | (simp; omega) | omega)); (focus (have h1 := HLL.out.1; have h2 := HLL.out.2; (try simp only [List.length_append, List.length_cons, List.length_nil] at h1 h2 ⊢); omega)); rintro e w9 ⟨rfl, hI, hb2, ho⟩; have ho2 := ((OK.refl b w8).upc (show Up w8 _ by (repeat' (first | (with_reducible first | exact Up.refl _ | assumption | refine Up.alloc ?_ _ | refine Up.drew ?_ | refine Up.drewN ?_ _ | refine Up.setCell ?_ ?_ _ | refine Up.call ?_ (by assumption)) | go_size)))).tr ho; have HI9 := Lib.hid hI; have HB9 := Lib.hid (HB8.out.trans (Below.trans ((show Up w8 _ by (repeat' (first | (with_reducible first | exact Up.refl _ | assumption | refine Up.alloc ?_ _ | refine Up.drew ?_ | refine Up.drewN ?_ _ | refine Up.setCell ?_ ?_ _ | refine Up.call ?_ (by assumption)) | go_size))).mono (by omega)) hb2)); have HF9 := Lib.hid (HF8.out.kept ho2); have HX9 := Lib.hid (HX8.out.kept ho2 hn0); have HU9 := Lib.hid (up_below HU00.out HB9.out h0); have z9 := HB9.out.size; have lb9 := LibA.IsBuffer.lt HI9.out; clear hI hb2 ho ho2)))
  go_wp2_with ((go_at_call 21; ((refine Calls.mono (line_calls _ B b (bs ++ lineB [66, 84] [] ++ ([47, 70] ++ (L ++ [32, 49, 32, 84, 102, 10])) ++ lineB [84, 109] [m.a, m.b, m.c, m.d, m.x, m.y] ++ 40 :: (txt t ++ [41]) ++ [32, 84, 106, 10]) [69, 84] none 0 0 [] _ (HI9.out.old ?_) ?_ (irow_none _ _) (fun z hz => by cases hz) (by decide) ?_) ?_); (focus ((repeat' (first | (with_reducible first | exact Up.refl _ | assumption | refine Up.alloc ?_ _ | refine Up.drew ?_ | refine Up.drewN ?_ _ | refine Up.setCell ?_ ?_ _ | refine Up.call ?_ (by assumption)) | go_size)))); (focus (first | (simp; omega) | omega)); (focus (have h1 := HLL.out.1; have h2 := HLL.out.2; (try simp only [List.length_append, List.length_cons, List.length_nil] at h1 h2 ⊢); omega)); rintro e w11 ⟨rfl, hI, hb2, ho⟩; have ho2 := ((OK.refl b w9).upc (show Up w9 _ by (repeat' (first | (with_reducible first | exact Up.refl _ | assumption | refine Up.alloc ?_ _ | refine Up.drew ?_ | refine Up.drewN ?_ _ | refine Up.setCell ?_ ?_ _ | refine Up.call ?_ (by assumption)) | go_size)))).tr ho; have HI11 := Lib.hid hI; have HB11 := Lib.hid (HB9.out.trans (Below.trans ((show Up w9 _ by (repeat' (first | (with_reducible first | exact Up.refl _ | assumption | refine Up.alloc ?_ _ | refine Up.drew ?_ | refine Up.drewN ?_ _ | refine Up.setCell ?_ ?_ _ | refine Up.call ?_ (by assumption)) | go_size))).mono (by omega)) hb2)); have HF11 := Lib.hid (HF9.out.kept ho2); have HX11 := Lib.hid (HX9.out.kept ho2 hn0); have HU11 := Lib.hid (up_below HU00.out HB11.out h0); have z11 := HB11.out.size; have lb11 := LibA.IsBuffer.lt HI11.out; clear hI hb2 ho ho2; clear cv6 x21 hx6 n1 n2 ll9)))
  go_returns
  refine ⟨rfl, Lib.hid ⟨fv', ?_, HF11.out, HB11.out⟩⟩
  rw [textB_eq bs t L fn m HL.out]
  exact HI11.out

end Go.Proofs.YtpellcdggaeppaaGreatDoor.Dr
end

section
namespace Go.Proofs.YtpellcdggaeppaaGreatDoor.Dr
open Go.ChangeShapes Go.WideShapes Go.ChangeAt Go.RowKit Go.Shelf
open Go.Proofs.YtpellcdggaeppaaGreatDoor.Pob
open Go.Proofs.YtpellcdggaeppaaGreatDoor.MatM (M6)
open Go.Proofs.YtpellcdggaeppaaGreatDoor.PathM (Seg)
open Go.Proofs.YtpellcdggaeppaaGreatDoor.Path (SegV)
set_option linter.unusedVariables false
set_option linter.unusedSimpArgs false

theorem filled_any (sp p0 p1 p2 p3 : Int) (S ou : Sm) (cv fv : Value) (B b : Nat) (bs : List UInt8) (w : World) (h : WBuf (⟨S, ou, cv, fv⟩ : Wm).R B b bs w) (hBw : B ≤ w.heap.size) (hsp : sp = 1 ∨ sp = 3 ∨ sp = 4) (hp : Fit p0 ∧ Fit p1 ∧ Fit p2 ∧ Fit p3) (hlim : bs.length + 1000000 ≤ 140737488355328) :
    Calls Tryz.prog 46 #[.pointer (some ⟨b, 0, none⟩), .agg #[.int .i64 sp, .int .i64 p0, .int .i64 p1, .int .i64 p2, .int .i64 p3]] w fun e w' => e = .returned (.tuple #[]) ∧ WBuf (⟨{ S with f := ⟨sp, p0, p1, p2, p3⟩ }, ou, cv, fv⟩ : Wm).R B b (bs ++ (if (⟨sp, p0, p1, p2, p3⟩ : Col) = S.f then [] else colB [103] [114, 103] [107] ⟨sp, p0, p1, p2, p3⟩)) w' ∧ Below B w w' ∧ OK b w w' := by
  obtain ⟨⟨f0, f1, f2, f3, f4⟩, ⟨s0, s1, s2, s3, s4⟩, wd, cap, jn, mt, dv, ph⟩ := S
  by_cases he : (⟨sp, p0, p1, p2, p3⟩ : Col) = ⟨f0, f1, f2, f3, f4⟩
  · rw [if_pos he, List.append_nil]
    have h2 := filled_eq sp p0 p1 p2 p3 f0 f1 f2 f3 f4 ⟨s0, s1, s2, s3, s4⟩ wd cap jn mt ph dv ou cv fv B b bs w h hBw he
    rw [he]
    exact h2
  · rw [if_neg he]
    rcases hsp with e | e | e
    · exact filled_1 sp p0 p1 p2 p3 f0 f1 f2 f3 f4 ⟨s0, s1, s2, s3, s4⟩ wd cap jn mt ph dv ou cv fv B b bs w h hBw he e hp hlim
    · exact filled_3 sp p0 p1 p2 p3 f0 f1 f2 f3 f4 ⟨s0, s1, s2, s3, s4⟩ wd cap jn mt ph dv ou cv fv B b bs w h hBw he e hp hlim
    · exact filled_4 sp p0 p1 p2 p3 f0 f1 f2 f3 f4 ⟨s0, s1, s2, s3, s4⟩ wd cap jn mt ph dv ou cv fv B b bs w h hBw he e hp hlim
theorem stroked_any (sp p0 p1 p2 p3 : Int) (S ou : Sm) (cv fv : Value) (B b : Nat) (bs : List UInt8) (w : World) (h : WBuf (⟨S, ou, cv, fv⟩ : Wm).R B b bs w) (hBw : B ≤ w.heap.size) (hsp : sp = 1 ∨ sp = 3 ∨ sp = 4) (hp : Fit p0 ∧ Fit p1 ∧ Fit p2 ∧ Fit p3) (hlim : bs.length + 1000000 ≤ 140737488355328) :
    Calls Tryz.prog 43 #[.pointer (some ⟨b, 0, none⟩), .agg #[.int .i64 sp, .int .i64 p0, .int .i64 p1, .int .i64 p2, .int .i64 p3]] w fun e w' => e = .returned (.tuple #[]) ∧ WBuf (⟨{ S with s := ⟨sp, p0, p1, p2, p3⟩ }, ou, cv, fv⟩ : Wm).R B b (bs ++ (if (⟨sp, p0, p1, p2, p3⟩ : Col) = S.s then [] else colB [71] [82, 71] [75] ⟨sp, p0, p1, p2, p3⟩)) w' ∧ Below B w w' ∧ OK b w w' := by
  obtain ⟨⟨f0, f1, f2, f3, f4⟩, ⟨s0, s1, s2, s3, s4⟩, wd, cap, jn, mt, dv, ph⟩ := S
  by_cases he : (⟨sp, p0, p1, p2, p3⟩ : Col) = ⟨s0, s1, s2, s3, s4⟩
  · rw [if_pos he, List.append_nil]
    have h2 := stroked_eq sp p0 p1 p2 p3 s0 s1 s2 s3 s4 ⟨f0, f1, f2, f3, f4⟩ wd cap jn mt ph dv ou cv fv B b bs w h hBw he
    rw [he]
    exact h2
  · rw [if_neg he]
    rcases hsp with e | e | e
    · exact stroked_1 sp p0 p1 p2 p3 s0 s1 s2 s3 s4 ⟨f0, f1, f2, f3, f4⟩ wd cap jn mt ph dv ou cv fv B b bs w h hBw he e hp hlim
    · exact stroked_3 sp p0 p1 p2 p3 s0 s1 s2 s3 s4 ⟨f0, f1, f2, f3, f4⟩ wd cap jn mt ph dv ou cv fv B b bs w h hBw he e hp hlim
    · exact stroked_4 sp p0 p1 p2 p3 s0 s1 s2 s3 s4 ⟨f0, f1, f2, f3, f4⟩ wd cap jn mt ph dv ou cv fv B b bs w h hBw he e hp hlim
theorem drawn_any (wd cap jn mt ph : Int) (da : Option Addr) (dl dc : Nat) (ds : List Int) (S ou : Sm) (eds : List Int) (cv fv : Value) (B b : Nat) (bs : List UInt8) (w0 w : World) (h : WBuf (⟨S, ou, cv, fv⟩ : Wm).R B b bs w) (hBw : B ≤ w.heap.size) (hd : Ints .i64 w0 (.slice da dl dc) ds) (he : Ints .i64 w0 S.dv eds) (hdn : ds.length = dl) (hdl : dl ≤ 1000) (hf : Fit wd ∧ Fit cap ∧ Fit jn ∧ Fit mt ∧ Fit ph) (hdf : ∀ z ∈ ds, Fit z) (h0 : w0.heap.size ≤ B) (hu : Up w0 w) (ht : PTab w0) (hlim : bs.length + 300000000 ≤ 140737488355328) :
    Calls Tryz.prog 44 #[.pointer (some ⟨b, 0, none⟩), .agg #[.int .i64 wd, .int .i64 cap, .int .i64 jn, .int .i64 mt, .slice da dl dc, .int .i64 ph]] w fun e w' => e = .returned (.tuple #[]) ∧ WBuf (⟨⟨S.f, S.s, wd, cap, jn, mt, .slice da dl dc, ph⟩, ou, cv, fv⟩ : Wm).R B b (bs ++ penB ⟨S.wd, S.cap, S.jn, S.mt, eds, S.ph⟩ ⟨wd, cap, jn, mt, ds, ph⟩) w' ∧ Below B w w' ∧ OK b w w' := by
  obtain ⟨f, s, wo, co, jo, mo, dv, po⟩ := S
  obtain ⟨ea, ec, hv, _⟩ := id he
  have hv2 : dv = .slice ea eds.length ec := hv
  subst hv2
  exact drawn_calls wd cap jn mt ph da dl dc ds f s wo co jo mo po ea eds.length ec eds ou cv fv B b bs w0 w h hBw hd he hdn hdl hf hdf h0 hu ht hlim
/-- what is so in memory is what is so -/
structure SoIs (w0 : World) (S : Sm) (d : SoD) : Prop where
  f : S.f = d.fill
  s : S.s = d.stroke
  wd : S.wd = d.pen.wd
  cap : S.cap = d.pen.cap
  jn : S.jn = d.pen.jn
  mt : S.mt = d.pen.mt
  ph : S.ph = d.pen.ph
  dv : Ints .i64 w0 S.dv d.pen.ds
theorem SoIs.one {w0 : World} {S : Sm} {d : SoD} (h : SoIs w0 S d) : S.dv.oneCell' = true := by
  obtain ⟨a, c, e, _⟩ := h.dv
  rw [e]; rfl
theorem SoIs.pen {w0 : World} {S : Sm} {d : SoD} (h : SoIs w0 S d) : (⟨S.wd, S.cap, S.jn, S.mt, d.pen.ds, S.ph⟩ : PenD) = d.pen := by
  obtain ⟨h1, h2, h3, h4, h5, h6, h7, h8⟩ := h
  rw [h3, h4, h5, h6, h7]
/-- a writer at work -/
structure Wr (w0 : World) (B b : Nat) (x : St) (w : World) : Prop where
  mem : ∃ (so ou : Sm) (ca : Option Addr) (n cc : Nat) (old : List Pt.Clip) (fv : Value), WBuf (⟨so, ou, .slice ca n cc, fv⟩ : Wm).R B b x.out w ∧ SoIs w0 so x.so ∧ SoIs w0 ou x.outer ∧ ClS w0 ca n old ∧ old.map cld = x.cl ∧ Fo w B b fv x.fs
theorem bound_eq (x : St) (l : List ClD) (bd q : Bool) (hbd : (decide (l.length < x.cl.length) || !decide (x.cl = l.take x.cl.length)) = bd) (hq : ((bd || decide (x.cl.length = 0)) && decide (0 < l.length)) = q) :
    boundS x l = ⟨x.out ++ (if bd then [81, 10] else []) ++ (if q then [113, 10] else []) ++ (l.drop (if bd then 0 else x.cl.length)).flatMap clipB, if bd then x.outer else x.so, if q then (if bd then x.outer else x.so) else x.outer, l, x.fs⟩ := by
  have h1 : bad x l ↔ bd = true := by
    rw [← hbd, Bool.or_eq_true, decide_eq_true_iff, Bool.not_eq_true', decide_eq_false_iff_not]
    exact Iff.rfl
  have h2 : (bd = true ∧ l ≠ []) ∨ (bd = false ∧ x.cl.length = 0 ∧ l ≠ []) ↔ q = true := by
    rw [← hq, Bool.and_eq_true, Bool.or_eq_true, decide_eq_true_iff, decide_eq_true_iff]
    have h3 : l ≠ [] ↔ 0 < l.length := by cases l <;> simp
    rw [h3]
    cases bd <;> simp
  unfold boundS
  cases bd
  · have n1 : ¬ bad x l := fun h => by have := h1.1 h; cases this
    simp only [if_neg n1, Bool.false_eq_true, if_false]
    by_cases hz : x.cl.length = 0 ∧ l ≠ []
    · have hq1 : q = true := h2.1 (Or.inr ⟨rfl, hz.1, hz.2⟩)
      simp only [if_pos hz, hq1, if_true, List.append_nil, List.append_assoc]
    · have hq1 : q = false := by
        cases hqq : q with
        | false => rfl
        | true =>
          rcases h2.2 hqq with h | h
          · cases h.1
          · exact absurd h.2 hz
      simp only [if_neg hz, hq1, Bool.false_eq_true, if_false, List.append_nil]
  · have p1 : bad x l := h1.2 rfl
    simp only [if_pos p1, if_true]
    by_cases hz : l ≠ []
    · have hq1 : q = true := h2.1 (Or.inl ⟨rfl, hz⟩)
      simp only [true_and, if_pos hz, hq1, if_true, List.append_assoc]
    · have hq1 : q = false := by
        cases hqq : q with
        | false => rfl
        | true =>
          rcases h2.2 hqq with h | h
          · exact absurd h.2 hz
          · cases h.1
      simp only [true_and, if_neg hz, hq1, Bool.false_eq_true, if_false, List.append_nil]
theorem bound_lim (x : St) (l : List ClD) (hl : l.length ≤ 1000) (hf : ∀ c ∈ l, c.1.length ≤ 10000 ∧ ∀ s ∈ c.1, SegFit s) : (boundS x l).out.length ≤ x.out.length + 10000000020000 := by
  have h9 : ∀ (l : List ClD), (∀ c ∈ l, c.1.length ≤ 10000 ∧ ∀ s ∈ c.1, SegFit s) → (l.flatMap clipB).length ≤ 10000000010 * l.length := by
    intro l
    induction l with
    | nil => intro _; simp
    | cons c l ih =>
      intro h
      have h1 := ih (fun x hx => h x (List.mem_cons_of_mem _ hx))
      have h2 := clip_lenB c (h c (by simp)).1 (h c (by simp)).2
      rw [List.flatMap_cons, List.length_append, List.length_cons, Nat.mul_add]
      omega
  rw [bound_eq x l _ _ rfl rfl]
  have h1 : ∀ k, ((l.drop k).flatMap clipB).length ≤ 10000000010 * 1000 := fun k => by
    refine Nat.le_trans (h9 _ (fun c hc => hf c (List.mem_of_mem_drop hc))) (Nat.mul_le_mul_left _ ?_)
    rw [List.length_drop]; omega
  have h2 : ∀ (b : Bool) (a : List UInt8), (if b then a else []).length ≤ a.length := fun b a => by cases b <;> simp
  have k1 := h1 (if (decide (l.length < x.cl.length) || !decide (x.cl = l.take x.cl.length)) then 0 else x.cl.length)
  have k2 := h2 (decide (l.length < x.cl.length) || !decide (x.cl = l.take x.cl.length)) [81, 10]
  have k3 := h2 (((decide (l.length < x.cl.length) || !decide (x.cl = l.take x.cl.length)) || decide (x.cl.length = 0)) && decide (0 < l.length)) [113, 10]
  simp only [List.length_append, List.length_cons, List.length_nil] at k2 k3 ⊢
  omega
/-- bound, of a writer at work -/
theorem bound_any (x : St) (la : Option Addr) (ll lc : Nat) (new : List Pt.Clip) (B b : Nat) (w0 w : World) (so ou : Sm) (ca : Option Addr) (n cc : Nat) (old : List Pt.Clip) (fv : Value) (h : WBuf (⟨so, ou, .slice ca n cc, fv⟩ : Wm).R B b x.out w) (hs : SoIs w0 so x.so) (ho : SoIs w0 ou x.outer) (hc : ClS w0 ca n old) (hcl : old.map cld = x.cl) (hF : Fo w B b fv x.fs) (hBw : B ≤ w.heap.size) (hnew : Pt.ClipV w0 (.slice la ll lc) new) (hf : ∀ c ∈ new, c.l.length ≤ 10000 ∧ ∀ s ∈ c.l, SegFit s) (hl1 : x.cl.length ≤ 1000) (hl2 : ll ≤ 1000) (h0 : w0.heap.size ≤ B) (hu : Up w0 w) (hlim : x.out.length + 20000000000000 ≤ 140737488355328) :
    Calls Tryz.prog 42 #[.pointer (some ⟨b, 0, none⟩), .slice la ll lc] w fun e w' => e = .returned (.tuple #[]) ∧ ∃ S1 U1 : Sm, WBuf (⟨S1, U1, .slice la ll lc, fv⟩ : Wm).R B b (boundS x (new.map cld)).out w' ∧ SoIs w0 S1 (boundS x (new.map cld)).so ∧ SoIs w0 U1 (boundS x (new.map cld)).outer ∧ Below B w w' ∧ OK b w w' := by
  have hn : n = x.cl.length := by rw [← hcl, List.length_map, hc.1]
  have hll : ll = (new.map cld).length := by rw [List.length_map, (ClS.of hnew).1.1]
  subst hn hll
  obtain ⟨bd, hbd⟩ : ∃ bd, (decide ((new.map cld).length < x.cl.length) || !decide (x.cl = (new.map cld).take x.cl.length)) = bd := ⟨_, rfl⟩
  obtain ⟨q, hq⟩ : ∃ q, ((bd || decide (x.cl.length = 0)) && decide (0 < (new.map cld).length)) = q := ⟨_, rfl⟩
  refine (bound_calls so ou ca _ cc old fv la _ lc new B b x.out w0 w bd q h hBw hc hnew hs.one ho.one hf (by omega) hl2 h0 hu hlim (by rw [hcl]; exact hbd) hq).mono ?_
  rintro e w' ⟨rfl, hI, hb, hk⟩
  rw [bound_eq x (new.map cld) bd q hbd hq]
  refine ⟨rfl, (if bd then ou else so), (if q then (if bd then ou else so) else ou), ?_, ?_, ?_, hb, hk⟩
  · rw [← List.map_drop, List.flatMap_map]
    exact hI
  · split <;> assumption
  · split
    · split <;> assumption
    · assumption
theorem infoItem : (Tryz.prog.info? 50).map (·.size) = some 22 := by kernel_rfl
theorem fillS_eq (y : St) (c : Col) : fillS y c = { y with out := y.out ++ (if c = y.so.fill then [] else colB [103] [114, 103] [107] c), so := { y.so with fill := c } } := by
  unfold fillS
  by_cases h : c = y.so.fill
  · rw [if_pos h, if_pos h, h, List.append_nil]
  · rw [if_neg h, if_neg h]
theorem strokeS_eq (y : St) (c : Col) : strokeS y c = { y with out := y.out ++ (if c = y.so.stroke then [] else colB [71] [82, 71] [75] c), so := { y.so with stroke := c } } := by
  unfold strokeS
  by_cases h : c = y.so.stroke
  · rw [if_pos h, if_pos h, h, List.append_nil]
  · rw [if_neg h, if_neg h]
theorem col_len (o1 o3 o4 : List UInt8) (c0 c : Col) (h1 : o1.length ≤ 100) (h3 : o3.length ≤ 100) (h4 : o4.length ≤ 100) (hp : Fit c.p0 ∧ Fit c.p1 ∧ Fit c.p2 ∧ Fit c.p3) : (if c = c0 then [] else colB o1 o3 o4 c).length ≤ 1000000 := by
  split
  · simp
  · obtain ⟨k1, k2, k3, k4⟩ := hp
    have e : ∀ z ∈ c.parts.take c.sp.toNat, -2147483648 ≤ z ∧ z ≤ 2147483647 := fun z hz => by
      have hz2 := List.mem_of_mem_take hz
      simp only [Col.parts, List.mem_cons, List.not_mem_nil, or_false] at hz2
      rcases hz2 with rfl | rfl | rfl | rfl <;> assumption
    have e2 := nums_len _ e
    have e3 : (c.parts.take c.sp.toNat).length ≤ 4 := by rw [List.length_take]; simp [Col.parts]; omega
    have e4 : 100002 * (c.parts.take c.sp.toNat).length ≤ 100002 * 4 := Nat.mul_le_mul_left _ e3
    unfold colB lineB
    rw [List.length_append, List.length_append]
    have e5 : (if c.sp = 3 then o3 else if c.sp = 4 then o4 else o1).length ≤ 100 := by split; exact h3; split; exact h4; exact h1
    simp only [List.length_cons, List.length_nil]
    omega
theorem pen_len (p o : PenD) (hf : Fit p.wd ∧ Fit p.cap ∧ Fit p.jn ∧ Fit p.mt ∧ Fit p.ph) (hd : ∀ z ∈ p.ds, Fit z) (hl : p.ds.length ≤ 1000) : (penB o p).length ≤ 200000000 := by
  obtain ⟨k1, k2, k3, k4, k5⟩ := hf
  have one : ∀ (op : List UInt8) (z : Int), op.length ≤ 100 → Fit z → (lineB op [z]).length ≤ 100200 := fun op z ho hz => by have := prP_len z hz.1 hz.2; simp only [lineB, numsB, List.flatMap_cons, List.flatMap_nil, List.append_nil, List.length_append, List.length_cons, List.length_nil]; omega
  have two : ∀ (op : List UInt8) (z : Int), op.length ≤ 100 → Fit z → (digB z op).length ≤ 300 := fun op z ho hz => by have := intL_len z hz.1 hz.2; simp only [digB, List.length_append, List.length_cons, List.length_nil]; omega
  have a1 := one [119] p.wd (by decide) k1
  have a2 := two [74] p.cap (by decide) k2
  have a3 := two [106] p.jn (by decide) k3
  have a4 := one [77] p.mt (by decide) k4
  have a5 := one [100] p.ph (by decide) k5
  have a6 := dash_len p.ds hd p.ds.length (Nat.le_refl _)
  have a7 : 100002 * p.ds.length ≤ 100002 * 1000 := Nat.mul_le_mul_left _ hl
  have h2 : ∀ (c : Prop) [Decidable c] (a : List UInt8), (if c then [] else a).length ≤ a.length := fun c _ a => by split <;> simp
  have b1 := h2 (p.wd = o.wd) (lineB [119] [p.wd])
  have b2 := h2 (p.cap = o.cap) (digB p.cap [74])
  have b3 := h2 (p.jn = o.jn) (digB p.jn [106])
  have b4 := h2 (p.mt = o.mt) (lineB [77] [p.mt])
  have b5 := h2 (p.ph = o.ph ∧ p.ds = o.ds) (dashB p)
  unfold penB
  simp only [List.length_append]
  have b6 : (dashB p).length ≤ 100002 * 1000 + 100300 := by
    simp only [dashB, List.length_append, List.length_cons, List.length_nil]
    omega
  omega

set_option maxRecDepth 8000 in
set_option maxHeartbeats 8000000 in
theorem item_stroke (k : Int) (pa : Option Addr) (pl pc : Nat) (sp p0 p1 p2 p3 : Int) (ca : Option Addr) (cl cc : Nat) (wd cap jn mt : Int) (da : Option Addr) (dl dc : Nat) (ph fn : Int) (m : M6) (ba : Option Addr) (bl bc : Nat) (hk : k = 3) (l : List Seg) (cs : List Pt.Clip) (ds zs : List Int) (x : St) (B b : Nat) (w0 w : World) (hW : Wr w0 B b x w) (hBw : B ≤ w.heap.size) (hp : SegV w0 (.slice pa pl pc) l) (hpl : l.length = pl) (hp9 : pl ≤ 10000) (hpf : ∀ s ∈ l, SegFit s) (hnew : Pt.ClipV w0 (.slice ca cl cc) cs) (hcf : ∀ c ∈ cs, c.l.length ≤ 10000 ∧ ∀ s ∈ c.l, SegFit s) (hcl2 : cl ≤ 1000) (hd : Ints .i64 w0 (.slice da dl dc) ds) (hdn : ds.length = dl) (hdl : dl ≤ 1000) (hdf : ∀ z ∈ ds, Fit z) (hpen : Fit wd ∧ Fit cap ∧ Fit jn ∧ Fit mt ∧ Fit ph) (hsp : sp = 1 ∨ sp = 3 ∨ sp = 4) (hcol : Fit p0 ∧ Fit p1 ∧ Fit p2 ∧ Fit p3) (hfn : Fit fn) (hm : Fit m.a ∧ Fit m.b ∧ Fit m.c ∧ Fit m.d ∧ Fit m.x ∧ Fit m.y) (hz : Ints .u8 w0 (.slice ba bl bc) zs) (hbl : zs.length ≤ 65535) (hxl : x.cl.length ≤ 1000) (hfl : x.fs.length ≤ 10000) (h0 : w0.heap.size ≤ B) (hu : Up w0 w) (ht : PTab w0) (hlim : x.out.length + 50000000000000 ≤ 140737488355328) :
    Calls Tryz.prog 19 #[.pointer (some ⟨b, 0, none⟩), .agg #[.int .i64 k, .slice pa pl pc, .int .i64 sp, .int .i64 p0, .int .i64 p1, .int .i64 p2, .int .i64 p3, .slice ca cl cc, .int .i64 wd, .int .i64 cap, .int .i64 jn, .int .i64 mt, .slice da dl dc, .int .i64 ph, .int .i64 fn, .int .i64 m.a, .int .i64 m.b, .int .i64 m.c, .int .i64 m.d, .int .i64 m.x, .int .i64 m.y, .slice ba bl bc]] w fun e w' => e = .returned (.tuple #[]) ∧ Wr w0 B b (itemS x ⟨k, l, (sp, p0, p1, p2, p3), cs.map cld, (wd, cap, jn, mt), ds, ph, fn, m, zs⟩) w' ∧ Below B w w' := by
  obtain ⟨so, ou, oa, n, oc, old, fv, hI0, hs0, ho0, hc0, hcl0, hf0⟩ := hW.mem
  have hb := LibA.IsBuffer.lt hI0
  have hBb := hI0.1
  have hn0 : w.heap.size ≠ b := by omega
  have HI0 := Lib.hid hI0
  have HS := Lib.hid hs0
  have HO := Lib.hid ho0
  have HC := Lib.hid hc0
  have HCL := Lib.hid hcl0
  have HF0 := Lib.hid hf0
  have HU00 := Lib.hid hu
  have HNEW := Lib.hid hnew
  have HCF := Lib.hid hcf
  have HP := Lib.hid hcol
  have HSV := Lib.hid hp
  have HLN := Lib.hid hpl
  have HFS := Lib.hid hpf
  have HD := Lib.hid hd
  have HDN := Lib.hid hdn
  have HDF := Lib.hid hdf
  have HPEN := Lib.hid hpen
  have HT := Lib.hid ht
  have HFN := Lib.hid hfn
  have HM := Lib.hid hm
  have HZ := Lib.hid hz
  have HCS := Lib.hid (ClS.of hnew).1
  have HL1 := Lib.hid (show (boundS x (cs.map cld)).out.length + 30000000000000 ≤ 140737488355328 by
    have h9 := bound_lim x (cs.map cld) (by rw [List.length_map, (ClS.of hnew).1.1]; exact hcl2) (fun c hc => by obtain ⟨c2, h2, rfl⟩ := List.mem_map.1 hc; exact hcf c2 h2)
    omega)
  have HPL := Lib.hid (show (pathB l).length ≤ 10000000000 by have h1 := path_len l hpf; have h2 : 1000000 * l.length ≤ 1000000 * 10000 := Nat.mul_le_mul_left _ (by omega); omega)
  clear hI0 hs0 ho0 hc0 hcl0 hf0 hW hu hnew hcf hcol hp hpl hpf hd hdn hdf hpen ht hfn hm hz
  have t3 : (k == 3) = true := by simp [hk]
  have HK := Lib.hid hk
  clear hk
  go_enter Tryz.func19, Tryz.ntmps19
  go_wp2_with (first
    | (go_at_call 42; ((refine Calls.mono (bound_any x ca cl cc cs B b w0 _ so ou oa n oc old fv (HI0.out.old ?_) HS.out HO.out HC.out HCL.out (HF0.out.up ?_) ?_ HNEW.out HCF.out hxl hcl2 h0 ?_ ?_) ?_); (focus ((repeat' (first | (with_reducible first | exact Up.refl _ | assumption | refine Up.alloc ?_ _ | refine Up.drew ?_ | refine Up.drewN ?_ _ | refine Up.setCell ?_ ?_ _ | refine Up.call ?_ (by assumption)) | go_size)))); (focus ((repeat' (first | (with_reducible first | exact Up.refl _ | assumption | refine Up.alloc ?_ _ | refine Up.drew ?_ | refine Up.drewN ?_ _ | refine Up.setCell ?_ ?_ _ | refine Up.call ?_ (by assumption)) | go_size)))); (focus (first | (simp; omega) | omega)); (focus (exact HU00.out.call (by (repeat' (first | (with_reducible first | exact Up.refl _ | assumption | refine Up.alloc ?_ _ | refine Up.drew ?_ | refine Up.drewN ?_ _ | refine Up.setCell ?_ ?_ _ | refine Up.call ?_ (by assumption)) | go_size))))); (focus (omega)); rintro e w1 ⟨rfl, S1, U1, hI, hs1, hu1, hb2, ho⟩; have HS1 := Lib.hid hs1; have HO1 := Lib.hid hu1; clear hs1 hu1; have ho2 := ((OK.refl b w).upc (show Up w _ by (repeat' (first | (with_reducible first | exact Up.refl _ | assumption | refine Up.alloc ?_ _ | refine Up.drew ?_ | refine Up.drewN ?_ _ | refine Up.setCell ?_ ?_ _ | refine Up.call ?_ (by assumption)) | go_size)))).tr ho; have HI1 := Lib.hid hI; have HB1 := Lib.hid (Below.trans ((show Up w _ by (repeat' (first | (with_reducible first | exact Up.refl _ | assumption | refine Up.alloc ?_ _ | refine Up.drew ?_ | refine Up.drewN ?_ _ | refine Up.setCell ?_ ?_ _ | refine Up.call ?_ (by assumption)) | go_size))).mono hBw) hb2); have HF1 := Lib.hid (HF0.out.kept ho2); have HX1 := Lib.hid ((Bx.new 50 (by decide) w #[.int .i64 k, .slice pa pl pc, .int .i64 sp, .int .i64 p0, .int .i64 p1, .int .i64 p2, .int .i64 p3, .slice ca cl cc, .int .i64 wd, .int .i64 cap, .int .i64 jn, .int .i64 mt, .slice da dl dc, .int .i64 ph, .int .i64 fn, .int .i64 m.a, .int .i64 m.b, .int .i64 m.c, .int .i64 m.d, .int .i64 m.x, .int .i64 m.y, .slice ba bl bc]).kept ho hn0); have HU1 := Lib.hid (up_below HU00.out HB1.out h0); have z1 := HB1.out.size; have lb1 := LibA.IsBuffer.lt HI1.out; have lx1 := HX1.out.lt; clear hI hb2 ho ho2; have x1_0 := HX1.out.cell 0 rfl; have x1_2 := HX1.out.cell 2 rfl; have x1_3 := HX1.out.cell 3 rfl; have x1_4 := HX1.out.cell 4 rfl; have x1_5 := HX1.out.cell 5 rfl; have x1_6 := HX1.out.cell 6 rfl))
    | (go_at_call 43; ((refine Calls.mono (stroked_any sp p0 p1 p2 p3 S1 U1 (.slice ca cl cc) fv B b _ _ (HI1.out.old ?_) ?_ hsp HP.out ?_) ?_); (focus ((repeat' (first | (with_reducible first | exact Up.refl _ | assumption | refine Up.alloc ?_ _ | refine Up.drew ?_ | refine Up.drewN ?_ _ | refine Up.setCell ?_ ?_ _ | refine Up.call ?_ (by assumption)) | go_size)))); (focus (first | (simp; omega) | omega)); (focus (have h9 := HL1.out; omega)); rintro e w2 ⟨rfl, hI, hb2, ho⟩; have ho2 := ((OK.refl b w1).upc (show Up w1 _ by (repeat' (first | (with_reducible first | exact Up.refl _ | assumption | refine Up.alloc ?_ _ | refine Up.drew ?_ | refine Up.drewN ?_ _ | refine Up.setCell ?_ ?_ _ | refine Up.call ?_ (by assumption)) | go_size)))).tr ho; have HI2 := Lib.hid hI; have HB2 := Lib.hid (HB1.out.trans (Below.trans ((show Up w1 _ by (repeat' (first | (with_reducible first | exact Up.refl _ | assumption | refine Up.alloc ?_ _ | refine Up.drew ?_ | refine Up.drewN ?_ _ | refine Up.setCell ?_ ?_ _ | refine Up.call ?_ (by assumption)) | go_size))).mono (by omega)) hb2)); have HF2 := Lib.hid (HF1.out.kept ho2); have HX2 := Lib.hid (HX1.out.kept ho2 hn0); have HU2 := Lib.hid (up_below HU00.out HB2.out h0); have z2 := HB2.out.size; have lb2 := LibA.IsBuffer.lt HI2.out; have lx2 := HX2.out.lt; clear hI hb2 ho ho2; have x2_8 := HX2.out.cell 8 rfl; have x2_9 := HX2.out.cell 9 rfl; have x2_10 := HX2.out.cell 10 rfl; have x2_11 := HX2.out.cell 11 rfl; have x2_12 := HX2.out.cell 12 rfl; have x2_13 := HX2.out.cell 13 rfl; have HCB := Lib.hid (col_len [71] [82, 71] [75] S1.s ⟨sp, p0, p1, p2, p3⟩ (by decide) (by decide) (by decide) HP.out)))
    | (go_at_call 44; ((refine Calls.mono (drawn_any wd cap jn mt ph da dl dc ds { S1 with s := ⟨sp, p0, p1, p2, p3⟩ } U1 (boundS x (cs.map cld)).so.pen.ds (.slice ca cl cc) fv B b _ w0 _ (HI2.out.old ?_) ?_ HD.out HS1.out.dv HDN.out hdl HPEN.out HDF.out h0 ?_ HT.out ?_) ?_); (focus ((repeat' (first | (with_reducible first | exact Up.refl _ | assumption | refine Up.alloc ?_ _ | refine Up.drew ?_ | refine Up.drewN ?_ _ | refine Up.setCell ?_ ?_ _ | refine Up.call ?_ (by assumption)) | go_size)))); (focus (first | (simp; omega) | omega)); (focus (exact HU2.out.call (by (repeat' (first | (with_reducible first | exact Up.refl _ | assumption | refine Up.alloc ?_ _ | refine Up.drew ?_ | refine Up.drewN ?_ _ | refine Up.setCell ?_ ?_ _ | refine Up.call ?_ (by assumption)) | go_size))))); (focus (have h1 := HL1.out; have h_HCB := HCB.out; (try simp only [List.length_append]); omega)); rintro e w3 ⟨rfl, hI, hb2, ho⟩; have HPB := Lib.hid (pen_len ⟨wd, cap, jn, mt, ds, ph⟩ ⟨S1.wd, S1.cap, S1.jn, S1.mt, (boundS x (cs.map cld)).so.pen.ds, S1.ph⟩ HPEN.out HDF.out (by show ds.length ≤ 1000; have := HDN.out; omega)); have ho2 := ((OK.refl b w2).upc (show Up w2 _ by (repeat' (first | (with_reducible first | exact Up.refl _ | assumption | refine Up.alloc ?_ _ | refine Up.drew ?_ | refine Up.drewN ?_ _ | refine Up.setCell ?_ ?_ _ | refine Up.call ?_ (by assumption)) | go_size)))).tr ho; have HI3 := Lib.hid hI; have HB3 := Lib.hid (HB2.out.trans (Below.trans ((show Up w2 _ by (repeat' (first | (with_reducible first | exact Up.refl _ | assumption | refine Up.alloc ?_ _ | refine Up.drew ?_ | refine Up.drewN ?_ _ | refine Up.setCell ?_ ?_ _ | refine Up.call ?_ (by assumption)) | go_size))).mono (by omega)) hb2)); have HF3 := Lib.hid (HF2.out.kept ho2); have HX3 := Lib.hid (HX2.out.kept ho2 hn0); have HU3 := Lib.hid (up_below HU00.out HB3.out h0); have z3 := HB3.out.size; have lb3 := LibA.IsBuffer.lt HI3.out; have lx3 := HX3.out.lt; clear hI hb2 ho ho2; have x3_1 := HX3.out.cell 1 rfl))
    | (go_at_call 45; ((refine Calls.mono (path_calls _ B b ((boundS x (cs.map cld)).out ++ (if (⟨sp, p0, p1, p2, p3⟩ : Col) = S1.s then [] else colB [71] [82, 71] [75] ⟨sp, p0, p1, p2, p3⟩) ++ penB ⟨S1.wd, S1.cap, S1.jn, S1.mt, (boundS x (cs.map cld)).so.pen.ds, S1.ph⟩ ⟨wd, cap, jn, mt, ds, ph⟩) pa pl pc l w0 _ HSV.out HLN.out (by omega) HFS.out h0 ?_ (HI3.out.old ?_) ?_ ?_) ?_); (focus (exact HU3.out.call (by (repeat' (first | (with_reducible first | exact Up.refl _ | assumption | refine Up.alloc ?_ _ | refine Up.drew ?_ | refine Up.drewN ?_ _ | refine Up.setCell ?_ ?_ _ | refine Up.call ?_ (by assumption)) | go_size))))); (focus ((repeat' (first | (with_reducible first | exact Up.refl _ | assumption | refine Up.alloc ?_ _ | refine Up.drew ?_ | refine Up.drewN ?_ _ | refine Up.setCell ?_ ?_ _ | refine Up.call ?_ (by assumption)) | go_size)))); (focus (first | (simp; omega) | omega)); (focus (have h1 := HL1.out; have h_HCB := HCB.out; have h_HPB := HPB.out; (try simp only [List.length_append]); omega)); rintro e w4 ⟨rfl, hI, hb2, ho⟩; have ho2 := ((OK.refl b w3).upc (show Up w3 _ by (repeat' (first | (with_reducible first | exact Up.refl _ | assumption | refine Up.alloc ?_ _ | refine Up.drew ?_ | refine Up.drewN ?_ _ | refine Up.setCell ?_ ?_ _ | refine Up.call ?_ (by assumption)) | go_size)))).tr ho; have HI4 := Lib.hid hI; have HB4 := Lib.hid (HB3.out.trans (Below.trans ((show Up w3 _ by (repeat' (first | (with_reducible first | exact Up.refl _ | assumption | refine Up.alloc ?_ _ | refine Up.drew ?_ | refine Up.drewN ?_ _ | refine Up.setCell ?_ ?_ _ | refine Up.call ?_ (by assumption)) | go_size))).mono (by omega)) hb2)); have HF4 := Lib.hid (HF3.out.kept ho2); have HX4 := Lib.hid (HX3.out.kept ho2 hn0); have HU4 := Lib.hid (up_below HU00.out HB4.out h0); have z4 := HB4.out.size; have lb4 := LibA.IsBuffer.lt HI4.out; have lx4 := HX4.out.lt; clear hI hb2 ho ho2))
    | (go_at_call 21; ((refine Calls.mono (line_calls _ B b ((boundS x (cs.map cld)).out ++ (if (⟨sp, p0, p1, p2, p3⟩ : Col) = S1.s then [] else colB [71] [82, 71] [75] ⟨sp, p0, p1, p2, p3⟩) ++ penB ⟨S1.wd, S1.cap, S1.jn, S1.mt, (boundS x (cs.map cld)).so.pen.ds, S1.ph⟩ ⟨wd, cap, jn, mt, ds, ph⟩ ++ pathB l) [83] none 0 0 [] _ (HI4.out.old ?_) ?_ (irow_none _ _) (fun z hz => by cases hz) (by decide) ?_) ?_); (focus ((repeat' (first | (with_reducible first | exact Up.refl _ | assumption | refine Up.alloc ?_ _ | refine Up.drew ?_ | refine Up.drewN ?_ _ | refine Up.setCell ?_ ?_ _ | refine Up.call ?_ (by assumption)) | go_size)))); (focus (first | (simp; omega) | omega)); (focus (have h1 := HL1.out; have h_HCB := HCB.out; have h_HPB := HPB.out; have h_HPL := HPL.out; (try simp only [List.length_append]); omega)); rintro e w5 ⟨rfl, hI, hb2, ho⟩; have ho2 := ((OK.refl b w4).upc (show Up w4 _ by (repeat' (first | (with_reducible first | exact Up.refl _ | assumption | refine Up.alloc ?_ _ | refine Up.drew ?_ | refine Up.drewN ?_ _ | refine Up.setCell ?_ ?_ _ | refine Up.call ?_ (by assumption)) | go_size)))).tr ho; have HI5 := Lib.hid hI; have HB5 := Lib.hid (HB4.out.trans (Below.trans ((show Up w4 _ by (repeat' (first | (with_reducible first | exact Up.refl _ | assumption | refine Up.alloc ?_ _ | refine Up.drew ?_ | refine Up.drewN ?_ _ | refine Up.setCell ?_ ?_ _ | refine Up.call ?_ (by assumption)) | go_size))).mono (by omega)) hb2)); have HF5 := Lib.hid (HF4.out.kept ho2); have HX5 := Lib.hid (HX4.out.kept ho2 hn0); have HU5 := Lib.hid (up_below HU00.out HB5.out h0); have z5 := HB5.out.size; have lb5 := LibA.IsBuffer.lt HI5.out; have lx5 := HX5.out.lt; clear hI hb2 ho ho2)))
  go_returns
  refine ⟨rfl, ⟨⟨S1.f, ⟨sp, p0, p1, p2, p3⟩, wd, cap, jn, mt, .slice da dl dc, ph⟩, U1, ca, cl, cc, cs, fv, ?_, ?_, ?_, HCS.out, ?_, ?_⟩, HB5.out⟩
  · have hE : (itemS x ⟨k, l, (sp, p0, p1, p2, p3), cs.map cld, (wd, cap, jn, mt), ds, ph, fn, m, zs⟩).out = (boundS x (cs.map cld)).out ++ (if (⟨sp, p0, p1, p2, p3⟩ : Col) = S1.s then [] else colB [71] [82, 71] [75] ⟨sp, p0, p1, p2, p3⟩) ++ penB ⟨S1.wd, S1.cap, S1.jn, S1.mt, (boundS x (cs.map cld)).so.pen.ds, S1.ph⟩ ⟨wd, cap, jn, mt, ds, ph⟩ ++ pathB l ++ lineB [83] [] := by
      simp only [itemS, if_pos HK.out, pathS, penS, strokeS_eq, colOf, penOf]
      rw [← HS1.out.s, ← HS1.out.pen]
      simp only [List.append_assoc]
    rw [hE]
    exact HI5.out
  · have hE : (itemS x ⟨k, l, (sp, p0, p1, p2, p3), cs.map cld, (wd, cap, jn, mt), ds, ph, fn, m, zs⟩).so = ⟨(boundS x (cs.map cld)).so.fill, ⟨sp, p0, p1, p2, p3⟩, ⟨wd, cap, jn, mt, ds, ph⟩⟩ := by
      simp only [itemS, if_pos HK.out, pathS, penS, strokeS_eq, colOf, penOf]
    rw [hE]
    exact ⟨HS1.out.f, rfl, rfl, rfl, rfl, rfl, rfl, HD.out⟩
  · have hE : (itemS x ⟨k, l, (sp, p0, p1, p2, p3), cs.map cld, (wd, cap, jn, mt), ds, ph, fn, m, zs⟩).outer = (boundS x (cs.map cld)).outer := by
      simp only [itemS, if_pos HK.out, pathS, penS, strokeS_eq, colOf, penOf]
    rw [hE]
    exact HO1.out
  · simp only [itemS, if_pos HK.out, pathS, penS, strokeS_eq, colOf, penOf]
    rfl
  · have hE : (itemS x ⟨k, l, (sp, p0, p1, p2, p3), cs.map cld, (wd, cap, jn, mt), ds, ph, fn, m, zs⟩).fs = x.fs := by
      simp only [itemS, if_pos HK.out, pathS, penS, strokeS_eq, colOf, penOf]
      rfl
    rw [hE]
    exact HF5.out

set_option maxRecDepth 8000 in
set_option maxHeartbeats 8000000 in
theorem item_fill (k : Int) (pa : Option Addr) (pl pc : Nat) (sp p0 p1 p2 p3 : Int) (ca : Option Addr) (cl cc : Nat) (wd cap jn mt : Int) (da : Option Addr) (dl dc : Nat) (ph fn : Int) (m : M6) (ba : Option Addr) (bl bc : Nat) (hk : k = 1) (l : List Seg) (cs : List Pt.Clip) (ds zs : List Int) (x : St) (B b : Nat) (w0 w : World) (hW : Wr w0 B b x w) (hBw : B ≤ w.heap.size) (hp : SegV w0 (.slice pa pl pc) l) (hpl : l.length = pl) (hp9 : pl ≤ 10000) (hpf : ∀ s ∈ l, SegFit s) (hnew : Pt.ClipV w0 (.slice ca cl cc) cs) (hcf : ∀ c ∈ cs, c.l.length ≤ 10000 ∧ ∀ s ∈ c.l, SegFit s) (hcl2 : cl ≤ 1000) (hd : Ints .i64 w0 (.slice da dl dc) ds) (hdn : ds.length = dl) (hdl : dl ≤ 1000) (hdf : ∀ z ∈ ds, Fit z) (hpen : Fit wd ∧ Fit cap ∧ Fit jn ∧ Fit mt ∧ Fit ph) (hsp : sp = 1 ∨ sp = 3 ∨ sp = 4) (hcol : Fit p0 ∧ Fit p1 ∧ Fit p2 ∧ Fit p3) (hfn : Fit fn) (hm : Fit m.a ∧ Fit m.b ∧ Fit m.c ∧ Fit m.d ∧ Fit m.x ∧ Fit m.y) (hz : Ints .u8 w0 (.slice ba bl bc) zs) (hbl : zs.length ≤ 65535) (hxl : x.cl.length ≤ 1000) (hfl : x.fs.length ≤ 10000) (h0 : w0.heap.size ≤ B) (hu : Up w0 w) (ht : PTab w0) (hlim : x.out.length + 50000000000000 ≤ 140737488355328) :
    Calls Tryz.prog 19 #[.pointer (some ⟨b, 0, none⟩), .agg #[.int .i64 k, .slice pa pl pc, .int .i64 sp, .int .i64 p0, .int .i64 p1, .int .i64 p2, .int .i64 p3, .slice ca cl cc, .int .i64 wd, .int .i64 cap, .int .i64 jn, .int .i64 mt, .slice da dl dc, .int .i64 ph, .int .i64 fn, .int .i64 m.a, .int .i64 m.b, .int .i64 m.c, .int .i64 m.d, .int .i64 m.x, .int .i64 m.y, .slice ba bl bc]] w fun e w' => e = .returned (.tuple #[]) ∧ Wr w0 B b (itemS x ⟨k, l, (sp, p0, p1, p2, p3), cs.map cld, (wd, cap, jn, mt), ds, ph, fn, m, zs⟩) w' ∧ Below B w w' := by
  obtain ⟨so, ou, oa, n, oc, old, fv, hI0, hs0, ho0, hc0, hcl0, hf0⟩ := hW.mem
  have hb := LibA.IsBuffer.lt hI0
  have hBb := hI0.1
  have hn0 : w.heap.size ≠ b := by omega
  have HI0 := Lib.hid hI0
  have HS := Lib.hid hs0
  have HO := Lib.hid ho0
  have HC := Lib.hid hc0
  have HCL := Lib.hid hcl0
  have HF0 := Lib.hid hf0
  have HU00 := Lib.hid hu
  have HNEW := Lib.hid hnew
  have HCF := Lib.hid hcf
  have HP := Lib.hid hcol
  have HSV := Lib.hid hp
  have HLN := Lib.hid hpl
  have HFS := Lib.hid hpf
  have HD := Lib.hid hd
  have HDN := Lib.hid hdn
  have HDF := Lib.hid hdf
  have HPEN := Lib.hid hpen
  have HT := Lib.hid ht
  have HFN := Lib.hid hfn
  have HM := Lib.hid hm
  have HZ := Lib.hid hz
  have HCS := Lib.hid (ClS.of hnew).1
  have HL1 := Lib.hid (show (boundS x (cs.map cld)).out.length + 30000000000000 ≤ 140737488355328 by
    have h9 := bound_lim x (cs.map cld) (by rw [List.length_map, (ClS.of hnew).1.1]; exact hcl2) (fun c hc => by obtain ⟨c2, h2, rfl⟩ := List.mem_map.1 hc; exact hcf c2 h2)
    omega)
  have HPL := Lib.hid (show (pathB l).length ≤ 10000000000 by have h1 := path_len l hpf; have h2 : 1000000 * l.length ≤ 1000000 * 10000 := Nat.mul_le_mul_left _ (by omega); omega)
  clear hI0 hs0 ho0 hc0 hcl0 hf0 hW hu hnew hcf hcol hp hpl hpf hd hdn hdf hpen ht hfn hm hz
  have t3 : (k == 3) = false := by simp [hk]
  have t4 : (k == 4) = false := by simp [hk]
  have t1 : (k == 1) = true := by simp [hk]
  have HK := Lib.hid (show k ≠ 3 ∧ k ≠ 4 ∧ k = 1 by refine ⟨?_, ?_, hk⟩ <;> omega)
  clear hk
  go_enter Tryz.func19, Tryz.ntmps19
  go_wp2_with (first
    | (go_at_call 42; ((refine Calls.mono (bound_any x ca cl cc cs B b w0 _ so ou oa n oc old fv (HI0.out.old ?_) HS.out HO.out HC.out HCL.out (HF0.out.up ?_) ?_ HNEW.out HCF.out hxl hcl2 h0 ?_ ?_) ?_); (focus ((repeat' (first | (with_reducible first | exact Up.refl _ | assumption | refine Up.alloc ?_ _ | refine Up.drew ?_ | refine Up.drewN ?_ _ | refine Up.setCell ?_ ?_ _ | refine Up.call ?_ (by assumption)) | go_size)))); (focus ((repeat' (first | (with_reducible first | exact Up.refl _ | assumption | refine Up.alloc ?_ _ | refine Up.drew ?_ | refine Up.drewN ?_ _ | refine Up.setCell ?_ ?_ _ | refine Up.call ?_ (by assumption)) | go_size)))); (focus (first | (simp; omega) | omega)); (focus (exact HU00.out.call (by (repeat' (first | (with_reducible first | exact Up.refl _ | assumption | refine Up.alloc ?_ _ | refine Up.drew ?_ | refine Up.drewN ?_ _ | refine Up.setCell ?_ ?_ _ | refine Up.call ?_ (by assumption)) | go_size))))); (focus (omega)); rintro e w1 ⟨rfl, S1, U1, hI, hs1, hu1, hb2, ho⟩; have HS1 := Lib.hid hs1; have HO1 := Lib.hid hu1; clear hs1 hu1; have ho2 := ((OK.refl b w).upc (show Up w _ by (repeat' (first | (with_reducible first | exact Up.refl _ | assumption | refine Up.alloc ?_ _ | refine Up.drew ?_ | refine Up.drewN ?_ _ | refine Up.setCell ?_ ?_ _ | refine Up.call ?_ (by assumption)) | go_size)))).tr ho; have HI1 := Lib.hid hI; have HB1 := Lib.hid (Below.trans ((show Up w _ by (repeat' (first | (with_reducible first | exact Up.refl _ | assumption | refine Up.alloc ?_ _ | refine Up.drew ?_ | refine Up.drewN ?_ _ | refine Up.setCell ?_ ?_ _ | refine Up.call ?_ (by assumption)) | go_size))).mono hBw) hb2); have HF1 := Lib.hid (HF0.out.kept ho2); have HX1 := Lib.hid ((Bx.new 50 (by decide) w #[.int .i64 k, .slice pa pl pc, .int .i64 sp, .int .i64 p0, .int .i64 p1, .int .i64 p2, .int .i64 p3, .slice ca cl cc, .int .i64 wd, .int .i64 cap, .int .i64 jn, .int .i64 mt, .slice da dl dc, .int .i64 ph, .int .i64 fn, .int .i64 m.a, .int .i64 m.b, .int .i64 m.c, .int .i64 m.d, .int .i64 m.x, .int .i64 m.y, .slice ba bl bc]).kept ho hn0); have HU1 := Lib.hid (up_below HU00.out HB1.out h0); have z1 := HB1.out.size; have lb1 := LibA.IsBuffer.lt HI1.out; have lx1 := HX1.out.lt; clear hI hb2 ho ho2; have x1_0 := HX1.out.cell 0 rfl; have x1_2 := HX1.out.cell 2 rfl; have x1_3 := HX1.out.cell 3 rfl; have x1_4 := HX1.out.cell 4 rfl; have x1_5 := HX1.out.cell 5 rfl; have x1_6 := HX1.out.cell 6 rfl))
    | (go_at_call 46; ((refine Calls.mono (filled_any sp p0 p1 p2 p3 S1 U1 (.slice ca cl cc) fv B b _ _ (HI1.out.old ?_) ?_ hsp HP.out ?_) ?_); (focus ((repeat' (first | (with_reducible first | exact Up.refl _ | assumption | refine Up.alloc ?_ _ | refine Up.drew ?_ | refine Up.drewN ?_ _ | refine Up.setCell ?_ ?_ _ | refine Up.call ?_ (by assumption)) | go_size)))); (focus (first | (simp; omega) | omega)); (focus (have h9 := HL1.out; omega)); rintro e w2 ⟨rfl, hI, hb2, ho⟩; have ho2 := ((OK.refl b w1).upc (show Up w1 _ by (repeat' (first | (with_reducible first | exact Up.refl _ | assumption | refine Up.alloc ?_ _ | refine Up.drew ?_ | refine Up.drewN ?_ _ | refine Up.setCell ?_ ?_ _ | refine Up.call ?_ (by assumption)) | go_size)))).tr ho; have HI2 := Lib.hid hI; have HB2 := Lib.hid (HB1.out.trans (Below.trans ((show Up w1 _ by (repeat' (first | (with_reducible first | exact Up.refl _ | assumption | refine Up.alloc ?_ _ | refine Up.drew ?_ | refine Up.drewN ?_ _ | refine Up.setCell ?_ ?_ _ | refine Up.call ?_ (by assumption)) | go_size))).mono (by omega)) hb2)); have HF2 := Lib.hid (HF1.out.kept ho2); have HX2 := Lib.hid (HX1.out.kept ho2 hn0); have HU2 := Lib.hid (up_below HU00.out HB2.out h0); have z2 := HB2.out.size; have lb2 := LibA.IsBuffer.lt HI2.out; have lx2 := HX2.out.lt; clear hI hb2 ho ho2; have x2_0 := HX2.out.cell 0 rfl; have x2_1 := HX2.out.cell 1 rfl; have HCB := Lib.hid (col_len [103] [114, 103] [107] S1.f ⟨sp, p0, p1, p2, p3⟩ (by decide) (by decide) (by decide) HP.out)))
    | (go_at_call 45; ((refine Calls.mono (path_calls _ B b ((boundS x (cs.map cld)).out ++ (if (⟨sp, p0, p1, p2, p3⟩ : Col) = S1.f then [] else colB [103] [114, 103] [107] ⟨sp, p0, p1, p2, p3⟩)) pa pl pc l w0 _ HSV.out HLN.out (by omega) HFS.out h0 ?_ (HI2.out.old ?_) ?_ ?_) ?_); (focus (exact HU2.out.call (by (repeat' (first | (with_reducible first | exact Up.refl _ | assumption | refine Up.alloc ?_ _ | refine Up.drew ?_ | refine Up.drewN ?_ _ | refine Up.setCell ?_ ?_ _ | refine Up.call ?_ (by assumption)) | go_size))))); (focus ((repeat' (first | (with_reducible first | exact Up.refl _ | assumption | refine Up.alloc ?_ _ | refine Up.drew ?_ | refine Up.drewN ?_ _ | refine Up.setCell ?_ ?_ _ | refine Up.call ?_ (by assumption)) | go_size)))); (focus (first | (simp; omega) | omega)); (focus (have h1 := HL1.out; have h_HCB := HCB.out; (try simp only [List.length_append]); omega)); rintro e w3 ⟨rfl, hI, hb2, ho⟩; have ho2 := ((OK.refl b w2).upc (show Up w2 _ by (repeat' (first | (with_reducible first | exact Up.refl _ | assumption | refine Up.alloc ?_ _ | refine Up.drew ?_ | refine Up.drewN ?_ _ | refine Up.setCell ?_ ?_ _ | refine Up.call ?_ (by assumption)) | go_size)))).tr ho; have HI3 := Lib.hid hI; have HB3 := Lib.hid (HB2.out.trans (Below.trans ((show Up w2 _ by (repeat' (first | (with_reducible first | exact Up.refl _ | assumption | refine Up.alloc ?_ _ | refine Up.drew ?_ | refine Up.drewN ?_ _ | refine Up.setCell ?_ ?_ _ | refine Up.call ?_ (by assumption)) | go_size))).mono (by omega)) hb2)); have HF3 := Lib.hid (HF2.out.kept ho2); have HX3 := Lib.hid (HX2.out.kept ho2 hn0); have HU3 := Lib.hid (up_below HU00.out HB3.out h0); have z3 := HB3.out.size; have lb3 := LibA.IsBuffer.lt HI3.out; have lx3 := HX3.out.lt; clear hI hb2 ho ho2))
    | (go_at_call 21; ((refine Calls.mono (line_calls _ B b ((boundS x (cs.map cld)).out ++ (if (⟨sp, p0, p1, p2, p3⟩ : Col) = S1.f then [] else colB [103] [114, 103] [107] ⟨sp, p0, p1, p2, p3⟩) ++ pathB l) [102] none 0 0 [] _ (HI3.out.old ?_) ?_ (irow_none _ _) (fun z hz => by cases hz) (by decide) ?_) ?_); (focus ((repeat' (first | (with_reducible first | exact Up.refl _ | assumption | refine Up.alloc ?_ _ | refine Up.drew ?_ | refine Up.drewN ?_ _ | refine Up.setCell ?_ ?_ _ | refine Up.call ?_ (by assumption)) | go_size)))); (focus (first | (simp; omega) | omega)); (focus (have h1 := HL1.out; have h_HCB := HCB.out; have h_HPL := HPL.out; (try simp only [List.length_append]); omega)); rintro e w4 ⟨rfl, hI, hb2, ho⟩; have ho2 := ((OK.refl b w3).upc (show Up w3 _ by (repeat' (first | (with_reducible first | exact Up.refl _ | assumption | refine Up.alloc ?_ _ | refine Up.drew ?_ | refine Up.drewN ?_ _ | refine Up.setCell ?_ ?_ _ | refine Up.call ?_ (by assumption)) | go_size)))).tr ho; have HI4 := Lib.hid hI; have HB4 := Lib.hid (HB3.out.trans (Below.trans ((show Up w3 _ by (repeat' (first | (with_reducible first | exact Up.refl _ | assumption | refine Up.alloc ?_ _ | refine Up.drew ?_ | refine Up.drewN ?_ _ | refine Up.setCell ?_ ?_ _ | refine Up.call ?_ (by assumption)) | go_size))).mono (by omega)) hb2)); have HF4 := Lib.hid (HF3.out.kept ho2); have HX4 := Lib.hid (HX3.out.kept ho2 hn0); have HU4 := Lib.hid (up_below HU00.out HB4.out h0); have z4 := HB4.out.size; have lb4 := LibA.IsBuffer.lt HI4.out; have lx4 := HX4.out.lt; clear hI hb2 ho ho2)))
  go_returns
  refine ⟨rfl, ⟨{ S1 with f := ⟨sp, p0, p1, p2, p3⟩ }, U1, ca, cl, cc, cs, fv, ?_, ?_, ?_, HCS.out, ?_, ?_⟩, HB4.out⟩
  · have hE : (itemS x ⟨k, l, (sp, p0, p1, p2, p3), cs.map cld, (wd, cap, jn, mt), ds, ph, fn, m, zs⟩).out = (boundS x (cs.map cld)).out ++ (if (⟨sp, p0, p1, p2, p3⟩ : Col) = S1.f then [] else colB [103] [114, 103] [107] ⟨sp, p0, p1, p2, p3⟩) ++ pathB l ++ lineB [102] [] := by
      simp only [itemS, if_neg HK.out.1, if_neg HK.out.2.1, if_pos HK.out.2.2, pathS, fillS_eq, colOf]
      rw [← HS1.out.f]
      simp only [List.append_assoc]
    rw [hE]
    exact HI4.out
  · have hE : (itemS x ⟨k, l, (sp, p0, p1, p2, p3), cs.map cld, (wd, cap, jn, mt), ds, ph, fn, m, zs⟩).so = { (boundS x (cs.map cld)).so with fill := ⟨sp, p0, p1, p2, p3⟩ } := by
      simp only [itemS, if_neg HK.out.1, if_neg HK.out.2.1, if_pos HK.out.2.2, pathS, fillS_eq, colOf]
    obtain ⟨q1, q2, q3, q4, q5, q6, q7, q8⟩ := HS1.out
    rw [hE]
    exact ⟨rfl, q2, q3, q4, q5, q6, q7, q8⟩
  · have hE : (itemS x ⟨k, l, (sp, p0, p1, p2, p3), cs.map cld, (wd, cap, jn, mt), ds, ph, fn, m, zs⟩).outer = (boundS x (cs.map cld)).outer := by
      simp only [itemS, if_neg HK.out.1, if_neg HK.out.2.1, if_pos HK.out.2.2, pathS, fillS_eq, colOf]
    rw [hE]
    exact HO1.out
  · simp only [itemS, if_neg HK.out.1, if_neg HK.out.2.1, if_pos HK.out.2.2, pathS, fillS_eq, colOf]
    rfl
  · have hE : (itemS x ⟨k, l, (sp, p0, p1, p2, p3), cs.map cld, (wd, cap, jn, mt), ds, ph, fn, m, zs⟩).fs = x.fs := by
      simp only [itemS, if_neg HK.out.1, if_neg HK.out.2.1, if_pos HK.out.2.2, pathS, fillS_eq, colOf]
      rfl
    rw [hE]
    exact HF4.out

set_option maxRecDepth 8000 in
set_option maxHeartbeats 8000000 in
theorem item_even (k : Int) (pa : Option Addr) (pl pc : Nat) (sp p0 p1 p2 p3 : Int) (ca : Option Addr) (cl cc : Nat) (wd cap jn mt : Int) (da : Option Addr) (dl dc : Nat) (ph fn : Int) (m : M6) (ba : Option Addr) (bl bc : Nat) (h3 : k ≠ 3) (h4 : k ≠ 4) (h1 : k ≠ 1) (l : List Seg) (cs : List Pt.Clip) (ds zs : List Int) (x : St) (B b : Nat) (w0 w : World) (hW : Wr w0 B b x w) (hBw : B ≤ w.heap.size) (hp : SegV w0 (.slice pa pl pc) l) (hpl : l.length = pl) (hp9 : pl ≤ 10000) (hpf : ∀ s ∈ l, SegFit s) (hnew : Pt.ClipV w0 (.slice ca cl cc) cs) (hcf : ∀ c ∈ cs, c.l.length ≤ 10000 ∧ ∀ s ∈ c.l, SegFit s) (hcl2 : cl ≤ 1000) (hd : Ints .i64 w0 (.slice da dl dc) ds) (hdn : ds.length = dl) (hdl : dl ≤ 1000) (hdf : ∀ z ∈ ds, Fit z) (hpen : Fit wd ∧ Fit cap ∧ Fit jn ∧ Fit mt ∧ Fit ph) (hsp : sp = 1 ∨ sp = 3 ∨ sp = 4) (hcol : Fit p0 ∧ Fit p1 ∧ Fit p2 ∧ Fit p3) (hfn : Fit fn) (hm : Fit m.a ∧ Fit m.b ∧ Fit m.c ∧ Fit m.d ∧ Fit m.x ∧ Fit m.y) (hz : Ints .u8 w0 (.slice ba bl bc) zs) (hbl : zs.length ≤ 65535) (hxl : x.cl.length ≤ 1000) (hfl : x.fs.length ≤ 10000) (h0 : w0.heap.size ≤ B) (hu : Up w0 w) (ht : PTab w0) (hlim : x.out.length + 50000000000000 ≤ 140737488355328) :
    Calls Tryz.prog 19 #[.pointer (some ⟨b, 0, none⟩), .agg #[.int .i64 k, .slice pa pl pc, .int .i64 sp, .int .i64 p0, .int .i64 p1, .int .i64 p2, .int .i64 p3, .slice ca cl cc, .int .i64 wd, .int .i64 cap, .int .i64 jn, .int .i64 mt, .slice da dl dc, .int .i64 ph, .int .i64 fn, .int .i64 m.a, .int .i64 m.b, .int .i64 m.c, .int .i64 m.d, .int .i64 m.x, .int .i64 m.y, .slice ba bl bc]] w fun e w' => e = .returned (.tuple #[]) ∧ Wr w0 B b (itemS x ⟨k, l, (sp, p0, p1, p2, p3), cs.map cld, (wd, cap, jn, mt), ds, ph, fn, m, zs⟩) w' ∧ Below B w w' := by
  obtain ⟨so, ou, oa, n, oc, old, fv, hI0, hs0, ho0, hc0, hcl0, hf0⟩ := hW.mem
  have hb := LibA.IsBuffer.lt hI0
  have hBb := hI0.1
  have hn0 : w.heap.size ≠ b := by omega
  have HI0 := Lib.hid hI0
  have HS := Lib.hid hs0
  have HO := Lib.hid ho0
  have HC := Lib.hid hc0
  have HCL := Lib.hid hcl0
  have HF0 := Lib.hid hf0
  have HU00 := Lib.hid hu
  have HNEW := Lib.hid hnew
  have HCF := Lib.hid hcf
  have HP := Lib.hid hcol
  have HSV := Lib.hid hp
  have HLN := Lib.hid hpl
  have HFS := Lib.hid hpf
  have HD := Lib.hid hd
  have HDN := Lib.hid hdn
  have HDF := Lib.hid hdf
  have HPEN := Lib.hid hpen
  have HT := Lib.hid ht
  have HFN := Lib.hid hfn
  have HM := Lib.hid hm
  have HZ := Lib.hid hz
  have HCS := Lib.hid (ClS.of hnew).1
  have HL1 := Lib.hid (show (boundS x (cs.map cld)).out.length + 30000000000000 ≤ 140737488355328 by
    have h9 := bound_lim x (cs.map cld) (by rw [List.length_map, (ClS.of hnew).1.1]; exact hcl2) (fun c hc => by obtain ⟨c2, h2, rfl⟩ := List.mem_map.1 hc; exact hcf c2 h2)
    omega)
  have HPL := Lib.hid (show (pathB l).length ≤ 10000000000 by have h1 := path_len l hpf; have h2 : 1000000 * l.length ≤ 1000000 * 10000 := Nat.mul_le_mul_left _ (by omega); omega)
  clear hI0 hs0 ho0 hc0 hcl0 hf0 hW hu hnew hcf hcol hp hpl hpf hd hdn hdf hpen ht hfn hm hz
  have t3 : (k == 3) = false := by simpa using h3
  have t4 : (k == 4) = false := by simpa using h4
  have t1 : (k == 1) = false := by simpa using h1
  have HK := Lib.hid (And.intro h3 (And.intro h4 h1))
  clear h3 h4 h1
  go_enter Tryz.func19, Tryz.ntmps19
  go_wp2_with (first
    | (go_at_call 42; ((refine Calls.mono (bound_any x ca cl cc cs B b w0 _ so ou oa n oc old fv (HI0.out.old ?_) HS.out HO.out HC.out HCL.out (HF0.out.up ?_) ?_ HNEW.out HCF.out hxl hcl2 h0 ?_ ?_) ?_); (focus ((repeat' (first | (with_reducible first | exact Up.refl _ | assumption | refine Up.alloc ?_ _ | refine Up.drew ?_ | refine Up.drewN ?_ _ | refine Up.setCell ?_ ?_ _ | refine Up.call ?_ (by assumption)) | go_size)))); (focus ((repeat' (first | (with_reducible first | exact Up.refl _ | assumption | refine Up.alloc ?_ _ | refine Up.drew ?_ | refine Up.drewN ?_ _ | refine Up.setCell ?_ ?_ _ | refine Up.call ?_ (by assumption)) | go_size)))); (focus (first | (simp; omega) | omega)); (focus (exact HU00.out.call (by (repeat' (first | (with_reducible first | exact Up.refl _ | assumption | refine Up.alloc ?_ _ | refine Up.drew ?_ | refine Up.drewN ?_ _ | refine Up.setCell ?_ ?_ _ | refine Up.call ?_ (by assumption)) | go_size))))); (focus (omega)); rintro e w1 ⟨rfl, S1, U1, hI, hs1, hu1, hb2, ho⟩; have HS1 := Lib.hid hs1; have HO1 := Lib.hid hu1; clear hs1 hu1; have ho2 := ((OK.refl b w).upc (show Up w _ by (repeat' (first | (with_reducible first | exact Up.refl _ | assumption | refine Up.alloc ?_ _ | refine Up.drew ?_ | refine Up.drewN ?_ _ | refine Up.setCell ?_ ?_ _ | refine Up.call ?_ (by assumption)) | go_size)))).tr ho; have HI1 := Lib.hid hI; have HB1 := Lib.hid (Below.trans ((show Up w _ by (repeat' (first | (with_reducible first | exact Up.refl _ | assumption | refine Up.alloc ?_ _ | refine Up.drew ?_ | refine Up.drewN ?_ _ | refine Up.setCell ?_ ?_ _ | refine Up.call ?_ (by assumption)) | go_size))).mono hBw) hb2); have HF1 := Lib.hid (HF0.out.kept ho2); have HX1 := Lib.hid ((Bx.new 50 (by decide) w #[.int .i64 k, .slice pa pl pc, .int .i64 sp, .int .i64 p0, .int .i64 p1, .int .i64 p2, .int .i64 p3, .slice ca cl cc, .int .i64 wd, .int .i64 cap, .int .i64 jn, .int .i64 mt, .slice da dl dc, .int .i64 ph, .int .i64 fn, .int .i64 m.a, .int .i64 m.b, .int .i64 m.c, .int .i64 m.d, .int .i64 m.x, .int .i64 m.y, .slice ba bl bc]).kept ho hn0); have HU1 := Lib.hid (up_below HU00.out HB1.out h0); have z1 := HB1.out.size; have lb1 := LibA.IsBuffer.lt HI1.out; have lx1 := HX1.out.lt; clear hI hb2 ho ho2; have x1_0 := HX1.out.cell 0 rfl; have x1_2 := HX1.out.cell 2 rfl; have x1_3 := HX1.out.cell 3 rfl; have x1_4 := HX1.out.cell 4 rfl; have x1_5 := HX1.out.cell 5 rfl; have x1_6 := HX1.out.cell 6 rfl))
    | (go_at_call 46; ((refine Calls.mono (filled_any sp p0 p1 p2 p3 S1 U1 (.slice ca cl cc) fv B b _ _ (HI1.out.old ?_) ?_ hsp HP.out ?_) ?_); (focus ((repeat' (first | (with_reducible first | exact Up.refl _ | assumption | refine Up.alloc ?_ _ | refine Up.drew ?_ | refine Up.drewN ?_ _ | refine Up.setCell ?_ ?_ _ | refine Up.call ?_ (by assumption)) | go_size)))); (focus (first | (simp; omega) | omega)); (focus (have h9 := HL1.out; omega)); rintro e w2 ⟨rfl, hI, hb2, ho⟩; have ho2 := ((OK.refl b w1).upc (show Up w1 _ by (repeat' (first | (with_reducible first | exact Up.refl _ | assumption | refine Up.alloc ?_ _ | refine Up.drew ?_ | refine Up.drewN ?_ _ | refine Up.setCell ?_ ?_ _ | refine Up.call ?_ (by assumption)) | go_size)))).tr ho; have HI2 := Lib.hid hI; have HB2 := Lib.hid (HB1.out.trans (Below.trans ((show Up w1 _ by (repeat' (first | (with_reducible first | exact Up.refl _ | assumption | refine Up.alloc ?_ _ | refine Up.drew ?_ | refine Up.drewN ?_ _ | refine Up.setCell ?_ ?_ _ | refine Up.call ?_ (by assumption)) | go_size))).mono (by omega)) hb2)); have HF2 := Lib.hid (HF1.out.kept ho2); have HX2 := Lib.hid (HX1.out.kept ho2 hn0); have HU2 := Lib.hid (up_below HU00.out HB2.out h0); have z2 := HB2.out.size; have lb2 := LibA.IsBuffer.lt HI2.out; have lx2 := HX2.out.lt; clear hI hb2 ho ho2; have x2_0 := HX2.out.cell 0 rfl; have x2_1 := HX2.out.cell 1 rfl; have HCB := Lib.hid (col_len [103] [114, 103] [107] S1.f ⟨sp, p0, p1, p2, p3⟩ (by decide) (by decide) (by decide) HP.out)))
    | (go_at_call 45; ((refine Calls.mono (path_calls _ B b ((boundS x (cs.map cld)).out ++ (if (⟨sp, p0, p1, p2, p3⟩ : Col) = S1.f then [] else colB [103] [114, 103] [107] ⟨sp, p0, p1, p2, p3⟩)) pa pl pc l w0 _ HSV.out HLN.out (by omega) HFS.out h0 ?_ (HI2.out.old ?_) ?_ ?_) ?_); (focus (exact HU2.out.call (by (repeat' (first | (with_reducible first | exact Up.refl _ | assumption | refine Up.alloc ?_ _ | refine Up.drew ?_ | refine Up.drewN ?_ _ | refine Up.setCell ?_ ?_ _ | refine Up.call ?_ (by assumption)) | go_size))))); (focus ((repeat' (first | (with_reducible first | exact Up.refl _ | assumption | refine Up.alloc ?_ _ | refine Up.drew ?_ | refine Up.drewN ?_ _ | refine Up.setCell ?_ ?_ _ | refine Up.call ?_ (by assumption)) | go_size)))); (focus (first | (simp; omega) | omega)); (focus (have h1 := HL1.out; have h_HCB := HCB.out; (try simp only [List.length_append]); omega)); rintro e w3 ⟨rfl, hI, hb2, ho⟩; have ho2 := ((OK.refl b w2).upc (show Up w2 _ by (repeat' (first | (with_reducible first | exact Up.refl _ | assumption | refine Up.alloc ?_ _ | refine Up.drew ?_ | refine Up.drewN ?_ _ | refine Up.setCell ?_ ?_ _ | refine Up.call ?_ (by assumption)) | go_size)))).tr ho; have HI3 := Lib.hid hI; have HB3 := Lib.hid (HB2.out.trans (Below.trans ((show Up w2 _ by (repeat' (first | (with_reducible first | exact Up.refl _ | assumption | refine Up.alloc ?_ _ | refine Up.drew ?_ | refine Up.drewN ?_ _ | refine Up.setCell ?_ ?_ _ | refine Up.call ?_ (by assumption)) | go_size))).mono (by omega)) hb2)); have HF3 := Lib.hid (HF2.out.kept ho2); have HX3 := Lib.hid (HX2.out.kept ho2 hn0); have HU3 := Lib.hid (up_below HU00.out HB3.out h0); have z3 := HB3.out.size; have lb3 := LibA.IsBuffer.lt HI3.out; have lx3 := HX3.out.lt; clear hI hb2 ho ho2))
    | (go_at_call 21; ((refine Calls.mono (line_calls _ B b ((boundS x (cs.map cld)).out ++ (if (⟨sp, p0, p1, p2, p3⟩ : Col) = S1.f then [] else colB [103] [114, 103] [107] ⟨sp, p0, p1, p2, p3⟩) ++ pathB l) [102, 42] none 0 0 [] _ (HI3.out.old ?_) ?_ (irow_none _ _) (fun z hz => by cases hz) (by decide) ?_) ?_); (focus ((repeat' (first | (with_reducible first | exact Up.refl _ | assumption | refine Up.alloc ?_ _ | refine Up.drew ?_ | refine Up.drewN ?_ _ | refine Up.setCell ?_ ?_ _ | refine Up.call ?_ (by assumption)) | go_size)))); (focus (first | (simp; omega) | omega)); (focus (have h1 := HL1.out; have h_HCB := HCB.out; have h_HPL := HPL.out; (try simp only [List.length_append]); omega)); rintro e w4 ⟨rfl, hI, hb2, ho⟩; have ho2 := ((OK.refl b w3).upc (show Up w3 _ by (repeat' (first | (with_reducible first | exact Up.refl _ | assumption | refine Up.alloc ?_ _ | refine Up.drew ?_ | refine Up.drewN ?_ _ | refine Up.setCell ?_ ?_ _ | refine Up.call ?_ (by assumption)) | go_size)))).tr ho; have HI4 := Lib.hid hI; have HB4 := Lib.hid (HB3.out.trans (Below.trans ((show Up w3 _ by (repeat' (first | (with_reducible first | exact Up.refl _ | assumption | refine Up.alloc ?_ _ | refine Up.drew ?_ | refine Up.drewN ?_ _ | refine Up.setCell ?_ ?_ _ | refine Up.call ?_ (by assumption)) | go_size))).mono (by omega)) hb2)); have HF4 := Lib.hid (HF3.out.kept ho2); have HX4 := Lib.hid (HX3.out.kept ho2 hn0); have HU4 := Lib.hid (up_below HU00.out HB4.out h0); have z4 := HB4.out.size; have lb4 := LibA.IsBuffer.lt HI4.out; have lx4 := HX4.out.lt; clear hI hb2 ho ho2)))
  go_returns
  refine ⟨rfl, ⟨{ S1 with f := ⟨sp, p0, p1, p2, p3⟩ }, U1, ca, cl, cc, cs, fv, ?_, ?_, ?_, HCS.out, ?_, ?_⟩, HB4.out⟩
  · have hE : (itemS x ⟨k, l, (sp, p0, p1, p2, p3), cs.map cld, (wd, cap, jn, mt), ds, ph, fn, m, zs⟩).out = (boundS x (cs.map cld)).out ++ (if (⟨sp, p0, p1, p2, p3⟩ : Col) = S1.f then [] else colB [103] [114, 103] [107] ⟨sp, p0, p1, p2, p3⟩) ++ pathB l ++ lineB [102, 42] [] := by
      simp only [itemS, if_neg HK.out.1, if_neg HK.out.2.1, if_neg HK.out.2.2, pathS, fillS_eq, colOf]
      rw [← HS1.out.f]
      simp only [List.append_assoc]
    rw [hE]
    exact HI4.out
  · have hE : (itemS x ⟨k, l, (sp, p0, p1, p2, p3), cs.map cld, (wd, cap, jn, mt), ds, ph, fn, m, zs⟩).so = { (boundS x (cs.map cld)).so with fill := ⟨sp, p0, p1, p2, p3⟩ } := by
      simp only [itemS, if_neg HK.out.1, if_neg HK.out.2.1, if_neg HK.out.2.2, pathS, fillS_eq, colOf]
    obtain ⟨q1, q2, q3, q4, q5, q6, q7, q8⟩ := HS1.out
    rw [hE]
    exact ⟨rfl, q2, q3, q4, q5, q6, q7, q8⟩
  · have hE : (itemS x ⟨k, l, (sp, p0, p1, p2, p3), cs.map cld, (wd, cap, jn, mt), ds, ph, fn, m, zs⟩).outer = (boundS x (cs.map cld)).outer := by
      simp only [itemS, if_neg HK.out.1, if_neg HK.out.2.1, if_neg HK.out.2.2, pathS, fillS_eq, colOf]
    rw [hE]
    exact HO1.out
  · simp only [itemS, if_neg HK.out.1, if_neg HK.out.2.1, if_neg HK.out.2.2, pathS, fillS_eq, colOf]
    rfl
  · have hE : (itemS x ⟨k, l, (sp, p0, p1, p2, p3), cs.map cld, (wd, cap, jn, mt), ds, ph, fn, m, zs⟩).fs = x.fs := by
      simp only [itemS, if_neg HK.out.1, if_neg HK.out.2.1, if_neg HK.out.2.2, pathS, fillS_eq, colOf]
      rfl
    rw [hE]
    exact HF4.out

set_option maxRecDepth 8000 in
set_option maxHeartbeats 8000000 in
theorem item_text (k : Int) (pa : Option Addr) (pl pc : Nat) (sp p0 p1 p2 p3 : Int) (ca : Option Addr) (cl cc : Nat) (wd cap jn mt : Int) (da : Option Addr) (dl dc : Nat) (ph fn : Int) (m : M6) (ba : Option Addr) (bl bc : Nat) (hk : k = 4) (l : List Seg) (cs : List Pt.Clip) (ds zs : List Int) (x : St) (B b : Nat) (w0 w : World) (hW : Wr w0 B b x w) (hBw : B ≤ w.heap.size) (hp : SegV w0 (.slice pa pl pc) l) (hpl : l.length = pl) (hp9 : pl ≤ 10000) (hpf : ∀ s ∈ l, SegFit s) (hnew : Pt.ClipV w0 (.slice ca cl cc) cs) (hcf : ∀ c ∈ cs, c.l.length ≤ 10000 ∧ ∀ s ∈ c.l, SegFit s) (hcl2 : cl ≤ 1000) (hd : Ints .i64 w0 (.slice da dl dc) ds) (hdn : ds.length = dl) (hdl : dl ≤ 1000) (hdf : ∀ z ∈ ds, Fit z) (hpen : Fit wd ∧ Fit cap ∧ Fit jn ∧ Fit mt ∧ Fit ph) (hsp : sp = 1 ∨ sp = 3 ∨ sp = 4) (hcol : Fit p0 ∧ Fit p1 ∧ Fit p2 ∧ Fit p3) (hfn : Fit fn) (hm : Fit m.a ∧ Fit m.b ∧ Fit m.c ∧ Fit m.d ∧ Fit m.x ∧ Fit m.y) (hz : Ints .u8 w0 (.slice ba bl bc) zs) (hbl : zs.length ≤ 65535) (hxl : x.cl.length ≤ 1000) (hfl : x.fs.length ≤ 10000) (h0 : w0.heap.size ≤ B) (hu : Up w0 w) (ht : PTab w0) (hlim : x.out.length + 50000000000000 ≤ 140737488355328) :
    Calls Tryz.prog 19 #[.pointer (some ⟨b, 0, none⟩), .agg #[.int .i64 k, .slice pa pl pc, .int .i64 sp, .int .i64 p0, .int .i64 p1, .int .i64 p2, .int .i64 p3, .slice ca cl cc, .int .i64 wd, .int .i64 cap, .int .i64 jn, .int .i64 mt, .slice da dl dc, .int .i64 ph, .int .i64 fn, .int .i64 m.a, .int .i64 m.b, .int .i64 m.c, .int .i64 m.d, .int .i64 m.x, .int .i64 m.y, .slice ba bl bc]] w fun e w' => e = .returned (.tuple #[]) ∧ Wr w0 B b (itemS x ⟨k, l, (sp, p0, p1, p2, p3), cs.map cld, (wd, cap, jn, mt), ds, ph, fn, m, zs⟩) w' ∧ Below B w w' := by
  obtain ⟨so, ou, oa, n, oc, old, fv, hI0, hs0, ho0, hc0, hcl0, hf0⟩ := hW.mem
  have hb := LibA.IsBuffer.lt hI0
  have hBb := hI0.1
  have hn0 : w.heap.size ≠ b := by omega
  have HI0 := Lib.hid hI0
  have HS := Lib.hid hs0
  have HO := Lib.hid ho0
  have HC := Lib.hid hc0
  have HCL := Lib.hid hcl0
  have HF0 := Lib.hid hf0
  have HU00 := Lib.hid hu
  have HNEW := Lib.hid hnew
  have HCF := Lib.hid hcf
  have HP := Lib.hid hcol
  have HSV := Lib.hid hp
  have HLN := Lib.hid hpl
  have HFS := Lib.hid hpf
  have HD := Lib.hid hd
  have HDN := Lib.hid hdn
  have HDF := Lib.hid hdf
  have HPEN := Lib.hid hpen
  have HT := Lib.hid ht
  have HFN := Lib.hid hfn
  have HM := Lib.hid hm
  have HZ := Lib.hid hz
  have HCS := Lib.hid (ClS.of hnew).1
  have HL1 := Lib.hid (show (boundS x (cs.map cld)).out.length + 30000000000000 ≤ 140737488355328 by
    have h9 := bound_lim x (cs.map cld) (by rw [List.length_map, (ClS.of hnew).1.1]; exact hcl2) (fun c hc => by obtain ⟨c2, h2, rfl⟩ := List.mem_map.1 hc; exact hcf c2 h2)
    omega)
  have HPL := Lib.hid (show (pathB l).length ≤ 10000000000 by have h1 := path_len l hpf; have h2 : 1000000 * l.length ≤ 1000000 * 10000 := Nat.mul_le_mul_left _ (by omega); omega)
  clear hI0 hs0 ho0 hc0 hcl0 hf0 hW hu hnew hcf hcol hp hpl hpf hd hdn hdf hpen ht hfn hm hz
  have t3 : (k == 3) = false := by simp [hk]
  have t4 : (k == 4) = true := by simp [hk]
  have HK := Lib.hid (show k ≠ 3 ∧ k = 4 by refine ⟨?_, hk⟩; omega)
  clear hk
  go_enter Tryz.func19, Tryz.ntmps19
  go_wp2_with (first
    | (go_at_call 42; ((refine Calls.mono (bound_any x ca cl cc cs B b w0 _ so ou oa n oc old fv (HI0.out.old ?_) HS.out HO.out HC.out HCL.out (HF0.out.up ?_) ?_ HNEW.out HCF.out hxl hcl2 h0 ?_ ?_) ?_); (focus ((repeat' (first | (with_reducible first | exact Up.refl _ | assumption | refine Up.alloc ?_ _ | refine Up.drew ?_ | refine Up.drewN ?_ _ | refine Up.setCell ?_ ?_ _ | refine Up.call ?_ (by assumption)) | go_size)))); (focus ((repeat' (first | (with_reducible first | exact Up.refl _ | assumption | refine Up.alloc ?_ _ | refine Up.drew ?_ | refine Up.drewN ?_ _ | refine Up.setCell ?_ ?_ _ | refine Up.call ?_ (by assumption)) | go_size)))); (focus (first | (simp; omega) | omega)); (focus (exact HU00.out.call (by (repeat' (first | (with_reducible first | exact Up.refl _ | assumption | refine Up.alloc ?_ _ | refine Up.drew ?_ | refine Up.drewN ?_ _ | refine Up.setCell ?_ ?_ _ | refine Up.call ?_ (by assumption)) | go_size))))); (focus (omega)); rintro e w1 ⟨rfl, S1, U1, hI, hs1, hu1, hb2, ho⟩; have HS1 := Lib.hid hs1; have HO1 := Lib.hid hu1; clear hs1 hu1; have ho2 := ((OK.refl b w).upc (show Up w _ by (repeat' (first | (with_reducible first | exact Up.refl _ | assumption | refine Up.alloc ?_ _ | refine Up.drew ?_ | refine Up.drewN ?_ _ | refine Up.setCell ?_ ?_ _ | refine Up.call ?_ (by assumption)) | go_size)))).tr ho; have HI1 := Lib.hid hI; have HB1 := Lib.hid (Below.trans ((show Up w _ by (repeat' (first | (with_reducible first | exact Up.refl _ | assumption | refine Up.alloc ?_ _ | refine Up.drew ?_ | refine Up.drewN ?_ _ | refine Up.setCell ?_ ?_ _ | refine Up.call ?_ (by assumption)) | go_size))).mono hBw) hb2); have HF1 := Lib.hid (HF0.out.kept ho2); have HX1 := Lib.hid ((Bx.new 50 (by decide) w #[.int .i64 k, .slice pa pl pc, .int .i64 sp, .int .i64 p0, .int .i64 p1, .int .i64 p2, .int .i64 p3, .slice ca cl cc, .int .i64 wd, .int .i64 cap, .int .i64 jn, .int .i64 mt, .slice da dl dc, .int .i64 ph, .int .i64 fn, .int .i64 m.a, .int .i64 m.b, .int .i64 m.c, .int .i64 m.d, .int .i64 m.x, .int .i64 m.y, .slice ba bl bc]).kept ho hn0); have HU1 := Lib.hid (up_below HU00.out HB1.out h0); have z1 := HB1.out.size; have lb1 := LibA.IsBuffer.lt HI1.out; have lx1 := HX1.out.lt; clear hI hb2 ho ho2; have x1_0 := HX1.out.cell 0 rfl; have x1_2 := HX1.out.cell 2 rfl; have x1_3 := HX1.out.cell 3 rfl; have x1_4 := HX1.out.cell 4 rfl; have x1_5 := HX1.out.cell 5 rfl; have x1_6 := HX1.out.cell 6 rfl))
    | (go_at_call 46; ((refine Calls.mono (filled_any sp p0 p1 p2 p3 S1 U1 (.slice ca cl cc) fv B b _ _ (HI1.out.old ?_) ?_ hsp HP.out ?_) ?_); (focus ((repeat' (first | (with_reducible first | exact Up.refl _ | assumption | refine Up.alloc ?_ _ | refine Up.drew ?_ | refine Up.drewN ?_ _ | refine Up.setCell ?_ ?_ _ | refine Up.call ?_ (by assumption)) | go_size)))); (focus (first | (simp; omega) | omega)); (focus (have h9 := HL1.out; omega)); rintro e w2 ⟨rfl, hI, hb2, ho⟩; have ho2 := ((OK.refl b w1).upc (show Up w1 _ by (repeat' (first | (with_reducible first | exact Up.refl _ | assumption | refine Up.alloc ?_ _ | refine Up.drew ?_ | refine Up.drewN ?_ _ | refine Up.setCell ?_ ?_ _ | refine Up.call ?_ (by assumption)) | go_size)))).tr ho; have HI2 := Lib.hid hI; have HB2 := Lib.hid (HB1.out.trans (Below.trans ((show Up w1 _ by (repeat' (first | (with_reducible first | exact Up.refl _ | assumption | refine Up.alloc ?_ _ | refine Up.drew ?_ | refine Up.drewN ?_ _ | refine Up.setCell ?_ ?_ _ | refine Up.call ?_ (by assumption)) | go_size))).mono (by omega)) hb2)); have HF2 := Lib.hid (HF1.out.kept ho2); have HX2 := Lib.hid (HX1.out.kept ho2 hn0); have HU2 := Lib.hid (up_below HU00.out HB2.out h0); have z2 := HB2.out.size; have lb2 := LibA.IsBuffer.lt HI2.out; have lx2 := HX2.out.lt; clear hI hb2 ho ho2; have x2_0 := HX2.out.cell 0 rfl; have HCB := Lib.hid (col_len [103] [114, 103] [107] S1.f ⟨sp, p0, p1, p2, p3⟩ (by decide) (by decide) (by decide) HP.out)))
    | ((refine at_op (.load 50 (.tmp 3)) rfl ?_); (refine wpList_load_mid rfl 50 (.tmp 3) rfl w.heap.size 0 rfl [.int .i64 k, .slice pa pl pc, .int .i64 sp, .int .i64 p0, .int .i64 p1, .int .i64 p2, .int .i64 p3, .slice ca cl cc, .int .i64 wd, .int .i64 cap, .int .i64 jn, .int .i64 mt, .slice da dl dc, .int .i64 ph, .int .i64 fn, .int .i64 m.a, .int .i64 m.b, .int .i64 m.c, .int .i64 m.d, .int .i64 m.x, .int .i64 m.y, .slice ba bl bc] _ (fun q u hq => by rw [Nat.zero_add]; exact HX2.out.cell q (by simpa using hq)) Tryz.underlying50 rfl infoItem ?_))
    | (go_at_call 47; ((refine Calls.mono (text_calls k pa pl pc sp p0 p1 p2 p3 ca cl cc wd cap jn mt da dl dc ph fn m ba bl bc zs { S1 with f := ⟨sp, p0, p1, p2, p3⟩ } U1 (.slice ca cl cc) fv x.fs B b ((boundS x (cs.map cld)).out ++ (if (⟨sp, p0, p1, p2, p3⟩ : Col) = S1.f then [] else colB [103] [114, 103] [107] ⟨sp, p0, p1, p2, p3⟩)) w0 _ (HI2.out.old ?_) ?_ (HF2.out.up ?_) hfl HFN.out HM.out HZ.out hbl h0 ?_ HT.out ?_) ?_); (focus ((repeat' (first | (with_reducible first | exact Up.refl _ | assumption | refine Up.alloc ?_ _ | refine Up.drew ?_ | refine Up.drewN ?_ _ | refine Up.setCell ?_ ?_ _ | refine Up.call ?_ (by assumption)) | go_size)))); (focus (first | (simp; omega) | omega)); (focus ((repeat' (first | (with_reducible first | exact Up.refl _ | assumption | refine Up.alloc ?_ _ | refine Up.drew ?_ | refine Up.drewN ?_ _ | refine Up.setCell ?_ ?_ _ | refine Up.call ?_ (by assumption)) | go_size)))); (focus (exact HU2.out.call (by (repeat' (first | (with_reducible first | exact Up.refl _ | assumption | refine Up.alloc ?_ _ | refine Up.drew ?_ | refine Up.drewN ?_ _ | refine Up.setCell ?_ ?_ _ | refine Up.call ?_ (by assumption)) | go_size))))); (focus (have h1 := HL1.out; have h_HCB := HCB.out; (try simp only [List.length_append]); omega)); rintro e w3 ⟨rfl, hq⟩; (obtain ⟨fv', hI, hf, hb2⟩ := hq.out); clear hq; have HI3 := Lib.hid hI; have HF3 := Lib.hid hf; have HB3 := Lib.hid (HB2.out.trans (Below.trans ((show Up w2 _ by (repeat' (first | (with_reducible first | exact Up.refl _ | assumption | refine Up.alloc ?_ _ | refine Up.drew ?_ | refine Up.drewN ?_ _ | refine Up.setCell ?_ ?_ _ | refine Up.call ?_ (by assumption)) | go_size))).mono (by omega)) hb2)); clear hI hf hb2)))
  go_returns
  have hE : (itemS x ⟨k, l, (sp, p0, p1, p2, p3), cs.map cld, (wd, cap, jn, mt), ds, ph, fn, m, zs⟩).out = (boundS x (cs.map cld)).out ++ (if (⟨sp, p0, p1, p2, p3⟩ : Col) = S1.f then [] else colB [103] [114, 103] [107] ⟨sp, p0, p1, p2, p3⟩) ++ textB fn m (bytesOf zs) ∧ (itemS x ⟨k, l, (sp, p0, p1, p2, p3), cs.map cld, (wd, cap, jn, mt), ds, ph, fn, m, zs⟩).so = { (boundS x (cs.map cld)).so with fill := ⟨sp, p0, p1, p2, p3⟩ } ∧ (itemS x ⟨k, l, (sp, p0, p1, p2, p3), cs.map cld, (wd, cap, jn, mt), ds, ph, fn, m, zs⟩).outer = (boundS x (cs.map cld)).outer ∧ (itemS x ⟨k, l, (sp, p0, p1, p2, p3), cs.map cld, (wd, cap, jn, mt), ds, ph, fn, m, zs⟩).cl = cs.map cld ∧ (itemS x ⟨k, l, (sp, p0, p1, p2, p3), cs.map cld, (wd, cap, jn, mt), ds, ph, fn, m, zs⟩).fs = (if fn ∈ x.fs then x.fs else x.fs ++ [fn]) := by
    have e1 : (boundS x (cs.map cld)).fs = x.fs := rfl
    have e2 : (boundS x (cs.map cld)).cl = cs.map cld := rfl
    simp only [itemS, if_neg HK.out.1, if_pos HK.out.2, textS, fillS_eq, colOf]
    rw [← HS1.out.f]
    refine ⟨?_, ?_, ?_, ?_, ?_⟩ <;> first | trivial | exact e2 | (simp only [e1])
  refine ⟨rfl, ⟨{ S1 with f := ⟨sp, p0, p1, p2, p3⟩ }, U1, ca, cl, cc, cs, fv', ?_, ?_, ?_, HCS.out, ?_, ?_⟩, HB3.out⟩
  · rw [hE.1]
    exact HI3.out
  · obtain ⟨q1, q2, q3, q4, q5, q6, q7, q8⟩ := HS1.out
    rw [hE.2.1]
    exact ⟨rfl, q2, q3, q4, q5, q6, q7, q8⟩
  · rw [hE.2.2.1]
    exact HO1.out
  · rw [hE.2.2.2.1]
  · rw [hE.2.2.2.2]
    exact HF3.out

theorem item_any (k : Int) (pa : Option Addr) (pl pc : Nat) (sp p0 p1 p2 p3 : Int) (ca : Option Addr) (cl cc : Nat) (wd cap jn mt : Int) (da : Option Addr) (dl dc : Nat) (ph fn : Int) (m : M6) (ba : Option Addr) (bl bc : Nat) (l : List Seg) (cs : List Pt.Clip) (ds zs : List Int) (x : St) (B b : Nat) (w0 w : World) (hW : Wr w0 B b x w) (hBw : B ≤ w.heap.size) (hp : SegV w0 (.slice pa pl pc) l) (hpl : l.length = pl) (hp9 : pl ≤ 10000) (hpf : ∀ s ∈ l, SegFit s) (hnew : Pt.ClipV w0 (.slice ca cl cc) cs) (hcf : ∀ c ∈ cs, c.l.length ≤ 10000 ∧ ∀ s ∈ c.l, SegFit s) (hcl2 : cl ≤ 1000) (hd : Ints .i64 w0 (.slice da dl dc) ds) (hdn : ds.length = dl) (hdl : dl ≤ 1000) (hdf : ∀ z ∈ ds, Fit z) (hpen : Fit wd ∧ Fit cap ∧ Fit jn ∧ Fit mt ∧ Fit ph) (hsp : sp = 1 ∨ sp = 3 ∨ sp = 4) (hcol : Fit p0 ∧ Fit p1 ∧ Fit p2 ∧ Fit p3) (hfn : Fit fn) (hm : Fit m.a ∧ Fit m.b ∧ Fit m.c ∧ Fit m.d ∧ Fit m.x ∧ Fit m.y) (hz : Ints .u8 w0 (.slice ba bl bc) zs) (hbl : zs.length ≤ 65535) (hxl : x.cl.length ≤ 1000) (hfl : x.fs.length ≤ 10000) (h0 : w0.heap.size ≤ B) (hu : Up w0 w) (ht : PTab w0) (hlim : x.out.length + 50000000000000 ≤ 140737488355328) :
    Calls Tryz.prog 19 #[.pointer (some ⟨b, 0, none⟩), .agg #[.int .i64 k, .slice pa pl pc, .int .i64 sp, .int .i64 p0, .int .i64 p1, .int .i64 p2, .int .i64 p3, .slice ca cl cc, .int .i64 wd, .int .i64 cap, .int .i64 jn, .int .i64 mt, .slice da dl dc, .int .i64 ph, .int .i64 fn, .int .i64 m.a, .int .i64 m.b, .int .i64 m.c, .int .i64 m.d, .int .i64 m.x, .int .i64 m.y, .slice ba bl bc]] w fun e w' => e = .returned (.tuple #[]) ∧ Wr w0 B b (itemS x ⟨k, l, (sp, p0, p1, p2, p3), cs.map cld, (wd, cap, jn, mt), ds, ph, fn, m, zs⟩) w' ∧ Below B w w' := by
  by_cases h3 : k = 3
  · exact item_stroke k pa pl pc sp p0 p1 p2 p3 ca cl cc wd cap jn mt da dl dc ph fn m ba bl bc h3 l cs ds zs x B b w0 w hW hBw hp hpl hp9 hpf hnew hcf hcl2 hd hdn hdl hdf hpen hsp hcol hfn hm hz hbl hxl hfl h0 hu ht hlim
  by_cases h4 : k = 4
  · exact item_text k pa pl pc sp p0 p1 p2 p3 ca cl cc wd cap jn mt da dl dc ph fn m ba bl bc h4 l cs ds zs x B b w0 w hW hBw hp hpl hp9 hpf hnew hcf hcl2 hd hdn hdl hdf hpen hsp hcol hfn hm hz hbl hxl hfl h0 hu ht hlim
  by_cases h1 : k = 1
  · exact item_fill k pa pl pc sp p0 p1 p2 p3 ca cl cc wd cap jn mt da dl dc ph fn m ba bl bc h1 l cs ds zs x B b w0 w hW hBw hp hpl hp9 hpf hnew hcf hcl2 hd hdn hdl hdf hpen hsp hcol hfn hm hz hbl hxl hfl h0 hu ht hlim
  exact item_even k pa pl pc sp p0 p1 p2 p3 ca cl cc wd cap jn mt da dl dc ph fn m ba bl bc h3 h4 h1 l cs ds zs x B b w0 w hW hBw hp hpl hp9 hpf hnew hcf hcl2 hd hdn hdl hdf hpen hsp hcol hfn hm hz hbl hxl hfl h0 hu ht hlim

end Go.Proofs.YtpellcdggaeppaaGreatDoor.Dr
end

section
namespace Go.Proofs.YtpellcdggaeppaaGreatDoor.Dr
open Go.ChangeShapes Go.WideShapes Go.ChangeAt Go.RowKit Go.Shelf
open Go.Proofs.YtpellcdggaeppaaGreatDoor.Pob
open Go.Proofs.YtpellcdggaeppaaGreatDoor.Pt (raw_up)
set_option linter.unusedVariables false
set_option linter.unusedSimpArgs false

theorem len0_calls (w : World) : Calls Tryz.prog 98 #[.int .u64 0] w fun e w' => e = .returned (.int .i64 0) ∧ Up w w' := by
  go_enter Tryz.func98, Tryz.ntmps98
  go_wp2
  all_goals go_ret
  all_goals exact ⟨by rw [show wrap64 (wrap64 (Lib.len8 0)) = 0 by kernel_rfl]; rfl, by (repeat' (first | (with_reducible first | exact Up.refl _ | assumption | refine Up.alloc ?_ _ | refine Up.drew ?_ | refine Up.drewN ?_ _ | refine Up.setCell ?_ ?_ _ | refine Up.call ?_ (by assumption)) | go_size))⟩
theorem bits0_calls (w : World) : Calls Tryz.prog 51 #[.int .u64 0] w fun e w' => e = .returned (.int .i64 0) ∧ Up w w' := by
  go_enter Tryz.func51, Tryz.ntmps51
  go_wp2_with (go_at_call 98; ((refine (len0_calls _).mono ?_); rintro e w1 ⟨rfl, hu1⟩))
  all_goals go_ret
  all_goals exact ⟨rfl, by (repeat' (first | (with_reducible first | exact Up.refl _ | assumption | refine Up.alloc ?_ _ | refine Up.drew ?_ | refine Up.drewN ?_ _ | refine Up.setCell ?_ ?_ _ | refine Up.call ?_ (by assumption)) | go_size))⟩
theorem ins0_calls (p : Option Addr) (c : Nat) (w : World) : Calls Tryz.prog 88 #[.slice p 0 c, .int .i64 0, .int .i64 0] w fun e w' => e = .returned (.tuple #[]) ∧ Up w w' := by
  go_enter Tryz.func88, Tryz.ntmps88
  go_wp2
  refine wp_loop_rounds 1 ?_
  repeat any_goals (rw [rounds_succ]; go_wp2)
  go_returns
  exact ⟨rfl, by (repeat' (first | (with_reducible first | exact Up.refl _ | assumption | refine Up.alloc ?_ _ | refine Up.drew ?_ | refine Up.drewN ?_ _ | refine Up.setCell ?_ ?_ _ | refine Up.call ?_ (by assumption)) | go_size))⟩
theorem pdq0_calls (p : Option Addr) (c : Nat) (w : World) : Calls Tryz.prog 50 #[.slice p 0 c, .int .i64 0, .int .i64 0, .int .i64 0] w fun e w' => e = .returned (.tuple #[]) ∧ Up w w' := by
  go_enter Tryz.func50, Tryz.ntmps50
  go_wp2
  refine wp_loop_rounds 1 ?_
  repeat any_goals (rw [rounds_succ]; go_wp2_with (go_at_call 88; ((refine (ins0_calls p c _).mono ?_); rintro e w1 ⟨rfl, hu1⟩)))
  go_returns
  exact ⟨rfl, by (repeat' (first | (with_reducible first | exact Up.refl _ | assumption | refine Up.alloc ?_ _ | refine Up.drew ?_ | refine Up.drewN ?_ _ | refine Up.setCell ?_ ?_ _ | refine Up.call ?_ (by assumption)) | go_size))⟩
theorem sort0_calls (p : Option Addr) (c : Nat) (w : World) : Calls Tryz.prog 22 #[.slice p 0 c] w fun e w' => e = .returned (.tuple #[]) ∧ Up w w' := by
  go_enter Tryz.func22, Tryz.ntmps22
  go_wp2_with (first
    | (go_at_call 51; ((refine (bits0_calls _).mono ?_); rintro e w1 ⟨rfl, hu1⟩))
    | (go_at_call 50; ((refine (pdq0_calls p c _).mono ?_); rintro e w2 ⟨rfl, hu2⟩)))
  go_returns
  exact ⟨rfl, by (repeat' (first | (with_reducible first | exact Up.refl _ | assumption | refine Up.alloc ?_ _ | refine Up.drew ?_ | refine Up.drewN ?_ _ | refine Up.setCell ?_ ?_ _ | refine Up.call ?_ (by assumption)) | go_size))⟩
def srt (fs : List Int) : List Int := fs.mergeSort fun x y => decide (x ≤ y)
theorem srt_len (fs : List Int) : (srt fs).length = fs.length := List.length_mergeSort _
/-- the fonts' list is sorted -/
theorem sortF_calls (B b : Nat) (fv : Value) (fs : List Int) (w : World) (h : Fo w B b fv fs) (hl : fs.length ≤ 1000000) :
    Calls Tryz.prog 22 #[fv] w fun e w' => e = .returned (.tuple #[]) ∧ Fo w' B b fv (srt fs) ∧ w.grownBy w' fv.ownBlock := by
  rcases h.1.2 with ⟨rfl, h0⟩ | ⟨g, cap, cur, rfl, hb, hg, hn, hm, hcs, htk⟩
  · have e : fs = [] := List.eq_nil_of_length_eq_zero h0
    subst e
    refine (sort0_calls none 0 w).mono ?_
    rintro e w' ⟨rfl, hu⟩
    exact ⟨rfl, by have := h.up hu; simpa [srt] using this, ⟨hu.os, hu.tape, hu.output, hu.size, fun k hk _ => hu.block k hk⟩⟩
  · refine (Tryz.slices_Sort_int g 0 cap fs w (holds_of_blockI hg (by rw [Nat.mul_one] at htk; exact htk)) (Array.getElem?_eq_some_iff.1 hg).1 (by omega)).mono ?_
    rintro e w' ⟨rfl, n, os, rfl⟩
    refine ⟨rfl, ⟨?_, h.2⟩, grownBy_sortedI _⟩
    have h2 := ownsRow_sortedI (base := B) (n := n) (os := os) (ss := fs) (ts := srt fs) (srt_len fs) hb hg hn hm hcs
    rw [srt_len]
    exact h2
/-- the buffer's length -/
theorem len_calls (R : Nat → Option Value) (B b : Nat) (bs : List UInt8) (w : World) (h : WBuf R B b bs w) :
    Calls Tryz.prog 20 #[.pointer (some ⟨b, 0, none⟩)] w fun e w' => e = .returned (.int .i64 (bs.length : Nat)) ∧ Up w w' := by
  refine (Tryz.Buffer_Len_at 69 R B b 0 (Lib.byteCells bs) w h).mono ?_
  rintro e w' ⟨rfl, n, rfl⟩
  exact ⟨by rw [Lib.byteCells_length], up_drewN n⟩
set_option maxRecDepth 8000 in
/-- the buffer's bytes -/
theorem bytes_calls (R : Nat → Option Value) (B b : Nat) (bs : List UInt8) (w : World) (h : WBuf R B b bs w) :
    Calls Tryz.prog 23 #[.pointer (some ⟨b, 0, none⟩)] w fun e w' => ∃ v, e = .returned v ∧ w.ownsRow B 5 1 v bs.length (Lib.byteCells bs) ∧ Up w w' := by
  have hb := LibA.IsBuffer.lt h
  obtain ⟨hB, v, lr, ht, ho, hn⟩ := h
  rw [Lib.byteCells_length] at ho
  have c0 := ht.c0
  have c1 : w.cell? ⟨b, 1, none⟩ = some (.int .i64 0) := ht.c1
  rcases id ho.2 with ⟨rfl, h0⟩ | ⟨g, cap, cur, rfl, hbg, hg, hnc, hm, hcs, htk⟩
  · have HO := Lib.hid ho
    rw [h0] at HO ⊢
    clear ho ht hn h0
    go_enter Tryz.func23, Tryz.ntmps23
    go_wp2
    go_region
    all_goals go_wp2
    all_goals go_ret
    all_goals exact ⟨_, rfl, HO.out, by (repeat' (first | (with_reducible first | exact Up.refl _ | assumption | refine Up.alloc ?_ _ | refine Up.drew ?_ | refine Up.drewN ?_ _ | refine Up.setCell ?_ ?_ _ | refine Up.call ?_ (by assumption)) | go_size))⟩
  · have HO := Lib.hid ho
    clear ho ht hn hg htk hcs
    go_enter Tryz.func23, Tryz.ntmps23
    go_wp2
    go_region
    all_goals go_wp2
    all_goals go_ret
    all_goals exact ⟨_, rfl, HO.out, by (repeat' (first | (with_reducible first | exact Up.refl _ | assumption | refine Up.alloc ?_ _ | refine Up.drew ?_ | refine Up.drewN ?_ _ | refine Up.setCell ?_ ?_ _ | refine Up.call ?_ (by assumption)) | go_size))⟩
theorem results_state {fn : Func} {i : Nat} (h : fn.results = #[.cell i 62]) (tmps : Array Value) (w : World) (b : Nat) (cs : Array Value) (hr : Row w b cs) (hs : cs.size = 16) (hi : tmps.getD i undef = .pointer (some ⟨b, 0, none⟩)) :
    (results fn tmps).run Tryz.prog w = .ok (.agg cs) w := by
  rw [Array.getD_eq_getD_getElem?] at hi
  have hl1 := run_loadAt_mid (P := Tryz.prog) w b 0 62 cs.toList _ (fun j v hj => by rw [Nat.zero_add]; exact hr.cell j (by simpa using hj)) Tryz.underlying62 rfl (by rw [Array.length_toList, hs]; exact infoState)
  simp [results, h, go_sem, hi] at hl1 ⊢
  simp [hl1]
set_option maxRecDepth 8000 in
theorem start_calls (w : World) : Calls Tryz.prog 18 #[] w fun e w' => e = .returned (.agg #[.int .i64 1, .int .i64 0, .int .i64 0, .int .i64 0, .int .i64 0, .int .i64 1, .int .i64 0, .int .i64 0, .int .i64 0, .int .i64 0, .int .i64 65536, .int .i64 0, .int .i64 0, .int .i64 655360, .slice none 0 0, .int .i64 0]) ∧ Up w w' := by
  go_enter Tryz.func18, Tryz.ntmps18
  go_wp2
  refine bodyPost_ret (results_state rfl _ _ w.heap.size #[.int .i64 1, .int .i64 0, .int .i64 0, .int .i64 0, .int .i64 0, .int .i64 1, .int .i64 0, .int .i64 0, .int .i64 0, .int .i64 0, .int .i64 65536, .int .i64 0, .int .i64 0, .int .i64 655360, .slice none 0 0, .int .i64 0] (by (repeat' (with_reducible first | assumption | (refine Row.at _ _ ?_; (simp; done)) | refine Row.alloc ?_ _ | refine Row.drew ?_ | refine Row.drewN ?_ _ | refine Row.other ?_ (by first | (simp; done) | (simp; omega) | omega) _ | refine Row.up ?_ (by assumption) | refine Row.chg ?_ (by assumption) (by first | (simp; done) | (simp; omega))))) rfl rfl) rfl ?_
  exact ⟨rfl, by (repeat' (first | (with_reducible first | exact Up.refl _ | assumption | refine Up.alloc ?_ _ | refine Up.drew ?_ | refine Up.drewN ?_ _ | refine Up.setCell ?_ ?_ _ | refine Up.call ?_ (by assumption)) | go_size))⟩
end Go.Proofs.YtpellcdggaeppaaGreatDoor.Dr
end
