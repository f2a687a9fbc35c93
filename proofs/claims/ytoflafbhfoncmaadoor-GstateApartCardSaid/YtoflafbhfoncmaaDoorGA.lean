/- Any state in memory: what it says, and the blocks that it owns. No condition. gstate's own of any state. Its condition: lengths that an append bears. Parts of a row stored and loaded; gstate's Now of any state. Its condition: lengths that an append bears. gstate's copied of any level. Its condition: lengths that an append bears. -/
import Derived.Test.YtoflafbhfoncmaaDoorGF
import Derived.Test.YtoflafbhfoncmaaDoorGS
import Derived.Test.YtoflafbhfoncmaaDoorGX
import Derived.OwnWalk
import Derived.Deep.CutRange
import Derived.Deep.Cut
import Derived.Deep.MidRow
import Derived.Test.YtoflafbhfoncmaaDoorGGsA
section
namespace Go.Proofs.YtoflafbhfoncmaaDoor.Gt
open Go.ChangeShapes Go.WideShapes Go.ChangeAt Go.RowKit
open Go.Proofs.YtoflafbhfoncmaaDoor.FixM (fits)
open Go.Proofs.YtoflafbhfoncmaaDoor.MatM (M6)
open Go.Proofs.YtoflafbhfoncmaaDoor.PathM (Seg St Z segCells)
open Go.Proofs.YtoflafbhfoncmaaDoor.Path (own own_mem own_of PathIs Segs)
open Go.Proofs.YtoflafbhfoncmaaDoor.Pt (Clip clipCells Src)
set_option linter.unusedVariables false
set_option linter.unusedSimpArgs false

/-- a state, and where its lists lie -/
structure S where
  c : M6
  sp : Int
  p0 : Int
  p1 : Int
  p2 : Int
  p3 : Int
  wd : Int
  cap : Int
  jn : Int
  mt : Int
  dv : Value
  ds : List Int
  ph : Int
  fn : Int
  fm : M6
  cv : Value
  cl : List Clip
  dk : Bool
def S.cells (s : S) : List Value := [.int .i64 s.c.a, .int .i64 s.c.b, .int .i64 s.c.c, .int .i64 s.c.d, .int .i64 s.c.x, .int .i64 s.c.y, .int .i64 s.sp, .int .i64 s.p0, .int .i64 s.p1, .int .i64 s.p2, .int .i64 s.p3, .int .i64 s.wd, .int .i64 s.cap, .int .i64 s.jn, .int .i64 s.mt, s.dv, .int .i64 s.ph, .int .i64 s.fn, .int .i64 s.fm.a, .int .i64 s.fm.b, .int .i64 s.fm.c, .int .i64 s.fm.d, .int .i64 s.fm.x, .int .i64 s.fm.y, s.cv, .bool s.dk]
theorem S.cells_len (s : S) : s.cells.length = 26 := rfl
/-- what a state says, wherever its lists lie -/
structure SD where
  c : M6
  col : Int × Int × Int × Int × Int
  pen : Int × Int × Int × Int
  ds : List Int
  ph : Int
  fn : Int
  fm : M6
  cl : List (List Seg × Bool)
  dk : Bool
def S.dat (s : S) : SD := ⟨s.c, (s.sp, s.p0, s.p1, s.p2, s.p3), (s.wd, s.cap, s.jn, s.mt), s.ds, s.ph, s.fn, s.fm, s.cl.map (fun c => (c.l, c.eo)), s.dk⟩
/-- the blocks of its lists -/
def S.bl (s : S) : List Nat := own s.dv ++ (own s.cv ++ s.cl.flatMap (fun c => own c.v))
/-- a state whose lists are rows of its own -/
structure SO (w : World) (s : S) : Prop where
  dv : w.ownsRow 0 3 1 s.dv s.ds.length (s.ds.map (Value.int .i64))
  dw : ∀ z ∈ s.ds, (Lit.int .i64 z).wf = true
  cv : w.ownsRow 0 57 2 s.cv s.cl.length (clipCells s.cl)
  cs : ∀ c ∈ s.cl, Segs w c.v c.l
  nd : s.bl.Nodup
theorem SO.chg {B : List Nat} {w w1 : World} {s : S} (h : SO w s) (hc : Chg B w w1) (hn : ∀ b ∈ s.bl, b ∉ B) : SO w1 s := by
  have h1 : ∀ b ∈ own s.dv, b ∉ B := fun b hb => hn b (by simp [S.bl, hb])
  have h2 : ∀ b ∈ own s.cv, b ∉ B := fun b hb => hn b (by simp [S.bl, hb])
  have h3 : ∀ c ∈ s.cl, ∀ b ∈ own c.v, b ∉ B := fun c hc b hb => hn b (by simp only [S.bl, List.mem_append, List.mem_flatMap]; exact Or.inr (Or.inr ⟨c, hc, hb⟩))
  exact ⟨owned_chg h.dv hc (fun g hg => h1 g (own_mem hg)), h.dw, owned_chg h.cv hc (fun g hg => h2 g (own_mem hg)), fun c hc2 => owned_chg (h.cs c hc2) hc (fun g hg => h3 c hc2 g (own_mem hg)), h.nd⟩
theorem SO.up {w w1 : World} {s : S} (h : SO w s) (hu : Up w w1) : SO w1 s := h.chg (Chg.of_up (S := []) hu) (fun _ _ => by simp)
theorem SO.lt {w : World} {s : S} (h : SO w s) : ∀ b ∈ s.bl, b < w.heap.size := fun b hb => by
  simp only [S.bl, List.mem_append, List.mem_flatMap] at hb
  rcases hb with h1 | h1 | ⟨c, hc, h1⟩
  · exact (h.dv.lt b (own_of h1)).2
  · exact (h.cv.lt b (own_of h1)).2
  · exact ((h.cs c hc).lt b (own_of h1)).2
/-- a level: a state, and the path with it -/
structure Lv where
  s : S
  p : Nat
  pv : Value
  t : St
def Lv.cells (l : Lv) : List Value := l.s.cells ++ [.pointer (some ⟨l.p, 0, none⟩)]
theorem Lv.cells_len (l : Lv) : l.cells.length = 27 := rfl
def Lv.bl (l : Lv) : List Nat := l.p :: (own l.pv ++ l.s.bl)
structure LO (w : World) (l : Lv) : Prop where
  s : SO w l.s
  p : PathIs w l.p l.pv l.t
  nd : l.bl.Nodup
theorem LO.chg {B : List Nat} {w w1 : World} {l : Lv} (h : LO w l) (hc : Chg B w w1) (hn : ∀ b ∈ l.bl, b ∉ B) : LO w1 l :=
  ⟨h.s.chg hc (fun b hb => hn b (by simp [Lv.bl, hb])), h.p.chg hc (hn _ (by simp [Lv.bl])) (fun g hg => hn g (by simp [Lv.bl, own_mem hg])), h.nd⟩
theorem LO.up {w w1 : World} {l : Lv} (h : LO w l) (hu : Up w w1) : LO w1 l := h.chg (Chg.of_up (S := []) hu) (fun _ _ => by simp)
theorem LO.lt {w : World} {l : Lv} (h : LO w l) : ∀ b ∈ l.bl, b < w.heap.size := fun b hb => by
  simp only [Lv.bl, List.mem_cons, List.mem_append] at hb
  rcases hb with h1 | h1 | h1
  · subst h1; exact h.p.row.lt
  · exact (h.p.segs.lt b (own_of h1)).2
  · exact h.s.lt b h1
/-- all states: the one that is, and those that are saved -/
structure X where
  l : Lv
  most : Int
  segs : Int
  sv : Value
  saved : List Lv
def X.cells (x : X) : List Value := x.l.cells ++ [.int .i64 x.most, .int .i64 x.segs, x.sv]
def X.low (x : X) : List Nat := own x.sv ++ x.saved.flatMap Lv.bl
def X.bl (g : Nat) (x : X) : List Nat := g :: (x.l.bl ++ x.low)
structure G (w : World) (g : Nat) (x : X) : Prop where
  row : Row w g x.cells.toArray
  cur : LO w x.l
  own : w.ownsRow 0 67 27 x.sv x.saved.length (x.saved.flatMap Lv.cells)
  svs : ∀ l ∈ x.saved, LO w l
  nd : (x.bl g).Nodup
theorem G.chg {B : List Nat} {w w1 : World} {g : Nat} {x : X} (h : G w g x) (hc : Chg B w w1) (hn : ∀ b ∈ x.bl g, b ∉ B) : G w1 g x :=
  ⟨h.row.chg hc (hn g (by simp [X.bl])), h.cur.chg hc (fun b hb => hn b (by simp [X.bl, hb])), owned_chg h.own hc (fun b hb => hn b (by simp [X.bl, X.low, own_mem hb])),
   fun l hl => (h.svs l hl).chg hc (fun b hb => hn b (by simp only [X.bl, X.low, List.mem_cons, List.mem_append, List.mem_flatMap]; exact Or.inr (Or.inr (Or.inr ⟨l, hl, hb⟩)))), h.nd⟩
theorem G.up {w w1 : World} {g : Nat} {x : X} (h : G w g x) (hu : Up w w1) : G w1 g x := h.chg (Chg.of_up (S := []) hu) (fun _ _ => by simp)
theorem G.lt {w : World} {g : Nat} {x : X} (h : G w g x) : ∀ b ∈ x.bl g, b < w.heap.size := fun b hb => by
  simp only [X.bl, X.low, List.mem_cons, List.mem_append, List.mem_flatMap] at hb
  rcases hb with h1 | h1 | h1 | ⟨l, hl, h1⟩
  · subst h1; exact h.row.lt
  · exact h.cur.lt b h1
  · exact (h.own.lt b (own_of h1)).2
  · exact (h.svs l hl).lt b h1
/-- what a call leaves of states: other ones in the same place; of the old blocks none but their own changed -/
def To (w w' : World) (g : Nat) (x y : X) : Prop := G w' g y ∧ Chg (x.bl g) w w' ∧ ∀ b ∈ y.bl g, b ∈ x.bl g ∨ w.heap.size ≤ b
theorem To.refl {w : World} {g : Nat} {x : X} (h : G w g x) : To w w g x x := ⟨h, Chg.refl _ _, fun b hb => Or.inl hb⟩
theorem To.up {w w1 : World} {g : Nat} {x : X} (h : G w g x) (hu : Up w w1) : To w w1 g x x := ⟨h.up hu, Chg.of_up hu, fun b hb => Or.inl hb⟩
theorem To.trans {w w1 w2 : World} {g : Nat} {x y z : X} (h : To w w1 g x y) (k : To w1 w2 g y z) : To w w2 g x z :=
  ⟨k.1, h.2.1.call k.2.1 (fun b hb => h.2.2 b hb), fun b hb => by
    rcases k.2.2 b hb with h1 | h1
    · exact h.2.2 b h1
    · exact Or.inr (Nat.le_trans h.2.1.size h1)⟩
/-- where one state's numbers alone are other ones -/
theorem To.set {w w' : World} {g : Nat} {x y : X} (h : G w g x) (hr : Row w' g y.cells.toArray) (hc : Chg [g] w w') (e1 : y.l.bl = x.l.bl) (e2 : y.low = x.low) (hl : LO w y.l) (es : y.saved = x.saved) (ev : y.sv = x.sv) : To w w' g x y := by
  have hb : y.bl g = x.bl g := by simp [X.bl, e1, e2]
  have hg : ∀ b ∈ x.l.bl ++ x.low, b ∉ [g] := fun b hm h2 => by
    have := (List.nodup_cons.1 h.nd).1
    rw [List.mem_singleton] at h2
    rw [h2] at hm
    exact this hm
  refine ⟨⟨hr, hl.chg hc (fun b hb => hg b (by simp [← e1, hb])), ?_, fun l hl2 => ?_, by rw [hb]; exact h.nd⟩, ?_, fun b hb2 => Or.inl (by rwa [hb] at hb2)⟩
  · rw [es, ev]
    exact owned_chg h.own hc (fun b hb2 => hg b (by simp [X.low, own_mem hb2]))
  · rw [es] at hl2
    exact (h.svs l hl2).chg hc (fun b hb2 => hg b (by simp only [X.low, List.mem_append, List.mem_flatMap]; exact Or.inr (Or.inr ⟨l, hl2, hb2⟩)))
  · exact (Chg.refl _ w).call hc (fun b hb2 => Or.inl (by rw [List.mem_singleton] at hb2; subst hb2; simp [X.bl]))

end Go.Proofs.YtoflafbhfoncmaaDoor.Gt
end

section
namespace Go.Proofs.YtoflafbhfoncmaaDoor.Gt
open List renaming getElem_toArray → lga, getElem_cons_zero → lgz, getElem_cons_succ → lgs, setIfInBounds_toArray → lsa, set_cons_zero → lsz, set_cons_succ → lss
open Go.ChangeShapes Go.WideShapes Go.ChangeAt Go.RowKit
open Go.Proofs.YtoflafbhfoncmaaDoor.FixM (fits)
open Go.Proofs.YtoflafbhfoncmaaDoor.MatM (M6)
open Go.Proofs.YtoflafbhfoncmaaDoor.PathM (Seg St Z segCells)
open Go.Proofs.YtoflafbhfoncmaaDoor.Path (own own_mem own_of PathIs Segs)
open Go.Proofs.YtoflafbhfoncmaaDoor.Pt (Clip clipCells Src)
set_option linter.unusedVariables false
set_option linter.unusedSimpArgs false

theorem cast {w : World} {b : Nat} {cs cs2 : Array Value} (h : Row w b cs) (e : cs = cs2) : Row w b cs2 := e ▸ h
open Go.Proofs.YtoflafbhfoncmaaDoor.Pt (MidC MidC.more own_nodup raw_up owned_new cloneInts cloneSegs infoC2 info_parts3 take_map_succ clipCells_append Clip.cells s2_of clip_len sl_up)
theorem one_ints (zs : List Int) : ∀ u ∈ zs.map (Value.int .i64), u.oneCell' = true := fun u hu => by
  simp only [List.mem_map] at hu
  obtain ⟨z, _, rfl⟩ := hu
  rfl
theorem own_mk {ds : List Int} {cs : List Clip} {w wf wr w3 : World} {a15 : Option Addr} {dl c15 cl : Nat} {a7 : Option Addr} {c7 : Nat} {l1 : List Clip} (hdv : wf.ownsRow 0 3 1 (.slice a15 dl c15) dl (ds.map (Value.int .i64))) (hlo : ∀ g ∈ own (.slice a15 dl c15), w.heap.size + 2 ≤ g ∧ g < wf.heap.size) (hup : Up w wf) (hzf : w.heap.size + 2 ≤ wf.heap.size) (hm : MidC wr wf.heap.size (.slice a7 cl c7) l1) (hN : l1.length = cl)
    (hd : l1.map (fun c => (c.l, c.eo)) = cs.map (fun c => (c.l, c.eo))) (hu : Up wf wr) (hc : Chg [w.heap.size, w.heap.size + 1] wr w3) :
    l1.map (fun c => (c.l, c.eo)) = cs.map (fun c => (c.l, c.eo)) ∧ w3.ownsRow 0 3 1 (.slice a15 dl c15) dl (ds.map (Value.int .i64)) ∧ w3.ownsRow 0 57 2 (.slice a7 cl c7) l1.length (clipCells l1) ∧ (∀ c ∈ l1, Path.Segs w3 c.v c.l) ∧
      (own (.slice a15 dl c15) ++ (own (.slice a7 cl c7) ++ l1.flatMap (fun c => own c.v))).Nodup ∧ (∀ g ∈ own (.slice a15 dl c15) ++ (own (.slice a7 cl c7) ++ l1.flatMap (fun c => own c.v)), w.heap.size ≤ g ∧ g < w3.heap.size) ∧ Up w w3 := by
  have zr := hu.size
  have z3 := hc.size
  have D : ∀ g ∈ own (.slice a7 cl c7) ++ l1.flatMap (fun c => own c.v), wf.heap.size ≤ g ∧ g < wr.heap.size := fun g hg => by
    rcases List.mem_append.1 hg with h1 | h1
    · exact hm.its.lt g (own_of h1)
    · obtain ⟨c, hc1, hc2⟩ := List.mem_flatMap.1 h1
      exact hm.lo c hc1 g hc2
  have no : ∀ {v : Value}, (∀ g ∈ own v, w.heap.size + 2 ≤ g) → ∀ g, v.ownBlock = some g → g ∉ [w.heap.size, w.heap.size + 1] := fun hv g hg h2 => by
    have := hv g (own_mem hg)
    simp at h2
    omega
  refine ⟨hd, owned_chg (owned_up hdv hu) hc (no (fun g hg => (hlo g hg).1)),
    owned_chg (owned_new hm.its).1 hc (no (fun g hg => by have := D g (List.mem_append_left _ hg); omega)), fun c hc1 => owned_chg (hm.cs c hc1) hc (no (fun g hg => by have := D g (List.mem_append_right _ (List.mem_flatMap.2 ⟨c, hc1, hg⟩)); omega)), ?_, ?_, ?_⟩
  · refine List.nodup_append.2 ⟨own_nodup _, hm.nd, ?_⟩
    intro a ha b hb e
    have := hlo a ha; have := D b hb; omega
  · intro g hg
    rcases List.mem_append.1 hg with h1 | h1
    · have := hlo g h1; exact ⟨by omega, by omega⟩
    · have := D g h1; exact ⟨by omega, by omega⟩
  · exact ((Chg.of_up (S := []) (Up.call hup hu)).call hc (fun k hk => Or.inr (by simp at hk; omega))).up

set_option maxRecDepth 8000 in
set_option maxHeartbeats 8000000 in
theorem own_calls (cm : M6) (sp p0 p1 p2 p3 wd cp jn mt : Int) (da : Option Addr) (dl dc : Nat) (ph fn : Int) (fm : M6) (ca : Option Addr) (cl cc : Nat) (dk : Bool) (cs : List Clip) (ds : List Int) (w : World) (hD : Src w (.slice da dl dc) 1 dl (ds.map (Value.int .i64))) (hC : Sl 2 Clip.cells w ca cl cc cs) (hCs : ∀ c ∈ cs, Src w c.v 7 c.l.length (segCells c.l)) (l3 : dl ≤ 10000) (l4 : cl ≤ 100) (l5 : ∀ c ∈ cs, c.l.length ≤ 10000) :
    Calls Tryd.prog 38 #[.agg #[.int .i64 cm.a, .int .i64 cm.b, .int .i64 cm.c, .int .i64 cm.d, .int .i64 cm.x, .int .i64 cm.y, .int .i64 sp, .int .i64 p0, .int .i64 p1, .int .i64 p2, .int .i64 p3, .int .i64 wd, .int .i64 cp, .int .i64 jn, .int .i64 mt, .slice da dl dc, .int .i64 ph, .int .i64 fn, .int .i64 fm.a, .int .i64 fm.b, .int .i64 fm.c, .int .i64 fm.d, .int .i64 fm.x, .int .i64 fm.y, .slice ca cl cc, .bool dk]] w fun E w' => ∃ a15 c15 a7 c7 cs', E = .returned (.agg #[.int .i64 cm.a, .int .i64 cm.b, .int .i64 cm.c, .int .i64 cm.d, .int .i64 cm.x, .int .i64 cm.y, .int .i64 sp, .int .i64 p0, .int .i64 p1, .int .i64 p2, .int .i64 p3, .int .i64 wd, .int .i64 cp, .int .i64 jn, .int .i64 mt, .slice a15 dl c15, .int .i64 ph, .int .i64 fn, .int .i64 fm.a, .int .i64 fm.b, .int .i64 fm.c, .int .i64 fm.d, .int .i64 fm.x, .int .i64 fm.y, .slice a7 cl c7, .bool dk]) ∧ cs'.map (fun c => (c.l, c.eo)) = cs.map (fun c => (c.l, c.eo)) ∧ w'.ownsRow 0 3 1 (.slice a15 dl c15) dl (ds.map (Value.int .i64)) ∧ w'.ownsRow 0 57 2 (.slice a7 cl c7) cs'.length (clipCells cs') ∧ (∀ c ∈ cs', Path.Segs w' c.v c.l) ∧
      (own (.slice a15 dl c15) ++ (own (.slice a7 cl c7) ++ cs'.flatMap (fun c => own c.v))).Nodup ∧ (∀ g ∈ own (.slice a15 dl c15) ++ (own (.slice a7 cl c7) ++ cs'.flatMap (fun c => own c.v)), w.heap.size ≤ g ∧ g < w'.heap.size) ∧ Up w w' := by
  obtain ⟨i0, hi, hz0, hz1, hz2⟩ := info_parts3 infoC2
  have HD := Lib.hid hD
  have HCN := Lib.hid hC.2.2.1
  have HCC := Lib.hid hC.2.2.2.2
  have HCS := Lib.hid hCs
  have HL5 := Lib.hid l5
  clear hD hC hCs l5
  go_enter Tryd.func38, Tryd.ntmps38
  go_upto_region 2 with (go_at_call 50; ((with_reducible refine (cloneInts _ _ _ _ (HD.out.up (by (repeat' (first | (with_reducible first | exact Up.refl _ | assumption | refine Up.alloc ?_ _ | refine Up.drew ?_ | refine Up.drewN ?_ _ | refine Up.setCell ?_ ?_ _ | refine Up.call ?_ (by assumption)) | go_size)))) (one_ints _) (by omega)).mono ?_); rintro E w1 ⟨v1, rfl, ho1, hf1, hu1⟩; obtain ⟨a15, c15, rfl⟩ := owned_val ho1; have HO1 := Lib.hid ho1; have HF1 := Lib.hid hf1; have HU1 := Lib.hid (show Up w w1 from (by (repeat' (first | (with_reducible first | exact Up.refl _ | assumption | refine Up.alloc ?_ _ | refine Up.drew ?_ | refine Up.drewN ?_ _ | refine Up.setCell ?_ ?_ _ | refine Up.call ?_ (by assumption)) | go_size)))); clear ho1 hf1; have z1 := hu1.size; (try simp at z1); have RX1 : Row w1 w.heap.size #[.int .i64 cm.a, .int .i64 cm.b, .int .i64 cm.c, .int .i64 cm.d, .int .i64 cm.x, .int .i64 cm.y, .int .i64 sp, .int .i64 p0, .int .i64 p1, .int .i64 p2, .int .i64 p3, .int .i64 wd, .int .i64 cp, .int .i64 jn, .int .i64 mt, .slice da dl dc, .int .i64 ph, .int .i64 fn, .int .i64 fm.a, .int .i64 fm.b, .int .i64 fm.c, .int .i64 fm.d, .int .i64 fm.x, .int .i64 fm.y, .slice ca cl cc, .bool dk] := Row.up (show Row _ w.heap.size #[.int .i64 cm.a, .int .i64 cm.b, .int .i64 cm.c, .int .i64 cm.d, .int .i64 cm.x, .int .i64 cm.y, .int .i64 sp, .int .i64 p0, .int .i64 p1, .int .i64 p2, .int .i64 p3, .int .i64 wd, .int .i64 cp, .int .i64 jn, .int .i64 mt, .slice da dl dc, .int .i64 ph, .int .i64 fn, .int .i64 fm.a, .int .i64 fm.b, .int .i64 fm.c, .int .i64 fm.d, .int .i64 fm.x, .int .i64 fm.y, .slice ca cl cc, .bool dk] by (repeat' (with_reducible first | assumption | (refine Row.at _ _ ?_; (simp; done)) | refine Row.alloc ?_ _ | refine Row.drew ?_ | refine Row.drewN ?_ _ | refine Row.other ?_ (by first | (simp; done) | (simp; omega) | omega) _ | refine Row.up ?_ (by assumption) | refine Row.chg ?_ (by assumption) (by first | (simp; done) | (simp; omega))))) hu1; have RY1 : Row w1 (w.heap.size + 1) #[.int .i64 0, .int .i64 0, .int .i64 0, .int .i64 0, .int .i64 0, .int .i64 0, .int .i64 0, .int .i64 0, .int .i64 0, .int .i64 0, .int .i64 0, .int .i64 0, .int .i64 0, .int .i64 0, .int .i64 0, .slice none 0 0, .int .i64 0, .int .i64 0, .int .i64 0, .int .i64 0, .int .i64 0, .int .i64 0, .int .i64 0, .int .i64 0, .slice none 0 0, .bool false] := Row.up (show Row _ (w.heap.size + 1) #[.int .i64 0, .int .i64 0, .int .i64 0, .int .i64 0, .int .i64 0, .int .i64 0, .int .i64 0, .int .i64 0, .int .i64 0, .int .i64 0, .int .i64 0, .int .i64 0, .int .i64 0, .int .i64 0, .int .i64 0, .slice none 0 0, .int .i64 0, .int .i64 0, .int .i64 0, .int .i64 0, .int .i64 0, .int .i64 0, .int .i64 0, .int .i64 0, .slice none 0 0, .bool false] by (repeat' (with_reducible first | assumption | (refine Row.at _ _ ?_; (simp; done)) | refine Row.alloc ?_ _ | refine Row.drew ?_ | refine Row.drewN ?_ _ | refine Row.other ?_ (by first | (simp; done) | (simp; omega) | omega) _ | refine Row.up ?_ (by assumption) | refine Row.chg ?_ (by assumption) (by first | (simp; done) | (simp; omega))))) hu1; have l1x := RX1.lt; have c15x := RX1.cell 15 rfl; have f15x := RX1.free 15))
  generalize hWF : World.setCell _ _ _ = wf
  have HRF : Hid (Row wf w.heap.size #[.int .i64 cm.a, .int .i64 cm.b, .int .i64 cm.c, .int .i64 cm.d, .int .i64 cm.x, .int .i64 cm.y, .int .i64 sp, .int .i64 p0, .int .i64 p1, .int .i64 p2, .int .i64 p3, .int .i64 wd, .int .i64 cp, .int .i64 jn, .int .i64 mt, .slice a15 dl c15, .int .i64 ph, .int .i64 fn, .int .i64 fm.a, .int .i64 fm.b, .int .i64 fm.c, .int .i64 fm.d, .int .i64 fm.x, .int .i64 fm.y, .slice ca cl cc, .bool dk]) := Lib.hid (by rw [← hWF]; exact (by apply cast; (case h => (repeat (first | (with_reducible first | assumption | (apply Row.at; (simp; done)) | apply Row.alloc | apply Row.drew | apply Row.drewN | apply Row.set) | ((with_reducible apply Row.other); (case hp => first | (simp; done) | (simp; omega) | omega))))); (case e => rfl)))
  have HRZ : Hid (Row wf (w.heap.size + 1) #[.int .i64 0, .int .i64 0, .int .i64 0, .int .i64 0, .int .i64 0, .int .i64 0, .int .i64 0, .int .i64 0, .int .i64 0, .int .i64 0, .int .i64 0, .int .i64 0, .int .i64 0, .int .i64 0, .int .i64 0, .slice none 0 0, .int .i64 0, .int .i64 0, .int .i64 0, .int .i64 0, .int .i64 0, .int .i64 0, .int .i64 0, .int .i64 0, .slice none 0 0, .bool false]) := Lib.hid (by rw [← hWF]; (repeat' (with_reducible first | assumption | (refine Row.at _ _ ?_; (simp; done)) | refine Row.alloc ?_ _ | refine Row.drew ?_ | refine Row.drewN ?_ _ | refine Row.other ?_ (by first | (simp; done) | (simp; omega) | omega) _ | refine Row.up ?_ (by assumption) | refine Row.chg ?_ (by assumption) (by first | (simp; done) | (simp; omega)))))
  have hcf : Chg [w.heap.size] w1 wf := by rw [← hWF]; exact ((Chg.refl [w.heap.size] w1).setCell (Or.inl (by simp)) _)
  have HF2 : Hid (∀ g ∈ own (.slice a15 dl c15), w.heap.size + 2 ≤ g ∧ g < w1.heap.size) := Lib.hid (fun g hg => by have := HF1.out g hg; simpa using this)
  have HDV : Hid (wf.ownsRow 0 3 1 (.slice a15 dl c15) dl (ds.map (Value.int .i64))) := Lib.hid (owned_chg HO1.out hcf (fun g hg => by have := (HF2.out g (own_mem hg)).1; simp; omega))
  have zf1 := hcf.size
  have HLO : Hid (∀ g ∈ own (.slice a15 dl c15), w.heap.size + 2 ≤ g ∧ g < wf.heap.size) := Lib.hid (fun g hg => ⟨(HF2.out g hg).1, Nat.lt_of_lt_of_le (HF2.out g hg).2 zf1⟩)
  have HUF : Hid (Up w wf) := Lib.hid (((Chg.of_up (S := []) HU1.out).call hcf (fun k hk => Or.inr (by simp at hk; omega))).up)
  have hzf2 : w.heap.size + 2 ≤ wf.heap.size := by omega
  have lf := HRF.out.lt
  have f7 : wf.cell? ⟨w.heap.size, 24, none⟩ = some (.slice ca cl cc) := HRF.out.cell 24 rfl
  have zf := HUF.out.size
  clear hWF hcf hu1 RX1 RY1 c15x f15x l1x
  go_wp2_with (first
    | (refine wpList_make_own _ rfl _ _ 39 rfl wf.heap.size 57 i0 (.agg #[.slice none 0 0, .bool false]) 2 Tryd.underlying39 hi hz0 hz1 .i64 .i64 _ cl rfl rfl rfl (by rw [hz2]; omega) (by unfold maxLen; omega) (by simp) ?_; intro w1 hown1 hgr1; have HM1 := Lib.hid (show MidC w1 wf.heap.size (.slice (some ⟨wf.heap.size, 0, none⟩) 0 cl) [] from ⟨hown1, (fun k hk => by cases hk), (fun k hk => by cases hk), by simpa using own_nodup _⟩); have u1 : Up wf w1 := grown_up (Up.refl _) hgr1 (fun k hk => by cases hk); have HU1 := Lib.hid u1; have RI1 : Row w1 w.heap.size #[.int .i64 cm.a, .int .i64 cm.b, .int .i64 cm.c, .int .i64 cm.d, .int .i64 cm.x, .int .i64 cm.y, .int .i64 sp, .int .i64 p0, .int .i64 p1, .int .i64 p2, .int .i64 p3, .int .i64 wd, .int .i64 cp, .int .i64 jn, .int .i64 mt, .slice a15 dl c15, .int .i64 ph, .int .i64 fn, .int .i64 fm.a, .int .i64 fm.b, .int .i64 fm.c, .int .i64 fm.d, .int .i64 fm.x, .int .i64 fm.y, .slice ca cl cc, .bool dk] := HRF.out.up u1; have z1 := u1.size; have l1 := RI1.lt; have k7 := RI1.cell 24 rfl; clear hown1 hgr1))
  go_loopw [3, 19] (fun s3 s19 wr => ∃ l1 : List Clip, ∃ a3 c3, l1.length ≤ cl ∧ s19 = .int .i64 l1.length ∧ s3 = .slice a3 l1.length c3 ∧ Hid (MidC wr wf.heap.size (.slice a3 l1.length c3) l1) ∧ Hid (l1.map (fun c => (c.l, c.eo)) = (cs.take l1.length).map (fun c => (c.l, c.eo))) ∧ Hid (Up wf wr)) (fun _ s19 _ => cl - (intOf s19).toNat)
  case atStart => exact ⟨[], _, _, Nat.zero_le _, rfl, rfl, HM1, Lib.hid rfl, HU1⟩
  case round =>
    obtain ⟨l1, a3, c3, hk, rfl, rfl, HMD, HMP, HUP⟩ := hrel
    have hzr := HUP.out.size
    have RBr : Row wr w.heap.size #[.int .i64 cm.a, .int .i64 cm.b, .int .i64 cm.c, .int .i64 cm.d, .int .i64 cm.x, .int .i64 cm.y, .int .i64 sp, .int .i64 p0, .int .i64 p1, .int .i64 p2, .int .i64 p3, .int .i64 wd, .int .i64 cp, .int .i64 jn, .int .i64 mt, .slice a15 dl c15, .int .i64 ph, .int .i64 fn, .int .i64 fm.a, .int .i64 fm.b, .int .i64 fm.c, .int .i64 fm.d, .int .i64 fm.x, .int .i64 fm.y, .slice ca cl cc, .bool dk] := HRF.out.up HUP.out
    have lbr := RBr.lt
    by_cases hlt : l1.length < cl
    · obtain ⟨⟨xv, xs, eo⟩, hx⟩ : ∃ x, cs[l1.length]? = some x := ⟨_, List.getElem?_eq_getElem (by have := HCN.out; omega)⟩
      obtain ⟨b, ob, rfl, hb, hc⟩ := HCC.out (by omega)
      have hc0 := hc l1.length _ 0 _ hx rfl
      have hc1 := hc l1.length _ 1 _ hx rfl
      simp only [Clip.cells, Nat.add_zero] at hc0 hc1
      have hsx := HCS.out _ (List.mem_of_getElem? hx)
      have hlx := HL5.out _ (List.mem_of_getElem? hx)
      simp only at hsx hlx
      obtain ⟨xn, hxn⟩ : ∃ n, xs.length = n := ⟨_, rfl⟩
      rw [hxn] at hsx hlx
      obtain ⟨xa, xc, e, _⟩ := id hsx
      subst e
      have hqr : Up w wr := Up.call HUF.out HUP.out
      have hq0 := (hqr.cells.1 b _ hb).trans hc0
      have hq1 := (hqr.cells.1 b _ hb).trans hc1
      have hbr : b < wr.heap.size := Nat.lt_of_lt_of_le hb hqr.size
      have HQR := Lib.hid hqr
      have HXS := Lib.hid (hsx.up hqr)
      have HXN := Lib.hid hxn
      have HX := Lib.hid hx
      have hcast : decide ((l1.length : Int) < (cl : Int)) = true := decide_eq_true (by omega)
      clear hc hc0 hc1 hx hsx hqr hxn hb
      obtain ⟨N1, hN1⟩ : ∃ k, l1.length = k := ⟨_, rfl⟩
      rw [hN1] at hlt hcast hq0 hq1 hk HMD ⊢
      have HN1 := Lib.hid hN1
      clear hN1
      go_wp2
      refine wp_region_held_drew (S := fun w' => w'.cell? ⟨wr.heap.size, 0, none⟩ = some (.slice xa xn xc) ∧ w'.cell? ⟨wr.heap.size, 1, none⟩ = some (.bool eo)) (by kernel_rfl) ?_ (fun hHeld => ?_)
      · exact s2_of (show Row _ wr.heap.size #[.slice xa xn xc, .bool eo] from (by (repeat' (with_reducible first | assumption | (refine Row.at _ _ ?_; (simp; done)) | refine Row.alloc ?_ _ | refine Row.drew ?_ | refine Row.drewN ?_ _ | refine Row.other ?_ (by first | (simp; done) | (simp; omega) | omega) _ | refine Row.up ?_ (by assumption) | refine Row.chg ?_ (by assumption) (by first | (simp; done) | (simp; omega))))))
      refine wpAnyH_take (i := 0) (v := ?_) rfl (by kernel_rfl) (by kernel_rfl) (by kernel_rfl) (fun _ _ _ h => h) (Or.inl ⟨by rfl, ?_⟩) (by assumption) ?_
      rotate_left
      · intro w2 hSw
        (try dsimp only at hSw)
        (try (obtain ⟨s0, s1⟩ := hSw))
        go_simp
        (try (with_reducible rfl))
      (try simp only [Act.put, lga, lgz, lgs, lsa, lsz, lss])
      refine wpAnyH_take (i := 1) (v := ?_) rfl (by kernel_rfl) (by kernel_rfl) (by kernel_rfl) (fun _ _ _ h => h) (Or.inl ⟨by rfl, ?_⟩) (by assumption) ?_
      rotate_left
      · intro w2 hSw
        (try dsimp only at hSw)
        (try (obtain ⟨s0, s1⟩ := hSw))
        go_simp
        (try (with_reducible rfl))
      (try simp only [Act.put, lga, lgz, lgs, lsa, lsz, lss])
      refine wpAnyH_take (i := 2) (v := ?_) rfl (by kernel_rfl) (by kernel_rfl) (by kernel_rfl) (fun _ _ _ h => h) (Or.inl ⟨by rfl, ?_⟩) (by assumption) ?_
      rotate_left
      · intro w2 hSw
        (try dsimp only at hSw)
        (try (obtain ⟨s0, s1⟩ := hSw))
        go_simp
        (try (with_reducible rfl))
      (try simp only [Act.put, lga, lgz, lgs, lsa, lsz, lss])
      refine wpAnyH_take (i := 4) (v := ?_) rfl (by kernel_rfl) (by kernel_rfl) (by kernel_rfl) (fun _ _ _ h => h) (Or.inl ⟨by rfl, ?_⟩) (by assumption) ?_
      rotate_left
      · intro w2 hSw
        (try dsimp only at hSw)
        (try (obtain ⟨s0, s1⟩ := hSw))
        go_simp
        (try (with_reducible rfl))
      (try simp only [Act.put, lga, lgz, lgs, lsa, lsz, lss])
      refine wpAnyH_take (i := 5) (v := ?_) rfl (by kernel_rfl) (by kernel_rfl) (by kernel_rfl) (fun _ _ _ h => h) (Or.inl ⟨by rfl, ?_⟩) (by assumption) ?_
      rotate_left
      · intro w2 hSw
        (try dsimp only at hSw)
        (try (obtain ⟨s0, s1⟩ := hSw))
        go_simp
        (try (with_reducible rfl))
      (try simp only [Act.put, lga, lgz, lgs, lsa, lsz, lss])
      refine wpAnyH_ready (rs := [3]) (by decide +kernel) (by simp) ?_
      refine AllReadyH.cons rfl (fun K hK => ?_) (AllReadyH.nil)
      (try simp only [lga, lgz, lgs])
      (go_simp; go_at_call 39; (with_reducible refine (cloneSegs _ xn (segCells xs) _ (HXS.out.up (by (repeat' (first | (with_reducible first | exact Up.refl _ | assumption | refine Up.alloc ?_ _ | refine Up.drew ?_ | refine Up.drewN ?_ _ | refine Up.setCell ?_ ?_ _ | refine Up.call ?_ (by assumption)) | go_size)))) (PathM.segCells_one xs) (by omega)).mono ?_); rintro E wd ⟨v34, rfl, hod, hfd, ud⟩; (obtain ⟨a34, c34, rfl⟩ := owned_val hod); have HOD := Lib.hid hod; have HFD := Lib.hid hfd; have zd := ud.size; (try simp at zd); have RBd : Row wd wr.heap.size #[.slice xa xn xc, .bool eo] := Row.up (show Row _ wr.heap.size #[.slice xa xn xc, .bool eo] by (repeat' (with_reducible first | assumption | (refine Row.at _ _ ?_; (simp; done)) | refine Row.alloc ?_ _ | refine Row.drew ?_ | refine Row.drewN ?_ _ | refine Row.other ?_ (by first | (simp; done) | (simp; omega) | omega) _ | refine Row.up ?_ (by assumption) | refine Row.chg ?_ (by assumption) (by first | (simp; done) | (simp; omega))))) ud; have UD := Lib.hid (show Up wr wd by (repeat' (first | (with_reducible first | exact Up.refl _ | assumption | refine Up.alloc ?_ _ | refine Up.drew ?_ | refine Up.drewN ?_ _ | refine Up.setCell ?_ ?_ _ | refine Up.call ?_ (by assumption)) | go_size))); clear hod hfd; (try dsimp only))
      refine hK.out _ _ ?_ (fun hHeld => ?_)
      · exact ⟨RBd.cell 0 rfl, RBd.cell 1 rfl⟩
      clear hK K
      (try simp only [Act.put, lga, lgz, lgs, lsa, lsz, lss])
      refine wpAnyH_take (i := 6) (v := ?_) rfl (by kernel_rfl) (by kernel_rfl) (by kernel_rfl) (fun _ _ _ h => h) (Or.inl ⟨by rfl, ?_⟩) (by assumption) ?_
      rotate_left
      · intro w2 hSw
        (try dsimp only at hSw)
        (try (obtain ⟨s0, s1⟩ := hSw))
        go_simp
        (try (with_reducible rfl))
      (try simp only [Act.put, lga, lgz, lgs, lsa, lsz, lss])
      refine wpAnyH_ready (rs := [7]) (by decide +kernel) (by simp) ?_
      refine AllReadyH.cons rfl (fun K hK => ?_) (AllReadyH.nil)
      (try simp only [lga, lgz, lgs])
      (go_simp)
      refine hK.out _ _ ?_ (fun hHeld => ?_)
      · exact s2_of (show Row _ wr.heap.size #[.slice xa xn xc, .bool eo] from (by (repeat' (with_reducible first | assumption | (refine Row.at _ _ ?_; (simp; done)) | refine Row.alloc ?_ _ | refine Row.drew ?_ | refine Row.drewN ?_ _ | refine Row.other ?_ (by first | (simp; done) | (simp; omega) | omega) _ | refine Row.up ?_ (by assumption) | refine Row.chg ?_ (by assumption) (by first | (simp; done) | (simp; omega))))))
      clear hK K
      (try simp only [Act.put, lga, lgz, lgs, lsa, lsz, lss])
      refine wpAnyH_ready (rs := [8]) (by decide +kernel) (by simp) ?_
      refine AllReadyH.cons rfl (fun K hK => ?_) (AllReadyH.nil)
      (try simp only [lga, lgz, lgs])
      (rw [if_pos (by rfl)]; refine wp_append_lies _ (.tmp 23) (.tmp 30) 39 rfl wf.heap.size 57 i0 (.agg #[.slice none 0 0, .bool false]) 2 32 Tryd.underlying39 hi hz0 hz1 hz2 rfl (by decide) (.slice a3 N1 c3) N1 (clipCells l1) rfl (raw_up (by have h9 := HMD.out.its; rw [HN1.out] at h9; exact h9) (show Up wr _ from Up.alloc UD.out _)) ⟨wd.heap.size, 0, none⟩ 1 1 [.slice a34 xn c34, .bool eo] rfl rfl (news_at (by (repeat' (with_reducible first | assumption | (refine Row.at _ _ ?_; (simp; done)) | refine Row.alloc ?_ _ | refine Row.drew ?_ | refine Row.drewN ?_ _ | refine Row.other ?_ (by first | (simp; done) | (simp; omega) | omega) _ | refine Row.up ?_ (by assumption) | refine Row.chg ?_ (by assumption) (by first | (simp; done) | (simp; omega))))) rfl) (by simp [Value.oneCell']) (by decide) (by unfold maxLen; omega) (by omega) (by simp; omega) _ rfl ?_; intro g2 cap2 we hown5 hgr5 hat5 hg5; have HM5 := Lib.hid (MidC.more (k := ⟨.slice a34 xn c34, xs, eo⟩) (w1 := wd) (w2 := we) (H := wd.heap.size + 1) (g2 := g2) (cap2 := cap2) HMD.out UD.out (by show wd.ownsRow 0 _ 7 _ xs.length _; rw [HXN.out]; exact HOD.out) (fun g hg => by have h9 := HFD.out g hg; simp at h9; omega) (Chg.grown (Chg.of_up (Up.alloc (Up.refl wd) _)) hgr5 (fun k hk => Or.inl (own_mem hk))) (by rcases hat5 with h9 | h9; exact Or.inl h9; exact Or.inr (by simpa using h9)) (Nat.le_succ _) hzr (by rw [HN1.out]; exact hown5)); have HU5 := Lib.hid (show Up wf we from ((Chg.of_up (S := own (.slice a3 N1 c3)) (Up.call HUP.out UD.out)).call (Chg.grown (Chg.of_up (Up.alloc (Up.refl wd) _)) hgr5 (fun k hk => Or.inl (own_mem hk))) (fun k hk => Or.inl hk)).up_base (fun k hk => (HMD.out.its.lt k (own_of hk)).1)); have z5 := hgr5.size; (try simp at z5); have qe : we.cell? ⟨wr.heap.size, 0, none⟩ = some (.slice xa xn xc) ∧ we.cell? ⟨wr.heap.size, 1, none⟩ = some (.bool eo) := (by have h9 : Row we wr.heap.size #[.slice xa xn xc, .bool eo] := Row.chg RBd (Chg.grown (Chg.of_up (Up.alloc (Up.refl wd) _)) hgr5 (fun k hk => Or.inl (own_mem hk))) (fun hk => by have := (HMD.out.its.lt _ (own_of hk)).2; omega); exact ⟨h9.cell 0 rfl, h9.cell 1 rfl⟩); clear hown5 hgr5 hat5)
      refine hK.out _ _ ?_ (fun hHeld => ?_)
      · exact qe
      clear hK K
      (try simp only [Act.put, lga, lgz, lgs, lsa, lsz, lss])
      refine wpAnyH_take (i := 9) (v := ?_) rfl (by kernel_rfl) (by kernel_rfl) (by kernel_rfl) (fun _ _ _ h => h) (Or.inl ⟨by rfl, ?_⟩) (by assumption) ?_
      rotate_left
      · intro w2 hSw
        (try dsimp only at hSw)
        (try (obtain ⟨s0, s1⟩ := hSw))
        go_simp
        (try (with_reducible rfl))
      (try simp only [Act.put, lga, lgz, lgs, lsa, lsz, lss])
      refine wpAnyH_done (by kernel_rfl) ?_ _
      clear hHeld
      go_wp2
      go_roundw
      case rel => exact ⟨l1 ++ [⟨.slice a34 xn c34, xs, eo⟩], some ⟨g2, 0, none⟩, cap2, by rw [List.length_append, List.length_singleton, HN1.out]; omega, by rw [List.length_append, List.length_singleton, HN1.out]; go_num, by rw [List.length_append, List.length_singleton, HN1.out], Lib.hid (by rw [List.length_append, List.length_singleton, HN1.out]; have h9 := HM5.out; rw [HN1.out] at h9; exact h9), Lib.hid (by rw [List.length_append, List.length_singleton, take_map_succ HX.out, List.map_append, HMP.out]; rfl), HU5⟩
      case measure => simp [intOf]; omega
    · obtain ⟨N1, hN1⟩ : ∃ k, l1.length = k := ⟨_, rfl⟩
      rw [hN1] at hlt hk HMD ⊢
      obtain rfl : N1 = cl := by omega
      have HN1 := Lib.hid hN1
      have hcast : decide ((N1 : Int) < (N1 : Int)) = false := decide_eq_false (by omega)
      have k7 : wr.cell? ⟨w.heap.size, 24, none⟩ = some (.slice ca N1 cc) := RBr.cell 24 rfl
      have fr7 := RBr.free 24
      have RZr : Row wr (w.heap.size + 1) #[.int .i64 0, .int .i64 0, .int .i64 0, .int .i64 0, .int .i64 0, .int .i64 0, .int .i64 0, .int .i64 0, .int .i64 0, .int .i64 0, .int .i64 0, .int .i64 0, .int .i64 0, .int .i64 0, .int .i64 0, .slice none 0 0, .int .i64 0, .int .i64 0, .int .i64 0, .int .i64 0, .int .i64 0, .int .i64 0, .int .i64 0, .int .i64 0, .slice none 0 0, .bool false] := HRZ.out.up HUP.out
      clear hN1 hlt
      go_wp2_with (first
        | (refine wpList_load_Row rfl 41 (.tmp 1) rfl (w.heap.size) rfl #[.int .i64 cm.a, .int .i64 cm.b, .int .i64 cm.c, .int .i64 cm.d, .int .i64 cm.x, .int .i64 cm.y, .int .i64 sp, .int .i64 p0, .int .i64 p1, .int .i64 p2, .int .i64 p3, .int .i64 wd, .int .i64 cp, .int .i64 jn, .int .i64 mt, .slice a15 dl c15, .int .i64 ph, .int .i64 fn, .int .i64 fm.a, .int .i64 fm.b, .int .i64 fm.c, .int .i64 fm.d, .int .i64 fm.x, .int .i64 fm.y, .slice a3 N1 c3, .bool dk] _ (show Row _ w.heap.size #[.int .i64 cm.a, .int .i64 cm.b, .int .i64 cm.c, .int .i64 cm.d, .int .i64 cm.x, .int .i64 cm.y, .int .i64 sp, .int .i64 p0, .int .i64 p1, .int .i64 p2, .int .i64 p3, .int .i64 wd, .int .i64 cp, .int .i64 jn, .int .i64 mt, .slice a15 dl c15, .int .i64 ph, .int .i64 fn, .int .i64 fm.a, .int .i64 fm.b, .int .i64 fm.c, .int .i64 fm.d, .int .i64 fm.x, .int .i64 fm.y, .slice a3 N1 c3, .bool dk] from (by apply cast; (case h => (repeat (first | (with_reducible first | assumption | (apply Row.at; (simp; done)) | apply Row.alloc | apply Row.drew | apply Row.drewN | apply Row.set) | ((with_reducible apply Row.other); (case hp => first | (simp; done) | (simp; omega) | omega))))); (case e => rfl))) Tryd.underlying41 rfl Gs.infoSt rfl ?_)
        | ((refine wpList_store_Row rfl 41 (.tmp 2) _ rfl (w.heap.size + 1) #[.int .i64 cm.a, .int .i64 cm.b, .int .i64 cm.c, .int .i64 cm.d, .int .i64 cm.x, .int .i64 cm.y, .int .i64 sp, .int .i64 p0, .int .i64 p1, .int .i64 p2, .int .i64 p3, .int .i64 wd, .int .i64 cp, .int .i64 jn, .int .i64 mt, .slice a15 dl c15, .int .i64 ph, .int .i64 fn, .int .i64 fm.a, .int .i64 fm.b, .int .i64 fm.c, .int .i64 fm.d, .int .i64 fm.x, .int .i64 fm.y, .slice a3 N1 c3, .bool dk] rfl rfl #[.int .i64 0, .int .i64 0, .int .i64 0, .int .i64 0, .int .i64 0, .int .i64 0, .int .i64 0, .int .i64 0, .int .i64 0, .int .i64 0, .int .i64 0, .int .i64 0, .int .i64 0, .int .i64 0, .int .i64 0, .slice none 0 0, .int .i64 0, .int .i64 0, .int .i64 0, .int .i64 0, .int .i64 0, .int .i64 0, .int .i64 0, .int .i64 0, .slice none 0 0, .bool false] (by (repeat' (with_reducible first | assumption | (refine Row.at _ _ ?_; (simp; done)) | refine Row.alloc ?_ _ | refine Row.drew ?_ | refine Row.drewN ?_ _ | refine Row.other ?_ (by first | (simp; done) | (simp; omega) | omega) _ | refine Row.up ?_ (by assumption) | refine Row.chg ?_ (by assumption) (by first | (simp; done) | (simp; omega))))) Gs.infoSt rfl rfl (by simp [Value.oneCell']) ?_); intro w3 hr3 hc3))
      (try simp only [Exit.inBlock, Exit.then])
      refine bodyPost_ret (Gs.results_st rfl _ _ (w.heap.size + 1) #[.int .i64 cm.a, .int .i64 cm.b, .int .i64 cm.c, .int .i64 cm.d, .int .i64 cm.x, .int .i64 cm.y, .int .i64 sp, .int .i64 p0, .int .i64 p1, .int .i64 p2, .int .i64 p3, .int .i64 wd, .int .i64 cp, .int .i64 jn, .int .i64 mt, .slice a15 dl c15, .int .i64 ph, .int .i64 fn, .int .i64 fm.a, .int .i64 fm.b, .int .i64 fm.c, .int .i64 fm.d, .int .i64 fm.x, .int .i64 fm.y, .slice a3 N1 c3, .bool dk] hr3 rfl rfl) rfl ?_
      have hcz : Chg [w.heap.size, w.heap.size + 1] wr w3 := (((Chg.refl [w.heap.size, w.heap.size + 1] wr).setCell (Or.inl (by simp)) _).call hc3 (fun k hk => Or.inl (by simp at hk; simp [hk])))
      obtain ⟨h1, h2, h3, h4, h5, h6, h7⟩ := own_mk (cs := cs) (ds := ds) HDV.out HLO.out HUF.out hzf2 HMD.out HN1.out (by have h9 := HMP.out; rwa [HN1.out, List.take_of_length_le (by have := HCN.out; omega)] at h9) HUP.out hcz
      exact ⟨a15, c15, a3, c3, l1, rfl, h1, h2, h3, h4, h5, h6, h7⟩


/-- lengths that an append bears -/
structure Le (x : SD) : Prop where
  d : x.ds.length ≤ 10000
  c : x.cl.length ≤ 100
  p : ∀ c ∈ x.cl, c.1.length ≤ 10000
/-- a state that may lie anywhere: what own reads -/
structure SA (w : World) (s : S) : Prop where
  d : Src w s.dv 1 s.ds.length (s.ds.map (Value.int .i64))
  dw : ∀ z ∈ s.ds, (Lit.int .i64 z).wf = true
  c : ∃ a len cap, s.cv = .slice a len cap ∧ Sl 2 Clip.cells w a len cap s.cl
  cs : ∀ c ∈ s.cl, Src w c.v 7 c.l.length (segCells c.l)
theorem SA.up {w w1 : World} {s : S} (h : SA w s) (hu : Up w w1) : SA w1 s := by
  obtain ⟨a, len, cap, e, hs⟩ := h.c
  exact ⟨h.d.up hu, h.dw, ⟨a, len, cap, e, sl_up hs hu⟩, fun c hc => (h.cs c hc).up hu⟩
theorem src_row {w : World} {base : Nat} {e : TypeId} {K : Nat} {v : Value} {n : Nat} {xs : List Value} (h : w.ownsRow base e K v n xs) : Src w v K n xs := by
  have hl := h.1
  rcases h.2 with ⟨rfl, h0⟩ | ⟨g, cap, cur, rfl, _⟩
  · exact ⟨none, 0, by rw [h0], hl, fun _ => ⟨h0, rfl⟩, fun ad e => by cases e⟩
  · refine ⟨_, _, rfl, hl, (fun e => by cases e), fun ad e j u hj => ?_⟩
    injection e with e
    subst e
    exact h.cells (g := g) rfl j u hj
theorem SO.a {w : World} {s : S} (h : SO w s) : SA w s := by
  obtain ⟨a, len, cap, e, hs⟩ := Pt.owns_sl clip_len h.cv
  exact ⟨src_row h.dv, h.dw, ⟨a, len, cap, e, hs⟩, fun c hc => src_row (h.cs c hc)⟩
set_option maxRecDepth 8000 in
theorem own_S (s : S) (w : World) (h : SA w s) (hl : Le s.dat) :
    Calls Tryd.prog 38 #[.agg s.cells.toArray] w fun E w' => ∃ s' : S, E = .returned (.agg s'.cells.toArray) ∧ s'.dat = s.dat ∧ SO w' s' ∧ (∀ b ∈ s'.bl, w.heap.size ≤ b ∧ b < w'.heap.size) ∧ Up w w' := by
  obtain ⟨hd, hdw, ⟨ca, cl, cc, ec, hc⟩, hcs⟩ := h
  obtain ⟨l1, l2, l3⟩ := hl
  obtain ⟨cm, sp, p0, p1, p2, p3, wd, cp, jn, mt, dv, ds, ph, fn, fm, cv, cs, dk⟩ := s
  simp only [S.dat, List.length_map] at l1 l2 l3
  simp only at hd hdw ec hc hcs
  obtain ⟨da, dc, e1, _⟩ := (fun {p : Prop} (h : p) => h) hd
  subst e1 ec
  have hcn := hc.2.2.1
  refine (own_calls cm sp p0 p1 p2 p3 wd cp jn mt da ds.length dc ph fn fm ca cl cc dk cs ds w hd hc hcs l1 (by omega) (fun c hc => l3 (c.l, c.eo) (List.mem_map.2 ⟨c, hc, rfl⟩))).mono ?_
  rintro E w' ⟨a15, c15, a7, c7, cs', rfl, h1, h2, h3, h4, h5, h6, h7⟩
  refine ⟨⟨cm, sp, p0, p1, p2, p3, wd, cp, jn, mt, .slice a15 ds.length c15, ds, ph, fn, fm, .slice a7 cl c7, cs', dk⟩, rfl, ?_, ⟨h2, hdw, h3, h4, h5⟩, h6, h7⟩
  simp only [S.dat, h1]

end Go.Proofs.YtoflafbhfoncmaaDoor.Gt
end

section
namespace Go.Proofs.YtoflafbhfoncmaaDoor.Gt
open Go.ChangeShapes Go.WideShapes Go.ChangeAt Go.RowKit
open Go.Proofs.YtoflafbhfoncmaaDoor.FixM (fits)
open Go.Proofs.YtoflafbhfoncmaaDoor.MatM (M6)
open Go.Proofs.YtoflafbhfoncmaaDoor.PathM (Seg St Z segCells)
open Go.Proofs.YtoflafbhfoncmaaDoor.Path (own own_mem own_of PathIs Segs)
open Go.Proofs.YtoflafbhfoncmaaDoor.Pt (Clip clipCells Src)
set_option linter.unusedVariables false
set_option linter.unusedSimpArgs false

open Go.Proofs.YtoflafbhfoncmaaDoor.Pt (raw_up owned_new Clip.cells)
theorem row_setCells {b : Nat} : ∀ (vs old pre rest : List Value) (w : World), old.length = vs.length → Row w b (pre ++ (old ++ rest)).toArray → Row (w.setCells b pre.length vs) b (pre ++ (vs ++ rest)).toArray ∧ Chg [b] w (w.setCells b pre.length vs)
  | [], [], pre, rest, w, _, h => ⟨h, Chg.refl _ _⟩
  | [], _ :: _, _, _, _, e, _ => by simp at e
  | _ :: _, [], _, _, _, e, _ => by simp at e
  | v :: vs, o :: old, pre, rest, w, e, h => by
    have h1 : Row (w.setCell ⟨b, pre.length, none⟩ v) b ((pre ++ [v]) ++ (old ++ rest)).toArray := by
      refine cast (Row.set h pre.length v) ?_
      simp
    have hc : Chg [b] w (w.setCell ⟨b, pre.length, none⟩ v) := (Chg.refl _ w).setCell (Or.inl (by simp)) _
    have ih := row_setCells vs old (pre ++ [v]) rest _ (by simpa using e) h1
    have e2 : (pre ++ [v]).length = pre.length + 1 := by simp
    rw [e2] at ih
    refine ⟨?_, hc.call ih.2 (fun k hk => Or.inl hk)⟩
    have h2 := ih.1
    rw [List.append_assoc] at h2
    exact h2
theorem there_row {w : World} {b : Nat} {cs : Array Value} (h : Row w b cs) {n : Nat} (hn : n ≤ cs.size) : w.there b 0 n := fun j hj => by
  rw [Nat.zero_add]
  refine ⟨?_, h.free j⟩
  rw [h.cell j (Array.getElem?_eq_getElem (by omega))]
  rfl
theorem wpList_store_part {ops : Array Oper} {rest : List Oper} {o : Oper} {a : Act} {w : World} {Q : Exit → Act → World → Prop} (hgd : o.guard = none) (ty : TypeId) (x y : Operand) (ho : o.op = .store ty x y)
    (b : Nat) (new old tail : List Value) (hx : a.eval x = .pointer (some ⟨b, 0, none⟩)) (hy : a.eval y = .agg new.toArray) (h : Row w b (old ++ tail).toArray) (hl : old.length = new.length) {n : Nat} (hi : (Tryd.prog.info? ty).map (·.size) = some n) (hn : new.length = n) (h1 : ∀ u ∈ new, u.oneCell' = true)
    (hk : ∀ w2, Row w2 b (new ++ tail).toArray → Chg [b] w w2 → wpList Tryd.prog ops Q rest (a.put o.dst undef) w2) : wpList Tryd.prog ops Q (o :: rest) a w := by
  have hr := row_setCells new old [] tail w hl h
  refine wpList_store_mid hgd ty x y ho b 0 new.toArray hx hy (there_row h (by simp; omega)) (by rw [hi, ← hn]; simp) (all_oneCell_toArray h1) ?_
  exact hk _ hr.1 hr.2
theorem rng_part {w : World} {b : Nat} {cs tail : List Value} (h : Row w b (cs ++ tail).toArray) : w.rangeAt b 0 cs := fun j v hj => by
  rw [Nat.zero_add]
  refine h.cell j ?_
  have hl := (List.getElem?_eq_some_iff.1 hj).1
  simp only [List.getElem?_toArray]
  rw [List.getElem?_append_left hl]
  exact hj
theorem S.one {w : World} {s : S} (h : SO w s) : ∀ u ∈ s.cells, u.oneCell' = true := fun u hu => by
  obtain ⟨a, c, e⟩ := owned_val h.dv
  obtain ⟨a2, c2, e2⟩ := owned_val h.cv
  simp only [S.cells, List.mem_cons, List.not_mem_nil, or_false] at hu
  rcases hu with h | h | h | h | h | h | h | h | h | h | h | h | h | h | h | h | h | h | h | h | h | h | h | h | h | h <;> subst h <;> first | rfl | (rw [e]; rfl) | (rw [e2]; rfl)
theorem Lv.one {w : World} {l : Lv} (h : SO w l.s) : ∀ u ∈ l.cells, u.oneCell' = true := fun u hu => by
  rcases List.mem_append.1 hu with h1 | h1
  · exact S.one h u h1
  · rw [List.mem_singleton] at h1; subst h1; rfl
theorem X.split (x : X) : x.cells = x.l.s.cells ++ ([Value.pointer (some ⟨x.l.p, 0, none⟩)] ++ [Value.int .i64 x.most, Value.int .i64 x.segs, x.sv]) := by simp [X.cells, Lv.cells]
theorem G.rowS {w : World} {g : Nat} {x : X} (h : G w g x) : Row w g (x.l.s.cells ++ ([Value.pointer (some ⟨x.l.p, 0, none⟩)] ++ [Value.int .i64 x.most, Value.int .i64 x.segs, x.sv])).toArray := by
  have := h.row
  rwa [X.split] at this
theorem G.rowL {w : World} {g : Nat} {x : X} (h : G w g x) : Row w g (x.l.cells ++ [Value.int .i64 x.most, Value.int .i64 x.segs, x.sv]).toArray := h.row
theorem infoLv : (Tryd.prog.info? 67).map (·.size) = some 27 := by kernel_rfl

set_option maxRecDepth 8000 in
set_option maxHeartbeats 1000000 in
theorem now_X (g : Nat) (x : X) (w : World) (h : G w g x) (hl : Le x.l.s.dat) :
    Calls Tryd.prog 9 #[.pointer (some ⟨g, 0, none⟩)] w fun E w' => ∃ s' : S, E = .returned (.agg s'.cells.toArray) ∧ s'.dat = x.l.s.dat ∧ SO w' s' ∧ (∀ b ∈ s'.bl, w.heap.size ≤ b ∧ b < w'.heap.size) ∧ Up w w' := by
  have HG := Lib.hid h
  have HL := Lib.hid hl
  have HR := Lib.hid h.rowS
  have hlt := h.row.lt
  clear h hl
  obtain ⟨C, hC⟩ : ∃ C, x.l.s.cells = C := ⟨_, rfl⟩
  have HC := Lib.hid hC
  go_enter Tryd.func9, Tryd.ntmps9
  go_wp2_with (first
    | (refine wpList_load_mid rfl 41 (.tmp 9) rfl g 0 rfl C _ (by have h := HR.out; rw [HC.out] at h; exact rng_part (Row.alloc h _)) Tryd.underlying41 rfl (by rw [← HC.out]; exact Gs.infoSt) ?_)
    | (go_at_call 38; ((refine Calls.mono (show Calls _ _ #[.agg C.toArray] _ _ from (by rw [← HC.out]; exact own_S x.l.s _ (HG.out.cur.s.a.up (Up.alloc (Up.refl w) _)) HL.out)) ?_); rintro E w1 ⟨s1, rfl, hd1, ho1, hf1, hu1⟩; have z1 := hu1.size; (try simp at z1); have HD1 := Lib.hid hd1; have HO1 := Lib.hid ho1; have HF1 := Lib.hid hf1; have RY1 : Row w1 w.heap.size #[.int .i64 0, .int .i64 0, .int .i64 0, .int .i64 0, .int .i64 0, .int .i64 0, .int .i64 0, .int .i64 0, .int .i64 0, .int .i64 0, .int .i64 0, .int .i64 0, .int .i64 0, .int .i64 0, .int .i64 0, .slice none 0 0, .int .i64 0, .int .i64 0, .int .i64 0, .int .i64 0, .int .i64 0, .int .i64 0, .int .i64 0, .int .i64 0, .slice none 0 0, .bool false] := Row.up (show Row _ w.heap.size #[.int .i64 0, .int .i64 0, .int .i64 0, .int .i64 0, .int .i64 0, .int .i64 0, .int .i64 0, .int .i64 0, .int .i64 0, .int .i64 0, .int .i64 0, .int .i64 0, .int .i64 0, .int .i64 0, .int .i64 0, .slice none 0 0, .int .i64 0, .int .i64 0, .int .i64 0, .int .i64 0, .int .i64 0, .int .i64 0, .int .i64 0, .int .i64 0, .slice none 0 0, .bool false] by (repeat' (with_reducible first | assumption | (refine Row.at _ _ ?_; (simp; done)) | refine Row.alloc ?_ _ | refine Row.drew ?_ | refine Row.drewN ?_ _ | refine Row.other ?_ (by first | (simp; done) | (simp; omega) | omega) _ | refine Row.up ?_ (by assumption) | refine Row.chg ?_ (by assumption) (by first | (simp; done) | (simp; omega))))) hu1; obtain ⟨C1, hC1⟩ : ∃ C1, s1.cells = C1 := ⟨_, rfl⟩; have HC1 := Lib.hid hC1; have h1c : C1.toArray.all (·.oneCell') = true := all_oneCell_toArray (by rw [← hC1]; exact S.one ho1); have h1s : C1.toArray.size = 26 := (by rw [← hC1]; rfl); rw [hC1]; clear hd1 ho1 hf1 hC1))
    | ((refine wpList_store_Row rfl 41 (.tmp 2) _ rfl w.heap.size C1.toArray rfl rfl #[.int .i64 0, .int .i64 0, .int .i64 0, .int .i64 0, .int .i64 0, .int .i64 0, .int .i64 0, .int .i64 0, .int .i64 0, .int .i64 0, .int .i64 0, .int .i64 0, .int .i64 0, .int .i64 0, .int .i64 0, .slice none 0 0, .int .i64 0, .int .i64 0, .int .i64 0, .int .i64 0, .int .i64 0, .int .i64 0, .int .i64 0, .int .i64 0, .slice none 0 0, .bool false] RY1 Gs.infoSt h1s rfl h1c ?_); intro w9 hr9 hc9))
  (try simp only [Exit.inBlock, Exit.then])
  refine bodyPost_ret (Gs.results_st rfl _ _ w.heap.size _ hr9 h1s rfl) rfl ?_
  have hsz := hc9.size
  have hb : ∀ b ∈ s1.bl, w.heap.size + 1 ≤ b ∧ b < w1.heap.size := fun b hb => by
    have := HF1.out b hb
    simpa using this
  refine ⟨s1, by rw [HC1.out], HD1.out, HO1.out.chg hc9 (fun b hb2 => by have := hb b hb2; simp; omega), fun b hb2 => ⟨by have := hb b hb2; omega, by have := hb b hb2; omega⟩, (show Chg [] w w9 by (repeat' (first | (with_reducible first | exact Chg.refl _ _ | assumption | refine Chg.alloc ?_ _ | refine Chg.drew ?_ | refine Chg.drewN ?_ _ | refine Chg.setCell ?_ ?_ _ | refine Chg.upc ?_ (by assumption) | refine Chg.call ?_ (by assumption) ?_) | (refine Or.inl ?_; (simp; done)) | (simp; done) | (simp; omega) | omega))).up⟩

end Go.Proofs.YtoflafbhfoncmaaDoor.Gt
end

section
namespace Go.Proofs.YtoflafbhfoncmaaDoor.Gt
open List renaming getElem_toArray → lga, getElem_cons_zero → lgz, getElem_cons_succ → lgs, setIfInBounds_toArray → lsa, set_cons_zero → lsz, set_cons_succ → lss
open Go.ChangeShapes Go.WideShapes Go.ChangeAt Go.RowKit
open Go.Proofs.YtoflafbhfoncmaaDoor.FixM (fits)
open Go.Proofs.YtoflafbhfoncmaaDoor.MatM (M6)
open Go.Proofs.YtoflafbhfoncmaaDoor.PathM (Seg St Z segCells)
open Go.Proofs.YtoflafbhfoncmaaDoor.Path (own own_mem own_of PathIs Segs)
open Go.Proofs.YtoflafbhfoncmaaDoor.Pt (Clip clipCells Src)
set_option linter.unusedVariables false
set_option linter.unusedSimpArgs false

open Go.Proofs.YtoflafbhfoncmaaDoor.Pt (raw_up owned_new Clip.cells)
theorem rng_lv {W : World} {b : Nat} {a0 a1 a2 a3 a4 a5 a6 a7 a8 a9 a10 a11 a12 a13 a14 a15 a16 a17 a18 a19 a20 a21 a22 a23 a24 a25 a26 : Value} (h : Row W b #[a0, a1, a2, a3, a4, a5, a6, a7, a8, a9, a10, a11, a12, a13, a14, a15, a16, a17, a18, a19, a20, a21, a22, a23, a24, a25, a26]) : W.rangeAt b 0 #[a0, a1, a2, a3, a4, a5, a6, a7, a8, a9, a10, a11, a12, a13, a14, a15, a16, a17, a18, a19, a20, a21, a22, a23, a24, a25].toList := fun j v hj => by
  rw [Nat.zero_add]
  refine h.cell j ?_
  match j, hj with
  | 0, hj => exact hj
  | 1, hj => exact hj
  | 2, hj => exact hj
  | 3, hj => exact hj
  | 4, hj => exact hj
  | 5, hj => exact hj
  | 6, hj => exact hj
  | 7, hj => exact hj
  | 8, hj => exact hj
  | 9, hj => exact hj
  | 10, hj => exact hj
  | 11, hj => exact hj
  | 12, hj => exact hj
  | 13, hj => exact hj
  | 14, hj => exact hj
  | 15, hj => exact hj
  | 16, hj => exact hj
  | 17, hj => exact hj
  | 18, hj => exact hj
  | 19, hj => exact hj
  | 20, hj => exact hj
  | 21, hj => exact hj
  | 22, hj => exact hj
  | 23, hj => exact hj
  | 24, hj => exact hj
  | 25, hj => exact hj
  | j + 26, hj => simp at hj

set_option maxRecDepth 8000 in
set_option maxHeartbeats 4000000 in
theorem copied_calls (cm : M6) (sp p0 p1 p2 p3 wd cp jn mt : Int) (da : Option Addr) (dl dc : Nat) (ph fn : Int) (fm : M6) (ca : Option Addr) (cl cc : Nat) (dk : Bool) (cs : List Clip) (ds : List Int) (p : Nat) (pv : Value) (t : St) (w : World) (hD : Src w (.slice da dl dc) 1 dl (ds.map (Value.int .i64))) (hC : Sl 2 Clip.cells w ca cl cc cs) (hCs : ∀ c ∈ cs, Src w c.v 7 c.l.length (segCells c.l)) (l3 : dl ≤ 10000) (l4 : cl ≤ 100) (l5 : ∀ c ∈ cs, c.l.length ≤ 10000) (hp : PathIs w p pv t) :
    Calls Tryd.prog 40 #[.agg #[.int .i64 cm.a, .int .i64 cm.b, .int .i64 cm.c, .int .i64 cm.d, .int .i64 cm.x, .int .i64 cm.y, .int .i64 sp, .int .i64 p0, .int .i64 p1, .int .i64 p2, .int .i64 p3, .int .i64 wd, .int .i64 cp, .int .i64 jn, .int .i64 mt, .slice da dl dc, .int .i64 ph, .int .i64 fn, .int .i64 fm.a, .int .i64 fm.b, .int .i64 fm.c, .int .i64 fm.d, .int .i64 fm.x, .int .i64 fm.y, .slice ca cl cc, .bool dk, .pointer (some ⟨p, 0, none⟩)]] w fun E w' => ∃ a15 c15 a7 c7 cs' q2 v2, E = .returned (.agg #[.int .i64 cm.a, .int .i64 cm.b, .int .i64 cm.c, .int .i64 cm.d, .int .i64 cm.x, .int .i64 cm.y, .int .i64 sp, .int .i64 p0, .int .i64 p1, .int .i64 p2, .int .i64 p3, .int .i64 wd, .int .i64 cp, .int .i64 jn, .int .i64 mt, .slice a15 dl c15, .int .i64 ph, .int .i64 fn, .int .i64 fm.a, .int .i64 fm.b, .int .i64 fm.c, .int .i64 fm.d, .int .i64 fm.x, .int .i64 fm.y, .slice a7 cl c7, .bool dk, .pointer (some ⟨q2, 0, none⟩)]) ∧ cs'.map (fun c => (c.l, c.eo)) = cs.map (fun c => (c.l, c.eo)) ∧ w'.ownsRow 0 3 1 (.slice a15 dl c15) dl (ds.map (Value.int .i64)) ∧ w'.ownsRow 0 57 2 (.slice a7 cl c7) cs'.length (clipCells cs') ∧ (∀ c ∈ cs', Path.Segs w' c.v c.l) ∧ PathIs w' q2 v2 t ∧
      (q2 :: (own v2 ++ (own (.slice a15 dl c15) ++ (own (.slice a7 cl c7) ++ cs'.flatMap (fun c => own c.v))))).Nodup ∧ (∀ g ∈ q2 :: (own v2 ++ (own (.slice a15 dl c15) ++ (own (.slice a7 cl c7) ++ cs'.flatMap (fun c => own c.v)))), w.heap.size ≤ g ∧ g < w'.heap.size) ∧ Up w w' := by
  have HD := Lib.hid hD
  have HC := Lib.hid hC
  have HCS := Lib.hid hCs
  have HL5 := Lib.hid l5
  have HP := Lib.hid hp
  clear hD hC hCs l5 hp
  go_enter Tryd.func40, Tryd.ntmps40
  go_wp2
  refine wp_region_held_drew (S := fun w' => Row w' w.heap.size #[.int .i64 cm.a, .int .i64 cm.b, .int .i64 cm.c, .int .i64 cm.d, .int .i64 cm.x, .int .i64 cm.y, .int .i64 sp, .int .i64 p0, .int .i64 p1, .int .i64 p2, .int .i64 p3, .int .i64 wd, .int .i64 cp, .int .i64 jn, .int .i64 mt, .slice da dl dc, .int .i64 ph, .int .i64 fn, .int .i64 fm.a, .int .i64 fm.b, .int .i64 fm.c, .int .i64 fm.d, .int .i64 fm.x, .int .i64 fm.y, .slice ca cl cc, .bool dk, .pointer (some ⟨p, 0, none⟩)] ∧ w'.cell? ⟨w.heap.size, 26, none⟩ = some (.pointer (some ⟨p, 0, none⟩))) (by kernel_rfl) ?_ (fun hHeld => ?_)
  · exact ⟨by (repeat' (with_reducible first | assumption | (refine Row.at _ _ ?_; (simp; done)) | refine Row.alloc ?_ _ | refine Row.drew ?_ | refine Row.drewN ?_ _ | refine Row.other ?_ (by first | (simp; done) | (simp; omega) | omega) _ | refine Row.up ?_ (by assumption) | refine Row.chg ?_ (by assumption) (by first | (simp; done) | (simp; omega)))), (show Row _ w.heap.size #[.int .i64 cm.a, .int .i64 cm.b, .int .i64 cm.c, .int .i64 cm.d, .int .i64 cm.x, .int .i64 cm.y, .int .i64 sp, .int .i64 p0, .int .i64 p1, .int .i64 p2, .int .i64 p3, .int .i64 wd, .int .i64 cp, .int .i64 jn, .int .i64 mt, .slice da dl dc, .int .i64 ph, .int .i64 fn, .int .i64 fm.a, .int .i64 fm.b, .int .i64 fm.c, .int .i64 fm.d, .int .i64 fm.x, .int .i64 fm.y, .slice ca cl cc, .bool dk, .pointer (some ⟨p, 0, none⟩)] from (by (repeat' (with_reducible first | assumption | (refine Row.at _ _ ?_; (simp; done)) | refine Row.alloc ?_ _ | refine Row.drew ?_ | refine Row.drewN ?_ _ | refine Row.other ?_ (by first | (simp; done) | (simp; omega) | omega) _ | refine Row.up ?_ (by assumption) | refine Row.chg ?_ (by assumption) (by first | (simp; done) | (simp; omega)))))).cell 26 rfl⟩
  refine wpAnyH_take (i := 0) (v := ?_) rfl (by decide +kernel) (by decide +kernel) (by decide +kernel) (fun _ _ _ h => h) (Or.inl ⟨by rfl, ?_⟩) (by assumption) ?_
  rotate_left
  · intro w2 hSw
    (try dsimp only at hSw)
    (try (obtain ⟨hs1, hs2⟩ := hSw))
    go_simp
    (try (with_reducible rfl))
  (try simp only [Act.put, lga, lgz, lgs, lsa, lsz, lss])
  refine wpAnyH_take (i := 1) rfl (by decide +kernel) (by decide +kernel) (by decide +kernel) (fun _ _ _ h => h) (yieldsIf_load_mid (by rfl) 41 (.tmp 3) rfl w.heap.size 0 rfl #[.int .i64 cm.a, .int .i64 cm.b, .int .i64 cm.c, .int .i64 cm.d, .int .i64 cm.x, .int .i64 cm.y, .int .i64 sp, .int .i64 p0, .int .i64 p1, .int .i64 p2, .int .i64 p3, .int .i64 wd, .int .i64 cp, .int .i64 jn, .int .i64 mt, .slice da dl dc, .int .i64 ph, .int .i64 fn, .int .i64 fm.a, .int .i64 fm.b, .int .i64 fm.c, .int .i64 fm.d, .int .i64 fm.x, .int .i64 fm.y, .slice ca cl cc, .bool dk].toList _ (fun _ h => rng_lv h.1) Tryd.underlying41 rfl (by exact Gs.infoSt)) (by assumption) ?_
  (try simp only [Act.put, lga, lgz, lgs, lsa, lsz, lss])
  refine wpAnyH_take (i := 3) (v := ?_) rfl (by decide +kernel) (by decide +kernel) (by decide +kernel) (fun _ _ _ h => h) (Or.inl ⟨by rfl, ?_⟩) (by assumption) ?_
  rotate_left
  · intro w2 hSw
    (try dsimp only at hSw)
    (try (obtain ⟨hs1, hs2⟩ := hSw))
    go_simp
    (try (with_reducible rfl))
  (try simp only [Act.put, lga, lgz, lgs, lsa, lsz, lss])
  refine wpAnyH_take (i := 4) (v := ?_) rfl (by decide +kernel) (by decide +kernel) (by decide +kernel) (fun _ _ _ h => h) (Or.inl ⟨by rfl, ?_⟩) (by assumption) ?_
  rotate_left
  · intro w2 hSw
    (try dsimp only at hSw)
    (try (obtain ⟨hs1, hs2⟩ := hSw))
    go_simp
    (try (with_reducible rfl))
  (try simp only [Act.put, lga, lgz, lgs, lsa, lsz, lss])
  refine wpAnyH_ready (rs := [2]) (by decide +kernel) (by simp) ?_
  refine AllReadyH.cons rfl (fun K hK => ?_) (AllReadyH.nil)
  (try simp only [lga, lgz, lgs])
  (go_simp; go_at_call 38; (with_reducible refine (own_calls cm sp p0 p1 p2 p3 wd cp jn mt da dl dc ph fn fm ca cl cc dk cs ds _ (HD.out.up (by (repeat' (first | (with_reducible first | exact Up.refl _ | assumption | refine Up.alloc ?_ _ | refine Up.drew ?_ | refine Up.drewN ?_ _ | refine Up.setCell ?_ ?_ _ | refine Up.call ?_ (by assumption)) | go_size)))) (Pt.sl_up HC.out (by (repeat' (first | (with_reducible first | exact Up.refl _ | assumption | refine Up.alloc ?_ _ | refine Up.drew ?_ | refine Up.drewN ?_ _ | refine Up.setCell ?_ ?_ _ | refine Up.call ?_ (by assumption)) | go_size)))) (fun c hc => (HCS.out c hc).up (by (repeat' (first | (with_reducible first | exact Up.refl _ | assumption | refine Up.alloc ?_ _ | refine Up.drew ?_ | refine Up.drewN ?_ _ | refine Up.setCell ?_ ?_ _ | refine Up.call ?_ (by assumption)) | go_size)))) l3 l4 HL5.out).mono ?_); rintro E w1 ⟨a15, c15, a7, c7, cs', rfl, hm1, hd1, hc1, hs1, hn1, hf1, hu1⟩; have z1 := hu1.size; (try simp at z1); have HM1 := Lib.hid hm1; have HD1 := Lib.hid hd1; have HC1 := Lib.hid hc1; have HS1 := Lib.hid hs1; have HN1 := Lib.hid hn1; have HF1 : Hid (∀ g ∈ own (.slice a15 dl c15) ++ (own (.slice a7 cl c7) ++ cs'.flatMap (fun c => own c.v)), w.heap.size + 2 ≤ g ∧ g < w1.heap.size) := Lib.hid (fun g hg => by have := hf1 g hg; simpa using this); clear hm1 hd1 hc1 hs1 hn1 hf1; have RX1 : Row w1 w.heap.size #[.int .i64 cm.a, .int .i64 cm.b, .int .i64 cm.c, .int .i64 cm.d, .int .i64 cm.x, .int .i64 cm.y, .int .i64 sp, .int .i64 p0, .int .i64 p1, .int .i64 p2, .int .i64 p3, .int .i64 wd, .int .i64 cp, .int .i64 jn, .int .i64 mt, .slice da dl dc, .int .i64 ph, .int .i64 fn, .int .i64 fm.a, .int .i64 fm.b, .int .i64 fm.c, .int .i64 fm.d, .int .i64 fm.x, .int .i64 fm.y, .slice ca cl cc, .bool dk, .pointer (some ⟨p, 0, none⟩)] := Row.up (show Row _ w.heap.size #[.int .i64 cm.a, .int .i64 cm.b, .int .i64 cm.c, .int .i64 cm.d, .int .i64 cm.x, .int .i64 cm.y, .int .i64 sp, .int .i64 p0, .int .i64 p1, .int .i64 p2, .int .i64 p3, .int .i64 wd, .int .i64 cp, .int .i64 jn, .int .i64 mt, .slice da dl dc, .int .i64 ph, .int .i64 fn, .int .i64 fm.a, .int .i64 fm.b, .int .i64 fm.c, .int .i64 fm.d, .int .i64 fm.x, .int .i64 fm.y, .slice ca cl cc, .bool dk, .pointer (some ⟨p, 0, none⟩)] by (repeat' (with_reducible first | assumption | (refine Row.at _ _ ?_; (simp; done)) | refine Row.alloc ?_ _ | refine Row.drew ?_ | refine Row.drewN ?_ _ | refine Row.other ?_ (by first | (simp; done) | (simp; omega) | omega) _ | refine Row.up ?_ (by assumption) | refine Row.chg ?_ (by assumption) (by first | (simp; done) | (simp; omega))))) hu1; have RY1 : Row w1 (w.heap.size + 1) #[.int .i64 0, .int .i64 0, .int .i64 0, .int .i64 0, .int .i64 0, .int .i64 0, .int .i64 0, .int .i64 0, .int .i64 0, .int .i64 0, .int .i64 0, .int .i64 0, .int .i64 0, .int .i64 0, .int .i64 0, .slice none 0 0, .int .i64 0, .int .i64 0, .int .i64 0, .int .i64 0, .int .i64 0, .int .i64 0, .int .i64 0, .int .i64 0, .slice none 0 0, .bool false, .pointer none] := Row.up (show Row _ (w.heap.size + 1) #[.int .i64 0, .int .i64 0, .int .i64 0, .int .i64 0, .int .i64 0, .int .i64 0, .int .i64 0, .int .i64 0, .int .i64 0, .int .i64 0, .int .i64 0, .int .i64 0, .int .i64 0, .int .i64 0, .int .i64 0, .slice none 0 0, .int .i64 0, .int .i64 0, .int .i64 0, .int .i64 0, .int .i64 0, .int .i64 0, .int .i64 0, .int .i64 0, .slice none 0 0, .bool false, .pointer none] by (repeat' (with_reducible first | assumption | (refine Row.at _ _ ?_; (simp; done)) | refine Row.alloc ?_ _ | refine Row.drew ?_ | refine Row.drewN ?_ _ | refine Row.other ?_ (by first | (simp; done) | (simp; omega) | omega) _ | refine Row.up ?_ (by assumption) | refine Row.chg ?_ (by assumption) (by first | (simp; done) | (simp; omega))))) hu1; (try dsimp only))
  refine hK.out _ _ ?_ (fun hHeld => ?_)
  · exact ⟨RX1, RX1.cell 26 rfl⟩
  clear hK K
  (try simp only [Act.put, lga, lgz, lgs, lsa, lsz, lss])
  refine wpAnyH_ready (rs := [5]) (by decide +kernel) (by simp) ?_
  refine AllReadyH.cons rfl (fun K hK => ?_) (AllReadyH.nil)
  (try simp only [lga, lgz, lgs])
  (go_simp; go_at_call 56; (with_reducible refine (Path.copy_calls p pv t _ (HP.out.up (by (repeat' (first | (with_reducible first | exact Up.refl _ | assumption | refine Up.alloc ?_ _ | refine Up.drew ?_ | refine Up.drewN ?_ _ | refine Up.setCell ?_ ?_ _ | refine Up.call ?_ (by assumption)) | go_size))))).mono ?_); rintro E w2 ⟨q2, v2, rfl, hb2, hp2, hu2, hv2⟩; have z2 := hu2.size; (try simp at z2); (try simp at hb2); have HP2 := Lib.hid hp2; have HV2 := Lib.hid hv2; have HU2 := Lib.hid hu2; have RX2 := RX1.up hu2; have RY2 := RY1.up hu2; clear hp2 hv2; (try dsimp only))
  refine hK.out _ _ ?_ (fun hHeld => ?_)
  · exact ⟨RX2, RX2.cell 26 rfl⟩
  clear hK K
  (try simp only [Act.put, lga, lgz, lgs, lsa, lsz, lss])
  refine wpAnyH_take (i := 6) (v := ?_) rfl (by decide +kernel) (by decide +kernel) (by decide +kernel) (fun _ _ _ h => h) (Or.inl ⟨by rfl, ?_⟩) (by assumption) ?_
  rotate_left
  · intro w2 hSw
    (try dsimp only at hSw)
    (try (obtain ⟨hs1, hs2⟩ := hSw))
    go_simp
    (try (with_reducible rfl))
  (try simp only [Act.put, lga, lgz, lgs, lsa, lsz, lss])
  refine wpAnyH_ready (rs := [7]) (by decide +kernel) (by simp) ?_
  refine AllReadyH.cons rfl (fun K hK => ?_) (AllReadyH.nil)
  (try simp only [lga, lgz, lgs])
  (rw [if_pos (by rfl)]; refine Gs.wp_store_Row 67 (.tmp 2) (.tmp 9) rfl (w.heap.size + 1) #[.int .i64 cm.a, .int .i64 cm.b, .int .i64 cm.c, .int .i64 cm.d, .int .i64 cm.x, .int .i64 cm.y, .int .i64 sp, .int .i64 p0, .int .i64 p1, .int .i64 p2, .int .i64 p3, .int .i64 wd, .int .i64 cp, .int .i64 jn, .int .i64 mt, .slice a15 dl c15, .int .i64 ph, .int .i64 fn, .int .i64 fm.a, .int .i64 fm.b, .int .i64 fm.c, .int .i64 fm.d, .int .i64 fm.x, .int .i64 fm.y, .slice a7 cl c7, .bool dk, .pointer (some ⟨q2, 0, none⟩)] rfl rfl #[.int .i64 0, .int .i64 0, .int .i64 0, .int .i64 0, .int .i64 0, .int .i64 0, .int .i64 0, .int .i64 0, .int .i64 0, .int .i64 0, .int .i64 0, .int .i64 0, .int .i64 0, .int .i64 0, .int .i64 0, .slice none 0 0, .int .i64 0, .int .i64 0, .int .i64 0, .int .i64 0, .int .i64 0, .int .i64 0, .int .i64 0, .int .i64 0, .slice none 0 0, .bool false, .pointer none] RY2 infoLv rfl rfl (by simp [Value.oneCell']) ?_); intro w9 hr9 hc9; have RX9 : Row w9 w.heap.size #[.int .i64 cm.a, .int .i64 cm.b, .int .i64 cm.c, .int .i64 cm.d, .int .i64 cm.x, .int .i64 cm.y, .int .i64 sp, .int .i64 p0, .int .i64 p1, .int .i64 p2, .int .i64 p3, .int .i64 wd, .int .i64 cp, .int .i64 jn, .int .i64 mt, .slice da dl dc, .int .i64 ph, .int .i64 fn, .int .i64 fm.a, .int .i64 fm.b, .int .i64 fm.c, .int .i64 fm.d, .int .i64 fm.x, .int .i64 fm.y, .slice ca cl cc, .bool dk, .pointer (some ⟨p, 0, none⟩)] := Row.chg RX2 hc9 (by simp)
  refine hK.out _ _ ?_ (fun hHeld => ?_)
  · exact ⟨RX9, RX9.cell 26 rfl⟩
  clear hK K
  (try simp only [Act.put, lga, lgz, lgs, lsa, lsz, lss])
  refine wpAnyH_done (by decide +kernel) ?_ _
  all_goals go_wp2
  (try simp only [Exit.inBlock, Exit.then])
  refine bodyPost_ret (Gs.results_lv rfl _ _ (w.heap.size + 1) _ hr9 rfl rfl) rfl ?_
  have z9 := hc9.size
  have hf := HF1.out
  have hv2 : ∀ g ∈ own v2, w1.heap.size ≤ g ∧ g < w2.heap.size := fun g hg => ⟨HV2.out g (own_of hg), (HP2.out.segs.lt g (own_of hg)).2⟩
  have hpl := HP2.out.row.lt
  have no : ∀ g, w.heap.size + 2 ≤ g → g ∉ [w.heap.size + 1] := fun g h1 h2 => by simp at h2; omega
  have hA : ∀ g ∈ own (.slice a15 dl c15), w.heap.size + 2 ≤ g := fun g hg => (hf g (List.mem_append_left _ hg)).1
  have hB : ∀ g ∈ own (.slice a7 cl c7), w.heap.size + 2 ≤ g := fun g hg => (hf g (List.mem_append_right _ (List.mem_append_left _ hg))).1
  have hE : ∀ c ∈ cs', ∀ g ∈ own c.v, w.heap.size + 2 ≤ g := fun c hc g hg => (hf g (List.mem_append_right _ (List.mem_append_right _ (List.mem_flatMap.2 ⟨c, hc, hg⟩)))).1
  refine ⟨a15, c15, a7, c7, cs', q2, v2, rfl, HM1.out, owned_chg (owned_up HD1.out HU2.out) hc9 (fun g hg => no g (hA g (own_mem hg))), owned_chg (owned_up HC1.out HU2.out) hc9 (fun g hg => no g (hB g (own_mem hg))), fun c hc => owned_chg (owned_up (HS1.out c hc) HU2.out) hc9 (fun g hg => no g (hE c hc g (own_mem hg))), HP2.out.chg hc9 (no q2 (by omega)) (fun g hg => no g (by have := hv2 g (own_mem hg); omega)), ?_, ?_, (show Chg [] w w9 by (repeat' (first | (with_reducible first | exact Chg.refl _ _ | assumption | refine Chg.alloc ?_ _ | refine Chg.drew ?_ | refine Chg.drewN ?_ _ | refine Chg.setCell ?_ ?_ _ | refine Chg.upc ?_ (by assumption) | refine Chg.call ?_ (by assumption) ?_) | (refine Or.inl ?_; (simp; done)) | (simp; done) | (simp; omega) | omega))).up⟩
  · refine List.nodup_cons.2 ⟨fun hm => ?_, List.nodup_append.2 ⟨Pt.own_nodup _, HN1.out, fun a ha b hb e => ?_⟩⟩
    · rcases List.mem_append.1 hm with h1 | h1
      · exact HP2.out.apart q2 (own_of h1) rfl
      · have := (hf q2 h1).2; omega
    · have := hv2 a ha; have := hf b hb; omega
  · intro g hg
    rcases List.mem_cons.1 hg with h1 | h1
    · subst h1; exact ⟨by omega, by omega⟩
    rcases List.mem_append.1 h1 with h1 | h1
    · have := hv2 g h1; exact ⟨by omega, by omega⟩
    · have := hf g h1; exact ⟨by omega, by omega⟩
set_option maxRecDepth 8000 in
theorem copied_L (l : Lv) (w : World) (h : LO w l) (hl : Le l.s.dat) :
    Calls Tryd.prog 40 #[.agg l.cells.toArray] w fun E w' => ∃ l' : Lv, E = .returned (.agg l'.cells.toArray) ∧ l'.s.dat = l.s.dat ∧ l'.t = l.t ∧ LO w' l' ∧ (∀ b ∈ l'.bl, w.heap.size ≤ b ∧ b < w'.heap.size) ∧ Up w w' := by
  obtain ⟨hs, hp, hn⟩ := h
  obtain ⟨hd, hdw, ⟨ca, cl, cc, ec, hc⟩, hcs⟩ := hs.a
  obtain ⟨l1, l2, l3⟩ := hl
  obtain ⟨⟨cm, sp, p0, p1, p2, p3, wd, cp, jn, mt, dv, ds, ph, fn, fm, cv, cs, dk⟩, p, pv, t⟩ := l
  simp only [S.dat, List.length_map] at l1 l2 l3
  simp only at hd hdw ec hc hcs hp
  obtain ⟨da, dc, e1, _⟩ := (fun {p : Prop} (h : p) => h) hd
  subst e1 ec
  have hcn := hc.2.2.1
  refine (copied_calls cm sp p0 p1 p2 p3 wd cp jn mt da ds.length dc ph fn fm ca cl cc dk cs ds p pv t w hd hc hcs l1 (by omega) (fun c hc => l3 (c.l, c.eo) (List.mem_map.2 ⟨c, hc, rfl⟩)) hp).mono ?_
  rintro E w' ⟨a15, c15, a7, c7, cs', q, v2, rfl, h1, h2, h3, h4, h5, h6, h7, h8⟩
  refine ⟨⟨⟨cm, sp, p0, p1, p2, p3, wd, cp, jn, mt, .slice a15 ds.length c15, ds, ph, fn, fm, .slice a7 cl c7, cs', dk⟩, q, v2, t⟩, rfl, ?_, rfl, ⟨⟨h2, hdw, h3, h4, ?_⟩, h5, h6⟩, h7, h8⟩
  · simp only [S.dat, h1]
  · exact (List.nodup_append.1 (List.nodup_cons.1 h6).2).2.1

end Go.Proofs.YtoflafbhfoncmaaDoor.Gt
end
