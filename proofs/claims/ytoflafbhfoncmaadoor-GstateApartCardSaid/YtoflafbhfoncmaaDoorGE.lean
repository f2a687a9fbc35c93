/- Law 14's call of any states: each kind of call. Its conditions: lengths; the fonts' names. Law 14's call of any states: SetColor, SetDash. Its conditions: lengths; the fonts' names. Law 14's call of any states: the rectangle, and numbers that are no call. Its conditions: lengths. Acts that came in; law 14's call of any of them. Its conditions: lengths; the fonts' names. New and Depth of any states; what the loops of law 14 keep; what is saved and restored is as it was. No condition. -/
import Derived.Test.YtoflafbhfoncmaaDoorGD
import Derived.Test.YtoflafbhfoncmaaDoorStepA
import Derived.Test.YtoflafbhfoncmaaDoorSlArg
import Derived.Test.YtoflafbhfoncmaaDoorGGsB
section
namespace Go.Proofs.YtoflafbhfoncmaaDoor.Gt
open Go.ChangeShapes Go.WideShapes Go.ChangeAt Go.RowKit
open Go.Proofs.YtoflafbhfoncmaaDoor.FixM (fits)
open Go.Proofs.YtoflafbhfoncmaaDoor.MatM (M6)
open Go.Proofs.YtoflafbhfoncmaaDoor.PathM (Seg St Z segCells)
open Go.Proofs.YtoflafbhfoncmaaDoor.Path (own own_mem own_of PathIs Segs)
open Go.Proofs.YtoflafbhfoncmaaDoor.Pt (Clip clipCells Src)
set_option linter.unusedVariables false
set_option linter.unusedSimpArgs false

def unclipM (d : GD) : GD := d.set { d.s with cl := [], dk := false }
set_option maxRecDepth 8000 in
set_option maxHeartbeats 1000000 in
theorem call_1 (g : Nat) (x : X) (N : Int) (m : M6) (a : Option Addr) (len cap : Nat) (px py : Int) (w : World) (h : G w g x) (hi : Inv x.dat) (h4 : (Lit.int .i64 x.l.s.c.x).wf = true) (h5 : (Lit.int .i64 x.l.s.c.y).wf = true) (hT : Font.Tab w) : Calls Tryd.prog 8 #[.pointer (some ⟨g, 0, none⟩), .agg #[.int .i64 1, .int .i64 N, .int .i64 m.a, .int .i64 m.b, .int .i64 m.c, .int .i64 m.d, .int .i64 m.x, .int .i64 m.y, .slice a len cap, .int .i64 px, .int .i64 py]] w fun E w' => ∃ y, E = .returned (.int .i64 (saveM x.dat).2) ∧ To w w' g x y ∧ y.dat = (saveM x.dat).1 := by
  have HG := Lib.hid h
  have HI := Lib.hid hi
  have H4 := Lib.hid h4
  have H5 := Lib.hid h5
  have HT := Lib.hid hT
  clear h hi h4 h5 hT
  go_enter Tryd.func8, Tryd.ntmps8
  go_wp2_with (go_at_call 13; ((with_reducible refine (save_X g x _ (HG.out.up (by (repeat' (first | (with_reducible first | exact Up.refl _ | assumption | refine Up.alloc ?_ _ | refine Up.drew ?_ | refine Up.drewN ?_ _ | refine Up.setCell ?_ ?_ _ | refine Up.call ?_ (by assumption)) | go_size)))) HI.out).mono ?_); rintro E w1 ⟨y, rfl, h1, h2⟩; have H1 := Lib.hid ((To.up HG.out (by (repeat' (first | (with_reducible first | exact Up.refl _ | assumption | refine Up.alloc ?_ _ | refine Up.drew ?_ | refine Up.drewN ?_ _ | refine Up.setCell ?_ ?_ _ | refine Up.call ?_ (by assumption)) | go_size)))).trans h1); have H2 := Lib.hid h2; clear h1 h2))
  go_ret
  exact ⟨y, rfl, H1.out, H2.out⟩

set_option maxRecDepth 8000 in
set_option maxHeartbeats 1000000 in
theorem call_2 (g : Nat) (x : X) (N : Int) (m : M6) (a : Option Addr) (len cap : Nat) (px py : Int) (w : World) (h : G w g x) (hi : Inv x.dat) (h4 : (Lit.int .i64 x.l.s.c.x).wf = true) (h5 : (Lit.int .i64 x.l.s.c.y).wf = true) (hT : Font.Tab w) : Calls Tryd.prog 8 #[.pointer (some ⟨g, 0, none⟩), .agg #[.int .i64 2, .int .i64 N, .int .i64 m.a, .int .i64 m.b, .int .i64 m.c, .int .i64 m.d, .int .i64 m.x, .int .i64 m.y, .slice a len cap, .int .i64 px, .int .i64 py]] w fun E w' => ∃ y, E = .returned (.int .i64 0) ∧ To w w' g x y ∧ y.dat = (restM x.dat) := by
  have HG := Lib.hid h
  have HI := Lib.hid hi
  have H4 := Lib.hid h4
  have H5 := Lib.hid h5
  have HT := Lib.hid hT
  clear h hi h4 h5 hT
  go_enter Tryd.func8, Tryd.ntmps8
  go_wp2_with (go_at_call 14; ((with_reducible refine (restore_X g x _ (HG.out.up (by (repeat' (first | (with_reducible first | exact Up.refl _ | assumption | refine Up.alloc ?_ _ | refine Up.drew ?_ | refine Up.drewN ?_ _ | refine Up.setCell ?_ ?_ _ | refine Up.call ?_ (by assumption)) | go_size)))) HI.out).mono ?_); rintro E w1 ⟨y, rfl, h1, h2⟩; have H1 := Lib.hid ((To.up HG.out (by (repeat' (first | (with_reducible first | exact Up.refl _ | assumption | refine Up.alloc ?_ _ | refine Up.drew ?_ | refine Up.drewN ?_ _ | refine Up.setCell ?_ ?_ _ | refine Up.call ?_ (by assumption)) | go_size)))).trans h1); have H2 := Lib.hid h2; clear h1 h2))
  go_ret
  exact ⟨y, rfl, H1.out, H2.out⟩

set_option maxRecDepth 8000 in
set_option maxHeartbeats 1000000 in
theorem call_3 (g : Nat) (x : X) (N : Int) (m : M6) (a : Option Addr) (len cap : Nat) (px py : Int) (w : World) (h : G w g x) (hi : Inv x.dat) (h4 : (Lit.int .i64 x.l.s.c.x).wf = true) (h5 : (Lit.int .i64 x.l.s.c.y).wf = true) (hT : Font.Tab w) : Calls Tryd.prog 8 #[.pointer (some ⟨g, 0, none⟩), .agg #[.int .i64 3, .int .i64 N, .int .i64 m.a, .int .i64 m.b, .int .i64 m.c, .int .i64 m.d, .int .i64 m.x, .int .i64 m.y, .slice a len cap, .int .i64 px, .int .i64 py]] w fun E w' => ∃ y, E = .returned (.int .i64 0) ∧ To w w' g x y ∧ y.dat = (restAllM x.dat) := by
  have HG := Lib.hid h
  have HI := Lib.hid hi
  have H4 := Lib.hid h4
  have H5 := Lib.hid h5
  have HT := Lib.hid hT
  clear h hi h4 h5 hT
  go_enter Tryd.func8, Tryd.ntmps8
  go_wp2_with (go_at_call 23; ((with_reducible refine (restoreAll_X g x _ (HG.out.up (by (repeat' (first | (with_reducible first | exact Up.refl _ | assumption | refine Up.alloc ?_ _ | refine Up.drew ?_ | refine Up.drewN ?_ _ | refine Up.setCell ?_ ?_ _ | refine Up.call ?_ (by assumption)) | go_size)))) HI.out).mono ?_); rintro E w1 ⟨y, rfl, h1, h2⟩; have H1 := Lib.hid ((To.up HG.out (by (repeat' (first | (with_reducible first | exact Up.refl _ | assumption | refine Up.alloc ?_ _ | refine Up.drew ?_ | refine Up.drewN ?_ _ | refine Up.setCell ?_ ?_ _ | refine Up.call ?_ (by assumption)) | go_size)))).trans h1); have H2 := Lib.hid h2; clear h1 h2))
  go_ret
  exact ⟨y, rfl, H1.out, H2.out⟩

set_option maxRecDepth 8000 in
set_option maxHeartbeats 1000000 in
theorem call_4 (g : Nat) (x : X) (N : Int) (m : M6) (a : Option Addr) (len cap : Nat) (px py : Int) (w : World) (h : G w g x) (hi : Inv x.dat) (h4 : (Lit.int .i64 x.l.s.c.x).wf = true) (h5 : (Lit.int .i64 x.l.s.c.y).wf = true) (hT : Font.Tab w) : Calls Tryd.prog 8 #[.pointer (some ⟨g, 0, none⟩), .agg #[.int .i64 4, .int .i64 N, .int .i64 m.a, .int .i64 m.b, .int .i64 m.c, .int .i64 m.d, .int .i64 m.x, .int .i64 m.y, .slice a len cap, .int .i64 px, .int .i64 py]] w fun E w' => ∃ y, E = .returned (.int .i64 0) ∧ To w w' g x y ∧ y.dat = (initM x.dat) := by
  have HG := Lib.hid h
  have HI := Lib.hid hi
  have H4 := Lib.hid h4
  have H5 := Lib.hid h5
  have HT := Lib.hid hT
  clear h hi h4 h5 hT
  go_enter Tryd.func8, Tryd.ntmps8
  go_wp2_with (go_at_call 24; ((with_reducible refine (init_D g x _ (HG.out.up (by (repeat' (first | (with_reducible first | exact Up.refl _ | assumption | refine Up.alloc ?_ _ | refine Up.drew ?_ | refine Up.drewN ?_ _ | refine Up.setCell ?_ ?_ _ | refine Up.call ?_ (by assumption)) | go_size))))).mono ?_); rintro E w1 ⟨y, rfl, h1, h2⟩; have H1 := Lib.hid ((To.up HG.out (by (repeat' (first | (with_reducible first | exact Up.refl _ | assumption | refine Up.alloc ?_ _ | refine Up.drew ?_ | refine Up.drewN ?_ _ | refine Up.setCell ?_ ?_ _ | refine Up.call ?_ (by assumption)) | go_size)))).trans h1); have H2 := Lib.hid h2; clear h1 h2))
  go_ret
  exact ⟨y, rfl, H1.out, H2.out⟩

set_option maxRecDepth 8000 in
set_option maxHeartbeats 1000000 in
theorem call_5 (g : Nat) (x : X) (N : Int) (m : M6) (a : Option Addr) (len cap : Nat) (px py : Int) (w : World) (h : G w g x) (hi : Inv x.dat) (h4 : (Lit.int .i64 x.l.s.c.x).wf = true) (h5 : (Lit.int .i64 x.l.s.c.y).wf = true) (hT : Font.Tab w) : Calls Tryd.prog 8 #[.pointer (some ⟨g, 0, none⟩), .agg #[.int .i64 5, .int .i64 N, .int .i64 m.a, .int .i64 m.b, .int .i64 m.c, .int .i64 m.d, .int .i64 m.x, .int .i64 m.y, .slice a len cap, .int .i64 px, .int .i64 py]] w fun E w' => ∃ y, E = .returned (.int .i64 (concatM m x.dat).2) ∧ To w w' g x y ∧ y.dat = (concatM m x.dat).1 := by
  have HG := Lib.hid h
  have HI := Lib.hid hi
  have H4 := Lib.hid h4
  have H5 := Lib.hid h5
  have HT := Lib.hid hT
  clear h hi h4 h5 hT
  go_enter Tryd.func8, Tryd.ntmps8
  go_wp2_with (go_at_call 25; ((with_reducible refine (concat_X g x m _ (HG.out.up (by (repeat' (first | (with_reducible first | exact Up.refl _ | assumption | refine Up.alloc ?_ _ | refine Up.drew ?_ | refine Up.drewN ?_ _ | refine Up.setCell ?_ ?_ _ | refine Up.call ?_ (by assumption)) | go_size)))) H4.out H5.out).mono ?_); rintro E w1 ⟨y, rfl, h1, h2⟩; have H1 := Lib.hid ((To.up HG.out (by (repeat' (first | (with_reducible first | exact Up.refl _ | assumption | refine Up.alloc ?_ _ | refine Up.drew ?_ | refine Up.drewN ?_ _ | refine Up.setCell ?_ ?_ _ | refine Up.call ?_ (by assumption)) | go_size)))).trans h1); have H2 := Lib.hid h2; clear h1 h2))
  go_ret
  exact ⟨y, rfl, H1.out, H2.out⟩

set_option maxRecDepth 8000 in
set_option maxHeartbeats 1000000 in
theorem call_6 (g : Nat) (x : X) (N : Int) (m : M6) (a : Option Addr) (len cap : Nat) (px py : Int) (w : World) (h : G w g x) (hi : Inv x.dat) (h4 : (Lit.int .i64 x.l.s.c.x).wf = true) (h5 : (Lit.int .i64 x.l.s.c.y).wf = true) (hT : Font.Tab w) : Calls Tryd.prog 8 #[.pointer (some ⟨g, 0, none⟩), .agg #[.int .i64 6, .int .i64 N, .int .i64 m.a, .int .i64 m.b, .int .i64 m.c, .int .i64 m.d, .int .i64 m.x, .int .i64 m.y, .slice a len cap, .int .i64 px, .int .i64 py]] w fun E w' => ∃ y, E = .returned (.int .i64 (setMatrixM m x.dat).2) ∧ To w w' g x y ∧ y.dat = (setMatrixM m x.dat).1 := by
  have HG := Lib.hid h
  have HI := Lib.hid hi
  have H4 := Lib.hid h4
  have H5 := Lib.hid h5
  have HT := Lib.hid hT
  clear h hi h4 h5 hT
  go_enter Tryd.func8, Tryd.ntmps8
  go_wp2_with (go_at_call 26; ((with_reducible refine (setMatrix_X g x m _ (HG.out.up (by (repeat' (first | (with_reducible first | exact Up.refl _ | assumption | refine Up.alloc ?_ _ | refine Up.drew ?_ | refine Up.drewN ?_ _ | refine Up.setCell ?_ ?_ _ | refine Up.call ?_ (by assumption)) | go_size))))).mono ?_); rintro E w1 ⟨y, rfl, h1, h2⟩; have H1 := Lib.hid ((To.up HG.out (by (repeat' (first | (with_reducible first | exact Up.refl _ | assumption | refine Up.alloc ?_ _ | refine Up.drew ?_ | refine Up.drewN ?_ _ | refine Up.setCell ?_ ?_ _ | refine Up.call ?_ (by assumption)) | go_size)))).trans h1); have H2 := Lib.hid h2; clear h1 h2))
  go_ret
  exact ⟨y, rfl, H1.out, H2.out⟩

set_option maxRecDepth 8000 in
set_option maxHeartbeats 1000000 in
theorem call_7 (g : Nat) (x : X) (N : Int) (m : M6) (a : Option Addr) (len cap : Nat) (px py : Int) (w : World) (h : G w g x) (hi : Inv x.dat) (h4 : (Lit.int .i64 x.l.s.c.x).wf = true) (h5 : (Lit.int .i64 x.l.s.c.y).wf = true) (hT : Font.Tab w) : Calls Tryd.prog 8 #[.pointer (some ⟨g, 0, none⟩), .agg #[.int .i64 7, .int .i64 N, .int .i64 m.a, .int .i64 m.b, .int .i64 m.c, .int .i64 m.d, .int .i64 m.x, .int .i64 m.y, .slice a len cap, .int .i64 px, .int .i64 py]] w fun E w' => ∃ y, E = .returned (.int .i64 (setFontM N m x.dat).2) ∧ To w w' g x y ∧ y.dat = (setFontM N m x.dat).1 := by
  have HG := Lib.hid h
  have HI := Lib.hid hi
  have H4 := Lib.hid h4
  have H5 := Lib.hid h5
  have HT := Lib.hid hT
  clear h hi h4 h5 hT
  go_enter Tryd.func8, Tryd.ntmps8
  go_wp2_with (go_at_call 27; ((with_reducible refine (setFont_X g x N m _ (HG.out.up (by (repeat' (first | (with_reducible first | exact Up.refl _ | assumption | refine Up.alloc ?_ _ | refine Up.drew ?_ | refine Up.drewN ?_ _ | refine Up.setCell ?_ ?_ _ | refine Up.call ?_ (by assumption)) | go_size)))) (HT.out.up (by (repeat' (first | (with_reducible first | exact Up.refl _ | assumption | refine Up.alloc ?_ _ | refine Up.drew ?_ | refine Up.drewN ?_ _ | refine Up.setCell ?_ ?_ _ | refine Up.call ?_ (by assumption)) | go_size))))).mono ?_); rintro E w1 ⟨y, rfl, h1, h2⟩; have H1 := Lib.hid ((To.up HG.out (by (repeat' (first | (with_reducible first | exact Up.refl _ | assumption | refine Up.alloc ?_ _ | refine Up.drew ?_ | refine Up.drewN ?_ _ | refine Up.setCell ?_ ?_ _ | refine Up.call ?_ (by assumption)) | go_size)))).trans h1); have H2 := Lib.hid h2; clear h1 h2))
  go_ret
  exact ⟨y, rfl, H1.out, H2.out⟩

set_option maxRecDepth 8000 in
set_option maxHeartbeats 1000000 in
theorem call_10 (g : Nat) (x : X) (N : Int) (m : M6) (a : Option Addr) (len cap : Nat) (px py : Int) (w : World) (h : G w g x) (hi : Inv x.dat) (h4 : (Lit.int .i64 x.l.s.c.x).wf = true) (h5 : (Lit.int .i64 x.l.s.c.y).wf = true) (hT : Font.Tab w) : Calls Tryd.prog 8 #[.pointer (some ⟨g, 0, none⟩), .agg #[.int .i64 10, .int .i64 N, .int .i64 m.a, .int .i64 m.b, .int .i64 m.c, .int .i64 m.d, .int .i64 m.x, .int .i64 m.y, .slice a len cap, .int .i64 px, .int .i64 py]] w fun E w' => ∃ y, E = .returned (.int .i64 (setWidthM N x.dat).2) ∧ To w w' g x y ∧ y.dat = (setWidthM N x.dat).1 := by
  have HG := Lib.hid h
  have HI := Lib.hid hi
  have H4 := Lib.hid h4
  have H5 := Lib.hid h5
  have HT := Lib.hid hT
  clear h hi h4 h5 hT
  go_enter Tryd.func8, Tryd.ntmps8
  go_wp2_with (go_at_call 22; ((with_reducible refine (setWidth_X g x N _ (HG.out.up (by (repeat' (first | (with_reducible first | exact Up.refl _ | assumption | refine Up.alloc ?_ _ | refine Up.drew ?_ | refine Up.drewN ?_ _ | refine Up.setCell ?_ ?_ _ | refine Up.call ?_ (by assumption)) | go_size))))).mono ?_); rintro E w1 ⟨y, rfl, h1, h2⟩; have H1 := Lib.hid ((To.up HG.out (by (repeat' (first | (with_reducible first | exact Up.refl _ | assumption | refine Up.alloc ?_ _ | refine Up.drew ?_ | refine Up.drewN ?_ _ | refine Up.setCell ?_ ?_ _ | refine Up.call ?_ (by assumption)) | go_size)))).trans h1); have H2 := Lib.hid h2; clear h1 h2))
  go_ret
  exact ⟨y, rfl, H1.out, H2.out⟩

set_option maxRecDepth 8000 in
set_option maxHeartbeats 1000000 in
theorem call_11 (g : Nat) (x : X) (N : Int) (m : M6) (a : Option Addr) (len cap : Nat) (px py : Int) (w : World) (h : G w g x) (hi : Inv x.dat) (h4 : (Lit.int .i64 x.l.s.c.x).wf = true) (h5 : (Lit.int .i64 x.l.s.c.y).wf = true) (hT : Font.Tab w) : Calls Tryd.prog 8 #[.pointer (some ⟨g, 0, none⟩), .agg #[.int .i64 11, .int .i64 N, .int .i64 m.a, .int .i64 m.b, .int .i64 m.c, .int .i64 m.d, .int .i64 m.x, .int .i64 m.y, .slice a len cap, .int .i64 px, .int .i64 py]] w fun E w' => ∃ y, E = .returned (.int .i64 (setCapM N x.dat).2) ∧ To w w' g x y ∧ y.dat = (setCapM N x.dat).1 := by
  have HG := Lib.hid h
  have HI := Lib.hid hi
  have H4 := Lib.hid h4
  have H5 := Lib.hid h5
  have HT := Lib.hid hT
  clear h hi h4 h5 hT
  go_enter Tryd.func8, Tryd.ntmps8
  go_wp2_with (go_at_call 30; ((with_reducible refine (setCap_X g x N _ (HG.out.up (by (repeat' (first | (with_reducible first | exact Up.refl _ | assumption | refine Up.alloc ?_ _ | refine Up.drew ?_ | refine Up.drewN ?_ _ | refine Up.setCell ?_ ?_ _ | refine Up.call ?_ (by assumption)) | go_size))))).mono ?_); rintro E w1 ⟨y, rfl, h1, h2⟩; have H1 := Lib.hid ((To.up HG.out (by (repeat' (first | (with_reducible first | exact Up.refl _ | assumption | refine Up.alloc ?_ _ | refine Up.drew ?_ | refine Up.drewN ?_ _ | refine Up.setCell ?_ ?_ _ | refine Up.call ?_ (by assumption)) | go_size)))).trans h1); have H2 := Lib.hid h2; clear h1 h2))
  go_ret
  exact ⟨y, rfl, H1.out, H2.out⟩

set_option maxRecDepth 8000 in
set_option maxHeartbeats 1000000 in
theorem call_12 (g : Nat) (x : X) (N : Int) (m : M6) (a : Option Addr) (len cap : Nat) (px py : Int) (w : World) (h : G w g x) (hi : Inv x.dat) (h4 : (Lit.int .i64 x.l.s.c.x).wf = true) (h5 : (Lit.int .i64 x.l.s.c.y).wf = true) (hT : Font.Tab w) : Calls Tryd.prog 8 #[.pointer (some ⟨g, 0, none⟩), .agg #[.int .i64 12, .int .i64 N, .int .i64 m.a, .int .i64 m.b, .int .i64 m.c, .int .i64 m.d, .int .i64 m.x, .int .i64 m.y, .slice a len cap, .int .i64 px, .int .i64 py]] w fun E w' => ∃ y, E = .returned (.int .i64 (setJoinM N x.dat).2) ∧ To w w' g x y ∧ y.dat = (setJoinM N x.dat).1 := by
  have HG := Lib.hid h
  have HI := Lib.hid hi
  have H4 := Lib.hid h4
  have H5 := Lib.hid h5
  have HT := Lib.hid hT
  clear h hi h4 h5 hT
  go_enter Tryd.func8, Tryd.ntmps8
  go_wp2_with (go_at_call 31; ((with_reducible refine (setJoin_X g x N _ (HG.out.up (by (repeat' (first | (with_reducible first | exact Up.refl _ | assumption | refine Up.alloc ?_ _ | refine Up.drew ?_ | refine Up.drewN ?_ _ | refine Up.setCell ?_ ?_ _ | refine Up.call ?_ (by assumption)) | go_size))))).mono ?_); rintro E w1 ⟨y, rfl, h1, h2⟩; have H1 := Lib.hid ((To.up HG.out (by (repeat' (first | (with_reducible first | exact Up.refl _ | assumption | refine Up.alloc ?_ _ | refine Up.drew ?_ | refine Up.drewN ?_ _ | refine Up.setCell ?_ ?_ _ | refine Up.call ?_ (by assumption)) | go_size)))).trans h1); have H2 := Lib.hid h2; clear h1 h2))
  go_ret
  exact ⟨y, rfl, H1.out, H2.out⟩

set_option maxRecDepth 8000 in
set_option maxHeartbeats 1000000 in
theorem call_13 (g : Nat) (x : X) (N : Int) (m : M6) (a : Option Addr) (len cap : Nat) (px py : Int) (w : World) (h : G w g x) (hi : Inv x.dat) (h4 : (Lit.int .i64 x.l.s.c.x).wf = true) (h5 : (Lit.int .i64 x.l.s.c.y).wf = true) (hT : Font.Tab w) : Calls Tryd.prog 8 #[.pointer (some ⟨g, 0, none⟩), .agg #[.int .i64 13, .int .i64 N, .int .i64 m.a, .int .i64 m.b, .int .i64 m.c, .int .i64 m.d, .int .i64 m.x, .int .i64 m.y, .slice a len cap, .int .i64 px, .int .i64 py]] w fun E w' => ∃ y, E = .returned (.int .i64 (setMiterM N x.dat).2) ∧ To w w' g x y ∧ y.dat = (setMiterM N x.dat).1 := by
  have HG := Lib.hid h
  have HI := Lib.hid hi
  have H4 := Lib.hid h4
  have H5 := Lib.hid h5
  have HT := Lib.hid hT
  clear h hi h4 h5 hT
  go_enter Tryd.func8, Tryd.ntmps8
  go_wp2_with (go_at_call 32; ((with_reducible refine (setMiter_X g x N _ (HG.out.up (by (repeat' (first | (with_reducible first | exact Up.refl _ | assumption | refine Up.alloc ?_ _ | refine Up.drew ?_ | refine Up.drewN ?_ _ | refine Up.setCell ?_ ?_ _ | refine Up.call ?_ (by assumption)) | go_size))))).mono ?_); rintro E w1 ⟨y, rfl, h1, h2⟩; have H1 := Lib.hid ((To.up HG.out (by (repeat' (first | (with_reducible first | exact Up.refl _ | assumption | refine Up.alloc ?_ _ | refine Up.drew ?_ | refine Up.drewN ?_ _ | refine Up.setCell ?_ ?_ _ | refine Up.call ?_ (by assumption)) | go_size)))).trans h1); have H2 := Lib.hid h2; clear h1 h2))
  go_ret
  exact ⟨y, rfl, H1.out, H2.out⟩

set_option maxRecDepth 8000 in
set_option maxHeartbeats 1000000 in
theorem call_14 (g : Nat) (x : X) (N : Int) (m : M6) (a : Option Addr) (len cap : Nat) (px py : Int) (w : World) (h : G w g x) (hi : Inv x.dat) (h4 : (Lit.int .i64 x.l.s.c.x).wf = true) (h5 : (Lit.int .i64 x.l.s.c.y).wf = true) (hT : Font.Tab w) : Calls Tryd.prog 8 #[.pointer (some ⟨g, 0, none⟩), .agg #[.int .i64 14, .int .i64 N, .int .i64 m.a, .int .i64 m.b, .int .i64 m.c, .int .i64 m.d, .int .i64 m.x, .int .i64 m.y, .slice a len cap, .int .i64 px, .int .i64 py]] w fun E w' => ∃ y, E = .returned (.int .i64 (clipM (N.tmod 2 == 0) x.dat).2) ∧ To w w' g x y ∧ y.dat = (clipM (N.tmod 2 == 0) x.dat).1 := by
  have HG := Lib.hid h
  have HI := Lib.hid hi
  have H4 := Lib.hid h4
  have H5 := Lib.hid h5
  have HT := Lib.hid hT
  clear h hi h4 h5 hT
  go_enter Tryd.func8, Tryd.ntmps8
  go_wp2_with (go_at_call 33; ((with_reducible refine (clip_X g x (N.tmod 2 == 0) _ (HG.out.up (by (repeat' (first | (with_reducible first | exact Up.refl _ | assumption | refine Up.alloc ?_ _ | refine Up.drew ?_ | refine Up.drewN ?_ _ | refine Up.setCell ?_ ?_ _ | refine Up.call ?_ (by assumption)) | go_size)))) HI.out).mono ?_); rintro E w1 ⟨y, rfl, h1, h2⟩; have H1 := Lib.hid ((To.up HG.out (by (repeat' (first | (with_reducible first | exact Up.refl _ | assumption | refine Up.alloc ?_ _ | refine Up.drew ?_ | refine Up.drewN ?_ _ | refine Up.setCell ?_ ?_ _ | refine Up.call ?_ (by assumption)) | go_size)))).trans h1); have H2 := Lib.hid h2; clear h1 h2))
  go_ret
  exact ⟨y, rfl, H1.out, H2.out⟩

set_option maxRecDepth 8000 in
set_option maxHeartbeats 1000000 in
theorem call_15 (g : Nat) (x : X) (N : Int) (m : M6) (a : Option Addr) (len cap : Nat) (px py : Int) (w : World) (h : G w g x) (hi : Inv x.dat) (h4 : (Lit.int .i64 x.l.s.c.x).wf = true) (h5 : (Lit.int .i64 x.l.s.c.y).wf = true) (hT : Font.Tab w) : Calls Tryd.prog 8 #[.pointer (some ⟨g, 0, none⟩), .agg #[.int .i64 15, .int .i64 N, .int .i64 m.a, .int .i64 m.b, .int .i64 m.c, .int .i64 m.d, .int .i64 m.x, .int .i64 m.y, .slice a len cap, .int .i64 px, .int .i64 py]] w fun E w' => ∃ y, E = .returned (.int .i64 0) ∧ To w w' g x y ∧ y.dat = (unclipM x.dat) := by
  have HG := Lib.hid h
  have HI := Lib.hid hi
  have H4 := Lib.hid h4
  have H5 := Lib.hid h5
  have HT := Lib.hid hT
  clear h hi h4 h5 hT
  go_enter Tryd.func8, Tryd.ntmps8
  go_wp2_with (go_at_call 34; ((with_reducible refine (unclip_X g x _ (HG.out.up (by (repeat' (first | (with_reducible first | exact Up.refl _ | assumption | refine Up.alloc ?_ _ | refine Up.drew ?_ | refine Up.drewN ?_ _ | refine Up.setCell ?_ ?_ _ | refine Up.call ?_ (by assumption)) | go_size))))).mono ?_); rintro E w1 ⟨y, rfl, h1, h2⟩; have H1 := Lib.hid ((To.up HG.out (by (repeat' (first | (with_reducible first | exact Up.refl _ | assumption | refine Up.alloc ?_ _ | refine Up.drew ?_ | refine Up.drewN ?_ _ | refine Up.setCell ?_ ?_ _ | refine Up.call ?_ (by assumption)) | go_size)))).trans h1); have H2 := Lib.hid h2; clear h1 h2))
  go_ret
  exact ⟨y, rfl, H1.out, H2.out⟩

end Go.Proofs.YtoflafbhfoncmaaDoor.Gt
end

section
namespace Go.Proofs.YtoflafbhfoncmaaDoor.Gt
open List renaming getElem_toArray → lga, getElem_cons_zero → lgz, getElem_cons_succ → lgs, setIfInBounds_toArray → lsa, set_cons_zero → lsz, set_cons_succ → lss
open Go.ChangeShapes Go.WideShapes Go.ChangeAt Go.RowKit
open Go.Proofs.YtoflafbhfoncmaaDoor.FixM (fits)
open Go.Proofs.YtoflafbhfoncmaaDoor.MatM (M6)
open Go.Proofs.YtoflafbhfoncmaaDoor.PathM (Seg St Z segCells)
open Go.Proofs.YtoflafbhfoncmaaDoor.Path (own own_mem own_of PathIs Segs)
open Go.Proofs.YtoflafbhfoncmaaDoor.Pt (Clip clipCells Src)
set_option linter.unusedVariables false
set_option linter.unusedSimpArgs false

open Go.Proofs.YtoflafbhfoncmaaDoor.Pt (raw_up info_parts3 infoI1)
theorem step_append_any2 {P : Program} {w : World} {ops : Array Oper} {o : Oper} {a : Act} {K : Act → World → Prop} {Q : Exit → Act → World → Prop} {E : Prop} (hgd : o.guard = none) (s x : Operand) (t : TypeId)
    (ho : o.op = .call { callee := .builtin .append, args := #[s, x], argTypes := #[t, t] })
    (base : Nat) (e : TypeId) (i : TypeInfo) (z : Value) (size bytes : Nat) (ht : P.underlying t = some (.slice e)) (hi : P.info? e = some i) (hz : i.zero = some z)
    (hsize : i.size = size) (hby : i.bytes = bytes) (hzs : z.cells.size = size) (hsz : 0 < size)
    (v : Value) (n : Nat) (xs : List Value) (hs : a.eval s = v) (hown : w.ownsRow base e size v n xs)
    (ao : Option Addr) (m c : Nat) (news : List Value) (hx : a.eval x = .slice ao m c) (hl : news.length = m * size) (hnone : ao = none → m = 0 ∧ c = 0) (hnews : ∀ ad, ao = some ad → ∀ j u, news[j]? = some u → w.cell? (ad.add j) = some u) (h1 : ∀ u ∈ news, u.oneCell' = true)
    (h63 : n + m ≤ maxLen) (hbytes : (n + m) * bytes ≤ 140737488355328) (hbase : base ≤ w.heap.size)
    (hK : ∀ v' w', w'.ownsRow base e size v' (n + m) (xs ++ news) → w.grownBy w' v.ownBlock → (v' = .slice none 0 0 ↔ v = .slice none 0 0 ∧ m = 0) → K (a.put o.dst v') w') :
    if Region.wanted o (yielded ops a.tmps) = true then Oper.wp P o a w K Q else E := by
  cases ao with
  | some ad => exact step_append_own hgd s x t ho base e i z size bytes ht hi hz hsize hby hzs hsz v n xs hs hown ad m c news hx hl (hnews ad rfl) h1 h63 hbytes hbase (fun v' w' h2 h3 h4 _ => hK v' w' h2 h3 h4)
  | none =>
    obtain ⟨rfl, rfl⟩ := hnone rfl
    have hnews : news = [] := List.eq_nil_of_length_eq_zero (by simpa using hl)
    subst hnews
    rw [if_pos (by simp [Region.wanted, hgd])]
    have hrun := run_append_owned_none (P := P) (w := w) base t o.type e i size ht hi v n xs hown
    unfold Oper.wp
    simp [execOp, ho, resolve, invoke, builtin, hs, hx, hrun, Result.andThen]
    exact hK _ _ (by simpa using hown) (World.grownBy.refl _ _) ⟨fun h => ⟨h, rfl⟩, fun h => h.1⟩

theorem wp_append_any2 {P : Program} {w : World} {o : Oper} {a : Act} {K : Act → World → Prop} {Q : Exit → Act → World → Prop} (hgd : o.guard = none) (s x : Operand) (t : TypeId)
    (ho : o.op = .call { callee := .builtin .append, args := #[s, x], argTypes := #[t, t] })
    (base : Nat) (e : TypeId) (i : TypeInfo) (z : Value) (size bytes : Nat) (ht : P.underlying t = some (.slice e)) (hi : P.info? e = some i) (hz : i.zero = some z)
    (hsize : i.size = size) (hby : i.bytes = bytes) (hzs : z.cells.size = size) (hsz : 0 < size)
    (v : Value) (n : Nat) (xs : List Value) (hs : a.eval s = v) (hown : w.ownsRow base e size v n xs)
    (ao : Option Addr) (m c : Nat) (news : List Value) (hx : a.eval x = .slice ao m c) (hl : news.length = m * size) (hnone : ao = none → m = 0 ∧ c = 0) (hnews : ∀ ad, ao = some ad → ∀ j u, news[j]? = some u → w.cell? (ad.add j) = some u) (h1 : ∀ u ∈ news, u.oneCell' = true)
    (h63 : n + m ≤ maxLen) (hbytes : (n + m) * bytes ≤ 140737488355328) (hbase : base ≤ w.heap.size)
    (hK : ∀ v' w', w'.ownsRow base e size v' (n + m) (xs ++ news) → w.grownBy w' v.ownBlock → (v' = .slice none 0 0 ↔ v = .slice none 0 0 ∧ m = 0) → K (a.put o.dst v') w') : Oper.wp P o a w K Q := by
  have h := step_append_any2 (Q := Q) (ops := #[]) (E := True) hgd s x t ho base e i z size bytes ht hi hz hsize hby hzs hsz v n xs hs hown ao m c news hx hl hnone hnews h1 h63 hbytes hbase hK
  rwa [if_pos (by simp [Region.wanted, hgd])] at h

theorem made8 (w : World) (o : Obj) : ((w.alloc o).alloc (.cells #[] 3)).ownsRow 0 3 1 (.slice (some ⟨w.heap.size + 1, 0, none⟩) 0 0) 0 [] := by
  have := World.ownsRow_made (base := 0) (e := 3) (size := 1) (w.alloc o) #[] 0 (Nat.zero_le _) (by decide) rfl
  simpa using this
theorem nonnil {w : World} {e : TypeId} {v : Value} {n : Nat} {xs : List Value} (h : w.ownsRow 0 e 1 v (0 + n) ([] ++ xs)) (hn : v ≠ .slice none 0 0) : ∃ g cap, v = .slice (some ⟨g, 0, none⟩) n cap ∧ w.ownsRow 0 e 1 v n xs ∧ g < w.heap.size := by
  rw [Nat.zero_add, List.nil_append] at h
  rcases id h.2 with ⟨h1, _⟩ | ⟨g, cap, cur, hv, _, hg, _⟩
  · exact absurd h1 hn
  · exact ⟨g, cap, hv, h, (Array.getElem?_eq_some_iff.1 hg).1⟩
theorem hnil_not {v : Value} {b len : Nat} (h : v = .slice none 0 0 ↔ (Value.slice (some ⟨b, 0, none⟩) 0 0 = .slice none 0 0 ∧ len = 0)) : v ≠ .slice none 0 0 := fun e => by
  have := (h.1 e).1
  cases this
set_option maxRecDepth 8000 in
set_option maxHeartbeats 2000000 in
theorem call_8 (g : Nat) (x : X) (N : Int) (m : M6) (a : Option Addr) (len cap : Nat) (px py : Int) (w : World) (h : G w g x) (hi : Inv x.dat) (h4 : (Lit.int .i64 x.l.s.c.x).wf = true) (h5 : (Lit.int .i64 x.l.s.c.y).wf = true) (hT : Font.Tab w) (zs : List Int) (hS : Src w (.slice a len cap) 1 len (zs.map (Value.int .i64))) (hN : zs.length = len) (hl : len ≤ 100) (hw : ∀ z ∈ zs, (Lit.int .i64 z).wf = true) : Calls Tryd.prog 8 #[.pointer (some ⟨g, 0, none⟩), .agg #[.int .i64 8, .int .i64 N, .int .i64 m.a, .int .i64 m.b, .int .i64 m.c, .int .i64 m.d, .int .i64 m.x, .int .i64 m.y, .slice a len cap, .int .i64 px, .int .i64 py]] w fun E w' => ∃ y, E = .returned (.int .i64 (colorM zs x.dat).2) ∧ To w w' g x y ∧ y.dat = (colorM zs x.dat).1 := by
  obtain ⟨i0, hi0, hz0, hz1, hz2⟩ := info_parts3 infoI1
  obtain ⟨ao, ac, hde, hdl, hdn, hdc⟩ := hS
  obtain ⟨rfl, rfl⟩ : a = ao ∧ cap = ac := by simp only [Value.slice.injEq] at hde; exact ⟨hde.1, hde.2.2⟩
  have HDC := Lib.hid hdc
  have HN := Lib.hid hN
  have HW := Lib.hid hw
  clear hde hdc hN hw
  have HG := Lib.hid h
  have HI := Lib.hid hi
  have H4 := Lib.hid h4
  have H5 := Lib.hid h5
  have HT := Lib.hid hT
  clear h hi h4 h5 hT
  go_enter Tryd.func8, Tryd.ntmps8
  go_wp2_with (first
    | (at_builtin; refine wpList_append_any rfl (.tmp 46) (.tmp 48) 27 rfl 0 3 i0 _ 1 8 Tryd.underlying27 hi0 hz0 hz1 hz2 rfl (by decide) (.slice (some ⟨w.heap.size + 1, 0, none⟩) 0 0) 0 [] rfl (made8 w _) a len cap (zs.map (Value.int .i64)) rfl hdl hdn (fun ad2 e j u hj => Pt.cell_up (by (repeat' (first | (with_reducible first | exact Up.refl _ | assumption | refine Up.alloc ?_ _ | refine Up.drew ?_ | refine Up.drewN ?_ _ | refine Up.setCell ?_ ?_ _ | refine Up.call ?_ (by assumption)) | go_size))) (HDC.out ad2 e j u hj)) (one_ints _) (by unfold maxLen; omega) (by omega) (Nat.zero_le _) ?_; intro v4 w4 hown hgr hnil; obtain ⟨lg, lc, rfl, hO4, hlg⟩ := nonnil hown (fun e => by have h9 := (hnil_not hnil); exact h9 e); have HO4 : Hid (w4.ownsRow 0 3 1 (.slice (some ⟨lg, 0, none⟩) len lc) len (zs.map (Value.int .i64))) := Lib.hid hO4; have HU4 : Hid (Up w w4) := Lib.hid (grown_up (by (repeat' (first | (with_reducible first | exact Up.refl _ | assumption | refine Up.alloc ?_ _ | refine Up.drew ?_ | refine Up.drewN ?_ _ | refine Up.setCell ?_ ?_ _ | refine Up.call ?_ (by assumption)) | go_size))) hgr (fun k0 hk0 => by have h4 : w.heap.size + 1 = k0 := (by injection hk0); omega)); clear hown hgr hnil hO4)
    | (go_at_call 28; ((with_reducible refine (setColor_X g x lg len lc zs _ (HG.out.up HU4.out) (ints_own HO4.out) HN.out (by omega) hlg).mono ?_); rintro E w5 ⟨y, rfl, h1, h2⟩; have H1 := Lib.hid ((To.up HG.out HU4.out).trans h1); have H2 := Lib.hid h2; clear h1 h2)))
  go_ret
  exact ⟨y, rfl, H1.out, H2.out⟩
set_option maxRecDepth 8000 in
set_option maxHeartbeats 2000000 in
theorem call_9 (g : Nat) (x : X) (N : Int) (m : M6) (a : Option Addr) (len cap : Nat) (px py : Int) (w : World) (h : G w g x) (hi : Inv x.dat) (h4 : (Lit.int .i64 x.l.s.c.x).wf = true) (h5 : (Lit.int .i64 x.l.s.c.y).wf = true) (hT : Font.Tab w) (zs : List Int) (hS : Src w (.slice a len cap) 1 len (zs.map (Value.int .i64))) (hN : zs.length = len) (hl : len ≤ 100) (hw : ∀ z ∈ zs, (Lit.int .i64 z).wf = true) : Calls Tryd.prog 8 #[.pointer (some ⟨g, 0, none⟩), .agg #[.int .i64 9, .int .i64 N, .int .i64 m.a, .int .i64 m.b, .int .i64 m.c, .int .i64 m.d, .int .i64 m.x, .int .i64 m.y, .slice a len cap, .int .i64 px, .int .i64 py]] w fun E w' => ∃ y, E = .returned (.int .i64 (dashM zs N x.dat).2) ∧ To w w' g x y ∧ y.dat = (dashM zs N x.dat).1 := by
  obtain ⟨i0, hi0, hz0, hz1, hz2⟩ := info_parts3 infoI1
  obtain ⟨ao, ac, hde, hdl, hdn, hdc⟩ := hS
  obtain ⟨rfl, rfl⟩ : a = ao ∧ cap = ac := by simp only [Value.slice.injEq] at hde; exact ⟨hde.1, hde.2.2⟩
  have HDC := Lib.hid hdc
  have HN := Lib.hid hN
  have HW := Lib.hid hw
  clear hde hdc hN hw
  have HG := Lib.hid h
  have HI := Lib.hid hi
  have H4 := Lib.hid h4
  have H5 := Lib.hid h5
  have HT := Lib.hid hT
  clear h hi h4 h5 hT
  go_enter Tryd.func8, Tryd.ntmps8
  go_wp2
  refine wp_region_held_drew (S := fun w' => w'.cell? ⟨w.heap.size, 8, none⟩ = some (.slice a len cap) ∧ w'.cell? ⟨w.heap.size, 1, none⟩ = some (.int .i64 N)) (by kernel_rfl) ?_ (fun hHeld => ?_)
  · exact ⟨(show Row _ w.heap.size #[.int .i64 9, .int .i64 N, .int .i64 m.a, .int .i64 m.b, .int .i64 m.c, .int .i64 m.d, .int .i64 m.x, .int .i64 m.y, .slice a len cap, .int .i64 px, .int .i64 py] from (by (repeat' (with_reducible first | assumption | (refine Row.at _ _ ?_; (simp; done)) | refine Row.alloc ?_ _ | refine Row.drew ?_ | refine Row.drewN ?_ _ | refine Row.other ?_ (by first | (simp; done) | (simp; omega) | omega) _ | refine Row.up ?_ (by assumption) | refine Row.chg ?_ (by assumption) (by first | (simp; done) | (simp; omega)))))).cell 8 rfl, (show Row _ w.heap.size #[.int .i64 9, .int .i64 N, .int .i64 m.a, .int .i64 m.b, .int .i64 m.c, .int .i64 m.d, .int .i64 m.x, .int .i64 m.y, .slice a len cap, .int .i64 px, .int .i64 py] from (by (repeat' (with_reducible first | assumption | (refine Row.at _ _ ?_; (simp; done)) | refine Row.alloc ?_ _ | refine Row.drew ?_ | refine Row.drewN ?_ _ | refine Row.other ?_ (by first | (simp; done) | (simp; omega) | omega) _ | refine Row.up ?_ (by assumption) | refine Row.chg ?_ (by assumption) (by first | (simp; done) | (simp; omega)))))).cell 1 rfl⟩
  refine wpAnyH_take (i := 0) (v := ?_) rfl (by decide +kernel) (by decide +kernel) (by decide +kernel) (fun _ _ _ h => h) (Or.inl ⟨by rfl, ?_⟩) (by assumption) ?_
  rotate_left
  · intro w2 hSw
    (try dsimp only at hSw)
    (try (obtain ⟨hs1, hs2⟩ := hSw))
    go_simp
    (try (with_reducible rfl))
  (try simp only [Act.put, lga, lgz, lgs, lsa, lsz, lss])
  refine wpAnyH_take (i := 2) (v := ?_) rfl (by decide +kernel) (by decide +kernel) (by decide +kernel) (fun _ _ _ h => h) (Or.inl ⟨by rfl, ?_⟩) (by assumption) ?_
  rotate_left
  · intro w2 hSw
    (try dsimp only at hSw)
    (try (obtain ⟨hs1, hs2⟩ := hSw))
    go_simp
    (try (with_reducible rfl))
  (try simp only [Act.put, lga, lgz, lgs, lsa, lsz, lss])
  refine wpAnyH_take (i := 3) (v := ?_) rfl (by decide +kernel) (by decide +kernel) (by decide +kernel) (fun _ _ _ h => h) (Or.inl ⟨by rfl, ?_⟩) (by assumption) ?_
  rotate_left
  · intro w2 hSw
    (try dsimp only at hSw)
    (try (obtain ⟨hs1, hs2⟩ := hSw))
    go_simp
    (try (with_reducible rfl))
  (try simp only [Act.put, lga, lgz, lgs, lsa, lsz, lss])
  refine wpAnyH_take (i := 5) (v := ?_) rfl (by decide +kernel) (by decide +kernel) (by decide +kernel) (fun _ _ _ h => h) (Or.inl ⟨by rfl, ?_⟩) (by assumption) ?_
  rotate_left
  · intro w2 hSw
    (try dsimp only at hSw)
    (try (obtain ⟨hs1, hs2⟩ := hSw))
    go_simp
    (try (with_reducible rfl))
  (try simp only [Act.put, lga, lgz, lgs, lsa, lsz, lss])
  refine wpAnyH_take (i := 6) (v := ?_) rfl (by decide +kernel) (by decide +kernel) (by decide +kernel) (fun _ _ _ h => h) (Or.inl ⟨by rfl, ?_⟩) (by assumption) ?_
  rotate_left
  · intro w2 hSw
    (try dsimp only at hSw)
    (try (obtain ⟨hs1, hs2⟩ := hSw))
    go_simp
    (try (with_reducible rfl))
  (try simp only [Act.put, lga, lgz, lgs, lsa, lsz, lss])
  refine wpAnyH_ready (rs := [1]) (by decide +kernel) (by simp) ?_
  refine AllReadyH.cons rfl (fun K hK => ?_) (AllReadyH.nil)
  (try simp only [lga, lgz, lgs])
  (go_simp; generalize hW : World.drew _ = w3; have RB3 := Lib.hid (show Row w3 w.heap.size #[.int .i64 9, .int .i64 N, .int .i64 m.a, .int .i64 m.b, .int .i64 m.c, .int .i64 m.d, .int .i64 m.x, .int .i64 m.y, .slice a len cap, .int .i64 px, .int .i64 py] from (by rw [← hW]; (repeat' (with_reducible first | assumption | (refine Row.at _ _ ?_; (simp; done)) | refine Row.alloc ?_ _ | refine Row.drew ?_ | refine Row.drewN ?_ _ | refine Row.other ?_ (by first | (simp; done) | (simp; omega) | omega) _ | refine Row.up ?_ (by assumption) | refine Row.chg ?_ (by assumption) (by first | (simp; done) | (simp; omega)))))); have HU3 := Lib.hid (show Up w w3 from (by rw [← hW]; (repeat' (first | (with_reducible first | exact Up.refl _ | assumption | refine Up.alloc ?_ _ | refine Up.drew ?_ | refine Up.drewN ?_ _ | refine Up.setCell ?_ ?_ _ | refine Up.call ?_ (by assumption)) | go_size)))); have HM3 := Lib.hid (show w3.ownsRow 0 3 1 (.slice (some ⟨w.heap.size + 1, 0, none⟩) 0 0) 0 [] from (by rw [← hW]; exact made8 w _)); clear hW)
  refine hK.out _ _ ?_ (fun hHeld => ?_)
  · exact ⟨RB3.out.cell 8 rfl, RB3.out.cell 1 rfl⟩
  clear hK K
  (try simp only [Act.put, lga, lgz, lgs, lsa, lsz, lss])
  refine wpAnyH_ready (rs := [4]) (by decide +kernel) (by simp) ?_
  refine AllReadyH.cons rfl (fun K hK => ?_) (AllReadyH.nil)
  (try simp only [lga, lgz, lgs])
  (rw [if_pos (by rfl)]; refine wp_append_any2 rfl (.tmp 54) (.tmp 56) 27 rfl 0 3 i0 _ 1 8 Tryd.underlying27 hi0 hz0 hz1 hz2 rfl (by decide) (.slice (some ⟨w.heap.size + 1, 0, none⟩) 0 0) 0 [] rfl (HM3.out) a len cap (zs.map (Value.int .i64)) rfl hdl hdn (fun ad2 e j u hj => Pt.cell_up HU3.out (HDC.out ad2 e j u hj)) (one_ints _) (by unfold maxLen; omega) (by omega) (Nat.zero_le _) ?_; intro v4 w4 hown hgr hnil; have HGR := Lib.hid hgr; obtain ⟨lg, lc, rfl, hO4, hlg⟩ := nonnil hown (fun e => by have h9 := (hnil_not hnil); exact h9 e); have HO4 : Hid (w4.ownsRow 0 3 1 (.slice (some ⟨lg, 0, none⟩) len lc) len (zs.map (Value.int .i64))) := Lib.hid hO4; have HU4 : Hid (Up w w4) := Lib.hid (grown_up HU3.out hgr (fun k0 hk0 => by have h4 : w.heap.size + 1 = k0 := (by injection hk0); omega)); clear hown hgr hnil hO4; have RB4 : Row w4 w.heap.size #[.int .i64 9, .int .i64 N, .int .i64 m.a, .int .i64 m.b, .int .i64 m.c, .int .i64 m.d, .int .i64 m.x, .int .i64 m.y, .slice a len cap, .int .i64 px, .int .i64 py] := RB3.out.chg (Chg.grown (Chg.refl [w.heap.size + 1] w3) HGR.out (fun k0 hk0 => Or.inl (by have h4 : w.heap.size + 1 = k0 := (by injection hk0); simp [h4]))) (by simp))
  refine hK.out _ _ ?_ (fun hHeld => ?_)
  · exact ⟨RB4.cell 8 rfl, RB4.cell 1 rfl⟩
  clear hK K
  (try simp only [Act.put, lga, lgz, lgs, lsa, lsz, lss])
  refine wpAnyH_ready (rs := [7]) (by decide +kernel) (by simp) ?_
  refine AllReadyH.cons rfl (fun K hK => ?_) (AllReadyH.nil)
  (try simp only [lga, lgz, lgs])
  (go_simp; go_at_call 29; (with_reducible refine (setDash_X g x 0 lg len lc zs N _ (HG.out.up HU4.out) HO4.out HN.out hl HW.out).mono ?_); rintro E w5 ⟨y, rfl, h1, h2⟩; have H1 := Lib.hid ((To.up HG.out HU4.out).trans h1); have H2 := Lib.hid h2; (have RB5 : Row w5 w.heap.size #[.int .i64 9, .int .i64 N, .int .i64 m.a, .int .i64 m.b, .int .i64 m.c, .int .i64 m.d, .int .i64 m.x, .int .i64 m.y, .slice a len cap, .int .i64 px, .int .i64 py] := RB4.chg h1.2.1 (fun hb => by have := HG.out.lt _ hb; omega)); clear h1 h2; (try dsimp only))
  refine hK.out _ _ ?_ (fun hHeld => ?_)
  · exact ⟨RB5.cell 8 rfl, RB5.cell 1 rfl⟩
  clear hK K
  (try simp only [Act.put, lga, lgz, lgs, lsa, lsz, lss])
  refine wpAnyH_take (i := 8) (v := ?_) rfl (by decide +kernel) (by decide +kernel) (by decide +kernel) (fun _ _ _ h => h) (Or.inl ⟨by rfl, ?_⟩) (by assumption) ?_
  rotate_left
  · intro w2 hSw
    (try dsimp only at hSw)
    (try (obtain ⟨hs1, hs2⟩ := hSw))
    go_simp
    (try (with_reducible rfl))
  (try simp only [Act.put, lga, lgz, lgs, lsa, lsz, lss])
  refine wpAnyH_done (by decide +kernel) ?_ _
  go_wp2
  go_ret
  exact ⟨y, rfl, H1.out, H2.out⟩

end Go.Proofs.YtoflafbhfoncmaaDoor.Gt
end

section
namespace Go.Proofs.YtoflafbhfoncmaaDoor.Gt
open List renaming getElem_toArray → lga, getElem_cons_zero → lgz, getElem_cons_succ → lgs, setIfInBounds_toArray → lsa, set_cons_zero → lsz, set_cons_succ → lss
open Go.ChangeShapes Go.WideShapes Go.ChangeAt Go.RowKit
open Go.Proofs.YtoflafbhfoncmaaDoor.FixM (fits)
open Go.Proofs.YtoflafbhfoncmaaDoor.MatM (M6)
open Go.Proofs.YtoflafbhfoncmaaDoor.PathM (Seg St Z segCells)
open Go.Proofs.YtoflafbhfoncmaaDoor.Path (own own_mem own_of PathIs Segs)
open Go.Proofs.YtoflafbhfoncmaaDoor.Pt (Clip clipCells Src)
set_option linter.unusedVariables false
set_option linter.unusedSimpArgs false

theorem To.g {w w' : World} {g : Nat} {x y : X} (h : To w w' g x y) : G w' g y := h.1
theorem add_len (t : St) (a : PathM.Pt) (l : List Seg) : (t.add a l).1.l.length ≤ t.l.length + l.length := by
  unfold St.add
  split
  · simp
  · simp
theorem draw_len (t : St) (s : Seg) (a : PathM.Pt) : (t.draw s a).1.l.length ≤ t.l.length + 2 := by
  unfold St.draw
  split
  · simp
  · split
    · exact add_len _ _ _
    · exact Nat.le_trans (add_len _ _ _) (by simp)
theorem line_len (t : St) (a : PathM.Pt) : (t.line a).1.l.length ≤ t.l.length + 2 := by
  unfold St.line
  split
  · exact draw_len _ _ _
  · simp
theorem move_len (t : St) (a : PathM.Pt) : (t.move a).1.l.length ≤ t.l.length + 1 := by
  unfold St.move
  split
  · split
    · simp
    · split
      · exact add_len _ _ _
      · exact add_len _ _ _
  · simp
def rectM (px py : Int) (d : GD) : GD := { d with t := (((St.mk d.t.most [] Z Z).move (px, py)).1.line (py, px)).1 }
set_option maxRecDepth 8000 in
set_option maxHeartbeats 2000000 in
theorem call_16 (g : Nat) (x : X) (N : Int) (m : M6) (a : Option Addr) (len cap : Nat) (px py : Int) (w : World) (h : G w g x) (hi : Inv x.dat) (h4 : (Lit.int .i64 x.l.s.c.x).wf = true) (h5 : (Lit.int .i64 x.l.s.c.y).wf = true) (hT : Font.Tab w) : Calls Tryd.prog 8 #[.pointer (some ⟨g, 0, none⟩), .agg #[.int .i64 16, .int .i64 N, .int .i64 m.a, .int .i64 m.b, .int .i64 m.c, .int .i64 m.d, .int .i64 m.x, .int .i64 m.y, .slice a len cap, .int .i64 px, .int .i64 py]] w fun E w' => ∃ y, E = .returned (.int .i64 0) ∧ To w w' g x y ∧ y.dat = rectM px py x.dat := by
  have HG := Lib.hid h
  have HI := Lib.hid hi
  have H4 := Lib.hid h4
  have H5 := Lib.hid h5
  have HT := Lib.hid hT
  clear h hi h4 h5 hT
  go_enter Tryd.func8, Tryd.ntmps8
  have HL1 := Lib.hid (show (withPath x (.slice none 0 0) ⟨x.l.t.most, [], Z, Z⟩).l.t.l.length + 2 ≤ 100000000 from (by show 0 + 2 ≤ 100000000; omega))
  have HL2 := Lib.hid (show PathM.lastK (withPath x (.slice none 0 0) ⟨x.l.t.most, [], Z, Z⟩).l.t.l ≠ 1 from (by show (0 : Int) ≠ 1; decide))
  have HL3 := Lib.hid (show ∀ v2, (withPath (withPath x (.slice none 0 0) ⟨x.l.t.most, [], Z, Z⟩) v2 ((withPath x (.slice none 0 0) ⟨x.l.t.most, [], Z, Z⟩).l.t.move (px, py)).1).l.t.l.length + 2 ≤ 100000000 from fun v2 => Nat.le_trans (Nat.add_le_add_right (move_len _ _) 2) (by show 0 + 1 + 2 ≤ 100000000; omega))
  go_wp2_with (first
    | (go_at_call 10; ((with_reducible refine (path_X g x _ (HG.out.up (by (repeat' (first | (with_reducible first | exact Up.refl _ | assumption | refine Up.alloc ?_ _ | refine Up.drew ?_ | refine Up.drewN ?_ _ | refine Up.setCell ?_ ?_ _ | refine Up.call ?_ (by assumption)) | go_size))))).mono ?_); rintro E w5 ⟨rfl, rfl⟩))
    | (go_at_call 35; generalize hW : World.alloc w _ = w0; have RB0 : Row w0 w.heap.size #[.int .i64 16, .int .i64 N, .int .i64 m.a, .int .i64 m.b, .int .i64 m.c, .int .i64 m.d, .int .i64 m.x, .int .i64 m.y, .slice a len cap, .int .i64 px, .int .i64 py] := (by rw [← hW]; (repeat' (with_reducible first | assumption | (refine Row.at _ _ ?_; (simp; done)) | refine Row.alloc ?_ _ | refine Row.drew ?_ | refine Row.drewN ?_ _ | refine Row.other ?_ (by first | (simp; done) | (simp; omega) | omega) _ | refine Row.up ?_ (by assumption) | refine Row.chg ?_ (by assumption) (by first | (simp; done) | (simp; omega))))); have HU0 := Lib.hid (show Up w w0 from (by rw [← hW]; (repeat' (first | (with_reducible first | exact Up.refl _ | assumption | refine Up.alloc ?_ _ | refine Up.drew ?_ | refine Up.drewN ?_ _ | refine Up.setCell ?_ ?_ _ | refine Up.call ?_ (by assumption)) | go_size)))); clear hW; ((with_reducible refine (clear_X g x w0 (HG.out.up HU0.out)).mono ?_); rintro E w1 ⟨rfl, h1⟩; have H1 := Lib.hid ((To.up HG.out HU0.out).trans h1); have hz0 := RB0.lt; (have RB1 : Row w1 w.heap.size #[.int .i64 16, .int .i64 N, .int .i64 m.a, .int .i64 m.b, .int .i64 m.c, .int .i64 m.d, .int .i64 m.x, .int .i64 m.y, .slice a len cap, .int .i64 px, .int .i64 py] := RB0.chg h1.2.1 (fun hb => by have := HG.out.lt _ hb; omega)); have HN1 := Lib.hid (show w.heap.size ∉ (withPath x (.slice none 0 0) ⟨x.l.t.most, [], Z, Z⟩).bl g from fun hb => by have := (h1.2.2 _ hb).imp (HG.out.lt _) id; omega); clear h1)))
  have HD1 := Lib.hid (H1.out.trans (To.up H1.out.g (show Up w1 w1.drew from by (repeat' (first | (with_reducible first | exact Up.refl _ | assumption | refine Up.alloc ?_ _ | refine Up.drew ?_ | refine Up.drewN ?_ _ | refine Up.setCell ?_ ?_ _ | refine Up.call ?_ (by assumption)) | go_size)))))
  have RBD1 : Row w1.drew w.heap.size #[.int .i64 16, .int .i64 N, .int .i64 m.a, .int .i64 m.b, .int .i64 m.c, .int .i64 m.d, .int .i64 m.x, .int .i64 m.y, .slice a len cap, .int .i64 px, .int .i64 py] := by (repeat' (with_reducible first | assumption | (refine Row.at _ _ ?_; (simp; done)) | refine Row.alloc ?_ _ | refine Row.drew ?_ | refine Row.drewN ?_ _ | refine Row.other ?_ (by first | (simp; done) | (simp; omega) | omega) _ | refine Row.up ?_ (by assumption) | refine Row.chg ?_ (by assumption) (by first | (simp; done) | (simp; omega))))
  refine wp_region_held_drew (S := fun w' => w'.cell? ⟨w.heap.size, 9, none⟩ = some (.int .i64 px) ∧ w'.cell? ⟨w.heap.size, 10, none⟩ = some (.int .i64 py)) (by decide +kernel) ?_ (fun hHeld => ?_)
  · exact ⟨RBD1.cell 9 rfl, RBD1.cell 10 rfl⟩
  refine wpAnyH_take (i := 0) (v := ?_) rfl (by decide +kernel) (by decide +kernel) (by decide +kernel) (fun _ _ _ h => h) (Or.inl ⟨by rfl, ?_⟩) (by assumption) ?_
  rotate_left
  · intro w2 hSw
    (try dsimp only at hSw)
    (try (obtain ⟨hs1, hs2⟩ := hSw))
    go_simp
    (try (with_reducible rfl))
  (try simp only [Act.put, lga, lgz, lgs, lsa, lsz, lss])
  refine wpAnyH_take (i := 2) (v := ?_) rfl (by decide +kernel) (by decide +kernel) (by decide +kernel) (fun _ _ _ h => h) (Or.inl ⟨by rfl, ?_⟩) (by assumption) ?_
  rotate_left
  · intro w2 hSw
    (try dsimp only at hSw)
    (try (obtain ⟨hs1, hs2⟩ := hSw))
    go_simp
    (try (with_reducible rfl))
  (try simp only [Act.put, lga, lgz, lgs, lsa, lsz, lss])
  refine wpAnyH_take (i := 3) (v := ?_) rfl (by decide +kernel) (by decide +kernel) (by decide +kernel) (fun _ _ _ h => h) (Or.inl ⟨by rfl, ?_⟩) (by assumption) ?_
  rotate_left
  · intro w2 hSw
    (try dsimp only at hSw)
    (try (obtain ⟨hs1, hs2⟩ := hSw))
    go_simp
    (try (with_reducible rfl))
  (try simp only [Act.put, lga, lgz, lgs, lsa, lsz, lss])
  refine wpAnyH_ready (rs := [1]) (by decide +kernel) (by simp) ?_
  refine AllReadyH.cons rfl (fun K hK => ?_) (AllReadyH.nil)
  (try simp only [lga, lgz, lgs])
  (go_simp; go_at_call 10; ((with_reducible refine (path_X g _ _ HD1.out.g).mono ?_); rintro E w5 ⟨rfl, rfl⟩); (try dsimp only))
  refine hK.out _ _ ?_ (fun hHeld => ?_)
  · exact ⟨RBD1.cell 9 rfl, RBD1.cell 10 rfl⟩
  clear hK K
  (try simp only [Act.put, lga, lgz, lgs, lsa, lsz, lss])
  refine wpAnyH_ready (rs := [4]) (by decide +kernel) (by simp) ?_
  refine AllReadyH.cons rfl (fun K hK => ?_) (AllReadyH.nil)
  (try simp only [lga, lgz, lgs])
  (go_simp; go_at_call 36; (with_reducible refine (move_X g _ px py _ HD1.out.g HL1.out HL2.out).mono ?_); rintro E w2 ⟨rfl, v2, h2⟩; have H2 := Lib.hid (HD1.out.trans h2); have hz1 := RBD1.lt; have HN2 := Lib.hid (show w.heap.size ∉ X.bl g _ from fun hb => (h2.2.2 _ hb).elim HN1.out (fun h8 => by omega)); (have RB2 : Row w2 w.heap.size #[.int .i64 16, .int .i64 N, .int .i64 m.a, .int .i64 m.b, .int .i64 m.c, .int .i64 m.d, .int .i64 m.x, .int .i64 m.y, .slice a len cap, .int .i64 px, .int .i64 py] := RBD1.chg h2.2.1 HN1.out); clear h2; (try dsimp only))
  refine hK.out _ _ ?_ (fun hHeld => ?_)
  · exact ⟨RB2.cell 9 rfl, RB2.cell 10 rfl⟩
  clear hK K
  (try simp only [Act.put, lga, lgz, lgs, lsa, lsz, lss])
  refine wpAnyH_done (by decide +kernel) ?_ _
  go_wp2
  have HD2 := Lib.hid (H2.out.trans (To.up H2.out.g (show Up w2 w2.drew from by (repeat' (first | (with_reducible first | exact Up.refl _ | assumption | refine Up.alloc ?_ _ | refine Up.drew ?_ | refine Up.drewN ?_ _ | refine Up.setCell ?_ ?_ _ | refine Up.call ?_ (by assumption)) | go_size)))))
  have RBD2 : Row w2.drew w.heap.size #[.int .i64 16, .int .i64 N, .int .i64 m.a, .int .i64 m.b, .int .i64 m.c, .int .i64 m.d, .int .i64 m.x, .int .i64 m.y, .slice a len cap, .int .i64 px, .int .i64 py] := by (repeat' (with_reducible first | assumption | (refine Row.at _ _ ?_; (simp; done)) | refine Row.alloc ?_ _ | refine Row.drew ?_ | refine Row.drewN ?_ _ | refine Row.other ?_ (by first | (simp; done) | (simp; omega) | omega) _ | refine Row.up ?_ (by assumption) | refine Row.chg ?_ (by assumption) (by first | (simp; done) | (simp; omega))))
  refine wp_region_held_drew (S := fun w' => w'.cell? ⟨w.heap.size, 9, none⟩ = some (.int .i64 px) ∧ w'.cell? ⟨w.heap.size, 10, none⟩ = some (.int .i64 py)) (by decide +kernel) ?_ (fun hHeld => ?_)
  · exact ⟨RBD2.cell 9 rfl, RBD2.cell 10 rfl⟩
  refine wpAnyH_take (i := 0) (v := ?_) rfl (by decide +kernel) (by decide +kernel) (by decide +kernel) (fun _ _ _ h => h) (Or.inl ⟨by rfl, ?_⟩) (by assumption) ?_
  rotate_left
  · intro w2 hSw
    (try dsimp only at hSw)
    (try (obtain ⟨hs1, hs2⟩ := hSw))
    go_simp
    (try (with_reducible rfl))
  (try simp only [Act.put, lga, lgz, lgs, lsa, lsz, lss])
  refine wpAnyH_take (i := 2) (v := ?_) rfl (by decide +kernel) (by decide +kernel) (by decide +kernel) (fun _ _ _ h => h) (Or.inl ⟨by rfl, ?_⟩) (by assumption) ?_
  rotate_left
  · intro w2 hSw
    (try dsimp only at hSw)
    (try (obtain ⟨hs1, hs2⟩ := hSw))
    go_simp
    (try (with_reducible rfl))
  (try simp only [Act.put, lga, lgz, lgs, lsa, lsz, lss])
  refine wpAnyH_take (i := 3) (v := ?_) rfl (by decide +kernel) (by decide +kernel) (by decide +kernel) (fun _ _ _ h => h) (Or.inl ⟨by rfl, ?_⟩) (by assumption) ?_
  rotate_left
  · intro w2 hSw
    (try dsimp only at hSw)
    (try (obtain ⟨hs1, hs2⟩ := hSw))
    go_simp
    (try (with_reducible rfl))
  (try simp only [Act.put, lga, lgz, lgs, lsa, lsz, lss])
  refine wpAnyH_take (i := 4) (v := ?_) rfl (by decide +kernel) (by decide +kernel) (by decide +kernel) (fun _ _ _ h => h) (Or.inl ⟨by rfl, ?_⟩) (by assumption) ?_
  rotate_left
  · intro w2 hSw
    (try dsimp only at hSw)
    (try (obtain ⟨hs1, hs2⟩ := hSw))
    go_simp
    (try (with_reducible rfl))
  (try simp only [Act.put, lga, lgz, lgs, lsa, lsz, lss])
  refine wpAnyH_take (i := 5) (v := ?_) rfl (by decide +kernel) (by decide +kernel) (by decide +kernel) (fun _ _ _ h => h) (Or.inl ⟨by rfl, ?_⟩) (by assumption) ?_
  rotate_left
  · intro w2 hSw
    (try dsimp only at hSw)
    (try (obtain ⟨hs1, hs2⟩ := hSw))
    go_simp
    (try (with_reducible rfl))
  (try simp only [Act.put, lga, lgz, lgs, lsa, lsz, lss])
  refine wpAnyH_take (i := 6) (v := ?_) rfl (by decide +kernel) (by decide +kernel) (by decide +kernel) (fun _ _ _ h => h) (Or.inl ⟨by rfl, ?_⟩) (by assumption) ?_
  rotate_left
  · intro w2 hSw
    (try dsimp only at hSw)
    (try (obtain ⟨hs1, hs2⟩ := hSw))
    go_simp
    (try (with_reducible rfl))
  (try simp only [Act.put, lga, lgz, lgs, lsa, lsz, lss])
  refine wpAnyH_take (i := 7) (v := ?_) rfl (by decide +kernel) (by decide +kernel) (by decide +kernel) (fun _ _ _ h => h) (Or.inl ⟨by rfl, ?_⟩) (by assumption) ?_
  rotate_left
  · intro w2 hSw
    (try dsimp only at hSw)
    (try (obtain ⟨hs1, hs2⟩ := hSw))
    go_simp
    (try (with_reducible rfl))
  (try simp only [Act.put, lga, lgz, lgs, lsa, lsz, lss])
  refine wpAnyH_take (i := 8) (v := ?_) rfl (by decide +kernel) (by decide +kernel) (by decide +kernel) (fun _ _ _ h => h) (Or.inl ⟨by rfl, ?_⟩) (by assumption) ?_
  rotate_left
  · intro w2 hSw
    (try dsimp only at hSw)
    (try (obtain ⟨hs1, hs2⟩ := hSw))
    go_simp
    (try (with_reducible rfl))
  (try simp only [Act.put, lga, lgz, lgs, lsa, lsz, lss])
  refine wpAnyH_ready (rs := [1]) (by decide +kernel) (by simp) ?_
  refine AllReadyH.cons rfl (fun K hK => ?_) (AllReadyH.nil)
  (try simp only [lga, lgz, lgs])
  (go_simp; go_at_call 10; ((with_reducible refine (path_X g _ _ HD2.out.g).mono ?_); rintro E w5 ⟨rfl, rfl⟩); (try dsimp only))
  refine hK.out _ _ ?_ (fun hHeld => ?_)
  · exact ⟨RBD2.cell 9 rfl, RBD2.cell 10 rfl⟩
  clear hK K
  (try simp only [Act.put, lga, lgz, lgs, lsa, lsz, lss])
  refine wpAnyH_ready (rs := [9]) (by decide +kernel) (by simp) ?_
  refine AllReadyH.cons rfl (fun K hK => ?_) (AllReadyH.nil)
  (try simp only [lga, lgz, lgs])
  (go_simp; go_at_call 37; (with_reducible refine (line_X g _ py px _ HD2.out.g (HL3.out v2)).mono ?_); rintro E w3 ⟨rfl, v3, h3⟩; have H3 := Lib.hid (HD2.out.trans h3); (have RB3 : Row w3 w.heap.size #[.int .i64 16, .int .i64 N, .int .i64 m.a, .int .i64 m.b, .int .i64 m.c, .int .i64 m.d, .int .i64 m.x, .int .i64 m.y, .slice a len cap, .int .i64 px, .int .i64 py] := RBD2.chg h3.2.1 HN2.out); clear h3; (try dsimp only))
  refine hK.out _ _ ?_ (fun hHeld => ?_)
  · exact ⟨RB3.cell 9 rfl, RB3.cell 10 rfl⟩
  clear hK K
  (try simp only [Act.put, lga, lgz, lgs, lsa, lsz, lss])
  refine wpAnyH_done (by decide +kernel) ?_ _
  go_wp2
  go_ret
  exact ⟨_, rfl, H3.out, rfl⟩
set_option maxRecDepth 8000 in
theorem call_other (D : Int) (hD : D < 1 ∨ 16 < D) (g : Nat) (x : X) (N : Int) (m : M6) (a : Option Addr) (len cap : Nat) (px py : Int) (w : World) (h : G w g x) (hi : Inv x.dat) (h4 : (Lit.int .i64 x.l.s.c.x).wf = true) (h5 : (Lit.int .i64 x.l.s.c.y).wf = true) (hT : Font.Tab w) : Calls Tryd.prog 8 #[.pointer (some ⟨g, 0, none⟩), .agg #[.int .i64 D, .int .i64 N, .int .i64 m.a, .int .i64 m.b, .int .i64 m.c, .int .i64 m.d, .int .i64 m.x, .int .i64 m.y, .slice a len cap, .int .i64 px, .int .i64 py]] w fun E w' => ∃ y, E = .returned (.int .i64 0) ∧ To w w' g x y ∧ y.dat = x.dat := by
  have t0 : ∀ k : Int, 1 ≤ k → k ≤ 16 → (D == k) = false := fun k h1 h2 => by simp; omega
  have t1 := t0 1 (by decide) (by decide)
  have t2 := t0 2 (by decide) (by decide)
  have t3 := t0 3 (by decide) (by decide)
  have t4 := t0 4 (by decide) (by decide)
  have t5 := t0 5 (by decide) (by decide)
  have t6 := t0 6 (by decide) (by decide)
  have t7 := t0 7 (by decide) (by decide)
  have t8 := t0 8 (by decide) (by decide)
  have t9 := t0 9 (by decide) (by decide)
  have t10 := t0 10 (by decide) (by decide)
  have t11 := t0 11 (by decide) (by decide)
  have t12 := t0 12 (by decide) (by decide)
  have t13 := t0 13 (by decide) (by decide)
  have t14 := t0 14 (by decide) (by decide)
  have t15 := t0 15 (by decide) (by decide)
  have t16 := t0 16 (by decide) (by decide)
  clear t0
  have HG := Lib.hid h
  have HI := Lib.hid hi
  have H4 := Lib.hid h4
  have H5 := Lib.hid h5
  have HT := Lib.hid hT
  clear h hi h4 h5 hT
  go_enter Tryd.func8, Tryd.ntmps8
  go_wp2
  go_ret
  exact ⟨x, rfl, To.up HG.out (by (repeat' (first | (with_reducible first | exact Up.refl _ | assumption | refine Up.alloc ?_ _ | refine Up.drew ?_ | refine Up.drewN ?_ _ | refine Up.setCell ?_ ?_ _ | refine Up.call ?_ (by assumption)) | go_size))), rfl⟩

end Go.Proofs.YtoflafbhfoncmaaDoor.Gt
end

section
namespace Go.Proofs.YtoflafbhfoncmaaDoor.Gt
open Go.ChangeShapes Go.WideShapes Go.ChangeAt Go.RowKit
open Go.Proofs.YtoflafbhfoncmaaDoor.FixM (fits)
open Go.Proofs.YtoflafbhfoncmaaDoor.MatM (M6)
open Go.Proofs.YtoflafbhfoncmaaDoor.PathM (Seg St Z segCells)
open Go.Proofs.YtoflafbhfoncmaaDoor.Path (own own_mem own_of PathIs Segs)
open Go.Proofs.YtoflafbhfoncmaaDoor.Pt (Clip clipCells Src)
set_option linter.unusedVariables false
set_option linter.unusedSimpArgs false

/-- an act, and what its list holds -/
structure AV where
  D : Int
  N : Int
  m : M6
  a : Option Addr
  len : Nat
  cap : Nat
  zs : List Int
  px : Int
  py : Int
def AV.cells (v : AV) : List Value := [.int .i64 v.D, .int .i64 v.N, .int .i64 v.m.a, .int .i64 v.m.b, .int .i64 v.m.c, .int .i64 v.m.d, .int .i64 v.m.x, .int .i64 v.m.y, .slice v.a v.len v.cap, .int .i64 v.px, .int .i64 v.py]
def AV.ok (w : World) (v : AV) : Prop := Pt.Src w (.slice v.a v.len v.cap) 1 v.len (v.zs.map (Value.int .i64)) ∧ v.zs.length = v.len ∧ ∀ z ∈ v.zs, (Lit.int .i64 z).wf = true
theorem AV.ok.up {w w1 : World} {v : AV} (h : AV.ok w v) (hu : Up w w1) : AV.ok w1 v := ⟨h.1.up hu, h.2.1, h.2.2⟩
def Acts (w : World) (a : Option Addr) (len cap : Nat) (l : List AV) : Prop := Sl 11 AV.cells w a len cap l ∧ ∀ v ∈ l, v.ok w
theorem cAct : Tryd.prog.cellsOf 31 = 11 := by kernel_rfl
section
open Go.Deep
variable {H : Type} {enc : TypeId × Value → H} {W : World} {base : Nat} {spare : Nat → Bool} {held : Bool}
set_option maxRecDepth 8000 in
theorem act_open {fuel : Nat} {cs : List Value} {y : DataW H × List MemPlace} (h : DataW.trod enc Tryd.prog W base spare held fuel 31 cs = some y) : ∃ v : AV, cs = v.cells ∧ v.ok W := by
  obtain ⟨n, hl, hF⟩ := trod_field Tryd.underlying31 h
  clear h
  rw [cAct] at hl
  match cs, hl with
  | [c0, c1, c2, c3, c4, c5, c6, c7, c8, c9, c10], _ =>
    obtain ⟨y0, h0⟩ := hF 0 _ rfl
    obtain ⟨y1, h1⟩ := hF 1 _ rfl
    obtain ⟨y2, h2⟩ := hF 2 _ rfl
    obtain ⟨y3, h3⟩ := hF 3 _ rfl
    obtain ⟨y4, h4⟩ := hF 4 _ rfl
    have avPt : Tryd.prog.cellsOf 29 = 2 := by kernel_rfl
    simp [Pt.ptInt, Pt.ptM, Pt.ptIs, avPt] at h0 h1 h2 h3 h4
    obtain ⟨z0, e0, -, w0⟩ := DataW.trod_int Tryd.underlying3 h0
    obtain ⟨z1, e1, -, w1⟩ := DataW.trod_int Tryd.underlying3 h1
    simp at e0 e1
    obtain ⟨m, e2, e3, e4, e5, e6, e7⟩ := Pt.mat_open h2
    obtain ⟨v, zs, e8, hz⟩ := Pt.ints_open (k := .i64) Tryd.underlying27 Tryd.underlying3 Pt.ptInt h3
    simp at e8
    obtain ⟨n2, hl2, hF2⟩ := trod_field Tryd.underlying29 h4
    obtain ⟨p0, g0⟩ := hF2 0 _ rfl
    obtain ⟨p1, g1⟩ := hF2 1 _ rfl
    simp [Pt.ptInt] at g0 g1
    obtain ⟨z9, e9, -, w9⟩ := DataW.trod_int Tryd.underlying3 g0
    obtain ⟨z10, e10, -, w10⟩ := DataW.trod_int Tryd.underlying3 g1
    simp at e9 e10
    have hs := Pt.src_ints hz
    have hw : ∀ z ∈ zs, (Lit.int .i64 z).wf = true := by
      obtain ⟨ao, c', e, hl, hm, hno, h1, hw⟩ := hz
      exact hw
    obtain ⟨ao, cp, ev⟩ : ∃ ao cp, v = .slice ao zs.length cp := by
      obtain ⟨ao, c', e, _⟩ := hz
      exact ⟨ao, c', e⟩
    subst ev
    subst e0 e1 e2 e3 e4 e5 e6 e7 e8 e9 e10
    exact ⟨⟨z0, z1, m, ao, zs.length, cp, zs, z9, z10⟩, rfl, hs, rfl, hw⟩
end
theorem actsIs_of {H : Type} {enc : TypeId × Value → H} {W : World} {a : Option Addr} {len cap : Nat} {d : Go.DataW H} {p : List MemPlace}
    (h : Go.DataW.Trod enc Tryd.prog W 0 (fun _ => true) true 22 (.slice a len cap) d p) : ∃ l, Acts W a len cap l :=
  sl_of ⟨0, 0, ⟨0, 0, 0, 0, 0, 0⟩, none, 0, 0, [], 0, 0⟩ 11 AV.cells (AV.ok W) Tryd.underlying22 cAct (by decide) (fun _ => rfl) (fun _ _ _ _ _ _ h => act_open h) h

/-- a number in cells fits an int -/
def WfC (c : M6) : Prop := (Lit.int .i64 c.x).wf = true ∧ (Lit.int .i64 c.y).wf = true
structure SOk (s : SD) (t : St) : Prop where
  d : s.ds.length ≤ 11
  c : s.cl.length ≤ 16
  p : ∀ c ∈ s.cl, c.1.length ≤ 3
  t : t.l.length ≤ 3
  w : WfC s.c
structure V (d : GD) (k : Nat) : Prop where
  cur : SOk d.s d.t
  svs : ∀ s ∈ d.saved, SOk s.1 s.2
  n : d.saved.length ≤ k
theorem SOk.le {s : SD} {t : St} (h : SOk s t) : Le s := ⟨by have := h.d; omega, by have := h.c; omega, fun c hc => by have := h.p c hc; omega⟩
theorem V.inv {d : GD} {k : Nat} (h : V d k) (hk : k ≤ 1000) : Inv d := ⟨h.cur.le, fun s hs => (h.svs s hs).le, by have := h.n; omega⟩
theorem V.to {d : GD} {k j : Nat} (h : V d k) (hk : k ≤ j) : V d j := ⟨h.cur, h.svs, Nat.le_trans h.n hk⟩
theorem V.set {d : GD} {k : Nat} (h : V d k) {s : SD} (hs : SOk s d.t) : V (d.set s) k := ⟨hs, h.svs, h.n⟩

theorem sumF_fits (zs : List Int) : ∀ t, fits t = true → fits (FixM.sumF t zs).1 = true := by
  induction zs with
  | nil => intro t h; exact h
  | cons z zs ih =>
    intro t h
    unfold FixM.sumF
    split
    · exact ih _ (MatM.add_fits _ _)
    · exact (by decide : fits 0 = true)
theorem concat_wf (m c : M6) : WfC (MatM.concat m c).1 := by
  have h0 : fits 0 = true := by decide
  have hz : WfC MatM.none6 := ⟨by decide, by decide⟩
  unfold MatM.concat
  dsimp only
  split
  · split
    · split
      · refine ⟨Mat.fits_wf ?_, Mat.fits_wf ?_⟩
        · show fits (MatM.apply _ _ _ _ _ _ _ _).1.1 = true
          unfold MatM.apply MatM.pt
          dsimp only
          split
          · exact sumF_fits _ _ h0
          · exact h0
        · show fits (MatM.apply _ _ _ _ _ _ _ _).1.2 = true
          unfold MatM.apply MatM.pt
          dsimp only
          split
          · exact sumF_fits _ _ h0
          · exact h0
      · exact hz
    · exact hz
  · exact hz
theorem chk_fits {l : List Int} (h : Gs.chk l = 0) : ∀ z ∈ l, fits z = true := fun z hz => by
  unfold Gs.chk at h
  split at h
  · exact absurd h (by decide)
  · rename_i h1
    simp only [List.any_eq_true, not_exists, not_and] at h1
    have := h1 z hz
    simpa using this
theorem chk_wf {m : M6} (h : Gs.chk (l6 m) = 0) : WfC m := ⟨Mat.fits_wf (chk_fits h _ (by simp [l6])), Mat.fits_wf (chk_fits h _ (by simp [l6]))⟩

def callM (v : AV) (d : GD) : GD × Int :=
  if v.D = 1 then saveM d else if v.D = 2 then (restM d, 0) else if v.D = 3 then (restAllM d, 0) else if v.D = 4 then (initM d, 0)
  else if v.D = 5 then concatM v.m d else if v.D = 6 then setMatrixM v.m d else if v.D = 7 then setFontM v.N v.m d else if v.D = 8 then colorM v.zs d else if v.D = 9 then dashM v.zs v.N d
  else if v.D = 10 then setWidthM v.N d else if v.D = 11 then setCapM v.N d else if v.D = 12 then setJoinM v.N d else if v.D = 13 then setMiterM v.N d
  else if v.D = 14 then clipM (v.N.tmod 2 == 0) d else if v.D = 15 then (unclipM d, 0) else if v.D = 16 then (rectM v.px v.py d, 0) else (d, 0)
theorem callM_at {v : AV} {k : Int} (h : v.D = k) (d : GD) : callM v d = callM { v with D := k } d := by subst h; rfl
theorem call_X (g : Nat) (x : X) (v : AV) (k : Nat) (w : World) (h : G w g x) (hv : V x.dat k) (hk : k ≤ 1000) (hT : Font.Tab w) (ha : v.ok w) (hl : v.len ≤ 100) : Calls Tryd.prog 8 #[.pointer (some ⟨g, 0, none⟩), .agg v.cells.toArray] w fun E w' => ∃ y, E = .returned (.int .i64 (callM v x.dat).2) ∧ To w w' g x y ∧ y.dat = (callM v x.dat).1 := by
  have hi := hv.inv hk
  obtain ⟨h4, h5⟩ := hv.cur.w
  obtain ⟨hs, hn, hw⟩ := ha
  obtain ⟨D, N, m, a, len, cap, zs, px, py⟩ := v
  simp only at hs hn hw hl
  by_cases h0 : D < 1 ∨ 16 < D
  · rw [show callM ⟨D, N, m, a, len, cap, zs, px, py⟩ x.dat = (x.dat, 0) from by
      unfold callM
      simp only
      repeat rw [if_neg (by omega)]]
    exact call_other D h0 g x N m a len cap px py w h hi h4 h5 hT
  · obtain h1 | h1 | h1 | h1 | h1 | h1 | h1 | h1 | h1 | h1 | h1 | h1 | h1 | h1 | h1 | h1 : D = 1 ∨ D = 2 ∨ D = 3 ∨ D = 4 ∨ D = 5 ∨ D = 6 ∨ D = 7 ∨ D = 8 ∨ D = 9 ∨ D = 10 ∨ D = 11 ∨ D = 12 ∨ D = 13 ∨ D = 14 ∨ D = 15 ∨ D = 16 := by omega
    · subst h1; exact call_1 g x N m a len cap px py w h hi h4 h5 hT
    · subst h1; exact call_2 g x N m a len cap px py w h hi h4 h5 hT
    · subst h1; exact call_3 g x N m a len cap px py w h hi h4 h5 hT
    · subst h1; exact call_4 g x N m a len cap px py w h hi h4 h5 hT
    · subst h1; exact call_5 g x N m a len cap px py w h hi h4 h5 hT
    · subst h1; exact call_6 g x N m a len cap px py w h hi h4 h5 hT
    · subst h1; exact call_7 g x N m a len cap px py w h hi h4 h5 hT
    · subst h1; exact call_8 g x N m a len cap px py w h hi h4 h5 hT zs hs hn hl hw
    · subst h1; exact call_9 g x N m a len cap px py w h hi h4 h5 hT zs hs hn hl hw
    · subst h1; exact call_10 g x N m a len cap px py w h hi h4 h5 hT
    · subst h1; exact call_11 g x N m a len cap px py w h hi h4 h5 hT
    · subst h1; exact call_12 g x N m a len cap px py w h hi h4 h5 hT
    · subst h1; exact call_13 g x N m a len cap px py w h hi h4 h5 hT
    · subst h1; exact call_14 g x N m a len cap px py w h hi h4 h5 hT
    · subst h1; exact call_15 g x N m a len cap px py w h hi h4 h5 hT
    · subst h1; exact call_16 g x N m a len cap px py w h hi h4 h5 hT

theorem start_ok (fn : Int) (fm : M6) (n : Int) : SOk (initS fn fm).dat ⟨n, [], Z, Z⟩ := ⟨by simp [initS, S.dat], by simp [initS, S.dat], by simp [initS, S.dat], by simp, ⟨(by decide : (Lit.int .i64 0).wf = true), (by decide : (Lit.int .i64 0).wf = true)⟩⟩
theorem rect_len (px py : Int) (n : Int) : (((St.mk n [] Z Z).move (px, py)).1.line (py, px)).1.l.length ≤ 3 := by
  refine Nat.le_trans (line_len _ _) ?_
  have := move_len (St.mk n [] Z Z) (px, py)
  simp only [List.length_nil] at this
  omega
theorem callM_elim {P : GD × Int → Prop} (v : AV) (d : GD) (h1 : v.D = 1 → P (saveM d)) (h2 : v.D = 2 → P (restM d, 0)) (h3 : v.D = 3 → P (restAllM d, 0)) (h4 : v.D = 4 → P (initM d, 0)) (h5 : v.D = 5 → P (concatM v.m d)) (h6 : v.D = 6 → P (setMatrixM v.m d)) (h7 : v.D = 7 → P (setFontM v.N v.m d)) (h8 : v.D = 8 → P (colorM v.zs d)) (h9 : v.D = 9 → P (dashM v.zs v.N d)) (h10 : v.D = 10 → P (setWidthM v.N d)) (h11 : v.D = 11 → P (setCapM v.N d)) (h12 : v.D = 12 → P (setJoinM v.N d)) (h13 : v.D = 13 → P (setMiterM v.N d)) (h14 : v.D = 14 → P (clipM (v.N.tmod 2 == 0) d)) (h15 : v.D = 15 → P (unclipM d, 0)) (h16 : v.D = 16 → P (rectM v.px v.py d, 0)) (h0 : P (d, 0)) : P (callM v d) := by
  unfold callM
  by_cases e1 : v.D = 1
  · rw [if_pos e1]; exact h1 e1
  rw [if_neg e1]
  by_cases e2 : v.D = 2
  · rw [if_pos e2]; exact h2 e2
  rw [if_neg e2]
  by_cases e3 : v.D = 3
  · rw [if_pos e3]; exact h3 e3
  rw [if_neg e3]
  by_cases e4 : v.D = 4
  · rw [if_pos e4]; exact h4 e4
  rw [if_neg e4]
  by_cases e5 : v.D = 5
  · rw [if_pos e5]; exact h5 e5
  rw [if_neg e5]
  by_cases e6 : v.D = 6
  · rw [if_pos e6]; exact h6 e6
  rw [if_neg e6]
  by_cases e7 : v.D = 7
  · rw [if_pos e7]; exact h7 e7
  rw [if_neg e7]
  by_cases e8 : v.D = 8
  · rw [if_pos e8]; exact h8 e8
  rw [if_neg e8]
  by_cases e9 : v.D = 9
  · rw [if_pos e9]; exact h9 e9
  rw [if_neg e9]
  by_cases e10 : v.D = 10
  · rw [if_pos e10]; exact h10 e10
  rw [if_neg e10]
  by_cases e11 : v.D = 11
  · rw [if_pos e11]; exact h11 e11
  rw [if_neg e11]
  by_cases e12 : v.D = 12
  · rw [if_pos e12]; exact h12 e12
  rw [if_neg e12]
  by_cases e13 : v.D = 13
  · rw [if_pos e13]; exact h13 e13
  rw [if_neg e13]
  by_cases e14 : v.D = 14
  · rw [if_pos e14]; exact h14 e14
  rw [if_neg e14]
  by_cases e15 : v.D = 15
  · rw [if_pos e15]; exact h15 e15
  rw [if_neg e15]
  by_cases e16 : v.D = 16
  · rw [if_pos e16]; exact h16 e16
  rw [if_neg e16]
  exact h0
theorem callM_V {d : GD} {k : Nat} (h : V d k) (v : AV) : V (callM v d).1 (k + 1) := by
  have h0 : V d (k + 1) := h.to (by omega)
  have hc := h.cur
  refine callM_elim (P := fun r => V r.1 (k + 1)) v d ?_ ?_ ?_ ?_ ?_ ?_ ?_ ?_ ?_ ?_ ?_ ?_ ?_ ?_ ?_ ?_ ?_
  · intro hD
    unfold saveM
    split
    · exact h0
    · refine ⟨hc, fun s hs => ?_, by have := h.n; simp; omega⟩
      simp only [List.mem_append, List.mem_singleton] at hs
      rcases hs with hs | rfl
      · exact h.svs s hs
      · exact hc
  · intro hD
    unfold restM
    split
    · exact h0
    · rename_i s hs
      have hm := List.mem_of_getLast? hs
      exact ⟨h.svs s hm, fun s hs => h.svs s ((List.dropLast_sublist _).subset hs), by have := h.n; simp; omega⟩
  · intro hD
    unfold restAllM
    split
    · exact h0
    · rename_i f r hs
      have hf := h.svs f (by rw [hs]; simp)
      exact ⟨hf, fun s hs => by simp only [List.mem_singleton] at hs; subst hs; exact hf, by simp⟩
  · intro hD
    exact ⟨start_ok _ _ _, h0.svs, h0.n⟩
  · intro hD
    unfold concatM
    split
    · split
      · exact h0.set ⟨hc.d, hc.c, hc.p, hc.t, concat_wf _ _⟩
      · exact h0
    · exact h0
  · intro hD
    unfold setMatrixM
    split
    · rename_i hm
      exact h0.set ⟨hc.d, hc.c, hc.p, hc.t, chk_wf hm⟩
    · exact h0
  · intro hD
    unfold setFontM
    split
    · split
      · exact h0.set ⟨hc.d, hc.c, hc.p, hc.t, hc.w⟩
      · exact h0
    · exact h0
  · intro hD
    unfold colorM
    split
    · split
      · exact h0.set ⟨hc.d, hc.c, hc.p, hc.t, hc.w⟩
      · exact h0.set ⟨hc.d, hc.c, hc.p, hc.t, hc.w⟩
      · exact h0.set ⟨hc.d, hc.c, hc.p, hc.t, hc.w⟩
      · exact h0
    · exact h0
  · intro hD
    unfold dashM
    split
    · split
      · exact h0
      · rename_i hl
        split
        · exact h0
        · exact h0.set ⟨by show v.zs.length ≤ 11; omega, hc.c, hc.p, hc.t, hc.w⟩
    · exact h0
  · intro hD
    unfold setWidthM
    split
    · split
      · exact h0
      · exact h0.set ⟨hc.d, hc.c, hc.p, hc.t, hc.w⟩
    · exact h0
  · intro hD
    unfold setCapM
    split
    · exact h0.set ⟨hc.d, hc.c, hc.p, hc.t, hc.w⟩
    · exact h0
  · intro hD
    unfold setJoinM
    split
    · exact h0.set ⟨hc.d, hc.c, hc.p, hc.t, hc.w⟩
    · exact h0
  · intro hD
    unfold setMiterM
    split
    · split
      · exact h0
      · exact h0.set ⟨hc.d, hc.c, hc.p, hc.t, hc.w⟩
    · exact h0
  · intro hD
    unfold clipM
    split
    · exact h0
    · rename_i hl
      split
      · exact h0.set ⟨hc.d, hc.c, hc.p, hc.t, hc.w⟩
      · refine h0.set ⟨hc.d, by show (d.s.cl ++ _).length ≤ 16; simp; omega, fun c hcm => ?_, hc.t, hc.w⟩
        have hcm2 : c ∈ d.s.cl ++ [(d.t.l, (v.N.tmod 2 == 0))] := hcm
        simp only [List.mem_append, List.mem_singleton] at hcm2
        rcases hcm2 with h1 | rfl
        · exact hc.p c h1
        · exact hc.t
  · intro hD
    exact h0.set ⟨hc.d, by show ([] : List _).length ≤ 16; simp, fun c hcm => (by cases hcm), hc.t, hc.w⟩
  · intro hD
    exact ⟨⟨hc.d, hc.c, hc.p, rect_len _ _ _, hc.w⟩, h0.svs, h0.n⟩
  · exact h0
theorem callM_most (d : GD) (v : AV) : (callM v d).1.most = d.most := by
  refine callM_elim (P := fun r => r.1.most = d.most) v d ?_ ?_ ?_ ?_ ?_ ?_ ?_ ?_ ?_ ?_ ?_ ?_ ?_ ?_ ?_ ?_ ?_
  · intro _; (try dsimp only); unfold saveM; (repeat' split) <;> rfl
  · intro _; (try dsimp only); unfold restM; (repeat' split) <;> rfl
  · intro _; (try dsimp only); unfold restAllM; (repeat' split) <;> rfl
  · intro _; (try dsimp only); unfold initM; (repeat' split) <;> rfl
  · intro _; (try dsimp only); unfold concatM; (repeat' split) <;> rfl
  · intro _; (try dsimp only); unfold setMatrixM; (repeat' split) <;> rfl
  · intro _; (try dsimp only); unfold setFontM; (repeat' split) <;> rfl
  · intro _; (try dsimp only); unfold colorM; (repeat' split) <;> rfl
  · intro _; (try dsimp only); unfold dashM; (repeat' split) <;> rfl
  · intro _; (try dsimp only); unfold setWidthM; (repeat' split) <;> rfl
  · intro _; (try dsimp only); unfold setCapM; (repeat' split) <;> rfl
  · intro _; (try dsimp only); unfold setJoinM; (repeat' split) <;> rfl
  · intro _; (try dsimp only); unfold setMiterM; (repeat' split) <;> rfl
  · intro _; (try dsimp only); unfold clipM; (repeat' split) <;> rfl
  · intro _; (try dsimp only); unfold unclipM; (repeat' split) <;> rfl
  · intro _; (try dsimp only); unfold rectM; (repeat' split) <;> rfl
  · rfl
theorem callM_saved (d : GD) (v : AV) (h1 : v.D ≠ 1) (h2 : v.D ≠ 2) (h3 : v.D ≠ 3) : (callM v d).1.saved = d.saved := by
  refine callM_elim (P := fun r => r.1.saved = d.saved) v d (fun h => absurd h h1) (fun h => absurd h h2) (fun h => absurd h h3) ?_ ?_ ?_ ?_ ?_ ?_ ?_ ?_ ?_ ?_ ?_ ?_ ?_ ?_
  · intro _; (try dsimp only); unfold initM; (repeat' split) <;> rfl
  · intro _; (try dsimp only); unfold concatM; (repeat' split) <;> rfl
  · intro _; (try dsimp only); unfold setMatrixM; (repeat' split) <;> rfl
  · intro _; (try dsimp only); unfold setFontM; (repeat' split) <;> rfl
  · intro _; (try dsimp only); unfold colorM; (repeat' split) <;> rfl
  · intro _; (try dsimp only); unfold dashM; (repeat' split) <;> rfl
  · intro _; (try dsimp only); unfold setWidthM; (repeat' split) <;> rfl
  · intro _; (try dsimp only); unfold setCapM; (repeat' split) <;> rfl
  · intro _; (try dsimp only); unfold setJoinM; (repeat' split) <;> rfl
  · intro _; (try dsimp only); unfold setMiterM; (repeat' split) <;> rfl
  · intro _; (try dsimp only); unfold clipM; (repeat' split) <;> rfl
  · intro _; (try dsimp only); unfold unclipM; (repeat' split) <;> rfl
  · intro _; (try dsimp only); unfold rectM; (repeat' split) <;> rfl
  · rfl
end Go.Proofs.YtoflafbhfoncmaaDoor.Gt
end

section
namespace Go.Proofs.YtoflafbhfoncmaaDoor.Gt
open Go.ChangeShapes Go.WideShapes Go.ChangeAt Go.RowKit
open Go.Proofs.YtoflafbhfoncmaaDoor.FixM (fits)
open Go.Proofs.YtoflafbhfoncmaaDoor.MatM (M6)
open Go.Proofs.YtoflafbhfoncmaaDoor.PathM (Seg St Z segCells)
open Go.Proofs.YtoflafbhfoncmaaDoor.Path (own own_mem own_of PathIs Segs)
open Go.Proofs.YtoflafbhfoncmaaDoor.Pt (Clip clipCells Src)
set_option linter.unusedVariables false
set_option linter.unusedSimpArgs false

def dat0 (most segs : Int) : GD := ⟨(initS (-1) Gs.idM).dat, ⟨segs, [], Z, Z⟩, most, segs, []⟩
theorem gnew_X (most segs : Int) (w : World) : Calls Tryd.prog 6 #[.int .i64 most, .int .i64 segs] w fun E w' => ∃ g x, E = .returned (.pointer (some ⟨g, 0, none⟩)) ∧ G w' g x ∧ x.dat = dat0 most segs ∧ (∀ b ∈ x.bl g, w.heap.size ≤ b) ∧ Up w w' := by
  refine (Gs.gnew_calls most segs w).mono ?_
  rintro E w' ⟨b, p, rfl, hb, hp, hpb, hr, hq, hu⟩
  have hbl : (⟨⟨initS (-1) Gs.idM, p, .slice none 0 0, ⟨segs, [], Z, Z⟩⟩, most, segs, .slice none 0 0, []⟩ : X).bl b = [b, p] := rfl
  refine ⟨b, ⟨⟨initS (-1) Gs.idM, p, .slice none 0 0, ⟨segs, [], Z, Z⟩⟩, most, segs, .slice none 0 0, []⟩, rfl, ⟨hr, ⟨initS_o _ _ _, hq, ?_⟩, World.ownsRow_nil _ _ _ _, (fun l hl => by cases hl), ?_⟩, rfl, fun c hc => ?_, hu⟩
  · show [p].Nodup
    simp
  · rw [hbl]
    simp [Ne.symm hpb]
  · rw [hbl] at hc
    simp only [List.mem_cons, List.not_mem_nil, or_false] at hc
    rcases hc with rfl | rfl
    · exact hb
    · exact hp
theorem depth_X (g : Nat) (x : X) (n : Nat) (hn : x.dat.saved.length = n) (w : World) (h : G w g x) : Calls Tryd.prog 12 #[.pointer (some ⟨g, 0, none⟩)] w fun E w' => E = .returned (.int .i64 n) ∧ w = w' := by
  obtain ⟨so, sc, hsv⟩ := sv_form h
  have e : x.saved.length = n := by rw [← hn]; simp [X.dat]
  rw [e] at hsv
  exact Gs.depth_calls g so n sc w (by rw [← hsv]; exact h.row.cell 29 rfl)
theorem call_Xc (g : Nat) (x : X) (D N : Int) (m : M6) (a : Option Addr) (len cap : Nat) (zs : List Int) (px py : Int) (k : Nat) (e : Int) (w : World) (h : G w g x) (hv : V x.dat k) (hk : k ≤ 1000) (hT : Font.Tab w) (ha : AV.ok w ⟨D, N, m, a, len, cap, zs, px, py⟩) (hl : len ≤ 100) (he : (callM ⟨D, N, m, a, len, cap, zs, px, py⟩ x.dat).2 = e) : Calls Tryd.prog 8 #[.pointer (some ⟨g, 0, none⟩), .agg #[.int .i64 D, .int .i64 N, .int .i64 m.a, .int .i64 m.b, .int .i64 m.c, .int .i64 m.d, .int .i64 m.x, .int .i64 m.y, .slice a len cap, .int .i64 px, .int .i64 py]] w fun E w' => E = .returned (.int .i64 e) ∧ ∃ y, To w w' g x y ∧ y.dat = (callM ⟨D, N, m, a, len, cap, zs, px, py⟩ x.dat).1 := by
  refine (call_X g x ⟨D, N, m, a, len, cap, zs, px, py⟩ k w h hv hk hT ha hl).mono ?_
  rintro E w' ⟨y, rfl, h1, h2⟩
  exact ⟨by rw [he], y, h1, h2⟩
theorem infoAct : (Tryd.prog.info? 31).map (·.size) = some 11 := by kernel_rfl
theorem tab_up {w w1 : World} (h : Font.Tab w) (hu : Up w w1) : Font.Tab w1 := h.up hu
/-- one act's cells, wherever later -/
theorem act_cells {w w1 : World} {g o k : Nat} {l : List AV} {v : AV} (hg : g < w.heap.size) (hc : ∀ (i : Nat) (s : AV) (j : Nat) (u : Value), l[i]? = some s → (AV.cells s)[j]? = some u → w.cell? ⟨g, o + i * 11 + j, none⟩ = some u) (hu : Up w w1) (hk : l[k]? = some v) : w1.rangeAt g (o + k * 11) v.cells := fun j u hj => (hu.cells.1 g _ hg).trans (hc k v j u hk hj)

/-- states that began after w: what the first loop keeps -/
structure At (w wr : World) (g : Nat) (x : X) (k : Nat) : Prop where
  up : Up w wr
  gg : G wr g x
  new : ∀ b ∈ x.bl g, w.heap.size ≤ b
  v : V x.dat k
  most : x.dat.most = 100
theorem To.after {w w1 w2 : World} {g : Nat} {x y : X} (hu : Up w w1) (hn : ∀ b ∈ x.bl g, w.heap.size ≤ b) (h : To w1 w2 g x y) : Up w w2 ∧ ∀ b ∈ y.bl g, w.heap.size ≤ b :=
  ⟨((Chg.of_up (S := []) hu).call h.2.1 (fun b hb => Or.inr (hn b hb))).up, fun b hb => (h.2.2 b hb).elim (hn b) (fun h1 => Nat.le_trans hu.size h1)⟩
theorem At.to {w w1 w2 : World} {g : Nat} {x y : X} {k : Nat} {v : AV} (h : At w w1 g x k) (ht : To w1 w2 g x y) (hd : y.dat = (callM v x.dat).1) : At w w2 g y (k + 1) := by
  obtain ⟨a1, a2⟩ := To.after h.up h.new ht
  exact ⟨a1, ht.g, a2, by rw [hd]; exact callM_V h.v v, by rw [hd, callM_most]; exact h.most⟩
theorem At.skip {w w1 w2 : World} {g : Nat} {x : X} {k : Nat} (h : At w w1 g x k) (hu : Up w1 w2) : At w w2 g x (k + 1) := ⟨h.up.call hu, h.gg.up hu, h.new, h.v.to (by omega), h.most⟩

/-- how far the states are above what they were: q levels -/
def Down (d0 d : GD) (q : Nat) : Prop := match q with
  | 0 => d.s = d0.s ∧ d.t = d0.t ∧ d.saved = d0.saved
  | m + 1 => ∃ more, more.length = m ∧ d.saved = d0.saved ++ (d0.s, d0.t) :: more
theorem Down.first {d : GD} (h : (saveM d).2 = 0) : Down d (saveM d).1 1 := by
  unfold saveM at h ⊢
  split at h
  · cases h
  · rename_i h1
    rw [if_neg h1]
    exact ⟨[], rfl, rfl⟩
theorem Down.save {d0 d : GD} {q : Nat} (h : Down d0 d q) (hq : 1 ≤ q) (he : (saveM d).2 = 0) : Down d0 (saveM d).1 (q + 1) := by
  obtain ⟨m, rfl⟩ : ∃ m, q = m + 1 := ⟨q - 1, by omega⟩
  obtain ⟨more, h1, h2⟩ := h
  unfold saveM at he ⊢
  split at he
  · cases he
  · rename_i h3
    rw [if_neg h3]
    refine ⟨more ++ [(d.s, d.t)], by simp [h1], ?_⟩
    show d.saved ++ [(d.s, d.t)] = _
    rw [h2]
    simp
theorem Down.stay {d0 d : GD} {q : Nat} (h : Down d0 d q) (he : (saveM d).2 ≠ 0) : Down d0 (saveM d).1 q := by
  unfold saveM at he ⊢
  split at he
  · rename_i h1
    rw [if_pos h1]
    exact h
  · exact absurd rfl he
theorem Down.rest {d0 d : GD} {q : Nat} (h : Down d0 d (q + 1)) : Down d0 (restM d) q := by
  obtain ⟨more, h1, h2⟩ := h
  rcases List.eq_nil_or_concat more with rfl | ⟨init, last, rfl⟩
  · obtain rfl : q = 0 := by simp at h1; exact h1.symm
    unfold restM
    rw [h2, List.getLast?_concat]
    exact ⟨rfl, rfl, by simp⟩
  · obtain ⟨m, rfl⟩ : ∃ m, q = m + 1 := ⟨init.length, by simp at h1; omega⟩
    have e : d.saved = (d0.saved ++ (d0.s, d0.t) :: init) ++ [last] := by rw [h2]; simp
    unfold restM
    rw [e, List.getLast?_concat]
    refine ⟨init, by simp at h1; omega, ?_⟩
    show ((d0.saved ++ (d0.s, d0.t) :: init) ++ [last]).dropLast = _
    rw [List.dropLast_concat]
theorem Down.other {d0 d : GD} {q : Nat} (h : Down d0 d q) (hq : 1 ≤ q) (v : AV) (h1 : v.D ≠ 1) (h2 : v.D ≠ 2) (h3 : v.D ≠ 3) : Down d0 (callM v d).1 q := by
  obtain ⟨m, rfl⟩ : ∃ m, q = m + 1 := ⟨q - 1, by omega⟩
  obtain ⟨more, h4, h5⟩ := h
  exact ⟨more, h4, by rw [callM_saved d v h1 h2 h3]; exact h5⟩
theorem callM_one {v : AV} (h : v.D = 1) (d : GD) : callM v d = saveM d := by unfold callM; rw [if_pos h]
theorem callM_two {v : AV} (h : v.D = 2) (d : GD) : callM v d = (restM d, 0) := by unfold callM; rw [if_neg (by omega), if_pos h]
theorem save_zero {d : GD} {k : Nat} (h : V d k) (hk : k < 100) (hm : d.most = 100) : (saveM d).2 = 0 := by
  unfold saveM
  rw [if_neg (by have := h.n; omega)]
theorem saveM_V {d : GD} {k : Nat} (h : V d k) : V (saveM d).1 (k + 1) := by
  have := callM_V h ⟨1, 0, ⟨0, 0, 0, 0, 0, 0⟩, none, 0, 0, [], 0, 0⟩
  rwa [callM_one rfl] at this
theorem restM_V {d : GD} {k : Nat} (h : V d k) : V (restM d) k := by
  refine ?_
  unfold restM
  split
  · exact h
  · rename_i s hs
    have hm := List.mem_of_getLast? hs
    exact ⟨h.svs s hm, fun s hs => h.svs s ((List.dropLast_sublist _).subset hs), by have := h.n; simp; omega⟩
/-- the second loop: what lies behind the first states, q levels up -/
structure Bt (wB wr : World) (g : Nat) (x y : X) (q k : Nat) : Prop where
  tt : To wB wr g x y
  v : V y.dat k
  dn : Down x.dat y.dat q
theorem Bt.skip {wB wr w2 : World} {g : Nat} {x y : X} {q k : Nat} (h : Bt wB wr g x y q k) (hu : Up wr w2) : Bt wB w2 g x y q (k + 1) := ⟨h.tt.trans (To.up h.tt.g hu), h.v.to (by omega), h.dn⟩
theorem Bt.up {wB wr w2 : World} {g : Nat} {x y : X} {q k : Nat} (h : Bt wB wr g x y q k) (hu : Up wr w2) : Bt wB w2 g x y q k := ⟨h.tt.trans (To.up h.tt.g hu), h.v, h.dn⟩
theorem Bt.call {wB wr w2 : World} {g : Nat} {x y z : X} {q k j : Nat} {v : AV} (h : Bt wB wr g x y q k) (ht : To wr w2 g y z) (hd : z.dat = (callM v y.dat).1) (hn : Down x.dat (callM v y.dat).1 j) : Bt wB w2 g x z j (k + 1) :=
  ⟨h.tt.trans ht, by rw [hd]; exact callM_V h.v v, by rw [hd]; exact hn⟩
theorem Bt.rest {wB wr w2 : World} {g : Nat} {x y z : X} {q k : Nat} (h : Bt wB wr g x y (q + 1) k) (ht : To wr w2 g y z) (hd : z.dat = restM y.dat) : Bt wB w2 g x z q k :=
  ⟨h.tt.trans ht, by rw [hd]; exact restM_V h.v, by rw [hd]; exact h.dn.rest⟩

end Go.Proofs.YtoflafbhfoncmaaDoor.Gt
end
