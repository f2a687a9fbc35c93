/- ArithDoes: for every input the law returns true. Its card lists a package-level variable. No other condition. -/
import Derived.Test.YtakickodehebmaaDoorArP
import Derived.Lib.LaidTab
import Derived.Deep.DeepHandedRow
import Derived.Test.YtakickodehebmaaDoorTie
import Derived.Test.YtakickodehebmaaDoorCards
import Derived.Test.YtakickodehebmaaDoorArgs
import Derived.Deep.QuietTactic
import Derived.Deep.Cut
import Derived.Test.YtakickodehebmaaDoorArDoA
import Derived.Test.YtakickodehebmaaDoorArDoB
import Derived.Test.YtakickodehebmaaDoorArRY
import Derived.Test.YtakickodehebmaaDoorArRZ
namespace Go.Proofs.YtakickodehebmaaDoor.arithDoes
open Go.ChangeShapes Go.WideShapes Go.ChangeAt Go.RowKit
open Go.Proofs.YtakickodehebmaaDoor.FixM (fits within)
open Go.Proofs.YtakickodehebmaaDoor.ArM
open Go.Proofs.YtakickodehebmaaDoor.Ar
set_option linter.unusedVariables false
set_option linter.unusedSimpArgs false

open Go.Proofs.YtakickodehebmaaDoor.Turn Go.Proofs.YtakickodehebmaaDoor.TurnM
open Go.ChangeMaps (open_string shut_string)
theorem gT : Tryd.prog.globalNamed "mezzotint/mat.sines" = some 0 := by kernel_rfl
theorem gTy : (Tryd.prog.globals[0]?).map (·.type) = some 85 := by kernel_rfl
theorem cE : Tryd.prog.cellsOf 3 = 1 := by kernel_rfl
theorem cT : Tryd.prog.cellsOf 85 = 91 := by kernel_rfl
def zs : List Int := sines.map fun n : Nat => (n : Int)
theorem table {W : World} (h : laidMetH Tryd.prog [("mezzotint/mat.sines", Rows.laid_mezzotint_mat_sines)] W) : Tab W := by
  have h' : laidMet Tryd.prog [("mezzotint/mat.sines", Lib.tabData .i64 zs)] W := h
  have t := Lib.tabIs_of_head gT gTy Tryd.underlying85 Tryd.underlying3 cE cT h'
  have hc : ∀ i, i < 91 → W.cell? ⟨0, i, none⟩ = some (.int .i64 (sineAt i)) := by
    intro i hi
    have hl : zs.length = 91 := by decide
    have := t.cell gT i (by omega)
    rw [this]
    have hl2 : i < sines.length := by have : sines.length = 91 := by decide
                                      omega
    simp [zs, sineAt, List.getD, hl2]
  refine ⟨?_, hc⟩
  have h0 := hc 0 (by decide)
  simp only [World.cell?] at h0
  rcases Nat.lt_or_ge 0 W.heap.size with hlt | hge
  · exact hlt
  · rw [Array.getElem?_eq_none hge] at h0
    simp at h0


theorem name_0 (a : Option Addr) (len cap : Nat) (L : List ObjL) {w : World} (g : Sl 8 ObjL.cells w a len cap L) (hT : Turn.Tab w) :
    Calls Tryd.prog 3 #[.string ⟨#[110, 101, 103]⟩, .slice a len cap] w fun e w' => e = .returned (.bool true) ∧ Up w w' := by
  by_cases h100 : len ≤ 100
  · by_cases hN : len = 1
    · subst hN
      obtain ⟨b, o, rfl, hb, -⟩ := g.2.2.2.2 (by decide)
      have hlen := g.2.2.1
      match L, hlen with
      | [⟨k, x, a, n, s, r, f, l⟩], _ =>
        obtain ⟨rk, rn, re, hR⟩ : ∃ rk rn re, un 0 k n = (rk, rn, re) := ⟨_, _, _, rfl⟩
        have hD := fun (W : World) (g c : Nat) (hT : Turn.Tab W) (R : Cs W g (List.flatMap ObjL.cells [⟨k, x, a, n, s, r, f, l⟩]).toArray) (hg : g < W.heap.size) => do_0 k x a n s r f l g c W R hg rk rn re hR
        have hA := fun (W : World) (g c : Nat) (R : Cs W g (List.flatMap vcells [⟨k, x, a, n, s, r, f, l⟩]).toArray) (hg : g < W.heap.size) => arith_0 k x a n s g c W R hg rk rn re hR
        by_cases z : re = 0
        · subst z
          exact law_ok0 _ (by decide) _ 1 rfl (by decide) (by decide) b o cap g hb hT (fun W => known_0 W) (fun W => count_0 W) rk rn hD hA
        · exact law_ok1 _ (by decide) _ 1 rfl (by decide) (by decide) b o cap g hb hT (fun W => known_0 W) (fun W => count_0 W) rk rn re z hD hA
    · exact law_bad _ (by decide) L 1 true a len cap h100 g rfl (.inr ⟨rfl, rfl, by simp; omega⟩) (fun W => known_0 W) (fun W => count_0 W)
  · exact law_big _ 1 true a len cap g.2.1 g.1 (.inr (by omega)) (fun W => known_0 W)

theorem name_1 (a : Option Addr) (len cap : Nat) (L : List ObjL) {w : World} (g : Sl 8 ObjL.cells w a len cap L) (hT : Turn.Tab w) :
    Calls Tryd.prog 3 #[.string ⟨#[97, 98, 115]⟩, .slice a len cap] w fun e w' => e = .returned (.bool true) ∧ Up w w' := by
  by_cases h100 : len ≤ 100
  · by_cases hN : len = 1
    · subst hN
      obtain ⟨b, o, rfl, hb, -⟩ := g.2.2.2.2 (by decide)
      have hlen := g.2.2.1
      match L, hlen with
      | [⟨k, x, a, n, s, r, f, l⟩], _ =>
        obtain ⟨rk, rn, re, hR⟩ : ∃ rk rn re, un 1 k n = (rk, rn, re) := ⟨_, _, _, rfl⟩
        have hD := fun (W : World) (g c : Nat) (hT : Turn.Tab W) (R : Cs W g (List.flatMap ObjL.cells [⟨k, x, a, n, s, r, f, l⟩]).toArray) (hg : g < W.heap.size) => do_1 k x a n s r f l g c W R hg rk rn re hR
        have hA := fun (W : World) (g c : Nat) (R : Cs W g (List.flatMap vcells [⟨k, x, a, n, s, r, f, l⟩]).toArray) (hg : g < W.heap.size) => arith_1 k x a n s g c W R hg rk rn re hR
        by_cases z : re = 0
        · subst z
          exact law_ok0 _ (by decide) _ 1 rfl (by decide) (by decide) b o cap g hb hT (fun W => known_1 W) (fun W => count_1 W) rk rn hD hA
        · exact law_ok1 _ (by decide) _ 1 rfl (by decide) (by decide) b o cap g hb hT (fun W => known_1 W) (fun W => count_1 W) rk rn re z hD hA
    · exact law_bad _ (by decide) L 1 true a len cap h100 g rfl (.inr ⟨rfl, rfl, by simp; omega⟩) (fun W => known_1 W) (fun W => count_1 W)
  · exact law_big _ 1 true a len cap g.2.1 g.1 (.inr (by omega)) (fun W => known_1 W)

theorem name_2 (a : Option Addr) (len cap : Nat) (L : List ObjL) {w : World} (g : Sl 8 ObjL.cells w a len cap L) (hT : Turn.Tab w) :
    Calls Tryd.prog 3 #[.string ⟨#[99, 101, 105, 108, 105, 110, 103]⟩, .slice a len cap] w fun e w' => e = .returned (.bool true) ∧ Up w w' := by
  by_cases h100 : len ≤ 100
  · by_cases hN : len = 1
    · subst hN
      obtain ⟨b, o, rfl, hb, -⟩ := g.2.2.2.2 (by decide)
      have hlen := g.2.2.1
      match L, hlen with
      | [⟨k, x, a, n, s, r, f, l⟩], _ =>
        obtain ⟨rk, rn, re, hR⟩ : ∃ rk rn re, un 2 k n = (rk, rn, re) := ⟨_, _, _, rfl⟩
        have hD := fun (W : World) (g c : Nat) (hT : Turn.Tab W) (R : Cs W g (List.flatMap ObjL.cells [⟨k, x, a, n, s, r, f, l⟩]).toArray) (hg : g < W.heap.size) => do_2 k x a n s r f l g c W R hg rk rn re hR
        have hA := fun (W : World) (g c : Nat) (R : Cs W g (List.flatMap vcells [⟨k, x, a, n, s, r, f, l⟩]).toArray) (hg : g < W.heap.size) => arith_2 k x a n s g c W R hg rk rn re hR
        by_cases z : re = 0
        · subst z
          exact law_ok0 _ (by decide) _ 1 rfl (by decide) (by decide) b o cap g hb hT (fun W => known_2 W) (fun W => count_2 W) rk rn hD hA
        · exact law_ok1 _ (by decide) _ 1 rfl (by decide) (by decide) b o cap g hb hT (fun W => known_2 W) (fun W => count_2 W) rk rn re z hD hA
    · exact law_bad _ (by decide) L 1 true a len cap h100 g rfl (.inr ⟨rfl, rfl, by simp; omega⟩) (fun W => known_2 W) (fun W => count_2 W)
  · exact law_big _ 1 true a len cap g.2.1 g.1 (.inr (by omega)) (fun W => known_2 W)

theorem name_3 (a : Option Addr) (len cap : Nat) (L : List ObjL) {w : World} (g : Sl 8 ObjL.cells w a len cap L) (hT : Turn.Tab w) :
    Calls Tryd.prog 3 #[.string ⟨#[102, 108, 111, 111, 114]⟩, .slice a len cap] w fun e w' => e = .returned (.bool true) ∧ Up w w' := by
  by_cases h100 : len ≤ 100
  · by_cases hN : len = 1
    · subst hN
      obtain ⟨b, o, rfl, hb, -⟩ := g.2.2.2.2 (by decide)
      have hlen := g.2.2.1
      match L, hlen with
      | [⟨k, x, a, n, s, r, f, l⟩], _ =>
        obtain ⟨rk, rn, re, hR⟩ : ∃ rk rn re, un 3 k n = (rk, rn, re) := ⟨_, _, _, rfl⟩
        have hD := fun (W : World) (g c : Nat) (hT : Turn.Tab W) (R : Cs W g (List.flatMap ObjL.cells [⟨k, x, a, n, s, r, f, l⟩]).toArray) (hg : g < W.heap.size) => do_3 k x a n s r f l g c W R hg rk rn re hR
        have hA := fun (W : World) (g c : Nat) (R : Cs W g (List.flatMap vcells [⟨k, x, a, n, s, r, f, l⟩]).toArray) (hg : g < W.heap.size) => arith_3 k x a n s g c W R hg rk rn re hR
        by_cases z : re = 0
        · subst z
          exact law_ok0 _ (by decide) _ 1 rfl (by decide) (by decide) b o cap g hb hT (fun W => known_3 W) (fun W => count_3 W) rk rn hD hA
        · exact law_ok1 _ (by decide) _ 1 rfl (by decide) (by decide) b o cap g hb hT (fun W => known_3 W) (fun W => count_3 W) rk rn re z hD hA
    · exact law_bad _ (by decide) L 1 true a len cap h100 g rfl (.inr ⟨rfl, rfl, by simp; omega⟩) (fun W => known_3 W) (fun W => count_3 W)
  · exact law_big _ 1 true a len cap g.2.1 g.1 (.inr (by omega)) (fun W => known_3 W)

theorem name_4 (a : Option Addr) (len cap : Nat) (L : List ObjL) {w : World} (g : Sl 8 ObjL.cells w a len cap L) (hT : Turn.Tab w) :
    Calls Tryd.prog 3 #[.string ⟨#[114, 111, 117, 110, 100]⟩, .slice a len cap] w fun e w' => e = .returned (.bool true) ∧ Up w w' := by
  by_cases h100 : len ≤ 100
  · by_cases hN : len = 1
    · subst hN
      obtain ⟨b, o, rfl, hb, -⟩ := g.2.2.2.2 (by decide)
      have hlen := g.2.2.1
      match L, hlen with
      | [⟨k, x, a, n, s, r, f, l⟩], _ =>
        obtain ⟨rk, rn, re, hR⟩ : ∃ rk rn re, un 4 k n = (rk, rn, re) := ⟨_, _, _, rfl⟩
        have hD := fun (W : World) (g c : Nat) (hT : Turn.Tab W) (R : Cs W g (List.flatMap ObjL.cells [⟨k, x, a, n, s, r, f, l⟩]).toArray) (hg : g < W.heap.size) => do_4 k x a n s r f l g c W R hg rk rn re hR
        have hA := fun (W : World) (g c : Nat) (R : Cs W g (List.flatMap vcells [⟨k, x, a, n, s, r, f, l⟩]).toArray) (hg : g < W.heap.size) => arith_4 k x a n s g c W R hg rk rn re hR
        by_cases z : re = 0
        · subst z
          exact law_ok0 _ (by decide) _ 1 rfl (by decide) (by decide) b o cap g hb hT (fun W => known_4 W) (fun W => count_4 W) rk rn hD hA
        · exact law_ok1 _ (by decide) _ 1 rfl (by decide) (by decide) b o cap g hb hT (fun W => known_4 W) (fun W => count_4 W) rk rn re z hD hA
    · exact law_bad _ (by decide) L 1 true a len cap h100 g rfl (.inr ⟨rfl, rfl, by simp; omega⟩) (fun W => known_4 W) (fun W => count_4 W)
  · exact law_big _ 1 true a len cap g.2.1 g.1 (.inr (by omega)) (fun W => known_4 W)

theorem name_5 (a : Option Addr) (len cap : Nat) (L : List ObjL) {w : World} (g : Sl 8 ObjL.cells w a len cap L) (hT : Turn.Tab w) :
    Calls Tryd.prog 3 #[.string ⟨#[116, 114, 117, 110, 99, 97, 116, 101]⟩, .slice a len cap] w fun e w' => e = .returned (.bool true) ∧ Up w w' := by
  by_cases h100 : len ≤ 100
  · by_cases hN : len = 1
    · subst hN
      obtain ⟨b, o, rfl, hb, -⟩ := g.2.2.2.2 (by decide)
      have hlen := g.2.2.1
      match L, hlen with
      | [⟨k, x, a, n, s, r, f, l⟩], _ =>
        obtain ⟨rk, rn, re, hR⟩ : ∃ rk rn re, un 5 k n = (rk, rn, re) := ⟨_, _, _, rfl⟩
        have hD := fun (W : World) (g c : Nat) (hT : Turn.Tab W) (R : Cs W g (List.flatMap ObjL.cells [⟨k, x, a, n, s, r, f, l⟩]).toArray) (hg : g < W.heap.size) => do_5 k x a n s r f l g c W R hg rk rn re hR
        have hA := fun (W : World) (g c : Nat) (R : Cs W g (List.flatMap vcells [⟨k, x, a, n, s, r, f, l⟩]).toArray) (hg : g < W.heap.size) => arith_5 k x a n s g c W R hg rk rn re hR
        by_cases z : re = 0
        · subst z
          exact law_ok0 _ (by decide) _ 1 rfl (by decide) (by decide) b o cap g hb hT (fun W => known_5 W) (fun W => count_5 W) rk rn hD hA
        · exact law_ok1 _ (by decide) _ 1 rfl (by decide) (by decide) b o cap g hb hT (fun W => known_5 W) (fun W => count_5 W) rk rn re z hD hA
    · exact law_bad _ (by decide) L 1 true a len cap h100 g rfl (.inr ⟨rfl, rfl, by simp; omega⟩) (fun W => known_5 W) (fun W => count_5 W)
  · exact law_big _ 1 true a len cap g.2.1 g.1 (.inr (by omega)) (fun W => known_5 W)

theorem name_6 (a : Option Addr) (len cap : Nat) (L : List ObjL) {w : World} (g : Sl 8 ObjL.cells w a len cap L) (hT : Turn.Tab w) :
    Calls Tryd.prog 3 #[.string ⟨#[115, 113, 114, 116]⟩, .slice a len cap] w fun e w' => e = .returned (.bool true) ∧ Up w w' := by
  by_cases h100 : len ≤ 100
  · by_cases hN : len = 1
    · subst hN
      obtain ⟨b, o, rfl, hb, -⟩ := g.2.2.2.2 (by decide)
      have hlen := g.2.2.1
      match L, hlen with
      | [⟨k, x, a, n, s, r, f, l⟩], _ =>
        obtain ⟨rk, rn, re, hR⟩ : ∃ rk rn re, un 6 k n = (rk, rn, re) := ⟨_, _, _, rfl⟩
        have hD := fun (W : World) (g c : Nat) (hT : Turn.Tab W) (R : Cs W g (List.flatMap ObjL.cells [⟨k, x, a, n, s, r, f, l⟩]).toArray) (hg : g < W.heap.size) => do_6 k x a n s r f l g c W hT R hg rk rn re hR
        have hA := fun (W : World) (g c : Nat) (R : Cs W g (List.flatMap vcells [⟨k, x, a, n, s, r, f, l⟩]).toArray) (hg : g < W.heap.size) => arith_6 k x a n s g c W R hg rk rn re hR
        by_cases z : re = 0
        · subst z
          exact law_ok0 _ (by decide) _ 1 rfl (by decide) (by decide) b o cap g hb hT (fun W => known_6 W) (fun W => count_6 W) rk rn hD hA
        · exact law_ok1 _ (by decide) _ 1 rfl (by decide) (by decide) b o cap g hb hT (fun W => known_6 W) (fun W => count_6 W) rk rn re z hD hA
    · exact law_bad _ (by decide) L 1 true a len cap h100 g rfl (.inr ⟨rfl, rfl, by simp; omega⟩) (fun W => known_6 W) (fun W => count_6 W)
  · exact law_big _ 1 true a len cap g.2.1 g.1 (.inr (by omega)) (fun W => known_6 W)

theorem name_7 (a : Option Addr) (len cap : Nat) (L : List ObjL) {w : World} (g : Sl 8 ObjL.cells w a len cap L) (hT : Turn.Tab w) :
    Calls Tryd.prog 3 #[.string ⟨#[115, 105, 110]⟩, .slice a len cap] w fun e w' => e = .returned (.bool true) ∧ Up w w' := by
  by_cases h100 : len ≤ 100
  · by_cases hN : len = 1
    · subst hN
      obtain ⟨b, o, rfl, hb, -⟩ := g.2.2.2.2 (by decide)
      have hlen := g.2.2.1
      match L, hlen with
      | [⟨k, x, a, n, s, r, f, l⟩], _ =>
        obtain ⟨rk, rn, re, hR⟩ : ∃ rk rn re, un 7 k n = (rk, rn, re) := ⟨_, _, _, rfl⟩
        have hD := fun (W : World) (g c : Nat) (hT : Turn.Tab W) (R : Cs W g (List.flatMap ObjL.cells [⟨k, x, a, n, s, r, f, l⟩]).toArray) (hg : g < W.heap.size) => do_7 k x a n s r f l g c W hT R hg rk rn re hR
        have hA := fun (W : World) (g c : Nat) (R : Cs W g (List.flatMap vcells [⟨k, x, a, n, s, r, f, l⟩]).toArray) (hg : g < W.heap.size) => arith_7 k x a n s g c W R hg rk rn re hR
        by_cases z : re = 0
        · subst z
          exact law_ok0 _ (by decide) _ 1 rfl (by decide) (by decide) b o cap g hb hT (fun W => known_7 W) (fun W => count_7 W) rk rn hD hA
        · exact law_ok1 _ (by decide) _ 1 rfl (by decide) (by decide) b o cap g hb hT (fun W => known_7 W) (fun W => count_7 W) rk rn re z hD hA
    · exact law_bad _ (by decide) L 1 true a len cap h100 g rfl (.inr ⟨rfl, rfl, by simp; omega⟩) (fun W => known_7 W) (fun W => count_7 W)
  · exact law_big _ 1 true a len cap g.2.1 g.1 (.inr (by omega)) (fun W => known_7 W)

theorem name_8 (a : Option Addr) (len cap : Nat) (L : List ObjL) {w : World} (g : Sl 8 ObjL.cells w a len cap L) (hT : Turn.Tab w) :
    Calls Tryd.prog 3 #[.string ⟨#[99, 111, 115]⟩, .slice a len cap] w fun e w' => e = .returned (.bool true) ∧ Up w w' := by
  by_cases h100 : len ≤ 100
  · by_cases hN : len = 1
    · subst hN
      obtain ⟨b, o, rfl, hb, -⟩ := g.2.2.2.2 (by decide)
      have hlen := g.2.2.1
      match L, hlen with
      | [⟨k, x, a, n, s, r, f, l⟩], _ =>
        obtain ⟨rk, rn, re, hR⟩ : ∃ rk rn re, un 8 k n = (rk, rn, re) := ⟨_, _, _, rfl⟩
        have hD := fun (W : World) (g c : Nat) (hT : Turn.Tab W) (R : Cs W g (List.flatMap ObjL.cells [⟨k, x, a, n, s, r, f, l⟩]).toArray) (hg : g < W.heap.size) => do_8 k x a n s r f l g c W hT R hg rk rn re hR
        have hA := fun (W : World) (g c : Nat) (R : Cs W g (List.flatMap vcells [⟨k, x, a, n, s, r, f, l⟩]).toArray) (hg : g < W.heap.size) => arith_8 k x a n s g c W R hg rk rn re hR
        by_cases z : re = 0
        · subst z
          exact law_ok0 _ (by decide) _ 1 rfl (by decide) (by decide) b o cap g hb hT (fun W => known_8 W) (fun W => count_8 W) rk rn hD hA
        · exact law_ok1 _ (by decide) _ 1 rfl (by decide) (by decide) b o cap g hb hT (fun W => known_8 W) (fun W => count_8 W) rk rn re z hD hA
    · exact law_bad _ (by decide) L 1 true a len cap h100 g rfl (.inr ⟨rfl, rfl, by simp; omega⟩) (fun W => known_8 W) (fun W => count_8 W)
  · exact law_big _ 1 true a len cap g.2.1 g.1 (.inr (by omega)) (fun W => known_8 W)

theorem name_9 (a : Option Addr) (len cap : Nat) (L : List ObjL) {w : World} (g : Sl 8 ObjL.cells w a len cap L) (hT : Turn.Tab w) :
    Calls Tryd.prog 3 #[.string ⟨#[110, 111, 116]⟩, .slice a len cap] w fun e w' => e = .returned (.bool true) ∧ Up w w' := by
  by_cases h100 : len ≤ 100
  · by_cases hN : len = 1
    · subst hN
      obtain ⟨b, o, rfl, hb, -⟩ := g.2.2.2.2 (by decide)
      have hlen := g.2.2.1
      match L, hlen with
      | [⟨k, x, a, n, s, r, f, l⟩], _ =>
        obtain ⟨rk, rn, re, hR⟩ : ∃ rk rn re, un 9 k n = (rk, rn, re) := ⟨_, _, _, rfl⟩
        have hD := fun (W : World) (g c : Nat) (hT : Turn.Tab W) (R : Cs W g (List.flatMap ObjL.cells [⟨k, x, a, n, s, r, f, l⟩]).toArray) (hg : g < W.heap.size) => do_9 k x a n s r f l g c W R hg rk rn re hR
        have hA := fun (W : World) (g c : Nat) (R : Cs W g (List.flatMap vcells [⟨k, x, a, n, s, r, f, l⟩]).toArray) (hg : g < W.heap.size) => arith_9 k x a n s g c W R hg rk rn re hR
        by_cases z : re = 0
        · subst z
          exact law_ok0 _ (by decide) _ 1 rfl (by decide) (by decide) b o cap g hb hT (fun W => known_9 W) (fun W => count_9 W) rk rn hD hA
        · exact law_ok1 _ (by decide) _ 1 rfl (by decide) (by decide) b o cap g hb hT (fun W => known_9 W) (fun W => count_9 W) rk rn re z hD hA
    · exact law_bad _ (by decide) L 1 true a len cap h100 g rfl (.inr ⟨rfl, rfl, by simp; omega⟩) (fun W => known_9 W) (fun W => count_9 W)
  · exact law_big _ 1 true a len cap g.2.1 g.1 (.inr (by omega)) (fun W => known_9 W)

theorem name_10 (a : Option Addr) (len cap : Nat) (L : List ObjL) {w : World} (g : Sl 8 ObjL.cells w a len cap L) (hT : Turn.Tab w) :
    Calls Tryd.prog 3 #[.string ⟨#[97, 100, 100]⟩, .slice a len cap] w fun e w' => e = .returned (.bool true) ∧ Up w w' := by
  by_cases h100 : len ≤ 100
  · by_cases hN : len = 2
    · subst hN
      obtain ⟨b, o, rfl, hb, -⟩ := g.2.2.2.2 (by decide)
      have hlen := g.2.2.1
      match L, hlen with
      | [⟨k, x, a, n, s, r, f, l⟩, ⟨k', x', a', n', s', r', f', l'⟩], _ =>
        obtain ⟨rk, rn, re, hR⟩ : ∃ rk rn re, bin 10 k n k' n' = (rk, rn, re) := ⟨_, _, _, rfl⟩
        have hD := fun (W : World) (g c : Nat) (hT : Turn.Tab W) (R : Cs W g (List.flatMap ObjL.cells [⟨k, x, a, n, s, r, f, l⟩, ⟨k', x', a', n', s', r', f', l'⟩]).toArray) (hg : g < W.heap.size) => do_10 k x a n s r f l k' x' a' n' s' r' f' l' g c W R hg rk rn re hR
        have hA := fun (W : World) (g c : Nat) (R : Cs W g (List.flatMap vcells [⟨k, x, a, n, s, r, f, l⟩, ⟨k', x', a', n', s', r', f', l'⟩]).toArray) (hg : g < W.heap.size) => arith_10 k x a n s k' x' a' n' s' g c W R hg rk rn re hR
        by_cases z : re = 0
        · subst z
          exact law_ok0 _ (by decide) _ 2 rfl (by decide) (by decide) b o cap g hb hT (fun W => known_10 W) (fun W => count_10 W) rk rn hD hA
        · exact law_ok1 _ (by decide) _ 2 rfl (by decide) (by decide) b o cap g hb hT (fun W => known_10 W) (fun W => count_10 W) rk rn re z hD hA
    · exact law_bad _ (by decide) L 2 true a len cap h100 g rfl (.inr ⟨rfl, rfl, by simp; omega⟩) (fun W => known_10 W) (fun W => count_10 W)
  · exact law_big _ 2 true a len cap g.2.1 g.1 (.inr (by omega)) (fun W => known_10 W)

theorem name_11 (a : Option Addr) (len cap : Nat) (L : List ObjL) {w : World} (g : Sl 8 ObjL.cells w a len cap L) (hT : Turn.Tab w) :
    Calls Tryd.prog 3 #[.string ⟨#[115, 117, 98]⟩, .slice a len cap] w fun e w' => e = .returned (.bool true) ∧ Up w w' := by
  by_cases h100 : len ≤ 100
  · by_cases hN : len = 2
    · subst hN
      obtain ⟨b, o, rfl, hb, -⟩ := g.2.2.2.2 (by decide)
      have hlen := g.2.2.1
      match L, hlen with
      | [⟨k, x, a, n, s, r, f, l⟩, ⟨k', x', a', n', s', r', f', l'⟩], _ =>
        obtain ⟨rk, rn, re, hR⟩ : ∃ rk rn re, bin 11 k n k' n' = (rk, rn, re) := ⟨_, _, _, rfl⟩
        have hD := fun (W : World) (g c : Nat) (hT : Turn.Tab W) (R : Cs W g (List.flatMap ObjL.cells [⟨k, x, a, n, s, r, f, l⟩, ⟨k', x', a', n', s', r', f', l'⟩]).toArray) (hg : g < W.heap.size) => do_11 k x a n s r f l k' x' a' n' s' r' f' l' g c W R hg rk rn re hR
        have hA := fun (W : World) (g c : Nat) (R : Cs W g (List.flatMap vcells [⟨k, x, a, n, s, r, f, l⟩, ⟨k', x', a', n', s', r', f', l'⟩]).toArray) (hg : g < W.heap.size) => arith_11 k x a n s k' x' a' n' s' g c W R hg rk rn re hR
        by_cases z : re = 0
        · subst z
          exact law_ok0 _ (by decide) _ 2 rfl (by decide) (by decide) b o cap g hb hT (fun W => known_11 W) (fun W => count_11 W) rk rn hD hA
        · exact law_ok1 _ (by decide) _ 2 rfl (by decide) (by decide) b o cap g hb hT (fun W => known_11 W) (fun W => count_11 W) rk rn re z hD hA
    · exact law_bad _ (by decide) L 2 true a len cap h100 g rfl (.inr ⟨rfl, rfl, by simp; omega⟩) (fun W => known_11 W) (fun W => count_11 W)
  · exact law_big _ 2 true a len cap g.2.1 g.1 (.inr (by omega)) (fun W => known_11 W)

theorem name_12 (a : Option Addr) (len cap : Nat) (L : List ObjL) {w : World} (g : Sl 8 ObjL.cells w a len cap L) (hT : Turn.Tab w) :
    Calls Tryd.prog 3 #[.string ⟨#[109, 117, 108]⟩, .slice a len cap] w fun e w' => e = .returned (.bool true) ∧ Up w w' := by
  by_cases h100 : len ≤ 100
  · by_cases hN : len = 2
    · subst hN
      obtain ⟨b, o, rfl, hb, -⟩ := g.2.2.2.2 (by decide)
      have hlen := g.2.2.1
      match L, hlen with
      | [⟨k, x, a, n, s, r, f, l⟩, ⟨k', x', a', n', s', r', f', l'⟩], _ =>
        obtain ⟨rk, rn, re, hR⟩ : ∃ rk rn re, bin 12 k n k' n' = (rk, rn, re) := ⟨_, _, _, rfl⟩
        have hD := fun (W : World) (g c : Nat) (hT : Turn.Tab W) (R : Cs W g (List.flatMap ObjL.cells [⟨k, x, a, n, s, r, f, l⟩, ⟨k', x', a', n', s', r', f', l'⟩]).toArray) (hg : g < W.heap.size) => do_12 k x a n s r f l k' x' a' n' s' r' f' l' g c W R hg rk rn re hR
        have hA := fun (W : World) (g c : Nat) (R : Cs W g (List.flatMap vcells [⟨k, x, a, n, s, r, f, l⟩, ⟨k', x', a', n', s', r', f', l'⟩]).toArray) (hg : g < W.heap.size) => arith_12 k x a n s k' x' a' n' s' g c W R hg rk rn re hR
        by_cases z : re = 0
        · subst z
          exact law_ok0 _ (by decide) _ 2 rfl (by decide) (by decide) b o cap g hb hT (fun W => known_12 W) (fun W => count_12 W) rk rn hD hA
        · exact law_ok1 _ (by decide) _ 2 rfl (by decide) (by decide) b o cap g hb hT (fun W => known_12 W) (fun W => count_12 W) rk rn re z hD hA
    · exact law_bad _ (by decide) L 2 true a len cap h100 g rfl (.inr ⟨rfl, rfl, by simp; omega⟩) (fun W => known_12 W) (fun W => count_12 W)
  · exact law_big _ 2 true a len cap g.2.1 g.1 (.inr (by omega)) (fun W => known_12 W)

theorem name_13 (a : Option Addr) (len cap : Nat) (L : List ObjL) {w : World} (g : Sl 8 ObjL.cells w a len cap L) (hT : Turn.Tab w) :
    Calls Tryd.prog 3 #[.string ⟨#[100, 105, 118]⟩, .slice a len cap] w fun e w' => e = .returned (.bool true) ∧ Up w w' := by
  by_cases h100 : len ≤ 100
  · by_cases hN : len = 2
    · subst hN
      obtain ⟨b, o, rfl, hb, -⟩ := g.2.2.2.2 (by decide)
      have hlen := g.2.2.1
      match L, hlen with
      | [⟨k, x, a, n, s, r, f, l⟩, ⟨k', x', a', n', s', r', f', l'⟩], _ =>
        obtain ⟨rk, rn, re, hR⟩ : ∃ rk rn re, bin 13 k n k' n' = (rk, rn, re) := ⟨_, _, _, rfl⟩
        have hD := fun (W : World) (g c : Nat) (hT : Turn.Tab W) (R : Cs W g (List.flatMap ObjL.cells [⟨k, x, a, n, s, r, f, l⟩, ⟨k', x', a', n', s', r', f', l'⟩]).toArray) (hg : g < W.heap.size) => do_13 k x a n s r f l k' x' a' n' s' r' f' l' g c W R hg rk rn re hR
        have hA := fun (W : World) (g c : Nat) (R : Cs W g (List.flatMap vcells [⟨k, x, a, n, s, r, f, l⟩, ⟨k', x', a', n', s', r', f', l'⟩]).toArray) (hg : g < W.heap.size) => arith_13 k x a n s k' x' a' n' s' g c W R hg rk rn re hR
        by_cases z : re = 0
        · subst z
          exact law_ok0 _ (by decide) _ 2 rfl (by decide) (by decide) b o cap g hb hT (fun W => known_13 W) (fun W => count_13 W) rk rn hD hA
        · exact law_ok1 _ (by decide) _ 2 rfl (by decide) (by decide) b o cap g hb hT (fun W => known_13 W) (fun W => count_13 W) rk rn re z hD hA
    · exact law_bad _ (by decide) L 2 true a len cap h100 g rfl (.inr ⟨rfl, rfl, by simp; omega⟩) (fun W => known_13 W) (fun W => count_13 W)
  · exact law_big _ 2 true a len cap g.2.1 g.1 (.inr (by omega)) (fun W => known_13 W)

theorem name_14 (a : Option Addr) (len cap : Nat) (L : List ObjL) {w : World} (g : Sl 8 ObjL.cells w a len cap L) (hT : Turn.Tab w) :
    Calls Tryd.prog 3 #[.string ⟨#[105, 100, 105, 118]⟩, .slice a len cap] w fun e w' => e = .returned (.bool true) ∧ Up w w' := by
  by_cases h100 : len ≤ 100
  · by_cases hN : len = 2
    · subst hN
      obtain ⟨b, o, rfl, hb, -⟩ := g.2.2.2.2 (by decide)
      have hlen := g.2.2.1
      match L, hlen with
      | [⟨k, x, a, n, s, r, f, l⟩, ⟨k', x', a', n', s', r', f', l'⟩], _ =>
        obtain ⟨rk, rn, re, hR⟩ : ∃ rk rn re, bin 14 k n k' n' = (rk, rn, re) := ⟨_, _, _, rfl⟩
        have hD := fun (W : World) (g c : Nat) (hT : Turn.Tab W) (R : Cs W g (List.flatMap ObjL.cells [⟨k, x, a, n, s, r, f, l⟩, ⟨k', x', a', n', s', r', f', l'⟩]).toArray) (hg : g < W.heap.size) => do_14 k x a n s r f l k' x' a' n' s' r' f' l' g c W R hg rk rn re hR
        have hA := fun (W : World) (g c : Nat) (R : Cs W g (List.flatMap vcells [⟨k, x, a, n, s, r, f, l⟩, ⟨k', x', a', n', s', r', f', l'⟩]).toArray) (hg : g < W.heap.size) => arith_14 k x a n s k' x' a' n' s' g c W R hg rk rn re hR
        by_cases z : re = 0
        · subst z
          exact law_ok0 _ (by decide) _ 2 rfl (by decide) (by decide) b o cap g hb hT (fun W => known_14 W) (fun W => count_14 W) rk rn hD hA
        · exact law_ok1 _ (by decide) _ 2 rfl (by decide) (by decide) b o cap g hb hT (fun W => known_14 W) (fun W => count_14 W) rk rn re z hD hA
    · exact law_bad _ (by decide) L 2 true a len cap h100 g rfl (.inr ⟨rfl, rfl, by simp; omega⟩) (fun W => known_14 W) (fun W => count_14 W)
  · exact law_big _ 2 true a len cap g.2.1 g.1 (.inr (by omega)) (fun W => known_14 W)

theorem name_15 (a : Option Addr) (len cap : Nat) (L : List ObjL) {w : World} (g : Sl 8 ObjL.cells w a len cap L) (hT : Turn.Tab w) :
    Calls Tryd.prog 3 #[.string ⟨#[109, 111, 100]⟩, .slice a len cap] w fun e w' => e = .returned (.bool true) ∧ Up w w' := by
  by_cases h100 : len ≤ 100
  · by_cases hN : len = 2
    · subst hN
      obtain ⟨b, o, rfl, hb, -⟩ := g.2.2.2.2 (by decide)
      have hlen := g.2.2.1
      match L, hlen with
      | [⟨k, x, a, n, s, r, f, l⟩, ⟨k', x', a', n', s', r', f', l'⟩], _ =>
        obtain ⟨rk, rn, re, hR⟩ : ∃ rk rn re, bin 15 k n k' n' = (rk, rn, re) := ⟨_, _, _, rfl⟩
        have hD := fun (W : World) (g c : Nat) (hT : Turn.Tab W) (R : Cs W g (List.flatMap ObjL.cells [⟨k, x, a, n, s, r, f, l⟩, ⟨k', x', a', n', s', r', f', l'⟩]).toArray) (hg : g < W.heap.size) => do_15 k x a n s r f l k' x' a' n' s' r' f' l' g c W R hg rk rn re hR
        have hA := fun (W : World) (g c : Nat) (R : Cs W g (List.flatMap vcells [⟨k, x, a, n, s, r, f, l⟩, ⟨k', x', a', n', s', r', f', l'⟩]).toArray) (hg : g < W.heap.size) => arith_15 k x a n s k' x' a' n' s' g c W R hg rk rn re hR
        by_cases z : re = 0
        · subst z
          exact law_ok0 _ (by decide) _ 2 rfl (by decide) (by decide) b o cap g hb hT (fun W => known_15 W) (fun W => count_15 W) rk rn hD hA
        · exact law_ok1 _ (by decide) _ 2 rfl (by decide) (by decide) b o cap g hb hT (fun W => known_15 W) (fun W => count_15 W) rk rn re z hD hA
    · exact law_bad _ (by decide) L 2 true a len cap h100 g rfl (.inr ⟨rfl, rfl, by simp; omega⟩) (fun W => known_15 W) (fun W => count_15 W)
  · exact law_big _ 2 true a len cap g.2.1 g.1 (.inr (by omega)) (fun W => known_15 W)

theorem name_16 (a : Option Addr) (len cap : Nat) (L : List ObjL) {w : World} (g : Sl 8 ObjL.cells w a len cap L) (hT : Turn.Tab w) :
    Calls Tryd.prog 3 #[.string ⟨#[97, 110, 100]⟩, .slice a len cap] w fun e w' => e = .returned (.bool true) ∧ Up w w' := by
  by_cases h100 : len ≤ 100
  · by_cases hN : len = 2
    · subst hN
      obtain ⟨b, o, rfl, hb, -⟩ := g.2.2.2.2 (by decide)
      have hlen := g.2.2.1
      match L, hlen with
      | [⟨k, x, a, n, s, r, f, l⟩, ⟨k', x', a', n', s', r', f', l'⟩], _ =>
        obtain ⟨rk, rn, re, hR⟩ : ∃ rk rn re, bin 16 k n k' n' = (rk, rn, re) := ⟨_, _, _, rfl⟩
        have hD := fun (W : World) (g c : Nat) (hT : Turn.Tab W) (R : Cs W g (List.flatMap ObjL.cells [⟨k, x, a, n, s, r, f, l⟩, ⟨k', x', a', n', s', r', f', l'⟩]).toArray) (hg : g < W.heap.size) => do_16 k x a n s r f l k' x' a' n' s' r' f' l' g c W R hg rk rn re hR
        have hA := fun (W : World) (g c : Nat) (R : Cs W g (List.flatMap vcells [⟨k, x, a, n, s, r, f, l⟩, ⟨k', x', a', n', s', r', f', l'⟩]).toArray) (hg : g < W.heap.size) => arith_16 k x a n s k' x' a' n' s' g c W R hg rk rn re hR
        by_cases z : re = 0
        · subst z
          exact law_ok0 _ (by decide) _ 2 rfl (by decide) (by decide) b o cap g hb hT (fun W => known_16 W) (fun W => count_16 W) rk rn hD hA
        · exact law_ok1 _ (by decide) _ 2 rfl (by decide) (by decide) b o cap g hb hT (fun W => known_16 W) (fun W => count_16 W) rk rn re z hD hA
    · exact law_bad _ (by decide) L 2 true a len cap h100 g rfl (.inr ⟨rfl, rfl, by simp; omega⟩) (fun W => known_16 W) (fun W => count_16 W)
  · exact law_big _ 2 true a len cap g.2.1 g.1 (.inr (by omega)) (fun W => known_16 W)

theorem name_17 (a : Option Addr) (len cap : Nat) (L : List ObjL) {w : World} (g : Sl 8 ObjL.cells w a len cap L) (hT : Turn.Tab w) :
    Calls Tryd.prog 3 #[.string ⟨#[111, 114]⟩, .slice a len cap] w fun e w' => e = .returned (.bool true) ∧ Up w w' := by
  by_cases h100 : len ≤ 100
  · by_cases hN : len = 2
    · subst hN
      obtain ⟨b, o, rfl, hb, -⟩ := g.2.2.2.2 (by decide)
      have hlen := g.2.2.1
      match L, hlen with
      | [⟨k, x, a, n, s, r, f, l⟩, ⟨k', x', a', n', s', r', f', l'⟩], _ =>
        obtain ⟨rk, rn, re, hR⟩ : ∃ rk rn re, bin 17 k n k' n' = (rk, rn, re) := ⟨_, _, _, rfl⟩
        have hD := fun (W : World) (g c : Nat) (hT : Turn.Tab W) (R : Cs W g (List.flatMap ObjL.cells [⟨k, x, a, n, s, r, f, l⟩, ⟨k', x', a', n', s', r', f', l'⟩]).toArray) (hg : g < W.heap.size) => do_17 k x a n s r f l k' x' a' n' s' r' f' l' g c W R hg rk rn re hR
        have hA := fun (W : World) (g c : Nat) (R : Cs W g (List.flatMap vcells [⟨k, x, a, n, s, r, f, l⟩, ⟨k', x', a', n', s', r', f', l'⟩]).toArray) (hg : g < W.heap.size) => arith_17 k x a n s k' x' a' n' s' g c W R hg rk rn re hR
        by_cases z : re = 0
        · subst z
          exact law_ok0 _ (by decide) _ 2 rfl (by decide) (by decide) b o cap g hb hT (fun W => known_17 W) (fun W => count_17 W) rk rn hD hA
        · exact law_ok1 _ (by decide) _ 2 rfl (by decide) (by decide) b o cap g hb hT (fun W => known_17 W) (fun W => count_17 W) rk rn re z hD hA
    · exact law_bad _ (by decide) L 2 true a len cap h100 g rfl (.inr ⟨rfl, rfl, by simp; omega⟩) (fun W => known_17 W) (fun W => count_17 W)
  · exact law_big _ 2 true a len cap g.2.1 g.1 (.inr (by omega)) (fun W => known_17 W)

theorem name_18 (a : Option Addr) (len cap : Nat) (L : List ObjL) {w : World} (g : Sl 8 ObjL.cells w a len cap L) (hT : Turn.Tab w) :
    Calls Tryd.prog 3 #[.string ⟨#[120, 111, 114]⟩, .slice a len cap] w fun e w' => e = .returned (.bool true) ∧ Up w w' := by
  by_cases h100 : len ≤ 100
  · by_cases hN : len = 2
    · subst hN
      obtain ⟨b, o, rfl, hb, -⟩ := g.2.2.2.2 (by decide)
      have hlen := g.2.2.1
      match L, hlen with
      | [⟨k, x, a, n, s, r, f, l⟩, ⟨k', x', a', n', s', r', f', l'⟩], _ =>
        obtain ⟨rk, rn, re, hR⟩ : ∃ rk rn re, bin 18 k n k' n' = (rk, rn, re) := ⟨_, _, _, rfl⟩
        have hD := fun (W : World) (g c : Nat) (hT : Turn.Tab W) (R : Cs W g (List.flatMap ObjL.cells [⟨k, x, a, n, s, r, f, l⟩, ⟨k', x', a', n', s', r', f', l'⟩]).toArray) (hg : g < W.heap.size) => do_18 k x a n s r f l k' x' a' n' s' r' f' l' g c W R hg rk rn re hR
        have hA := fun (W : World) (g c : Nat) (R : Cs W g (List.flatMap vcells [⟨k, x, a, n, s, r, f, l⟩, ⟨k', x', a', n', s', r', f', l'⟩]).toArray) (hg : g < W.heap.size) => arith_18 k x a n s k' x' a' n' s' g c W R hg rk rn re hR
        by_cases z : re = 0
        · subst z
          exact law_ok0 _ (by decide) _ 2 rfl (by decide) (by decide) b o cap g hb hT (fun W => known_18 W) (fun W => count_18 W) rk rn hD hA
        · exact law_ok1 _ (by decide) _ 2 rfl (by decide) (by decide) b o cap g hb hT (fun W => known_18 W) (fun W => count_18 W) rk rn re z hD hA
    · exact law_bad _ (by decide) L 2 true a len cap h100 g rfl (.inr ⟨rfl, rfl, by simp; omega⟩) (fun W => known_18 W) (fun W => count_18 W)
  · exact law_big _ 2 true a len cap g.2.1 g.1 (.inr (by omega)) (fun W => known_18 W)

theorem name_19 (a : Option Addr) (len cap : Nat) (L : List ObjL) {w : World} (g : Sl 8 ObjL.cells w a len cap L) (hT : Turn.Tab w) :
    Calls Tryd.prog 3 #[.string ⟨#[98, 105, 116, 115, 104, 105, 102, 116]⟩, .slice a len cap] w fun e w' => e = .returned (.bool true) ∧ Up w w' := by
  by_cases h100 : len ≤ 100
  · by_cases hN : len = 2
    · subst hN
      obtain ⟨b, o, rfl, hb, -⟩ := g.2.2.2.2 (by decide)
      have hlen := g.2.2.1
      match L, hlen with
      | [⟨k, x, a, n, s, r, f, l⟩, ⟨k', x', a', n', s', r', f', l'⟩], _ =>
        obtain ⟨rk, rn, re, hR⟩ : ∃ rk rn re, bin 19 k n k' n' = (rk, rn, re) := ⟨_, _, _, rfl⟩
        have hD := fun (W : World) (g c : Nat) (hT : Turn.Tab W) (R : Cs W g (List.flatMap ObjL.cells [⟨k, x, a, n, s, r, f, l⟩, ⟨k', x', a', n', s', r', f', l'⟩]).toArray) (hg : g < W.heap.size) => do_19 k x a n s r f l k' x' a' n' s' r' f' l' g c W R hg rk rn re hR
        have hA := fun (W : World) (g c : Nat) (R : Cs W g (List.flatMap vcells [⟨k, x, a, n, s, r, f, l⟩, ⟨k', x', a', n', s', r', f', l'⟩]).toArray) (hg : g < W.heap.size) => arith_19 k x a n s k' x' a' n' s' g c W R hg rk rn re hR
        by_cases z : re = 0
        · subst z
          exact law_ok0 _ (by decide) _ 2 rfl (by decide) (by decide) b o cap g hb hT (fun W => known_19 W) (fun W => count_19 W) rk rn hD hA
        · exact law_ok1 _ (by decide) _ 2 rfl (by decide) (by decide) b o cap g hb hT (fun W => known_19 W) (fun W => count_19 W) rk rn re z hD hA
    · exact law_bad _ (by decide) L 2 true a len cap h100 g rfl (.inr ⟨rfl, rfl, by simp; omega⟩) (fun W => known_19 W) (fun W => count_19 W)
  · exact law_big _ 2 true a len cap g.2.1 g.1 (.inr (by omega)) (fun W => known_19 W)

theorem name_20 (a : Option Addr) (len cap : Nat) (L : List ObjL) {w : World} (g : Sl 8 ObjL.cells w a len cap L) (hT : Turn.Tab w) :
    Calls Tryd.prog 3 #[.string ⟨#[103, 116]⟩, .slice a len cap] w fun e w' => e = .returned (.bool true) ∧ Up w w' := by
  by_cases h100 : len ≤ 100
  · by_cases hN : len = 2
    · subst hN
      obtain ⟨b, o, rfl, hb, -⟩ := g.2.2.2.2 (by decide)
      have hlen := g.2.2.1
      match L, hlen with
      | [⟨k, x, a, n, s, r, f, l⟩, ⟨k', x', a', n', s', r', f', l'⟩], _ =>
        obtain ⟨rk, rn, re, hR⟩ : ∃ rk rn re, bin 20 k n k' n' = (rk, rn, re) := ⟨_, _, _, rfl⟩
        have hD := fun (W : World) (g c : Nat) (hT : Turn.Tab W) (R : Cs W g (List.flatMap ObjL.cells [⟨k, x, a, n, s, r, f, l⟩, ⟨k', x', a', n', s', r', f', l'⟩]).toArray) (hg : g < W.heap.size) => do_20 k x a n s r f l k' x' a' n' s' r' f' l' g c W R hg rk rn re hR
        have hA := fun (W : World) (g c : Nat) (R : Cs W g (List.flatMap vcells [⟨k, x, a, n, s, r, f, l⟩, ⟨k', x', a', n', s', r', f', l'⟩]).toArray) (hg : g < W.heap.size) => arith_20 k x a n s k' x' a' n' s' g c W R hg rk rn re hR
        by_cases z : re = 0
        · subst z
          exact law_ok0 _ (by decide) _ 2 rfl (by decide) (by decide) b o cap g hb hT (fun W => known_20 W) (fun W => count_20 W) rk rn hD hA
        · exact law_ok1 _ (by decide) _ 2 rfl (by decide) (by decide) b o cap g hb hT (fun W => known_20 W) (fun W => count_20 W) rk rn re z hD hA
    · exact law_bad _ (by decide) L 2 true a len cap h100 g rfl (.inr ⟨rfl, rfl, by simp; omega⟩) (fun W => known_20 W) (fun W => count_20 W)
  · exact law_big _ 2 true a len cap g.2.1 g.1 (.inr (by omega)) (fun W => known_20 W)

theorem name_21 (a : Option Addr) (len cap : Nat) (L : List ObjL) {w : World} (g : Sl 8 ObjL.cells w a len cap L) (hT : Turn.Tab w) :
    Calls Tryd.prog 3 #[.string ⟨#[103, 101]⟩, .slice a len cap] w fun e w' => e = .returned (.bool true) ∧ Up w w' := by
  by_cases h100 : len ≤ 100
  · by_cases hN : len = 2
    · subst hN
      obtain ⟨b, o, rfl, hb, -⟩ := g.2.2.2.2 (by decide)
      have hlen := g.2.2.1
      match L, hlen with
      | [⟨k, x, a, n, s, r, f, l⟩, ⟨k', x', a', n', s', r', f', l'⟩], _ =>
        obtain ⟨rk, rn, re, hR⟩ : ∃ rk rn re, bin 21 k n k' n' = (rk, rn, re) := ⟨_, _, _, rfl⟩
        have hD := fun (W : World) (g c : Nat) (hT : Turn.Tab W) (R : Cs W g (List.flatMap ObjL.cells [⟨k, x, a, n, s, r, f, l⟩, ⟨k', x', a', n', s', r', f', l'⟩]).toArray) (hg : g < W.heap.size) => do_21 k x a n s r f l k' x' a' n' s' r' f' l' g c W R hg rk rn re hR
        have hA := fun (W : World) (g c : Nat) (R : Cs W g (List.flatMap vcells [⟨k, x, a, n, s, r, f, l⟩, ⟨k', x', a', n', s', r', f', l'⟩]).toArray) (hg : g < W.heap.size) => arith_21 k x a n s k' x' a' n' s' g c W R hg rk rn re hR
        by_cases z : re = 0
        · subst z
          exact law_ok0 _ (by decide) _ 2 rfl (by decide) (by decide) b o cap g hb hT (fun W => known_21 W) (fun W => count_21 W) rk rn hD hA
        · exact law_ok1 _ (by decide) _ 2 rfl (by decide) (by decide) b o cap g hb hT (fun W => known_21 W) (fun W => count_21 W) rk rn re z hD hA
    · exact law_bad _ (by decide) L 2 true a len cap h100 g rfl (.inr ⟨rfl, rfl, by simp; omega⟩) (fun W => known_21 W) (fun W => count_21 W)
  · exact law_big _ 2 true a len cap g.2.1 g.1 (.inr (by omega)) (fun W => known_21 W)

theorem name_22 (a : Option Addr) (len cap : Nat) (L : List ObjL) {w : World} (g : Sl 8 ObjL.cells w a len cap L) (hT : Turn.Tab w) :
    Calls Tryd.prog 3 #[.string ⟨#[108, 116]⟩, .slice a len cap] w fun e w' => e = .returned (.bool true) ∧ Up w w' := by
  by_cases h100 : len ≤ 100
  · by_cases hN : len = 2
    · subst hN
      obtain ⟨b, o, rfl, hb, -⟩ := g.2.2.2.2 (by decide)
      have hlen := g.2.2.1
      match L, hlen with
      | [⟨k, x, a, n, s, r, f, l⟩, ⟨k', x', a', n', s', r', f', l'⟩], _ =>
        obtain ⟨rk, rn, re, hR⟩ : ∃ rk rn re, bin 22 k n k' n' = (rk, rn, re) := ⟨_, _, _, rfl⟩
        have hD := fun (W : World) (g c : Nat) (hT : Turn.Tab W) (R : Cs W g (List.flatMap ObjL.cells [⟨k, x, a, n, s, r, f, l⟩, ⟨k', x', a', n', s', r', f', l'⟩]).toArray) (hg : g < W.heap.size) => do_22 k x a n s r f l k' x' a' n' s' r' f' l' g c W R hg rk rn re hR
        have hA := fun (W : World) (g c : Nat) (R : Cs W g (List.flatMap vcells [⟨k, x, a, n, s, r, f, l⟩, ⟨k', x', a', n', s', r', f', l'⟩]).toArray) (hg : g < W.heap.size) => arith_22 k x a n s k' x' a' n' s' g c W R hg rk rn re hR
        by_cases z : re = 0
        · subst z
          exact law_ok0 _ (by decide) _ 2 rfl (by decide) (by decide) b o cap g hb hT (fun W => known_22 W) (fun W => count_22 W) rk rn hD hA
        · exact law_ok1 _ (by decide) _ 2 rfl (by decide) (by decide) b o cap g hb hT (fun W => known_22 W) (fun W => count_22 W) rk rn re z hD hA
    · exact law_bad _ (by decide) L 2 true a len cap h100 g rfl (.inr ⟨rfl, rfl, by simp; omega⟩) (fun W => known_22 W) (fun W => count_22 W)
  · exact law_big _ 2 true a len cap g.2.1 g.1 (.inr (by omega)) (fun W => known_22 W)

theorem name_23 (a : Option Addr) (len cap : Nat) (L : List ObjL) {w : World} (g : Sl 8 ObjL.cells w a len cap L) (hT : Turn.Tab w) :
    Calls Tryd.prog 3 #[.string ⟨#[108, 101]⟩, .slice a len cap] w fun e w' => e = .returned (.bool true) ∧ Up w w' := by
  by_cases h100 : len ≤ 100
  · by_cases hN : len = 2
    · subst hN
      obtain ⟨b, o, rfl, hb, -⟩ := g.2.2.2.2 (by decide)
      have hlen := g.2.2.1
      match L, hlen with
      | [⟨k, x, a, n, s, r, f, l⟩, ⟨k', x', a', n', s', r', f', l'⟩], _ =>
        obtain ⟨rk, rn, re, hR⟩ : ∃ rk rn re, bin 23 k n k' n' = (rk, rn, re) := ⟨_, _, _, rfl⟩
        have hD := fun (W : World) (g c : Nat) (hT : Turn.Tab W) (R : Cs W g (List.flatMap ObjL.cells [⟨k, x, a, n, s, r, f, l⟩, ⟨k', x', a', n', s', r', f', l'⟩]).toArray) (hg : g < W.heap.size) => do_23 k x a n s r f l k' x' a' n' s' r' f' l' g c W R hg rk rn re hR
        have hA := fun (W : World) (g c : Nat) (R : Cs W g (List.flatMap vcells [⟨k, x, a, n, s, r, f, l⟩, ⟨k', x', a', n', s', r', f', l'⟩]).toArray) (hg : g < W.heap.size) => arith_23 k x a n s k' x' a' n' s' g c W R hg rk rn re hR
        by_cases z : re = 0
        · subst z
          exact law_ok0 _ (by decide) _ 2 rfl (by decide) (by decide) b o cap g hb hT (fun W => known_23 W) (fun W => count_23 W) rk rn hD hA
        · exact law_ok1 _ (by decide) _ 2 rfl (by decide) (by decide) b o cap g hb hT (fun W => known_23 W) (fun W => count_23 W) rk rn re z hD hA
    · exact law_bad _ (by decide) L 2 true a len cap h100 g rfl (.inr ⟨rfl, rfl, by simp; omega⟩) (fun W => known_23 W) (fun W => count_23 W)
  · exact law_big _ 2 true a len cap g.2.1 g.1 (.inr (by omega)) (fun W => known_23 W)

theorem walk {w : World} (s : ByteArray) (a : Option Addr) (len cap : Nat) (L : List ObjL) (w0 : s.size ≤ maxLen) (g : Sl 8 ObjL.cells w a len cap L) (hT : Turn.Tab w) :
    Calls Tryd.prog 3 #[.string s, .slice a len cap] w fun e w' => e = .returned (.bool true) ∧ Up w w' := by
  clear w0
  have hs : s = ⟨s.data.toList.toArray⟩ := by cases s; rfl
  rw [hs]
  generalize s.data.toList = l at *
  clear hs
  by_cases e0 : l = [110, 101, 103]
  · subst e0; exact name_0 a len cap L g hT
  by_cases e1 : l = [97, 98, 115]
  · subst e1; exact name_1 a len cap L g hT
  by_cases e2 : l = [99, 101, 105, 108, 105, 110, 103]
  · subst e2; exact name_2 a len cap L g hT
  by_cases e3 : l = [102, 108, 111, 111, 114]
  · subst e3; exact name_3 a len cap L g hT
  by_cases e4 : l = [114, 111, 117, 110, 100]
  · subst e4; exact name_4 a len cap L g hT
  by_cases e5 : l = [116, 114, 117, 110, 99, 97, 116, 101]
  · subst e5; exact name_5 a len cap L g hT
  by_cases e6 : l = [115, 113, 114, 116]
  · subst e6; exact name_6 a len cap L g hT
  by_cases e7 : l = [115, 105, 110]
  · subst e7; exact name_7 a len cap L g hT
  by_cases e8 : l = [99, 111, 115]
  · subst e8; exact name_8 a len cap L g hT
  by_cases e9 : l = [110, 111, 116]
  · subst e9; exact name_9 a len cap L g hT
  by_cases e10 : l = [97, 100, 100]
  · subst e10; exact name_10 a len cap L g hT
  by_cases e11 : l = [115, 117, 98]
  · subst e11; exact name_11 a len cap L g hT
  by_cases e12 : l = [109, 117, 108]
  · subst e12; exact name_12 a len cap L g hT
  by_cases e13 : l = [100, 105, 118]
  · subst e13; exact name_13 a len cap L g hT
  by_cases e14 : l = [105, 100, 105, 118]
  · subst e14; exact name_14 a len cap L g hT
  by_cases e15 : l = [109, 111, 100]
  · subst e15; exact name_15 a len cap L g hT
  by_cases e16 : l = [97, 110, 100]
  · subst e16; exact name_16 a len cap L g hT
  by_cases e17 : l = [111, 114]
  · subst e17; exact name_17 a len cap L g hT
  by_cases e18 : l = [120, 111, 114]
  · subst e18; exact name_18 a len cap L g hT
  by_cases e19 : l = [98, 105, 116, 115, 104, 105, 102, 116]
  · subst e19; exact name_19 a len cap L g hT
  by_cases e20 : l = [103, 116]
  · subst e20; exact name_20 a len cap L g hT
  by_cases e21 : l = [103, 101]
  · subst e21; exact name_21 a len cap L g hT
  by_cases e22 : l = [108, 116]
  · subst e22; exact name_22 a len cap L g hT
  by_cases e23 : l = [108, 101]
  · subst e23; exact name_23 a len cap L g hT
  have ho : Other l := ⟨beq_eq_false_iff_ne.2 e0, beq_eq_false_iff_ne.2 e1, beq_eq_false_iff_ne.2 e2, beq_eq_false_iff_ne.2 e3, beq_eq_false_iff_ne.2 e4, beq_eq_false_iff_ne.2 e5, beq_eq_false_iff_ne.2 e6, beq_eq_false_iff_ne.2 e7, beq_eq_false_iff_ne.2 e8, beq_eq_false_iff_ne.2 e9, beq_eq_false_iff_ne.2 e10, beq_eq_false_iff_ne.2 e11, beq_eq_false_iff_ne.2 e12, beq_eq_false_iff_ne.2 e13, beq_eq_false_iff_ne.2 e14, beq_eq_false_iff_ne.2 e15, beq_eq_false_iff_ne.2 e16, beq_eq_false_iff_ne.2 e17, beq_eq_false_iff_ne.2 e18, beq_eq_false_iff_ne.2 e19, beq_eq_false_iff_ne.2 e20, beq_eq_false_iff_ne.2 e21, beq_eq_false_iff_ne.2 e22, beq_eq_false_iff_ne.2 e23⟩
  by_cases h1 : l.length ≤ 1000
  · by_cases h2 : len ≤ 100
    · exact law_bad ⟨l.toArray⟩ h1 L 0 false a len cap h2 g rfl (.inl ⟨rfl, rfl⟩) (fun W => known_none l ho W) (fun W => count_none l ho W)
    · exact law_big ⟨l.toArray⟩ 0 false a len cap g.2.1 g.1 (.inr (by omega)) (fun W => known_none l ho W)
  · exact law_big ⟨l.toArray⟩ 0 false a len cap g.2.1 g.1 (.inl (show 1000 < l.length by omega)) (fun W => known_none l ho W)

theorem own : ownKnob Tryd.prog.godebug = none := by kernel_rfl
theorem laidOut : laidOutB Tryd.prog = true := by kernel_rfl
/-- what the walk gives, for every argument and every world that holds the listed variables -/
theorem contract (H : Type) (enc : TypeId × Value → H) (W : World) (base : Nat) (args : Array Value) (ds gs : List (DataW H)) (before : List MemPlace)
    (hval : ∀ (j : Nat) t v, Tryd.f3.params[j]? = some t → args[j]? = some v → Value.okWide Tryd.prog W .any base t v)
    (hW : DataW.Whole enc Tryd.prog Tryd.f3.params.toList Rows.arithDoesSpec.vars false W args.toList ds gs before) (hL : laidMetH Tryd.prog Rows.arithDoesRow.laid W) :
    Calls Tryd.prog 3 args W fun e W' => ∃ v, e = .returned v ∧ Rows.arithDoesSpec.post enc Tryd.prog Tryd.f3 false true false false W args v W' := by
  have hW' := hW
  obtain ⟨p, q, hA0, hV, rfl, hfz, hnd⟩ := hW
  have hA : DataW.TrodAll enc Tryd.prog W 0 (fun _ => true) true Tryd.f3.params.toList args.toList ds p := hA0
  rw [Tryd.params3] at hA hval
  obtain ⟨v0, vs0, d0, ds0, p0, q0, hargs, rfl, rfl, h0, r0⟩ := trodAll_cons hA
  obtain ⟨v1, vs1, d1, ds1, p1, q1, rfl, rfl, rfl, h1, r1⟩ := trodAll_cons r0
  obtain ⟨rfl, rfl, rfl⟩ := trodAll_nil r1
  obtain rfl : args = #[v0, v1] := by cases args; simp_all
  obtain ⟨rfl, rfl⟩ := trodVars_none hV
  have k0 := h0
  have lt0 : ∀ x ∈ p0, x.block < W.heap.size := by obtain ⟨m, hm⟩ := k0; exact DataW.trod_lt m _ _ _ hm
  have k1 := h1
  have lt1 : ∀ x ∈ p1, x.block < W.heap.size := by obtain ⟨m, hm⟩ := k1; exact DataW.trod_lt m _ _ _ hm
  obtain ⟨a0, rfl, rfl, rfl, w0⟩ := open_string Tryd.underlying9 (hval 0 9 v0 rfl rfl) h0
  obtain ⟨a1, len1, cap1, rfl⟩ := okWide_slice Tryd.underlying22 (hval 1 22 v1 rfl rfl)
  obtain ⟨l1, g1⟩ := objIs_of h1
  clear hA0 hval
  refine (walk (w := W) a0 a1 len1 cap1 l1 w0 g1 (table hL)).mono fun e W' ⟨he, bel⟩ => ?_
  subst he
  exact ⟨_, rfl, _, _, _, [], _, [], hW', trodAll_mk1 (shut_bool Tryd.underlying4 _), (trodAll_cons_mk (Below.trod laidOut (by kernel_rfl) (of_decide_eq_true (by kernel_rfl)) k0 bel lt0) (trodAll_cons_mk (Below.trod laidOut (by kernel_rfl) (of_decide_eq_true (by kernel_rfl)) k1 bel lt1) trodAll_mk0)), rfl, bel.frame _, fun h => by cases h⟩
noncomputable def laidWorld (os : Os) : World :=
  { World.holding Tryd.prog os ⟨#[], #[], []⟩ with
    heap := ((World.holding Tryd.prog os ⟨#[], #[], []⟩).heap).modify 0 fun
      | .cells _ t frozen => .cells #[.int .i64 0, .int .i64 1144, .int .i64 2287, .int .i64 3430, .int .i64 4572, .int .i64 5712, .int .i64 6850, .int .i64 7987, .int .i64 9121, .int .i64 10252, .int .i64 11380, .int .i64 12505, .int .i64 13626, .int .i64 14742, .int .i64 15855, .int .i64 16962, .int .i64 18064, .int .i64 19161, .int .i64 20252, .int .i64 21336, .int .i64 22415, .int .i64 23486, .int .i64 24550, .int .i64 25607, .int .i64 26656, .int .i64 27697, .int .i64 28729, .int .i64 29753, .int .i64 30767, .int .i64 31772, .int .i64 32768, .int .i64 33754, .int .i64 34729, .int .i64 35693, .int .i64 36647, .int .i64 37590, .int .i64 38521, .int .i64 39441, .int .i64 40348, .int .i64 41243, .int .i64 42126, .int .i64 42995, .int .i64 43852, .int .i64 44695, .int .i64 45525, .int .i64 46341, .int .i64 47143, .int .i64 47930, .int .i64 48703, .int .i64 49461, .int .i64 50203, .int .i64 50931, .int .i64 51643, .int .i64 52339, .int .i64 53020, .int .i64 53684, .int .i64 54332, .int .i64 54963, .int .i64 55578, .int .i64 56175, .int .i64 56756, .int .i64 57319, .int .i64 57865, .int .i64 58393, .int .i64 58903, .int .i64 59396, .int .i64 59870, .int .i64 60326, .int .i64 60764, .int .i64 61183, .int .i64 61584, .int .i64 61966, .int .i64 62328, .int .i64 62672, .int .i64 62997, .int .i64 63303, .int .i64 63589, .int .i64 63856, .int .i64 64104, .int .i64 64332, .int .i64 64540, .int .i64 64729, .int .i64 64898, .int .i64 65048, .int .i64 65177, .int .i64 65287, .int .i64 65376, .int .i64 65446, .int .i64 65496, .int .i64 65526, .int .i64 65536] t frozen
      | o => o }
theorem laid_met (os : Os) : laidMet Tryd.prog Rows.arithDoesRow.laid ((laidWorld os).forCall (fun _ _ => 0) ⟨#[], #[.string ⟨#[]⟩, .slice none 0 0], []⟩).memory :=
  laidMet_of_run' 8 (by kernel_rfl) (by kernel_rfl)
theorem reads (os : Os) {H : Type} (enc : TypeId × Value → H) : ∃ places, DataW.whole enc Tryd.prog ((laidWorld os).forCall (fun _ _ => 0) ⟨#[], #[.string ⟨#[]⟩, .slice none 0 0], []⟩).memory Tryd.f3.params.toList Rows.arithDoesSpec.vars false #[(.string ⟨#[]⟩ : Value), (.slice none 0 0 : Value)].toList 8 = some ([.lit (.string []), .nil], [], places) :=
  ⟨[], by kernel_rfl⟩
set_option maxRecDepth 100000 in
theorem lifted (os : Os) (started : os.Started) (H : Type) (enc : TypeId × Value → H) (F : Stop.Interp) :
    ReturnsInHanded {} Tryd.checked os 3 .any ((OpenSpec.ofChange Rows.arithDoesSpec).preRow enc Tryd.prog Tryd.f3 Rows.arithDoesRow.domain false Rows.arithDoesRow.laid) (((OpenSpec.ofChange Rows.arithDoesSpec).at F).post enc Tryd.prog Tryd.f3 false true false false) := by
  obtain ⟨places, hx⟩ := reads os enc
  refine returnsInHanded_of_row (C := Tryd.checked) (s := OpenSpec.ofChange Rows.arithDoesSpec) own started (by kernel_rfl) Tryd.func3
    (witness_row_at (enc := enc) (C := Tryd.checked) false (laidWorld os) #[.string ⟨#[]⟩, .slice none 0 0] rfl (by kernel_rfl) (by kernel_rfl) (by kernel_rfl)
      (OpenSpec.preRow_of_cond 8 hx (by kernel_rfl) (fun k hk => by cases hk) (by kernel_rfl) (laid_met os))) ?_
  intro W base args ds gs before hval hW _ _ _ hL _ _
  exact contract H enc W base args ds gs before hval hW hL
theorem said : Rows.ArithDoesSaid :=
  OpenClaim.holds_of_cond 3 Tryd.f3 rfl rfl rfl rfl rfl rfl rfl ⟨rfl, rfl, rfl, rfl, rfl⟩ rfl rfl rfl rfl rfl (by kernel_rfl) Tryd.func3 (by kernel_rfl)
    (of_decide_eq_true (by kernel_rfl)) (by unfold Func.isWrapper; first | (rw [if_pos (by decide +kernel)]; kernel_rfl) | (rw [if_neg (by decide +kernel)]; exact ⟨rfl, rfl⟩))
    (fun os started H enc _ F => by rw [OpenClaim.pre_eq_preRow]; exact lifted os started H enc F)
theorem plain (f : FuncId) (fn : Func) (hf : Tryd.pinned.checked.prog.funcNamed "mezzotint/mezzotintlaw08.ArithDoes" = some f) (hfn : Tryd.pinned.checked.prog.funcs[f]? = some fn) :
    false = Tryd.pinned.checked.prog.looks [] ∧ ∀ (j : Nat) t, fn.params[j]? = some t → Tryd.pinned.checked.prog.wantsStandIn t = false := by
  obtain rfl : f = 3 := Option.some.inj ((show Tryd.prog.funcNamed "mezzotint/mezzotintlaw08.ArithDoes" = some 3 by kernel_rfl).symm.trans hf) |>.symm
  obtain rfl : fn = Tryd.f3 := (Option.some.inj (Tryd.func3.symm.trans hfn)).symm
  refine ⟨by kernel_rfl, fun j t ht => ?_⟩
  rw [Tryd.params3] at ht
  have hm : t ∈ [9, 22] := by have := Array.mem_of_getElem? ht; simpa using this
  simp only [List.mem_cons, List.not_mem_nil, or_false] at hm
  rcases hm with rfl | rfl
  · exact (show Tryd.prog.wantsStandIn 9 = false by kernel_rfl)
  · exact (show Tryd.prog.wantsStandIn 22 = false by kernel_rfl)
/-- THE CARD -/
theorem card : Rows.ArithDoesCardSaid :=
  Claim7.holds_tied_plain_at .later [] _ _ _ _ said (fun _ h => by cases h) (by kernel_rfl) (fun _ h => by cases h) arithDoes_row_tie rfl ⟨rfl, rfl⟩ (by kernel_rfl) rfl plain (by kernel_rfl)
#print axioms card

end Go.Proofs.YtakickodehebmaaDoor.arithDoes
