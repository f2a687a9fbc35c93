/- Package pobj: write and Print of any sound object. Its condition: an object that is not too large. -/
import Derived.Test.YtaafelkdhahaoaaDoorPobQ3
import Derived.Test.YtaafelkdhahaoaaDoorPobR4
namespace Go.Proofs.YtaafelkdhahaoaaDoor.Pob
open Go.ChangeShapes Go.WideShapes Go.RowKit Go.Shelf
set_option linter.unusedVariables false
set_option linter.unusedSimpArgs false

theorem leaf_write {w0 : World} {o : PO} (h : POk w0 o) (ht : o.t.length ≤ 70000) (hs : leafR o = true) (hp : PTab w0) : WrC w0 (leafP o) o.cells.toArray := by
  obtain ⟨k, n, t, ka, kl, kc, ks, la, ll, lc, l, da, dl, dc, d⟩ := o
  have ht2 : t.length ≤ 70000 := ht
  intro B b bs w h0 hu hBw hI hlim
  show Calls _ _ #[_, .agg #[.int .i64 k, .int .i64 n, .string ⟨t.toArray⟩, .slice ka kl kc, .slice la ll lc, .slice da dl dc]] _ _
  have hpw := hp.up hu
  by_cases k0 : k = 0
  · subst k0; exact write_k0 n t ka kl kc la ll lc da dl dc B b bs w hBw hI (by omega)
  by_cases k1 : k = 1
  · subst k1
    by_cases hn : n = 1
    · rw [show leafP (.mk 1 n t ka kl kc ks la ll lc l da dl dc d) = [116, 114, 117, 101] by simp [leafP, hn]]
      exact write_k1t n t ka kl kc la ll lc da dl dc hn B b bs w hBw hI (by omega)
    · rw [show leafP (.mk 1 n t ka kl kc ks la ll lc l da dl dc d) = [102, 97, 108, 115, 101] by simp [leafP, hn]]
      exact write_k1f n t ka kl kc la ll lc da dl dc hn B b bs w hBw hI (by omega)
  by_cases k2 : k = 2
  · subst k2
    have hs2 : (bareC n t kl ll dl true false false false false && decide (-2147483648 ≤ n) && decide (n ≤ 2147483647)) = true := hs
    simp only [Bool.and_eq_true, decide_eq_true_eq] at hs2
    exact write_k2 n t ka kl kc la ll lc da dl dc hs2.1.2 hs2.2 B b bs w hpw hBw hI (by omega)
  by_cases k3 : k = 3
  · subst k3
    have hs2 : (bareC n t kl ll dl true false false false false && (decide (-2147483648 ≤ n) && decide (n ≤ 2147483647))) = true := hs
    simp only [Bool.and_eq_true, decide_eq_true_eq] at hs2
    exact write_k3 n t ka kl kc la ll lc da dl dc hs2.2.1 hs2.2.2 B b bs w hBw hI (by omega)
  by_cases k4 : k = 4
  · subst k4; exact write_k4 n t ka kl kc la ll lc da dl dc B b bs w hBw hI (by omega)
  by_cases k5 : k = 5
  · subst k5; exact write_k5 n t ka kl kc la ll lc da dl dc B b bs w hBw hI (by omega)
  by_cases k8 : k = 8
  · subst k8
    have hs2 : (bareC n t kl ll dl true false false false false && decide (1 ≤ n) && decide (n ≤ 4096)) = true := hs
    simp only [Bool.and_eq_true, decide_eq_true_eq] at hs2
    exact write_k8 n t ka kl kc la ll lc da dl dc (by omega) (by omega) B b bs w hpw hBw hI (by omega)
  exfalso
  have hs2 : leafR (.mk k n t ka kl kc ks la ll lc l da dl dc d) = false := by simp only [leafR, if_neg k0, if_neg k1, if_neg k2, if_neg k3, if_neg k4, if_neg k5, if_neg k8]
  rw [hs] at hs2
  cases hs2
theorem prn_leaf (m : Nat) {o : PO} (h : ¬ (o.k = 6 ∨ o.k = 7 ∨ o.k = 9)) : prn m o = leafP o := by
  simp only [not_or] at h
  cases m with
  | zero => rfl
  | succ m => simp only [prn, if_neg h.1, if_neg h.2.1, if_neg h.2.2]
theorem snd_leaf (m : Nat) {s : Bool} {o : PO} (h : ¬ (o.k = 6 ∨ o.k = 7 ∨ o.k = 9)) : sndR m s o = leafR o := by
  cases m with
  | zero => rfl
  | succ m => simp only [sndR, node_leaf (s := s) h, Bool.false_and, Bool.or_false]
theorem write_all : ∀ (m : Nat) (s : Bool) (j : Nat) (o : PO) (w0 : World), POk w0 o → lightR j o = true → sndR m s o = true → PTab w0 → WrC w0 (prn m o) o.cells.toArray := by
  intro m
  induction m with
  | zero =>
    intro s j o w0 h hj hs hp
    obtain ⟨j, rfl, j1, j2, j3, j4, j5, j6⟩ := lightR_elim hj
    exact leaf_write h j3 hs hp
  | succ m ih =>
    intro s j o w0 h hj hs hp
    obtain ⟨j, rfl, j1, j2, j3, j4, j5, j6⟩ := lightR_elim hj
    by_cases hn : o.k = 6 ∨ o.k = 7 ∨ o.k = 9
    · have hs2 : (nodeR s o && o.l.all (sndR m false)) = true := by
        have := hs
        simp only [sndR, leaf_node hn, Bool.false_or] at this
        exact this
      rw [Bool.and_eq_true, List.all_eq_true] at hs2
      obtain ⟨hs3, hs4⟩ := hs2
      cases h with
      | mk k n t ka kl kc ks la ll lc l da dl dc d hnw hk hl hc hd =>
      have hrec : ∀ c ∈ l, WrC w0 (prn m c) c.cells.toArray := fun c hm => ih false j c w0 (hc c hm) (j6 c hm) (hs4 c hm) hp
      have j5 : ∀ x ∈ ks, x.length ≤ 300 := j5
      have j8 : dl ≤ 5000 := by rw [← hd.2.2.1]; exact j4
      have hn2 : k = 6 ∨ k = 7 ∨ k = 9 := hn
      intro B b bs w h0 hu hBw hI hlim
      show Calls _ _ #[_, .agg #[.int .i64 k, .int .i64 n, .string ⟨t.toArray⟩, .slice ka kl kc, .slice la ll lc, .slice da dl dc]] _ _
      rcases hn2 with rfl | rfl | rfl
      · rw [show prn (m + 1) (.mk 6 n t ka kl kc ks la ll lc l da dl dc d) = 91 :: (elsP (prn m) l l.length ++ [93]) by simp [prn, PO.k, PO.l]] at hlim ⊢
        exact write_k6 n t ka kl kc la ll lc da dl dc l (prn m) w0 hl hrec B b bs w h0 hu hBw hI (by simp only [List.length_cons, List.length_append, List.length_nil] at hlim; omega)
      · rw [show prn (m + 1) (.mk 7 n t ka kl kc ks la ll lc l da dl dc d) = dictP (prn m) ks l [] by simp [prn, PO.k, PO.l, PO.ks]] at hlim ⊢
        have hs5 : (bareC n t kl ll dl false false true true false && decide (kl = ll) && distR ks) = true := hs3
        simp only [Bool.and_eq_true, decide_eq_true_eq] at hs5
        exact write_k7 n t ka kl kc la ll lc da dl dc ks l (prn m) w0 hk hl hs5.1.2 j5 hrec B b bs w h0 hu hBw hI hlim
      · rw [show prn (m + 1) (.mk 9 n t ka kl kc ks la ll lc l da dl dc d) = (dictP (prn m) ks l (lenP d.length) ++ ([10, 115, 116, 114, 101, 97, 109, 10] ++ (d ++ [10, 101, 110, 100, 115, 116, 114, 101, 97, 109]))) by simp [prn, PO.k, PO.l, PO.ks, PO.d]] at hlim ⊢
        have hs5 : (s && (bareC n t kl ll dl false false true true true && decide (kl = ll) && distR ks && !ks.contains lenKey)) = true := hs3
        simp only [Bool.and_eq_true, decide_eq_true_eq] at hs5
        by_cases hz : dl = 0
        · exact write_k9e n t ka kl kc la ll lc da dl dc ks l d (prn m) w0 hp hk hl hd j8 hz hs5.2.1.1.2 j5 hrec B b bs w h0 hu hBw hI hlim
        · exact write_k9 n t ka kl kc la ll lc da dl dc ks l d (prn m) w0 hp hk hl hd j8 (by omega) hs5.2.1.1.2 j5 hrec B b bs w h0 hu hBw hI hlim
    · rw [prn_leaf _ hn]
      rw [snd_leaf _ hn] at hs
      exact leaf_write h j3 hs hp
theorem prn_ne (m : Nat) (o : PO) : prn m o ≠ [] := by
  have hL : leafP o ≠ [] := by
    obtain ⟨k, n, t, ka, kl, kc, ks, la, ll, lc, l, da, dl, dc, d⟩ := o
    have hi : intL n ≠ [] := by unfold intL; split <;> simp [decL_ne]
    have hr : prR n ≠ [] := by
      unfold prR
      split
      · simp
      · unfold prP prM
        split
        · simp
        · intro h
          exact decL_ne _ (List.append_eq_nil_iff.1 h).1
    simp only [leafP]
    repeat' split
    all_goals first | (simp; done) | assumption | (simp [hi]; done)
  cases m with
  | zero => exact hL
  | succ m =>
    simp only [prn]
    repeat' split
    all_goals first | exact hL | simp [dictP]

set_option maxRecDepth 8000 in
set_option maxHeartbeats 1000000 in
theorem pprint_ok (j : Nat) (o : PO) (w : World) (h : POk w o) (hj : lightR j o = true) (hs : sndR 32 true o = true) (hp : PTab w) (hlen : (prn 32 o).length ≤ 140737480000000) :
    Calls Tryd.prog 8 #[.agg o.cells.toArray] w fun e w' => ∃ v, e = .returned (.tuple #[v, .int .i64 0]) ∧ BytesAt w' v (prn 32 o) ∧ Up w w' := by
  have HS : Hid (∀ W, Up w W → Calls Tryd.prog 10 #[.agg o.cells.toArray] W fun e w' => e = .returned (.bool true) ∧ Up W w') := Lib.hid (fun W hu => by rw [← hs]; exact pSound_calls j o W (h.up hu) hj)
  have HW := Lib.hid (fun (W : World) (hu : Up w W) => write_all 32 true j o W (h.up hu) hj hs (hp.up hu))
  obtain ⟨R, hR⟩ : ∃ R, prn 32 o = R := ⟨_, rfl⟩
  have HNE := Lib.hid (show R ≠ [] by rw [← hR]; exact prn_ne 32 o)
  rw [hR] at HW hlen ⊢
  clear hR h hj hs hp
  obtain ⟨k, n, t, ka, kl, kc, ks, la, ll, lc, l, da, dl, dc, d⟩ := o
  have HS2 : Hid (∀ W, Up w W → Calls Tryd.prog 10 #[.agg #[.int .i64 k, .int .i64 n, .string ⟨t.toArray⟩, .slice ka kl kc, .slice la ll lc, .slice da dl dc]] W fun e w' => e = .returned (.bool true) ∧ Up W w') := HS
  have HW2 : Hid (∀ W, Up w W → WrC W R #[.int .i64 k, .int .i64 n, .string ⟨t.toArray⟩, .slice ka kl kc, .slice la ll lc, .slice da dl dc]) := HW
  show Calls _ _ #[.agg #[.int .i64 k, .int .i64 n, .string ⟨t.toArray⟩, .slice ka kl kc, .slice la ll lc, .slice da dl dc]] _ _
  clear HS HW
  go_enter Tryd.func8, Tryd.ntmps8
  go_wp2_with (first
    | (go_at_call 10; ((with_reducible refine Calls.mono (HS2.out _ ?_) ?_); (focus ((repeat' (first | (with_reducible exact Up.refl _) | (with_reducible assumption) | (with_reducible refine Up.alloc ?_ _) | (with_reducible refine Up.drew ?_) | (with_reducible refine Up.drewN ?_ _) | (with_reducible refine Up.setCell ?_ ?_ _) | (with_reducible refine Up.call ?_ (by with_reducible assumption)) | go_size)))); rintro e w1 ⟨rfl, hu1⟩; have k_w1 := hu1.cells.1; have f_w1 := hu1.cells.2; have z_w1 := hu1.size; (try simp at z_w1); have l0_w1 : w.heap.size < w1.heap.size := (by omega)))
    | (go_at_call 16; ((refine Calls.mono (HW2.out w1 (by (repeat' (first | (with_reducible exact Up.refl _) | (with_reducible assumption) | (with_reducible refine Up.alloc ?_ _) | (with_reducible refine Up.drew ?_) | (with_reducible refine Up.drewN ?_ _) | (with_reducible refine Up.setCell ?_ ?_ _) | (with_reducible refine Up.call ?_ (by with_reducible assumption)) | go_size))) w1.heap.size w1.heap.size [] _ (Nat.le_refl _) (Up.alloc (Up.refl w1) _) (by simp) (Lib.fresh_isBuffer 42 5 w1) (by simp; omega)) ?_); rintro e w2 ⟨rfl, hI, hb, hok⟩; have HI := Lib.hid hI; have HU := Lib.hid (show Up w w2 from (show Up w w1 by (repeat' (first | (with_reducible exact Up.refl _) | (with_reducible assumption) | (with_reducible refine Up.alloc ?_ _) | (with_reducible refine Up.drew ?_) | (with_reducible refine Up.drewN ?_ _) | (with_reducible refine Up.setCell ?_ ?_ _) | (with_reducible refine Up.call ?_ (by with_reducible assumption)) | go_size))).call ((Up.alloc (Up.refl w1) _).trans hb)); clear hI hb hok))
    | (go_at_call 17; ((with_reducible refine (Tryd.Buffer_Bytes w1.heap.size w1.heap.size _ _ HI.out).mono ?_); rintro e w3 ⟨v, rfl, hown, n, hw3⟩; have HO := Lib.hid hown; have HU3 := Lib.hid (show Up w w3 by rw [hw3]; exact HU.out.drewN n); clear hown hw3)))
  go_returns
  refine ⟨v, rfl, ?_, HU3.out⟩
  have h9 : w3.ownsRow w1.heap.size 5 1 v R.length (Lib.byteCells R) := by
    have := HO.out
    rw [List.nil_append, Lib.byteCells_length] at this
    exact this
  obtain ⟨g, cap, rfl, -, h1, h2, h3, h4, h5⟩ := owns_some h9 (fun e => by
    subst e
    rcases h9.2 with ⟨_, h0⟩ | ⟨g, cap, cur, h0, _⟩
    · exact HNE.out (List.eq_nil_of_length_eq_zero h0)
    · cases h0)
  exact ⟨g, cap, rfl, h1, h2, h3, fun j hj => h5 j _ (byteCells_get _ j hj)⟩

set_option maxRecDepth 8000 in
theorem pprint_bad (j : Nat) (o : PO) (w : World) (h : POk w o) (hj : lightR j o = true) (hs : sndR 32 true o = false) :
    Calls Tryd.prog 8 #[.agg o.cells.toArray] w fun e w' => e = .returned (.tuple #[.slice none 0 0, .int .i64 22]) ∧ Up w w' := by
  have HS : Hid (∀ W, Up w W → Calls Tryd.prog 10 #[.agg o.cells.toArray] W fun e w' => e = .returned (.bool false) ∧ Up W w') := Lib.hid (fun W hu => by rw [← hs]; exact pSound_calls j o W (h.up hu) hj)
  obtain ⟨k, n, t, ka, kl, kc, ks, la, ll, lc, l, da, dl, dc, d⟩ := o
  have HS2 : Hid (∀ W, Up w W → Calls Tryd.prog 10 #[.agg #[.int .i64 k, .int .i64 n, .string ⟨t.toArray⟩, .slice ka kl kc, .slice la ll lc, .slice da dl dc]] W fun e w' => e = .returned (.bool false) ∧ Up W w') := HS
  show Calls _ _ #[.agg #[.int .i64 k, .int .i64 n, .string ⟨t.toArray⟩, .slice ka kl kc, .slice la ll lc, .slice da dl dc]] _ _
  clear HS h hj hs
  go_enter Tryd.func8, Tryd.ntmps8
  go_wp2_with (first
    | (go_at_call 10; ((with_reducible refine Calls.mono (HS2.out _ ?_) ?_); (focus ((repeat' (first | (with_reducible exact Up.refl _) | (with_reducible assumption) | (with_reducible refine Up.alloc ?_ _) | (with_reducible refine Up.drew ?_) | (with_reducible refine Up.drewN ?_ _) | (with_reducible refine Up.setCell ?_ ?_ _) | (with_reducible refine Up.call ?_ (by with_reducible assumption)) | go_size)))); rintro e w1 ⟨rfl, hu1⟩; have k_w1 := hu1.cells.1; have f_w1 := hu1.cells.2; have z_w1 := hu1.size; (try simp at z_w1); have l0_w1 : w.heap.size < w1.heap.size := (by omega))))
  go_returns
  exact ⟨rfl, by (repeat' (first | (with_reducible exact Up.refl _) | (with_reducible assumption) | (with_reducible refine Up.alloc ?_ _) | (with_reducible refine Up.drew ?_) | (with_reducible refine Up.drewN ?_ _) | (with_reducible refine Up.setCell ?_ ?_ _) | (with_reducible refine Up.call ?_ (by with_reducible assumption)) | go_size))⟩
end Go.Proofs.YtaafelkdhahaoaaDoor.Pob
