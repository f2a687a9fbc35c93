/- The reference's Print of any sound object; how long what is printed is. Its condition: an object that is not too large. -/
import Derived.Test.YtaafelkdhahaoaaDoorPobQ4
import Derived.Test.YtaafelkdhahaoaaDoorPobQ5
namespace Go.Proofs.YtaafelkdhahaoaaDoor.Pob
open Go.ChangeShapes Go.WideShapes Go.RowKit Go.Shelf
set_option linter.unusedVariables false
set_option linter.unusedSimpArgs false

theorem leaf_rp {w0 : World} {o : PO} (h : POk w0 o) (ht : o.t.length ≤ 70000) (hs : leafR o = true) : RPC w0 (leafP o) o.cells.toArray := by
  obtain ⟨k, n, t, ka, kl, kc, ks, la, ll, lc, l, da, dl, dc, d⟩ := o
  have ht2 : t.length ≤ 70000 := ht
  intro w hu
  show Calls _ _ #[.agg #[.int .i64 k, .int .i64 n, .string ⟨t.toArray⟩, .slice ka kl kc, .slice la ll lc, .slice da dl dc]] _ _
  by_cases k0 : k = 0
  · subst k0; exact rp_k0 n t ka kl kc la ll lc da dl dc w
  by_cases k1 : k = 1
  · subst k1
    by_cases hn : n = 1
    · rw [show leafP (.mk 1 n t ka kl kc ks la ll lc l da dl dc d) = [116, 114, 117, 101] by simp [leafP, hn]]
      exact rp_k1t n t ka kl kc la ll lc da dl dc hn w
    · rw [show leafP (.mk 1 n t ka kl kc ks la ll lc l da dl dc d) = [102, 97, 108, 115, 101] by simp [leafP, hn]]
      exact rp_k1f n t ka kl kc la ll lc da dl dc hn w
  by_cases k2 : k = 2
  · subst k2
    have hs2 : (bareC n t kl ll dl true false false false false && decide (-2147483648 ≤ n) && decide (n ≤ 2147483647)) = true := hs
    simp only [Bool.and_eq_true, decide_eq_true_eq] at hs2
    exact rp_k2 n t ka kl kc la ll lc da dl dc hs2.1.2 hs2.2 w
  by_cases k3 : k = 3
  · subst k3
    have hs2 : (bareC n t kl ll dl true false false false false && (decide (-2147483648 ≤ n) && decide (n ≤ 2147483647))) = true := hs
    simp only [Bool.and_eq_true, decide_eq_true_eq] at hs2
    exact rp_k3 n t ka kl kc la ll lc da dl dc hs2.2.1 hs2.2.2 w
  by_cases k4 : k = 4
  · subst k4; exact rp_k4 n t ka kl kc la ll lc da dl dc ht2 w
  by_cases k5 : k = 5
  · subst k5; exact rp_k5 n t ka kl kc la ll lc da dl dc ht2 w
  by_cases k8 : k = 8
  · subst k8
    have hs2 : (bareC n t kl ll dl true false false false false && decide (1 ≤ n) && decide (n ≤ 4096)) = true := hs
    simp only [Bool.and_eq_true, decide_eq_true_eq] at hs2
    exact rp_k8 n t ka kl kc la ll lc da dl dc (by omega) (by omega) w
  exfalso
  have hs2 : leafR (.mk k n t ka kl kc ks la ll lc l da dl dc d) = false := by simp only [leafR, if_neg k0, if_neg k1, if_neg k2, if_neg k3, if_neg k4, if_neg k5, if_neg k8]
  rw [hs] at hs2
  cases hs2
theorem mem_le_els (f : PO → List UInt8) (l : List PO) {c : PO} (h : c ∈ l) : (f c).length ≤ (elsP f l l.length).length := by
  obtain ⟨i, hi⟩ := List.getElem?_of_mem h
  have hlt := (List.getElem?_eq_some_iff.1 hi).1
  have := els_le f l hlt
  rw [getD_of hi] at this
  omega
theorem mem_le_par (f : PO → List UInt8) (ks : List (List UInt8)) (l : List PO) (hkl : ks.length = l.length) {c : PO} (h : c ∈ l) : (f c).length ≤ (parP f ks l ks.length).length := by
  obtain ⟨i, hi⟩ := List.getElem?_of_mem h
  have hlt := (List.getElem?_eq_some_iff.1 hi).1
  have := par_le f ks l (i := i) (n := ks.length) (by omega)
  rw [getD_of hi] at this
  omega
theorem rprint_all : ∀ (m : Nat) (s : Bool) (j : Nat) (o : PO) (w0 : World), POk w0 o → lightR j o = true → sndR m s o = true → (prn m o).length ≤ 140737480000000 → RPC w0 (prn m o) o.cells.toArray := by
  intro m
  induction m with
  | zero =>
    intro s j o w0 h hj hs hn
    obtain ⟨j, rfl, j1, j2, j3, j4, j5, j6⟩ := lightR_elim hj
    exact leaf_rp h j3 hs
  | succ m ih =>
    intro s j o w0 h hj hs hlen
    obtain ⟨j, rfl, j1, j2, j3, j4, j5, j6⟩ := lightR_elim hj
    by_cases hn : o.k = 6 ∨ o.k = 7 ∨ o.k = 9
    · have hs2 : (nodeR s o && o.l.all (sndR m false)) = true := by
        have := hs
        simp only [sndR, leaf_node hn, Bool.false_or] at this
        exact this
      rw [Bool.and_eq_true, List.all_eq_true] at hs2
      obtain ⟨hs3, hs4⟩ := hs2
      cases h with
      | mk k n t ka kl kc ks la ll lc l da dl dc d hnw hk hl hc hd =>
      have j5 : ∀ x ∈ ks, x.length ≤ 300 := j5
      have j8 : dl ≤ 5000 := by rw [← hd.2.2.1]; exact j4
      have hkn := hk.2.2.1
      have hln := hl.2.2.1
      have hn2 : k = 6 ∨ k = 7 ∨ k = 9 := hn
      intro w hu
      show Calls _ _ #[.agg #[.int .i64 k, .int .i64 n, .string ⟨t.toArray⟩, .slice ka kl kc, .slice la ll lc, .slice da dl dc]] _ _
      rcases hn2 with rfl | rfl | rfl
      · rw [show prn (m + 1) (.mk 6 n t ka kl kc ks la ll lc l da dl dc d) = 91 :: (elsP (prn m) l l.length ++ [93]) by simp [prn, PO.k, PO.l]] at hlen ⊢
        have hlen2 : (elsP (prn m) l l.length).length ≤ 140737480000000 := by simp only [List.length_cons, List.length_append, List.length_nil] at hlen; omega
        exact rp_k6 n t ka kl kc la ll lc da dl dc l (prn m) w0 hl (fun c hm => ih false j c w0 (hc c hm) (j6 c hm) (hs4 c hm) (Nat.le_trans (mem_le_els (prn m) l hm) hlen2)) hlen2 w hu
      · rw [show prn (m + 1) (.mk 7 n t ka kl kc ks la ll lc l da dl dc d) = dictP (prn m) ks l [] by simp [prn, PO.k, PO.l, PO.ks]] at hlen ⊢
        have hs5 : (bareC n t kl ll dl false false true true false && decide (kl = ll) && distR ks) = true := hs3
        simp only [Bool.and_eq_true, decide_eq_true_eq] at hs5
        have hkl := hs5.1.2
        have hlen2 : (parP (prn m) ks l ks.length).length ≤ 140737480000000 := by unfold dictP at hlen; simp only [List.length_cons, List.length_append, List.length_nil] at hlen; omega
        exact rp_k7 n t ka kl kc la ll lc da dl dc ks l (prn m) w0 hk hl hkl j5 (fun c hm => ih false j c w0 (hc c hm) (j6 c hm) (hs4 c hm) (Nat.le_trans (mem_le_par (prn m) ks l (by omega) hm) hlen2)) hlen2 w hu
      · rw [show prn (m + 1) (.mk 9 n t ka kl kc ks la ll lc l da dl dc d) = (dictP (prn m) ks l (lenP d.length) ++ ([10, 115, 116, 114, 101, 97, 109, 10] ++ (d ++ [10, 101, 110, 100, 115, 116, 114, 101, 97, 109]))) by simp [prn, PO.k, PO.l, PO.ks, PO.d]] at hlen ⊢
        have hs5 : (s && (bareC n t kl ll dl false false true true true && decide (kl = ll) && distR ks && !ks.contains lenKey)) = true := hs3
        simp only [Bool.and_eq_true, decide_eq_true_eq] at hs5
        have hkl := hs5.2.1.1.2
        have hlen2 : (parP (prn m) ks l ks.length).length ≤ 140737480000000 := by unfold dictP at hlen; simp only [List.length_cons, List.length_append, List.length_nil] at hlen; omega
        exact rp_k9 n t ka kl kc la ll lc da dl dc ks l d (prn m) w0 hk hl hd j8 hkl j5 (fun c hm => ih false j c w0 (hc c hm) (j6 c hm) (hs4 c hm) (Nat.le_trans (mem_le_par (prn m) ks l (by omega) hm) hlen2)) hlen2 w hu
    · rw [prn_leaf _ hn]
      rw [snd_leaf _ hn] at hs
      exact leaf_rp h j3 hs

/-- how long what is printed is -/
theorem flat_sum (g : Nat → List UInt8) (h : Nat → Nat) : ∀ n, (∀ i, i < n → (g i).length ≤ h i) → ((List.range n).flatMap g).length ≤ ((List.range n).map h).sum
  | 0, _ => Nat.le_refl _
  | n + 1, hn => by
    rw [List.range_succ, List.flatMap_append, List.length_append, List.map_append, List.sum_append]
    have h1 := flat_sum g h n (fun i hi => hn i (by omega))
    have h2 := hn n (by omega)
    simp only [List.flatMap_cons, List.flatMap_nil, List.append_nil, List.map_cons, List.map_nil, List.sum_cons, List.sum_nil]
    omega
theorem sum_getD {α : Type} (g : α → Nat) (d : α) : ∀ l : List α, ((List.range l.length).map (fun i => g (l.getD i d))).sum = (l.map g).sum := by
  intro l
  congr 1
  apply List.ext_getElem
  · simp
  · intro i h1 h2
    have : i < l.length := by simpa using h1
    simp [this]
theorem sum_mul (a : Nat) {α : Type} (g : α → Nat) : ∀ l : List α, (l.map (fun x => a * g x)).sum = a * (l.map g).sum
  | [] => rfl
  | x :: l => by simp only [List.map_cons, List.sum_cons, sum_mul a g l, Nat.mul_add]
theorem sum_add2 (g h : Nat → Nat) (l : List Nat) : (l.map (fun i => g i + h i)).sum = (l.map g).sum + (l.map h).sum := by
  induction l with
  | nil => rfl
  | cons a l ih => simp only [List.map_cons, List.sum_cons, ih]; omega
theorem leaf_bulk (o : PO) (ht : True) (hs : leafR o = true) : (leafP o).length + 1 ≤ 100010 * bulk 1 o := by
  obtain ⟨k, n, t, ka, kl, kc, ks, la, ll, lc, l, da, dl, dc, d⟩ := o
  have hb : t.length + 6 ≤ bulk 1 (.mk k n t ka kl kc ks la ll lc l da dl dc d) := by simp only [bulk, PO.t]; omega
  have he := enc_len t
  have hx := txt_len t
  have h9 : (leafP (.mk k n t ka kl kc ks la ll lc l da dl dc d)).length ≤ 4 * t.length + 100100 := by
    by_cases k0 : k = 0
    · subst k0; simp [leafP] <;> omega
    by_cases k1 : k = 1
    · subst k1
      by_cases hn : n = 1
      · simp [leafP, hn] <;> omega
      · simp [leafP, hn] <;> omega
    by_cases k2 : k = 2
    · subst k2
      have hs2 : (bareC n t kl ll dl true false false false false && decide (-2147483648 ≤ n) && decide (n ≤ 2147483647)) = true := hs
      simp only [Bool.and_eq_true, decide_eq_true_eq] at hs2
      have := intL_len n hs2.1.2 hs2.2
      show (intL n).length ≤ _
      omega
    by_cases k3 : k = 3
    · subst k3
      have hs2 : (bareC n t kl ll dl true false false false false && (decide (-2147483648 ≤ n) && decide (n ≤ 2147483647))) = true := hs
      simp only [Bool.and_eq_true, decide_eq_true_eq] at hs2
      have := prR_len n hs2.2.1 hs2.2.2
      show (prR n).length ≤ _
      omega
    by_cases k4 : k = 4
    · subst k4
      show (47 :: enc t).length ≤ _
      rw [List.length_cons]; omega
    by_cases k5 : k = 5
    · subst k5
      show (40 :: (txt t ++ [41])).length ≤ _
      rw [List.length_cons, List.length_append, List.length_singleton]; omega
    by_cases k8 : k = 8
    · subst k8
      have hs2 : (bareC n t kl ll dl true false false false false && decide (1 ≤ n) && decide (n ≤ 4096)) = true := hs
      simp only [Bool.and_eq_true, decide_eq_true_eq] at hs2
      have := intL_len n (by omega) (by omega)
      show (intL n ++ [32, 48, 32, 82]).length ≤ _
      rw [List.length_append]; simp; omega
    exfalso
    have hs2 : leafR (.mk k n t ka kl kc ks la ll lc l da dl dc d) = false := by simp only [leafR, if_neg k0, if_neg k1, if_neg k2, if_neg k3, if_neg k4, if_neg k5, if_neg k8]
    rw [hs] at hs2
    cases hs2
  omega
theorem bulk_mono1 (m : Nat) (o : PO) : bulk 1 o ≤ bulk (m + 1) o := by
  simp only [bulk]
  have : (o.l.map (fun _ => 0)).sum = 0 := by
    induction o.l with
    | nil => rfl
    | cons a l ih => simp only [List.map_cons, List.sum_cons, ih]
  omega
theorem els_bulk (m : Nat) (l : List PO) (h : ∀ c ∈ l, (prn m c).length + 1 ≤ 100010 * bulk (m + 1) c) : (elsP (prn m) l l.length).length ≤ 100010 * (l.map (bulk (m + 1))).sum := by
  rw [← sum_mul, ← sum_getD (fun x => 100010 * bulk (m + 1) x) dfl l]
  refine flat_sum _ _ l.length (fun i hi => ?_)
  have hx : l[i]? = some l[i] := List.getElem?_eq_getElem hi
  have := h l[i] (List.getElem_mem hi)
  rw [getD_of hx]
  split <;> simp <;> omega
theorem par_bulk (m : Nat) (ks : List (List UInt8)) (l : List PO) (hkl : ks.length = l.length) (h : ∀ c ∈ l, (prn m c).length + 1 ≤ 100010 * bulk (m + 1) c) : (parP (prn m) ks l ks.length).length ≤ 100010 * (l.map (bulk (m + 1))).sum + 4 * (ks.map (fun s => s.length + 1)).sum := by
  rw [← sum_mul, ← sum_mul, ← sum_getD (fun x => 100010 * bulk (m + 1) x) dfl l, ← sum_getD (fun s : List UInt8 => 4 * (s.length + 1)) [] ks, hkl, ← sum_add2]
  refine flat_sum _ _ l.length (fun i hi => ?_)
  have hx : l[i]? = some l[i] := List.getElem?_eq_getElem hi
  have h1 := h l[i] (List.getElem_mem hi)
  have h2 := enc_len (ks.getD i [])
  rw [getD_of hx]
  simp only [List.length_cons, List.length_append]
  omega
theorem prn_bulk : ∀ (m : Nat) (s : Bool) (j : Nat) (o : PO) (w0 : World), POk w0 o → lightR j o = true → sndR m s o = true → (prn m o).length + 1 ≤ 100010 * bulk (m + 1) o := by
  intro m
  induction m with
  | zero => intro s j o w0 _ _ hs; exact leaf_bulk o trivial hs
  | succ m ih =>
    intro s j o w0 h hj hs
    obtain ⟨j, rfl, j1, j2, j3, j4, j5, j6⟩ := lightR_elim hj
    by_cases hn : o.k = 6 ∨ o.k = 7 ∨ o.k = 9
    · have hs2 : (nodeR s o && o.l.all (sndR m false)) = true := by
        have := hs
        simp only [sndR, leaf_node hn, Bool.false_or] at this
        exact this
      rw [Bool.and_eq_true, List.all_eq_true] at hs2
      obtain ⟨hs3, hs4⟩ := hs2
      cases h with
      | mk k n t ka kl kc ks la ll lc l da dl dc d hnw hk hl hc hd =>
      have hkn := hk.2.2.1
      have hln := hl.2.2.1
      have hn2 : k = 6 ∨ k = 7 ∨ k = 9 := hn
      have hall : ∀ c ∈ l, (prn m c).length + 1 ≤ 100010 * bulk (m + 1) c := fun c hm => ih false j c w0 (hc c hm) (j6 c hm) (hs4 c hm)
      have hB : bulk (m + 2) (.mk k n t ka kl kc ks la ll lc l da dl dc d) = t.length + (ks.map (fun s => s.length + 1)).sum + d.length + (l.map (bulk (m + 1))).sum + 6 := rfl
      rcases hn2 with rfl | rfl | rfl
      · rw [show prn (m + 1) (.mk 6 n t ka kl kc ks la ll lc l da dl dc d) = 91 :: (elsP (prn m) l l.length ++ [93]) by simp [prn, PO.k, PO.l], hB]
        have := els_bulk m l hall
        simp only [List.length_cons, List.length_append, List.length_nil]
        omega
      · rw [show prn (m + 1) (.mk 7 n t ka kl kc ks la ll lc l da dl dc d) = dictP (prn m) ks l [] by simp [prn, PO.k, PO.l, PO.ks], hB]
        have hs5 : (bareC n t kl ll dl false false true true false && decide (kl = ll) && distR ks) = true := hs3
        simp only [Bool.and_eq_true, decide_eq_true_eq] at hs5
        have hkl := hs5.1.2
        have := par_bulk m ks l (by omega) hall
        unfold dictP
        simp only [List.length_cons, List.length_append, List.length_nil]
        omega
      · rw [show prn (m + 1) (.mk 9 n t ka kl kc ks la ll lc l da dl dc d) = (dictP (prn m) ks l (lenP d.length) ++ ([10, 115, 116, 114, 101, 97, 109, 10] ++ (d ++ [10, 101, 110, 100, 115, 116, 114, 101, 97, 109]))) by simp [prn, PO.k, PO.l, PO.ks, PO.d], hB]
        have hs5 : (s && (bareC n t kl ll dl false false true true true && decide (kl = ll) && distR ks && !ks.contains lenKey)) = true := hs3
        simp only [Bool.and_eq_true, decide_eq_true_eq] at hs5
        have hkl := hs5.2.1.1.2
        have := par_bulk m ks l (by omega) hall
        have j4 : d.length ≤ 5000 := j4
        have hi := intL_len (d.length : Int) (by omega) (by omega)
        unfold dictP lenP
        simp only [List.length_cons, List.length_append, List.length_nil]
        omega
    · rw [prn_leaf _ hn]
      rw [snd_leaf _ hn] at hs
      have h1 := leaf_bulk o trivial hs
      have h2 := bulk_mono1 (m + 1) o
      omega
end Go.Proofs.YtaafelkdhahaoaaDoor.Pob
