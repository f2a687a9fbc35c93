/- Sound objects whose bytes are the same are the same, and the other way round. No program in sight; no condition. -/
import Derived.Test.YtaafelkdhahaoaaDoorPobV
namespace Go.Proofs.YtaafelkdhahaoaaDoor.Pob
open Go.ChangeShapes Go.WideShapes Go.RowKit Go.Shelf
set_option linter.unusedVariables false
set_option linter.unusedSimpArgs false

def LeafG (o : PO) : Prop := o.ks = [] ∧ o.l = [] ∧ o.d = [] ∧ ((o.k = 0 ∧ o.n = 0 ∧ o.t = []) ∨ (o.k = 1 ∧ (o.n = 0 ∨ o.n = 1) ∧ o.t = []) ∨ (o.k = 2 ∧ o.t = []) ∨ (o.k = 3 ∧ o.t = []) ∨ (o.k = 4 ∧ o.n = 0) ∨ (o.k = 5 ∧ o.n = 0) ∨ (o.k = 8 ∧ o.t = [] ∧ 1 ≤ o.n))
def NodeG (o : PO) : Prop := o.n = 0 ∧ o.t = [] ∧ ((o.k = 6 ∧ o.ks = [] ∧ o.d = []) ∨ (o.k = 7 ∧ o.ks.length = o.l.length ∧ o.d = []) ∨ (o.k = 9 ∧ o.ks.length = o.l.length))
def Good : Nat → PO → Prop
  | 0, o => LeafG o
  | m + 1, o => LeafG o ∨ (NodeG o ∧ ∀ c ∈ o.l, Good m c)
theorem good_of : ∀ (m : Nat) (s : Bool) (o : PO) (w : World), POk w o → sndR m s o = true → Good m o := by
  have hleaf : ∀ (o : PO) (w : World), POk w o → leafR o = true → LeafG o := by
    intro o w h hs
    cases h with
    | mk k n t ka kl kc ks la ll lc l da dl dc d hn hk hl hc hd =>
    have e1 := hk.2.2.1
    have e2 := hl.2.2.1
    have e3 := hd.2.2.1
    have z1 : kl = 0 → ks = [] := fun h => List.eq_nil_of_length_eq_zero (by omega)
    have z2 : ll = 0 → l = [] := fun h => List.eq_nil_of_length_eq_zero (by omega)
    have z3 : dl = 0 → d = [] := fun h => List.eq_nil_of_length_eq_zero (by omega)
    simp only [LeafG, PO.k, PO.n, PO.t, PO.ks, PO.l, PO.d]
    simp only [leafR] at hs
    repeat' split at hs
    all_goals simp only [bareC, Bool.and_eq_true, Bool.or_eq_true, decide_eq_true_eq, Bool.false_eq_true, false_or, true_or, true_and, and_true] at hs
    · rename_i h0; exact ⟨z1 hs.1.1.2, z2 hs.1.2, z3 hs.2, Or.inl ⟨h0, hs.1.1.1.1, hs.1.1.1.2⟩⟩
    · rename_i h0 h1; exact ⟨z1 hs.1.1.1.2, z2 hs.1.1.2, z3 hs.1.2, Or.inr (Or.inl ⟨h1, hs.2, hs.1.1.1.1⟩)⟩
    · rename_i h0 h1 h2; exact ⟨z1 hs.1.1.1.1.2, z2 hs.1.1.1.2, z3 hs.1.1.2, Or.inr (Or.inr (Or.inl ⟨h2, hs.1.1.1.1.1⟩))⟩
    · rename_i h0 h1 h2 h3; exact ⟨z1 hs.1.1.1.2, z2 hs.1.1.2, z3 hs.1.2, Or.inr (Or.inr (Or.inr (Or.inl ⟨h3, hs.1.1.1.1⟩)))⟩
    · rename_i h0 h1 h2 h3 h4; exact ⟨z1 hs.1.1.1.2, z2 hs.1.1.2, z3 hs.1.2, Or.inr (Or.inr (Or.inr (Or.inr (Or.inl ⟨h4, hs.1.1.1.1⟩))))⟩
    · rename_i h0 h1 h2 h3 h4 h5; exact ⟨z1 hs.1.1.1.2, z2 hs.1.1.2, z3 hs.1.2, Or.inr (Or.inr (Or.inr (Or.inr (Or.inr (Or.inl ⟨h5, hs.1.1.1.1⟩)))))⟩
    · rename_i h0 h1 h2 h3 h4 h5 h8; exact ⟨z1 hs.1.1.1.1.2, z2 hs.1.1.1.2, z3 hs.1.1.2, Or.inr (Or.inr (Or.inr (Or.inr (Or.inr (Or.inr ⟨h8, hs.1.1.1.1.1, hs.1.2⟩)))))⟩
  intro m
  induction m with
  | zero => intro s o w h hs; exact hleaf o w h hs
  | succ m ih =>
    intro s o w h hs
    simp only [sndR, Bool.or_eq_true, Bool.and_eq_true, List.all_eq_true] at hs
    rcases hs with hs | ⟨hs, hall⟩
    · exact Or.inl (hleaf o w h hs)
    · right
      cases h with
      | mk k n t ka kl kc ks la ll lc l da dl dc d hn hk hl hc hd =>
      refine ⟨?_, fun c hm => ih false c w (hc c hm) (hall c hm)⟩
      have e1 := hk.2.2.1
      have e2 := hl.2.2.1
      have e3 := hd.2.2.1
      have z1 : kl = 0 → ks = [] := fun h => List.eq_nil_of_length_eq_zero (by omega)
      have z3 : dl = 0 → d = [] := fun h => List.eq_nil_of_length_eq_zero (by omega)
      simp only [NodeG, PO.k, PO.n, PO.t, PO.ks, PO.l, PO.d]
      simp only [nodeR] at hs
      repeat' split at hs
      all_goals simp only [bareC, Bool.and_eq_true, Bool.or_eq_true, decide_eq_true_eq, Bool.false_eq_true, false_or, true_or, true_and, and_true] at hs
      · rename_i h6; exact ⟨hs.1.1.1, hs.1.1.2, Or.inl ⟨h6, z1 hs.1.2, z3 hs.2⟩⟩
      · rename_i h6 h7; exact ⟨hs.1.1.1.1, hs.1.1.1.2, Or.inr (Or.inl ⟨h7, by omega, z3 hs.1.1.2⟩)⟩
      · rename_i h6 h7 h9; exact ⟨hs.2.1.1.1.1, hs.2.1.1.1.2, Or.inr (Or.inr ⟨h9, by omega⟩)⟩

/-- what may stand behind an object -/
def NoR (s : List UInt8) : Prop := ∀ z, s ≠ 48 :: 32 :: 82 :: z
def Cont (r : List UInt8) : Prop := (∀ c s, r = c :: s → wrd c = false) ∧ ∀ s, r = 32 :: s → (∀ z, s ≠ 82 :: z) ∧ NoR s
theorem cont_nil : Cont [] := ⟨fun c s h => (by cases h), fun s h => (by cases h)⟩
theorem cont_93 (r : List UInt8) : Cont (93 :: r) := ⟨fun c s h => by rw [← (List.cons.inj h).1]; rfl, fun s h => absurd (List.cons.inj h).1 (by decide)⟩
theorem cont_sp (c : UInt8) (r : List UInt8) (h1 : c ≠ 82) (h2 : c ≠ 48) : Cont (32 :: c :: r) :=
  ⟨fun x s h => by rw [← (List.cons.inj h).1]; rfl, fun s h => by
    obtain ⟨-, rfl⟩ := List.cons.inj h
    exact ⟨fun z e => h1 (List.cons.inj e).1, fun z e => h2 (List.cons.inj e).1⟩⟩

/-- an object's first byte -/
def cl (k : Int) : Nat := if k = 0 then 0 else if k = 1 then 1 else if k = 4 then 4 else if k = 5 then 5 else if k = 6 then 6 else if k = 7 ∨ k = 9 then 7 else 2
def cls (c : UInt8) : Nat := if c = 110 then 0 else if c = 116 ∨ c = 102 then 1 else if c = 47 then 4 else if c = 40 then 5 else if c = 91 then 6 else if c = 60 then 7 else if sgnC c then 2 else 99
theorem cls_sgn (c : UInt8) (h : sgnC c = true) : cls c = 2 := by
  have := all256 (fun c => !sgnC c || decide (cls c = 2)) (by decide +kernel) c
  rw [h] at this; simpa using this
theorem sdL_head (s : Bool) (q : Nat) : ∃ c z, sdL s q = c :: z ∧ cls c = 2 := by
  obtain ⟨c, z, e⟩ : ∃ c z, sdL s q = c :: z := by
    cases h : sdL s q with
    | nil => unfold sdL at h; cases s
             · exact absurd h (decL_ne q)
             · cases h
    | cons c z => exact ⟨c, z, rfl⟩
  exact ⟨c, z, e, cls_sgn c (sdL_sgn s q c (by rw [e]; simp))⟩
theorem leaf_head {o : PO} (h : LeafG o) : ∃ c z, leafP o = c :: z ∧ cls c = cl o.k := by
  obtain ⟨k, n, t, ka, kl, kc, ks, la, ll, lc, l, da, dl, dc, d⟩ := o
  obtain ⟨-, -, -, h⟩ := h
  simp only [PO.k, PO.n, PO.t] at h ⊢
  rcases h with ⟨rfl, -⟩ | ⟨rfl, -⟩ | ⟨rfl, -⟩ | ⟨rfl, -⟩ | ⟨rfl, -⟩ | ⟨rfl, -⟩ | ⟨rfl, -⟩
  · exact ⟨110, _, rfl, rfl⟩
  · by_cases hn : n = 1
    · exact ⟨116, [114, 117, 101], by simp [leafP, hn], rfl⟩
    · exact ⟨102, [97, 108, 115, 101], by simp [leafP, hn], rfl⟩
  · obtain ⟨c, z, e, hc⟩ := sdL_head (decide (n < 0)) n.natAbs
    exact ⟨c, z, by simp [leafP, intL_sd, e], hc⟩
  · obtain ⟨c, z, e, hc⟩ := sdL_head (decide (n < 0)) (n.natAbs / 65536)
    exact ⟨c, z ++ 46 :: tailR (n.natAbs % 65536), by simp [leafP, prR_form, e], hc⟩
  · exact ⟨47, _, rfl, rfl⟩
  · exact ⟨40, _, rfl, rfl⟩
  · obtain ⟨c, z, e, hc⟩ := sdL_head (decide (n < 0)) n.natAbs
    exact ⟨c, z ++ [32, 48, 32, 82], by simp [leafP, intL_sd, e], hc⟩
theorem leaf_k {o : PO} (h : LeafG o) : ¬ (o.k = 6 ∨ o.k = 7 ∨ o.k = 9) := by
  obtain ⟨-, -, -, h⟩ := h
  rcases h with ⟨e, -⟩ | ⟨e, -⟩ | ⟨e, -⟩ | ⟨e, -⟩ | ⟨e, -⟩ | ⟨e, -⟩ | ⟨e, -⟩ <;> rw [e] <;> decide
theorem prn_head : ∀ (m : Nat) (o : PO), Good m o → ∃ c z, prn m o = c :: z ∧ cls c = cl o.k
  | 0, o, h => leaf_head h
  | m + 1, o, h => by
    rcases h with h | ⟨⟨-, -, h⟩, -⟩
    · rw [prn_leaf _ (leaf_k h)]; exact leaf_head h
    · rcases h with ⟨e, -⟩ | ⟨e, -⟩ | ⟨e, -⟩
      · exact ⟨91, _, by simp [prn, e]; rfl, by rw [e]; rfl⟩
      · exact ⟨60, _, by simp [prn, e, dictP]; rfl, by rw [e]; rfl⟩
      · exact ⟨60, _, by simp [prn, e, dictP]; rfl, by rw [e]; rfl⟩
theorem head_ne {m : Nat} {o : PO} (h : Good m o) {c : UInt8} {z : List UInt8} (e : prn m o = c :: z) : c ≠ 82 := by
  obtain ⟨c', z', e', hc⟩ := prn_head m o h
  rw [e] at e'
  obtain ⟨rfl, -⟩ := List.cons.inj e'
  rintro rfl
  have h9 : cls 82 = 99 := by decide
  rw [h9] at hc
  unfold cl at hc
  repeat' split at hc
  all_goals omega
theorem word_second {u : List UInt8} (hu : ∀ x ∈ u, wrd x = true) {z : List UInt8} : u ≠ 48 :: 32 :: z := by
  intro e
  have := hu 32 (by rw [e]; simp)
  exact absurd this (by decide)
/-- a nought alone is an integer -/
theorem prn_nought {m : Nat} {o : PO} (h : Good m o) {z : List UInt8} : prn m o ≠ 48 :: 32 :: z := by
  intro e
  obtain ⟨c', z', e', hc⟩ := prn_head m o h
  rw [e] at e'
  obtain ⟨rfl, -⟩ := List.cons.inj e'
  have h9 : cls 48 = 2 := by decide
  rw [h9] at hc
  have hk : ¬ (o.k = 6 ∨ o.k = 7 ∨ o.k = 9) := by
    rintro (h | h | h) <;> rw [h] at hc <;> exact absurd hc (by decide)
  have hl : LeafG o := by
    cases m with
    | zero => exact h
    | succ m =>
      rcases h with h | ⟨⟨-, -, h⟩, -⟩
      · exact h
      · exact absurd (h.imp (fun x => x.1) (Or.imp (fun x => x.1) (fun x => x.1))) hk
  rw [prn_leaf _ hk] at e
  obtain ⟨k, n, t, ka, kl, kc, ks, la, ll, lc, l, da, dl, dc, d⟩ := o
  obtain ⟨-, -, -, hl⟩ := hl
  simp only [PO.k, PO.n, PO.t] at hl hc
  rcases hl with ⟨rfl, -⟩ | ⟨rfl, -⟩ | ⟨rfl, -⟩ | ⟨rfl, -⟩ | ⟨rfl, -⟩ | ⟨rfl, -⟩ | ⟨rfl, -, h1⟩
  · exact absurd hc (by decide)
  · exact absurd hc (by decide)
  · exact word_second (intL_wrd n) e
  · exact word_second (prR_wrd n) e
  · exact absurd hc (by decide)
  · exact absurd hc (by decide)
  · have e2 : intL n ++ 32 :: [48, 32, 82] = [48] ++ 32 :: z := e
    obtain ⟨h3, -⟩ := split_by wrd _ _ _ _ (intL_wrd n) (fun x hx => by rw [List.mem_singleton.1 hx]; rfl) (fun c s h => by rw [← (List.cons.inj h).1]; rfl) (fun c s h => by rw [← (List.cons.inj h).1]; rfl) e2
    have h4 : n = 0 := intL_inj (h3.trans (by show [48] = intL 0; unfold intL; rw [if_neg (by decide)]; exact (decL_small (n := 0) (by decide)).symm))
    omega
theorem cont_elem {m : Nat} {o : PO} (h : Good m o) {rest : List UInt8} (hr : Cont rest) : Cont (32 :: (prn m o ++ rest)) := by
  refine ⟨fun x s e => by rw [← (List.cons.inj e).1]; rfl, fun s e => ?_⟩
  obtain ⟨-, rfl⟩ := List.cons.inj e
  obtain ⟨c, z, e2, hc⟩ := prn_head m o h
  refine ⟨fun y e3 => ?_, fun y e3 => ?_⟩
  · rw [e2] at e3
    exact head_ne h e2 (List.cons.inj e3).1
  · rw [e2] at e3
    obtain ⟨rfl, e4⟩ := List.cons.inj e3
    cases z with
    | nil =>
      have := (hr.2 _ e4).1
      exact this y rfl
    | cons c2 z2 =>
      obtain ⟨rfl, -⟩ := List.cons.inj e4
      exact prn_nought h e2

def Same (a b : PO) : Prop := a.k = b.k ∧ a.n = b.n ∧ a.t = b.t ∧ a.ks = b.ks ∧ a.d = b.d ∧ a.l = [] ∧ b.l = []
/-- two objects without parts -/
theorem leaf_inj {a b : PO} (ha : LeafG a) (hb : LeafG b) {r1 r2 : List UInt8} (h1 : Cont r1) (h2 : Cont r2) (h : leafP a ++ r1 = leafP b ++ r2) : Same a b ∧ r1 = r2 := by
  obtain ⟨c1, z1, e1, g1⟩ := leaf_head ha
  obtain ⟨c2, z2, e2, g2⟩ := leaf_head hb
  have hcl : cl a.k = cl b.k := by
    rw [e1, e2] at h
    obtain ⟨rfl, -⟩ := List.cons.inj h
    rw [← g1, g2]
  clear e1 e2 g1 g2
  obtain ⟨k, n, t, ka, kl, kc, ks, la, ll, lc, l, da, dl, dc, d⟩ := a
  obtain ⟨k', n', t', ka', kl', kc', ks', la', ll', lc', l', da', dl', dc', d'⟩ := b
  obtain ⟨x1, x2, x3, ha⟩ := ha
  obtain ⟨y1, y2, y3, hb⟩ := hb
  simp only [PO.k, PO.n, PO.t, PO.ks, PO.l, PO.d] at x1 x2 x3 y1 y2 y3 ha hb hcl
  subst x1 x2 x3 y1 y2 y3
  have s1 : ∀ c s, r1 = c :: s → wrd c = false := h1.1
  have s2 : ∀ c s, r2 = c :: s → wrd c = false := h2.1
  have refW : ∀ (n : Int) (r : List UInt8), (intL n ++ [32, 48, 32, 82]) ++ r = intL n ++ 32 :: 48 :: 32 :: 82 :: r := fun n r => by simp
  have s3 : ∀ (r : List UInt8) c s, 32 :: 48 :: 32 :: 82 :: r = c :: s → wrd c = false := fun r c s e => by rw [← (List.cons.inj e).1]; rfl
  simp only [Same, PO.k, PO.n, PO.t, PO.ks, PO.l, PO.d, and_true, true_and]
  rcases ha with ⟨rfl, rfl, rfl⟩ | ⟨rfl, hn, rfl⟩ | ⟨rfl, rfl⟩ | ⟨rfl, rfl⟩ | ⟨rfl, rfl⟩ | ⟨rfl, rfl⟩ | ⟨rfl, rfl, hn⟩
  · rcases hb with ⟨rfl, rfl, rfl⟩ | ⟨rfl, hn', rfl⟩ | ⟨rfl, rfl⟩ | ⟨rfl, rfl⟩ | ⟨rfl, rfl⟩ | ⟨rfl, rfl⟩ | ⟨rfl, rfl, hn'⟩
    · exact ⟨⟨rfl, rfl, rfl⟩, List.append_cancel_left h⟩
    all_goals exact absurd hcl (by decide)
  · rcases hb with ⟨rfl, rfl, rfl⟩ | ⟨rfl, hn', rfl⟩ | ⟨rfl, rfl⟩ | ⟨rfl, rfl⟩ | ⟨rfl, rfl⟩ | ⟨rfl, rfl⟩ | ⟨rfl, rfl, hn'⟩
    · exact absurd hcl (by decide)
    · rcases hn with rfl | rfl <;> rcases hn' with rfl | rfl
      · exact ⟨⟨rfl, rfl, rfl⟩, List.append_cancel_left h⟩
      · exact absurd (List.cons.inj h).1 (by decide)
      · exact absurd (List.cons.inj h).1 (by decide)
      · exact ⟨⟨rfl, rfl, rfl⟩, List.append_cancel_left h⟩
    all_goals exact absurd hcl (by decide)
  · rcases hb with ⟨rfl, rfl, rfl⟩ | ⟨rfl, hn', rfl⟩ | ⟨rfl, rfl⟩ | ⟨rfl, rfl⟩ | ⟨rfl, rfl⟩ | ⟨rfl, rfl⟩ | ⟨rfl, rfl, hn'⟩
    · exact absurd hcl (by decide)
    · exact absurd hcl (by decide)
    · have h' : intL n ++ r1 = intL n' ++ r2 := h
      obtain ⟨h3, h4⟩ := split_by wrd _ _ _ _ (intL_wrd n) (intL_wrd n') s1 s2 h'
      exact ⟨⟨rfl, intL_inj h3, rfl⟩, h4⟩
    · have h' : intL n ++ r1 = prR n' ++ r2 := h
      obtain ⟨h3, h4⟩ := split_by wrd _ _ _ _ (intL_wrd n) (prR_wrd n') s1 s2 h'
      rw [prR_form] at h3
      exact absurd h3 (dot_int _ _ _ _)
    · exact absurd hcl (by decide)
    · exact absurd hcl (by decide)
    · have h' : intL n ++ r1 = (intL n' ++ [32, 48, 32, 82]) ++ r2 := h
      rw [refW] at h'
      obtain ⟨h3, h4⟩ := split_by wrd _ _ _ _ (intL_wrd n) (intL_wrd n') s1 (s3 r2) h'
      exact absurd rfl ((h1.2 _ h4).2 r2)
  · rcases hb with ⟨rfl, rfl, rfl⟩ | ⟨rfl, hn', rfl⟩ | ⟨rfl, rfl⟩ | ⟨rfl, rfl⟩ | ⟨rfl, rfl⟩ | ⟨rfl, rfl⟩ | ⟨rfl, rfl, hn'⟩
    · exact absurd hcl (by decide)
    · exact absurd hcl (by decide)
    · have h' : prR n ++ r1 = intL n' ++ r2 := h
      obtain ⟨h3, h4⟩ := split_by wrd _ _ _ _ (prR_wrd n) (intL_wrd n') s1 s2 h'
      rw [prR_form] at h3
      exact absurd h3.symm (dot_int _ _ _ _)
    · have h' : prR n ++ r1 = prR n' ++ r2 := h
      obtain ⟨h3, h4⟩ := split_by wrd _ _ _ _ (prR_wrd n) (prR_wrd n') s1 s2 h'
      exact ⟨⟨rfl, prR_inj h3, rfl⟩, h4⟩
    · exact absurd hcl (by decide)
    · exact absurd hcl (by decide)
    · have h' : prR n ++ r1 = (intL n' ++ [32, 48, 32, 82]) ++ r2 := h
      rw [refW] at h'
      obtain ⟨h3, h4⟩ := split_by wrd _ _ _ _ (prR_wrd n) (intL_wrd n') s1 (s3 r2) h'
      rw [prR_form] at h3
      exact absurd h3.symm (dot_int _ _ _ _)
  · rcases hb with ⟨rfl, rfl, rfl⟩ | ⟨rfl, hn', rfl⟩ | ⟨rfl, rfl⟩ | ⟨rfl, rfl⟩ | ⟨rfl, rfl⟩ | ⟨rfl, rfl⟩ | ⟨rfl, rfl, hn'⟩
    · exact absurd hcl (by decide)
    · exact absurd hcl (by decide)
    · exact absurd hcl (by decide)
    · exact absurd hcl (by decide)
    · have h' : enc t ++ r1 = enc t' ++ r2 := (List.cons.inj h).2
      obtain ⟨h3, h4⟩ := split_by wrd _ _ _ _ (enc_wrd t) (enc_wrd t') s1 s2 h'
      exact ⟨⟨rfl, rfl, enc_inj _ _ h3⟩, h4⟩
    · exact absurd hcl (by decide)
    · exact absurd hcl (by decide)
  · rcases hb with ⟨rfl, rfl, rfl⟩ | ⟨rfl, hn', rfl⟩ | ⟨rfl, rfl⟩ | ⟨rfl, rfl⟩ | ⟨rfl, rfl⟩ | ⟨rfl, rfl⟩ | ⟨rfl, rfl, hn'⟩
    · exact absurd hcl (by decide)
    · exact absurd hcl (by decide)
    · exact absurd hcl (by decide)
    · exact absurd hcl (by decide)
    · exact absurd hcl (by decide)
    · have h' : (txt t ++ [41]) ++ r1 = (txt t' ++ [41]) ++ r2 := (List.cons.inj h).2
      obtain ⟨h3, h4⟩ := txt_inj t t' r1 r2 (by simpa using h')
      exact ⟨⟨rfl, rfl, h3⟩, h4⟩
    · exact absurd hcl (by decide)
  · rcases hb with ⟨rfl, rfl, rfl⟩ | ⟨rfl, hn', rfl⟩ | ⟨rfl, rfl⟩ | ⟨rfl, rfl⟩ | ⟨rfl, rfl⟩ | ⟨rfl, rfl⟩ | ⟨rfl, rfl, hn'⟩
    · exact absurd hcl (by decide)
    · exact absurd hcl (by decide)
    · have h' : (intL n ++ [32, 48, 32, 82]) ++ r1 = intL n' ++ r2 := h
      rw [refW] at h'
      obtain ⟨h3, h4⟩ := split_by wrd _ _ _ _ (intL_wrd n) (intL_wrd n') (s3 r1) s2 h'
      exact absurd rfl ((h2.2 _ h4.symm).2 r1)
    · have h' : (intL n ++ [32, 48, 32, 82]) ++ r1 = prR n' ++ r2 := h
      rw [refW] at h'
      obtain ⟨h3, h4⟩ := split_by wrd _ _ _ _ (intL_wrd n) (prR_wrd n') (s3 r1) s2 h'
      rw [prR_form] at h3
      exact absurd h3 (dot_int _ _ _ _)
    · exact absurd hcl (by decide)
    · exact absurd hcl (by decide)
    · have h' : (intL n ++ [32, 48, 32, 82]) ++ r1 = (intL n' ++ [32, 48, 32, 82]) ++ r2 := h
      rw [refW, refW] at h'
      obtain ⟨h3, h4⟩ := split_by wrd _ _ _ _ (intL_wrd n) (intL_wrd n') (s3 r1) (s3 r2) h'
      exact ⟨⟨rfl, intL_inj h3, rfl⟩, by simpa using h4⟩
end Go.Proofs.YtaafelkdhahaoaaDoor.Pob
