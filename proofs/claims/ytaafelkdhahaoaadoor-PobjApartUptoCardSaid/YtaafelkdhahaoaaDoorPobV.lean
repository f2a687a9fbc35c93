/- What is printed is read back in one way only. No program in sight; no condition. -/
import Derived.Test.YtaafelkdhahaoaaDoorPobQ6
namespace Go.Proofs.YtaafelkdhahaoaaDoor.Pob
open Go.ChangeShapes Go.WideShapes Go.RowKit Go.Shelf
set_option linter.unusedVariables false
set_option linter.unusedSimpArgs false

/-- are two objects the same, j deep? -/
def eqR : Nat → PO → PO → Bool
  | 0, _, _ => true
  | j + 1, a, b => decide (a.k = b.k) && decide (a.n = b.n) && decide (a.t = b.t) && decide (a.ks = b.ks) && decide (a.d = b.d) && decide (a.l.length = b.l.length) && (List.range a.l.length).all (fun i => eqR j (a.l.getD i dfl) (b.l.getD i dfl))

theorem split_by (p : UInt8 → Bool) : ∀ (u v r1 r2 : List UInt8), (∀ x ∈ u, p x = true) → (∀ x ∈ v, p x = true) → (∀ c s, r1 = c :: s → p c = false) → (∀ c s, r2 = c :: s → p c = false) → u ++ r1 = v ++ r2 → u = v ∧ r1 = r2
  | [], [], r1, r2, _, _, _, _, h => ⟨rfl, h⟩
  | [], d :: v, r1, r2, _, hv, h1, _, h => by
    have := h1 d (v ++ r2) h
    rw [hv d (by simp)] at this
    cases this
  | c :: u, [], r1, r2, hu, _, _, h2, h => by
    have := h2 c (u ++ r1) h.symm
    rw [hu c (by simp)] at this
    cases this
  | c :: u, d :: v, r1, r2, hu, hv, h1, h2, h => by
    simp only [List.cons_append, List.cons.injEq] at h
    obtain ⟨rfl, h⟩ := h
    obtain ⟨rfl, e⟩ := split_by p u v r1 r2 (fun x hx => hu x (List.mem_cons_of_mem _ hx)) (fun x hx => hv x (List.mem_cons_of_mem _ hx)) h1 h2 h
    exact ⟨rfl, e⟩

/-- digits -/
def dig (c : UInt8) : Bool := decide (48 ≤ c.toNat) && decide (c.toNat ≤ 57)
theorem dig_of (n : Nat) (h : n < 10) : dig (UInt8.ofNat (48 + n)) = true := by
  have h2 : n = 0 ∨ n = 1 ∨ n = 2 ∨ n = 3 ∨ n = 4 ∨ n = 5 ∨ n = 6 ∨ n = 7 ∨ n = 8 ∨ n = 9 := by omega
  rcases h2 with rfl | rfl | rfl | rfl | rfl | rfl | rfl | rfl | rfl | rfl <;> rfl
theorem decL_dig (n : Nat) : ∀ x ∈ decL n, dig x = true := by
  induction n using Nat.strongRecOn with
  | ind n ih =>
    by_cases h : n < 10
    · rw [decL_small h]; intro x hx; rw [List.mem_singleton.1 hx]; exact dig_of n h
    · rw [decL_big h]
      intro x hx
      rcases List.mem_append.1 hx with hx | hx
      · exact ih (n / 10) (by omega) x hx
      · rw [List.mem_singleton.1 hx]; exact dig_of _ (by omega)
def valL (l : List UInt8) : Nat := l.foldl (fun a c => a * 10 + (c.toNat - 48)) 0
theorem valL_snoc (l : List UInt8) (c : UInt8) : valL (l ++ [c]) = valL l * 10 + (c.toNat - 48) := by unfold valL; rw [List.foldl_append]; rfl
theorem val_digit (n : Nat) (h : n < 10) : (UInt8.ofNat (48 + n)).toNat - 48 = n := by rw [UInt8.toNat_ofNat']; omega
theorem valL_dec (n : Nat) : valL (decL n) = n := by
  induction n using Nat.strongRecOn with
  | ind n ih =>
    by_cases h : n < 10
    · rw [decL_small h]
      have := valL_snoc [] (UInt8.ofNat (48 + n))
      rw [List.nil_append] at this
      rw [this, val_digit n h]
      simp [valL]
    · rw [decL_big h, valL_snoc, ih (n / 10) (by omega), val_digit _ (by omega)]
      omega
theorem decL_inj {a b : Nat} (h : decL a = decL b) : a = b := by rw [← valL_dec a, h, valL_dec]
theorem dig45 : dig 45 = false := by decide
/-- a sign and digits -/
def sdL (neg : Bool) (q : Nat) : List UInt8 := if neg then 45 :: decL q else decL q
theorem sdL_inj {s1 s2 : Bool} {a b : Nat} (h : sdL s1 a = sdL s2 b) : s1 = s2 ∧ a = b := by
  unfold sdL at h
  cases s1 <;> cases s2
  · exact ⟨rfl, decL_inj (by simpa using h)⟩
  · have : dig 45 = true := decL_dig a 45 (by simp at h; rw [h]; simp)
    rw [dig45] at this; cases this
  · have : dig 45 = true := decL_dig b 45 (by simp at h; rw [← h]; simp)
    rw [dig45] at this; cases this
  · exact ⟨rfl, decL_inj (by simpa using h)⟩
theorem intL_sd (n : Int) : intL n = sdL (decide (n < 0)) n.natAbs := by
  unfold intL sdL
  by_cases h : n < 0 <;> simp [h]
theorem intL_inj {a b : Int} (h : intL a = intL b) : a = b := by
  rw [intL_sd, intL_sd] at h
  obtain ⟨h1, h2⟩ := sdL_inj h
  by_cases ha : a < 0 <;> by_cases hb : b < 0 <;> simp [ha, hb] at h1 <;> omega
/-- numbers' bytes -/
def numC (c : UInt8) : Bool := dig c || c == 45 || c == 46
def sgnC (c : UInt8) : Bool := dig c || c == 45
theorem sdL_sgn (s : Bool) (q : Nat) : ∀ x ∈ sdL s q, sgnC x = true := by
  intro x hx
  unfold sdL at hx
  cases s
  · simp [sgnC, decL_dig q x (by simpa using hx)]
  · rcases List.mem_cons.1 (by simpa using hx : x ∈ 45 :: decL q) with rfl | hx
    · rfl
    · simp [sgnC, decL_dig q x hx]
theorem fracL_dig : ∀ (k f : Nat), meas f ≤ k → ∀ x ∈ fracL f, dig x = true
  | 0, f, h => by
    by_cases h1 : 0 < f ∧ f < 65536
    · have := meas_lt h1; omega
    · rw [fracL, dif_neg h1]; simp
  | k + 1, f, h => by
    by_cases h1 : 0 < f ∧ f < 65536
    · rw [fracL_pos h1]
      intro x hx
      rcases List.mem_cons.1 hx with rfl | hx
      · exact dig_of _ (by omega)
      · exact fracL_dig k (f * 10 % 65536) (by have := meas_lt h1; omega) x hx
    · rw [fracL, dif_neg h1]; simp
theorem dig_eq {x y : Nat} (hx : x < 10) (hy : y < 10) (h : UInt8.ofNat (48 + x) = UInt8.ofNat (48 + y)) : x = y := by
  have h1 := val_digit x hx
  rw [h, val_digit y hy] at h1
  exact h1.symm
theorem frac_step {a b d e : Nat} (h1 : a * 10 / 65536 = b * 10 / 65536) (h2 : a * 10 % 65536 = b * 10 % 65536) : a = b := by omega
theorem fracL_inj (k : Nat) : ∀ (a b : Nat), (fracL a).length ≤ k → a < 65536 → b < 65536 → fracL a = fracL b → a = b := by
  induction k with
  | zero =>
    intro a b h ha hb e
    have h1 : fracL a = [] := List.eq_nil_of_length_eq_zero (by omega)
    rw [(fracL_nil ha).1 h1, (fracL_nil hb).1 (by rw [← e]; exact h1)]
  | succ k ih =>
    intro a b h ha hb e
    rcases Nat.eq_zero_or_pos a with hz | h1
    · subst hz
      rw [fracL_zero] at e
      exact ((fracL_nil hb).1 e.symm).symm
    · rcases Nat.eq_zero_or_pos b with hz | hb0
      · subst hz
        rw [fracL_zero] at e
        have := (fracL_nil ha).1 e
        omega
      · rw [fracL_pos ⟨h1, ha⟩] at e h
        rw [fracL_pos ⟨hb0, hb⟩] at e
        obtain ⟨e1, e2⟩ := List.cons.inj e
        rw [List.length_cons] at h
        have e3 := ih (a * 10 % 65536) (b * 10 % 65536) (Nat.le_of_succ_le_succ h) (Nat.mod_lt _ (by decide)) (Nat.mod_lt _ (by decide)) e2
        exact frac_step (d := 0) (e := 0) (dig_eq (by omega) (by omega) e1) e3
theorem fracL_zeroS {r : Nat} (h : r < 65536) : fracL r ≠ [48] := by
  intro e
  have h0 : 0 < r := by
    rcases Nat.eq_zero_or_pos r with hz | hz
    · subst hz; rw [fracL_zero] at e; cases e
    · exact hz
  rw [fracL_pos ⟨h0, h⟩] at e
  obtain ⟨e1, e2⟩ := List.cons.inj e
  have h2 := (fracL_nil (Nat.mod_lt _ (by decide))).1 e2
  have h1 : r * 10 / 65536 = 0 := dig_eq (by omega) (by decide) e1
  omega
def tailR (r : Nat) : List UInt8 := if fracL r = [] then [48] else fracL r
theorem prR_form (n : Int) : prR n = sdL (decide (n < 0)) (n.natAbs / 65536) ++ 46 :: tailR (n.natAbs % 65536) := by
  unfold prR prP prM fracP sdL tailR
  by_cases h0 : n.natAbs % 65536 = 0
  · rw [if_pos h0, if_pos h0, if_pos ((fracL_nil (Nat.mod_lt _ (by decide))).2 h0)]
    by_cases hn : n < 0 <;> simp [hn]
  · rw [if_neg h0, if_neg h0, if_neg (fun h => h0 ((fracL_nil (Nat.mod_lt _ (by decide))).1 h))]
    by_cases hn : n < 0 <;> simp [hn]
theorem tailR_inj {a b : Nat} (ha : a < 65536) (hb : b < 65536) (h : tailR a = tailR b) : a = b := by
  unfold tailR at h
  by_cases h1 : fracL a = [] <;> by_cases h2 : fracL b = []
  · rw [(fracL_nil ha).1 h1, (fracL_nil hb).1 h2]
  · rw [if_pos h1, if_neg h2] at h; exact absurd h.symm (fracL_zeroS hb)
  · rw [if_neg h1, if_pos h2] at h; exact absurd h (fracL_zeroS ha)
  · rw [if_neg h1, if_neg h2] at h; exact fracL_inj _ a b (Nat.le_refl _) ha hb h
theorem prR_inj {a b : Int} (h : prR a = prR b) : a = b := by
  rw [prR_form, prR_form] at h
  obtain ⟨h1, h2⟩ := split_by sgnC _ _ _ _ (sdL_sgn _ _) (sdL_sgn _ _) (fun c s e => by simp only [List.cons.injEq] at e; rw [← e.1]; rfl) (fun c s e => by simp only [List.cons.injEq] at e; rw [← e.1]; rfl) h
  obtain ⟨h3, h4⟩ := sdL_inj h1
  simp only [List.cons.injEq, true_and] at h2
  have h5 := tailR_inj (Nat.mod_lt _ (by decide)) (Nat.mod_lt _ (by decide)) h2
  by_cases ha : a < 0 <;> by_cases hb : b < 0 <;> simp [ha, hb] at h3 <;> omega
theorem tailR_dig (r : Nat) : ∀ x ∈ tailR r, dig x = true := by
  unfold tailR
  split
  · intro x hx; rw [List.mem_singleton.1 hx]; rfl
  · exact fracL_dig _ r (Nat.le_refl _)

/-- bytes of a word -/
def wrd (c : UInt8) : Bool := !(c == 32) && !(c == 93)
theorem sgn_wrd (c : UInt8) (h : sgnC c = true) : wrd c = true := by
  have := all256 (fun c => !sgnC c || wrd c) (by decide +kernel) c
  rw [h] at this; simpa using this
theorem dig_wrd (c : UInt8) (h : dig c = true) : wrd c = true := sgn_wrd c (by simp [sgnC, h])
theorem intL_wrd (n : Int) : ∀ x ∈ intL n, wrd x = true := fun x hx => sgn_wrd x (sdL_sgn _ _ x (by rw [← intL_sd]; exact hx))
theorem prR_wrd (n : Int) : ∀ x ∈ prR n, wrd x = true := by
  intro x hx
  rw [prR_form] at hx
  rcases List.mem_append.1 hx with hx | hx
  · exact sgn_wrd x (sdL_sgn _ _ x hx)
  · rcases List.mem_cons.1 hx with rfl | hx
    · rfl
    · exact dig_wrd x (tailR_dig _ x hx)
theorem enc_wrd (l : List UInt8) : ∀ x ∈ enc l, wrd x = true := by
  intro x hx
  have h1 := enc_reg l x hx
  have := all256 (fun c => !(regular c && decide (c.toNat ≤ 126)) || wrd c) (by decide +kernel) x
  rw [h1] at this; simpa using this
theorem dot_int (n : Int) (r : Nat) (s : Bool) (q : Nat) : intL n ≠ sdL s q ++ 46 :: tailR r := by
  intro e
  have h := sdL_sgn (decide (n < 0)) n.natAbs 46 (by rw [← intL_sd, e]; simp)
  exact absurd h (by decide)

/-- strings: one character back -/
def unT : List UInt8 → Option (UInt8 × List UInt8)
  | [] => none
  | c :: r => if c = 41 then none else if c = 92 then
      match r with
      | [] => none
      | x :: r => if x = 40 ∨ x = 41 ∨ x = 92 then some (x, r) else
        match r with
        | y :: z :: r => some (UInt8.ofNat ((x.toNat - 48) * 64 + (y.toNat - 48) * 8 + (z.toNat - 48)), r)
        | _ => none
    else some (c, r)
theorem unT_txt (c : UInt8) (r : List UInt8) : unT (txtB c ++ r) = some (c, r) := by
  unfold txtB
  have hc := c.toNat_lt
  by_cases h1 : c = 40 ∨ c = 41 ∨ c = 92
  · rw [if_pos h1]
    simp only [List.cons_append, List.nil_append, unT]
    rw [if_neg (by decide), if_pos trivial, if_pos h1]
  · rw [if_neg h1]
    by_cases h2 : c.toNat < 32 ∨ 126 < c.toNat
    · rw [if_pos h2]
      have e1 : (UInt8.ofNat (48 + c.toNat / 64)).toNat = 48 + c.toNat / 64 := by rw [UInt8.toNat_ofNat']; omega
      have e2 : (UInt8.ofNat (48 + c.toNat / 8 % 8)).toNat = 48 + c.toNat / 8 % 8 := by rw [UInt8.toNat_ofNat']; omega
      have e3 : (UInt8.ofNat (48 + c.toNat % 8)).toNat = 48 + c.toNat % 8 := by rw [UInt8.toNat_ofNat']; omega
      have n0 : ¬ (UInt8.ofNat (48 + c.toNat / 64) = 40 ∨ UInt8.ofNat (48 + c.toNat / 64) = 41 ∨ UInt8.ofNat (48 + c.toNat / 64) = 92) := by
        intro h
        rcases h with h | h | h <;> (have h9 := congrArg UInt8.toNat h; rw [e1] at h9; simp at h9; omega)
      simp only [List.cons_append, List.nil_append, unT]
      rw [if_neg (by decide), if_pos trivial, if_neg n0, e1, e2, e3]
      have : (48 + c.toNat / 64 - 48) * 64 + (48 + c.toNat / 8 % 8 - 48) * 8 + (48 + c.toNat % 8 - 48) = c.toNat := by omega
      rw [this]
      simp
    · rw [if_neg h2]
      simp only [not_or] at h1
      simp only [List.cons_append, List.nil_append, unT]
      rw [if_neg h1.2.1, if_neg h1.2.2]
theorem txt_inj : ∀ (a b r1 r2 : List UInt8), txt a ++ 41 :: r1 = txt b ++ 41 :: r2 → a = b ∧ r1 = r2
  | [], [], r1, r2, h => ⟨rfl, by simpa [txt] using h⟩
  | [], d :: b, r1, r2, h => by
    have := congrArg unT h
    rw [show txt (d :: b) = txtB d ++ txt b from rfl, List.append_assoc, unT_txt] at this
    simp [txt, unT] at this
  | c :: a, [], r1, r2, h => by
    have := congrArg unT h
    rw [show txt (c :: a) = txtB c ++ txt a from rfl, List.append_assoc, unT_txt] at this
    simp [txt, unT] at this
  | c :: a, d :: b, r1, r2, h => by
    have := congrArg unT h
    rw [show txt (c :: a) = txtB c ++ txt a from rfl, show txt (d :: b) = txtB d ++ txt b from rfl, List.append_assoc, List.append_assoc, unT_txt, unT_txt] at this
    simp only [Option.some.injEq, Prod.mk.injEq] at this
    obtain ⟨rfl, h2⟩ := this
    obtain ⟨rfl, h3⟩ := txt_inj a b r1 r2 h2
    exact ⟨rfl, h3⟩
end Go.Proofs.YtaafelkdhahaoaaDoor.Pob
