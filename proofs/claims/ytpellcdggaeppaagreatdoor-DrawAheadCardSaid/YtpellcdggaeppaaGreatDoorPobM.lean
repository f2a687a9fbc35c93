/- The bytes of a name: which are written by '#', and that no two names have the same bytes. Plain Lean. No condition. -/
import Derived.Lib.Bytealg
namespace Go.Proofs.YtpellcdggaeppaaGreatDoor.Pob

def dl : List UInt8 := [40, 41, 60, 62, 91, 93, 123, 125, 47, 37, 35]
def hexc (n : Nat) : UInt8 := if n < 10 then UInt8.ofNat (48 + n) else UInt8.ofNat (87 + n)
def quoted (c : UInt8) : Bool := decide (c.toNat < 33) || decide (126 < c.toNat) || dl.contains c
def encB (c : UInt8) : List UInt8 := if quoted c then [35, hexc (c.toNat / 16), hexc (c.toNat % 16)] else [c]
def enc (l : List UInt8) : List UInt8 := l.flatMap encB
def regular (c : UInt8) : Bool := !([0, 9, 10, 12, 13, 32].contains c) && !([40, 41, 60, 62, 91, 93, 123, 125, 47, 37].contains c)
theorem enc_nil : enc [] = [] := rfl
theorem enc_cons (c : UInt8) (l : List UInt8) : enc (c :: l) = encB c ++ enc l := rfl
theorem enc_snoc (l : List UInt8) (c : UInt8) : enc (l ++ [c]) = enc l ++ encB c := by simp [enc]
theorem encB_len (c : UInt8) : (encB c).length ≤ 3 := by unfold encB; split <;> simp
theorem enc_len : ∀ l : List UInt8, (enc l).length ≤ 3 * l.length
  | [] => by simp [enc]
  | c :: l => by
    have h1 := enc_len l
    have h2 := encB_len c
    rw [enc_cons, List.length_append, List.length_cons]; omega
theorem all256 (p : UInt8 → Bool) (h : (List.range 256).all (fun n => p (UInt8.ofNat n)) = true) (c : UInt8) : p c = true := by
  rw [List.all_eq_true] at h
  have := h c.toNat (List.mem_range.2 c.toNat_lt)
  simpa using this
theorem encB_reg (c : UInt8) : (encB c).all (fun x => regular x && decide (x.toNat ≤ 126)) = true :=
  all256 (fun c => (encB c).all (fun x => regular x && decide (x.toNat ≤ 126))) (by decide +kernel) c
theorem enc_reg (l : List UInt8) : ∀ x ∈ enc l, (regular x && decide (x.toNat ≤ 126)) = true := fun x hx => by
  obtain ⟨c, _, hc⟩ := List.mem_flatMap.1 hx
  exact List.all_eq_true.1 (encB_reg c) x hc
theorem hexc_inj (a b : Nat) (ha : a < 16) (hb : b < 16) : hexc a = hexc b → a = b := (show ∀ a, a < 16 → ∀ b, b < 16 → hexc a = hexc b → a = b by decide +kernel) a ha b hb
theorem quoted_hash : quoted 35 = true := by decide
theorem enc_inj : ∀ a b : List UInt8, enc a = enc b → a = b
  | [], [], _ => rfl
  | [], d :: b, h => by
    have h1 : (encB d ++ enc b).length = 0 := by rw [← enc_cons, ← h]; rfl
    unfold encB at h1; split at h1 <;> simp at h1
  | c :: a, [], h => by
    have h1 : (encB c ++ enc a).length = 0 := by rw [← enc_cons, h]; rfl
    unfold encB at h1; split at h1 <;> simp at h1
  | c :: a, d :: b, h => by
    rw [enc_cons, enc_cons] at h
    unfold encB at h
    by_cases hc : quoted c = true <;> by_cases hd : quoted d = true
    · rw [if_pos hc, if_pos hd] at h
      simp only [List.cons_append, List.nil_append, List.cons.injEq, true_and] at h
      have hlc := c.toNat_lt
      have hld := d.toNat_lt
      have h1 := hexc_inj _ _ (by omega) (by omega) h.1
      have h2 := hexc_inj _ _ (by omega) (by omega) h.2.1
      have h3 : c = d := UInt8.toNat_inj.1 (by omega)
      rw [h3, enc_inj a b h.2.2]
    · rw [if_pos hc, if_neg hd] at h
      simp only [List.cons_append, List.nil_append, List.cons.injEq] at h
      exact absurd quoted_hash (by rw [h.1]; exact hd)
    · rw [if_neg hc, if_pos hd] at h
      simp only [List.cons_append, List.nil_append, List.cons.injEq] at h
      exact absurd quoted_hash (by rw [← h.1]; exact hc)
    · rw [if_neg hc, if_neg hd] at h
      simp only [List.cons_append, List.nil_append, List.cons.injEq] at h
      rw [h.1, enc_inj a b h.2]

/-- may it be a name's text? -/
def namedB (l : List UInt8) : Bool := !l.isEmpty && decide (l.length ≤ 127) && !l.contains 0

end Go.Proofs.YtpellcdggaeppaaGreatDoor.Pob
