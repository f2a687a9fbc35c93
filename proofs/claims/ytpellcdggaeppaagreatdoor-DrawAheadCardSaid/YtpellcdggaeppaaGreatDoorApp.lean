/- Append in a walk: onto a row that the call owns, whatever is appended (nil, empty or not); a slice of integers that came in, as what is appended. No program in sight; no condition. -/
import Derived.Test.YtpellcdggaeppaaGreatDoorBase
import Derived.Laws.AppendOwnNone
namespace Go.Proofs.YtpellcdggaeppaaGreatDoor
open Go.RowKit

theorem wpList_append_any {P : Program} {w : World} {ops : Array Oper} {rest : List Oper} {o : Oper} {a : Act} {Q : Exit → Act → World → Prop} (hgd : o.guard = none) (s x : Operand) (t : TypeId)
    (ho : o.op = .call { callee := .builtin .append, args := #[s, x], argTypes := #[t, t] })
    (base : Nat) (e : TypeId) (i : TypeInfo) (z : Value) (size bytes : Nat) (ht : P.underlying t = some (.slice e)) (hi : P.info? e = some i) (hz : i.zero = some z)
    (hsize : i.size = size) (hby : i.bytes = bytes) (hzs : z.cells.size = size) (hsz : 0 < size)
    (v : Value) (n : Nat) (xs : List Value) (hs : a.eval s = v) (hown : w.ownsRow base e size v n xs)
    (ao : Option Addr) (m c : Nat) (news : List Value) (hx : a.eval x = .slice ao m c) (hl : news.length = m * size) (hnone : ao = none → m = 0 ∧ c = 0) (hnews : ∀ ad, ao = some ad → ∀ j u, news[j]? = some u → w.cell? (ad.add j) = some u) (h1 : ∀ u ∈ news, u.oneCell' = true)
    (h63 : n + m ≤ maxLen) (hbytes : (n + m) * bytes ≤ 140737488355328) (hbase : base ≤ w.heap.size)
    (h : ∀ v' w', w'.ownsRow base e size v' (n + m) (xs ++ news) → w.grownBy w' v.ownBlock → (v' = .slice none 0 0 ↔ v = .slice none 0 0 ∧ m = 0) → wpList P ops Q rest (a.put o.dst v') w') : wpList P ops Q (o :: rest) a w := by
  cases ao with
  | some ad => exact wpList_append_own _ hgd s x t ho base e i z size bytes ht hi hz hsize hby hzs hsz v n xs hs hown ad m c news hx hl (hnews ad rfl) h1 h63 hbytes hbase h
  | none =>
    obtain ⟨rfl, rfl⟩ := hnone rfl
    have hnews : news = [] := List.eq_nil_of_length_eq_zero (by simpa using hl)
    subst hnews
    refine wpList_append_own_none hgd s x t ho base e i size ht hi v n xs hs hown hx ?_
    exact h v w (by simpa using hown) (World.grownBy.refl _ _) (by simp)

theorem IsRow.none {k : IntKind} {w : World} {a : Option Addr} {len cap : Nat} {zs : List Int} (h : IsRow k w a len cap zs) : a = Option.none → len = 0 ∧ cap = 0 := by
  intro h0
  rcases h with ⟨_, h1, h2, _⟩ | ⟨x, h1, _⟩
  · exact ⟨h1, h2⟩
  · rw [h1] at h0; cases h0
theorem IsRow.le {k : IntKind} {w : World} {a : Option Addr} {len cap : Nat} {zs : List Int} (h : IsRow k w a len cap zs) : len ≤ cap ∧ cap ≤ maxLen ∧ zs.length = cap := by
  rcases h with ⟨_, h1, h2, h3⟩ | ⟨x, h1, h2, h3, h4, _⟩
  · subst h1 h2 h3; exact ⟨Nat.le_refl _, by decide, rfl⟩
  · exact ⟨h2, h3, h4⟩
theorem IsRow.news {k : IntKind} {w W : World} {a : Option Addr} {len cap : Nat} {zs : List Int} (h : IsRow k w a len cap zs) (hup : Up w W) :
    ∀ ad, a = some ad → ∀ j u, ((zs.take len).map (Value.int k))[j]? = some u → W.cell? (ad.add j) = some u := by
  intro ad had j u hj
  have hlt : j < len := by
    have := (List.getElem?_eq_some_iff.1 hj).1
    simp at this; omega
  obtain ⟨hl, _, hz⟩ := h.le
  obtain ⟨b, o, hb, _, _, _, hc, _, hbl⟩ := h.at (by omega)
  rw [hb] at had
  obtain rfl := Option.some.inj had
  rw [add_plain, hup.cells.1 b _ hbl, hc j (by omega)]
  simp only [List.getElem?_map, List.getElem?_take, if_pos hlt] at hj
  rw [List.getD, ← hj]
  have : j < zs.length := by omega
  simp [this]
theorem IsRow.newsLen {k : IntKind} {w : World} {a : Option Addr} {len cap : Nat} {zs : List Int} (h : IsRow k w a len cap zs) : ((zs.take len).map (Value.int k)).length = len * 1 := by
  obtain ⟨hl, _, hz⟩ := h.le
  simp; omega

/-- an empty slice that the call has just made is its own -/
theorem ownsRow_empty (w : World) (base : Nat) (e : TypeId) (hb : base ≤ w.heap.size) : (w.alloc (.cells #[] e)).ownsRow base e 1 (.slice (some ⟨w.heap.size, 0, none⟩) 0 0) 0 [] :=
  World.ownsRow_made w #[] 0 hb (by decide) rfl

/-- what is owned is there, cell by cell -/
theorem owns_at {w : World} {base : Nat} {e : TypeId} {g o n c : Nat} {xs : List Value} (h : w.ownsRow base e 1 (.slice (some ⟨g, o, none⟩) n c) n xs) :
    o = 0 ∧ base ≤ g ∧ n ≤ c ∧ g < w.heap.size ∧ xs.length = n ∧ ∀ i u, xs[i]? = some u → w.cell? ⟨g, i, none⟩ = some u := by
  have hc := h.cells (g := g) rfl
  obtain ⟨h1, h2⟩ := h
  rcases h2 with ⟨h2, _⟩ | ⟨g', cap, cur, hv, hb, hg, hn, hcap, hcs, ht⟩
  · cases h2
  · injection hv with e1 e2 e3
    injection e1 with e1
    injection e1 with e4 e5
    subst e4 e5 e3
    refine ⟨rfl, hb, hn, (Array.getElem?_eq_some_iff.1 hg).1, by simpa using h1, fun i u hu => ?_⟩
    have := hc i u hu
    rwa [add_plain, Nat.zero_add] at this
theorem owns_some {w : World} {base : Nat} {e : TypeId} {n : Nat} {v : Value} {xs : List Value} (h : w.ownsRow base e 1 v n xs) (hv : v ≠ .slice none 0 0) :
    ∃ g c, v = .slice (some ⟨g, 0, none⟩) n c ∧ base ≤ g ∧ n ≤ c ∧ c ≤ maxLen ∧ g < w.heap.size ∧ xs.length = n ∧ ∀ i u, xs[i]? = some u → w.cell? ⟨g, i, none⟩ = some u := by
  have h0 := h
  obtain ⟨h1, h2⟩ := h
  rcases h2 with ⟨h2, _⟩ | ⟨g', cap, cur, hv', hb, hg, hn, hcap, hcs, ht⟩
  · exact absurd h2 hv
  · subst hv'
    obtain ⟨-, -, -, k1, k2, k3⟩ := owns_at h0
    exact ⟨g', cap, rfl, hb, hn, hcap, k1, k2, k3⟩
theorem grown_up {w w1 w2 : World} {r : Option Nat} (h : Up w w1) (hg : w1.grownBy w2 r) (hr : ∀ k, r = some k → w.heap.size ≤ k) : Up w w2 :=
  Below.grown h hg h.size hr

end Go.Proofs.YtpellcdggaeppaaGreatDoor
