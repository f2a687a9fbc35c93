/- A slice of structs that came in: it is nil, or it leads to its elements' cells. No program in sight; no condition. A slice of objects that came in. No condition. append of any number of elements onto a slice that the call owns, as one step of a region that draws its order. No program in sight; no condition. Slices that a value owns: which block, and what a call may leave of it. No program in sight; no condition. -/
import Derived.Test.YtakickodehebmaaDoorBase
import Derived.Deep.Slices
import Derived.ChangeSame
import Derived.OpenShut
import Derived.Test.YtakickodehebmaaDoorRows
import Derived.Deep.AppendLies
import Derived.Maps.AppendAt
import Derived.Deep.RegionHeld3
import Derived.Test.YtakickodehebmaaDoorChg
import Derived.Test.YtakickodehebmaaDoorApp
import Derived.Laws.OwnMore
section
namespace Go.Proofs.YtakickodehebmaaDoor
open Go.ChangeShapes Go.WideShapes Go.RowKit Go.Deep
set_option linter.unusedVariables false

/-- elements of K cells each -/
def Sl {α : Type} (K : Nat) (cells : α → List Value) (w : World) (a : Option Addr) (len cap : Nat) (l : List α) : Prop :=
  len ≤ cap ∧ cap ≤ 9223372036854775807 ∧ l.length = len ∧ (a = none → len = 0 ∧ cap = 0) ∧
    (0 < len → ∃ b o, a = some ⟨b, o, none⟩ ∧ b < w.heap.size ∧ ∀ (i : Nat) (s : α) (j : Nat) (u : Value), l[i]? = some s → (cells s)[j]? = some u → w.cell? ⟨b, o + i * K + j, none⟩ = some u)

theorem trod_field {P : Program} {H : Type} {enc : TypeId × Value → H} {w : World} {base : Nat} {spare : Nat → Bool} {held : Bool} {t : TypeId} {fs : Array Field} {fuel : Nat} {cs : List Value} {x : DataW H × List MemPlace}
    (ht : P.underlying t = some (.struct fs)) (h : DataW.trod enc P w base spare held fuel t cs = some x) :
    ∃ n, cs.length = P.cellsOf t ∧ ∀ (i : Nat) (f : Field), fs[i]? = some f → ∃ y, DataW.trod enc P w base spare held n f.type ((cs.drop f.offset).take (P.cellsOf f.type)) = some y := by
  obtain ⟨xs, n, _, rfl, hl, hlen, hf⟩ := DataW.trod_struct ht h
  refine ⟨n, hl, fun i f hi => ?_⟩
  have hlt : i < xs.length := by rw [hlen]; exact (Array.getElem?_eq_some_iff.1 hi).1
  exact ⟨xs[i], by rw [hf i f hi, List.getElem?_eq_getElem hlt]⟩

theorem sl_of {α : Type} {P : Program} {H : Type} {enc : TypeId × Value → H} {W : World} {a : Option Addr} {len cap : Nat} {d : DataW H} {p : List MemPlace} {t e : TypeId} (dflt : α) (K : Nat) (cells : α → List Value) (WF : α → Prop)
    (hu : P.underlying t = some (.slice e)) (hK : P.cellsOf e = K) (h0K : 0 < K) (hlen : ∀ s, (cells s).length = K)
    (op : ∀ (base : Nat) (spare : Nat → Bool) (held : Bool) (fuel : Nat) (cs : List Value) (y : DataW H × List MemPlace), DataW.trod enc P W base spare held fuel e cs = some y → ∃ s, cs = cells s ∧ WF s)
    (h : DataW.Trod enc P W 0 (fun _ => true) true t (.slice a len cap) d p) : ∃ l, Sl K cells W a len cap l ∧ ∀ s ∈ l, WF s := by
  obtain ⟨fuel, hf⟩ := h
  rcases open_slice hu hf with ⟨hcs, _⟩ | ⟨x, l, c, m, n, D, Pl, hcs, _, hl, hm, hmm, _, hx⟩
  · simp [Value.cells] at hcs
    obtain ⟨rfl, rfl, rfl⟩ := hcs
    exact ⟨[], ⟨Nat.le_refl _, by decide, rfl, fun _ => ⟨rfl, rfl⟩, fun h => absurd h (by decide)⟩, by simp⟩
  · simp [Value.cells] at hcs
    obtain ⟨rfl, rfl, rfl⟩ := hcs
    simp only [if_true] at hmm
    subst hmm
    rw [hK] at hx
    have each : ∀ i, ∃ s : α, i < m → WF s ∧ ∀ j u, (cells s)[j]? = some u → W.cell? ((x.add (i * K)).add j) = some u := by
      intro i
      by_cases hi : i < m
      · obtain ⟨cs, hc, ht⟩ := hx i hi
        obtain ⟨s, rfl, hs⟩ := op _ _ _ _ _ _ ht
        refine ⟨s, fun _ => ⟨hs, fun j u hu => ?_⟩⟩
        unfold World.cells? at hc
        rw [if_pos (Nat.zero_le _)] at hc
        have hj : j < K := by
          have := (List.getElem?_eq_some_iff.1 hu).1
          rwa [hlen] at this
        have := mapM_some_get hc j j (by simp [hj])
        rw [this, hu]
      · exact ⟨dflt, fun h => absurd h hi⟩
    obtain ⟨f, hf⟩ := Classical.axiomOfChoice each
    refine ⟨(List.range len).map f, ⟨hl, by unfold maxLen at hm; omega, by simp, (fun h => by cases h), ?_⟩, ?_⟩
    · intro h0
      obtain ⟨b, o, sp⟩ := x
      have hk0 : 0 < (cells (f 0)).length := by rw [hlen]; exact h0K
      have hc0 := (hf 0 (by omega)).2 0 _ (List.getElem?_eq_getElem hk0)
      have hsp : sp = none := by
        have := World.cell?_spot hc0
        simpa [Addr.add] using this
      subst hsp
      rw [add_plain, add_plain] at hc0
      refine ⟨b, o, rfl, cell_lt hc0, fun i s j u hs hu => ?_⟩
      obtain ⟨hi, e⟩ := List.getElem?_eq_some_iff.1 hs
      simp at hi e
      subst e
      have := (hf i (by omega)).2 j u hu
      rwa [add_plain, add_plain] at this
    · intro s hs
      simp only [List.mem_map, List.mem_range] at hs
      obtain ⟨i, hi, rfl⟩ := hs
      exact (hf i (by omega)).1

end Go.Proofs.YtakickodehebmaaDoor
end

section
namespace Go.Proofs.YtakickodehebmaaDoor
open Go.ChangeShapes Go.WideShapes Go.RowKit Go.Deep
set_option linter.unusedVariables false

/-- an object -/
structure ObjL where
  k : Int
  x : Bool
  a : Int
  n : Int
  s : ByteArray
  r : Int
  f : Int
  l : Int
def ObjL.cells (o : ObjL) : List Value := [.int .i64 o.k, .bool o.x, .int .i64 o.a, .int .i64 o.n, .string o.s, .int .i64 o.r, .int .i64 o.f, .int .i64 o.l]
def ObjL.wf (o : ObjL) : Prop := (Lit.int .i64 o.k).wf = true ∧ (Lit.int .i64 o.n).wf = true

theorem cObj8 : Tryd.prog.cellsOf 38 = 8 := by kernel_rfl
theorem cInt1 : Tryd.prog.cellsOf 3 = 1 := by kernel_rfl
theorem cBool1 : Tryd.prog.cellsOf 4 = 1 := by kernel_rfl
theorem cStr1 : Tryd.prog.cellsOf 9 = 1 := by kernel_rfl

theorem objL_open {H : Type} {enc : TypeId × Value → H} {w : World} (base : Nat) (spare : Nat → Bool) (held : Bool) (fuel : Nat) (cs : List Value) (y : DataW H × List MemPlace)
    (h : DataW.trod enc Tryd.prog w base spare held fuel 38 cs = some y) : ∃ o : ObjL, cs = o.cells ∧ ObjL.wf o := by
  obtain ⟨n, hl, hf⟩ := trod_field Tryd.underlying38 h
  rw [cObj8] at hl
  match cs, hl with
  | [c0, c1, c2, c3, c4, c5, c6, c7], _ =>
    obtain ⟨y0, h0⟩ := hf 0 _ rfl
    obtain ⟨y1, h1⟩ := hf 1 _ rfl
    obtain ⟨y2, h2⟩ := hf 2 _ rfl
    obtain ⟨y3, h3⟩ := hf 3 _ rfl
    obtain ⟨y4, h4⟩ := hf 4 _ rfl
    obtain ⟨y5, h5⟩ := hf 5 _ rfl
    obtain ⟨y6, h6⟩ := hf 6 _ rfl
    obtain ⟨y7, h7⟩ := hf 7 _ rfl
    simp [cInt1, cBool1, cStr1] at h0 h1 h2 h3 h4 h5 h6 h7
    obtain ⟨z0, e0, -, w0⟩ := DataW.trod_int Tryd.underlying3 h0
    obtain ⟨z1, e1, -⟩ := DataW.trod_bool Tryd.underlying4 h1
    obtain ⟨z2, e2, -, w2⟩ := DataW.trod_int Tryd.underlying3 h2
    obtain ⟨z3, e3, -, w3⟩ := DataW.trod_int Tryd.underlying3 h3
    obtain ⟨z4, e4, -, w4⟩ := DataW.trod_string Tryd.underlying9 h4
    obtain ⟨z5, e5, -, w5⟩ := DataW.trod_int Tryd.underlying3 h5
    obtain ⟨z6, e6, -, w6⟩ := DataW.trod_int Tryd.underlying3 h6
    obtain ⟨z7, e7, -, w7⟩ := DataW.trod_int Tryd.underlying3 h7
    simp at e0 e1 e2 e3 e4 e5 e6 e7
    subst e0 e1 e2 e3 e4 e5 e6 e7
    exact ⟨⟨z0, z1, z2, z3, z4, z5, z6, z7⟩, rfl, w0, w3⟩

theorem objIs_of {H : Type} {enc : TypeId × Value → H} {W : World} {a : Option Addr} {len cap : Nat} {d : DataW H} {p : List MemPlace}
    (h : DataW.Trod enc Tryd.prog W 0 (fun _ => true) true 22 (.slice a len cap) d p) : ∃ l, Sl 8 ObjL.cells W a len cap l :=
  (sl_of ⟨0, false, 0, 0, ⟨#[]⟩, 0, 0, 0⟩ 8 ObjL.cells ObjL.wf Tryd.underlying22 cObj8 (by decide) (fun _ => rfl) objL_open h).imp fun l h => h.1

end Go.Proofs.YtakickodehebmaaDoor
end

section
namespace Go.Proofs.YtakickodehebmaaDoor

theorem step_append_own {P : Program} {w : World} {ops : Array Oper} {o : Oper} {a : Act} {K : Act → World → Prop} {Q : Exit → Act → World → Prop} {E : Prop} (hgd : o.guard = none) (s x : Operand) (t : TypeId)
    (ho : o.op = .call { callee := .builtin .append, args := #[s, x], argTypes := #[t, t] })
    (base : Nat) (e : TypeId) (i : TypeInfo) (z : Value) (size bytes : Nat) (ht : P.underlying t = some (.slice e)) (hi : P.info? e = some i) (hz : i.zero = some z)
    (hsize : i.size = size) (hby : i.bytes = bytes) (hzs : z.cells.size = size) (hsz : 0 < size)
    (v : Value) (n : Nat) (xs : List Value) (hs : a.eval s = v) (hown : w.ownsRow base e size v n xs)
    (ad : Addr) (m c : Nat) (news : List Value) (hx : a.eval x = .slice (some ad) m c) (hl : news.length = m * size) (hnews : ∀ j u, news[j]? = some u → w.cell? (ad.add j) = some u) (h1 : ∀ u ∈ news, u.oneCell' = true)
    (h63 : n + m ≤ maxLen) (hbytes : (n + m) * bytes ≤ 140737488355328) (hbase : base ≤ w.heap.size)
    (hK : ∀ v' w', w'.ownsRow base e size v' (n + m) (xs ++ news) → w.grownBy w' v.ownBlock → (v' = .slice none 0 0 ↔ v = .slice none 0 0 ∧ m = 0) → (v'.ownBlock = v.ownBlock ∨ v'.ownBlock = some w.heap.size) → K (a.put o.dst v') w') :
    if Region.wanted o (yielded ops a.tmps) = true then Oper.wp P o a w K Q else E := by
  rw [if_pos (by simp [Region.wanted, hgd])]
  obtain ⟨v', w', hr, h2, h3, h4, h5⟩ := run_append_own_at (P := P) w base t o.type e i z size bytes ht hi hz hsize hby hzs hsz v n xs hown ad m c news hl hnews h1 h63 hbytes hbase
  unfold Oper.wp execOp
  simp only [ho, resolve, invoke, builtin, Sem.run_bind, Sem.run_pure, Result.andThen_ok, List.map_toArray, List.map_cons, List.map_nil, hs, hx, hr]
  exact hK _ _ h2 h3 h4 h5

end Go.Proofs.YtakickodehebmaaDoor
end

section
namespace Go.Proofs.YtakickodehebmaaDoor
open Go.ChangeShapes Go.WideShapes Go.RowKit
set_option linter.unusedVariables false

def own (v : Value) : List Nat := match v.ownBlock with | some g => [g] | none => []
theorem own_mem {v : Value} {g : Nat} (h : v.ownBlock = some g) : g ∈ own v := by simp [own, h]
theorem own_of {v : Value} {g : Nat} (h : g ∈ own v) : v.ownBlock = some g := by
  unfold own at h
  split at h
  · simp only [List.mem_singleton] at h; subst h; assumption
  · simp at h
/-- a slice's block is the old one, or a new one -/
def Own (w : World) (v v' : Value) : Prop := ∀ g, v'.ownBlock = some g → v.ownBlock = some g ∨ w.heap.size ≤ g
theorem Own.refl (w : World) (v : Value) : Own w v v := fun g h => Or.inl h
theorem Chg.grown {S : List Nat} {w a c : World} {r : Option Nat} (h : Chg S w a) (hg : a.grownBy c r) (hr : ∀ k, r = some k → k ∈ S ∨ w.heap.size ≤ k) : Chg S w c :=
  ⟨hg.os.trans h.os, hg.tape.trans h.tape, hg.output.trans h.output, Nat.le_trans h.size hg.size, fun k hk hn => by
    rw [hg.block k (Nat.lt_of_lt_of_le hk h.size) (fun e => (hr k e.symm).elim hn (fun h2 => by omega)), h.block k hk hn]⟩
theorem owned_chg {S : List Nat} {w w1 : World} {e : TypeId} {k : Nat} {v : Value} {n : Nat} {xs : List Value} (h : w.ownsRow 0 e k v n xs) (hc : Chg S w w1) (hn : ∀ g, v.ownBlock = some g → g ∉ S) : w1.ownsRow 0 e k v n xs := by
  refine ⟨h.1, ?_⟩
  rcases h.2 with h1 | ⟨g, cap, cur, hv, hb, hg, hr⟩
  · exact Or.inl h1
  · refine Or.inr ⟨g, cap, cur, hv, hb, ?_, hr⟩
    rw [hc.block g (Array.getElem?_eq_some_iff.1 hg).1 (hn g (by rw [hv]; rfl))]
    exact hg
theorem owned_up {w w1 : World} {e : TypeId} {k : Nat} {v : Value} {n : Nat} {xs : List Value} (h : w.ownsRow 0 e k v n xs) (hc : Up w w1) : w1.ownsRow 0 e k v n xs := owned_chg (S := []) h (Chg.of_up hc) (by simp)
theorem owned_form {w : World} {e : TypeId} {k : Nat} {v : Value} {n : Nat} {xs : List Value} (h : w.ownsRow 0 e k v n xs) : (v = .slice none 0 0 ∧ n = 0) ∨ ∃ g cap, v = .slice (some ⟨g, 0, none⟩) n cap ∧ n ≤ cap ∧ cap ≤ maxLen ∧ g < w.heap.size := by
  rcases h.2 with ⟨h1, h2⟩ | ⟨g, cap, cur, hv, _, hg, hn, hm, _⟩
  · exact Or.inl ⟨h1, h2⟩
  · exact Or.inr ⟨g, cap, hv, hn, hm, (Array.getElem?_eq_some_iff.1 hg).1⟩
theorem owned_val {w : World} {e : TypeId} {k : Nat} {v : Value} {n : Nat} {xs : List Value} (h : w.ownsRow 0 e k v n xs) : ∃ a cap, v = .slice a n cap := by
  rcases owned_form h with ⟨rfl, rfl⟩ | ⟨g, cap, rfl, _⟩
  · exact ⟨_, _, rfl⟩
  · exact ⟨_, _, rfl⟩
/-- the new cells of an append, out of a block that is known whole -/
theorem news_at {w : World} {g : Nat} {cs : Array Value} {l : List Value} (h : Row w g cs) (e : cs.toList = l) : ∀ j u, l[j]? = some u → w.cell? ((⟨g, 0, none⟩ : Addr).add j) = some u := fun j u hu => by
  rw [add_plain, Nat.zero_add]
  exact h.cell j (by subst e; simpa using hu)
theorem Row.chg' {S : List Nat} {w w' : World} {b : Nat} {cs : Array Value} (h : Row w b cs) (hc : Chg S w w') (hn : b ∉ S) : Row w' b cs := h.chg hc hn

end Go.Proofs.YtakickodehebmaaDoor
end
