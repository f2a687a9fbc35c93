/- Objects of a file in memory, as trees: reading an argument. No condition. -/
import Derived.Test.YtpellcdggaeppaaGreatDoorPobY
import Derived.Test.YtpellcdggaeppaaGreatDoorSlArg
import Derived.Test.YtpellcdggaeppaaGreatDoorRows
import Derived.Test.YtpellcdggaeppaaGreatDoorSl
namespace Go.Proofs.YtpellcdggaeppaaGreatDoor.Pob
open Go.ChangeShapes Go.WideShapes Go.RowKit Go.Shelf Go.Deep
set_option linter.unusedVariables false
set_option linter.unusedSimpArgs false

/-- an object: its fields; its lists as they lie, and what they hold -/
inductive PO where
  | mk (k n : Int) (t : List UInt8) (ka : Option Addr) (kl kc : Nat) (ks : List (List UInt8)) (la : Option Addr) (ll lc : Nat) (l : List PO) (da : Option Addr) (dl dc : Nat) (d : List UInt8)
def PO.k : PO → Int | .mk k .. => k
def PO.n : PO → Int | .mk _ n .. => n
def PO.t : PO → List UInt8 | .mk _ _ t .. => t
def PO.ks : PO → List (List UInt8) | .mk _ _ _ _ _ _ ks .. => ks
def PO.l : PO → List PO | .mk _ _ _ _ _ _ _ _ _ _ l .. => l
def PO.d : PO → List UInt8 | .mk _ _ _ _ _ _ _ _ _ _ _ _ _ _ d => d
def PO.cells : PO → List Value | .mk k n t ka kl kc ks la ll lc l da dl dc d => [.int .i64 k, .int .i64 n, .string ⟨t.toArray⟩, .slice ka kl kc, .slice la ll lc, .slice da dl dc]
theorem PO.cells_len (o : PO) : o.cells.length = 6 := by cases o; rfl
def kcells (s : List UInt8) : List Value := [.string ⟨s.toArray⟩]
def dcells (c : UInt8) : List Value := [.int .u8 (c.toNat : Int)]
/-- all that an object holds lies there -/
inductive POk (w : World) : PO → Prop where
  | mk (k n : Int) (t : List UInt8) (ka : Option Addr) (kl kc : Nat) (ks : List (List UInt8)) (la : Option Addr) (ll lc : Nat) (l : List PO) (da : Option Addr) (dl dc : Nat) (d : List UInt8)
      (hn : (Lit.int .i64 n).wf = true) (hk : Sl 1 kcells w ka kl kc ks) (hl : Sl 6 PO.cells w la ll lc l) (hc : ∀ c, c ∈ l → POk w c) (hd : Sl 1 dcells w da dl dc d) : POk w (.mk k n t ka kl kc ks la ll lc l da dl dc d)
theorem sl_up {α : Type} {K : Nat} {cells : α → List Value} {w w1 : World} {a : Option Addr} {len cap : Nat} {l : List α} (h : Sl K cells w a len cap l) (hu : Up w w1) : Sl K cells w1 a len cap l := by
  obtain ⟨h1, h2, h3, h4, h5⟩ := h
  refine ⟨h1, h2, h3, h4, fun h0 => ?_⟩
  obtain ⟨b, o, e, hb, hc⟩ := h5 h0
  exact ⟨b, o, e, Nat.lt_of_lt_of_le hb hu.size, fun i s j u hi hj => (hu.cells.1 b _ hb).trans (hc i s j u hi hj)⟩
theorem POk.up {w w1 : World} {o : PO} (h : POk w o) (hu : Up w w1) : POk w1 o := by
  induction h with
  | mk k n t ka kl kc ks la ll lc l da dl dc d hn hk hl hc hd ih => exact .mk k n t ka kl kc ks la ll lc l da dl dc d hn (sl_up hk hu) (sl_up hl hu) ih (sl_up hd hu)

/-- how much an object holds, n levels deep -/
def bulk : Nat → PO → Nat
  | 0, _ => 0
  | n + 1, o => o.t.length + (o.ks.map (fun s => s.length + 1)).sum + o.d.length + (o.l.map (bulk n)).sum + 6

section
variable {H : Type} {enc : TypeId × Value → H} {W : World} {base : Nat} {spare : Nat → Bool} {held : Bool}
/-- a slice that came in, element for element -/
theorem sl_openB {α : Type} {P : Program} {fuel : Nat} {cs0 : List Value} {y0 : DataW H × List MemPlace} {t e : TypeId} (dflt : α) (K : Nat) (cells : α → List Value) (R : α → DataW H → Prop)
    (hu : P.underlying t = some (.slice e)) (hK : P.cellsOf e = K) (h0K : 0 < K) (hlen : ∀ s, (cells s).length = K)
    (op : ∀ (f : Nat), f < fuel → ∀ (cs : List Value) (y : DataW H × List MemPlace), DataW.trod enc P W base spare held f e cs = some y → ∃ s, cs = cells s ∧ R s y.1)
    (hf : DataW.trod enc P W base spare held fuel t cs0 = some y0) : ∃ a len cap l, cs0 = [.slice a len cap] ∧ Sl K cells W a len cap l ∧ ((l = [] ∧ y0.1 = .nil) ∨ ∃ D sp, y0.1 = .slice ((List.range len).map D) sp ∧ ∀ (i : Nat) (s : α), l[i]? = some s → R s (D i)) := by
  rcases DataW.trod_slice hu hf with ⟨hcs, hy⟩ | ⟨x, len, cap, elems, rest, n, hfu, hcs, hy, hb, hl, hm, hel, hx, _⟩
  · exact ⟨none, 0, 0, [], hcs, ⟨Nat.le_refl _, by decide, rfl, fun _ => ⟨rfl, rfl⟩, fun h => absurd h (by decide)⟩, Or.inl ⟨rfl, by rw [hy]⟩⟩
  · rw [hK] at hx
    have each : ∀ i, ∃ s : α, i < len → R s ((elems.getD i (.nil, [])).1) ∧ ∀ j u, (cells s)[j]? = some u → W.cell? ((x.add (i * K)).add j) = some u := by
      intro i
      by_cases hi : i < len
      · have h1 := hx i hi
        rw [List.getElem?_eq_getElem (by omega)] at h1
        obtain ⟨cs, hc, ht⟩ := Option.bind_eq_some_iff.1 h1
        obtain ⟨s, rfl, hs⟩ := op n (by omega) _ _ ht
        refine ⟨s, fun _ => ⟨by rw [List.getD_eq_getElem?_getD, List.getElem?_eq_getElem (by omega)]; exact hs, fun j u hu => ?_⟩⟩
        unfold World.cells? at hc
        split at hc
        · have hj : j < K := by
            have := (List.getElem?_eq_some_iff.1 hu).1
            rwa [hlen] at this
          have := mapM_some_get hc j j (by simp [hj])
          rw [this, hu]
        · cases hc
      · exact ⟨dflt, fun h => absurd h hi⟩
    obtain ⟨f, hf2⟩ := Classical.axiomOfChoice each
    refine ⟨some x, len, cap, (List.range len).map f, hcs, ⟨hl, by unfold maxLen at hm; omega, by simp, (fun h => by cases h), ?_⟩, Or.inr ⟨fun i => (elems.getD i (.nil, [])).1, rest.map (·.1), ?_, ?_⟩⟩
    · intro h0
      obtain ⟨b, o, sp⟩ := x
      have hk0 : 0 < (cells (f 0)).length := by rw [hlen]; exact h0K
      have hc0 := (hf2 0 (by omega)).2 0 _ (List.getElem?_eq_getElem hk0)
      have hsp : sp = none := by
        have := World.cell?_spot hc0
        simpa [Addr.add] using this
      subst hsp
      rw [add_plain, add_plain] at hc0
      refine ⟨b, o, rfl, cell_lt hc0, fun i s j u hs hu => ?_⟩
      obtain ⟨hi, e⟩ := List.getElem?_eq_some_iff.1 hs
      simp at hi e
      subst e
      have := (hf2 i (by omega)).2 j u hu
      rwa [add_plain, add_plain] at this
    · rw [hy]
      show DataW.slice _ _ = DataW.slice _ _
      congr 1
      apply List.ext_getElem
      · simp [hel]
      · intro i h1 h2
        simp only [List.length_map] at h1
        simp [h1]
    · intro i s hs
      obtain ⟨hi, e⟩ := List.getElem?_eq_some_iff.1 hs
      simp at hi e
      subst e
      exact (hf2 i (by omega)).1
theorem all_range (D : Nat → DataW H) : ∀ len, Rows.uptoBulkAll ((List.range len).map D) = ((List.range len).map (fun i => Rows.uptoBulk (D i))).sum := by
  have g : ∀ l : List (DataW H), Rows.uptoBulkAll l = (l.map Rows.uptoBulk).sum := by
    intro l
    induction l with
    | nil => simp [Rows.uptoBulkAll]
    | cons a l ih => simp [Rows.uptoBulkAll, ih]
  intro len
  rw [g, List.map_map]
  rfl
theorem sum_le {α : Type} (f : α → Nat) : ∀ (l : List α) (D : Nat → Nat), (∀ (i : Nat) (s : α), l[i]? = some s → f s ≤ D i) → (l.map f).sum ≤ ((List.range l.length).map D).sum := by
  intro l
  induction l with
  | nil => intro D _; simp
  | cons a l ih =>
    intro D h
    rw [List.length_cons, List.range_succ_eq_map, List.map_cons, List.map_cons, List.sum_cons, List.sum_cons, List.map_map]
    have h1 := ih (D ∘ Nat.succ) (fun i s hs => h (i + 1) s (by simpa using hs))
    have h2 := h 0 a rfl
    omega
theorem slice_bulk {α : Type} (f : α → Nat) {len : Nat} {l : List α} {y : DataW H} (hn : l.length = len) (h : (l = [] ∧ y = .nil) ∨ ∃ D sp, y = .slice ((List.range len).map D) sp ∧ ∀ (i : Nat) (s : α), l[i]? = some s → f s ≤ Rows.uptoBulk (D i)) : (l.map f).sum + 1 ≤ Rows.uptoBulk y := by
  rcases h with ⟨rfl, rfl⟩ | ⟨D, sp, rfl, hR⟩
  · simp [Rows.uptoBulk]
  · have := sum_le f l (fun i => Rows.uptoBulk (D i)) hR
    rw [hn] at this
    simp only [Rows.uptoBulk, all_range]
    omega
theorem one_sum : ∀ d : List UInt8, (d.map (fun _ : UInt8 => 1)).sum = d.length
  | [] => rfl
  | a :: l => by rw [List.map_cons, List.sum_cons, one_sum l, List.length_cons]; omega
theorem ptStr : Tryz.prog.cellsOf 9 = 1 := by kernel_rfl
theorem ptInt : Tryz.prog.cellsOf 3 = 1 := by kernel_rfl
theorem ptU8 : Tryz.prog.cellsOf 5 = 1 := by kernel_rfl
theorem ptKs : Tryz.prog.cellsOf 34 = 1 := by kernel_rfl
theorem ptLs : Tryz.prog.cellsOf 35 = 1 := by kernel_rfl
theorem ptDs : Tryz.prog.cellsOf 27 = 1 := by kernel_rfl
theorem ptPO : Tryz.prog.cellsOf 37 = 6 := by kernel_rfl
theorem str_open {f : Nat} {cs : List Value} {y : DataW H × List MemPlace} (h : DataW.trod enc Tryz.prog W base spare held f 9 cs = some y) : ∃ s : List UInt8, cs = kcells s ∧ s.length + 1 ≤ Rows.uptoBulk y.1 := by
  obtain ⟨s, e, e2, _⟩ := DataW.trod_string Tryz.underlying9 h
  refine ⟨s.data.toList, by rw [e]; rfl, by rw [e2]; simp [Rows.uptoBulk]⟩
theorem byte_open {f : Nat} {cs : List Value} {y : DataW H × List MemPlace} (h : DataW.trod enc Tryz.prog W base spare held f 5 cs = some y) : ∃ c : UInt8, cs = dcells c ∧ 1 ≤ Rows.uptoBulk y.1 := by
  obtain ⟨z, e, e2, hw⟩ := DataW.trod_int Tryz.underlying5 h
  have h1 : IntKind.u8.min ≤ z ∧ z ≤ IntKind.u8.max := by simpa [Lit.wf] using hw
  have h2 : 0 ≤ z ∧ z < 256 := by
    have e1 : IntKind.u8.min = 0 := by decide
    have e3 : IntKind.u8.max = 255 := by decide
    omega
  refine ⟨UInt8.ofNat z.toNat, ?_, by rw [e2]; simp [Rows.uptoBulk]⟩
  rw [e]
  have : ((UInt8.ofNat z.toNat).toNat : Int) = z := by
    rw [UInt8.toNat_ofNat']
    omega
  show [Value.int .u8 z] = [Value.int .u8 _]
  rw [this]
set_option maxRecDepth 8000 in
theorem pobj_open : ∀ (fuel : Nat) (cs : List Value) (y : DataW H × List MemPlace), DataW.trod enc Tryz.prog W base spare held fuel 37 cs = some y → ∃ o : PO, cs = o.cells ∧ POk W o ∧ ∀ n, bulk n o ≤ Rows.uptoBulk y.1 := by
  intro fuel
  induction fuel using Nat.strongRecOn with
  | ind fuel ih =>
    intro cs y h
    obtain ⟨xs, n, hfu, hy, hl, hxl, hF⟩ := DataW.trod_struct Tryz.underlying37 h
    rw [ptPO] at hl
    match cs, hl, xs, hxl with
    | [c0, c1, c2, c3, c4, c5], _, [x0, x1, x2, x3, x4, x5], _ =>
      have h0 := hF 0 _ rfl
      have h1 := hF 1 _ rfl
      have h2 := hF 2 _ rfl
      have h3 := hF 3 _ rfl
      have h4 := hF 4 _ rfl
      have h5 := hF 5 _ rfl
      clear hF h
      simp [ptInt, ptStr, ptKs, ptLs, ptDs] at h0 h1 h2 h3 h4 h5
      obtain ⟨z0, e0, f0, w0⟩ := DataW.trod_int Tryz.underlying3 h0
      obtain ⟨z1, e1, f1, w1⟩ := DataW.trod_int Tryz.underlying3 h1
      obtain ⟨s, e2, f2, _⟩ := DataW.trod_string Tryz.underlying9 h2
      obtain ⟨ka, kl, kc, ks, e3, hk, fk⟩ := sl_openB ([] : List UInt8) 1 kcells (fun s y => s.length + 1 ≤ Rows.uptoBulk y) Tryz.underlying34 ptStr (by decide) (fun _ => rfl) (fun f _ cs y h => str_open h) h3
      obtain ⟨la, ll, lc, l, e4, hL, fl⟩ := sl_openB (PO.mk 0 0 [] none 0 0 [] none 0 0 [] none 0 0 []) 6 PO.cells (fun o y => POk W o ∧ ∀ n, bulk n o ≤ Rows.uptoBulk y) Tryz.underlying35 ptPO (by decide) PO.cells_len (fun f hf cs y h => ih f (by omega) cs y h) h4
      obtain ⟨da, dl, dc, d, e5, hd, fd⟩ := sl_openB (0 : UInt8) 1 dcells (fun s y => 1 ≤ Rows.uptoBulk y) Tryz.underlying27 ptU8 (by decide) (fun _ => rfl) (fun f _ cs y h => byte_open h) h5
      simp at e0 e1 e2 e3 e4 e5
      subst e0 e1 e2 e3 e4 e5
      refine ⟨.mk z0 z1 s.data.toList ka kl kc ks la ll lc l da dl dc d, rfl, .mk _ _ _ _ _ _ _ _ _ _ _ _ _ _ _ w1 hk hL ?_ hd, fun m => ?_⟩
      · intro c hc
        obtain ⟨i, hi⟩ := List.getElem?_of_mem hc
        rcases fl with ⟨rfl, _⟩ | ⟨D, sp, _, hR⟩
        · cases hc
        · exact (hR i c hi).1
      · rw [hy]
        cases m with
        | zero => exact Nat.zero_le _
        | succ m =>
          have b3 := slice_bulk (fun s : List UInt8 => s.length + 1) hk.2.2.1 fk
          have b4 := slice_bulk (bulk m) hL.2.2.1 (fl.imp id (fun ⟨D, sp, e, hR⟩ => ⟨D, sp, e, fun i s hs => (hR i s hs).2 m⟩))
          have b5 := slice_bulk (fun _ : UInt8 => 1) hd.2.2.1 fd
          have b6 := one_sum d
          rw [f0, f1, f2]
          simp only [bulk, PO.t, PO.ks, PO.d, PO.l, List.map_cons, List.map_nil, Rows.uptoBulk, Rows.uptoBulkAll, Array.length_toList]
          omega
end
end Go.Proofs.YtpellcdggaeppaaGreatDoor.Pob
