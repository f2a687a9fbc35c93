/- Arguments by value that hold integers only: structs and arrays, opened. No program in sight; no condition. -/
import Derived.Test.YtpellcdggaeppaaGreatDoorBase
import Derived.Test.YtpellcdggaeppaaGreatDoorChg
import Derived.WideShapes
namespace Go.Proofs.YtpellcdggaeppaaGreatDoor

/-- a struct or an array of n integers of one kind -/
def intsB (P : Program) (t : TypeId) (k : IntKind) (n : Nat) : Bool :=
  (match P.underlying t with | some (.struct _) | some (.array _ _) => true | _ => false) && P.cellsOf t == n &&
    match P.cellTypes P.depth t with
    | some ts => ts.all fun u => match P.underlying u with | some (.int k') => decide (k' = k) | _ => false
    | none => false
def numIn : Value → Int
  | .int _ z => z
  | _ => 0
theorem wide_open {P : Program} {w : World} {r : Reach} {base : Nat} {t : TypeId} {k : IntKind} {n : Nat} {v : Value} (hB : intsB P t k n = true) (h : Value.okWide P w r base t v) :
    ∃ zs : List Int, zs.length = n ∧ v = .agg (zs.map (Value.int k)).toArray ∧ ∀ z ∈ zs, (Lit.int k z).wf = true := by
  simp only [intsB, Bool.and_eq_true, beq_iff_eq] at hB
  obtain ⟨⟨hs, hn⟩, hB⟩ := hB
  have h2 : ∃ cs, v = .agg cs ∧ cs.size = P.cellsOf t ∧ Row.okWide P w r base t cs := by
    unfold Value.okWide at h
    split at hs
    · simpa [*] using h
    · simpa [*] using h
    · cases hs
  obtain ⟨cs, rfl, hsz, ts, hts, ⟨q, hq⟩, hrow⟩ := h2
  rw [hts] at hB
  simp only [List.all_eq_true] at hB
  have each : ∀ u ∈ cs.toList, Value.int k (numIn u) = u ∧ (Lit.int k (numIn u)).wf = true := by
    intro u hu
    obtain ⟨i, hi⟩ := Array.mem_iff_getElem?.1 (Array.mem_toList_iff.1 hu)
    obtain ⟨ty, hty, hok⟩ := hrow i u hi
    have hb := hB ty (List.mem_of_getElem? hty)
    split at hb
    · next k' hk =>
      have hkk : k' = k := of_decide_eq_true hb
      subst hkk
      unfold Cell.okWide Cell.ok at hok
      rw [hk] at hok
      cases u <;> simp_all [numIn, Lit.wf, IntKind.has]
    · cases hb
  refine ⟨cs.toList.map numIn, by simp [hsz, hn], ?_, ?_⟩
  · have : cs.toList.map (fun u => Value.int k (numIn u)) = cs.toList := by
      have h2 := List.map_congr_left (g := id) (l := cs.toList) (f := fun u => Value.int k (numIn u)) (fun u hu => (each u hu).1)
      rw [h2, List.map_id]
    rw [List.map_map]
    show Value.agg cs = Value.agg (cs.toList.map (fun u => Value.int k (numIn u))).toArray
    rw [this]
  · intro z hz
    obtain ⟨u, hu, rfl⟩ := List.mem_map.1 hz
    exact (each u hu).2
theorem wide2 {P : Program} {w : World} {r : Reach} {base : Nat} {t : TypeId} {k : IntKind} {v : Value} (hB : intsB P t k 2 = true) (h : Value.okWide P w r base t v) :
    ∃ a b : Int, v = .agg #[.int k a, .int k b] ∧ (Lit.int k a).wf = true ∧ (Lit.int k b).wf = true := by
  obtain ⟨zs, hl, rfl, hw⟩ := wide_open hB h
  match zs, hl with
  | [a, b], _ => exact ⟨a, b, rfl, hw a (by simp), hw b (by simp)⟩
theorem wide6 {P : Program} {w : World} {r : Reach} {base : Nat} {t : TypeId} {k : IntKind} {v : Value} (hB : intsB P t k 6 = true) (h : Value.okWide P w r base t v) :
    ∃ a b c d e f : Int, v = .agg #[.int k a, .int k b, .int k c, .int k d, .int k e, .int k f] ∧ ((Lit.int k a).wf = true ∧ (Lit.int k b).wf = true ∧ (Lit.int k c).wf = true ∧ (Lit.int k d).wf = true ∧ (Lit.int k e).wf = true ∧ (Lit.int k f).wf = true) := by
  obtain ⟨zs, hl, rfl, hw⟩ := wide_open hB h
  match zs, hl with
  | [a, b, c, d, e, f], _ => exact ⟨a, b, c, d, e, f, rfl, hw a (by simp), hw b (by simp), hw c (by simp), hw d (by simp), hw e (by simp), hw f (by simp)⟩
theorem wrap_small {n : Int} (h0 : -9223372036854775808 ≤ n) (h1 : n ≤ 9223372036854775807) : IntKind.i64.wrap n = n := by
  simp only [IntKind.wrap, IntKind.signed, IntKind.bits]
  simp
  omega

/-- one cell of a known block is written -/
theorem Row.put {w : World} {b i : Nat} {cs cs2 : Array Value} {u : Value} (h : Row w b cs) (e : cs.setIfInBounds i u = cs2) : Row (w.setCell ⟨b, i, none⟩ u) b cs2 := by
  subst e
  exact h.set i u
/-- the walk has come to this operation -/
theorem atOp {P : Program} {ops : Array Oper} {rest : List Oper} {o : Oper} {a : Act} {w : World} {Q : Exit → Act → World → Prop} (op : Op) (_ : o.op = op) (h : wpList P ops Q (o :: rest) a w) : wpList P ops Q (o :: rest) a w := h

end Go.Proofs.YtpellcdggaeppaaGreatDoor
