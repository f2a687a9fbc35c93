/- Law 15's own of any item. No condition but lengths that an append bears. Law 15's spoil: what it writes lies in the item's own blocks. No condition. -/
import Derived.Test.YteddlahklilncaaDoorGPa2
section
namespace Go.Proofs.YteddlahklilncaaDoor.Pt
open List renaming getElem_toArray → lga, getElem_cons_zero → lgz, getElem_cons_succ → lgs, setIfInBounds_toArray → lsa, set_cons_zero → lsz, set_cons_succ → lss
open Go.ChangeShapes Go.WideShapes Go.ChangeAt Go.RowKit
open Go.Proofs.YteddlahklilncaaDoor.FixM (fits)
open Go.Proofs.YteddlahklilncaaDoor.PathM (Seg sound)
open Go.Proofs.YteddlahklilncaaDoor.MatM (M6)
set_option linter.unusedVariables false
set_option linter.unusedSimpArgs false
open Go.Proofs.YteddlahklilncaaDoor.PathM (segCells)
theorem src_out {w : World} {a : Option Addr} {n c K : Nat} {xs : List Value} (h : Src w (.slice a n c) K n xs) : xs.length = n * K ∧ (a = none → n = 0 ∧ c = 0) ∧ ∀ ad, a = some ad → ∀ j u, xs[j]? = some u → w.cell? (ad.add j) = some u := by
  obtain ⟨ao, c', e, h1, h2, h3⟩ := h
  injection e with e1 e2 e3
  subst e1 e3
  exact ⟨h1, h2, h3⟩
theorem wp_append_any {P : Program} {w : World} {o : Oper} {a : Act} {K : Act → World → Prop} {Q : Exit → Act → World → Prop} (hgd : o.guard = none) (s x : Operand) (t : TypeId)
    (ho : o.op = .call { callee := .builtin .append, args := #[s, x], argTypes := #[t, t] })
    (base : Nat) (e : TypeId) (i : TypeInfo) (z : Value) (size bytes : Nat) (ht : P.underlying t = some (.slice e)) (hi : P.info? e = some i) (hz : i.zero = some z)
    (hsize : i.size = size) (hby : i.bytes = bytes) (hzs : z.cells.size = size) (hsz : 0 < size)
    (v : Value) (n : Nat) (xs : List Value) (hs : a.eval s = v) (hown : w.ownsRow base e size v n xs)
    (ao : Option Addr) (m c : Nat) (news : List Value) (hx : a.eval x = .slice ao m c) (hl : news.length = m * size) (hnone : ao = none → m = 0 ∧ c = 0) (hnews : ∀ ad, ao = some ad → ∀ j u, news[j]? = some u → w.cell? (ad.add j) = some u) (h1 : ∀ u ∈ news, u.oneCell' = true)
    (h63 : n + m ≤ maxLen) (hbytes : (n + m) * bytes ≤ 140737488355328) (hbase : base ≤ w.heap.size)
    (hK : ∀ v' w', w'.ownsRow base e size v' (n + m) (xs ++ news) → w.grownBy w' v.ownBlock → K (a.put o.dst v') w') : Oper.wp P o a w K Q := by
  have h := step_append_any (Q := Q) (ops := #[]) (E := True) hgd s x t ho base e i z size bytes ht hi hz hsize hby hzs hsz v n xs hs hown ao m c news hx hl hnone hnews h1 h63 hbytes hbase hK
  rwa [if_pos (by simp [Region.wanted, hgd])] at h
theorem s2_set {w : World} {b B o o1 o2 : Nat} {x y u : Value} (h : w.cell? ⟨b, o1, none⟩ = some x ∧ w.cell? ⟨b, o2, none⟩ = some y) (hb : b < w.heap.size) (hne : b ≠ B) : (w.setCell ⟨B, o, none⟩ u).cell? ⟨b, o1, none⟩ = some x ∧ (w.setCell ⟨B, o, none⟩ u).cell? ⟨b, o2, none⟩ = some y := by
  have hs : Chg [B] w (w.setCell ⟨B, o, none⟩ u) := (Chg.refl [B] w).setCell (Or.inl (by simp)) _
  exact ⟨(hs.cells.1 b _ hb (by simpa using hne)).trans h.1, (hs.cells.1 b _ hb (by simpa using hne)).trans h.2⟩
theorem made_at {w : World} {g base K : Nat} {e : TypeId} (h : g = w.heap.size) (hb : base ≤ g) (hK : 0 < K) : (w.alloc (.cells #[] e)).ownsRow base e K (.slice (some ⟨g, 0, none⟩) 0 0) 0 [] := by
  subst h
  exact World.ownsRow_made w #[] 0 hb (by decide) (by simp)
theorem MidC.chgB {w w1 : World} {base B : Nat} {v : Value} {l : List Clip} (h : MidC w base v l) (hc : Chg [B] w w1) (hB : B < base) : MidC w1 base v l := by
  have hz := hc.size
  have hv : ∀ g, v.ownBlock = some g → g ∉ [B] := fun g hg h2 => by
    have := (h.its.lt g hg).1
    simp at h2
    omega
  refine ⟨?_, fun c hc2 => owned_chg (h.cs c hc2) hc (fun g hg h2 => by have := (h.lo c hc2 g (own_mem hg)).1; simp at h2; omega), fun c hc2 b hb => ⟨(h.lo c hc2 b hb).1, Nat.lt_of_lt_of_le (h.lo c hc2 b hb).2 hz⟩, h.nd⟩
  have h1 := owned_chg (owned_new h.its).1 hc hv
  refine ⟨h1.1, ?_⟩
  rcases h1.2 with h2 | ⟨g, cap, cur, hv2, _, hr⟩
  · exact Or.inl h2
  · exact Or.inr ⟨g, cap, cur, hv2, (h.its.lt g (by rw [hv2]; rfl)).1, hr⟩
theorem MidC.low {w : World} {base b2 : Nat} {v : Value} {l : List Clip} (h : MidC w base v l) (hb : b2 ≤ base) : MidC w b2 v l := by
  refine ⟨⟨h.its.1, ?_⟩, h.cs, fun c hc b hb2 => ⟨by have := (h.lo c hc b hb2).1; omega, (h.lo c hc b hb2).2⟩, h.nd⟩
  rcases h.its.2 with h2 | ⟨g, cap, cur, hv2, hg, hr⟩
  · exact Or.inl h2
  · exact Or.inr ⟨g, cap, cur, hv2, by omega, hr⟩
theorem results_lown (tmps : Array Value) (w : World) (b1 : Nat) (cs : Array Value) (e2 : tmps.getD 2 undef = .pointer (some ⟨b1, 0, none⟩)) (h1 : Row w b1 cs) (hs1 : cs.size = 22) :
    (results Tryd.f11 tmps).run Tryd.prog w = .ok (.agg cs) w := by
  rw [Array.getD_eq_getD_getElem?] at e2
  have hl1 := run_loadAt_mid (P := Tryd.prog) w b1 0 36 cs.toList _ (rng0 h1) Tryd.underlying36 rfl (by rw [Array.length_toList, hs1]; exact infoItem)
  simp [results, Tryd.results11, go_sem, e2] at hl1
  simp [results, Tryd.results11, go_sem, e2, hl1]
theorem MidC.nil (w : World) (base : Nat) : MidC w base (.slice none 0 0) [] := ⟨World.ownsRow_nil _ _ _ _, (fun c hc => by cases hc), (fun c hc => by cases hc), by simp [own, Value.ownBlock]⟩

theorem own_mk2 {k : Int} {pa : Option Addr} {pl pc : Nat} {sp p0 p1 p2 p3 : Int} {ca : Option Addr} {cl cc : Nat} {wd cp jn mt : Int} {da : Option Addr} {dl dc : Nat} {ph fn : Int} {m : M6} {ba : Option Addr} {bl bc : Nat} {l : List Seg} {cs : List Clip} {ds bs : List Int} {w wf wr w3 : World} {a8 : Option Addr} {c8 : Nat} {a11 : Option Addr} {c11 : Nat} {a15 : Option Addr} {c15 : Nat} {a7 : Option Addr} {c7 : Nat} {l1 : List Clip} (h : Cloned k pa pl pc sp p0 p1 p2 p3 ca cl cc wd cp jn mt da dl dc ph fn m ba bl bc l cs ds bs w wf a8 c8 a11 c11 a15 c15) (hm : MidC wr wf.heap.size (.slice a7 cl c7) l1) (hN : l1.length = cl)
    (hd : l1.map (fun c => (c.l, c.eo)) = cs.map (fun c => (c.l, c.eo))) (hu : Chg [w.heap.size, w.heap.size + 1] wf wr) (hc : Chg [w.heap.size, w.heap.size + 1] wr w3) :
    l1.map (fun c => (c.l, c.eo)) = cs.map (fun c => (c.l, c.eo)) ∧ Path.Segs w3 (.slice a8 pl c8) l ∧ w3.ownsRow 0 5 1 (.slice a11 bl c11) bl (bs.map (Value.int .u8)) ∧ w3.ownsRow 0 3 1 (.slice a15 dl c15) dl (ds.map (Value.int .i64)) ∧ w3.ownsRow 0 60 2 (.slice a7 cl c7) l1.length (clipCells l1) ∧ (∀ c ∈ l1, Path.Segs w3 c.v c.l) ∧
      (own (.slice a8 pl c8) ++ (own (.slice a11 bl c11) ++ (own (.slice a15 dl c15) ++ (own (.slice a7 cl c7) ++ l1.flatMap (fun c => own c.v))))).Nodup ∧ (∀ g ∈ own (.slice a8 pl c8) ++ (own (.slice a11 bl c11) ++ (own (.slice a15 dl c15) ++ (own (.slice a7 cl c7) ++ l1.flatMap (fun c => own c.v)))), w.heap.size ≤ g ∧ g < w3.heap.size) ∧ Up w w3 := by
  have zr := hu.size
  have z3 := hc.size
  have zw := h.up.size
  have zl : w.heap.size + 2 ≤ wf.heap.size := by have := h.rz.lt; omega
  have A : ∀ g ∈ own (.slice a8 pl c8), w.heap.size + 2 ≤ g ∧ g < wf.heap.size := fun g hg => h.lo g (by simp [hg])
  have B : ∀ g ∈ own (.slice a11 bl c11), w.heap.size + 2 ≤ g ∧ g < wf.heap.size := fun g hg => h.lo g (by simp [hg])
  have C : ∀ g ∈ own (.slice a15 dl c15), w.heap.size + 2 ≤ g ∧ g < wf.heap.size := fun g hg => h.lo g (by simp [hg])
  have D : ∀ g ∈ own (.slice a7 cl c7) ++ l1.flatMap (fun c => own c.v), wf.heap.size ≤ g ∧ g < wr.heap.size := fun g hg => by
    rcases List.mem_append.1 hg with h1 | h1
    · exact hm.its.lt g (own_of h1)
    · obtain ⟨c, hc1, hc2⟩ := List.mem_flatMap.1 h1
      exact hm.lo c hc1 g hc2
  have no : ∀ {v : Value}, (∀ g ∈ own v, w.heap.size + 2 ≤ g) → ∀ g, v.ownBlock = some g → g ∉ [w.heap.size, w.heap.size + 1] := fun hv g hg h2 => by
    have := hv g (own_mem hg)
    simp at h2
    omega
  have nd := List.nodup_append.1 h.nd
  have nd2 := List.nodup_append.1 nd.2.1
  refine ⟨hd, owned_chg (owned_chg h.pv hu (no (fun g hg => (A g hg).1))) hc (no (fun g hg => (A g hg).1)), owned_chg (owned_chg h.bv hu (no (fun g hg => (B g hg).1))) hc (no (fun g hg => (B g hg).1)), owned_chg (owned_chg h.dv hu (no (fun g hg => (C g hg).1))) hc (no (fun g hg => (C g hg).1)),
    owned_chg (owned_new hm.its).1 hc (no (fun g hg => by have := D g (List.mem_append_left _ hg); omega)), fun c hc1 => owned_chg (hm.cs c hc1) hc (no (fun g hg => by have := D g (List.mem_append_right _ (List.mem_flatMap.2 ⟨c, hc1, hg⟩)); omega)), ?_, ?_, ?_⟩
  · refine List.nodup_append.2 ⟨own_nodup _, List.nodup_append.2 ⟨own_nodup _, List.nodup_append.2 ⟨own_nodup _, hm.nd, ?_⟩, ?_⟩, ?_⟩
    · intro a ha b hb e
      have := C a ha; have := D b hb; omega
    · intro a ha b hb e
      rcases List.mem_append.1 hb with h1 | h1
      · exact nd2.2.2 a ha b h1 e
      · have := B a ha; have := D b h1; omega
    · intro a ha b hb e
      rcases List.mem_append.1 hb with h1 | h1
      · exact nd.2.2 a ha b (List.mem_append_left _ h1) e
      rcases List.mem_append.1 h1 with h1 | h1
      · exact nd.2.2 a ha b (List.mem_append_right _ h1) e
      · have := A a ha; have := D b h1; omega
  · intro g hg
    rcases List.mem_append.1 hg with h1 | h1
    · have := A g h1; exact ⟨by omega, by omega⟩
    rcases List.mem_append.1 h1 with h1 | h1
    · have := B g h1; exact ⟨by omega, by omega⟩
    rcases List.mem_append.1 h1 with h1 | h1
    · have := C g h1; exact ⟨by omega, by omega⟩
    · have := D g h1; exact ⟨by omega, by omega⟩
  · exact (((Chg.of_up (S := []) h.up).call hu (fun k hk => Or.inr (by simp at hk; omega))).call hc (fun k hk => Or.inr (by simp at hk; omega))).up

theorem cloned_mk2 {k : Int} {pa : Option Addr} {pl pc : Nat} {sp p0 p1 p2 p3 : Int} {ca : Option Addr} {cl cc : Nat} {wd cp jn mt : Int} {da : Option Addr} {dl dc : Nat} {ph fn : Int} {m : M6} {ba : Option Addr} {bl bc : Nat} {l : List Seg} {cs : List Clip} {ds bs : List Int} {w wa wb wc wf : World} {a8 : Option Addr} {c8 : Nat} {a11 : Option Addr} {c11 : Nat} {a15 : Option Addr} {c15 : Nat} (hP : l.length = pl)
    (hA : wa.ownsRow (w.heap.size + 2) 68 7 (.slice a8 pl c8) pl (segCells l)) (hB : wb.ownsRow wa.heap.size 5 1 (.slice a11 bl c11) bl (bs.map (Value.int .u8))) (hC : wc.ownsRow wb.heap.size 3 1 (.slice a15 dl c15) dl (ds.map (Value.int .i64)))
    (ca' : Chg [w.heap.size] wa wb) (cb' : Chg [w.heap.size] wb wc) (hcf : Chg [w.heap.size] wc wf) (u : Up w wa) (hs : w.heap.size + 2 ≤ wa.heap.size) (rf : Row wf w.heap.size #[.int .i64 k, .slice a8 pl c8, .int .i64 sp, .int .i64 p0, .int .i64 p1, .int .i64 p2, .int .i64 p3, .slice ca cl cc, .int .i64 wd, .int .i64 cp, .int .i64 jn, .int .i64 mt, .slice a15 dl c15, .int .i64 ph, .int .i64 fn, .int .i64 m.a, .int .i64 m.b, .int .i64 m.c, .int .i64 m.d, .int .i64 m.x, .int .i64 m.y, .slice a11 bl c11]) (rz : Row wf (w.heap.size + 1) #[.int .i64 0, .slice none 0 0, .int .i64 0, .int .i64 0, .int .i64 0, .int .i64 0, .int .i64 0, .slice none 0 0, .int .i64 0, .int .i64 0, .int .i64 0, .int .i64 0, .slice none 0 0, .int .i64 0, .int .i64 0, .int .i64 0, .int .i64 0, .int .i64 0, .int .i64 0, .int .i64 0, .int .i64 0, .slice none 0 0]) : Cloned k pa pl pc sp p0 p1 p2 p3 ca cl cc wd cp jn mt da dl dc ph fn m ba bl bc l cs ds bs w wf a8 c8 a11 c11 a15 c15 := by
  have zb := ca'.size
  have zc := cb'.size
  have zf := hcf.size
  have hfA : ∀ g ∈ own (.slice a8 pl c8), w.heap.size + 2 ≤ g ∧ g < wa.heap.size := fun g hg => hA.lt g (own_of hg)
  have hfB : ∀ g ∈ own (.slice a11 bl c11), wa.heap.size ≤ g ∧ g < wb.heap.size := fun g hg => hB.lt g (own_of hg)
  have hfC : ∀ g ∈ own (.slice a15 dl c15), wb.heap.size ≤ g ∧ g < wc.heap.size := fun g hg => hC.lt g (own_of hg)
  have no : ∀ {v : Value}, (∀ g ∈ own v, w.heap.size + 2 ≤ g) → ∀ g, v.ownBlock = some g → g ∉ [w.heap.size] := fun h g hg h2 => by
    have := h g (own_mem hg)
    simp at h2
    omega
  refine ⟨rf, rz, ?_, ?_, ?_, ?_, ?_, ((((Chg.of_up (S := []) u).call ca' (fun k hk => Or.inr (by simp at hk; omega))).call cb' (fun k hk => Or.inr (by simp at hk; omega))).call hcf (fun k hk => Or.inr (by simp at hk; omega))).up⟩
  · have h1 := owned_chg (owned_chg (owned_chg (owned_new hA).1 ca' (no (fun g hg => (hfA g hg).1))) cb' (no (fun g hg => (hfA g hg).1))) hcf (no (fun g hg => (hfA g hg).1))
    show wf.ownsRow 0 _ 7 _ l.length _
    rw [hP]
    exact h1
  · exact owned_chg (owned_chg (owned_new hB).1 cb' (no (fun g hg => by have := hfB g hg; omega))) hcf (no (fun g hg => by have := hfB g hg; omega))
  · exact owned_chg (owned_new hC).1 hcf (no (fun g hg => by have := hfC g hg; omega))
  · refine List.nodup_append.2 ⟨own_nodup _, List.nodup_append.2 ⟨own_nodup _, own_nodup _, ?_⟩, ?_⟩
    · intro a ha b hb e
      have := hfB a ha; have := hfC b hb; omega
    · intro a ha b hb e
      have := hfA a ha
      rcases List.mem_append.1 hb with h1 | h1
      · have := hfB b h1; omega
      · have := hfC b h1; omega
  · intro g hg
    rcases List.mem_append.1 hg with h1 | h1
    · have := hfA g h1; exact ⟨by omega, by omega⟩
    rcases List.mem_append.1 h1 with h1 | h1
    · have := hfB g h1; exact ⟨by omega, by omega⟩
    · have := hfC g h1; exact ⟨by omega, by omega⟩

set_option maxRecDepth 8000 in
set_option maxHeartbeats 16000000 in
theorem lown_calls (k : Int) (pa : Option Addr) (pl pc : Nat) (sp p0 p1 p2 p3 : Int) (ca : Option Addr) (cl cc : Nat) (wd cp jn mt : Int) (da : Option Addr) (dl dc : Nat) (ph fn : Int) (m : M6) (ba : Option Addr) (bl bc : Nat) (l : List Seg) (cs : List Clip) (ds bs : List Int) (w : World) (hP : Src w (.slice pa pl pc) 7 pl (segCells l)) (hPn : l.length = pl) (hB : Src w (.slice ba bl bc) 1 bl (bs.map (Value.int .u8))) (hD : Src w (.slice da dl dc) 1 dl (ds.map (Value.int .i64))) (hC : Sl 2 Clip.cells w ca cl cc cs) (hCs : ∀ c ∈ cs, Src w c.v 7 c.l.length (segCells c.l))
    (hl1 : pl ≤ 10000) (hl2 : bl ≤ 100000) (hl3 : dl ≤ 10000) (hl4 : cl ≤ 100) (hl5 : ∀ c ∈ cs, c.l.length ≤ 10000) :
    Calls Tryd.prog 11 #[.agg #[.int .i64 k, .slice pa pl pc, .int .i64 sp, .int .i64 p0, .int .i64 p1, .int .i64 p2, .int .i64 p3, .slice ca cl cc, .int .i64 wd, .int .i64 cp, .int .i64 jn, .int .i64 mt, .slice da dl dc, .int .i64 ph, .int .i64 fn, .int .i64 m.a, .int .i64 m.b, .int .i64 m.c, .int .i64 m.d, .int .i64 m.x, .int .i64 m.y, .slice ba bl bc]] w fun E w' => ∃ a8 c8 a11 c11 a15 c15 a7 c7 cs', E = .returned (.agg #[.int .i64 k, .slice a8 pl c8, .int .i64 sp, .int .i64 p0, .int .i64 p1, .int .i64 p2, .int .i64 p3, .slice a7 cl c7, .int .i64 wd, .int .i64 cp, .int .i64 jn, .int .i64 mt, .slice a15 dl c15, .int .i64 ph, .int .i64 fn, .int .i64 m.a, .int .i64 m.b, .int .i64 m.c, .int .i64 m.d, .int .i64 m.x, .int .i64 m.y, .slice a11 bl c11]) ∧ cs'.map (fun c => (c.l, c.eo)) = cs.map (fun c => (c.l, c.eo)) ∧
      Path.Segs w' (.slice a8 pl c8) l ∧ w'.ownsRow 0 5 1 (.slice a11 bl c11) bl (bs.map (Value.int .u8)) ∧ w'.ownsRow 0 3 1 (.slice a15 dl c15) dl (ds.map (Value.int .i64)) ∧ w'.ownsRow 0 60 2 (.slice a7 cl c7) cs'.length (clipCells cs') ∧ (∀ c ∈ cs', Path.Segs w' c.v c.l) ∧
      (own (.slice a8 pl c8) ++ (own (.slice a11 bl c11) ++ (own (.slice a15 dl c15) ++ (own (.slice a7 cl c7) ++ cs'.flatMap (fun c => own c.v))))).Nodup ∧ (∀ g ∈ own (.slice a8 pl c8) ++ (own (.slice a11 bl c11) ++ (own (.slice a15 dl c15) ++ (own (.slice a7 cl c7) ++ cs'.flatMap (fun c => own c.v)))), w.heap.size ≤ g ∧ g < w'.heap.size) ∧ Up w w' := by
  obtain ⟨i0, hi, hz0, hz1, hz2⟩ := info_parts3 infoC2
  obtain ⟨s0, hs, hs0, hs1, hs2⟩ := info_parts3 infoS7
  obtain ⟨b0, hb, hb0, hb1, hb2⟩ := info_parts3 infoU1
  obtain ⟨d0, hd, hd0, hd1, hd2⟩ := info_parts3 infoI1
  have HP := Lib.hid (src_out hP)
  have HB := Lib.hid (src_out hB)
  have HD := Lib.hid (src_out hD)
  have HPN := Lib.hid hPn
  have HCN := Lib.hid hC.2.2.1
  have HCC := Lib.hid hC.2.2.2.2
  have HCS := Lib.hid hCs
  have HL5 := Lib.hid hl5
  clear hP hB hD hPn hC hCs hl5
  go_enter Tryd.func11, Tryd.ntmps11
  go_upto_region 4 with (first
    | (at_builtin; go_loud (refine wpList_append_any rfl (.tmp 5) (.tmp 7) 25 rfl (w.heap.size + 2) 68 s0 _ 7 56 Tryd.underlying25 hs hs0 hs1 hs2 rfl (by decide) (.slice (some ⟨w.heap.size + 1 + 1, 0, none⟩) 0 0) 0 [] rfl (by exact made_at (by first | rfl | (simp; done)) (by first | exact Nat.le_refl _ | omega) (by decide)) pa pl pc (segCells l) rfl HP.out.1 HP.out.2.1 (fun ad e j u hj => cell_up (show Up w _ by (repeat' (first | (with_reducible first | exact Up.refl _ | assumption | refine Up.alloc ?_ _ | refine Up.drew ?_ | refine Up.drewN ?_ _ | refine Up.setCell ?_ ?_ _ | refine Up.call ?_ (by assumption)) | go_size))) (HP.out.2.2 ad e j u hj)) (PathM.segCells_one l) (by unfold maxLen; omega) (by omega) (by first | (simp; done) | (simp; omega) | omega) ?_; intro v8 w1 hown hgr hnil; have zw1 := hgr.size; (try simp at zw1); have hQw1 : Chg [w.heap.size + 1 + 1] _ w1 := Chg.grown (Chg.refl _ _) hgr (fun k hk => Or.inl (by simp only [Value.ownBlock, Option.some.injEq] at hk; simp [hk])); have RBw1 : Row w1 w.heap.size #[.int .i64 k, .slice pa pl pc, .int .i64 sp, .int .i64 p0, .int .i64 p1, .int .i64 p2, .int .i64 p3, .slice ca cl cc, .int .i64 wd, .int .i64 cp, .int .i64 jn, .int .i64 mt, .slice da dl dc, .int .i64 ph, .int .i64 fn, .int .i64 m.a, .int .i64 m.b, .int .i64 m.c, .int .i64 m.d, .int .i64 m.x, .int .i64 m.y, .slice ba bl bc] := Row.chg (show Row _ w.heap.size #[.int .i64 k, .slice pa pl pc, .int .i64 sp, .int .i64 p0, .int .i64 p1, .int .i64 p2, .int .i64 p3, .slice ca cl cc, .int .i64 wd, .int .i64 cp, .int .i64 jn, .int .i64 mt, .slice da dl dc, .int .i64 ph, .int .i64 fn, .int .i64 m.a, .int .i64 m.b, .int .i64 m.c, .int .i64 m.d, .int .i64 m.x, .int .i64 m.y, .slice ba bl bc] from (by (repeat' (with_reducible first | assumption | (refine Row.at _ _ ?_; (simp; done)) | refine Row.alloc ?_ _ | refine Row.drew ?_ | refine Row.drewN ?_ _ | refine Row.other ?_ (by first | (simp; done) | (simp; omega) | omega) _ | refine Row.up ?_ (by assumption) | refine Row.chg ?_ (by assumption) (by first | (simp; done) | (simp; omega)))))) hQw1 (by first | (simp; done) | (simp; omega)); have uw1 : Up w w1 := grown_up (show Up w _ by (repeat' (first | (with_reducible first | exact Up.refl _ | assumption | refine Up.alloc ?_ _ | refine Up.drew ?_ | refine Up.drewN ?_ _ | refine Up.setCell ?_ ?_ _ | refine Up.call ?_ (by assumption)) | go_size))) hgr (fun k hk => by simp only [Value.ownBlock, Option.some.injEq] at hk; omega);  have HOw1 := Lib.hid (show w1.ownsRow (w.heap.size + 2) 68 7 v8 pl (segCells l) from (by have h9 := hown; rwa [Nat.zero_add, List.nil_append] at h9)); (obtain ⟨a8, c8, rfl⟩ := owned_val (owned_new HOw1.out).1); have lw1 := RBw1.lt; have RZw1 : Row w1 (w.heap.size + 1) #[.int .i64 0, .slice none 0 0, .int .i64 0, .int .i64 0, .int .i64 0, .int .i64 0, .int .i64 0, .slice none 0 0, .int .i64 0, .int .i64 0, .int .i64 0, .int .i64 0, .slice none 0 0, .int .i64 0, .int .i64 0, .int .i64 0, .int .i64 0, .int .i64 0, .int .i64 0, .int .i64 0, .int .i64 0, .slice none 0 0] := Row.chg (show Row _ (w.heap.size + 1) #[.int .i64 0, .slice none 0 0, .int .i64 0, .int .i64 0, .int .i64 0, .int .i64 0, .int .i64 0, .slice none 0 0, .int .i64 0, .int .i64 0, .int .i64 0, .int .i64 0, .slice none 0 0, .int .i64 0, .int .i64 0, .int .i64 0, .int .i64 0, .int .i64 0, .int .i64 0, .int .i64 0, .int .i64 0, .slice none 0 0] from (by (repeat' (with_reducible first | assumption | (refine Row.at _ _ ?_; (simp; done)) | refine Row.alloc ?_ _ | refine Row.drew ?_ | refine Row.drewN ?_ _ | refine Row.other ?_ (by first | (simp; done) | (simp; omega) | omega) _ | refine Row.up ?_ (by assumption) | refine Row.chg ?_ (by assumption) (by first | (simp; done) | (simp; omega)))))) hQw1 (by first | (simp; done) | (simp; omega)); have xw1_1 : w1.cell? ⟨w.heap.size, 1, none⟩ = some (.slice pa pl pc) := RBw1.cell 1 rfl; have yw1_1 := RBw1.free 1; have xw1_7 : w1.cell? ⟨w.heap.size, 7, none⟩ = some (.slice ca cl cc) := RBw1.cell 7 rfl; have yw1_7 := RBw1.free 7; have xw1_12 : w1.cell? ⟨w.heap.size, 12, none⟩ = some (.slice da dl dc) := RBw1.cell 12 rfl; have yw1_12 := RBw1.free 12; have xw1_21 : w1.cell? ⟨w.heap.size, 21, none⟩ = some (.slice ba bl bc) := RBw1.cell 21 rfl; have yw1_21 := RBw1.free 21; clear hown hgr hnil hQw1))
    | (at_builtin; go_loud (refine wpList_append_any rfl (.tmp 10) (.tmp 12) 34 rfl (w1.heap.size) 5 b0 _ 1 1 Tryd.underlying34 hb hb0 hb1 hb2 rfl (by decide) (.slice (some ⟨w1.heap.size, 0, none⟩) 0 0) 0 [] rfl (by exact made_at (by first | rfl | (simp; done)) (by first | exact Nat.le_refl _ | omega) (by decide)) ba bl bc (bs.map (Value.int .u8)) rfl HB.out.1 HB.out.2.1 (fun ad e j u hj => cell_up (show Up w _ by (repeat' (first | (with_reducible first | exact Up.refl _ | assumption | refine Up.alloc ?_ _ | refine Up.drew ?_ | refine Up.drewN ?_ _ | refine Up.setCell ?_ ?_ _ | refine Up.call ?_ (by assumption)) | go_size))) (HB.out.2.2 ad e j u hj)) (ints_oneCell _ _) (by unfold maxLen; omega) (by omega) (by first | (simp; done) | (simp; omega) | omega) ?_; intro v11 w2 hown hgr hnil; have zw2 := hgr.size; (try simp at zw2); have hQw2 : Chg [w1.heap.size] _ w2 := Chg.grown (Chg.refl _ _) hgr (fun k hk => Or.inl (by simp only [Value.ownBlock, Option.some.injEq] at hk; simp [hk])); have RBw2 : Row w2 w.heap.size #[.int .i64 k, .slice a8 pl c8, .int .i64 sp, .int .i64 p0, .int .i64 p1, .int .i64 p2, .int .i64 p3, .slice ca cl cc, .int .i64 wd, .int .i64 cp, .int .i64 jn, .int .i64 mt, .slice da dl dc, .int .i64 ph, .int .i64 fn, .int .i64 m.a, .int .i64 m.b, .int .i64 m.c, .int .i64 m.d, .int .i64 m.x, .int .i64 m.y, .slice ba bl bc] := Row.chg (show Row _ w.heap.size #[.int .i64 k, .slice a8 pl c8, .int .i64 sp, .int .i64 p0, .int .i64 p1, .int .i64 p2, .int .i64 p3, .slice ca cl cc, .int .i64 wd, .int .i64 cp, .int .i64 jn, .int .i64 mt, .slice da dl dc, .int .i64 ph, .int .i64 fn, .int .i64 m.a, .int .i64 m.b, .int .i64 m.c, .int .i64 m.d, .int .i64 m.x, .int .i64 m.y, .slice ba bl bc] from (by apply cast; (case h => (repeat (first | (with_reducible first | assumption | (apply Row.at; (simp; done)) | apply Row.alloc | apply Row.drew | apply Row.drewN | apply Row.set) | ((with_reducible apply Row.other); (case hp => first | (simp; done) | (simp; omega) | omega))))); (case e => rfl))) hQw2 (by first | (simp; done) | (simp; omega)); have uw2 : Up w w2 := grown_up (show Up w _ by (repeat' (first | (with_reducible first | exact Up.refl _ | assumption | refine Up.alloc ?_ _ | refine Up.drew ?_ | refine Up.drewN ?_ _ | refine Up.setCell ?_ ?_ _ | refine Up.call ?_ (by assumption)) | go_size))) hgr (fun k hk => by simp only [Value.ownBlock, Option.some.injEq] at hk; omega); have HQ12 := Lib.hid (show Chg [w.heap.size] w1 w2 from Chg.grown (((Chg.refl [w.heap.size] w1).setCell (Or.inl (by simp)) _).alloc _) hgr (fun k hk => Or.inr (by simp only [Value.ownBlock, Option.some.injEq] at hk; omega))); have HOw2 := Lib.hid (show w2.ownsRow (w1.heap.size) 5 1 v11 bl (bs.map (Value.int .u8)) from (by have h9 := hown; rwa [Nat.zero_add, List.nil_append] at h9)); (obtain ⟨a11, c11, rfl⟩ := owned_val (owned_new HOw2.out).1); have lw2 := RBw2.lt; have RZw2 : Row w2 (w.heap.size + 1) #[.int .i64 0, .slice none 0 0, .int .i64 0, .int .i64 0, .int .i64 0, .int .i64 0, .int .i64 0, .slice none 0 0, .int .i64 0, .int .i64 0, .int .i64 0, .int .i64 0, .slice none 0 0, .int .i64 0, .int .i64 0, .int .i64 0, .int .i64 0, .int .i64 0, .int .i64 0, .int .i64 0, .int .i64 0, .slice none 0 0] := Row.chg (show Row _ (w.heap.size + 1) #[.int .i64 0, .slice none 0 0, .int .i64 0, .int .i64 0, .int .i64 0, .int .i64 0, .int .i64 0, .slice none 0 0, .int .i64 0, .int .i64 0, .int .i64 0, .int .i64 0, .slice none 0 0, .int .i64 0, .int .i64 0, .int .i64 0, .int .i64 0, .int .i64 0, .int .i64 0, .int .i64 0, .int .i64 0, .slice none 0 0] from (by (repeat' (with_reducible first | assumption | (refine Row.at _ _ ?_; (simp; done)) | refine Row.alloc ?_ _ | refine Row.drew ?_ | refine Row.drewN ?_ _ | refine Row.other ?_ (by first | (simp; done) | (simp; omega) | omega) _ | refine Row.up ?_ (by assumption) | refine Row.chg ?_ (by assumption) (by first | (simp; done) | (simp; omega)))))) hQw2 (by first | (simp; done) | (simp; omega)); have xw2_7 : w2.cell? ⟨w.heap.size, 7, none⟩ = some (.slice ca cl cc) := RBw2.cell 7 rfl; have yw2_7 := RBw2.free 7; have xw2_12 : w2.cell? ⟨w.heap.size, 12, none⟩ = some (.slice da dl dc) := RBw2.cell 12 rfl; have yw2_12 := RBw2.free 12; have xw2_21 : w2.cell? ⟨w.heap.size, 21, none⟩ = some (.slice ba bl bc) := RBw2.cell 21 rfl; have yw2_21 := RBw2.free 21; clear hown hgr hnil hQw2))
    | (at_builtin; go_loud (refine wpList_append_any rfl (.tmp 15) (.tmp 18) 30 rfl (w2.heap.size) 3 d0 _ 1 8 Tryd.underlying30 hd hd0 hd1 hd2 rfl (by decide) (.slice (some ⟨w2.heap.size, 0, none⟩) 0 0) 0 [] rfl (by exact made_at (by first | rfl | (simp; done)) (by first | exact Nat.le_refl _ | omega) (by decide)) da dl dc (ds.map (Value.int .i64)) rfl HD.out.1 HD.out.2.1 (fun ad e j u hj => cell_up (show Up w _ by (repeat' (first | (with_reducible first | exact Up.refl _ | assumption | refine Up.alloc ?_ _ | refine Up.drew ?_ | refine Up.drewN ?_ _ | refine Up.setCell ?_ ?_ _ | refine Up.call ?_ (by assumption)) | go_size))) (HD.out.2.2 ad e j u hj)) (ints_oneCell _ _) (by unfold maxLen; omega) (by omega) (by first | (simp; done) | (simp; omega) | omega) ?_; intro v15 w3 hown hgr hnil; have zw3 := hgr.size; (try simp at zw3); have hQw3 : Chg [w2.heap.size] _ w3 := Chg.grown (Chg.refl _ _) hgr (fun k hk => Or.inl (by simp only [Value.ownBlock, Option.some.injEq] at hk; simp [hk])); have RBw3 : Row w3 w.heap.size #[.int .i64 k, .slice a8 pl c8, .int .i64 sp, .int .i64 p0, .int .i64 p1, .int .i64 p2, .int .i64 p3, .slice ca cl cc, .int .i64 wd, .int .i64 cp, .int .i64 jn, .int .i64 mt, .slice da dl dc, .int .i64 ph, .int .i64 fn, .int .i64 m.a, .int .i64 m.b, .int .i64 m.c, .int .i64 m.d, .int .i64 m.x, .int .i64 m.y, .slice a11 bl c11] := Row.chg (show Row _ w.heap.size #[.int .i64 k, .slice a8 pl c8, .int .i64 sp, .int .i64 p0, .int .i64 p1, .int .i64 p2, .int .i64 p3, .slice ca cl cc, .int .i64 wd, .int .i64 cp, .int .i64 jn, .int .i64 mt, .slice da dl dc, .int .i64 ph, .int .i64 fn, .int .i64 m.a, .int .i64 m.b, .int .i64 m.c, .int .i64 m.d, .int .i64 m.x, .int .i64 m.y, .slice a11 bl c11] from (by apply cast; (case h => (repeat (first | (with_reducible first | assumption | (apply Row.at; (simp; done)) | apply Row.alloc | apply Row.drew | apply Row.drewN | apply Row.set) | ((with_reducible apply Row.other); (case hp => first | (simp; done) | (simp; omega) | omega))))); (case e => rfl))) hQw3 (by first | (simp; done) | (simp; omega)); have uw3 : Up w w3 := grown_up (show Up w _ by (repeat' (first | (with_reducible first | exact Up.refl _ | assumption | refine Up.alloc ?_ _ | refine Up.drew ?_ | refine Up.drewN ?_ _ | refine Up.setCell ?_ ?_ _ | refine Up.call ?_ (by assumption)) | go_size))) hgr (fun k hk => by simp only [Value.ownBlock, Option.some.injEq] at hk; omega); have HQ23 := Lib.hid (show Chg [w.heap.size] w2 w3 from Chg.grown (((Chg.refl [w.heap.size] w2).setCell (Or.inl (by simp)) _).alloc _) hgr (fun k hk => Or.inr (by simp only [Value.ownBlock, Option.some.injEq] at hk; omega))); have HOw3 := Lib.hid (show w3.ownsRow (w2.heap.size) 3 1 v15 dl (ds.map (Value.int .i64)) from (by have h9 := hown; rwa [Nat.zero_add, List.nil_append] at h9)); (obtain ⟨a15, c15, rfl⟩ := owned_val (owned_new HOw3.out).1); have lw3 := RBw3.lt; have RZw3 : Row w3 (w.heap.size + 1) #[.int .i64 0, .slice none 0 0, .int .i64 0, .int .i64 0, .int .i64 0, .int .i64 0, .int .i64 0, .slice none 0 0, .int .i64 0, .int .i64 0, .int .i64 0, .int .i64 0, .slice none 0 0, .int .i64 0, .int .i64 0, .int .i64 0, .int .i64 0, .int .i64 0, .int .i64 0, .int .i64 0, .int .i64 0, .slice none 0 0] := Row.chg (show Row _ (w.heap.size + 1) #[.int .i64 0, .slice none 0 0, .int .i64 0, .int .i64 0, .int .i64 0, .int .i64 0, .int .i64 0, .slice none 0 0, .int .i64 0, .int .i64 0, .int .i64 0, .int .i64 0, .slice none 0 0, .int .i64 0, .int .i64 0, .int .i64 0, .int .i64 0, .int .i64 0, .int .i64 0, .int .i64 0, .int .i64 0, .slice none 0 0] from (by (repeat' (with_reducible first | assumption | (refine Row.at _ _ ?_; (simp; done)) | refine Row.alloc ?_ _ | refine Row.drew ?_ | refine Row.drewN ?_ _ | refine Row.other ?_ (by first | (simp; done) | (simp; omega) | omega) _ | refine Row.up ?_ (by assumption) | refine Row.chg ?_ (by assumption) (by first | (simp; done) | (simp; omega)))))) hQw3 (by first | (simp; done) | (simp; omega)); have xw3_7 : w3.cell? ⟨w.heap.size, 7, none⟩ = some (.slice ca cl cc) := RBw3.cell 7 rfl; have yw3_7 := RBw3.free 7; have xw3_12 : w3.cell? ⟨w.heap.size, 12, none⟩ = some (.slice da dl dc) := RBw3.cell 12 rfl; have yw3_12 := RBw3.free 12; clear hown hgr hnil hQw3)))
  generalize hWX : World.setCell w3 _ _ = wx
  have RX : Row wx w.heap.size #[.int .i64 k, .slice a8 pl c8, .int .i64 sp, .int .i64 p0, .int .i64 p1, .int .i64 p2, .int .i64 p3, .slice ca cl cc, .int .i64 wd, .int .i64 cp, .int .i64 jn, .int .i64 mt, .slice a15 dl c15, .int .i64 ph, .int .i64 fn, .int .i64 m.a, .int .i64 m.b, .int .i64 m.c, .int .i64 m.d, .int .i64 m.x, .int .i64 m.y, .slice a11 bl c11] := by rw [← hWX]; exact Row.put RBw3 rfl
  have RZX : Row wx (w.heap.size + 1) #[.int .i64 0, .slice none 0 0, .int .i64 0, .int .i64 0, .int .i64 0, .int .i64 0, .int .i64 0, .slice none 0 0, .int .i64 0, .int .i64 0, .int .i64 0, .int .i64 0, .slice none 0 0, .int .i64 0, .int .i64 0, .int .i64 0, .int .i64 0, .int .i64 0, .int .i64 0, .int .i64 0, .int .i64 0, .slice none 0 0] := by rw [← hWX]; exact (show Row _ (w.heap.size + 1) #[.int .i64 0, .slice none 0 0, .int .i64 0, .int .i64 0, .int .i64 0, .int .i64 0, .int .i64 0, .slice none 0 0, .int .i64 0, .int .i64 0, .int .i64 0, .int .i64 0, .slice none 0 0, .int .i64 0, .int .i64 0, .int .i64 0, .int .i64 0, .int .i64 0, .int .i64 0, .int .i64 0, .int .i64 0, .slice none 0 0] by (repeat' (with_reducible first | assumption | (refine Row.at _ _ ?_; (simp; done)) | refine Row.alloc ?_ _ | refine Row.drew ?_ | refine Row.drewN ?_ _ | refine Row.other ?_ (by first | (simp; done) | (simp; omega) | omega) _ | refine Row.up ?_ (by assumption) | refine Row.chg ?_ (by assumption) (by first | (simp; done) | (simp; omega)))))
  have HQ3 := Lib.hid (show Chg [w.heap.size] w3 wx from by rw [← hWX]; exact (Chg.refl [w.heap.size] w3).setCell (Or.inl (by simp)) _)
  have HCL := Lib.hid (show Cloned k pa pl pc sp p0 p1 p2 p3 ca cl cc wd cp jn mt da dl dc ph fn m ba bl bc l cs ds bs w wx a8 c8 a11 c11 a15 c15 from cloned_mk2 HPN.out HOw1.out HOw2.out HOw3.out HQ12.out HQ23.out HQ3.out uw1 (by omega) RX RZX)
  have k7 : wx.cell? ⟨w.heap.size, 7, none⟩ = some (.slice ca cl cc) := RX.cell 7 rfl
  have y7 := RX.free 7
  have lx := RX.lt
  have zx := HCL.out.up.size
  clear hWX RBw1 RBw2 RBw3 RZw1 RZw2 RZw3 uw1 uw2 uw3
  go_upto_region 6 with fail
  generalize hWF : World.setCell wx _ _ = wf
  have RF : Row wf w.heap.size #[.int .i64 k, .slice a8 pl c8, .int .i64 sp, .int .i64 p0, .int .i64 p1, .int .i64 p2, .int .i64 p3, .slice none 0 0, .int .i64 wd, .int .i64 cp, .int .i64 jn, .int .i64 mt, .slice a15 dl c15, .int .i64 ph, .int .i64 fn, .int .i64 m.a, .int .i64 m.b, .int .i64 m.c, .int .i64 m.d, .int .i64 m.x, .int .i64 m.y, .slice a11 bl c11] := by rw [← hWF]; exact Row.put RX rfl
  have RZF : Row wf (w.heap.size + 1) #[.int .i64 0, .slice none 0 0, .int .i64 0, .int .i64 0, .int .i64 0, .int .i64 0, .int .i64 0, .slice none 0 0, .int .i64 0, .int .i64 0, .int .i64 0, .int .i64 0, .slice none 0 0, .int .i64 0, .int .i64 0, .int .i64 0, .int .i64 0, .int .i64 0, .int .i64 0, .int .i64 0, .int .i64 0, .slice none 0 0] := by rw [← hWF]; exact (show Row _ (w.heap.size + 1) #[.int .i64 0, .slice none 0 0, .int .i64 0, .int .i64 0, .int .i64 0, .int .i64 0, .int .i64 0, .slice none 0 0, .int .i64 0, .int .i64 0, .int .i64 0, .int .i64 0, .slice none 0 0, .int .i64 0, .int .i64 0, .int .i64 0, .int .i64 0, .int .i64 0, .int .i64 0, .int .i64 0, .int .i64 0, .slice none 0 0] by (repeat' (with_reducible first | assumption | (refine Row.at _ _ ?_; (simp; done)) | refine Row.alloc ?_ _ | refine Row.drew ?_ | refine Row.drewN ?_ _ | refine Row.other ?_ (by first | (simp; done) | (simp; omega) | omega) _ | refine Row.up ?_ (by assumption) | refine Row.chg ?_ (by assumption) (by first | (simp; done) | (simp; omega)))))
  have HQX := Lib.hid (show Chg [w.heap.size] wx wf from by rw [← hWF]; exact (Chg.refl [w.heap.size] wx).setCell (Or.inl (by simp)) _)
  have HBW := Lib.hid (show w.heap.size < wf.heap.size from RF.lt)
  have HBW1 := Lib.hid (show w.heap.size + 1 < wf.heap.size from RZF.lt)
  have HRZF := Lib.hid RZF
  have HRF := Lib.hid RF
  clear hWF RX RZX RZF k7 y7 lx
  go_wp2
  go_loopw [4] (fun s4 wr => ∃ l1 : List Clip, ∃ v1, l1.length ≤ cl ∧ s4 = .int .i64 l1.length ∧ Hid (MidC wr wf.heap.size v1 l1) ∧ Hid (l1.map (fun c => (c.l, c.eo)) = (cs.take l1.length).map (fun c => (c.l, c.eo))) ∧ Hid (Row wr w.heap.size #[.int .i64 k, .slice a8 pl c8, .int .i64 sp, .int .i64 p0, .int .i64 p1, .int .i64 p2, .int .i64 p3, v1, .int .i64 wd, .int .i64 cp, .int .i64 jn, .int .i64 mt, .slice a15 dl c15, .int .i64 ph, .int .i64 fn, .int .i64 m.a, .int .i64 m.b, .int .i64 m.c, .int .i64 m.d, .int .i64 m.x, .int .i64 m.y, .slice a11 bl c11]) ∧ Hid (Chg [w.heap.size] wf wr)) (fun s4 _ => cl - (intOf s4).toNat)
  case atStart => exact ⟨[], .slice none 0 0, Nat.zero_le _, rfl, Lib.hid (MidC.nil _ _), Lib.hid rfl, HRF, Lib.hid (Chg.refl _ _)⟩
  case round =>
    obtain ⟨l1, v1, hk, rfl, HMD, HMP, HRR, HCH⟩ := hrel
    have hzr := HCH.out.size
    have RBr := HRR.out
    have lbr := RBr.lt
    have x7r : wr.cell? ⟨w.heap.size, 7, none⟩ = some v1 := RBr.cell 7 rfl
    by_cases hlt : l1.length < cl
    · obtain ⟨⟨xv, xs, eo⟩, hx⟩ : ∃ x, cs[l1.length]? = some x := ⟨_, List.getElem?_eq_getElem (by have := HCN.out; omega)⟩
      obtain ⟨b, ob, rfl, hbl, hc⟩ := HCC.out (by omega)
      have hc0 := hc l1.length _ 0 _ hx rfl
      have hc1 := hc l1.length _ 1 _ hx rfl
      simp only [Clip.cells, Nat.add_zero] at hc0 hc1
      have hsx := HCS.out _ (List.mem_of_getElem? hx)
      have hlx := HL5.out _ (List.mem_of_getElem? hx)
      simp only at hsx hlx
      obtain ⟨xn, hxn⟩ : ∃ n, xs.length = n := ⟨_, rfl⟩
      rw [hxn] at hsx hlx
      obtain ⟨xa, xc, e, _⟩ := id hsx
      subst e
      have hqr : Up w wr := ((Chg.of_up (S := [w.heap.size]) HCL.out.up).call (HQX.out.call HCH.out (fun k hk => Or.inl hk)) (fun k hk => Or.inl hk)).up_base (by simp)
      have hq0 := (hqr.cells.1 b _ hbl).trans hc0
      have hq1 := (hqr.cells.1 b _ hbl).trans hc1
      have hbr : b < wr.heap.size := Nat.lt_of_lt_of_le hbl hqr.size
      have HBF := Lib.hid (show b < wf.heap.size by have := HBW.out; omega)
      have HBNE := Lib.hid (show b ≠ w.heap.size by omega)
      have HXS := Lib.hid (src_out (hsx.up hqr))
      have HXN := Lib.hid hxn
      have HX := Lib.hid hx
      have hcast : decide ((l1.length : Int) < (cl : Int)) = true := decide_eq_true (by omega)
      clear hc hc0 hc1 hx hsx hqr hxn
      obtain ⟨N1, hN1⟩ : ∃ k, l1.length = k := ⟨_, rfl⟩
      rw [hN1] at hlt hcast hq0 hq1 hk ⊢
      have HN1 := Lib.hid hN1
      clear hN1
      go_wp2
      refine wp_region_held_drew (S := fun w' => w'.cell? ⟨b, ob + N1 * 2, none⟩ = some (.slice xa xn xc) ∧ w'.cell? ⟨b, ob + N1 * 2 + 1, none⟩ = some (.bool eo)) (by kernel_rfl) ?_ (fun hHeld => ?_)
      · exact ⟨cell_up (show Up wr _ by (repeat' (first | (with_reducible first | exact Up.refl _ | assumption | refine Up.alloc ?_ _ | refine Up.drew ?_ | refine Up.drewN ?_ _ | refine Up.setCell ?_ ?_ _ | refine Up.call ?_ (by assumption)) | go_size))) hq0, cell_up (show Up wr _ by (repeat' (first | (with_reducible first | exact Up.refl _ | assumption | refine Up.alloc ?_ _ | refine Up.drew ?_ | refine Up.drewN ?_ _ | refine Up.setCell ?_ ?_ _ | refine Up.call ?_ (by assumption)) | go_size))) hq1⟩
      refine wpAnyH_take (i := 0) (v := ?_) rfl (by kernel_rfl) (by kernel_rfl) (by kernel_rfl) (fun _ _ _ h => h) (Or.inl ⟨by rfl, ?_⟩) (by assumption) ?_
      rotate_left
      · intro w2 hSw
        (try dsimp only at hSw)
        (try (obtain ⟨s0, s1⟩ := hSw))
        go_simp
        (try (with_reducible rfl))
      (try simp only [Act.put, lga, lgz, lgs, lsa, lsz, lss])
      refine wpAnyH_take (i := 3) (v := ?_) rfl (by kernel_rfl) (by kernel_rfl) (by kernel_rfl) (fun _ _ _ h => h) (Or.inl ⟨by rfl, ?_⟩) (by assumption) ?_
      rotate_left
      · intro w2 hSw
        (try dsimp only at hSw)
        (try (obtain ⟨s0, s1⟩ := hSw))
        go_simp
        (try (with_reducible rfl))
      (try simp only [Act.put, lga, lgz, lgs, lsa, lsz, lss])
      refine wpAnyH_take (i := 4) (v := ?_) rfl (by kernel_rfl) (by kernel_rfl) (by kernel_rfl) (fun _ _ _ h => h) (Or.inl ⟨by rfl, ?_⟩) (by assumption) ?_
      rotate_left
      · intro w2 hSw
        (try dsimp only at hSw)
        (try (obtain ⟨s0, s1⟩ := hSw))
        go_simp
        (try (with_reducible rfl))
      (try simp only [Act.put, lga, lgz, lgs, lsa, lsz, lss])
      refine wpAnyH_take (i := 5) (v := ?_) rfl (by kernel_rfl) (by kernel_rfl) (by kernel_rfl) (fun _ _ _ h => h) (Or.inl ⟨by rfl, ?_⟩) (by assumption) ?_
      rotate_left
      · intro w2 hSw
        (try dsimp only at hSw)
        (try (obtain ⟨s0, s1⟩ := hSw))
        go_simp
        (try (with_reducible rfl))
      (try simp only [Act.put, lga, lgz, lgs, lsa, lsz, lss])
      refine wpAnyH_take (i := 6) (v := ?_) rfl (by kernel_rfl) (by kernel_rfl) (by kernel_rfl) (fun _ _ _ h => h) (Or.inl ⟨by rfl, ?_⟩) (by assumption) ?_
      rotate_left
      · intro w2 hSw
        (try dsimp only at hSw)
        (try (obtain ⟨s0, s1⟩ := hSw))
        go_simp
        (try (with_reducible rfl))
      (try simp only [Act.put, lga, lgz, lgs, lsa, lsz, lss])
      refine wpAnyH_take (i := 7) (v := ?_) rfl (by kernel_rfl) (by kernel_rfl) (by kernel_rfl) (fun _ _ _ h => h) (Or.inl ⟨by rfl, ?_⟩) (by assumption) ?_
      rotate_left
      · intro w2 hSw
        (try dsimp only at hSw)
        (try (obtain ⟨s0, s1⟩ := hSw))
        go_simp
        (try (with_reducible rfl))
      (try simp only [Act.put, lga, lgz, lgs, lsa, lsz, lss])
      refine wpAnyH_take (i := 9) (v := ?_) rfl (by kernel_rfl) (by kernel_rfl) (by kernel_rfl) (fun _ _ _ h => h) (Or.inl ⟨by rfl, ?_⟩) (by assumption) ?_
      rotate_left
      · intro w2 hSw
        (try dsimp only at hSw)
        (try (obtain ⟨s0, s1⟩ := hSw))
        go_simp
        (try (with_reducible rfl))
      (try simp only [Act.put, lga, lgz, lgs, lsa, lsz, lss])
      refine wpAnyH_take (i := 10) (v := ?_) rfl (by kernel_rfl) (by kernel_rfl) (by kernel_rfl) (fun _ _ _ h => h) (Or.inl ⟨by rfl, ?_⟩) (by assumption) ?_
      rotate_left
      · intro w2 hSw
        (try dsimp only at hSw)
        (try (obtain ⟨s0, s1⟩ := hSw))
        go_simp
        (try (with_reducible rfl))
      (try simp only [Act.put, lga, lgz, lgs, lsa, lsz, lss])
      refine wpAnyH_take (i := 11) (v := ?_) rfl (by kernel_rfl) (by kernel_rfl) (by kernel_rfl) (fun _ _ _ h => h) (Or.inl ⟨by rfl, ?_⟩) (by assumption) ?_
      rotate_left
      · intro w2 hSw
        (try dsimp only at hSw)
        (try (obtain ⟨s0, s1⟩ := hSw))
        go_simp
        (try (with_reducible rfl))
      (try simp only [Act.put, lga, lgz, lgs, lsa, lsz, lss])
      refine wpAnyH_take (i := 12) (v := ?_) rfl (by kernel_rfl) (by kernel_rfl) (by kernel_rfl) (fun _ _ _ h => h) (Or.inl ⟨by rfl, ?_⟩) (by assumption) ?_
      rotate_left
      · intro w2 hSw
        (try dsimp only at hSw)
        (try (obtain ⟨s0, s1⟩ := hSw))
        go_simp
        (try (with_reducible rfl))
      (try simp only [Act.put, lga, lgz, lgs, lsa, lsz, lss])
      refine wpAnyH_take (i := 13) (v := ?_) rfl (by kernel_rfl) (by kernel_rfl) (by kernel_rfl) (fun _ _ _ h => h) (Or.inl ⟨by rfl, ?_⟩) (by assumption) ?_
      rotate_left
      · intro w2 hSw
        (try dsimp only at hSw)
        (try (obtain ⟨s0, s1⟩ := hSw))
        go_simp
        (try (with_reducible rfl))
      (try simp only [Act.put, lga, lgz, lgs, lsa, lsz, lss])
      refine wpAnyH_ready (rs := [1, 2]) (by decide +kernel) (by simp) ?_
      refine AllReadyH.cons rfl (fun K hK => ?_) (AllReadyH.cons rfl (fun K hK => ?_) (AllReadyH.nil))
      · skip
        (try simp only [lga, lgz, lgs])
        (go_simp)
        refine hK.out _ _ ?_ (fun hHeld => ?_)
        · exact ⟨cell_up (show Up wr _ by (repeat' (first | (with_reducible first | exact Up.refl _ | assumption | refine Up.alloc ?_ _ | refine Up.drew ?_ | refine Up.drewN ?_ _ | refine Up.setCell ?_ ?_ _ | refine Up.call ?_ (by assumption)) | go_size))) hq0, cell_up (show Up wr _ by (repeat' (first | (with_reducible first | exact Up.refl _ | assumption | refine Up.alloc ?_ _ | refine Up.drew ?_ | refine Up.drewN ?_ _ | refine Up.setCell ?_ ?_ _ | refine Up.call ?_ (by assumption)) | go_size))) hq1⟩
        clear hK K
        (try simp only [Act.put, lga, lgz, lgs, lsa, lsz, lss])
        refine wpAnyH_ready (rs := [2]) (by decide +kernel) (by simp) ?_
        refine AllReadyH.cons rfl (fun K hK => ?_) (AllReadyH.nil)
        (try simp only [lga, lgz, lgs])
        (go_simp)
        refine hK.out _ _ ?_ (fun hHeld => ?_)
        · exact ⟨cell_up (show Up wr _ by (repeat' (first | (with_reducible first | exact Up.refl _ | assumption | refine Up.alloc ?_ _ | refine Up.drew ?_ | refine Up.drewN ?_ _ | refine Up.setCell ?_ ?_ _ | refine Up.call ?_ (by assumption)) | go_size))) hq0, cell_up (show Up wr _ by (repeat' (first | (with_reducible first | exact Up.refl _ | assumption | refine Up.alloc ?_ _ | refine Up.drew ?_ | refine Up.drewN ?_ _ | refine Up.setCell ?_ ?_ _ | refine Up.call ?_ (by assumption)) | go_size))) hq1⟩
        clear hK K
        (try simp only [Act.put, lga, lgz, lgs, lsa, lsz, lss])
        refine wpAnyH_ready (rs := [8]) (by decide +kernel) (by simp) ?_
        refine AllReadyH.cons rfl (fun K hK => ?_) (AllReadyH.nil)
        (try simp only [lga, lgz, lgs])
        (rw [if_pos (by rfl)]; refine wp_append_any rfl (.tmp 33) (.tmp 38) 25 rfl wr.heap.size 68 s0 _ 7 56 Tryd.underlying25 hs hs0 hs1 hs2 rfl (by decide) (.slice (some ⟨wr.heap.size, 0, none⟩) 0 0) 0 [] rfl (by exact made_at (by first | rfl | (simp; done)) (by first | exact Nat.le_refl _ | omega) (by decide)) xa xn xc (segCells xs) rfl HXS.out.1 HXS.out.2.1 (fun ad e j u hj => cell_up (show Up wr _ by (repeat' (first | (with_reducible first | exact Up.refl _ | assumption | refine Up.alloc ?_ _ | refine Up.drew ?_ | refine Up.drewN ?_ _ | refine Up.setCell ?_ ?_ _ | refine Up.call ?_ (by assumption)) | go_size))) (HXS.out.2.2 ad e j u hj)) (PathM.segCells_one xs) (by unfold maxLen; omega) (by omega) (by first | (simp; done) | (simp; omega) | omega) ?_; intro v39 wy hown hgr; have zd := hgr.size; (try simp at zd); have ud : Up wr wy := grown_up (show Up wr _ by (repeat' (first | (with_reducible first | exact Up.refl _ | assumption | refine Up.alloc ?_ _ | refine Up.drew ?_ | refine Up.drewN ?_ _ | refine Up.setCell ?_ ?_ _ | refine Up.call ?_ (by assumption)) | go_size))) hgr (fun k hk => by simp only [Value.ownBlock, Option.some.injEq] at hk; omega); have HOD := Lib.hid (show wy.ownsRow wr.heap.size 68 7 v39 xn (segCells xs) from (by have h9 := hown; rwa [Nat.zero_add, List.nil_append] at h9)); (obtain ⟨a34, c34, rfl⟩ := owned_val (owned_new HOD.out).1); have RBd : Row wy w.heap.size #[.int .i64 k, .slice a8 pl c8, .int .i64 sp, .int .i64 p0, .int .i64 p1, .int .i64 p2, .int .i64 p3, v1, .int .i64 wd, .int .i64 cp, .int .i64 jn, .int .i64 mt, .slice a15 dl c15, .int .i64 ph, .int .i64 fn, .int .i64 m.a, .int .i64 m.b, .int .i64 m.c, .int .i64 m.d, .int .i64 m.x, .int .i64 m.y, .slice a11 bl c11] := RBr.up ud; have x7 : wy.cell? ⟨w.heap.size, 7, none⟩ = some v1 := RBd.cell 7 rfl; have y7 := RBd.free 7; have lbd := RBd.lt; clear hown hgr)
        refine hK.out _ _ ?_ (fun hHeld => ?_)
        · exact ⟨cell_up (show Up wr _ by (repeat' (first | (with_reducible first | exact Up.refl _ | assumption | refine Up.alloc ?_ _ | refine Up.drew ?_ | refine Up.drewN ?_ _ | refine Up.setCell ?_ ?_ _ | refine Up.call ?_ (by assumption)) | go_size))) hq0, cell_up (show Up wr _ by (repeat' (first | (with_reducible first | exact Up.refl _ | assumption | refine Up.alloc ?_ _ | refine Up.drew ?_ | refine Up.drewN ?_ _ | refine Up.setCell ?_ ?_ _ | refine Up.call ?_ (by assumption)) | go_size))) hq1⟩
        clear hK K
        (try simp only [Act.put, lga, lgz, lgs, lsa, lsz, lss])
        refine wpAnyH_take (i := 14) (v := ?_) rfl (by kernel_rfl) (by kernel_rfl) (by kernel_rfl) (fun _ _ _ h => h) (Or.inl ⟨by rfl, ?_⟩) (by assumption) ?_
        rotate_left
        · intro w2 hSw
          (try dsimp only at hSw)
          (try (obtain ⟨s0, s1⟩ := hSw))
          go_simp
          (try (with_reducible rfl))
        (try simp only [Act.put, lga, lgz, lgs, lsa, lsz, lss])
        refine wpAnyH_ready (rs := [15]) (by decide +kernel) (by simp) ?_
        refine AllReadyH.cons rfl (fun K hK => ?_) (AllReadyH.nil)
        (try simp only [lga, lgz, lgs])
        (go_simp)
        refine hK.out _ _ ?_ (fun hHeld => ?_)
        · exact ⟨cell_up (show Up wr _ by (repeat' (first | (with_reducible first | exact Up.refl _ | assumption | refine Up.alloc ?_ _ | refine Up.drew ?_ | refine Up.drewN ?_ _ | refine Up.setCell ?_ ?_ _ | refine Up.call ?_ (by assumption)) | go_size))) hq0, cell_up (show Up wr _ by (repeat' (first | (with_reducible first | exact Up.refl _ | assumption | refine Up.alloc ?_ _ | refine Up.drew ?_ | refine Up.drewN ?_ _ | refine Up.setCell ?_ ?_ _ | refine Up.call ?_ (by assumption)) | go_size))) hq1⟩
        clear hK K
        (try simp only [Act.put, lga, lgz, lgs, lsa, lsz, lss])
        refine wpAnyH_ready (rs := [16]) (by decide +kernel) (by simp) ?_
        refine AllReadyH.cons rfl (fun K hK => ?_) (AllReadyH.nil)
        (try simp only [lga, lgz, lgs])
        (rw [if_pos (by rfl)]; refine wp_append_lies _ (.tmp 32) (.tmp 46) 29 rfl wf.heap.size 60 i0 (.agg #[.slice none 0 0, .bool false]) 2 32 Tryd.underlying29 hi hz0 hz1 hz2 rfl (by decide) v1 N1 (clipCells l1) rfl (raw_up (by have h9 := HMD.out.its; rw [HN1.out] at h9; exact h9) (show Up wr _ from Up.alloc ud _)) ⟨wy.heap.size, 0, none⟩ 1 1 [.slice a34 xn c34, .bool eo] rfl rfl (news_at (by (repeat' (with_reducible first | assumption | (refine Row.at _ _ ?_; (simp; done)) | refine Row.alloc ?_ _ | refine Row.drew ?_ | refine Row.drewN ?_ _ | refine Row.other ?_ (by first | (simp; done) | (simp; omega) | omega) _ | refine Row.up ?_ (by assumption) | refine Row.chg ?_ (by assumption) (by first | (simp; done) | (simp; omega))))) rfl) (by simp [Value.oneCell']) (by decide) (by unfold maxLen; omega) (by omega) (by simp; omega) _ rfl ?_; intro g2 cap2 we hown5 hgr5 hat5 hg5; have HM5 := Lib.hid (MidC.more (k := ⟨.slice a34 xn c34, xs, eo⟩) (w1 := wy) (w2 := we) (H := wy.heap.size + 1) (g2 := g2) (cap2 := cap2) HMD.out ud (by show wy.ownsRow 0 _ 7 _ xs.length _; rw [HXN.out]; exact (owned_new HOD.out).1) (fun g hg => HOD.out.lt g (own_of hg)) (Chg.grown (Chg.of_up (Up.alloc (Up.refl wy) _)) hgr5 (fun k hk => Or.inl (own_mem hk))) (by rcases hat5 with h9 | h9; exact Or.inl h9; exact Or.inr (by simpa using h9)) (Nat.le_succ _) hzr (by rw [HN1.out]; exact hown5)); have hQe : Chg (own v1) wy we := Chg.grown (Chg.of_up (Up.alloc (Up.refl wy) _)) hgr5 (fun k hk => Or.inl (own_mem hk)); have RBe : Row we w.heap.size #[.int .i64 k, .slice a8 pl c8, .int .i64 sp, .int .i64 p0, .int .i64 p1, .int .i64 p2, .int .i64 p3, v1, .int .i64 wd, .int .i64 cp, .int .i64 jn, .int .i64 mt, .slice a15 dl c15, .int .i64 ph, .int .i64 fn, .int .i64 m.a, .int .i64 m.b, .int .i64 m.c, .int .i64 m.d, .int .i64 m.x, .int .i64 m.y, .slice a11 bl c11] := Row.chg RBd hQe (fun hk => by have := (HMD.out.its.lt _ (own_of hk)).1; have := HBW.out; omega); have ue : Up wf we ∨ True := Or.inr trivial; have HQe := Lib.hid (show Chg [w.heap.size] wf we from (HCH.out.call (Chg.of_up (S := own v1) ud |>.call hQe (fun k hk => Or.inl hk)) (fun k hk => Or.inr ((HMD.out.its.lt k (own_of hk)).1)))); have z5 := hgr5.size; (try simp at z5); have hbe : b < we.heap.size := (by have := ud.size; omega); have x7e := RBe.cell 7 rfl; have y7e := RBe.free 7; have lbe := RBe.lt; have hqe : we.cell? ⟨b, ob + N1 * 2, none⟩ = some (.slice xa xn xc) ∧ we.cell? ⟨b, ob + N1 * 2 + 1, none⟩ = some (.bool eo) := (by have h9 : Chg (own v1) wr we := (Chg.of_up ud).call hQe (fun k hk => Or.inl hk); have h8 : b ∉ own v1 := (fun hk => (by have := (HMD.out.its.lt _ (own_of hk)).1; have := HBF.out; omega)); exact ⟨(h9.cells.1 b _ hbr h8).trans hq0, (h9.cells.1 b _ hbr h8).trans hq1⟩); clear hown5 hgr5 hat5 hQe)
        refine hK.out _ _ ?_ (fun hHeld => ?_)
        · exact hqe
        clear hK K
        (try simp only [Act.put, lga, lgz, lgs, lsa, lsz, lss])
        refine wpAnyH_take (i := 17) (v := ?_) rfl (by kernel_rfl) (by kernel_rfl) (by kernel_rfl) (fun _ _ _ h => h) (Or.inl ⟨by rfl, ?_⟩) (by assumption) ?_
        rotate_left
        · intro w2 hSw
          (try dsimp only at hSw)
          (try (obtain ⟨s0, s1⟩ := hSw))
          go_simp
          (try (with_reducible rfl))
        (try simp only [Act.put, lga, lgz, lgs, lsa, lsz, lss])
        refine wpAnyH_ready (rs := [18]) (by decide +kernel) (by simp) ?_
        refine AllReadyH.cons rfl (fun K hK => ?_) (AllReadyH.nil)
        (try simp only [lga, lgz, lgs])
        (go_simp)
        refine hK.out _ _ ?_ (fun hHeld => ?_)
        · exact s2_set hqe hbe HBNE.out
        clear hK K
        (try simp only [Act.put, lga, lgz, lgs, lsa, lsz, lss])
        refine wpAnyH_done (by kernel_rfl) ?_ _
        clear hHeld
        go_wp2
        go_roundw
        case rel => exact ⟨l1 ++ [⟨.slice a34 xn c34, xs, eo⟩], .slice (some ⟨g2, 0, none⟩) (N1 + 1) cap2, by rw [List.length_append, List.length_singleton, HN1.out]; omega, by rw [List.length_append, List.length_singleton, HN1.out]; go_num, Lib.hid (by have h9 := HM5.out; rw [HN1.out] at h9; exact h9.chgB ((Chg.refl [w.heap.size] we).setCell (Or.inl (by simp)) _) HBW.out), Lib.hid (by rw [List.length_append, List.length_singleton, take_map_succ HX.out, List.map_append, HMP.out]; rfl), Lib.hid (Row.put RBe rfl), Lib.hid (HQe.out.setCell (Or.inl (by simp)) _)⟩
        case measure => simp [intOf]; omega
      · skip
        (try simp only [lga, lgz, lgs])
        (go_simp)
        refine hK.out _ _ ?_ (fun hHeld => ?_)
        · exact ⟨cell_up (show Up wr _ by (repeat' (first | (with_reducible first | exact Up.refl _ | assumption | refine Up.alloc ?_ _ | refine Up.drew ?_ | refine Up.drewN ?_ _ | refine Up.setCell ?_ ?_ _ | refine Up.call ?_ (by assumption)) | go_size))) hq0, cell_up (show Up wr _ by (repeat' (first | (with_reducible first | exact Up.refl _ | assumption | refine Up.alloc ?_ _ | refine Up.drew ?_ | refine Up.drewN ?_ _ | refine Up.setCell ?_ ?_ _ | refine Up.call ?_ (by assumption)) | go_size))) hq1⟩
        clear hK K
        (try simp only [Act.put, lga, lgz, lgs, lsa, lsz, lss])
        refine wpAnyH_ready (rs := [1, 8]) (by decide +kernel) (by simp) ?_
        refine AllReadyH.cons rfl (fun K hK => ?_) (AllReadyH.cons rfl (fun K hK => ?_) (AllReadyH.nil))
        · skip
          (try simp only [lga, lgz, lgs])
          (go_simp)
          refine hK.out _ _ ?_ (fun hHeld => ?_)
          · exact ⟨cell_up (show Up wr _ by (repeat' (first | (with_reducible first | exact Up.refl _ | assumption | refine Up.alloc ?_ _ | refine Up.drew ?_ | refine Up.drewN ?_ _ | refine Up.setCell ?_ ?_ _ | refine Up.call ?_ (by assumption)) | go_size))) hq0, cell_up (show Up wr _ by (repeat' (first | (with_reducible first | exact Up.refl _ | assumption | refine Up.alloc ?_ _ | refine Up.drew ?_ | refine Up.drewN ?_ _ | refine Up.setCell ?_ ?_ _ | refine Up.call ?_ (by assumption)) | go_size))) hq1⟩
          clear hK K
          (try simp only [Act.put, lga, lgz, lgs, lsa, lsz, lss])
          refine wpAnyH_ready (rs := [8]) (by decide +kernel) (by simp) ?_
          refine AllReadyH.cons rfl (fun K hK => ?_) (AllReadyH.nil)
          (try simp only [lga, lgz, lgs])
          (rw [if_pos (by rfl)]; refine wp_append_any rfl (.tmp 33) (.tmp 38) 25 rfl wr.heap.size 68 s0 _ 7 56 Tryd.underlying25 hs hs0 hs1 hs2 rfl (by decide) (.slice (some ⟨wr.heap.size, 0, none⟩) 0 0) 0 [] rfl (by exact made_at (by first | rfl | (simp; done)) (by first | exact Nat.le_refl _ | omega) (by decide)) xa xn xc (segCells xs) rfl HXS.out.1 HXS.out.2.1 (fun ad e j u hj => cell_up (show Up wr _ by (repeat' (first | (with_reducible first | exact Up.refl _ | assumption | refine Up.alloc ?_ _ | refine Up.drew ?_ | refine Up.drewN ?_ _ | refine Up.setCell ?_ ?_ _ | refine Up.call ?_ (by assumption)) | go_size))) (HXS.out.2.2 ad e j u hj)) (PathM.segCells_one xs) (by unfold maxLen; omega) (by omega) (by first | (simp; done) | (simp; omega) | omega) ?_; intro v39 wy hown hgr; have zd := hgr.size; (try simp at zd); have ud : Up wr wy := grown_up (show Up wr _ by (repeat' (first | (with_reducible first | exact Up.refl _ | assumption | refine Up.alloc ?_ _ | refine Up.drew ?_ | refine Up.drewN ?_ _ | refine Up.setCell ?_ ?_ _ | refine Up.call ?_ (by assumption)) | go_size))) hgr (fun k hk => by simp only [Value.ownBlock, Option.some.injEq] at hk; omega); have HOD := Lib.hid (show wy.ownsRow wr.heap.size 68 7 v39 xn (segCells xs) from (by have h9 := hown; rwa [Nat.zero_add, List.nil_append] at h9)); (obtain ⟨a34, c34, rfl⟩ := owned_val (owned_new HOD.out).1); have RBd : Row wy w.heap.size #[.int .i64 k, .slice a8 pl c8, .int .i64 sp, .int .i64 p0, .int .i64 p1, .int .i64 p2, .int .i64 p3, v1, .int .i64 wd, .int .i64 cp, .int .i64 jn, .int .i64 mt, .slice a15 dl c15, .int .i64 ph, .int .i64 fn, .int .i64 m.a, .int .i64 m.b, .int .i64 m.c, .int .i64 m.d, .int .i64 m.x, .int .i64 m.y, .slice a11 bl c11] := RBr.up ud; have x7 : wy.cell? ⟨w.heap.size, 7, none⟩ = some v1 := RBd.cell 7 rfl; have y7 := RBd.free 7; have lbd := RBd.lt; clear hown hgr)
          refine hK.out _ _ ?_ (fun hHeld => ?_)
          · exact ⟨cell_up (show Up wr _ by (repeat' (first | (with_reducible first | exact Up.refl _ | assumption | refine Up.alloc ?_ _ | refine Up.drew ?_ | refine Up.drewN ?_ _ | refine Up.setCell ?_ ?_ _ | refine Up.call ?_ (by assumption)) | go_size))) hq0, cell_up (show Up wr _ by (repeat' (first | (with_reducible first | exact Up.refl _ | assumption | refine Up.alloc ?_ _ | refine Up.drew ?_ | refine Up.drewN ?_ _ | refine Up.setCell ?_ ?_ _ | refine Up.call ?_ (by assumption)) | go_size))) hq1⟩
          clear hK K
          (try simp only [Act.put, lga, lgz, lgs, lsa, lsz, lss])
          refine wpAnyH_take (i := 14) (v := ?_) rfl (by kernel_rfl) (by kernel_rfl) (by kernel_rfl) (fun _ _ _ h => h) (Or.inl ⟨by rfl, ?_⟩) (by assumption) ?_
          rotate_left
          · intro w2 hSw
            (try dsimp only at hSw)
            (try (obtain ⟨s0, s1⟩ := hSw))
            go_simp
            (try (with_reducible rfl))
          (try simp only [Act.put, lga, lgz, lgs, lsa, lsz, lss])
          refine wpAnyH_ready (rs := [15]) (by decide +kernel) (by simp) ?_
          refine AllReadyH.cons rfl (fun K hK => ?_) (AllReadyH.nil)
          (try simp only [lga, lgz, lgs])
          (go_simp)
          refine hK.out _ _ ?_ (fun hHeld => ?_)
          · exact ⟨cell_up (show Up wr _ by (repeat' (first | (with_reducible first | exact Up.refl _ | assumption | refine Up.alloc ?_ _ | refine Up.drew ?_ | refine Up.drewN ?_ _ | refine Up.setCell ?_ ?_ _ | refine Up.call ?_ (by assumption)) | go_size))) hq0, cell_up (show Up wr _ by (repeat' (first | (with_reducible first | exact Up.refl _ | assumption | refine Up.alloc ?_ _ | refine Up.drew ?_ | refine Up.drewN ?_ _ | refine Up.setCell ?_ ?_ _ | refine Up.call ?_ (by assumption)) | go_size))) hq1⟩
          clear hK K
          (try simp only [Act.put, lga, lgz, lgs, lsa, lsz, lss])
          refine wpAnyH_ready (rs := [16]) (by decide +kernel) (by simp) ?_
          refine AllReadyH.cons rfl (fun K hK => ?_) (AllReadyH.nil)
          (try simp only [lga, lgz, lgs])
          (rw [if_pos (by rfl)]; refine wp_append_lies _ (.tmp 32) (.tmp 46) 29 rfl wf.heap.size 60 i0 (.agg #[.slice none 0 0, .bool false]) 2 32 Tryd.underlying29 hi hz0 hz1 hz2 rfl (by decide) v1 N1 (clipCells l1) rfl (raw_up (by have h9 := HMD.out.its; rw [HN1.out] at h9; exact h9) (show Up wr _ from Up.alloc ud _)) ⟨wy.heap.size, 0, none⟩ 1 1 [.slice a34 xn c34, .bool eo] rfl rfl (news_at (by (repeat' (with_reducible first | assumption | (refine Row.at _ _ ?_; (simp; done)) | refine Row.alloc ?_ _ | refine Row.drew ?_ | refine Row.drewN ?_ _ | refine Row.other ?_ (by first | (simp; done) | (simp; omega) | omega) _ | refine Row.up ?_ (by assumption) | refine Row.chg ?_ (by assumption) (by first | (simp; done) | (simp; omega))))) rfl) (by simp [Value.oneCell']) (by decide) (by unfold maxLen; omega) (by omega) (by simp; omega) _ rfl ?_; intro g2 cap2 we hown5 hgr5 hat5 hg5; have HM5 := Lib.hid (MidC.more (k := ⟨.slice a34 xn c34, xs, eo⟩) (w1 := wy) (w2 := we) (H := wy.heap.size + 1) (g2 := g2) (cap2 := cap2) HMD.out ud (by show wy.ownsRow 0 _ 7 _ xs.length _; rw [HXN.out]; exact (owned_new HOD.out).1) (fun g hg => HOD.out.lt g (own_of hg)) (Chg.grown (Chg.of_up (Up.alloc (Up.refl wy) _)) hgr5 (fun k hk => Or.inl (own_mem hk))) (by rcases hat5 with h9 | h9; exact Or.inl h9; exact Or.inr (by simpa using h9)) (Nat.le_succ _) hzr (by rw [HN1.out]; exact hown5)); have hQe : Chg (own v1) wy we := Chg.grown (Chg.of_up (Up.alloc (Up.refl wy) _)) hgr5 (fun k hk => Or.inl (own_mem hk)); have RBe : Row we w.heap.size #[.int .i64 k, .slice a8 pl c8, .int .i64 sp, .int .i64 p0, .int .i64 p1, .int .i64 p2, .int .i64 p3, v1, .int .i64 wd, .int .i64 cp, .int .i64 jn, .int .i64 mt, .slice a15 dl c15, .int .i64 ph, .int .i64 fn, .int .i64 m.a, .int .i64 m.b, .int .i64 m.c, .int .i64 m.d, .int .i64 m.x, .int .i64 m.y, .slice a11 bl c11] := Row.chg RBd hQe (fun hk => by have := (HMD.out.its.lt _ (own_of hk)).1; have := HBW.out; omega); have ue : Up wf we ∨ True := Or.inr trivial; have HQe := Lib.hid (show Chg [w.heap.size] wf we from (HCH.out.call (Chg.of_up (S := own v1) ud |>.call hQe (fun k hk => Or.inl hk)) (fun k hk => Or.inr ((HMD.out.its.lt k (own_of hk)).1)))); have z5 := hgr5.size; (try simp at z5); have hbe : b < we.heap.size := (by have := ud.size; omega); have x7e := RBe.cell 7 rfl; have y7e := RBe.free 7; have lbe := RBe.lt; have hqe : we.cell? ⟨b, ob + N1 * 2, none⟩ = some (.slice xa xn xc) ∧ we.cell? ⟨b, ob + N1 * 2 + 1, none⟩ = some (.bool eo) := (by have h9 : Chg (own v1) wr we := (Chg.of_up ud).call hQe (fun k hk => Or.inl hk); have h8 : b ∉ own v1 := (fun hk => (by have := (HMD.out.its.lt _ (own_of hk)).1; have := HBF.out; omega)); exact ⟨(h9.cells.1 b _ hbr h8).trans hq0, (h9.cells.1 b _ hbr h8).trans hq1⟩); clear hown5 hgr5 hat5 hQe)
          refine hK.out _ _ ?_ (fun hHeld => ?_)
          · exact hqe
          clear hK K
          (try simp only [Act.put, lga, lgz, lgs, lsa, lsz, lss])
          refine wpAnyH_take (i := 17) (v := ?_) rfl (by kernel_rfl) (by kernel_rfl) (by kernel_rfl) (fun _ _ _ h => h) (Or.inl ⟨by rfl, ?_⟩) (by assumption) ?_
          rotate_left
          · intro w2 hSw
            (try dsimp only at hSw)
            (try (obtain ⟨s0, s1⟩ := hSw))
            go_simp
            (try (with_reducible rfl))
          (try simp only [Act.put, lga, lgz, lgs, lsa, lsz, lss])
          refine wpAnyH_ready (rs := [18]) (by decide +kernel) (by simp) ?_
          refine AllReadyH.cons rfl (fun K hK => ?_) (AllReadyH.nil)
          (try simp only [lga, lgz, lgs])
          (go_simp)
          refine hK.out _ _ ?_ (fun hHeld => ?_)
          · exact s2_set hqe hbe HBNE.out
          clear hK K
          (try simp only [Act.put, lga, lgz, lgs, lsa, lsz, lss])
          refine wpAnyH_done (by kernel_rfl) ?_ _
          clear hHeld
          go_wp2
          go_roundw
          case rel => exact ⟨l1 ++ [⟨.slice a34 xn c34, xs, eo⟩], .slice (some ⟨g2, 0, none⟩) (N1 + 1) cap2, by rw [List.length_append, List.length_singleton, HN1.out]; omega, by rw [List.length_append, List.length_singleton, HN1.out]; go_num, Lib.hid (by have h9 := HM5.out; rw [HN1.out] at h9; exact h9.chgB ((Chg.refl [w.heap.size] we).setCell (Or.inl (by simp)) _) HBW.out), Lib.hid (by rw [List.length_append, List.length_singleton, take_map_succ HX.out, List.map_append, HMP.out]; rfl), Lib.hid (Row.put RBe rfl), Lib.hid (HQe.out.setCell (Or.inl (by simp)) _)⟩
          case measure => simp [intOf]; omega
        · skip
          (try simp only [lga, lgz, lgs])
          (rw [if_pos (by rfl)]; refine wp_append_any rfl (.tmp 33) (.tmp 38) 25 rfl wr.heap.size 68 s0 _ 7 56 Tryd.underlying25 hs hs0 hs1 hs2 rfl (by decide) (.slice (some ⟨wr.heap.size, 0, none⟩) 0 0) 0 [] rfl (by exact made_at (by first | rfl | (simp; done)) (by first | exact Nat.le_refl _ | omega) (by decide)) xa xn xc (segCells xs) rfl HXS.out.1 HXS.out.2.1 (fun ad e j u hj => cell_up (show Up wr _ by (repeat' (first | (with_reducible first | exact Up.refl _ | assumption | refine Up.alloc ?_ _ | refine Up.drew ?_ | refine Up.drewN ?_ _ | refine Up.setCell ?_ ?_ _ | refine Up.call ?_ (by assumption)) | go_size))) (HXS.out.2.2 ad e j u hj)) (PathM.segCells_one xs) (by unfold maxLen; omega) (by omega) (by first | (simp; done) | (simp; omega) | omega) ?_; intro v39 wy hown hgr; have zd := hgr.size; (try simp at zd); have ud : Up wr wy := grown_up (show Up wr _ by (repeat' (first | (with_reducible first | exact Up.refl _ | assumption | refine Up.alloc ?_ _ | refine Up.drew ?_ | refine Up.drewN ?_ _ | refine Up.setCell ?_ ?_ _ | refine Up.call ?_ (by assumption)) | go_size))) hgr (fun k hk => by simp only [Value.ownBlock, Option.some.injEq] at hk; omega); have HOD := Lib.hid (show wy.ownsRow wr.heap.size 68 7 v39 xn (segCells xs) from (by have h9 := hown; rwa [Nat.zero_add, List.nil_append] at h9)); (obtain ⟨a34, c34, rfl⟩ := owned_val (owned_new HOD.out).1); have RBd : Row wy w.heap.size #[.int .i64 k, .slice a8 pl c8, .int .i64 sp, .int .i64 p0, .int .i64 p1, .int .i64 p2, .int .i64 p3, v1, .int .i64 wd, .int .i64 cp, .int .i64 jn, .int .i64 mt, .slice a15 dl c15, .int .i64 ph, .int .i64 fn, .int .i64 m.a, .int .i64 m.b, .int .i64 m.c, .int .i64 m.d, .int .i64 m.x, .int .i64 m.y, .slice a11 bl c11] := RBr.up ud; have x7 : wy.cell? ⟨w.heap.size, 7, none⟩ = some v1 := RBd.cell 7 rfl; have y7 := RBd.free 7; have lbd := RBd.lt; clear hown hgr)
          refine hK.out _ _ ?_ (fun hHeld => ?_)
          · exact ⟨cell_up (show Up wr _ by (repeat' (first | (with_reducible first | exact Up.refl _ | assumption | refine Up.alloc ?_ _ | refine Up.drew ?_ | refine Up.drewN ?_ _ | refine Up.setCell ?_ ?_ _ | refine Up.call ?_ (by assumption)) | go_size))) hq0, cell_up (show Up wr _ by (repeat' (first | (with_reducible first | exact Up.refl _ | assumption | refine Up.alloc ?_ _ | refine Up.drew ?_ | refine Up.drewN ?_ _ | refine Up.setCell ?_ ?_ _ | refine Up.call ?_ (by assumption)) | go_size))) hq1⟩
          clear hK K
          (try simp only [Act.put, lga, lgz, lgs, lsa, lsz, lss])
          refine wpAnyH_take (i := 14) (v := ?_) rfl (by kernel_rfl) (by kernel_rfl) (by kernel_rfl) (fun _ _ _ h => h) (Or.inl ⟨by rfl, ?_⟩) (by assumption) ?_
          rotate_left
          · intro w2 hSw
            (try dsimp only at hSw)
            (try (obtain ⟨s0, s1⟩ := hSw))
            go_simp
            (try (with_reducible rfl))
          (try simp only [Act.put, lga, lgz, lgs, lsa, lsz, lss])
          refine wpAnyH_ready (rs := [1, 15]) (by decide +kernel) (by simp) ?_
          refine AllReadyH.cons rfl (fun K hK => ?_) (AllReadyH.cons rfl (fun K hK => ?_) (AllReadyH.nil))
          · skip
            (try simp only [lga, lgz, lgs])
            (go_simp)
            refine hK.out _ _ ?_ (fun hHeld => ?_)
            · exact ⟨cell_up (show Up wr _ by (repeat' (first | (with_reducible first | exact Up.refl _ | assumption | refine Up.alloc ?_ _ | refine Up.drew ?_ | refine Up.drewN ?_ _ | refine Up.setCell ?_ ?_ _ | refine Up.call ?_ (by assumption)) | go_size))) hq0, cell_up (show Up wr _ by (repeat' (first | (with_reducible first | exact Up.refl _ | assumption | refine Up.alloc ?_ _ | refine Up.drew ?_ | refine Up.drewN ?_ _ | refine Up.setCell ?_ ?_ _ | refine Up.call ?_ (by assumption)) | go_size))) hq1⟩
            clear hK K
            (try simp only [Act.put, lga, lgz, lgs, lsa, lsz, lss])
            refine wpAnyH_ready (rs := [15]) (by decide +kernel) (by simp) ?_
            refine AllReadyH.cons rfl (fun K hK => ?_) (AllReadyH.nil)
            (try simp only [lga, lgz, lgs])
            (go_simp)
            refine hK.out _ _ ?_ (fun hHeld => ?_)
            · exact ⟨cell_up (show Up wr _ by (repeat' (first | (with_reducible first | exact Up.refl _ | assumption | refine Up.alloc ?_ _ | refine Up.drew ?_ | refine Up.drewN ?_ _ | refine Up.setCell ?_ ?_ _ | refine Up.call ?_ (by assumption)) | go_size))) hq0, cell_up (show Up wr _ by (repeat' (first | (with_reducible first | exact Up.refl _ | assumption | refine Up.alloc ?_ _ | refine Up.drew ?_ | refine Up.drewN ?_ _ | refine Up.setCell ?_ ?_ _ | refine Up.call ?_ (by assumption)) | go_size))) hq1⟩
            clear hK K
            (try simp only [Act.put, lga, lgz, lgs, lsa, lsz, lss])
            refine wpAnyH_ready (rs := [16]) (by decide +kernel) (by simp) ?_
            refine AllReadyH.cons rfl (fun K hK => ?_) (AllReadyH.nil)
            (try simp only [lga, lgz, lgs])
            (rw [if_pos (by rfl)]; refine wp_append_lies _ (.tmp 32) (.tmp 46) 29 rfl wf.heap.size 60 i0 (.agg #[.slice none 0 0, .bool false]) 2 32 Tryd.underlying29 hi hz0 hz1 hz2 rfl (by decide) v1 N1 (clipCells l1) rfl (raw_up (by have h9 := HMD.out.its; rw [HN1.out] at h9; exact h9) (show Up wr _ from Up.alloc ud _)) ⟨wy.heap.size, 0, none⟩ 1 1 [.slice a34 xn c34, .bool eo] rfl rfl (news_at (by (repeat' (with_reducible first | assumption | (refine Row.at _ _ ?_; (simp; done)) | refine Row.alloc ?_ _ | refine Row.drew ?_ | refine Row.drewN ?_ _ | refine Row.other ?_ (by first | (simp; done) | (simp; omega) | omega) _ | refine Row.up ?_ (by assumption) | refine Row.chg ?_ (by assumption) (by first | (simp; done) | (simp; omega))))) rfl) (by simp [Value.oneCell']) (by decide) (by unfold maxLen; omega) (by omega) (by simp; omega) _ rfl ?_; intro g2 cap2 we hown5 hgr5 hat5 hg5; have HM5 := Lib.hid (MidC.more (k := ⟨.slice a34 xn c34, xs, eo⟩) (w1 := wy) (w2 := we) (H := wy.heap.size + 1) (g2 := g2) (cap2 := cap2) HMD.out ud (by show wy.ownsRow 0 _ 7 _ xs.length _; rw [HXN.out]; exact (owned_new HOD.out).1) (fun g hg => HOD.out.lt g (own_of hg)) (Chg.grown (Chg.of_up (Up.alloc (Up.refl wy) _)) hgr5 (fun k hk => Or.inl (own_mem hk))) (by rcases hat5 with h9 | h9; exact Or.inl h9; exact Or.inr (by simpa using h9)) (Nat.le_succ _) hzr (by rw [HN1.out]; exact hown5)); have hQe : Chg (own v1) wy we := Chg.grown (Chg.of_up (Up.alloc (Up.refl wy) _)) hgr5 (fun k hk => Or.inl (own_mem hk)); have RBe : Row we w.heap.size #[.int .i64 k, .slice a8 pl c8, .int .i64 sp, .int .i64 p0, .int .i64 p1, .int .i64 p2, .int .i64 p3, v1, .int .i64 wd, .int .i64 cp, .int .i64 jn, .int .i64 mt, .slice a15 dl c15, .int .i64 ph, .int .i64 fn, .int .i64 m.a, .int .i64 m.b, .int .i64 m.c, .int .i64 m.d, .int .i64 m.x, .int .i64 m.y, .slice a11 bl c11] := Row.chg RBd hQe (fun hk => by have := (HMD.out.its.lt _ (own_of hk)).1; have := HBW.out; omega); have ue : Up wf we ∨ True := Or.inr trivial; have HQe := Lib.hid (show Chg [w.heap.size] wf we from (HCH.out.call (Chg.of_up (S := own v1) ud |>.call hQe (fun k hk => Or.inl hk)) (fun k hk => Or.inr ((HMD.out.its.lt k (own_of hk)).1)))); have z5 := hgr5.size; (try simp at z5); have hbe : b < we.heap.size := (by have := ud.size; omega); have x7e := RBe.cell 7 rfl; have y7e := RBe.free 7; have lbe := RBe.lt; have hqe : we.cell? ⟨b, ob + N1 * 2, none⟩ = some (.slice xa xn xc) ∧ we.cell? ⟨b, ob + N1 * 2 + 1, none⟩ = some (.bool eo) := (by have h9 : Chg (own v1) wr we := (Chg.of_up ud).call hQe (fun k hk => Or.inl hk); have h8 : b ∉ own v1 := (fun hk => (by have := (HMD.out.its.lt _ (own_of hk)).1; have := HBF.out; omega)); exact ⟨(h9.cells.1 b _ hbr h8).trans hq0, (h9.cells.1 b _ hbr h8).trans hq1⟩); clear hown5 hgr5 hat5 hQe)
            refine hK.out _ _ ?_ (fun hHeld => ?_)
            · exact hqe
            clear hK K
            (try simp only [Act.put, lga, lgz, lgs, lsa, lsz, lss])
            refine wpAnyH_take (i := 17) (v := ?_) rfl (by kernel_rfl) (by kernel_rfl) (by kernel_rfl) (fun _ _ _ h => h) (Or.inl ⟨by rfl, ?_⟩) (by assumption) ?_
            rotate_left
            · intro w2 hSw
              (try dsimp only at hSw)
              (try (obtain ⟨s0, s1⟩ := hSw))
              go_simp
              (try (with_reducible rfl))
            (try simp only [Act.put, lga, lgz, lgs, lsa, lsz, lss])
            refine wpAnyH_ready (rs := [18]) (by decide +kernel) (by simp) ?_
            refine AllReadyH.cons rfl (fun K hK => ?_) (AllReadyH.nil)
            (try simp only [lga, lgz, lgs])
            (go_simp)
            refine hK.out _ _ ?_ (fun hHeld => ?_)
            · exact s2_set hqe hbe HBNE.out
            clear hK K
            (try simp only [Act.put, lga, lgz, lgs, lsa, lsz, lss])
            refine wpAnyH_done (by kernel_rfl) ?_ _
            clear hHeld
            go_wp2
            go_roundw
            case rel => exact ⟨l1 ++ [⟨.slice a34 xn c34, xs, eo⟩], .slice (some ⟨g2, 0, none⟩) (N1 + 1) cap2, by rw [List.length_append, List.length_singleton, HN1.out]; omega, by rw [List.length_append, List.length_singleton, HN1.out]; go_num, Lib.hid (by have h9 := HM5.out; rw [HN1.out] at h9; exact h9.chgB ((Chg.refl [w.heap.size] we).setCell (Or.inl (by simp)) _) HBW.out), Lib.hid (by rw [List.length_append, List.length_singleton, take_map_succ HX.out, List.map_append, HMP.out]; rfl), Lib.hid (Row.put RBe rfl), Lib.hid (HQe.out.setCell (Or.inl (by simp)) _)⟩
            case measure => simp [intOf]; omega
          · skip
            (try simp only [lga, lgz, lgs])
            (go_simp)
            refine hK.out _ _ ?_ (fun hHeld => ?_)
            · exact ⟨cell_up (show Up wr _ by (repeat' (first | (with_reducible first | exact Up.refl _ | assumption | refine Up.alloc ?_ _ | refine Up.drew ?_ | refine Up.drewN ?_ _ | refine Up.setCell ?_ ?_ _ | refine Up.call ?_ (by assumption)) | go_size))) hq0, cell_up (show Up wr _ by (repeat' (first | (with_reducible first | exact Up.refl _ | assumption | refine Up.alloc ?_ _ | refine Up.drew ?_ | refine Up.drewN ?_ _ | refine Up.setCell ?_ ?_ _ | refine Up.call ?_ (by assumption)) | go_size))) hq1⟩
            clear hK K
            (try simp only [Act.put, lga, lgz, lgs, lsa, lsz, lss])
            refine wpAnyH_ready (rs := [1]) (by decide +kernel) (by simp) ?_
            refine AllReadyH.cons rfl (fun K hK => ?_) (AllReadyH.nil)
            (try simp only [lga, lgz, lgs])
            (go_simp)
            refine hK.out _ _ ?_ (fun hHeld => ?_)
            · exact ⟨cell_up (show Up wr _ by (repeat' (first | (with_reducible first | exact Up.refl _ | assumption | refine Up.alloc ?_ _ | refine Up.drew ?_ | refine Up.drewN ?_ _ | refine Up.setCell ?_ ?_ _ | refine Up.call ?_ (by assumption)) | go_size))) hq0, cell_up (show Up wr _ by (repeat' (first | (with_reducible first | exact Up.refl _ | assumption | refine Up.alloc ?_ _ | refine Up.drew ?_ | refine Up.drewN ?_ _ | refine Up.setCell ?_ ?_ _ | refine Up.call ?_ (by assumption)) | go_size))) hq1⟩
            clear hK K
            (try simp only [Act.put, lga, lgz, lgs, lsa, lsz, lss])
            refine wpAnyH_ready (rs := [16]) (by decide +kernel) (by simp) ?_
            refine AllReadyH.cons rfl (fun K hK => ?_) (AllReadyH.nil)
            (try simp only [lga, lgz, lgs])
            (rw [if_pos (by rfl)]; refine wp_append_lies _ (.tmp 32) (.tmp 46) 29 rfl wf.heap.size 60 i0 (.agg #[.slice none 0 0, .bool false]) 2 32 Tryd.underlying29 hi hz0 hz1 hz2 rfl (by decide) v1 N1 (clipCells l1) rfl (raw_up (by have h9 := HMD.out.its; rw [HN1.out] at h9; exact h9) (show Up wr _ from Up.alloc ud _)) ⟨wy.heap.size, 0, none⟩ 1 1 [.slice a34 xn c34, .bool eo] rfl rfl (news_at (by (repeat' (with_reducible first | assumption | (refine Row.at _ _ ?_; (simp; done)) | refine Row.alloc ?_ _ | refine Row.drew ?_ | refine Row.drewN ?_ _ | refine Row.other ?_ (by first | (simp; done) | (simp; omega) | omega) _ | refine Row.up ?_ (by assumption) | refine Row.chg ?_ (by assumption) (by first | (simp; done) | (simp; omega))))) rfl) (by simp [Value.oneCell']) (by decide) (by unfold maxLen; omega) (by omega) (by simp; omega) _ rfl ?_; intro g2 cap2 we hown5 hgr5 hat5 hg5; have HM5 := Lib.hid (MidC.more (k := ⟨.slice a34 xn c34, xs, eo⟩) (w1 := wy) (w2 := we) (H := wy.heap.size + 1) (g2 := g2) (cap2 := cap2) HMD.out ud (by show wy.ownsRow 0 _ 7 _ xs.length _; rw [HXN.out]; exact (owned_new HOD.out).1) (fun g hg => HOD.out.lt g (own_of hg)) (Chg.grown (Chg.of_up (Up.alloc (Up.refl wy) _)) hgr5 (fun k hk => Or.inl (own_mem hk))) (by rcases hat5 with h9 | h9; exact Or.inl h9; exact Or.inr (by simpa using h9)) (Nat.le_succ _) hzr (by rw [HN1.out]; exact hown5)); have hQe : Chg (own v1) wy we := Chg.grown (Chg.of_up (Up.alloc (Up.refl wy) _)) hgr5 (fun k hk => Or.inl (own_mem hk)); have RBe : Row we w.heap.size #[.int .i64 k, .slice a8 pl c8, .int .i64 sp, .int .i64 p0, .int .i64 p1, .int .i64 p2, .int .i64 p3, v1, .int .i64 wd, .int .i64 cp, .int .i64 jn, .int .i64 mt, .slice a15 dl c15, .int .i64 ph, .int .i64 fn, .int .i64 m.a, .int .i64 m.b, .int .i64 m.c, .int .i64 m.d, .int .i64 m.x, .int .i64 m.y, .slice a11 bl c11] := Row.chg RBd hQe (fun hk => by have := (HMD.out.its.lt _ (own_of hk)).1; have := HBW.out; omega); have ue : Up wf we ∨ True := Or.inr trivial; have HQe := Lib.hid (show Chg [w.heap.size] wf we from (HCH.out.call (Chg.of_up (S := own v1) ud |>.call hQe (fun k hk => Or.inl hk)) (fun k hk => Or.inr ((HMD.out.its.lt k (own_of hk)).1)))); have z5 := hgr5.size; (try simp at z5); have hbe : b < we.heap.size := (by have := ud.size; omega); have x7e := RBe.cell 7 rfl; have y7e := RBe.free 7; have lbe := RBe.lt; have hqe : we.cell? ⟨b, ob + N1 * 2, none⟩ = some (.slice xa xn xc) ∧ we.cell? ⟨b, ob + N1 * 2 + 1, none⟩ = some (.bool eo) := (by have h9 : Chg (own v1) wr we := (Chg.of_up ud).call hQe (fun k hk => Or.inl hk); have h8 : b ∉ own v1 := (fun hk => (by have := (HMD.out.its.lt _ (own_of hk)).1; have := HBF.out; omega)); exact ⟨(h9.cells.1 b _ hbr h8).trans hq0, (h9.cells.1 b _ hbr h8).trans hq1⟩); clear hown5 hgr5 hat5 hQe)
            refine hK.out _ _ ?_ (fun hHeld => ?_)
            · exact hqe
            clear hK K
            (try simp only [Act.put, lga, lgz, lgs, lsa, lsz, lss])
            refine wpAnyH_take (i := 17) (v := ?_) rfl (by kernel_rfl) (by kernel_rfl) (by kernel_rfl) (fun _ _ _ h => h) (Or.inl ⟨by rfl, ?_⟩) (by assumption) ?_
            rotate_left
            · intro w2 hSw
              (try dsimp only at hSw)
              (try (obtain ⟨s0, s1⟩ := hSw))
              go_simp
              (try (with_reducible rfl))
            (try simp only [Act.put, lga, lgz, lgs, lsa, lsz, lss])
            refine wpAnyH_ready (rs := [18]) (by decide +kernel) (by simp) ?_
            refine AllReadyH.cons rfl (fun K hK => ?_) (AllReadyH.nil)
            (try simp only [lga, lgz, lgs])
            (go_simp)
            refine hK.out _ _ ?_ (fun hHeld => ?_)
            · exact s2_set hqe hbe HBNE.out
            clear hK K
            (try simp only [Act.put, lga, lgz, lgs, lsa, lsz, lss])
            refine wpAnyH_done (by kernel_rfl) ?_ _
            clear hHeld
            go_wp2
            go_roundw
            case rel => exact ⟨l1 ++ [⟨.slice a34 xn c34, xs, eo⟩], .slice (some ⟨g2, 0, none⟩) (N1 + 1) cap2, by rw [List.length_append, List.length_singleton, HN1.out]; omega, by rw [List.length_append, List.length_singleton, HN1.out]; go_num, Lib.hid (by have h9 := HM5.out; rw [HN1.out] at h9; exact h9.chgB ((Chg.refl [w.heap.size] we).setCell (Or.inl (by simp)) _) HBW.out), Lib.hid (by rw [List.length_append, List.length_singleton, take_map_succ HX.out, List.map_append, HMP.out]; rfl), Lib.hid (Row.put RBe rfl), Lib.hid (HQe.out.setCell (Or.inl (by simp)) _)⟩
            case measure => simp [intOf]; omega
    · obtain ⟨N1, hN1⟩ : ∃ k, l1.length = k := ⟨_, rfl⟩
      rw [hN1] at hlt hk ⊢
      obtain rfl : N1 = cl := by omega
      have HN1 := Lib.hid hN1
      have hcast : decide ((N1 : Int) < (N1 : Int)) = false := decide_eq_false (by omega)
      obtain ⟨a3, c3, e3⟩ : ∃ a c, v1 = .slice a N1 c := by
        obtain ⟨a, c, e⟩ := owned_val (owned_new HMD.out.its).1
        exact ⟨a, c, by rw [e, hN1]⟩
      subst e3
      have RZr : Row wr (w.heap.size + 1) #[.int .i64 0, .slice none 0 0, .int .i64 0, .int .i64 0, .int .i64 0, .int .i64 0, .int .i64 0, .slice none 0 0, .int .i64 0, .int .i64 0, .int .i64 0, .int .i64 0, .slice none 0 0, .int .i64 0, .int .i64 0, .int .i64 0, .int .i64 0, .int .i64 0, .int .i64 0, .int .i64 0, .int .i64 0, .slice none 0 0] := Row.chg HRZF.out HCH.out (by simp)
      clear hN1 hlt
      go_wp2_with (first
        | (refine wpList_load_Row rfl 36 (.tmp 1) rfl (w.heap.size) rfl #[.int .i64 k, .slice a8 pl c8, .int .i64 sp, .int .i64 p0, .int .i64 p1, .int .i64 p2, .int .i64 p3, .slice a3 N1 c3, .int .i64 wd, .int .i64 cp, .int .i64 jn, .int .i64 mt, .slice a15 dl c15, .int .i64 ph, .int .i64 fn, .int .i64 m.a, .int .i64 m.b, .int .i64 m.c, .int .i64 m.d, .int .i64 m.x, .int .i64 m.y, .slice a11 bl c11] _ RBr Tryd.underlying36 rfl infoItem rfl ?_)
        | ((refine wpList_store_Row rfl 36 (.tmp 2) _ rfl (w.heap.size + 1) #[.int .i64 k, .slice a8 pl c8, .int .i64 sp, .int .i64 p0, .int .i64 p1, .int .i64 p2, .int .i64 p3, .slice a3 N1 c3, .int .i64 wd, .int .i64 cp, .int .i64 jn, .int .i64 mt, .slice a15 dl c15, .int .i64 ph, .int .i64 fn, .int .i64 m.a, .int .i64 m.b, .int .i64 m.c, .int .i64 m.d, .int .i64 m.x, .int .i64 m.y, .slice a11 bl c11] rfl rfl #[.int .i64 0, .slice none 0 0, .int .i64 0, .int .i64 0, .int .i64 0, .int .i64 0, .int .i64 0, .slice none 0 0, .int .i64 0, .int .i64 0, .int .i64 0, .int .i64 0, .slice none 0 0, .int .i64 0, .int .i64 0, .int .i64 0, .int .i64 0, .int .i64 0, .int .i64 0, .int .i64 0, .int .i64 0, .slice none 0 0] RZr infoItem rfl rfl (by simp [Value.oneCell']) ?_); intro w4 hr4 hc4))
      (try simp only [Exit.inBlock, Exit.then])
      refine bodyPost_ret (results_lown _ _ (w.heap.size + 1) #[.int .i64 k, .slice a8 pl c8, .int .i64 sp, .int .i64 p0, .int .i64 p1, .int .i64 p2, .int .i64 p3, .slice a3 N1 c3, .int .i64 wd, .int .i64 cp, .int .i64 jn, .int .i64 mt, .slice a15 dl c15, .int .i64 ph, .int .i64 fn, .int .i64 m.a, .int .i64 m.b, .int .i64 m.c, .int .i64 m.d, .int .i64 m.x, .int .i64 m.y, .slice a11 bl c11] rfl hr4 rfl) rfl ?_
      have hcz : Chg [w.heap.size, w.heap.size + 1] wr w4 := hc4.mono (fun k hk => by simp at hk; simp [hk])
      have hxf : Chg [w.heap.size, w.heap.size + 1] wx wr := (HQX.out.call HCH.out (fun k hk => Or.inl hk)).mono (fun k hk => by simp at hk; simp [hk])
      obtain ⟨h1, h2, h3, h4, h5, h6, h7, h8, h9⟩ := own_mk2 HCL.out (HMD.out.low HQX.out.size) HN1.out (by have h9 := HMP.out; rwa [HN1.out, List.take_of_length_le (by have := HCN.out; omega)] at h9) hxf hcz
      exact ⟨a8, c8, a11, c11, a15, c15, a3, c3, l1, rfl, h1, h2, h3, h4, h5, h6, h7, h8, h9⟩

end Go.Proofs.YteddlahklilncaaDoor.Pt
end

section
namespace Go.Proofs.YteddlahklilncaaDoor.Pt
open List renaming getElem_toArray → lga, getElem_cons_zero → lgz, getElem_cons_succ → lgs, setIfInBounds_toArray → lsa, set_cons_zero → lsz, set_cons_succ → lss
open Go.ChangeShapes Go.WideShapes Go.ChangeAt Go.RowKit
open Go.Proofs.YteddlahklilncaaDoor.FixM (fits)
open Go.Proofs.YteddlahklilncaaDoor.PathM (Seg sound)
open Go.Proofs.YteddlahklilncaaDoor.MatM (M6)
set_option linter.unusedVariables false
set_option linter.unusedSimpArgs false
open Go.Proofs.YteddlahklilncaaDoor.PathM (segCells)
/-- a value of the same kind; a slice is the same -/
def Kd (u v : Value) : Prop := (∀ k z, u = .int k z → ∃ y, v = .int k y) ∧ (∀ b, u = .bool b → ∃ c, v = .bool c) ∧ (∀ a n c, u = .slice a n c → v = u)
theorem Kd.refl (u : Value) : Kd u u := ⟨fun k z h => ⟨z, h⟩, fun b h => ⟨b, h⟩, fun _ _ _ _ => rfl⟩
theorem Kd.trans {u v x : Value} (h : Kd u v) (g : Kd v x) : Kd u x := by
  refine ⟨fun k z e => ?_, fun b e => ?_, fun a n c e => ?_⟩
  · obtain ⟨y, e2⟩ := h.1 k z e; exact g.1 k y e2
  · obtain ⟨y, e2⟩ := h.2.1 b e; exact g.2.1 y e2
  · have e2 := h.2.2 a n c e
    rw [g.2.2 a n c (e2.trans e), e2]
theorem Kd.int (k : IntKind) (z y : Int) : Kd (.int k z) (.int k y) := ⟨(fun k2 z2 e => by injection e with e1 _; exact ⟨y, by rw [e1]⟩), (fun b e => by cases e), (fun a n c e => by cases e)⟩
theorem Kd.bool (b c : Bool) : Kd (.bool b) (.bool c) := ⟨(fun k z e => by cases e), fun _ _ => ⟨c, rfl⟩, (fun a n c e => by cases e)⟩
/-- every cell that was there is there, of its kind -/
def Sh (w w1 : World) : Prop := ∀ (b j : Nat) (u : Value), w.cell? ⟨b, j, none⟩ = some u → ∃ v, w1.cell? ⟨b, j, none⟩ = some v ∧ Kd u v ∧ w1.frozen? ⟨b, j, none⟩ = w.frozen? ⟨b, j, none⟩
theorem Sh.refl (w : World) : Sh w w := fun b j u h => ⟨u, h, Kd.refl u, rfl⟩
theorem Sh.of_up {w w1 : World} (hu : Up w w1) : Sh w w1 := fun b j u h => ⟨u, (hu.cells.1 b j (cell_lt h)).trans h, Kd.refl u, hu.cells.2 b j (cell_lt h)⟩
theorem Sh.set {w w1 : World} (h : Sh w w1) {g i : Nat} {x y : Value} (hx : w1.cell? ⟨g, i, none⟩ = some x) (hk : Kd x y) : Sh w (w1.setCell ⟨g, i, none⟩ y) := fun b j u hu => by
  obtain ⟨v, h1, h2, h3⟩ := h b j u hu
  by_cases e : (⟨g, i, none⟩ : Addr) = ⟨b, j, none⟩
  · rw [← e] at h1 ⊢
    rw [hx] at h1
    injection h1 with h1
    subst h1
    refine ⟨y, World.cell?_setCell_same _ _ _ hx, h2.trans hk, ?_⟩
    rw [World.frozen?_setCell]
    rw [e]
    exact h3
  · exact ⟨v, by rw [World.cell?_setCell_other _ _ _ _ e]; exact h1, h2, by rw [World.frozen?_setCell]; exact h3⟩
theorem own_free {w : World} {base K : Nat} {e : TypeId} {g n c m : Nat} {xs : List Value} (h : w.ownsRow base e K (.slice (some ⟨g, 0, none⟩) n c) m xs) (j : Nat) : w.frozen? ⟨g, j, none⟩ = false := by
  rcases h.2 with ⟨h1, _⟩ | ⟨g', cap, cur, hv, _, hg, _⟩
  · cases h1
  · injection hv with e1
    injection e1 with e1
    injection e1 with e1
    subst e1
    simp [World.frozen?, hg]
/-- an item's rows, piece by piece -/
structure Sp (w : World) (pa : Option Addr) (pl pc : Nat) (ca : Option Addr) (cl cc : Nat) (da : Option Addr) (dl dc : Nat) (ba : Option Addr) (bl bc : Nat) (cs : List Clip) : Prop where
  p : ∀ k, k < pl → ∃ g z, pa = some ⟨g, 0, none⟩ ∧ w.cell? ⟨g, k * 7, none⟩ = some (.int .i64 z) ∧ w.frozen? ⟨g, k * 7, none⟩ = false
  b : ∀ k, k < bl → ∃ g z, ba = some ⟨g, 0, none⟩ ∧ w.cell? ⟨g, k, none⟩ = some (.int .u8 z) ∧ w.frozen? ⟨g, k, none⟩ = false
  d : ∀ k, k < dl → ∃ g z, da = some ⟨g, 0, none⟩ ∧ w.cell? ⟨g, k, none⟩ = some (.int .i64 z) ∧ w.frozen? ⟨g, k, none⟩ = false
  c : ∀ k, k < cl → ∃ g xa xn xc e, ca = some ⟨g, 0, none⟩ ∧ w.cell? ⟨g, k * 2, none⟩ = some (.slice xa xn xc) ∧ w.cell? ⟨g, k * 2 + 1, none⟩ = some (.bool e) ∧ w.frozen? ⟨g, k * 2 + 1, none⟩ = false ∧ (∀ h ∈ own (.slice xa xn xc), h ∈ cs.flatMap (fun c => own c.v)) ∧ xn ≤ 10000 ∧ ∀ j, j < xn → ∃ x z, xa = some ⟨x, 0, none⟩ ∧ w.cell? ⟨x, j * 7, none⟩ = some (.int .i64 z) ∧ w.frozen? ⟨x, j * 7, none⟩ = false
theorem owned_some {w : World} {e : TypeId} {K : Nat} {v : Value} {n : Nat} {xs : List Value} (h : w.ownsRow 0 e K v n xs) (h0 : 0 < n) : ∃ g c, v = .slice (some ⟨g, 0, none⟩) n c := by
  rcases owned_form h with ⟨_, h1⟩ | ⟨g, cap, e2, _⟩
  · omega
  · exact ⟨g, cap, e2⟩
theorem segs_kind {w : World} {g n c : Nat} {l : List Seg} (h : Path.Segs w (.slice (some ⟨g, 0, none⟩) n c) l) {k : Nat} (hk : k < l.length) : ∃ z, w.cell? ⟨g, k * 7, none⟩ = some (.int .i64 z) := by
  obtain ⟨s, hs⟩ : ∃ s, l[k]? = some s := ⟨_, List.getElem?_eq_getElem hk⟩
  have hc := h.cells (g := g) rfl (k * 7 + 0) _ (PathM.segCells_at l k s 0 hs (by decide))
  rw [add_plain, Nat.zero_add] at hc
  exact ⟨s.k, hc⟩
theorem Sp.of {w : World} {pa : Option Addr} {pl pc : Nat} {ca : Option Addr} {cl cc : Nat} {da : Option Addr} {dl dc : Nat} {ba : Option Addr} {bl bc : Nat} {l : List Seg} {cs : List Clip} {ds bs : List Int}
    (hp : Path.Segs w (.slice pa pl pc) l) (hpn : l.length = pl) (hc : w.ownsRow 0 60 2 (.slice ca cl cc) cs.length (clipCells cs)) (hcn : cs.length = cl) (hcs : ∀ c ∈ cs, Path.Segs w c.v c.l) (hl5 : ∀ c ∈ cs, c.l.length ≤ 10000)
    (hd : w.ownsRow 0 3 1 (.slice da dl dc) dl (ds.map (Value.int .i64))) (hb : w.ownsRow 0 5 1 (.slice ba bl bc) bl (bs.map (Value.int .u8))) : Sp w pa pl pc ca cl cc da dl dc ba bl bc cs := by
  subst hpn hcn
  refine ⟨fun k hk => ?_, fun k hk => ?_, fun k hk => ?_, fun k hk => ?_⟩
  · obtain ⟨g, c, e⟩ := owned_some hp (by omega)
    injection e with e1 _ e3
    subst e1 e3
    obtain ⟨z, hz⟩ := segs_kind hp hk
    exact ⟨g, z, rfl, hz, own_free hp _⟩
  · obtain ⟨g, c, e⟩ := owned_some hb (by omega)
    injection e with e1 _ e3
    subst e1 e3
    have hn : bs.length = bl := by simpa using hb.1
    have hc := hb.cells (g := g) rfl k (.int .u8 (bs.getD k 0)) (by rw [List.getElem?_map, List.getElem?_eq_getElem (by omega), List.getD_eq_getElem?_getD, List.getElem?_eq_getElem (by omega)]; rfl)
    rw [add_plain, Nat.zero_add] at hc
    exact ⟨g, _, rfl, hc, own_free hb _⟩
  · obtain ⟨g, c, e⟩ := owned_some hd (by omega)
    injection e with e1 _ e3
    subst e1 e3
    have hn : ds.length = dl := by simpa using hd.1
    have hc := hd.cells (g := g) rfl k (.int .i64 (ds.getD k 0)) (by rw [List.getElem?_map, List.getElem?_eq_getElem (by omega), List.getD_eq_getElem?_getD, List.getElem?_eq_getElem (by omega)]; rfl)
    rw [add_plain, Nat.zero_add] at hc
    exact ⟨g, _, rfl, hc, own_free hd _⟩
  · obtain ⟨g, c, e⟩ := owned_some hc (by omega)
    injection e with e1 _ e3
    subst e1 e3
    obtain ⟨s, hs⟩ : ∃ s, cs[k]? = some s := ⟨_, List.getElem?_eq_getElem hk⟩
    have hm := List.mem_of_getElem? hs
    have h0 := hc.cells (g := g) rfl (k * 2 + 0) _ (flat_at clip_len cs k s 0 _ hs rfl)
    have h1 := hc.cells (g := g) rfl (k * 2 + 1) _ (flat_at clip_len cs k s 1 _ hs rfl)
    rw [add_plain, Nat.zero_add] at h0 h1
    obtain ⟨xa, xc, e⟩ := owned_val (hcs s hm)
    have hq := hcs s hm
    rw [e] at hq
    refine ⟨g, xa, s.l.length, xc, s.eo, rfl, by rw [← e]; exact h0, h1, own_free hc _, fun h hh => List.mem_flatMap.2 ⟨s, hm, by rw [e]; exact hh⟩, hl5 s hm, fun j hj => ?_⟩
    obtain ⟨x, c2, e2⟩ := owned_some hq (by omega)
    injection e2 with e3 _ _
    subst e3
    obtain ⟨z, hz⟩ := segs_kind hq hj
    exact ⟨x, z, rfl, hz, own_free hq _⟩

set_option maxRecDepth 8000 in
set_option maxHeartbeats 8000000 in
theorem spoil_calls (k : Int) (pa : Option Addr) (pl pc : Nat) (sp p0 p1 p2 p3 : Int) (ca : Option Addr) (cl cc : Nat) (wd cp jn mt : Int) (da : Option Addr) (dl dc : Nat) (ph fn : Int) (m : M6) (ba : Option Addr) (bl bc : Nat) (cs : List Clip) (w : World) (h : Sp w pa pl pc ca cl cc da dl dc ba bl bc cs) (hl1 : pl ≤ 10000) (hl2 : bl ≤ 100000) (hl3 : dl ≤ 10000) (hl4 : cl ≤ 100) :
    Calls Tryd.prog 13 #[.agg #[.int .i64 k, .slice pa pl pc, .int .i64 sp, .int .i64 p0, .int .i64 p1, .int .i64 p2, .int .i64 p3, .slice ca cl cc, .int .i64 wd, .int .i64 cp, .int .i64 jn, .int .i64 mt, .slice da dl dc, .int .i64 ph, .int .i64 fn, .int .i64 m.a, .int .i64 m.b, .int .i64 m.c, .int .i64 m.d, .int .i64 m.x, .int .i64 m.y, .slice ba bl bc]] w fun E w' => ∃ v, E = .returned v ∧ Chg (own (.slice pa pl pc) ++ (own (.slice ba bl bc) ++ (own (.slice da dl dc) ++ (own (.slice ca cl cc) ++ cs.flatMap (fun c => own c.v))))) w w' := by
  have HSP := Lib.hid h
  clear h
  go_enter Tryd.func13, Tryd.ntmps13
  go_wp2
  have HSH := Lib.hid (Sh.of_up (show Up w _ from (Up.alloc (Up.refl w) (.cells #[.int .i64 k, .slice pa pl pc, .int .i64 sp, .int .i64 p0, .int .i64 p1, .int .i64 p2, .int .i64 p3, .slice ca cl cc, .int .i64 wd, .int .i64 cp, .int .i64 jn, .int .i64 mt, .slice da dl dc, .int .i64 ph, .int .i64 fn, .int .i64 m.a, .int .i64 m.b, .int .i64 m.c, .int .i64 m.d, .int .i64 m.x, .int .i64 m.y, .slice ba bl bc] 36))))
  have HCR := Lib.hid (Chg.of_up (S := (own (.slice pa pl pc) ++ (own (.slice ba bl bc) ++ (own (.slice da dl dc) ++ (own (.slice ca cl cc) ++ cs.flatMap (fun c => own c.v)))))) (show Up w _ from (Up.alloc (Up.refl w) (.cells #[.int .i64 k, .slice pa pl pc, .int .i64 sp, .int .i64 p0, .int .i64 p1, .int .i64 p2, .int .i64 p3, .slice ca cl cc, .int .i64 wd, .int .i64 cp, .int .i64 jn, .int .i64 mt, .slice da dl dc, .int .i64 ph, .int .i64 fn, .int .i64 m.a, .int .i64 m.b, .int .i64 m.c, .int .i64 m.d, .int .i64 m.x, .int .i64 m.y, .slice ba bl bc] 36))))
  have HRR := Lib.hid (show Row (w.alloc (.cells #[.int .i64 k, .slice pa pl pc, .int .i64 sp, .int .i64 p0, .int .i64 p1, .int .i64 p2, .int .i64 p3, .slice ca cl cc, .int .i64 wd, .int .i64 cp, .int .i64 jn, .int .i64 mt, .slice da dl dc, .int .i64 ph, .int .i64 fn, .int .i64 m.a, .int .i64 m.b, .int .i64 m.c, .int .i64 m.d, .int .i64 m.x, .int .i64 m.y, .slice ba bl bc] 36)) w.heap.size #[.int .i64 k, .slice pa pl pc, .int .i64 sp, .int .i64 p0, .int .i64 p1, .int .i64 p2, .int .i64 p3, .slice ca cl cc, .int .i64 wd, .int .i64 cp, .int .i64 jn, .int .i64 mt, .slice da dl dc, .int .i64 ph, .int .i64 fn, .int .i64 m.a, .int .i64 m.b, .int .i64 m.c, .int .i64 m.d, .int .i64 m.x, .int .i64 m.y, .slice ba bl bc] by (repeat' (with_reducible first | assumption | (refine Row.at _ _ ?_; (simp; done)) | refine Row.alloc ?_ _ | refine Row.drew ?_ | refine Row.drewN ?_ _ | refine Row.other ?_ (by first | (simp; done) | (simp; omega) | omega) _ | refine Row.up ?_ (by assumption) | refine Row.chg ?_ (by assumption) (by first | (simp; done) | (simp; omega)))))
  go_loopw [2] (fun s2 wr => ∃ q : Nat, q ≤ pl ∧ s2 = .int .i64 q ∧ Hid (Sh w wr) ∧ Hid (Chg (own (.slice pa pl pc) ++ (own (.slice ba bl bc) ++ (own (.slice da dl dc) ++ (own (.slice ca cl cc) ++ cs.flatMap (fun c => own c.v))))) w wr) ∧ Hid (Row wr w.heap.size #[.int .i64 k, .slice pa pl pc, .int .i64 sp, .int .i64 p0, .int .i64 p1, .int .i64 p2, .int .i64 p3, .slice ca cl cc, .int .i64 wd, .int .i64 cp, .int .i64 jn, .int .i64 mt, .slice da dl dc, .int .i64 ph, .int .i64 fn, .int .i64 m.a, .int .i64 m.b, .int .i64 m.c, .int .i64 m.d, .int .i64 m.x, .int .i64 m.y, .slice ba bl bc])) (fun s2 _ => pl - (intOf s2).toNat)
  case atStart => exact ⟨0, Nat.zero_le _, rfl, HSH, HCR, HRR⟩
  case round =>
    clear HSH HCR HRR
    obtain ⟨q, hk, rfl, HSH, HCR, HRR⟩ := hrel
    have hcr := HCR.out
    have hzr := hcr.size
    have RBr := HRR.out
    have lbr := RBr.lt
    have xr_1 : wr.cell? ⟨w.heap.size, 1, none⟩ = some (.slice pa pl pc) := RBr.cell 1 rfl
    by_cases hlt : q < pl
    · have hcast : decide ((q : Int) < (pl : Int)) = true := decide_eq_true (by omega)
      obtain ⟨g, z, rfl, h1, h2⟩ := HSP.out.p q hlt
      obtain ⟨v, h3, h4, h5⟩ := HSH.out g (q * 7) _ h1
      obtain ⟨y, rfl⟩ := h4.1 _ _ rfl
      rw [h2] at h5
      have hgw : g < w.heap.size := cell_lt h1
      have hgl : g < wr.heap.size := cell_lt h3
      have HGN := Lib.hid (show g ≠ w.heap.size by omega)
      have HKD := Lib.hid h3
      have HMEM := Lib.hid (show g ∈ (own (.slice (some ⟨g, 0, none⟩) pl pc) ++ (own (.slice ba bl bc) ++ (own (.slice da dl dc) ++ (own (.slice ca cl cc) ++ cs.flatMap (fun c => own c.v))))) by simp [own, Value.ownBlock])
      clear h1 h2 h4
      go_wp2
      go_roundw
      case rel => exact ⟨q + 1, by omega, by go_num, Lib.hid (HSH.out.set HKD.out (Kd.int _ _ _)), Lib.hid (hcr.setCell (Or.inl HMEM.out) _), Lib.hid (Row.other RBr HGN.out _)⟩
      case measure => simp [intOf]; omega
    · have hcast : decide ((q : Int) < (pl : Int)) = false := decide_eq_false (by omega)
      obtain ⟨wop, hwp⟩ : ∃ x, x = wr := ⟨wr, rfl⟩
      subst hwp
      go_wp2
      go_loopw [3] (fun s3 wr => ∃ q : Nat, q ≤ bl ∧ s3 = .int .i64 q ∧ Hid (Sh w wr) ∧ Hid (Chg (own (.slice pa pl pc) ++ (own (.slice ba bl bc) ++ (own (.slice da dl dc) ++ (own (.slice ca cl cc) ++ cs.flatMap (fun c => own c.v))))) w wr) ∧ Hid (Row wr w.heap.size #[.int .i64 k, .slice pa pl pc, .int .i64 sp, .int .i64 p0, .int .i64 p1, .int .i64 p2, .int .i64 p3, .slice ca cl cc, .int .i64 wd, .int .i64 cp, .int .i64 jn, .int .i64 mt, .slice da dl dc, .int .i64 ph, .int .i64 fn, .int .i64 m.a, .int .i64 m.b, .int .i64 m.c, .int .i64 m.d, .int .i64 m.x, .int .i64 m.y, .slice ba bl bc])) (fun s3 _ => bl - (intOf s3).toNat)
      case atStart => exact ⟨0, Nat.zero_le _, rfl, HSH, HCR, HRR⟩
      case round =>
        clear HSH HCR HRR
        obtain ⟨q, hk, rfl, HSH, HCR, HRR⟩ := hrel
        have hcr := HCR.out
        have hzr := hcr.size
        have RBr := HRR.out
        have lbr := RBr.lt
        have xr_21 : wr.cell? ⟨w.heap.size, 21, none⟩ = some (.slice ba bl bc) := RBr.cell 21 rfl
        by_cases hlt : q < bl
        · have hcast : decide ((q : Int) < (bl : Int)) = true := decide_eq_true (by omega)
          obtain ⟨g, z, rfl, h1, h2⟩ := HSP.out.b q hlt
          obtain ⟨v, h3, h4, h5⟩ := HSH.out g (q) _ h1
          obtain ⟨y, rfl⟩ := h4.1 _ _ rfl
          rw [h2] at h5
          have hgw : g < w.heap.size := cell_lt h1
          have hgl : g < wr.heap.size := cell_lt h3
          have HGN := Lib.hid (show g ≠ w.heap.size by omega)
          have HKD := Lib.hid h3
          have HMEM := Lib.hid (show g ∈ (own (.slice pa pl pc) ++ (own (.slice (some ⟨g, 0, none⟩) bl bc) ++ (own (.slice da dl dc) ++ (own (.slice ca cl cc) ++ cs.flatMap (fun c => own c.v))))) by simp [own, Value.ownBlock])
          clear h1 h2 h4
          go_wp2
          go_roundw
          case rel => exact ⟨q + 1, by omega, by go_num, Lib.hid (HSH.out.set HKD.out (Kd.int _ _ _)), Lib.hid (hcr.setCell (Or.inl HMEM.out) _), Lib.hid (Row.other RBr HGN.out _)⟩
          case measure => simp [intOf]; omega
        · have hcast : decide ((q : Int) < (bl : Int)) = false := decide_eq_false (by omega)
          obtain ⟨wob, hwb⟩ : ∃ x, x = wr := ⟨wr, rfl⟩
          subst hwb
          go_wp2
          go_loopw [4] (fun s4 wr => ∃ q : Nat, q ≤ dl ∧ s4 = .int .i64 q ∧ Hid (Sh w wr) ∧ Hid (Chg (own (.slice pa pl pc) ++ (own (.slice ba bl bc) ++ (own (.slice da dl dc) ++ (own (.slice ca cl cc) ++ cs.flatMap (fun c => own c.v))))) w wr) ∧ Hid (Row wr w.heap.size #[.int .i64 k, .slice pa pl pc, .int .i64 sp, .int .i64 p0, .int .i64 p1, .int .i64 p2, .int .i64 p3, .slice ca cl cc, .int .i64 wd, .int .i64 cp, .int .i64 jn, .int .i64 mt, .slice da dl dc, .int .i64 ph, .int .i64 fn, .int .i64 m.a, .int .i64 m.b, .int .i64 m.c, .int .i64 m.d, .int .i64 m.x, .int .i64 m.y, .slice ba bl bc])) (fun s4 _ => dl - (intOf s4).toNat)
          case atStart => exact ⟨0, Nat.zero_le _, rfl, HSH, HCR, HRR⟩
          case round =>
            clear HSH HCR HRR
            obtain ⟨q, hk, rfl, HSH, HCR, HRR⟩ := hrel
            have hcr := HCR.out
            have hzr := hcr.size
            have RBr := HRR.out
            have lbr := RBr.lt
            have xr_12 : wr.cell? ⟨w.heap.size, 12, none⟩ = some (.slice da dl dc) := RBr.cell 12 rfl
            by_cases hlt : q < dl
            · have hcast : decide ((q : Int) < (dl : Int)) = true := decide_eq_true (by omega)
              obtain ⟨g, z, rfl, h1, h2⟩ := HSP.out.d q hlt
              obtain ⟨v, h3, h4, h5⟩ := HSH.out g (q) _ h1
              obtain ⟨y, rfl⟩ := h4.1 _ _ rfl
              rw [h2] at h5
              have hgw : g < w.heap.size := cell_lt h1
              have hgl : g < wr.heap.size := cell_lt h3
              have HGN := Lib.hid (show g ≠ w.heap.size by omega)
              have HKD := Lib.hid h3
              have HMEM := Lib.hid (show g ∈ (own (.slice pa pl pc) ++ (own (.slice ba bl bc) ++ (own (.slice (some ⟨g, 0, none⟩) dl dc) ++ (own (.slice ca cl cc) ++ cs.flatMap (fun c => own c.v))))) by simp [own, Value.ownBlock])
              clear h1 h2 h4
              go_wp2
              go_roundw
              case rel => exact ⟨q + 1, by omega, by go_num, Lib.hid (HSH.out.set HKD.out (Kd.int _ _ _)), Lib.hid (hcr.setCell (Or.inl HMEM.out) _), Lib.hid (Row.other RBr HGN.out _)⟩
              case measure => simp [intOf]; omega
            · have hcast : decide ((q : Int) < (dl : Int)) = false := decide_eq_false (by omega)
              obtain ⟨wod, hwd⟩ : ∃ x, x = wr := ⟨wr, rfl⟩
              subst hwd
              go_wp2
              go_loopw [5] (fun s5 wr => ∃ q : Nat, q ≤ cl ∧ s5 = .int .i64 q ∧ Hid (Sh w wr) ∧ Hid (Chg (own (.slice pa pl pc) ++ (own (.slice ba bl bc) ++ (own (.slice da dl dc) ++ (own (.slice ca cl cc) ++ cs.flatMap (fun c => own c.v))))) w wr) ∧ Hid (Row wr w.heap.size #[.int .i64 k, .slice pa pl pc, .int .i64 sp, .int .i64 p0, .int .i64 p1, .int .i64 p2, .int .i64 p3, .slice ca cl cc, .int .i64 wd, .int .i64 cp, .int .i64 jn, .int .i64 mt, .slice da dl dc, .int .i64 ph, .int .i64 fn, .int .i64 m.a, .int .i64 m.b, .int .i64 m.c, .int .i64 m.d, .int .i64 m.x, .int .i64 m.y, .slice ba bl bc])) (fun s5 _ => cl - (intOf s5).toNat)
              case atStart => exact ⟨0, Nat.zero_le _, rfl, HSH, HCR, HRR⟩
              case round =>
                clear HSH HCR HRR
                obtain ⟨q, hk, rfl, HSH, HCR, HRR⟩ := hrel
                have hcr := HCR.out
                have hzr := hcr.size
                have RBr := HRR.out
                have lbr := RBr.lt
                have xr_7 : wr.cell? ⟨w.heap.size, 7, none⟩ = some (.slice ca cl cc) := RBr.cell 7 rfl
                by_cases hlt : q < cl
                · have hcast : decide ((q : Int) < (cl : Int)) = true := decide_eq_true (by omega)
                  obtain ⟨g, xa, xn, xc, e, rfl, c1, c2, c3, cm, cn, cj⟩ := HSP.out.c q hlt
                  have HC1 := Lib.hid c1
                  have HC2 := Lib.hid c2
                  have HC3 := Lib.hid c3
                  have HCM := Lib.hid cm
                  have HCJ := Lib.hid cj
                  clear c1 c2 c3 cm cj
                  obtain ⟨wk, hwk⟩ : ∃ x, x = wr := ⟨wr, rfl⟩
                  subst hwk
                  go_wp2
                  go_loopw [6] (fun s6 wr => ∃ j : Nat, j ≤ xn ∧ s6 = .int .i64 j ∧ Hid (Sh w wr) ∧ Hid (Chg (own (.slice pa pl pc) ++ (own (.slice ba bl bc) ++ (own (.slice da dl dc) ++ (own (.slice (some ⟨g, 0, none⟩) cl cc) ++ cs.flatMap (fun c => own c.v))))) w wr) ∧ Hid (Row wr w.heap.size #[.int .i64 k, .slice pa pl pc, .int .i64 sp, .int .i64 p0, .int .i64 p1, .int .i64 p2, .int .i64 p3, .slice (some ⟨g, 0, none⟩) cl cc, .int .i64 wd, .int .i64 cp, .int .i64 jn, .int .i64 mt, .slice da dl dc, .int .i64 ph, .int .i64 fn, .int .i64 m.a, .int .i64 m.b, .int .i64 m.c, .int .i64 m.d, .int .i64 m.x, .int .i64 m.y, .slice ba bl bc])) (fun s6 _ => xn - (intOf s6).toNat)
                  case atStart => exact ⟨0, Nat.zero_le _, rfl, HSH, HCR, HRR⟩
                  case round =>
                    clear HSH HCR HRR
                    obtain ⟨j, hj, rfl, HSH, HCR, HRR⟩ := hrel
                    have hcr := HCR.out
                    have hzr := hcr.size
                    have RBr := HRR.out
                    have lbr := RBr.lt
                    have xr_7 : wr.cell? ⟨w.heap.size, 7, none⟩ = some (.slice (some ⟨g, 0, none⟩) cl cc) := RBr.cell 7 rfl
                    obtain ⟨v2, c3, c4, c5⟩ := HSH.out g _ _ HC1.out
                    obtain rfl := c4.2.2 _ _ _ rfl
                    obtain ⟨v3, c6, c7, c8⟩ := HSH.out g _ _ HC2.out
                    obtain ⟨e2, rfl⟩ := c7.2.1 _ rfl
                    rw [HC3.out] at c8
                    have hgl : g < wr.heap.size := cell_lt c3
                    by_cases hlj : j < xn
                    · have hcast2 : decide ((j : Int) < (xn : Int)) = true := decide_eq_true (by omega)
                      obtain ⟨x, z, rfl, h1, h2⟩ := HCJ.out j hlj
                      obtain ⟨v, h3, h4, h5⟩ := HSH.out x (j * 7) _ h1
                      obtain ⟨y, rfl⟩ := h4.1 _ _ rfl
                      rw [h2] at h5
                      have hxw : x < w.heap.size := cell_lt h1
                      have hxl : x < wr.heap.size := cell_lt h3
                      have HXN2 := Lib.hid (show x ≠ w.heap.size by omega)
                      have HKD := Lib.hid h3
                      have HMEM := Lib.hid (show x ∈ (own (.slice pa pl pc) ++ (own (.slice ba bl bc) ++ (own (.slice da dl dc) ++ (own (.slice (some ⟨g, 0, none⟩) cl cc) ++ cs.flatMap (fun c => own c.v))))) by have := HCM.out x (by simp [own, Value.ownBlock]); simp only [List.mem_append]; exact Or.inr (Or.inr (Or.inr (Or.inr this))))
                      clear h1 h2 h4 c4 c5 c6 c7 c8
                      go_wp2
                      go_roundw
                      case rel => exact ⟨j + 1, by omega, by go_num, Lib.hid (HSH.out.set HKD.out (Kd.int _ _ _)), Lib.hid (hcr.setCell (Or.inl HMEM.out) _), Lib.hid (Row.other RBr HXN2.out _)⟩
                      case measure => simp [intOf]; omega
                    · have hcast2 : decide ((j : Int) < (xn : Int)) = false := decide_eq_false (by omega)
                      have HKD := Lib.hid c6
                      have HGN := Lib.hid (show g ≠ w.heap.size by have := cell_lt HC1.out; omega)
                      have HMEM := Lib.hid (show g ∈ (own (.slice pa pl pc) ++ (own (.slice ba bl bc) ++ (own (.slice da dl dc) ++ (own (.slice (some ⟨g, 0, none⟩) cl cc) ++ cs.flatMap (fun c => own c.v))))) by simp [own, Value.ownBlock])
                      clear c4 c5 c7
                      go_wp2
                      refine wp_region_held_drew (S := fun w' => w'.cell? ⟨w.heap.size, 7, none⟩ = some (.slice (some ⟨g, 0, none⟩) cl cc)) (by kernel_rfl) ?_ (fun hHeld => ?_)
                      · exact (Row.cell (show Row _ w.heap.size #[.int .i64 k, .slice pa pl pc, .int .i64 sp, .int .i64 p0, .int .i64 p1, .int .i64 p2, .int .i64 p3, .slice (some ⟨g, 0, none⟩) cl cc, .int .i64 wd, .int .i64 cp, .int .i64 jn, .int .i64 mt, .slice da dl dc, .int .i64 ph, .int .i64 fn, .int .i64 m.a, .int .i64 m.b, .int .i64 m.c, .int .i64 m.d, .int .i64 m.x, .int .i64 m.y, .slice ba bl bc] from Row.drew RBr) 7 rfl)
                      refine wpAnyH_take (i := 0) (v := ?_) rfl (by kernel_rfl) (by kernel_rfl) (by kernel_rfl) (fun _ _ _ h => h) (Or.inl ⟨by rfl, ?_⟩) (by assumption) ?_
                      rotate_left
                      · intro w2 hSw
                        (try dsimp only at hSw)
                        skip
                        go_simp
                        (try (with_reducible rfl))
                      (try simp only [Act.put, lga, lgz, lgs, lsa, lsz, lss])
                      refine wpAnyH_take (i := 1) (v := ?_) rfl (by kernel_rfl) (by kernel_rfl) (by kernel_rfl) (fun _ _ _ h => h) (Or.inl ⟨by rfl, ?_⟩) (by assumption) ?_
                      rotate_left
                      · intro w2 hSw
                        (try dsimp only at hSw)
                        skip
                        go_simp
                        (try (with_reducible rfl))
                      (try simp only [Act.put, lga, lgz, lgs, lsa, lsz, lss])
                      refine wpAnyH_take (i := 2) (v := ?_) rfl (by kernel_rfl) (by kernel_rfl) (by kernel_rfl) (fun _ _ _ h => h) (Or.inl ⟨by rfl, ?_⟩) (by assumption) ?_
                      rotate_left
                      · intro w2 hSw
                        (try dsimp only at hSw)
                        skip
                        go_simp
                        (try (with_reducible rfl))
                      (try simp only [Act.put, lga, lgz, lgs, lsa, lsz, lss])
                      refine wpAnyH_take (i := 3) (v := ?_) rfl (by kernel_rfl) (by kernel_rfl) (by kernel_rfl) (fun _ _ _ h => h) (Or.inl ⟨by rfl, ?_⟩) (by assumption) ?_
                      rotate_left
                      · intro w2 hSw
                        (try dsimp only at hSw)
                        skip
                        go_simp
                        (try (with_reducible rfl))
                      (try simp only [Act.put, lga, lgz, lgs, lsa, lsz, lss])
                      refine wpAnyH_take (i := 4) (v := ?_) rfl (by kernel_rfl) (by kernel_rfl) (by kernel_rfl) (fun _ _ _ h => h) (Or.inl ⟨by rfl, ?_⟩) (by assumption) ?_
                      rotate_left
                      · intro w2 hSw
                        (try dsimp only at hSw)
                        skip
                        go_simp
                        (try (with_reducible rfl))
                      (try simp only [Act.put, lga, lgz, lgs, lsa, lsz, lss])
                      refine wpAnyH_take (i := 5) (v := ?_) rfl (by kernel_rfl) (by kernel_rfl) (by kernel_rfl) (fun _ _ _ h => h) (Or.inl ⟨by rfl, ?_⟩) (by assumption) ?_
                      rotate_left
                      · intro w2 hSw
                        (try dsimp only at hSw)
                        skip
                        go_simp
                        (try (with_reducible rfl))
                      (try simp only [Act.put, lga, lgz, lgs, lsa, lsz, lss])
                      refine wpAnyH_take (i := 6) (v := ?_) rfl (by kernel_rfl) (by kernel_rfl) (by kernel_rfl) (fun _ _ _ h => h) (Or.inl ⟨by rfl, ?_⟩) (by assumption) ?_
                      rotate_left
                      · intro w2 hSw
                        (try dsimp only at hSw)
                        skip
                        go_simp
                        (try (with_reducible rfl))
                      (try simp only [Act.put, lga, lgz, lgs, lsa, lsz, lss])
                      refine wpAnyH_take (i := 7) (v := ?_) rfl (by kernel_rfl) (by kernel_rfl) (by kernel_rfl) (fun _ _ _ h => h) (Or.inl ⟨by rfl, ?_⟩) (by assumption) ?_
                      rotate_left
                      · intro w2 hSw
                        (try dsimp only at hSw)
                        skip
                        go_simp
                        (try (with_reducible rfl))
                      (try simp only [Act.put, lga, lgz, lgs, lsa, lsz, lss])
                      refine wpAnyH_ready (rs := [8]) (by decide +kernel) (by simp) ?_
                      refine AllReadyH.cons rfl (fun K hK => ?_) (AllReadyH.nil)
                      (try simp only [lga, lgz, lgs])
                      (go_simp)
                      refine hK.out _ _ ?_ (fun hHeld => ?_)
                      · exact hHeld
                      clear hK K
                      (try simp only [Act.put, lga, lgz, lgs, lsa, lsz, lss])
                      refine wpAnyH_take (i := 9) (v := ?_) rfl (by kernel_rfl) (by kernel_rfl) (by kernel_rfl) (fun _ _ _ h => h) (Or.inl ⟨by rfl, ?_⟩) (by assumption) ?_
                      rotate_left
                      · intro w2 hSw
                        (try dsimp only at hSw)
                        skip
                        go_simp
                        (try (with_reducible rfl))
                      (try simp only [Act.put, lga, lgz, lgs, lsa, lsz, lss])
                      refine wpAnyH_take (i := 10) (v := ?_) rfl (by kernel_rfl) (by kernel_rfl) (by kernel_rfl) (fun _ _ _ h => h) (Or.inl ⟨by rfl, ?_⟩) (by assumption) ?_
                      rotate_left
                      · intro w2 hSw
                        (try dsimp only at hSw)
                        skip
                        go_simp
                        (try (with_reducible rfl))
                      (try simp only [Act.put, lga, lgz, lgs, lsa, lsz, lss])
                      refine wpAnyH_take (i := 11) (v := ?_) rfl (by kernel_rfl) (by kernel_rfl) (by kernel_rfl) (fun _ _ _ h => h) (Or.inl ⟨by rfl, ?_⟩) (by assumption) ?_
                      rotate_left
                      · intro w2 hSw
                        (try dsimp only at hSw)
                        skip
                        go_simp
                        (try (with_reducible rfl))
                      (try simp only [Act.put, lga, lgz, lgs, lsa, lsz, lss])
                      refine wpAnyH_ready (rs := [12]) (by decide +kernel) (by simp) ?_
                      refine AllReadyH.cons rfl (fun K hK => ?_) (AllReadyH.nil)
                      (try simp only [lga, lgz, lgs])
                      (go_simp)
                      refine hK.out _ _ ?_ (fun hHeld => ?_)
                      · exact (Row.cell (show Row _ w.heap.size #[.int .i64 k, .slice pa pl pc, .int .i64 sp, .int .i64 p0, .int .i64 p1, .int .i64 p2, .int .i64 p3, .slice (some ⟨g, 0, none⟩) cl cc, .int .i64 wd, .int .i64 cp, .int .i64 jn, .int .i64 mt, .slice da dl dc, .int .i64 ph, .int .i64 fn, .int .i64 m.a, .int .i64 m.b, .int .i64 m.c, .int .i64 m.d, .int .i64 m.x, .int .i64 m.y, .slice ba bl bc] from Row.other (Row.drew RBr) HGN.out _) 7 rfl)
                      clear hK K
                      (try simp only [Act.put, lga, lgz, lgs, lsa, lsz, lss])
                      refine wpAnyH_done (by kernel_rfl) ?_ _
                      clear hHeld
                      go_wp2
                      go_roundw
                      case rel => exact ⟨q + 1, by omega, by go_num, Lib.hid ((show Sh w wr.drew from HSH.out).set (show wr.drew.cell? _ = _ from HKD.out) (Kd.bool _ _)), Lib.hid ((Chg.drew hcr).setCell (Or.inl HMEM.out) _), Lib.hid (Row.other (Row.drew RBr) HGN.out _)⟩
                      case measure => simp [intOf]; omega
                · have hcast : decide ((q : Int) < (cl : Int)) = false := decide_eq_false (by omega)
                  go_wp2
                  go_returns
                  exact ⟨_, rfl, HCR.out⟩

end Go.Proofs.YteddlahklilncaaDoor.Pt
end
