/- The reference's state and canvas in memory, and what Letters leaves of them. No condition. The reference's Letters at a place, where nothing is laid. No condition but a length that a string has. The reference's Letters at a place, where letters are laid. Its conditions: a length that a string has; room on the page. The reference's Letters, whatever comes. Its conditions: a length that a string has; room on the page. -/
import Derived.Test.YtjdbefpfjhdmoaaGreatDoorGC
import Derived.Test.YtjdbefpfjhdmoaaGreatDoorGG
import Derived.Test.YtjdbefpfjhdmoaaGreatDoorRmat2
namespace Go.Proofs.YtjdbefpfjhdmoaaGreatDoor.ZGD
open Go.ChangeShapes Go.WideShapes Go.ChangeAt Go.RowKit
theorem ra {w : World} {b : Nat} {cs : Array Value} (h : Row w b cs := by (repeat' (with_reducible first | assumption | (refine Row.at _ _ ?_; (simp; done)) | refine Row.alloc ?_ _ | refine Row.drew ?_ | refine Row.drewN ?_ _ | refine Row.other ?_ (by first | (simp; done) | (simp; omega) | omega) _ | refine Row.up ?_ (by assumption) | refine Row.chg ?_ (by assumption) (by first | (simp; done) | (simp; omega))))) : Row w b cs := h
theorem ca {S : List Nat} {w v : World} (h : Chg S w v := by (repeat' (first | (with_reducible first | exact Chg.refl _ _ | assumption | refine Chg.alloc ?_ _ | refine Chg.drew ?_ | refine Chg.drewN ?_ _ | refine Chg.setCell ?_ ?_ _ | refine Chg.upc ?_ (by assumption) | refine Chg.call ?_ (by assumption) ?_) | (refine ?_; (simp; done)) | (simp; done) | (simp; omega) | omega))) : Chg S w v := h
theorem ua {w v : World} (h : Up w v := by (repeat' (first | (with_reducible first | exact Up.refl _ | assumption | refine Up.alloc ?_ _ | refine Up.drew ?_ | refine Up.drewN ?_ _ | refine Up.setCell ?_ ?_ _ | refine Up.call ?_ (by assumption)) | go_size))) : Up w v := h
theorem ro {w : World} {b : Nat} {cs : Array Value} (h : Row w b cs := by apply cast; (case h => (repeat (first | (with_reducible first | assumption | (apply Row.at; (simp; done)) | apply Row.alloc | apply Row.drew | apply Row.drewN | apply Row.set) | ((with_reducible apply Row.other); (case hp => first | (simp; done) | (simp; omega) | omega))))); (case e => rfl)) : Row w b cs := h
end Go.Proofs.YtjdbefpfjhdmoaaGreatDoor.ZGD
section
namespace Go.Proofs.YtjdbefpfjhdmoaaGreatDoor.Sh
open Go.Proofs.YtjdbefpfjhdmoaaGreatDoor.ZGD
open Go.ChangeShapes Go.WideShapes Go.ChangeAt Go.RowKit
open Go.Proofs.YtjdbefpfjhdmoaaGreatDoor.Gs
open Go.Proofs.YtjdbefpfjhdmoaaGreatDoor.MatM (M6)
open Go.Proofs.YtjdbefpfjhdmoaaGreatDoor.PathM
set_option linter.unusedVariables false
set_option linter.unusedSimpArgs false

/-- the reference's state and canvas -/
structure Ref (w : World) (s m : Nat) (C : M6) (F : Int) (FM : M6) (dk : Bool) (n : Int) (vl rv : Value) (T : St) (l : List Cl) : Prop where
  rs : Row w s (rsC C F FM dk n vl)
  rm : Row w m (cvC rv)
  sg : Path.Segs w vl T.l
  its : Its w rv l
  bytes : Bys w l
  lb : ∀ k ∈ l, 0 < k.it.bs.length
  sm : s ≠ m
  off : ∀ b ∈ own vl ++ own rv ++ bys l, b ≠ s ∧ b ≠ m
section
variable {w w1 w2 w3 : World} {s m : Nat} {C : M6} {F : Int} {FM : M6} {dk : Bool} {n : Int} {vl rv : Value} {T : St} {l : List Cl}
theorem vl_lt {t : List Seg} (h : Path.Segs w vl t) : ∀ b ∈ own vl, b < w.heap.size := fun b hb => by
  rcases h.form with ⟨rfl, _⟩ | ⟨g', cap, rfl, _, _, h1⟩
  · simp [own, Value.ownBlock] at hb
  · simp [own, Value.ownBlock] at hb; omega
theorem Ref.lt (h : Ref w s m C F FM dk n vl rv T l) : ∀ b ∈ own vl ++ own rv ++ bys l, b < w.heap.size := fun b hb => by
  rcases List.mem_append.1 hb with hb | hb
  · rcases List.mem_append.1 hb with hb | hb
    · exact vl_lt h.sg b hb
    · exact own_lt h.its b hb
  · exact bys_lt h.bytes h.lb b hb
theorem Ref.chg (h : Ref w s m C F FM dk n vl rv T l) {S : List Nat} (hc : Chg S w w1) (h1 : s ∉ S) (h2 : m ∉ S) (h3 : ∀ b ∈ own vl ++ own rv ++ bys l, b ∉ S) : Ref w1 s m C F FM dk n vl rv T l :=
  ⟨h.rs.chg hc h1, h.rm.chg hc h2, h.sg.chg hc (fun g hg => h3 g (by simp [own_mem hg])), owned_chg h.its hc (fun g hg => h3 g (by simp [own_mem hg])), h.bytes.chg hc (fun g hg => h3 g (by simp [hg])), h.lb, h.sm, h.off⟩
theorem Ref.up (h : Ref w s m C F FM dk n vl rv T l) (hc : Up w w1) : Ref w1 s m C F FM dk n vl rv T l := h.chg (S := []) (Chg.of_up hc) (by simp) (by simp) (by simp)
/-- what Letters leaves -/
def Lettered (w : World) (s m : Nat) (C : M6) (F : Int) (FM : M6) (dk : Bool) (n : Int) (vl rv : Value) (l : List Cl) (T' : St) (its : List It) (w' : World) : Prop :=
  ∃ vl' rv' l', Ref w' s m C F FM dk n vl' rv' T' l' ∧ l'.map (·.it) = l.map (·.it) ++ its ∧ Chg [s, m] w w' ∧ ∀ b ∈ own vl' ++ own rv' ++ bys l', b ∈ own vl ++ own rv ++ bys l ∨ w.heap.size ≤ b
theorem Lettered.same (h : Ref w s m C F FM dk n vl rv T l) (hu : Up w w1) : Lettered w s m C F FM dk n vl rv l T [] w1 :=
  ⟨vl, rv, l, h.up hu, by simp, Chg.of_up hu, fun b hb => Or.inl hb⟩
theorem Lettered.moved (h : Ref w s m C F FM dk n vl rv T l) (hu : Up w w1) {v6 : Value} {T' : St} (hs : Path.Segs w1 v6 T'.l) (ho : ∀ b ∈ own v6, b ∈ own vl ∨ w.heap.size ≤ b) (hr : Row w2 s (rsC C F FM dk n v6)) (hc : Chg [s] w1 w2) : Lettered w s m C F FM dk n vl rv l T' [] w2 := by
  have h1 := h.up hu
  have l1 := h.rs.lt
  have l2 := h.rm.lt
  have h6 : ∀ b ∈ own v6, b ≠ s ∧ b ≠ m := fun b hb => by
    rcases ho b hb with h2 | h2
    · exact h.off b (by simp [h2])
    · exact ⟨by omega, by omega⟩
  refine ⟨v6, rv, l, ⟨hr, h1.rm.chg hc (by simpa using h.sm.symm), hs.chg hc (fun g hg => by simpa using (h6 g (own_mem hg)).1), owned_chg h1.its hc (fun g hg => by simpa using (h.off g (by simp [own_mem hg])).1), h1.bytes.chg hc (fun g hg => by simpa using (h.off g (by simp [hg])).1), h.lb, h.sm, ?_⟩, by simp, ?_, ?_⟩
  · intro b hb
    rcases List.mem_append.1 hb with hb | hb
    · rcases List.mem_append.1 hb with hb | hb
      · exact h6 b hb
      · exact h.off b (by simp [hb])
    · exact h.off b (by simp [hb])
  · exact (Chg.of_up (S := [s, m]) hu).call hc (fun k hk => Or.inl (by simp at hk; simp [hk]))
  · intro b hb
    rcases List.mem_append.1 hb with hb | hb
    · rcases List.mem_append.1 hb with hb | hb
      · exact (ho b hb).imp (fun h => by simp [h]) id
      · exact Or.inl (by simp [hb])
    · exact Or.inl (by simp [hb])
theorem Lettered.laid (h : Ref w s m C F FM dk n vl rv T l) (hu : Up w w1) {k : Cl} (h0 : 0 < k.it.bs.length) (hk : Ints .u8 w1 k.bv k.it.bs) (hkn : ∀ b ∈ own k.bv, w.heap.size ≤ b)
    {rv' : Value} (hm : Row w2 m (cvC rv')) (hi : Its w2 rv' (l ++ [k])) (hcm : Chg [m] w1 w2) (hf : ∀ g ∈ own rv', w.heap.size ≤ g)
    {v6 : Value} {T' : St} (hs : Path.Segs w1 v6 T'.l) (ho : ∀ b ∈ own v6, b ∈ own vl ∨ w.heap.size ≤ b) (hr : Row w3 s (rsC C F FM dk n v6)) (hc : Chg [s] w2 w3) : Lettered w s m C F FM dk n vl rv l T' [k.it] w3 := by
  have h1 := h.up hu
  have l1 := h.rs.lt
  have l2 := h.rm.lt
  have h6 : ∀ b ∈ own v6, b ≠ s ∧ b ≠ m := fun b hb => by
    rcases ho b hb with h2 | h2
    · exact h.off b (by simp [h2])
    · exact ⟨by omega, by omega⟩
  have h7 : ∀ b ∈ bys (l ++ [k]), b ≠ s ∧ b ≠ m := fun b hb => by
    rw [bys_append] at hb
    rcases List.mem_append.1 hb with h2 | h2
    · exact h.off b (by simp [h2])
    · have := hkn b (by simpa [bys] using h2)
      exact ⟨by omega, by omega⟩
  have hb1 : Bys w1 (l ++ [k]) := fun k2 hk2 => by
    rcases List.mem_append.1 hk2 with h2 | h2
    · exact h1.bytes k2 h2
    · rw [List.mem_singleton.1 h2]; exact hk
  refine ⟨v6, rv', l ++ [k], ⟨hr, hm.chg hc (by simpa using h.sm.symm), (hs.chg hcm (fun g hg => by simpa using (h6 g (own_mem hg)).2)).chg hc (fun g hg => by simpa using (h6 g (own_mem hg)).1), owned_chg hi hc (fun g hg => by have := hf g (own_mem hg); simp; omega), (hb1.chg hcm (fun g hg => by simpa using (h7 g hg).2)).chg hc (fun g hg => by simpa using (h7 g hg).1), ?_, h.sm, ?_⟩, by simp, ?_, ?_⟩
  · intro k2 hk2
    rcases List.mem_append.1 hk2 with h2 | h2
    · exact h.lb k2 h2
    · rw [List.mem_singleton.1 h2]; exact h0
  · intro b hb
    rcases List.mem_append.1 hb with hb | hb
    · rcases List.mem_append.1 hb with hb | hb
      · exact h6 b hb
      · have := hf b hb
        exact ⟨by omega, by omega⟩
    · exact h7 b hb
  · exact ((Chg.of_up (S := [s, m]) hu).call hcm (fun k hk => Or.inl (by simp at hk; simp [hk]))).call hc (fun k hk => Or.inl (by simp at hk; simp [hk]))
  · intro b hb
    rcases List.mem_append.1 hb with hb | hb
    · rcases List.mem_append.1 hb with hb | hb
      · exact (ho b hb).imp (fun h => by simp [h]) id
      · exact Or.inr (hf b hb)
    · rw [bys_append] at hb
      rcases List.mem_append.1 hb with h2 | h2
      · exact Or.inl (by simp [h2])
      · exact Or.inr (hkn b (by simpa [bys] using h2))
end
theorem rmove_one (b : Nat) (n : Int) (g cap : Nat) (x y tx tz : Int) (w : World) (h : Path.RefIs w b (.slice (some ⟨g, 0, none⟩) 1 cap) n [⟨1, (x, y), Z, Z⟩]) (hf : fitsP (tx, tz) = true) :
    Calls Tryz.prog 22 #[.pointer (some ⟨b, 0, none⟩), .agg #[.int .i64 tx, .int .i64 tz]] w fun E w' => E = .returned (.int .i64 0) ∧ Path.RLeft w b (.slice (some ⟨g, 0, none⟩) 1 cap) n [⟨1, (tx, tz), Z, Z⟩] w' :=
  Path.rmove_on b n g cap 0 [⟨1, (x, y), Z, Z⟩] tx tz w h rfl (by decide) rfl hf
theorem rlay_callsN (m : Nat) (rv : Value) (l : List Cl) (fn : Int) (mm : M6) (ba : Option Addr) (bc N : Nat) (bs : List Int) (hN : bs.length = N) (w : World) (h : Row w m (cvC rv)) (hi : Its w rv l) (hl : l.length < 4096) :
    Calls Tryz.prog 33 #[.pointer (some ⟨m, 0, none⟩), .agg #[.int .i64 4, .slice none 0 0, .int .i64 1, .int .i64 0, .int .i64 0, .int .i64 0, .int .i64 0, .slice none 0 0, .int .i64 0, .int .i64 0, .int .i64 0, .int .i64 0, .slice none 0 0, .int .i64 0, .int .i64 fn, .int .i64 mm.a, .int .i64 mm.b, .int .i64 mm.c, .int .i64 mm.d, .int .i64 mm.x, .int .i64 mm.y, .slice ba N bc]] w fun E w' => E = .returned (.int .i64 0) ∧ ∃ rv', Row w' m (cvC rv') ∧ Its w' rv' (l ++ [⟨⟨fn, mm, bs⟩, none, 0, ba, bc⟩]) ∧ Chg [m] w w' ∧ ∀ g ∈ own rv', w.heap.size ≤ g := by
  subst hN
  exact rlay_calls m rv l fn mm none 0 ba bc bs w h hi hl
theorem info8b : (Tryz.prog.info? 5).map (fun i => (i.zero, i.size, i.bytes)) = some (some (.int .u8 0), 1, 1) := by kernel_rfl
theorem made_by {w : World} {g base : Nat} (e : g = w.heap.size) (hb : base ≤ g) : (w.alloc (.cells #[] 5)).ownsRow base 5 1 (.slice (some ⟨g, 0, none⟩) 0 0) 0 [] := by
  subst e
  exact World.ownsRow_made w #[] 0 hb (by decide) rfl
def byC (zs : List Int) : List Value := zs.map (fun z => .int .u8 z)
theorem byC_one (zs : List Int) : ∀ u ∈ byC zs, u.oneCell' = true := fun u hu => by
  obtain ⟨z, _, rfl⟩ := List.mem_map.1 hu
  rfl
/-- the bytes that are appended, and those that are had -/
theorem by_news {w : World} {a : Option Addr} {N c : Nat} {zs : List Int} (h : Ints .u8 w (.slice a N c) zs) (hN : zs.length = N) : ∀ ad, a = some ad → ∀ j u, (byC zs)[j]? = some u → ∀ w1, Up w w1 → w1.cell? (ad.add j) = some u := by
  intro ad e j u hj w1 hu
  subst e
  have hj2 : j < zs.length := by
    have := (List.getElem?_eq_some_iff.1 hj).1
    simpa [byC] using this
  obtain ⟨ao, c', e, hl, hm, hno, h1, hw⟩ := h.up hu
  injection e with e1 e2 e3
  obtain ⟨g, o, h2, h3, h4⟩ := h1 (by omega)
  subst h2
  injection e1 with e1
  subst e1
  have h5 := h4 j hj2
  have hu2 : u = .int .u8 (zs.getD j 0) := by
    have : (byC zs)[j]? = some (.int .u8 (zs.getD j 0)) := by simp [byC, hj2]
    rw [this] at hj
    injection hj with hj
    exact hj.symm
  rw [hu2, ← h5, Addr.add_mid]
theorem by_none {w : World} {a : Option Addr} {N c : Nat} {zs : List Int} (h : Ints .u8 w (.slice a N c) zs) (hN : zs.length = N) : a = none → N = 0 ∧ c = 0 := by
  intro e
  obtain ⟨ao, c', e2, hl, hm, hno, h1, hw⟩ := h
  injection e2 with e1 e2 e3
  subst e1 e3
  have := hno e
  exact ⟨by rw [e2, this.1]; rfl, this.2⟩
theorem by_had {w : World} {base N n0 : Nat} {v : Value} {zs : List Int} (h : w.ownsRow base 5 1 v n0 (byC zs)) (hn : n0 = N) (hN : zs.length = N) (hw : ∀ z ∈ zs, (Lit.int .u8 z).wf = true) : ∃ a c, v = .slice a N c ∧ Ints .u8 w v zs ∧ ∀ g ∈ own v, base ≤ g := by
  subst hn
  rcases h.2 with ⟨rfl, h2⟩ | ⟨g, cap, cur, rfl, hb, hg, h3, h4, h5, h6⟩
  · have : zs = [] := List.eq_nil_of_length_eq_zero (by omega)
    subst this
    subst h2
    exact ⟨none, 0, rfl, ints_nil _ _, fun g hg => by simp [own, Value.ownBlock] at hg⟩
  · refine ⟨some ⟨g, 0, none⟩, cap, rfl, ?_, fun g' hg' => by simp [own, Value.ownBlock] at hg'; omega⟩
    rw [← hN]
    refine ⟨some ⟨g, 0, none⟩, cap, rfl, by omega, by unfold maxLen at h4; exact h4, fun e => (by cases e), fun h0 => ⟨g, 0, rfl, (Array.getElem?_eq_some_iff.1 hg).1, fun i hi => ?_⟩, hw⟩
    have hc := (h : World.ownsRow _ _ _ _ _ _ _).cellAt i (by omega)
    rw [Nat.zero_add, hc]
    simp [byC, hi]

end Go.Proofs.YtjdbefpfjhdmoaaGreatDoor.Sh
end

section
namespace Go.Proofs.YtjdbefpfjhdmoaaGreatDoor.Sh
open Go.Proofs.YtjdbefpfjhdmoaaGreatDoor.ZGD
open Go.ChangeShapes Go.WideShapes Go.ChangeAt Go.RowKit
open Go.Proofs.YtjdbefpfjhdmoaaGreatDoor.Gs
open Go.Proofs.YtjdbefpfjhdmoaaGreatDoor.FixM (fits)
open Go.Proofs.YtjdbefpfjhdmoaaGreatDoor.MatM (M6 concat)
open Go.Proofs.YtjdbefpfjhdmoaaGreatDoor.PathM
set_option linter.unusedVariables false
set_option linter.unusedSimpArgs false

set_option maxRecDepth 8000 in
set_option maxHeartbeats 4000000 in
theorem rlet_nofont (s m : Nat) (C : M6) (F : Int) (FM : M6) (dk : Bool) (n : Int) (g cap : Nat) (rv : Value) (l : List Cl) (x y : Int) (ba : Option Addr) (bc N : Nat) (bs : List Int) (w : World) (h : Ref w s m C F FM dk n (.slice (some ⟨g, 0, none⟩) 1 cap) rv (T1 n x y) l)
    (hN : bs.length = N) (hv : Ints .u8 w (.slice ba N bc) bs) (hl : N ≤ 65535) (hF : decide (F < 0) = true) :
    Calls Tryz.prog 8 #[.pointer (some ⟨m, 0, none⟩), .pointer (some ⟨s, 0, none⟩), .slice ba N bc] w fun E w' => E = .returned (.int .i64 7) ∧ Up w w' := by
  have HH := Lib.hid h
  have HR := Lib.hid h.rs
  have HSG := Lib.hid (show Path.Segs w (.slice (some ⟨g, 0, none⟩) ([⟨1, (x, y), Z, Z⟩] : List Seg).length cap) [⟨1, (x, y), Z, Z⟩] from h.sg)
  have HV := Lib.hid hv
  have HN := Lib.hid hN
  have q27 : w.cell? ⟨s, 27, none⟩ = some (.slice (some ⟨g, 0, none⟩) 1 cap) := h.rs.cell 27 rfl
  have HQ := Lib.hid q27
  have ls := h.rs.lt
  have lm := h.rm.lt
  have HSM := Lib.hid h.sm
  have tl : decide ((65535 : Int) < (N : Int)) = false := decide_eq_false (by omega)
  clear h hv hN
  go_enter Tryz.func8, Tryz.ntmps8
  go_wp2_with (first
    | (go_at_call 29; ((with_reducible refine (Path.rcurs_calls s g cap x y _ (by first | assumption | (simp; omega)) HQ.out (HSG.out.chg (S := []) (Chg.of_up (by exact ua)) (by simp))).mono ?_); rintro E w1 ⟨rfl, hu1⟩; have z1 := hu1.size; (try simp at z1); have RS_w1 : Row w1 s (rsC C F FM dk n (.slice (some ⟨g, 0, none⟩) 1 cap)) := HR.out.up (by exact ua); have lS_w1 := RS_w1.lt; have cS_w1_17 : w1.cell? ⟨s, 17, none⟩ = some (.int .i64 F) := RS_w1.cell 17 rfl; have fS_w1_17 := RS_w1.free 17; have ls_w1 := RS_w1.lt; have ls1_w1 : s < w1.heap.size + 1 := Nat.lt_succ_of_lt ls_w1; have ls2_w1 : s < w1.heap.size + 1 + 1 := Nat.lt_succ_of_lt ls1_w1)))
  go_ret
  exact ⟨rfl, (show Chg [] w _ by (repeat' (first | (with_reducible first | exact Chg.refl _ _ | assumption | refine Chg.alloc ?_ _ | refine Chg.drew ?_ | refine Chg.drewN ?_ _ | refine Chg.setCell ?_ ?_ _ | refine Chg.upc ?_ (by assumption) | refine Chg.call ?_ (by assumption) ?_) | (refine Or.inl ?_; (simp; done)) | (simp; done) | (simp; omega) | omega))).up⟩
set_option maxRecDepth 8000 in
set_option maxHeartbeats 4000000 in
theorem rlet_far (s m : Nat) (C : M6) (F : Int) (FM : M6) (dk : Bool) (n : Int) (g cap : Nat) (rv : Value) (l : List Cl) (x y : Int) (ba : Option Addr) (bc N : Nat) (bs : List Int) (w : World) (h : Ref w s m C F FM dk n (.slice (some ⟨g, 0, none⟩) 1 cap) rv (T1 n x y) l)
    (hN : bs.length = N) (hv : Ints .u8 w (.slice ba N bc) bs) (hl : N ≤ 65535)  (hF : decide (F < 0) = false) (bx bz e : Int) (hB : farR F FM bs = ((bx, bz), e)) (he : e ≠ 0) :
    Calls Tryz.prog 8 #[.pointer (some ⟨m, 0, none⟩), .pointer (some ⟨s, 0, none⟩), .slice ba N bc] w fun E w' => E = .returned (.int .i64 e) ∧ Up w w' := by
  have HH := Lib.hid h
  have HR := Lib.hid h.rs
  have HSG := Lib.hid (show Path.Segs w (.slice (some ⟨g, 0, none⟩) ([⟨1, (x, y), Z, Z⟩] : List Seg).length cap) [⟨1, (x, y), Z, Z⟩] from h.sg)
  have HV := Lib.hid hv
  have HN := Lib.hid hN
  have q27 : w.cell? ⟨s, 27, none⟩ = some (.slice (some ⟨g, 0, none⟩) 1 cap) := h.rs.cell 27 rfl
  have HQ := Lib.hid q27
  have ls := h.rs.lt
  have lm := h.rm.lt
  have HSM := Lib.hid h.sm
  have tl : decide ((65535 : Int) < (N : Int)) = false := decide_eq_false (by omega)
  clear h hv hN
  have HB := Lib.hid hB
  clear hB
  have t0 : (e == 0) = false := by simpa using he
  clear he
  go_enter Tryz.func8, Tryz.ntmps8
  go_wp2_with (first
    | (go_at_call 29; ((with_reducible refine (Path.rcurs_calls s g cap x y _ (by first | assumption | (simp; omega)) HQ.out (HSG.out.chg (S := []) (Chg.of_up (by exact ua)) (by simp))).mono ?_); rintro E w1 ⟨rfl, hu1⟩; have z1 := hu1.size; (try simp at z1); have RS_w1 : Row w1 s (rsC C F FM dk n (.slice (some ⟨g, 0, none⟩) 1 cap)) := HR.out.up (by exact ua); have lS_w1 := RS_w1.lt; have cS_w1_17 : w1.cell? ⟨s, 17, none⟩ = some (.int .i64 F) := RS_w1.cell 17 rfl; have fS_w1_17 := RS_w1.free 17; have ls_w1 := RS_w1.lt; have ls1_w1 : s < w1.heap.size + 1 := Nat.lt_succ_of_lt ls_w1; have ls2_w1 : s < w1.heap.size + 1 + 1 := Nat.lt_succ_of_lt ls1_w1))
    | (go_at_call 30; ((with_reducible refine (rfar_calls s C F FM dk n _ (.slice ba N bc) bs _ (HR.out.up (show Chg [] w _ from (by (repeat' (first | (with_reducible first | exact Chg.refl _ _ | assumption | refine Chg.alloc ?_ _ | refine Chg.drew ?_ | refine Chg.drewN ?_ _ | refine Chg.setCell ?_ ?_ _ | refine Chg.upc ?_ (by assumption) | refine Chg.call ?_ (by assumption) ?_) | (refine Or.inl ?_; (simp; done)) | (simp; done) | (simp; omega) | omega)))).up) (HV.out.up (show Chg [] w _ from (by (repeat' (first | (with_reducible first | exact Chg.refl _ _ | assumption | refine Chg.alloc ?_ _ | refine Chg.drew ?_ | refine Chg.drewN ?_ _ | refine Chg.setCell ?_ ?_ _ | refine Chg.upc ?_ (by assumption) | refine Chg.call ?_ (by assumption) ?_) | (refine Or.inl ?_; (simp; done)) | (simp; done) | (simp; omega) | omega)))).up) (by have := HN.out; omega)).mono ?_); rw [HB.out]; rintro E w3 ⟨rfl, hu3⟩; have z3 := hu3.size; (try simp at z3); have R7_w3 : Row w3 w1.heap.size #[.int .i64 x, .int .i64 y] := Row.up (show Row _ w1.heap.size #[.int .i64 x, .int .i64 y] from (by exact ra)) hu3; have l7_w3 := R7_w3.lt; have c7_w3_0 : w3.cell? ⟨w1.heap.size, 0, none⟩ = some (.int .i64 x) := R7_w3.cell 0 rfl; have f7_w3_0 := R7_w3.free 0; have c7_w3_1 : w3.cell? ⟨w1.heap.size, 1, none⟩ = some (.int .i64 y) := R7_w3.cell 1 rfl; have f7_w3_1 := R7_w3.free 1; skip)))
  go_ret
  exact ⟨rfl, (show Chg [] w _ by (repeat' (first | (with_reducible first | exact Chg.refl _ _ | assumption | refine Chg.alloc ?_ _ | refine Chg.drew ?_ | refine Chg.drewN ?_ _ | refine Chg.setCell ?_ ?_ _ | refine Chg.upc ?_ (by assumption) | refine Chg.call ?_ (by assumption) ?_) | (refine Or.inl ?_; (simp; done)) | (simp; done) | (simp; omega) | omega))).up⟩
set_option maxRecDepth 8000 in
set_option maxHeartbeats 4000000 in
theorem rlet_mov (s m : Nat) (C : M6) (F : Int) (FM : M6) (dk : Bool) (n : Int) (g cap : Nat) (rv : Value) (l : List Cl) (x y : Int) (ba : Option Addr) (bc N : Nat) (bs : List Int) (w : World) (h : Ref w s m C F FM dk n (.slice (some ⟨g, 0, none⟩) 1 cap) rv (T1 n x y) l)
    (hN : bs.length = N) (hv : Ints .u8 w (.slice ba N bc) bs) (hl : N ≤ 65535)  (hF : decide (F < 0) = false) (bx bz tx tz e : Int) (hB : farR F FM bs = ((bx, bz), 0)) (hM : movedR C x y bx bz = ((tx, tz), e)) (he : e ≠ 0) :
    Calls Tryz.prog 8 #[.pointer (some ⟨m, 0, none⟩), .pointer (some ⟨s, 0, none⟩), .slice ba N bc] w fun E w' => E = .returned (.int .i64 e) ∧ Up w w' := by
  have HH := Lib.hid h
  have HR := Lib.hid h.rs
  have HSG := Lib.hid (show Path.Segs w (.slice (some ⟨g, 0, none⟩) ([⟨1, (x, y), Z, Z⟩] : List Seg).length cap) [⟨1, (x, y), Z, Z⟩] from h.sg)
  have HV := Lib.hid hv
  have HN := Lib.hid hN
  have q27 : w.cell? ⟨s, 27, none⟩ = some (.slice (some ⟨g, 0, none⟩) 1 cap) := h.rs.cell 27 rfl
  have HQ := Lib.hid q27
  have ls := h.rs.lt
  have lm := h.rm.lt
  have HSM := Lib.hid h.sm
  have tl : decide ((65535 : Int) < (N : Int)) = false := decide_eq_false (by omega)
  clear h hv hN
  have HB := Lib.hid hB
  clear hB
  have HM := Lib.hid hM
  clear hM
  have t0 : (e == 0) = false := by simpa using he
  clear he
  go_enter Tryz.func8, Tryz.ntmps8
  go_wp2_with (first
    | (go_at_call 29; ((with_reducible refine (Path.rcurs_calls s g cap x y _ (by first | assumption | (simp; omega)) HQ.out (HSG.out.chg (S := []) (Chg.of_up (by exact ua)) (by simp))).mono ?_); rintro E w1 ⟨rfl, hu1⟩; have z1 := hu1.size; (try simp at z1); have RS_w1 : Row w1 s (rsC C F FM dk n (.slice (some ⟨g, 0, none⟩) 1 cap)) := HR.out.up (by exact ua); have lS_w1 := RS_w1.lt; have cS_w1_17 : w1.cell? ⟨s, 17, none⟩ = some (.int .i64 F) := RS_w1.cell 17 rfl; have fS_w1_17 := RS_w1.free 17; have ls_w1 := RS_w1.lt; have ls1_w1 : s < w1.heap.size + 1 := Nat.lt_succ_of_lt ls_w1; have ls2_w1 : s < w1.heap.size + 1 + 1 := Nat.lt_succ_of_lt ls1_w1))
    | (go_at_call 30; ((with_reducible refine (rfar_calls s C F FM dk n _ (.slice ba N bc) bs _ (HR.out.up (show Chg [] w _ from (by (repeat' (first | (with_reducible first | exact Chg.refl _ _ | assumption | refine Chg.alloc ?_ _ | refine Chg.drew ?_ | refine Chg.drewN ?_ _ | refine Chg.setCell ?_ ?_ _ | refine Chg.upc ?_ (by assumption) | refine Chg.call ?_ (by assumption) ?_) | (refine Or.inl ?_; (simp; done)) | (simp; done) | (simp; omega) | omega)))).up) (HV.out.up (show Chg [] w _ from (by (repeat' (first | (with_reducible first | exact Chg.refl _ _ | assumption | refine Chg.alloc ?_ _ | refine Chg.drew ?_ | refine Chg.drewN ?_ _ | refine Chg.setCell ?_ ?_ _ | refine Chg.upc ?_ (by assumption) | refine Chg.call ?_ (by assumption) ?_) | (refine Or.inl ?_; (simp; done)) | (simp; done) | (simp; omega) | omega)))).up) (by have := HN.out; omega)).mono ?_); rw [HB.out]; rintro E w3 ⟨rfl, hu3⟩; have z3 := hu3.size; (try simp at z3); have R7_w3 : Row w3 w1.heap.size #[.int .i64 x, .int .i64 y] := Row.up (show Row _ w1.heap.size #[.int .i64 x, .int .i64 y] from (by exact ra)) hu3; have l7_w3 := R7_w3.lt; have c7_w3_0 : w3.cell? ⟨w1.heap.size, 0, none⟩ = some (.int .i64 x) := R7_w3.cell 0 rfl; have f7_w3_0 := R7_w3.free 0; have c7_w3_1 : w3.cell? ⟨w1.heap.size, 1, none⟩ = some (.int .i64 y) := R7_w3.cell 1 rfl; have f7_w3_1 := R7_w3.free 1; skip))
    | (go_at_call 31; ((with_reducible refine (led_calls s C F FM dk n _ x y bx bz _ (HR.out.up (show Chg [] w _ from (by (repeat' (first | (with_reducible first | exact Chg.refl _ _ | assumption | refine Chg.alloc ?_ _ | refine Chg.drew ?_ | refine Chg.drewN ?_ _ | refine Chg.setCell ?_ ?_ _ | refine Chg.upc ?_ (by assumption) | refine Chg.call ?_ (by assumption) ?_) | (refine Or.inl ?_; (simp; done)) | (simp; done) | (simp; omega) | omega)))).up)).mono ?_); rw [HM.out]; rintro E w4 ⟨rfl, hu4⟩; have z4 := hu4.size; (try simp at z4); have R7_w4 : Row w4 w1.heap.size #[.int .i64 x, .int .i64 y] := Row.up (show Row _ w1.heap.size #[.int .i64 x, .int .i64 y] from (by exact ra)) hu4; have l7_w4 := R7_w4.lt; have c7_w4_0 : w4.cell? ⟨w1.heap.size, 0, none⟩ = some (.int .i64 x) := R7_w4.cell 0 rfl; have f7_w4_0 := R7_w4.free 0; have c7_w4_1 : w4.cell? ⟨w1.heap.size, 1, none⟩ = some (.int .i64 y) := R7_w4.cell 1 rfl; have f7_w4_1 := R7_w4.free 1; have R9_w4 : Row w4 w3.heap.size #[.int .i64 bx, .int .i64 bz] := Row.up (show Row _ w3.heap.size #[.int .i64 bx, .int .i64 bz] from (by exact ra)) hu4; have l9_w4 := R9_w4.lt; have c9_w4_0 : w4.cell? ⟨w3.heap.size, 0, none⟩ = some (.int .i64 bx) := R9_w4.cell 0 rfl; have f9_w4_0 := R9_w4.free 0; have c9_w4_1 : w4.cell? ⟨w3.heap.size, 1, none⟩ = some (.int .i64 bz) := R9_w4.cell 1 rfl; have f9_w4_1 := R9_w4.free 1; have RS_w4 : Row w4 s (rsC C F FM dk n (.slice (some ⟨g, 0, none⟩) 1 cap)) := HR.out.up (show Chg [] w _ from (by (repeat' (first | (with_reducible first | exact Chg.refl _ _ | assumption | refine Chg.alloc ?_ _ | refine Chg.drew ?_ | refine Chg.drewN ?_ _ | refine Chg.setCell ?_ ?_ _ | refine Chg.upc ?_ (by assumption) | refine Chg.call ?_ (by assumption) ?_) | (refine Or.inl ?_; (simp; done)) | (simp; done) | (simp; omega) | omega)))).up; have lS_w4 := RS_w4.lt; have cS_w4_26 : w4.cell? ⟨s, 26, none⟩ = some (.int .i64 n) := RS_w4.cell 26 rfl; have fS_w4_26 := RS_w4.free 26; have cS_w4_27 : w4.cell? ⟨s, 27, none⟩ = some (.slice (some ⟨g, 0, none⟩) 1 cap) := RS_w4.cell 27 rfl; have fS_w4_27 := RS_w4.free 27; have ls_w4 := RS_w4.lt; have ls1_w4 : s < w4.heap.size + 1 := Nat.lt_succ_of_lt ls_w4; have ls2_w4 : s < w4.heap.size + 1 + 1 := Nat.lt_succ_of_lt ls1_w4)))
  go_ret
  exact ⟨rfl, (show Chg [] w _ by (repeat' (first | (with_reducible first | exact Chg.refl _ _ | assumption | refine Chg.alloc ?_ _ | refine Chg.drew ?_ | refine Chg.drewN ?_ _ | refine Chg.setCell ?_ ?_ _ | refine Chg.upc ?_ (by assumption) | refine Chg.call ?_ (by assumption) ?_) | (refine Or.inl ?_; (simp; done)) | (simp; done) | (simp; omega) | omega))).up⟩
set_option maxRecDepth 8000 in
set_option maxHeartbeats 4000000 in
theorem rlet_empty (s m : Nat) (C : M6) (F : Int) (FM : M6) (dk : Bool) (n : Int) (g cap : Nat) (rv : Value) (l : List Cl) (x y : Int) (ba : Option Addr) (bc N : Nat) (bs : List Int) (w : World) (h : Ref w s m C F FM dk n (.slice (some ⟨g, 0, none⟩) 1 cap) rv (T1 n x y) l)
    (hN : bs.length = N) (hv : Ints .u8 w (.slice ba N bc) bs) (hl : N ≤ 65535)  (hF : decide (F < 0) = false) (bx bz tx tz : Int) (hB : farR F FM bs = ((bx, bz), 0)) (hM : movedR C x y bx bz = ((tx, tz), 0)) (hfp : fitsP (tx, tz) = true) (h0 : N = 0) :
    Calls Tryz.prog 8 #[.pointer (some ⟨m, 0, none⟩), .pointer (some ⟨s, 0, none⟩), .slice ba N bc] w fun E w' => E = .returned (.int .i64 0) ∧ Lettered w s m C F FM dk n (.slice (some ⟨g, 0, none⟩) 1 cap) rv l (T1 n tx tz) [] w' := by
  have HH := Lib.hid h
  have HR := Lib.hid h.rs
  have HSG := Lib.hid (show Path.Segs w (.slice (some ⟨g, 0, none⟩) ([⟨1, (x, y), Z, Z⟩] : List Seg).length cap) [⟨1, (x, y), Z, Z⟩] from h.sg)
  have HV := Lib.hid hv
  have HN := Lib.hid hN
  have q27 : w.cell? ⟨s, 27, none⟩ = some (.slice (some ⟨g, 0, none⟩) 1 cap) := h.rs.cell 27 rfl
  have HQ := Lib.hid q27
  have ls := h.rs.lt
  have lm := h.rm.lt
  have HSM := Lib.hid h.sm
  have tl : decide ((65535 : Int) < (N : Int)) = false := decide_eq_false (by omega)
  clear h hv hN
  have HB := Lib.hid hB
  clear hB
  have HM := Lib.hid hM
  clear hM
  have HTF := Lib.hid hfp
  clear hfp
  have t1 : decide ((0 : Int) < (N : Int)) = false := decide_eq_false (by omega)
  have t2 : decide (0 < N) = false := decide_eq_false (by omega)
  clear h0
  go_enter Tryz.func8, Tryz.ntmps8
  go_wp2_with (first
    | (go_at_call 29; ((with_reducible refine (Path.rcurs_calls s g cap x y _ (by first | assumption | (simp; omega)) HQ.out (HSG.out.chg (S := []) (Chg.of_up (by exact ua)) (by simp))).mono ?_); rintro E w1 ⟨rfl, hu1⟩; have z1 := hu1.size; (try simp at z1); have RS_w1 : Row w1 s (rsC C F FM dk n (.slice (some ⟨g, 0, none⟩) 1 cap)) := HR.out.up (by exact ua); have lS_w1 := RS_w1.lt; have cS_w1_17 : w1.cell? ⟨s, 17, none⟩ = some (.int .i64 F) := RS_w1.cell 17 rfl; have fS_w1_17 := RS_w1.free 17; have ls_w1 := RS_w1.lt; have ls1_w1 : s < w1.heap.size + 1 := Nat.lt_succ_of_lt ls_w1; have ls2_w1 : s < w1.heap.size + 1 + 1 := Nat.lt_succ_of_lt ls1_w1))
    | (go_at_call 30; ((with_reducible refine (rfar_calls s C F FM dk n _ (.slice ba N bc) bs _ (HR.out.up (show Chg [] w _ from (by (repeat' (first | (with_reducible first | exact Chg.refl _ _ | assumption | refine Chg.alloc ?_ _ | refine Chg.drew ?_ | refine Chg.drewN ?_ _ | refine Chg.setCell ?_ ?_ _ | refine Chg.upc ?_ (by assumption) | refine Chg.call ?_ (by assumption) ?_) | (refine Or.inl ?_; (simp; done)) | (simp; done) | (simp; omega) | omega)))).up) (HV.out.up (show Chg [] w _ from (by (repeat' (first | (with_reducible first | exact Chg.refl _ _ | assumption | refine Chg.alloc ?_ _ | refine Chg.drew ?_ | refine Chg.drewN ?_ _ | refine Chg.setCell ?_ ?_ _ | refine Chg.upc ?_ (by assumption) | refine Chg.call ?_ (by assumption) ?_) | (refine Or.inl ?_; (simp; done)) | (simp; done) | (simp; omega) | omega)))).up) (by have := HN.out; omega)).mono ?_); rw [HB.out]; rintro E w3 ⟨rfl, hu3⟩; have z3 := hu3.size; (try simp at z3); have R7_w3 : Row w3 w1.heap.size #[.int .i64 x, .int .i64 y] := Row.up (show Row _ w1.heap.size #[.int .i64 x, .int .i64 y] from (by exact ra)) hu3; have l7_w3 := R7_w3.lt; have c7_w3_0 : w3.cell? ⟨w1.heap.size, 0, none⟩ = some (.int .i64 x) := R7_w3.cell 0 rfl; have f7_w3_0 := R7_w3.free 0; have c7_w3_1 : w3.cell? ⟨w1.heap.size, 1, none⟩ = some (.int .i64 y) := R7_w3.cell 1 rfl; have f7_w3_1 := R7_w3.free 1; skip))
    | (go_at_call 31; ((with_reducible refine (led_calls s C F FM dk n _ x y bx bz _ (HR.out.up (show Chg [] w _ from (by (repeat' (first | (with_reducible first | exact Chg.refl _ _ | assumption | refine Chg.alloc ?_ _ | refine Chg.drew ?_ | refine Chg.drewN ?_ _ | refine Chg.setCell ?_ ?_ _ | refine Chg.upc ?_ (by assumption) | refine Chg.call ?_ (by assumption) ?_) | (refine Or.inl ?_; (simp; done)) | (simp; done) | (simp; omega) | omega)))).up)).mono ?_); rw [HM.out]; rintro E w4 ⟨rfl, hu4⟩; have z4 := hu4.size; (try simp at z4); have R7_w4 : Row w4 w1.heap.size #[.int .i64 x, .int .i64 y] := Row.up (show Row _ w1.heap.size #[.int .i64 x, .int .i64 y] from (by exact ra)) hu4; have l7_w4 := R7_w4.lt; have c7_w4_0 : w4.cell? ⟨w1.heap.size, 0, none⟩ = some (.int .i64 x) := R7_w4.cell 0 rfl; have f7_w4_0 := R7_w4.free 0; have c7_w4_1 : w4.cell? ⟨w1.heap.size, 1, none⟩ = some (.int .i64 y) := R7_w4.cell 1 rfl; have f7_w4_1 := R7_w4.free 1; have R9_w4 : Row w4 w3.heap.size #[.int .i64 bx, .int .i64 bz] := Row.up (show Row _ w3.heap.size #[.int .i64 bx, .int .i64 bz] from (by exact ra)) hu4; have l9_w4 := R9_w4.lt; have c9_w4_0 : w4.cell? ⟨w3.heap.size, 0, none⟩ = some (.int .i64 bx) := R9_w4.cell 0 rfl; have f9_w4_0 := R9_w4.free 0; have c9_w4_1 : w4.cell? ⟨w3.heap.size, 1, none⟩ = some (.int .i64 bz) := R9_w4.cell 1 rfl; have f9_w4_1 := R9_w4.free 1; have RS_w4 : Row w4 s (rsC C F FM dk n (.slice (some ⟨g, 0, none⟩) 1 cap)) := HR.out.up (show Chg [] w _ from (by (repeat' (first | (with_reducible first | exact Chg.refl _ _ | assumption | refine Chg.alloc ?_ _ | refine Chg.drew ?_ | refine Chg.drewN ?_ _ | refine Chg.setCell ?_ ?_ _ | refine Chg.upc ?_ (by assumption) | refine Chg.call ?_ (by assumption) ?_) | (refine Or.inl ?_; (simp; done)) | (simp; done) | (simp; omega) | omega)))).up; have lS_w4 := RS_w4.lt; have cS_w4_26 : w4.cell? ⟨s, 26, none⟩ = some (.int .i64 n) := RS_w4.cell 26 rfl; have fS_w4_26 := RS_w4.free 26; have cS_w4_27 : w4.cell? ⟨s, 27, none⟩ = some (.slice (some ⟨g, 0, none⟩) 1 cap) := RS_w4.cell 27 rfl; have fS_w4_27 := RS_w4.free 27; have ls_w4 := RS_w4.lt; have ls1_w4 : s < w4.heap.size + 1 := Nat.lt_succ_of_lt ls_w4; have ls2_w4 : s < w4.heap.size + 1 + 1 := Nat.lt_succ_of_lt ls1_w4))
    | (go_at_call 22; ((with_reducible refine (rmove_one (w4.heap.size + 1) n g cap x y tx tz _ ⟨(show Row _ (w4.heap.size + 1) #[.int .i64 n, .slice (some ⟨g, 0, none⟩) 1 cap] from (by first | exact ra | exact (by exact ro))), HSG.out.chg (S := []) (show Chg [] w _ from (by (repeat' (first | (with_reducible first | exact Chg.refl _ _ | assumption | refine Chg.alloc ?_ _ | refine Chg.drew ?_ | refine Chg.drewN ?_ _ | refine Chg.setCell ?_ ?_ _ | refine Chg.upc ?_ (by assumption) | refine Chg.call ?_ (by assumption) ?_) | (refine Or.inl ?_; (simp; done)) | (simp; done) | (simp; omega) | omega)))) (by simp), (by simp)⟩ HTF.out).mono ?_); rintro E w6 ⟨rfl, hl6⟩; (obtain ⟨v6, hq6, hc6, ho6⟩ := hl6); (obtain ⟨a6, cap6, e6⟩ := Path.Segs.val hq6.segs); subst e6; have HU6 := Lib.hid (show Up w w6 from ((show Chg [] w _ by (repeat' (first | (with_reducible first | exact Chg.refl _ _ | assumption | refine Chg.alloc ?_ _ | refine Chg.drew ?_ | refine Chg.drewN ?_ _ | refine Chg.setCell ?_ ?_ _ | refine Chg.upc ?_ (by assumption) | refine Chg.call ?_ (by assumption) ?_) | (refine Or.inl ?_; (simp; done)) | (simp; done) | (simp; omega) | omega))).call hc6 (fun k hk => Or.inr (by simp at hk; omega))).up); have z6 := hc6.size; (try simp at z6); have R7_w6 : Row w6 w1.heap.size #[.int .i64 x, .int .i64 y] := Row.chg (show Row _ w1.heap.size #[.int .i64 x, .int .i64 y] from (by exact ra)) hc6 (by first | (simp; done) | (simp; omega)); have l7_w6 := R7_w6.lt; have c7_w6_0 : w6.cell? ⟨w1.heap.size, 0, none⟩ = some (.int .i64 x) := R7_w6.cell 0 rfl; have f7_w6_0 := R7_w6.free 0; have c7_w6_1 : w6.cell? ⟨w1.heap.size, 1, none⟩ = some (.int .i64 y) := R7_w6.cell 1 rfl; have f7_w6_1 := R7_w6.free 1; have R12_w6 : Row w6 (w4.heap.size + 1) #[.int .i64 n, .slice a6 1 cap6] := hq6.row; have l12_w6 := R12_w6.lt; have c12_w6_0 : w6.cell? ⟨w4.heap.size + 1, 0, none⟩ = some (.int .i64 n) := R12_w6.cell 0 rfl; have f12_w6_0 := R12_w6.free 0; have c12_w6_1 : w6.cell? ⟨w4.heap.size + 1, 1, none⟩ = some (.slice a6 1 cap6) := R12_w6.cell 1 rfl; have f12_w6_1 := R12_w6.free 1; have RS_w6 : Row w6 s (rsC C F FM dk n (.slice (some ⟨g, 0, none⟩) 1 cap)) := HR.out.up HU6.out; have lS_w6 := RS_w6.lt; have cS_w6_25 : w6.cell? ⟨s, 25, none⟩ = some (.bool dk) := RS_w6.cell 25 rfl; have fS_w6_25 := RS_w6.free 25; have cS_w6_26 : w6.cell? ⟨s, 26, none⟩ = some (.int .i64 n) := RS_w6.cell 26 rfl; have fS_w6_26 := RS_w6.free 26; have cS_w6_27 : w6.cell? ⟨s, 27, none⟩ = some (.slice (some ⟨g, 0, none⟩) 1 cap) := RS_w6.cell 27 rfl; have fS_w6_27 := RS_w6.free 27; have ls_w6 := RS_w6.lt; have ls1_w6 : s < w6.heap.size + 1 := Nat.lt_succ_of_lt ls_w6; have ls2_w6 : s < w6.heap.size + 1 + 1 := Nat.lt_succ_of_lt ls1_w6; have HSG6 := Lib.hid hq6.segs; have HO6 := Lib.hid (show ∀ b ∈ own (.slice a6 1 cap6), b ∈ own (.slice (some ⟨g, 0, none⟩) 1 cap) ∨ w.heap.size ≤ b from fun b hb => (ho6 b (own_of hb)).imp own_mem (fun h => by have := z4; have := z3; simp at h; omega)); clear hq6 ho6)))
  go_ret
  refine ⟨rfl, Lettered.moved HH.out HU6.out (v6 := .slice a6 1 cap6) HSG6.out HO6.out (show Row _ s (rsC C F FM dk n (.slice a6 1 cap6)) from (by exact ro)) ?_⟩
  exact ((Chg.refl [s] w6).setCell (Or.inl (by simp)) _).setCell (Or.inl (by simp)) _
set_option maxRecDepth 8000 in
set_option maxHeartbeats 4000000 in
theorem rlet_dark (s m : Nat) (C : M6) (F : Int) (FM : M6) (dk : Bool) (n : Int) (g cap : Nat) (rv : Value) (l : List Cl) (x y : Int) (ba : Option Addr) (bc N : Nat) (bs : List Int) (w : World) (h : Ref w s m C F FM dk n (.slice (some ⟨g, 0, none⟩) 1 cap) rv (T1 n x y) l)
    (hN : bs.length = N) (hv : Ints .u8 w (.slice ba N bc) bs) (hl : N ≤ 65535)  (hF : decide (F < 0) = false) (bx bz tx tz : Int) (hB : farR F FM bs = ((bx, bz), 0)) (hM : movedR C x y bx bz = ((tx, tz), 0)) (hfp : fitsP (tx, tz) = true) (h0 : 0 < N) (hd : dk = true) :
    Calls Tryz.prog 8 #[.pointer (some ⟨m, 0, none⟩), .pointer (some ⟨s, 0, none⟩), .slice ba N bc] w fun E w' => E = .returned (.int .i64 0) ∧ Lettered w s m C F FM dk n (.slice (some ⟨g, 0, none⟩) 1 cap) rv l (T1 n tx tz) [] w' := by
  have HH := Lib.hid h
  have HR := Lib.hid h.rs
  have HSG := Lib.hid (show Path.Segs w (.slice (some ⟨g, 0, none⟩) ([⟨1, (x, y), Z, Z⟩] : List Seg).length cap) [⟨1, (x, y), Z, Z⟩] from h.sg)
  have HV := Lib.hid hv
  have HN := Lib.hid hN
  have q27 : w.cell? ⟨s, 27, none⟩ = some (.slice (some ⟨g, 0, none⟩) 1 cap) := h.rs.cell 27 rfl
  have HQ := Lib.hid q27
  have ls := h.rs.lt
  have lm := h.rm.lt
  have HSM := Lib.hid h.sm
  have tl : decide ((65535 : Int) < (N : Int)) = false := decide_eq_false (by omega)
  clear h hv hN
  subst hd
  have HB := Lib.hid hB
  clear hB
  have HM := Lib.hid hM
  clear hM
  have HTF := Lib.hid hfp
  clear hfp
  have t1 : decide ((0 : Int) < (N : Int)) = true := decide_eq_true (by omega)
  have t2 : decide (0 < N) = true := decide_eq_true (by omega)
  go_enter Tryz.func8, Tryz.ntmps8
  go_wp2_with (first
    | (go_at_call 29; ((with_reducible refine (Path.rcurs_calls s g cap x y _ (by first | assumption | (simp; omega)) HQ.out (HSG.out.chg (S := []) (Chg.of_up (by exact ua)) (by simp))).mono ?_); rintro E w1 ⟨rfl, hu1⟩; have z1 := hu1.size; (try simp at z1); have RS_w1 : Row w1 s (rsC C F FM true n (.slice (some ⟨g, 0, none⟩) 1 cap)) := HR.out.up (by exact ua); have lS_w1 := RS_w1.lt; have cS_w1_17 : w1.cell? ⟨s, 17, none⟩ = some (.int .i64 F) := RS_w1.cell 17 rfl; have fS_w1_17 := RS_w1.free 17; have ls_w1 := RS_w1.lt; have ls1_w1 : s < w1.heap.size + 1 := Nat.lt_succ_of_lt ls_w1; have ls2_w1 : s < w1.heap.size + 1 + 1 := Nat.lt_succ_of_lt ls1_w1))
    | (go_at_call 30; ((with_reducible refine (rfar_calls s C F FM true n _ (.slice ba N bc) bs _ (HR.out.up (show Chg [] w _ from (by (repeat' (first | (with_reducible first | exact Chg.refl _ _ | assumption | refine Chg.alloc ?_ _ | refine Chg.drew ?_ | refine Chg.drewN ?_ _ | refine Chg.setCell ?_ ?_ _ | refine Chg.upc ?_ (by assumption) | refine Chg.call ?_ (by assumption) ?_) | (refine Or.inl ?_; (simp; done)) | (simp; done) | (simp; omega) | omega)))).up) (HV.out.up (show Chg [] w _ from (by (repeat' (first | (with_reducible first | exact Chg.refl _ _ | assumption | refine Chg.alloc ?_ _ | refine Chg.drew ?_ | refine Chg.drewN ?_ _ | refine Chg.setCell ?_ ?_ _ | refine Chg.upc ?_ (by assumption) | refine Chg.call ?_ (by assumption) ?_) | (refine Or.inl ?_; (simp; done)) | (simp; done) | (simp; omega) | omega)))).up) (by have := HN.out; omega)).mono ?_); rw [HB.out]; rintro E w3 ⟨rfl, hu3⟩; have z3 := hu3.size; (try simp at z3); have R7_w3 : Row w3 w1.heap.size #[.int .i64 x, .int .i64 y] := Row.up (show Row _ w1.heap.size #[.int .i64 x, .int .i64 y] from (by exact ra)) hu3; have l7_w3 := R7_w3.lt; have c7_w3_0 : w3.cell? ⟨w1.heap.size, 0, none⟩ = some (.int .i64 x) := R7_w3.cell 0 rfl; have f7_w3_0 := R7_w3.free 0; have c7_w3_1 : w3.cell? ⟨w1.heap.size, 1, none⟩ = some (.int .i64 y) := R7_w3.cell 1 rfl; have f7_w3_1 := R7_w3.free 1; skip))
    | (go_at_call 31; ((with_reducible refine (led_calls s C F FM true n _ x y bx bz _ (HR.out.up (show Chg [] w _ from (by (repeat' (first | (with_reducible first | exact Chg.refl _ _ | assumption | refine Chg.alloc ?_ _ | refine Chg.drew ?_ | refine Chg.drewN ?_ _ | refine Chg.setCell ?_ ?_ _ | refine Chg.upc ?_ (by assumption) | refine Chg.call ?_ (by assumption) ?_) | (refine Or.inl ?_; (simp; done)) | (simp; done) | (simp; omega) | omega)))).up)).mono ?_); rw [HM.out]; rintro E w4 ⟨rfl, hu4⟩; have z4 := hu4.size; (try simp at z4); have R7_w4 : Row w4 w1.heap.size #[.int .i64 x, .int .i64 y] := Row.up (show Row _ w1.heap.size #[.int .i64 x, .int .i64 y] from (by exact ra)) hu4; have l7_w4 := R7_w4.lt; have c7_w4_0 : w4.cell? ⟨w1.heap.size, 0, none⟩ = some (.int .i64 x) := R7_w4.cell 0 rfl; have f7_w4_0 := R7_w4.free 0; have c7_w4_1 : w4.cell? ⟨w1.heap.size, 1, none⟩ = some (.int .i64 y) := R7_w4.cell 1 rfl; have f7_w4_1 := R7_w4.free 1; have R9_w4 : Row w4 w3.heap.size #[.int .i64 bx, .int .i64 bz] := Row.up (show Row _ w3.heap.size #[.int .i64 bx, .int .i64 bz] from (by exact ra)) hu4; have l9_w4 := R9_w4.lt; have c9_w4_0 : w4.cell? ⟨w3.heap.size, 0, none⟩ = some (.int .i64 bx) := R9_w4.cell 0 rfl; have f9_w4_0 := R9_w4.free 0; have c9_w4_1 : w4.cell? ⟨w3.heap.size, 1, none⟩ = some (.int .i64 bz) := R9_w4.cell 1 rfl; have f9_w4_1 := R9_w4.free 1; have RS_w4 : Row w4 s (rsC C F FM true n (.slice (some ⟨g, 0, none⟩) 1 cap)) := HR.out.up (show Chg [] w _ from (by (repeat' (first | (with_reducible first | exact Chg.refl _ _ | assumption | refine Chg.alloc ?_ _ | refine Chg.drew ?_ | refine Chg.drewN ?_ _ | refine Chg.setCell ?_ ?_ _ | refine Chg.upc ?_ (by assumption) | refine Chg.call ?_ (by assumption) ?_) | (refine Or.inl ?_; (simp; done)) | (simp; done) | (simp; omega) | omega)))).up; have lS_w4 := RS_w4.lt; have cS_w4_26 : w4.cell? ⟨s, 26, none⟩ = some (.int .i64 n) := RS_w4.cell 26 rfl; have fS_w4_26 := RS_w4.free 26; have cS_w4_27 : w4.cell? ⟨s, 27, none⟩ = some (.slice (some ⟨g, 0, none⟩) 1 cap) := RS_w4.cell 27 rfl; have fS_w4_27 := RS_w4.free 27; have ls_w4 := RS_w4.lt; have ls1_w4 : s < w4.heap.size + 1 := Nat.lt_succ_of_lt ls_w4; have ls2_w4 : s < w4.heap.size + 1 + 1 := Nat.lt_succ_of_lt ls1_w4))
    | (go_at_call 22; ((with_reducible refine (rmove_one (w4.heap.size + 1) n g cap x y tx tz _ ⟨(show Row _ (w4.heap.size + 1) #[.int .i64 n, .slice (some ⟨g, 0, none⟩) 1 cap] from (by first | exact ra | exact (by exact ro))), HSG.out.chg (S := []) (show Chg [] w _ from (by (repeat' (first | (with_reducible first | exact Chg.refl _ _ | assumption | refine Chg.alloc ?_ _ | refine Chg.drew ?_ | refine Chg.drewN ?_ _ | refine Chg.setCell ?_ ?_ _ | refine Chg.upc ?_ (by assumption) | refine Chg.call ?_ (by assumption) ?_) | (refine Or.inl ?_; (simp; done)) | (simp; done) | (simp; omega) | omega)))) (by simp), (by simp)⟩ HTF.out).mono ?_); rintro E w6 ⟨rfl, hl6⟩; (obtain ⟨v6, hq6, hc6, ho6⟩ := hl6); (obtain ⟨a6, cap6, e6⟩ := Path.Segs.val hq6.segs); subst e6; have HU6 := Lib.hid (show Up w w6 from ((show Chg [] w _ by (repeat' (first | (with_reducible first | exact Chg.refl _ _ | assumption | refine Chg.alloc ?_ _ | refine Chg.drew ?_ | refine Chg.drewN ?_ _ | refine Chg.setCell ?_ ?_ _ | refine Chg.upc ?_ (by assumption) | refine Chg.call ?_ (by assumption) ?_) | (refine Or.inl ?_; (simp; done)) | (simp; done) | (simp; omega) | omega))).call hc6 (fun k hk => Or.inr (by simp at hk; omega))).up); have z6 := hc6.size; (try simp at z6); have R7_w6 : Row w6 w1.heap.size #[.int .i64 x, .int .i64 y] := Row.chg (show Row _ w1.heap.size #[.int .i64 x, .int .i64 y] from (by exact ra)) hc6 (by first | (simp; done) | (simp; omega)); have l7_w6 := R7_w6.lt; have c7_w6_0 : w6.cell? ⟨w1.heap.size, 0, none⟩ = some (.int .i64 x) := R7_w6.cell 0 rfl; have f7_w6_0 := R7_w6.free 0; have c7_w6_1 : w6.cell? ⟨w1.heap.size, 1, none⟩ = some (.int .i64 y) := R7_w6.cell 1 rfl; have f7_w6_1 := R7_w6.free 1; have R12_w6 : Row w6 (w4.heap.size + 1) #[.int .i64 n, .slice a6 1 cap6] := hq6.row; have l12_w6 := R12_w6.lt; have c12_w6_0 : w6.cell? ⟨w4.heap.size + 1, 0, none⟩ = some (.int .i64 n) := R12_w6.cell 0 rfl; have f12_w6_0 := R12_w6.free 0; have c12_w6_1 : w6.cell? ⟨w4.heap.size + 1, 1, none⟩ = some (.slice a6 1 cap6) := R12_w6.cell 1 rfl; have f12_w6_1 := R12_w6.free 1; have RS_w6 : Row w6 s (rsC C F FM true n (.slice (some ⟨g, 0, none⟩) 1 cap)) := HR.out.up HU6.out; have lS_w6 := RS_w6.lt; have cS_w6_25 : w6.cell? ⟨s, 25, none⟩ = some (.bool true) := RS_w6.cell 25 rfl; have fS_w6_25 := RS_w6.free 25; have cS_w6_26 : w6.cell? ⟨s, 26, none⟩ = some (.int .i64 n) := RS_w6.cell 26 rfl; have fS_w6_26 := RS_w6.free 26; have cS_w6_27 : w6.cell? ⟨s, 27, none⟩ = some (.slice (some ⟨g, 0, none⟩) 1 cap) := RS_w6.cell 27 rfl; have fS_w6_27 := RS_w6.free 27; have ls_w6 := RS_w6.lt; have ls1_w6 : s < w6.heap.size + 1 := Nat.lt_succ_of_lt ls_w6; have ls2_w6 : s < w6.heap.size + 1 + 1 := Nat.lt_succ_of_lt ls1_w6; have HSG6 := Lib.hid hq6.segs; have HO6 := Lib.hid (show ∀ b ∈ own (.slice a6 1 cap6), b ∈ own (.slice (some ⟨g, 0, none⟩) 1 cap) ∨ w.heap.size ≤ b from fun b hb => (ho6 b (own_of hb)).imp own_mem (fun h => by have := z4; have := z3; simp at h; omega)); clear hq6 ho6)))
  go_ret
  refine ⟨rfl, Lettered.moved HH.out HU6.out (v6 := .slice a6 1 cap6) HSG6.out HO6.out (show Row _ s (rsC C F FM true n (.slice a6 1 cap6)) from (by exact ro)) ?_⟩
  exact ((Chg.refl [s] w6).setCell (Or.inl (by simp)) _).setCell (Or.inl (by simp)) _

end Go.Proofs.YtjdbefpfjhdmoaaGreatDoor.Sh
end

section
namespace Go.Proofs.YtjdbefpfjhdmoaaGreatDoor.Sh
open List renaming getElem_toArray → lga, getElem_cons_zero → lgz, getElem_cons_succ → lgs, setIfInBounds_toArray → lsa, set_cons_zero → lsz, set_cons_succ → lss
open Go.Proofs.YtjdbefpfjhdmoaaGreatDoor.ZGD
open Go.ChangeShapes Go.WideShapes Go.ChangeAt Go.RowKit
open Go.Proofs.YtjdbefpfjhdmoaaGreatDoor.Gs
open Go.Proofs.YtjdbefpfjhdmoaaGreatDoor.FixM (fits)
open Go.Proofs.YtjdbefpfjhdmoaaGreatDoor.MatM (M6 concat)
open Go.Proofs.YtjdbefpfjhdmoaaGreatDoor.PathM
set_option linter.unusedVariables false
set_option linter.unusedSimpArgs false

theorem s19_of {w : World} {s : Nat} {C : M6} {F : Int} {FM : M6} {dk : Bool} {n : Int} {v : Value} (h : Row w s (rsC C F FM dk n v)) : w.cell? ⟨s, 0, none⟩ = some (.int .i64 C.a) ∧ w.cell? ⟨s, 1, none⟩ = some (.int .i64 C.b) ∧ w.cell? ⟨s, 2, none⟩ = some (.int .i64 C.c) ∧ w.cell? ⟨s, 3, none⟩ = some (.int .i64 C.d) ∧ w.cell? ⟨s, 4, none⟩ = some (.int .i64 C.x) ∧ w.cell? ⟨s, 5, none⟩ = some (.int .i64 C.y) ∧ w.cell? ⟨s, 18, none⟩ = some (.int .i64 FM.a) ∧ w.cell? ⟨s, 19, none⟩ = some (.int .i64 FM.b) ∧ w.cell? ⟨s, 20, none⟩ = some (.int .i64 FM.c) ∧ w.cell? ⟨s, 21, none⟩ = some (.int .i64 FM.d) ∧ w.cell? ⟨s, 22, none⟩ = some (.int .i64 FM.x) ∧ w.cell? ⟨s, 23, none⟩ = some (.int .i64 FM.y) := ⟨h.cell 0 rfl, h.cell 1 rfl, h.cell 2 rfl, h.cell 3 rfl, h.cell 4 rfl, h.cell 5 rfl, h.cell 18 rfl, h.cell 19 rfl, h.cell 20 rfl, h.cell 21 rfl, h.cell 22 rfl, h.cell 23 rfl⟩
theorem s24_of {w : World} {s b : Nat} {C : M6} {F : Int} {FM mm : M6} {dk : Bool} {n x y : Int} {v : Value} (h : Row w s (rsC C F FM dk n v)) (h2 : Row w b #[.int .i64 mm.a, .int .i64 mm.b, .int .i64 mm.c, .int .i64 mm.d, .int .i64 x, .int .i64 y]) : w.cell? ⟨s, 6, none⟩ = some (.int .i64 1) ∧ w.cell? ⟨s, 7, none⟩ = some (.int .i64 0) ∧ w.cell? ⟨s, 8, none⟩ = some (.int .i64 0) ∧ w.cell? ⟨s, 9, none⟩ = some (.int .i64 0) ∧ w.cell? ⟨s, 10, none⟩ = some (.int .i64 0) ∧ w.cell? ⟨s, 17, none⟩ = some (.int .i64 F) ∧ w.cell? ⟨s, 24, none⟩ = some (.slice none 0 0) ∧ w.cell? ⟨b, 0, none⟩ = some (.int .i64 mm.a) ∧ w.cell? ⟨b, 1, none⟩ = some (.int .i64 mm.b) ∧ w.cell? ⟨b, 2, none⟩ = some (.int .i64 mm.c) ∧ w.cell? ⟨b, 3, none⟩ = some (.int .i64 mm.d) ∧ w.cell? ⟨b, 4, none⟩ = some (.int .i64 x) ∧ w.cell? ⟨b, 5, none⟩ = some (.int .i64 y) := ⟨h.cell 6 rfl, h.cell 7 rfl, h.cell 8 rfl, h.cell 9 rfl, h.cell 10 rfl, h.cell 17 rfl, h.cell 24 rfl, h2.cell 0 rfl, h2.cell 1 rfl, h2.cell 2 rfl, h2.cell 3 rfl, h2.cell 4 rfl, h2.cell 5 rfl⟩
theorem seg_some {w : World} {a : Option Addr} {c : Nat} {sg : Seg} (h : Path.Segs w (.slice a 1 c) [sg]) : ∃ g, a = some ⟨g, 0, none⟩ ∧ g < w.heap.size := by
  rcases h.form with ⟨e, e2⟩ | ⟨g', c', e, _, _, h1⟩
  · cases e2
  · injection e with e1 _ _
    exact ⟨g', e1, h1⟩
set_option maxRecDepth 8000 in
set_option maxHeartbeats 4000000 in
theorem rlet_bad (s m : Nat) (C : M6) (F : Int) (FM : M6) (dk : Bool) (n : Int) (g cap : Nat) (rv : Value) (l : List Cl) (x y : Int) (ba : Option Addr) (bc N : Nat) (bs : List Int) (w : World) (h : Ref w s m C F FM dk n (.slice (some ⟨g, 0, none⟩) 1 cap) rv (T1 n x y) l)
    (hN : bs.length = N) (hv : Ints .u8 w (.slice ba N bc) bs) (hl : N ≤ 65535)  (hF : decide (F < 0) = false) (bx bz tx tz : Int) (hB : farR F FM bs = ((bx, bz), 0)) (hM : movedR C x y bx bz = ((tx, tz), 0)) (hfp : fitsP (tx, tz) = true) (h0 : 0 < N) (hd : dk = false) (mm : M6) (e : Int) (hC : concat FM C = (mm, e)) (he : e ≠ 0) :
    Calls Tryz.prog 8 #[.pointer (some ⟨m, 0, none⟩), .pointer (some ⟨s, 0, none⟩), .slice ba N bc] w fun E w' => E = .returned (.int .i64 e) ∧ Up w w' := by
  have HH := Lib.hid h
  have HR := Lib.hid h.rs
  have HSG := Lib.hid (show Path.Segs w (.slice (some ⟨g, 0, none⟩) ([⟨1, (x, y), Z, Z⟩] : List Seg).length cap) [⟨1, (x, y), Z, Z⟩] from h.sg)
  have HV := Lib.hid hv
  have HN := Lib.hid hN
  have q27 : w.cell? ⟨s, 27, none⟩ = some (.slice (some ⟨g, 0, none⟩) 1 cap) := h.rs.cell 27 rfl
  have HQ := Lib.hid q27
  have ls := h.rs.lt
  have lm := h.rm.lt
  have HSM := Lib.hid h.sm
  have tl : decide ((65535 : Int) < (N : Int)) = false := decide_eq_false (by omega)
  clear h hv hN
  subst hd
  have HB := Lib.hid hB
  clear hB
  have HM := Lib.hid hM
  clear hM
  have HTF := Lib.hid hfp
  clear hfp
  have HC := Lib.hid hC
  clear hC
  have t1 : decide ((0 : Int) < (N : Int)) = true := decide_eq_true (by omega)
  have t2 : decide (0 < N) = true := decide_eq_true (by omega)
  have t0 : (e == 0) = false := by simpa using he
  clear he
  go_enter Tryz.func8, Tryz.ntmps8
  go_wp2_with (first
    | (go_at_call 29; ((with_reducible refine (Path.rcurs_calls s g cap x y _ (by first | assumption | (simp; omega)) HQ.out (HSG.out.chg (S := []) (Chg.of_up (by exact ua)) (by simp))).mono ?_); rintro E w1 ⟨rfl, hu1⟩; have z1 := hu1.size; (try simp at z1); have RS_w1 : Row w1 s (rsC C F FM false n (.slice (some ⟨g, 0, none⟩) 1 cap)) := HR.out.up (by exact ua); have lS_w1 := RS_w1.lt; have cS_w1_17 : w1.cell? ⟨s, 17, none⟩ = some (.int .i64 F) := RS_w1.cell 17 rfl; have fS_w1_17 := RS_w1.free 17; have ls_w1 := RS_w1.lt; have ls1_w1 : s < w1.heap.size + 1 := Nat.lt_succ_of_lt ls_w1; have ls2_w1 : s < w1.heap.size + 1 + 1 := Nat.lt_succ_of_lt ls1_w1))
    | (go_at_call 30; ((with_reducible refine (rfar_calls s C F FM false n _ (.slice ba N bc) bs _ (HR.out.up (show Chg [] w _ from (by (repeat' (first | (with_reducible first | exact Chg.refl _ _ | assumption | refine Chg.alloc ?_ _ | refine Chg.drew ?_ | refine Chg.drewN ?_ _ | refine Chg.setCell ?_ ?_ _ | refine Chg.upc ?_ (by assumption) | refine Chg.call ?_ (by assumption) ?_) | (refine Or.inl ?_; (simp; done)) | (simp; done) | (simp; omega) | omega)))).up) (HV.out.up (show Chg [] w _ from (by (repeat' (first | (with_reducible first | exact Chg.refl _ _ | assumption | refine Chg.alloc ?_ _ | refine Chg.drew ?_ | refine Chg.drewN ?_ _ | refine Chg.setCell ?_ ?_ _ | refine Chg.upc ?_ (by assumption) | refine Chg.call ?_ (by assumption) ?_) | (refine Or.inl ?_; (simp; done)) | (simp; done) | (simp; omega) | omega)))).up) (by have := HN.out; omega)).mono ?_); rw [HB.out]; rintro E w3 ⟨rfl, hu3⟩; have z3 := hu3.size; (try simp at z3); have R7_w3 : Row w3 w1.heap.size #[.int .i64 x, .int .i64 y] := Row.up (show Row _ w1.heap.size #[.int .i64 x, .int .i64 y] from (by exact ra)) hu3; have l7_w3 := R7_w3.lt; have c7_w3_0 : w3.cell? ⟨w1.heap.size, 0, none⟩ = some (.int .i64 x) := R7_w3.cell 0 rfl; have f7_w3_0 := R7_w3.free 0; have c7_w3_1 : w3.cell? ⟨w1.heap.size, 1, none⟩ = some (.int .i64 y) := R7_w3.cell 1 rfl; have f7_w3_1 := R7_w3.free 1; skip))
    | (go_at_call 31; ((with_reducible refine (led_calls s C F FM false n _ x y bx bz _ (HR.out.up (show Chg [] w _ from (by (repeat' (first | (with_reducible first | exact Chg.refl _ _ | assumption | refine Chg.alloc ?_ _ | refine Chg.drew ?_ | refine Chg.drewN ?_ _ | refine Chg.setCell ?_ ?_ _ | refine Chg.upc ?_ (by assumption) | refine Chg.call ?_ (by assumption) ?_) | (refine Or.inl ?_; (simp; done)) | (simp; done) | (simp; omega) | omega)))).up)).mono ?_); rw [HM.out]; rintro E w4 ⟨rfl, hu4⟩; have z4 := hu4.size; (try simp at z4); have R7_w4 : Row w4 w1.heap.size #[.int .i64 x, .int .i64 y] := Row.up (show Row _ w1.heap.size #[.int .i64 x, .int .i64 y] from (by exact ra)) hu4; have l7_w4 := R7_w4.lt; have c7_w4_0 : w4.cell? ⟨w1.heap.size, 0, none⟩ = some (.int .i64 x) := R7_w4.cell 0 rfl; have f7_w4_0 := R7_w4.free 0; have c7_w4_1 : w4.cell? ⟨w1.heap.size, 1, none⟩ = some (.int .i64 y) := R7_w4.cell 1 rfl; have f7_w4_1 := R7_w4.free 1; have R9_w4 : Row w4 w3.heap.size #[.int .i64 bx, .int .i64 bz] := Row.up (show Row _ w3.heap.size #[.int .i64 bx, .int .i64 bz] from (by exact ra)) hu4; have l9_w4 := R9_w4.lt; have c9_w4_0 : w4.cell? ⟨w3.heap.size, 0, none⟩ = some (.int .i64 bx) := R9_w4.cell 0 rfl; have f9_w4_0 := R9_w4.free 0; have c9_w4_1 : w4.cell? ⟨w3.heap.size, 1, none⟩ = some (.int .i64 bz) := R9_w4.cell 1 rfl; have f9_w4_1 := R9_w4.free 1; have RS_w4 : Row w4 s (rsC C F FM false n (.slice (some ⟨g, 0, none⟩) 1 cap)) := HR.out.up (show Chg [] w _ from (by (repeat' (first | (with_reducible first | exact Chg.refl _ _ | assumption | refine Chg.alloc ?_ _ | refine Chg.drew ?_ | refine Chg.drewN ?_ _ | refine Chg.setCell ?_ ?_ _ | refine Chg.upc ?_ (by assumption) | refine Chg.call ?_ (by assumption) ?_) | (refine Or.inl ?_; (simp; done)) | (simp; done) | (simp; omega) | omega)))).up; have lS_w4 := RS_w4.lt; have cS_w4_26 : w4.cell? ⟨s, 26, none⟩ = some (.int .i64 n) := RS_w4.cell 26 rfl; have fS_w4_26 := RS_w4.free 26; have cS_w4_27 : w4.cell? ⟨s, 27, none⟩ = some (.slice (some ⟨g, 0, none⟩) 1 cap) := RS_w4.cell 27 rfl; have fS_w4_27 := RS_w4.free 27; have ls_w4 := RS_w4.lt; have ls1_w4 : s < w4.heap.size + 1 := Nat.lt_succ_of_lt ls_w4; have ls2_w4 : s < w4.heap.size + 1 + 1 := Nat.lt_succ_of_lt ls1_w4))
    | (go_at_call 22; ((with_reducible refine (rmove_one (w4.heap.size + 1) n g cap x y tx tz _ ⟨(show Row _ (w4.heap.size + 1) #[.int .i64 n, .slice (some ⟨g, 0, none⟩) 1 cap] from (by first | exact ra | exact (by exact ro))), HSG.out.chg (S := []) (show Chg [] w _ from (by (repeat' (first | (with_reducible first | exact Chg.refl _ _ | assumption | refine Chg.alloc ?_ _ | refine Chg.drew ?_ | refine Chg.drewN ?_ _ | refine Chg.setCell ?_ ?_ _ | refine Chg.upc ?_ (by assumption) | refine Chg.call ?_ (by assumption) ?_) | (refine Or.inl ?_; (simp; done)) | (simp; done) | (simp; omega) | omega)))) (by simp), (by simp)⟩ HTF.out).mono ?_); rintro E w6 ⟨rfl, hl6⟩; (obtain ⟨v6, hq6, hc6, ho6⟩ := hl6); (obtain ⟨a6, cap6, e6⟩ := Path.Segs.val hq6.segs); subst e6; have HU6 := Lib.hid (show Up w w6 from ((show Chg [] w _ by (repeat' (first | (with_reducible first | exact Chg.refl _ _ | assumption | refine Chg.alloc ?_ _ | refine Chg.drew ?_ | refine Chg.drewN ?_ _ | refine Chg.setCell ?_ ?_ _ | refine Chg.upc ?_ (by assumption) | refine Chg.call ?_ (by assumption) ?_) | (refine Or.inl ?_; (simp; done)) | (simp; done) | (simp; omega) | omega))).call hc6 (fun k hk => Or.inr (by simp at hk; omega))).up); have z6 := hc6.size; (try simp at z6); have R7_w6 : Row w6 w1.heap.size #[.int .i64 x, .int .i64 y] := Row.chg (show Row _ w1.heap.size #[.int .i64 x, .int .i64 y] from (by exact ra)) hc6 (by first | (simp; done) | (simp; omega)); have l7_w6 := R7_w6.lt; have c7_w6_0 : w6.cell? ⟨w1.heap.size, 0, none⟩ = some (.int .i64 x) := R7_w6.cell 0 rfl; have f7_w6_0 := R7_w6.free 0; have c7_w6_1 : w6.cell? ⟨w1.heap.size, 1, none⟩ = some (.int .i64 y) := R7_w6.cell 1 rfl; have f7_w6_1 := R7_w6.free 1; have R12_w6 : Row w6 (w4.heap.size + 1) #[.int .i64 n, .slice a6 1 cap6] := hq6.row; have l12_w6 := R12_w6.lt; have c12_w6_0 : w6.cell? ⟨w4.heap.size + 1, 0, none⟩ = some (.int .i64 n) := R12_w6.cell 0 rfl; have f12_w6_0 := R12_w6.free 0; have c12_w6_1 : w6.cell? ⟨w4.heap.size + 1, 1, none⟩ = some (.slice a6 1 cap6) := R12_w6.cell 1 rfl; have f12_w6_1 := R12_w6.free 1; have RS_w6 : Row w6 s (rsC C F FM false n (.slice (some ⟨g, 0, none⟩) 1 cap)) := HR.out.up HU6.out; have lS_w6 := RS_w6.lt; have cS_w6_25 : w6.cell? ⟨s, 25, none⟩ = some (.bool false) := RS_w6.cell 25 rfl; have fS_w6_25 := RS_w6.free 25; have cS_w6_26 : w6.cell? ⟨s, 26, none⟩ = some (.int .i64 n) := RS_w6.cell 26 rfl; have fS_w6_26 := RS_w6.free 26; have cS_w6_27 : w6.cell? ⟨s, 27, none⟩ = some (.slice (some ⟨g, 0, none⟩) 1 cap) := RS_w6.cell 27 rfl; have fS_w6_27 := RS_w6.free 27; have ls_w6 := RS_w6.lt; have ls1_w6 : s < w6.heap.size + 1 := Nat.lt_succ_of_lt ls_w6; have ls2_w6 : s < w6.heap.size + 1 + 1 := Nat.lt_succ_of_lt ls1_w6; have HSG6 := Lib.hid hq6.segs; have HO6 := Lib.hid (show ∀ b ∈ own (.slice a6 1 cap6), b ∈ own (.slice (some ⟨g, 0, none⟩) 1 cap) ∨ w.heap.size ≤ b from fun b hb => (ho6 b (own_of hb)).imp own_mem (fun h => by have := z4; have := z3; simp at h; omega)); clear hq6 ho6)))
  obtain ⟨g6, e6, hg6⟩ : ∃ g6, a6 = some ⟨g6, 0, none⟩ ∧ g6 < w6.heap.size := seg_some HSG6.out
  subst e6
  refine wp_region_held_drew (S := fun w' => w'.cell? ⟨s, 0, none⟩ = some (.int .i64 C.a) ∧ w'.cell? ⟨s, 1, none⟩ = some (.int .i64 C.b) ∧ w'.cell? ⟨s, 2, none⟩ = some (.int .i64 C.c) ∧ w'.cell? ⟨s, 3, none⟩ = some (.int .i64 C.d) ∧ w'.cell? ⟨s, 4, none⟩ = some (.int .i64 C.x) ∧ w'.cell? ⟨s, 5, none⟩ = some (.int .i64 C.y) ∧ w'.cell? ⟨s, 18, none⟩ = some (.int .i64 FM.a) ∧ w'.cell? ⟨s, 19, none⟩ = some (.int .i64 FM.b) ∧ w'.cell? ⟨s, 20, none⟩ = some (.int .i64 FM.c) ∧ w'.cell? ⟨s, 21, none⟩ = some (.int .i64 FM.d) ∧ w'.cell? ⟨s, 22, none⟩ = some (.int .i64 FM.x) ∧ w'.cell? ⟨s, 23, none⟩ = some (.int .i64 FM.y)) (by kernel_rfl) ?_ (fun hHeld => ?_)
  · exact s19_of (show Row _ s (rsC C F FM false n (.slice (some ⟨g, 0, none⟩) 1 cap)) from (by exact ra))
  refine wpAnyH_take (i := 0) (v := ?_) rfl (by kernel_rfl) (by kernel_rfl) (by kernel_rfl) (fun _ _ _ h => h) (Or.inl ⟨by rfl, ?_⟩) (by assumption) ?_
  rotate_left
  · intro w2 hSw
    (try dsimp only at hSw)
    obtain ⟨s0, s1, s2, s3, s4, s5, s6, s7, s8, s9, s10, s11⟩ := hSw
    go_simp
    (try (with_reducible rfl))
  (try simp only [Act.put, lga, lgz, lgs, lsa, lsz, lss])
  refine wpAnyH_take (i := 1) (v := ?_) rfl (by kernel_rfl) (by kernel_rfl) (by kernel_rfl) (fun _ _ _ h => h) (Or.inl ⟨by rfl, ?_⟩) (by assumption) ?_
  rotate_left
  · intro w2 hSw
    (try dsimp only at hSw)
    obtain ⟨s0, s1, s2, s3, s4, s5, s6, s7, s8, s9, s10, s11⟩ := hSw
    go_simp
    (try (with_reducible rfl))
  (try simp only [Act.put, lga, lgz, lgs, lsa, lsz, lss])
  refine wpAnyH_take (i := 2) (v := ?_) rfl (by kernel_rfl) (by kernel_rfl) (by kernel_rfl) (fun _ _ _ h => h) (Or.inl ⟨by rfl, ?_⟩) (by assumption) ?_
  rotate_left
  · intro w2 hSw
    (try dsimp only at hSw)
    obtain ⟨s0, s1, s2, s3, s4, s5, s6, s7, s8, s9, s10, s11⟩ := hSw
    go_simp
    (try (with_reducible rfl))
  (try simp only [Act.put, lga, lgz, lgs, lsa, lsz, lss])
  refine wpAnyH_take (i := 3) (v := ?_) rfl (by kernel_rfl) (by kernel_rfl) (by kernel_rfl) (fun _ _ _ h => h) (Or.inl ⟨by rfl, ?_⟩) (by assumption) ?_
  rotate_left
  · intro w2 hSw
    (try dsimp only at hSw)
    obtain ⟨s0, s1, s2, s3, s4, s5, s6, s7, s8, s9, s10, s11⟩ := hSw
    go_simp
    (try (with_reducible rfl))
  (try simp only [Act.put, lga, lgz, lgs, lsa, lsz, lss])
  refine wpAnyH_take (i := 4) (v := ?_) rfl (by kernel_rfl) (by kernel_rfl) (by kernel_rfl) (fun _ _ _ h => h) (Or.inl ⟨by rfl, ?_⟩) (by assumption) ?_
  rotate_left
  · intro w2 hSw
    (try dsimp only at hSw)
    obtain ⟨s0, s1, s2, s3, s4, s5, s6, s7, s8, s9, s10, s11⟩ := hSw
    go_simp
    (try (with_reducible rfl))
  (try simp only [Act.put, lga, lgz, lgs, lsa, lsz, lss])
  refine wpAnyH_take (i := 5) (v := ?_) rfl (by kernel_rfl) (by kernel_rfl) (by kernel_rfl) (fun _ _ _ h => h) (Or.inl ⟨by rfl, ?_⟩) (by assumption) ?_
  rotate_left
  · intro w2 hSw
    (try dsimp only at hSw)
    obtain ⟨s0, s1, s2, s3, s4, s5, s6, s7, s8, s9, s10, s11⟩ := hSw
    go_simp
    (try (with_reducible rfl))
  (try simp only [Act.put, lga, lgz, lgs, lsa, lsz, lss])
  refine wpAnyH_take (i := 6) (v := ?_) rfl (by kernel_rfl) (by kernel_rfl) (by kernel_rfl) (fun _ _ _ h => h) (Or.inl ⟨by rfl, ?_⟩) (by assumption) ?_
  rotate_left
  · intro w2 hSw
    (try dsimp only at hSw)
    obtain ⟨s0, s1, s2, s3, s4, s5, s6, s7, s8, s9, s10, s11⟩ := hSw
    go_simp
    (try (with_reducible rfl))
  (try simp only [Act.put, lga, lgz, lgs, lsa, lsz, lss])
  refine wpAnyH_take (i := 7) (v := ?_) rfl (by kernel_rfl) (by kernel_rfl) (by kernel_rfl) (fun _ _ _ h => h) (Or.inl ⟨by rfl, ?_⟩) (by assumption) ?_
  rotate_left
  · intro w2 hSw
    (try dsimp only at hSw)
    obtain ⟨s0, s1, s2, s3, s4, s5, s6, s7, s8, s9, s10, s11⟩ := hSw
    go_simp
    (try (with_reducible rfl))
  (try simp only [Act.put, lga, lgz, lgs, lsa, lsz, lss])
  refine wpAnyH_ready (rs := [8, 12]) (by decide +kernel) (by simp) ?_
  refine AllReadyH.cons rfl (fun K hK => ?_) (AllReadyH.cons rfl (fun K hK => ?_) (AllReadyH.nil))
  · skip
    (try simp only [lga, lgz, lgs])
    (go_simp; go_at_call 32; (with_reducible refine (Mat2.rconcat_calls FM.a FM.b FM.c FM.d FM.x FM.y C.a C.b C.c C.d C.x C.y _).mono ?_); rw [HC.out]; rintro E w8 ⟨rfl, hu8⟩; have z8 := hu8.size; (try simp at z8); have RS_w8 : Row w8 s (rsC C F FM false n (.slice (some ⟨g, 0, none⟩) 1 cap)) := HR.out.up (Up.call HU6.out (show Chg [] w6 w8 by (repeat' (first | (with_reducible first | exact Chg.refl _ _ | assumption | refine Chg.alloc ?_ _ | refine Chg.drew ?_ | refine Chg.drewN ?_ _ | refine Chg.setCell ?_ ?_ _ | refine Chg.upc ?_ (by assumption) | refine Chg.call ?_ (by assumption) ?_) | (refine Or.inl ?_; (simp; done)) | (simp; done) | (simp; omega) | omega))).up); have R7_w8 : Row w8 w1.heap.size #[.int .i64 x, .int .i64 y] := Row.up (show Row _ w1.heap.size #[.int .i64 x, .int .i64 y] from (by exact ra)) hu8; have l7_w8 := R7_w8.lt; have c7_w8_0 : w8.cell? ⟨w1.heap.size, 0, none⟩ = some (.int .i64 x) := R7_w8.cell 0 rfl; have f7_w8_0 := R7_w8.free 0; have c7_w8_1 : w8.cell? ⟨w1.heap.size, 1, none⟩ = some (.int .i64 y) := R7_w8.cell 1 rfl; have f7_w8_1 := R7_w8.free 1; have R12_w8 : Row w8 (w4.heap.size + 1) #[.int .i64 n, .slice (some ⟨g6, 0, none⟩) 1 cap6] := Row.up (show Row _ (w4.heap.size + 1) #[.int .i64 n, .slice (some ⟨g6, 0, none⟩) 1 cap6] from (by exact ra)) hu8;  have u68 : Up w6 w8 := (show Chg [] w6 w8 by (repeat' (first | (with_reducible first | exact Chg.refl _ _ | assumption | refine Chg.alloc ?_ _ | refine Chg.drew ?_ | refine Chg.drewN ?_ _ | refine Chg.setCell ?_ ?_ _ | refine Chg.upc ?_ (by assumption) | refine Chg.call ?_ (by assumption) ?_) | (refine Or.inl ?_; (simp; done)) | (simp; done) | (simp; omega) | omega))).up; (try dsimp only))
    refine hK.out _ _ ?_ (fun hHeld => ?_)
    · exact s19_of (RS_w8)
    clear hK K
    (try simp only [Act.put, lga, lgz, lgs, lsa, lsz, lss])
    refine wpAnyH_take (i := 9) (v := ?_) rfl (by kernel_rfl) (by kernel_rfl) (by kernel_rfl) (fun _ _ _ h => h) (Or.inl ⟨by rfl, ?_⟩) (by assumption) ?_
    rotate_left
    · intro w2 hSw
      (try dsimp only at hSw)
      obtain ⟨s0, s1, s2, s3, s4, s5, s6, s7, s8, s9, s10, s11⟩ := hSw
      go_simp
      (try (with_reducible rfl))
    (try simp only [Act.put, lga, lgz, lgs, lsa, lsz, lss])
    refine wpAnyH_take (i := 10) (v := ?_) rfl (by kernel_rfl) (by kernel_rfl) (by kernel_rfl) (fun _ _ _ h => h) (Or.inl ⟨by rfl, ?_⟩) (by assumption) ?_
    rotate_left
    · intro w2 hSw
      (try dsimp only at hSw)
      obtain ⟨s0, s1, s2, s3, s4, s5, s6, s7, s8, s9, s10, s11⟩ := hSw
      go_simp
      (try (with_reducible rfl))
    (try simp only [Act.put, lga, lgz, lgs, lsa, lsz, lss])
    refine wpAnyH_take (i := 11) (v := ?_) rfl (by kernel_rfl) (by kernel_rfl) (by kernel_rfl) (fun _ _ _ h => h) (Or.inl ⟨by rfl, ?_⟩) (by assumption) ?_
    rotate_left
    · intro w2 hSw
      (try dsimp only at hSw)
      obtain ⟨s0, s1, s2, s3, s4, s5, s6, s7, s8, s9, s10, s11⟩ := hSw
      go_simp
      (try (with_reducible rfl))
    (try simp only [Act.put, lga, lgz, lgs, lsa, lsz, lss])
    refine wpAnyH_ready (rs := [12]) (by decide +kernel) (by simp) ?_
    refine AllReadyH.cons rfl (fun K hK => ?_) (AllReadyH.nil)
    (try simp only [lga, lgz, lgs])
    (go_simp)
    refine hK.out _ _ ?_ (fun hHeld => ?_)
    · exact s19_of (RS_w8.alloc _)
    clear hK K
    (try simp only [Act.put, lga, lgz, lgs, lsa, lsz, lss])
    refine wpAnyH_ready (rs := [13]) (by decide +kernel) (by simp) ?_
    refine AllReadyH.cons rfl (fun K hK => ?_) (AllReadyH.nil)
    (try simp only [lga, lgz, lgs])
    (go_simp)
    refine hK.out _ _ ?_ (fun hHeld => ?_)
    · exact s19_of (show Row _ s (rsC C F FM false n (.slice (some ⟨g, 0, none⟩) 1 cap)) from (by exact ra))
    clear hK K
    (try simp only [Act.put, lga, lgz, lgs, lsa, lsz, lss])
    refine wpAnyH_take (i := 14) (v := ?_) rfl (by kernel_rfl) (by kernel_rfl) (by kernel_rfl) (fun _ _ _ h => h) (Or.inl ⟨by rfl, ?_⟩) (by assumption) ?_
    rotate_left
    · intro w2 hSw
      (try dsimp only at hSw)
      obtain ⟨s0, s1, s2, s3, s4, s5, s6, s7, s8, s9, s10, s11⟩ := hSw
      go_simp
      (try (with_reducible rfl))
    (try simp only [Act.put, lga, lgz, lgs, lsa, lsz, lss])
    refine wpAnyH_done (by kernel_rfl) ?_ _
    (try dsimp only)
    generalize hW : World.alloc w8 _ = wR
    have RS_wR : Row wR s (rsC C F FM false n (.slice (some ⟨g, 0, none⟩) 1 cap)) := by rw [← hW]; exact ra
    have R7_wR : Row wR w1.heap.size #[.int .i64 x, .int .i64 y] := by rw [← hW]; exact ra
    have R12_wR : Row wR (w4.heap.size + 1) #[.int .i64 n, .slice (some ⟨g6, 0, none⟩) 1 cap6] := by rw [← hW]; exact ra
    have R13_wR : Row wR w8.heap.size #[.int .i64 mm.a, .int .i64 mm.b, .int .i64 mm.c, .int .i64 mm.d, .int .i64 mm.x, .int .i64 mm.y] := by rw [← hW]; exact Row.made _ _ _
    have u6R : Up w6 wR := by rw [← hW]; exact (show Chg [] w6 _ from by (repeat' (first | (with_reducible first | exact Chg.refl _ _ | assumption | refine Chg.alloc ?_ _ | refine Chg.drew ?_ | refine Chg.drewN ?_ _ | refine Chg.setCell ?_ ?_ _ | refine Chg.upc ?_ (by assumption) | refine Chg.call ?_ (by assumption) ?_) | (refine Or.inl ?_; (simp; done)) | (simp; done) | (simp; omega) | omega))).up
    have HUR := Lib.hid (Up.call HU6.out u6R)
    have zR := u6R.size
    have lR13 := R13_wR.lt
    have l7_wR := R7_wR.lt; have c7_wR_0 : wR.cell? ⟨w1.heap.size, 0, none⟩ = some (.int .i64 x) := R7_wR.cell 0 rfl; have f7_wR_0 := R7_wR.free 0; have c7_wR_1 : wR.cell? ⟨w1.heap.size, 1, none⟩ = some (.int .i64 y) := R7_wR.cell 1 rfl; have f7_wR_1 := R7_wR.free 1; have l13_wR := R13_wR.lt; have c13_wR_0 : wR.cell? ⟨w8.heap.size, 0, none⟩ = some (.int .i64 mm.a) := R13_wR.cell 0 rfl; have f13_wR_0 := R13_wR.free 0; have c13_wR_1 : wR.cell? ⟨w8.heap.size, 1, none⟩ = some (.int .i64 mm.b) := R13_wR.cell 1 rfl; have f13_wR_1 := R13_wR.free 1; have c13_wR_2 : wR.cell? ⟨w8.heap.size, 2, none⟩ = some (.int .i64 mm.c) := R13_wR.cell 2 rfl; have f13_wR_2 := R13_wR.free 2; have c13_wR_3 : wR.cell? ⟨w8.heap.size, 3, none⟩ = some (.int .i64 mm.d) := R13_wR.cell 3 rfl; have f13_wR_3 := R13_wR.free 3; have c13_wR_4 : wR.cell? ⟨w8.heap.size, 4, none⟩ = some (.int .i64 mm.x) := R13_wR.cell 4 rfl; have f13_wR_4 := R13_wR.free 4; have c13_wR_5 : wR.cell? ⟨w8.heap.size, 5, none⟩ = some (.int .i64 mm.y) := R13_wR.cell 5 rfl; have f13_wR_5 := R13_wR.free 5
    clear hW hHeld
    go_wp2
    go_ret
    exact ⟨rfl, HUR.out⟩
  · skip
    (try simp only [lga, lgz, lgs])
    (go_simp)
    refine hK.out _ _ ?_ (fun hHeld => ?_)
    · exact s19_of (show Row _ s (rsC C F FM false n (.slice (some ⟨g, 0, none⟩) 1 cap)) from (by exact ra))
    clear hK K
    (try simp only [Act.put, lga, lgz, lgs, lsa, lsz, lss])
    refine wpAnyH_ready (rs := [8]) (by decide +kernel) (by simp) ?_
    refine AllReadyH.cons rfl (fun K hK => ?_) (AllReadyH.nil)
    (try simp only [lga, lgz, lgs])
    (go_simp; go_at_call 32; (with_reducible refine (Mat2.rconcat_calls FM.a FM.b FM.c FM.d FM.x FM.y C.a C.b C.c C.d C.x C.y _).mono ?_); rw [HC.out]; rintro E w8 ⟨rfl, hu8⟩; have z8 := hu8.size; (try simp at z8); have RS_w8 : Row w8 s (rsC C F FM false n (.slice (some ⟨g, 0, none⟩) 1 cap)) := HR.out.up (Up.call HU6.out (show Chg [] w6 w8 by (repeat' (first | (with_reducible first | exact Chg.refl _ _ | assumption | refine Chg.alloc ?_ _ | refine Chg.drew ?_ | refine Chg.drewN ?_ _ | refine Chg.setCell ?_ ?_ _ | refine Chg.upc ?_ (by assumption) | refine Chg.call ?_ (by assumption) ?_) | (refine Or.inl ?_; (simp; done)) | (simp; done) | (simp; omega) | omega))).up); have R7_w8 : Row w8 w1.heap.size #[.int .i64 x, .int .i64 y] := Row.up (show Row _ w1.heap.size #[.int .i64 x, .int .i64 y] from (by exact ra)) hu8; have l7_w8 := R7_w8.lt; have c7_w8_0 : w8.cell? ⟨w1.heap.size, 0, none⟩ = some (.int .i64 x) := R7_w8.cell 0 rfl; have f7_w8_0 := R7_w8.free 0; have c7_w8_1 : w8.cell? ⟨w1.heap.size, 1, none⟩ = some (.int .i64 y) := R7_w8.cell 1 rfl; have f7_w8_1 := R7_w8.free 1; have R12_w8 : Row w8 (w4.heap.size + 1) #[.int .i64 n, .slice (some ⟨g6, 0, none⟩) 1 cap6] := Row.up (show Row _ (w4.heap.size + 1) #[.int .i64 n, .slice (some ⟨g6, 0, none⟩) 1 cap6] from (by exact ra)) hu8; have R13_w8 : Row w8 w6.heap.size #[.int .i64 0, .int .i64 0, .int .i64 0, .int .i64 0, .int .i64 0, .int .i64 0] := Row.up (show Row _ w6.heap.size #[.int .i64 0, .int .i64 0, .int .i64 0, .int .i64 0, .int .i64 0, .int .i64 0] from (by exact ra)) hu8; have l13_w8 := R13_w8.lt; have c13_w8_0 : w8.cell? ⟨w6.heap.size, 0, none⟩ = some (.int .i64 0) := R13_w8.cell 0 rfl; have f13_w8_0 := R13_w8.free 0; have c13_w8_1 : w8.cell? ⟨w6.heap.size, 1, none⟩ = some (.int .i64 0) := R13_w8.cell 1 rfl; have f13_w8_1 := R13_w8.free 1; have c13_w8_2 : w8.cell? ⟨w6.heap.size, 2, none⟩ = some (.int .i64 0) := R13_w8.cell 2 rfl; have f13_w8_2 := R13_w8.free 2; have c13_w8_3 : w8.cell? ⟨w6.heap.size, 3, none⟩ = some (.int .i64 0) := R13_w8.cell 3 rfl; have f13_w8_3 := R13_w8.free 3; have c13_w8_4 : w8.cell? ⟨w6.heap.size, 4, none⟩ = some (.int .i64 0) := R13_w8.cell 4 rfl; have f13_w8_4 := R13_w8.free 4; have c13_w8_5 : w8.cell? ⟨w6.heap.size, 5, none⟩ = some (.int .i64 0) := R13_w8.cell 5 rfl; have f13_w8_5 := R13_w8.free 5;  have u68 : Up w6 w8 := (show Chg [] w6 w8 by (repeat' (first | (with_reducible first | exact Chg.refl _ _ | assumption | refine Chg.alloc ?_ _ | refine Chg.drew ?_ | refine Chg.drewN ?_ _ | refine Chg.setCell ?_ ?_ _ | refine Chg.upc ?_ (by assumption) | refine Chg.call ?_ (by assumption) ?_) | (refine Or.inl ?_; (simp; done)) | (simp; done) | (simp; omega) | omega))).up; (try dsimp only))
    refine hK.out _ _ ?_ (fun hHeld => ?_)
    · exact s19_of (RS_w8)
    clear hK K
    (try simp only [Act.put, lga, lgz, lgs, lsa, lsz, lss])
    refine wpAnyH_take (i := 9) (v := ?_) rfl (by kernel_rfl) (by kernel_rfl) (by kernel_rfl) (fun _ _ _ h => h) (Or.inl ⟨by rfl, ?_⟩) (by assumption) ?_
    rotate_left
    · intro w2 hSw
      (try dsimp only at hSw)
      obtain ⟨s0, s1, s2, s3, s4, s5, s6, s7, s8, s9, s10, s11⟩ := hSw
      go_simp
      (try (with_reducible rfl))
    (try simp only [Act.put, lga, lgz, lgs, lsa, lsz, lss])
    refine wpAnyH_take (i := 10) (v := ?_) rfl (by kernel_rfl) (by kernel_rfl) (by kernel_rfl) (fun _ _ _ h => h) (Or.inl ⟨by rfl, ?_⟩) (by assumption) ?_
    rotate_left
    · intro w2 hSw
      (try dsimp only at hSw)
      obtain ⟨s0, s1, s2, s3, s4, s5, s6, s7, s8, s9, s10, s11⟩ := hSw
      go_simp
      (try (with_reducible rfl))
    (try simp only [Act.put, lga, lgz, lgs, lsa, lsz, lss])
    refine wpAnyH_take (i := 11) (v := ?_) rfl (by kernel_rfl) (by kernel_rfl) (by kernel_rfl) (fun _ _ _ h => h) (Or.inl ⟨by rfl, ?_⟩) (by assumption) ?_
    rotate_left
    · intro w2 hSw
      (try dsimp only at hSw)
      obtain ⟨s0, s1, s2, s3, s4, s5, s6, s7, s8, s9, s10, s11⟩ := hSw
      go_simp
      (try (with_reducible rfl))
    (try simp only [Act.put, lga, lgz, lgs, lsa, lsz, lss])
    refine wpAnyH_ready (rs := [13]) (by decide +kernel) (by simp) ?_
    refine AllReadyH.cons rfl (fun K hK => ?_) (AllReadyH.nil)
    (try simp only [lga, lgz, lgs])
    (go_simp)
    refine hK.out _ _ ?_ (fun hHeld => ?_)
    · exact s19_of (show Row _ s (rsC C F FM false n (.slice (some ⟨g, 0, none⟩) 1 cap)) from (by exact ra))
    clear hK K
    (try simp only [Act.put, lga, lgz, lgs, lsa, lsz, lss])
    refine wpAnyH_take (i := 14) (v := ?_) rfl (by kernel_rfl) (by kernel_rfl) (by kernel_rfl) (fun _ _ _ h => h) (Or.inl ⟨by rfl, ?_⟩) (by assumption) ?_
    rotate_left
    · intro w2 hSw
      (try dsimp only at hSw)
      obtain ⟨s0, s1, s2, s3, s4, s5, s6, s7, s8, s9, s10, s11⟩ := hSw
      go_simp
      (try (with_reducible rfl))
    (try simp only [Act.put, lga, lgz, lgs, lsa, lsz, lss])
    refine wpAnyH_done (by kernel_rfl) ?_ _
    (try dsimp only)
    generalize hW : World.setCell (World.setCell (World.setCell (World.setCell (World.setCell (World.setCell _ _ _) _ _) _ _) _ _) _ _) _ _ = wR
    have RS_wR : Row wR s (rsC C F FM false n (.slice (some ⟨g, 0, none⟩) 1 cap)) := by rw [← hW]; exact ra
    have R7_wR : Row wR w1.heap.size #[.int .i64 x, .int .i64 y] := by rw [← hW]; exact ra
    have R12_wR : Row wR (w4.heap.size + 1) #[.int .i64 n, .slice (some ⟨g6, 0, none⟩) 1 cap6] := by rw [← hW]; exact ra
    have R13_wR : Row wR w6.heap.size #[.int .i64 mm.a, .int .i64 mm.b, .int .i64 mm.c, .int .i64 mm.d, .int .i64 mm.x, .int .i64 mm.y] := by rw [← hW]; exact (by exact ro)
    have u6R : Up w6 wR := by rw [← hW]; exact (show Chg [] w6 _ from by (repeat' (first | (with_reducible first | exact Chg.refl _ _ | assumption | refine Chg.alloc ?_ _ | refine Chg.drew ?_ | refine Chg.drewN ?_ _ | refine Chg.setCell ?_ ?_ _ | refine Chg.upc ?_ (by assumption) | refine Chg.call ?_ (by assumption) ?_) | (refine Or.inl ?_; (simp; done)) | (simp; done) | (simp; omega) | omega))).up
    have HUR := Lib.hid (Up.call HU6.out u6R)
    have zR := u6R.size
    have lR13 := R13_wR.lt
    have l7_wR := R7_wR.lt; have c7_wR_0 : wR.cell? ⟨w1.heap.size, 0, none⟩ = some (.int .i64 x) := R7_wR.cell 0 rfl; have f7_wR_0 := R7_wR.free 0; have c7_wR_1 : wR.cell? ⟨w1.heap.size, 1, none⟩ = some (.int .i64 y) := R7_wR.cell 1 rfl; have f7_wR_1 := R7_wR.free 1; have l13_wR := R13_wR.lt; have c13_wR_0 : wR.cell? ⟨w6.heap.size, 0, none⟩ = some (.int .i64 mm.a) := R13_wR.cell 0 rfl; have f13_wR_0 := R13_wR.free 0; have c13_wR_1 : wR.cell? ⟨w6.heap.size, 1, none⟩ = some (.int .i64 mm.b) := R13_wR.cell 1 rfl; have f13_wR_1 := R13_wR.free 1; have c13_wR_2 : wR.cell? ⟨w6.heap.size, 2, none⟩ = some (.int .i64 mm.c) := R13_wR.cell 2 rfl; have f13_wR_2 := R13_wR.free 2; have c13_wR_3 : wR.cell? ⟨w6.heap.size, 3, none⟩ = some (.int .i64 mm.d) := R13_wR.cell 3 rfl; have f13_wR_3 := R13_wR.free 3; have c13_wR_4 : wR.cell? ⟨w6.heap.size, 4, none⟩ = some (.int .i64 mm.x) := R13_wR.cell 4 rfl; have f13_wR_4 := R13_wR.free 4; have c13_wR_5 : wR.cell? ⟨w6.heap.size, 5, none⟩ = some (.int .i64 mm.y) := R13_wR.cell 5 rfl; have f13_wR_5 := R13_wR.free 5
    clear hW hHeld
    go_wp2
    go_ret
    exact ⟨rfl, HUR.out⟩
set_option maxRecDepth 8000 in
set_option maxHeartbeats 4000000 in
theorem rlet_good (s m : Nat) (C : M6) (F : Int) (FM : M6) (dk : Bool) (n : Int) (g cap : Nat) (rv : Value) (l : List Cl) (x y : Int) (ba : Option Addr) (bc N : Nat) (bs : List Int) (w : World) (h : Ref w s m C F FM dk n (.slice (some ⟨g, 0, none⟩) 1 cap) rv (T1 n x y) l)
    (hN : bs.length = N) (hv : Ints .u8 w (.slice ba N bc) bs) (hl : N ≤ 65535)  (hF : decide (F < 0) = false) (bx bz tx tz : Int) (hB : farR F FM bs = ((bx, bz), 0)) (hM : movedR C x y bx bz = ((tx, tz), 0)) (hfp : fitsP (tx, tz) = true) (h0 : 0 < N) (hd : dk = false) (mm : M6) (hC : concat FM C = (mm, 0)) (hln : l.length < 4096) :
    Calls Tryz.prog 8 #[.pointer (some ⟨m, 0, none⟩), .pointer (some ⟨s, 0, none⟩), .slice ba N bc] w fun E w' => E = .returned (.int .i64 0) ∧ Lettered w s m C F FM dk n (.slice (some ⟨g, 0, none⟩) 1 cap) rv l (T1 n tx tz) [⟨F, ⟨mm.a, mm.b, mm.c, mm.d, x, y⟩, bs⟩] w' := by
  have HH := Lib.hid h
  have HR := Lib.hid h.rs
  have HSG := Lib.hid (show Path.Segs w (.slice (some ⟨g, 0, none⟩) ([⟨1, (x, y), Z, Z⟩] : List Seg).length cap) [⟨1, (x, y), Z, Z⟩] from h.sg)
  have HV := Lib.hid hv
  have HN := Lib.hid hN
  have q27 : w.cell? ⟨s, 27, none⟩ = some (.slice (some ⟨g, 0, none⟩) 1 cap) := h.rs.cell 27 rfl
  have HQ := Lib.hid q27
  have ls := h.rs.lt
  have lm := h.rm.lt
  have HSM := Lib.hid h.sm
  have tl : decide ((65535 : Int) < (N : Int)) = false := decide_eq_false (by omega)
  clear h hv hN
  subst hd
  have HB := Lib.hid hB
  clear hB
  have HM := Lib.hid hM
  clear hM
  have HTF := Lib.hid hfp
  clear hfp
  have HC := Lib.hid hC
  clear hC
  have t1 : decide ((0 : Int) < (N : Int)) = true := decide_eq_true (by omega)
  have t2 : decide (0 < N) = true := decide_eq_true (by omega)
  have HLN := Lib.hid hln
  have HWF := Lib.hid (show ∀ z ∈ bs, (Lit.int .u8 z).wf = true from by have h1 := HV.out; rw [← HN.out] at h1; exact h1.wf)
  have HNW := Lib.hid (by_news HV.out HN.out)
  have HNN := Lib.hid (by_none HV.out HN.out)
  obtain ⟨i0, hi, hz0, hz1, hz2⟩ := info_parts info8b
  clear hln
  go_enter Tryz.func8, Tryz.ntmps8
  go_wp2_with (first
    | (go_at_call 29; ((with_reducible refine (Path.rcurs_calls s g cap x y _ (by first | assumption | (simp; omega)) HQ.out (HSG.out.chg (S := []) (Chg.of_up (by exact ua)) (by simp))).mono ?_); rintro E w1 ⟨rfl, hu1⟩; have z1 := hu1.size; (try simp at z1); have RS_w1 : Row w1 s (rsC C F FM false n (.slice (some ⟨g, 0, none⟩) 1 cap)) := HR.out.up (by exact ua); have lS_w1 := RS_w1.lt; have cS_w1_17 : w1.cell? ⟨s, 17, none⟩ = some (.int .i64 F) := RS_w1.cell 17 rfl; have fS_w1_17 := RS_w1.free 17; have ls_w1 := RS_w1.lt; have ls1_w1 : s < w1.heap.size + 1 := Nat.lt_succ_of_lt ls_w1; have ls2_w1 : s < w1.heap.size + 1 + 1 := Nat.lt_succ_of_lt ls1_w1))
    | (go_at_call 30; ((with_reducible refine (rfar_calls s C F FM false n _ (.slice ba N bc) bs _ (HR.out.up (show Chg [] w _ from (by (repeat' (first | (with_reducible first | exact Chg.refl _ _ | assumption | refine Chg.alloc ?_ _ | refine Chg.drew ?_ | refine Chg.drewN ?_ _ | refine Chg.setCell ?_ ?_ _ | refine Chg.upc ?_ (by assumption) | refine Chg.call ?_ (by assumption) ?_) | (refine Or.inl ?_; (simp; done)) | (simp; done) | (simp; omega) | omega)))).up) (HV.out.up (show Chg [] w _ from (by (repeat' (first | (with_reducible first | exact Chg.refl _ _ | assumption | refine Chg.alloc ?_ _ | refine Chg.drew ?_ | refine Chg.drewN ?_ _ | refine Chg.setCell ?_ ?_ _ | refine Chg.upc ?_ (by assumption) | refine Chg.call ?_ (by assumption) ?_) | (refine Or.inl ?_; (simp; done)) | (simp; done) | (simp; omega) | omega)))).up) (by have := HN.out; omega)).mono ?_); rw [HB.out]; rintro E w3 ⟨rfl, hu3⟩; have z3 := hu3.size; (try simp at z3); have R7_w3 : Row w3 w1.heap.size #[.int .i64 x, .int .i64 y] := Row.up (show Row _ w1.heap.size #[.int .i64 x, .int .i64 y] from (by exact ra)) hu3; have l7_w3 := R7_w3.lt; have c7_w3_0 : w3.cell? ⟨w1.heap.size, 0, none⟩ = some (.int .i64 x) := R7_w3.cell 0 rfl; have f7_w3_0 := R7_w3.free 0; have c7_w3_1 : w3.cell? ⟨w1.heap.size, 1, none⟩ = some (.int .i64 y) := R7_w3.cell 1 rfl; have f7_w3_1 := R7_w3.free 1; skip))
    | (go_at_call 31; ((with_reducible refine (led_calls s C F FM false n _ x y bx bz _ (HR.out.up (show Chg [] w _ from (by (repeat' (first | (with_reducible first | exact Chg.refl _ _ | assumption | refine Chg.alloc ?_ _ | refine Chg.drew ?_ | refine Chg.drewN ?_ _ | refine Chg.setCell ?_ ?_ _ | refine Chg.upc ?_ (by assumption) | refine Chg.call ?_ (by assumption) ?_) | (refine Or.inl ?_; (simp; done)) | (simp; done) | (simp; omega) | omega)))).up)).mono ?_); rw [HM.out]; rintro E w4 ⟨rfl, hu4⟩; have z4 := hu4.size; (try simp at z4); have R7_w4 : Row w4 w1.heap.size #[.int .i64 x, .int .i64 y] := Row.up (show Row _ w1.heap.size #[.int .i64 x, .int .i64 y] from (by exact ra)) hu4; have l7_w4 := R7_w4.lt; have c7_w4_0 : w4.cell? ⟨w1.heap.size, 0, none⟩ = some (.int .i64 x) := R7_w4.cell 0 rfl; have f7_w4_0 := R7_w4.free 0; have c7_w4_1 : w4.cell? ⟨w1.heap.size, 1, none⟩ = some (.int .i64 y) := R7_w4.cell 1 rfl; have f7_w4_1 := R7_w4.free 1; have R9_w4 : Row w4 w3.heap.size #[.int .i64 bx, .int .i64 bz] := Row.up (show Row _ w3.heap.size #[.int .i64 bx, .int .i64 bz] from (by exact ra)) hu4; have l9_w4 := R9_w4.lt; have c9_w4_0 : w4.cell? ⟨w3.heap.size, 0, none⟩ = some (.int .i64 bx) := R9_w4.cell 0 rfl; have f9_w4_0 := R9_w4.free 0; have c9_w4_1 : w4.cell? ⟨w3.heap.size, 1, none⟩ = some (.int .i64 bz) := R9_w4.cell 1 rfl; have f9_w4_1 := R9_w4.free 1; have RS_w4 : Row w4 s (rsC C F FM false n (.slice (some ⟨g, 0, none⟩) 1 cap)) := HR.out.up (show Chg [] w _ from (by (repeat' (first | (with_reducible first | exact Chg.refl _ _ | assumption | refine Chg.alloc ?_ _ | refine Chg.drew ?_ | refine Chg.drewN ?_ _ | refine Chg.setCell ?_ ?_ _ | refine Chg.upc ?_ (by assumption) | refine Chg.call ?_ (by assumption) ?_) | (refine Or.inl ?_; (simp; done)) | (simp; done) | (simp; omega) | omega)))).up; have lS_w4 := RS_w4.lt; have cS_w4_26 : w4.cell? ⟨s, 26, none⟩ = some (.int .i64 n) := RS_w4.cell 26 rfl; have fS_w4_26 := RS_w4.free 26; have cS_w4_27 : w4.cell? ⟨s, 27, none⟩ = some (.slice (some ⟨g, 0, none⟩) 1 cap) := RS_w4.cell 27 rfl; have fS_w4_27 := RS_w4.free 27; have ls_w4 := RS_w4.lt; have ls1_w4 : s < w4.heap.size + 1 := Nat.lt_succ_of_lt ls_w4; have ls2_w4 : s < w4.heap.size + 1 + 1 := Nat.lt_succ_of_lt ls1_w4))
    | (go_at_call 22; ((with_reducible refine (rmove_one (w4.heap.size + 1) n g cap x y tx tz _ ⟨(show Row _ (w4.heap.size + 1) #[.int .i64 n, .slice (some ⟨g, 0, none⟩) 1 cap] from (by first | exact ra | exact (by exact ro))), HSG.out.chg (S := []) (show Chg [] w _ from (by (repeat' (first | (with_reducible first | exact Chg.refl _ _ | assumption | refine Chg.alloc ?_ _ | refine Chg.drew ?_ | refine Chg.drewN ?_ _ | refine Chg.setCell ?_ ?_ _ | refine Chg.upc ?_ (by assumption) | refine Chg.call ?_ (by assumption) ?_) | (refine Or.inl ?_; (simp; done)) | (simp; done) | (simp; omega) | omega)))) (by simp), (by simp)⟩ HTF.out).mono ?_); rintro E w6 ⟨rfl, hl6⟩; (obtain ⟨v6, hq6, hc6, ho6⟩ := hl6); (obtain ⟨a6, cap6, e6⟩ := Path.Segs.val hq6.segs); subst e6; have HU6 := Lib.hid (show Up w w6 from ((show Chg [] w _ by (repeat' (first | (with_reducible first | exact Chg.refl _ _ | assumption | refine Chg.alloc ?_ _ | refine Chg.drew ?_ | refine Chg.drewN ?_ _ | refine Chg.setCell ?_ ?_ _ | refine Chg.upc ?_ (by assumption) | refine Chg.call ?_ (by assumption) ?_) | (refine Or.inl ?_; (simp; done)) | (simp; done) | (simp; omega) | omega))).call hc6 (fun k hk => Or.inr (by simp at hk; omega))).up); have z6 := hc6.size; (try simp at z6); have R7_w6 : Row w6 w1.heap.size #[.int .i64 x, .int .i64 y] := Row.chg (show Row _ w1.heap.size #[.int .i64 x, .int .i64 y] from (by exact ra)) hc6 (by first | (simp; done) | (simp; omega)); have l7_w6 := R7_w6.lt; have c7_w6_0 : w6.cell? ⟨w1.heap.size, 0, none⟩ = some (.int .i64 x) := R7_w6.cell 0 rfl; have f7_w6_0 := R7_w6.free 0; have c7_w6_1 : w6.cell? ⟨w1.heap.size, 1, none⟩ = some (.int .i64 y) := R7_w6.cell 1 rfl; have f7_w6_1 := R7_w6.free 1; have R12_w6 : Row w6 (w4.heap.size + 1) #[.int .i64 n, .slice a6 1 cap6] := hq6.row; have l12_w6 := R12_w6.lt; have c12_w6_0 : w6.cell? ⟨w4.heap.size + 1, 0, none⟩ = some (.int .i64 n) := R12_w6.cell 0 rfl; have f12_w6_0 := R12_w6.free 0; have c12_w6_1 : w6.cell? ⟨w4.heap.size + 1, 1, none⟩ = some (.slice a6 1 cap6) := R12_w6.cell 1 rfl; have f12_w6_1 := R12_w6.free 1; have RS_w6 : Row w6 s (rsC C F FM false n (.slice (some ⟨g, 0, none⟩) 1 cap)) := HR.out.up HU6.out; have lS_w6 := RS_w6.lt; have cS_w6_25 : w6.cell? ⟨s, 25, none⟩ = some (.bool false) := RS_w6.cell 25 rfl; have fS_w6_25 := RS_w6.free 25; have cS_w6_26 : w6.cell? ⟨s, 26, none⟩ = some (.int .i64 n) := RS_w6.cell 26 rfl; have fS_w6_26 := RS_w6.free 26; have cS_w6_27 : w6.cell? ⟨s, 27, none⟩ = some (.slice (some ⟨g, 0, none⟩) 1 cap) := RS_w6.cell 27 rfl; have fS_w6_27 := RS_w6.free 27; have ls_w6 := RS_w6.lt; have ls1_w6 : s < w6.heap.size + 1 := Nat.lt_succ_of_lt ls_w6; have ls2_w6 : s < w6.heap.size + 1 + 1 := Nat.lt_succ_of_lt ls1_w6; have HSG6 := Lib.hid hq6.segs; have HO6 := Lib.hid (show ∀ b ∈ own (.slice a6 1 cap6), b ∈ own (.slice (some ⟨g, 0, none⟩) 1 cap) ∨ w.heap.size ≤ b from fun b hb => (ho6 b (own_of hb)).imp own_mem (fun h => by have := z4; have := z3; simp at h; omega)); clear hq6 ho6)))
  obtain ⟨g6, e6, hg6⟩ : ∃ g6, a6 = some ⟨g6, 0, none⟩ ∧ g6 < w6.heap.size := seg_some HSG6.out
  subst e6
  refine wp_region_held_drew (S := fun w' => w'.cell? ⟨s, 0, none⟩ = some (.int .i64 C.a) ∧ w'.cell? ⟨s, 1, none⟩ = some (.int .i64 C.b) ∧ w'.cell? ⟨s, 2, none⟩ = some (.int .i64 C.c) ∧ w'.cell? ⟨s, 3, none⟩ = some (.int .i64 C.d) ∧ w'.cell? ⟨s, 4, none⟩ = some (.int .i64 C.x) ∧ w'.cell? ⟨s, 5, none⟩ = some (.int .i64 C.y) ∧ w'.cell? ⟨s, 18, none⟩ = some (.int .i64 FM.a) ∧ w'.cell? ⟨s, 19, none⟩ = some (.int .i64 FM.b) ∧ w'.cell? ⟨s, 20, none⟩ = some (.int .i64 FM.c) ∧ w'.cell? ⟨s, 21, none⟩ = some (.int .i64 FM.d) ∧ w'.cell? ⟨s, 22, none⟩ = some (.int .i64 FM.x) ∧ w'.cell? ⟨s, 23, none⟩ = some (.int .i64 FM.y)) (by kernel_rfl) ?_ (fun hHeld => ?_)
  · exact s19_of (show Row _ s (rsC C F FM false n (.slice (some ⟨g, 0, none⟩) 1 cap)) from (by exact ra))
  refine wpAnyH_take (i := 0) (v := ?_) rfl (by kernel_rfl) (by kernel_rfl) (by kernel_rfl) (fun _ _ _ h => h) (Or.inl ⟨by rfl, ?_⟩) (by assumption) ?_
  rotate_left
  · intro w2 hSw
    (try dsimp only at hSw)
    obtain ⟨s0, s1, s2, s3, s4, s5, s6, s7, s8, s9, s10, s11⟩ := hSw
    go_simp
    (try (with_reducible rfl))
  (try simp only [Act.put, lga, lgz, lgs, lsa, lsz, lss])
  refine wpAnyH_take (i := 1) (v := ?_) rfl (by kernel_rfl) (by kernel_rfl) (by kernel_rfl) (fun _ _ _ h => h) (Or.inl ⟨by rfl, ?_⟩) (by assumption) ?_
  rotate_left
  · intro w2 hSw
    (try dsimp only at hSw)
    obtain ⟨s0, s1, s2, s3, s4, s5, s6, s7, s8, s9, s10, s11⟩ := hSw
    go_simp
    (try (with_reducible rfl))
  (try simp only [Act.put, lga, lgz, lgs, lsa, lsz, lss])
  refine wpAnyH_take (i := 2) (v := ?_) rfl (by kernel_rfl) (by kernel_rfl) (by kernel_rfl) (fun _ _ _ h => h) (Or.inl ⟨by rfl, ?_⟩) (by assumption) ?_
  rotate_left
  · intro w2 hSw
    (try dsimp only at hSw)
    obtain ⟨s0, s1, s2, s3, s4, s5, s6, s7, s8, s9, s10, s11⟩ := hSw
    go_simp
    (try (with_reducible rfl))
  (try simp only [Act.put, lga, lgz, lgs, lsa, lsz, lss])
  refine wpAnyH_take (i := 3) (v := ?_) rfl (by kernel_rfl) (by kernel_rfl) (by kernel_rfl) (fun _ _ _ h => h) (Or.inl ⟨by rfl, ?_⟩) (by assumption) ?_
  rotate_left
  · intro w2 hSw
    (try dsimp only at hSw)
    obtain ⟨s0, s1, s2, s3, s4, s5, s6, s7, s8, s9, s10, s11⟩ := hSw
    go_simp
    (try (with_reducible rfl))
  (try simp only [Act.put, lga, lgz, lgs, lsa, lsz, lss])
  refine wpAnyH_take (i := 4) (v := ?_) rfl (by kernel_rfl) (by kernel_rfl) (by kernel_rfl) (fun _ _ _ h => h) (Or.inl ⟨by rfl, ?_⟩) (by assumption) ?_
  rotate_left
  · intro w2 hSw
    (try dsimp only at hSw)
    obtain ⟨s0, s1, s2, s3, s4, s5, s6, s7, s8, s9, s10, s11⟩ := hSw
    go_simp
    (try (with_reducible rfl))
  (try simp only [Act.put, lga, lgz, lgs, lsa, lsz, lss])
  refine wpAnyH_take (i := 5) (v := ?_) rfl (by kernel_rfl) (by kernel_rfl) (by kernel_rfl) (fun _ _ _ h => h) (Or.inl ⟨by rfl, ?_⟩) (by assumption) ?_
  rotate_left
  · intro w2 hSw
    (try dsimp only at hSw)
    obtain ⟨s0, s1, s2, s3, s4, s5, s6, s7, s8, s9, s10, s11⟩ := hSw
    go_simp
    (try (with_reducible rfl))
  (try simp only [Act.put, lga, lgz, lgs, lsa, lsz, lss])
  refine wpAnyH_take (i := 6) (v := ?_) rfl (by kernel_rfl) (by kernel_rfl) (by kernel_rfl) (fun _ _ _ h => h) (Or.inl ⟨by rfl, ?_⟩) (by assumption) ?_
  rotate_left
  · intro w2 hSw
    (try dsimp only at hSw)
    obtain ⟨s0, s1, s2, s3, s4, s5, s6, s7, s8, s9, s10, s11⟩ := hSw
    go_simp
    (try (with_reducible rfl))
  (try simp only [Act.put, lga, lgz, lgs, lsa, lsz, lss])
  refine wpAnyH_take (i := 7) (v := ?_) rfl (by kernel_rfl) (by kernel_rfl) (by kernel_rfl) (fun _ _ _ h => h) (Or.inl ⟨by rfl, ?_⟩) (by assumption) ?_
  rotate_left
  · intro w2 hSw
    (try dsimp only at hSw)
    obtain ⟨s0, s1, s2, s3, s4, s5, s6, s7, s8, s9, s10, s11⟩ := hSw
    go_simp
    (try (with_reducible rfl))
  (try simp only [Act.put, lga, lgz, lgs, lsa, lsz, lss])
  refine wpAnyH_ready (rs := [8, 12]) (by decide +kernel) (by simp) ?_
  refine AllReadyH.cons rfl (fun K hK => ?_) (AllReadyH.cons rfl (fun K hK => ?_) (AllReadyH.nil))
  · skip
    (try simp only [lga, lgz, lgs])
    (go_simp; go_at_call 32; (with_reducible refine (Mat2.rconcat_calls FM.a FM.b FM.c FM.d FM.x FM.y C.a C.b C.c C.d C.x C.y _).mono ?_); rw [HC.out]; rintro E w8 ⟨rfl, hu8⟩; have z8 := hu8.size; (try simp at z8); have RS_w8 : Row w8 s (rsC C F FM false n (.slice (some ⟨g, 0, none⟩) 1 cap)) := HR.out.up (Up.call HU6.out (show Chg [] w6 w8 by (repeat' (first | (with_reducible first | exact Chg.refl _ _ | assumption | refine Chg.alloc ?_ _ | refine Chg.drew ?_ | refine Chg.drewN ?_ _ | refine Chg.setCell ?_ ?_ _ | refine Chg.upc ?_ (by assumption) | refine Chg.call ?_ (by assumption) ?_) | (refine Or.inl ?_; (simp; done)) | (simp; done) | (simp; omega) | omega))).up); have R7_w8 : Row w8 w1.heap.size #[.int .i64 x, .int .i64 y] := Row.up (show Row _ w1.heap.size #[.int .i64 x, .int .i64 y] from (by exact ra)) hu8; have l7_w8 := R7_w8.lt; have c7_w8_0 : w8.cell? ⟨w1.heap.size, 0, none⟩ = some (.int .i64 x) := R7_w8.cell 0 rfl; have f7_w8_0 := R7_w8.free 0; have c7_w8_1 : w8.cell? ⟨w1.heap.size, 1, none⟩ = some (.int .i64 y) := R7_w8.cell 1 rfl; have f7_w8_1 := R7_w8.free 1; have R12_w8 : Row w8 (w4.heap.size + 1) #[.int .i64 n, .slice (some ⟨g6, 0, none⟩) 1 cap6] := Row.up (show Row _ (w4.heap.size + 1) #[.int .i64 n, .slice (some ⟨g6, 0, none⟩) 1 cap6] from (by exact ra)) hu8;  have u68 : Up w6 w8 := (show Chg [] w6 w8 by (repeat' (first | (with_reducible first | exact Chg.refl _ _ | assumption | refine Chg.alloc ?_ _ | refine Chg.drew ?_ | refine Chg.drewN ?_ _ | refine Chg.setCell ?_ ?_ _ | refine Chg.upc ?_ (by assumption) | refine Chg.call ?_ (by assumption) ?_) | (refine Or.inl ?_; (simp; done)) | (simp; done) | (simp; omega) | omega))).up; (try dsimp only))
    refine hK.out _ _ ?_ (fun hHeld => ?_)
    · exact s19_of (RS_w8)
    clear hK K
    (try simp only [Act.put, lga, lgz, lgs, lsa, lsz, lss])
    refine wpAnyH_take (i := 9) (v := ?_) rfl (by kernel_rfl) (by kernel_rfl) (by kernel_rfl) (fun _ _ _ h => h) (Or.inl ⟨by rfl, ?_⟩) (by assumption) ?_
    rotate_left
    · intro w2 hSw
      (try dsimp only at hSw)
      obtain ⟨s0, s1, s2, s3, s4, s5, s6, s7, s8, s9, s10, s11⟩ := hSw
      go_simp
      (try (with_reducible rfl))
    (try simp only [Act.put, lga, lgz, lgs, lsa, lsz, lss])
    refine wpAnyH_take (i := 10) (v := ?_) rfl (by kernel_rfl) (by kernel_rfl) (by kernel_rfl) (fun _ _ _ h => h) (Or.inl ⟨by rfl, ?_⟩) (by assumption) ?_
    rotate_left
    · intro w2 hSw
      (try dsimp only at hSw)
      obtain ⟨s0, s1, s2, s3, s4, s5, s6, s7, s8, s9, s10, s11⟩ := hSw
      go_simp
      (try (with_reducible rfl))
    (try simp only [Act.put, lga, lgz, lgs, lsa, lsz, lss])
    refine wpAnyH_take (i := 11) (v := ?_) rfl (by kernel_rfl) (by kernel_rfl) (by kernel_rfl) (fun _ _ _ h => h) (Or.inl ⟨by rfl, ?_⟩) (by assumption) ?_
    rotate_left
    · intro w2 hSw
      (try dsimp only at hSw)
      obtain ⟨s0, s1, s2, s3, s4, s5, s6, s7, s8, s9, s10, s11⟩ := hSw
      go_simp
      (try (with_reducible rfl))
    (try simp only [Act.put, lga, lgz, lgs, lsa, lsz, lss])
    refine wpAnyH_ready (rs := [12]) (by decide +kernel) (by simp) ?_
    refine AllReadyH.cons rfl (fun K hK => ?_) (AllReadyH.nil)
    (try simp only [lga, lgz, lgs])
    (go_simp)
    refine hK.out _ _ ?_ (fun hHeld => ?_)
    · exact s19_of (RS_w8.alloc _)
    clear hK K
    (try simp only [Act.put, lga, lgz, lgs, lsa, lsz, lss])
    refine wpAnyH_ready (rs := [13]) (by decide +kernel) (by simp) ?_
    refine AllReadyH.cons rfl (fun K hK => ?_) (AllReadyH.nil)
    (try simp only [lga, lgz, lgs])
    (go_simp)
    refine hK.out _ _ ?_ (fun hHeld => ?_)
    · exact s19_of (show Row _ s (rsC C F FM false n (.slice (some ⟨g, 0, none⟩) 1 cap)) from (by exact ra))
    clear hK K
    (try simp only [Act.put, lga, lgz, lgs, lsa, lsz, lss])
    refine wpAnyH_take (i := 14) (v := ?_) rfl (by kernel_rfl) (by kernel_rfl) (by kernel_rfl) (fun _ _ _ h => h) (Or.inl ⟨by rfl, ?_⟩) (by assumption) ?_
    rotate_left
    · intro w2 hSw
      (try dsimp only at hSw)
      obtain ⟨s0, s1, s2, s3, s4, s5, s6, s7, s8, s9, s10, s11⟩ := hSw
      go_simp
      (try (with_reducible rfl))
    (try simp only [Act.put, lga, lgz, lgs, lsa, lsz, lss])
    refine wpAnyH_done (by kernel_rfl) ?_ _
    (try dsimp only)
    generalize hW : World.alloc w8 _ = wR
    have RS_wR : Row wR s (rsC C F FM false n (.slice (some ⟨g, 0, none⟩) 1 cap)) := by rw [← hW]; exact ra
    have R7_wR : Row wR w1.heap.size #[.int .i64 x, .int .i64 y] := by rw [← hW]; exact ra
    have R12_wR : Row wR (w4.heap.size + 1) #[.int .i64 n, .slice (some ⟨g6, 0, none⟩) 1 cap6] := by rw [← hW]; exact ra
    have R13_wR : Row wR w8.heap.size #[.int .i64 mm.a, .int .i64 mm.b, .int .i64 mm.c, .int .i64 mm.d, .int .i64 mm.x, .int .i64 mm.y] := by rw [← hW]; exact Row.made _ _ _
    have u6R : Up w6 wR := by rw [← hW]; exact (show Chg [] w6 _ from by (repeat' (first | (with_reducible first | exact Chg.refl _ _ | assumption | refine Chg.alloc ?_ _ | refine Chg.drew ?_ | refine Chg.drewN ?_ _ | refine Chg.setCell ?_ ?_ _ | refine Chg.upc ?_ (by assumption) | refine Chg.call ?_ (by assumption) ?_) | (refine Or.inl ?_; (simp; done)) | (simp; done) | (simp; omega) | omega))).up
    have HUR := Lib.hid (Up.call HU6.out u6R)
    have zR := u6R.size
    have lR13 := R13_wR.lt
    have l7_wR := R7_wR.lt; have c7_wR_0 : wR.cell? ⟨w1.heap.size, 0, none⟩ = some (.int .i64 x) := R7_wR.cell 0 rfl; have f7_wR_0 := R7_wR.free 0; have c7_wR_1 : wR.cell? ⟨w1.heap.size, 1, none⟩ = some (.int .i64 y) := R7_wR.cell 1 rfl; have f7_wR_1 := R7_wR.free 1; have l13_wR := R13_wR.lt; have c13_wR_0 : wR.cell? ⟨w8.heap.size, 0, none⟩ = some (.int .i64 mm.a) := R13_wR.cell 0 rfl; have f13_wR_0 := R13_wR.free 0; have c13_wR_1 : wR.cell? ⟨w8.heap.size, 1, none⟩ = some (.int .i64 mm.b) := R13_wR.cell 1 rfl; have f13_wR_1 := R13_wR.free 1; have c13_wR_2 : wR.cell? ⟨w8.heap.size, 2, none⟩ = some (.int .i64 mm.c) := R13_wR.cell 2 rfl; have f13_wR_2 := R13_wR.free 2; have c13_wR_3 : wR.cell? ⟨w8.heap.size, 3, none⟩ = some (.int .i64 mm.d) := R13_wR.cell 3 rfl; have f13_wR_3 := R13_wR.free 3; have c13_wR_4 : wR.cell? ⟨w8.heap.size, 4, none⟩ = some (.int .i64 mm.x) := R13_wR.cell 4 rfl; have f13_wR_4 := R13_wR.free 4; have c13_wR_5 : wR.cell? ⟨w8.heap.size, 5, none⟩ = some (.int .i64 mm.y) := R13_wR.cell 5 rfl; have f13_wR_5 := R13_wR.free 5
    clear hW hHeld
    go_wp2
    refine wp_region_held_drew (S := fun w' => w'.cell? ⟨s, 6, none⟩ = some (.int .i64 1) ∧ w'.cell? ⟨s, 7, none⟩ = some (.int .i64 0) ∧ w'.cell? ⟨s, 8, none⟩ = some (.int .i64 0) ∧ w'.cell? ⟨s, 9, none⟩ = some (.int .i64 0) ∧ w'.cell? ⟨s, 10, none⟩ = some (.int .i64 0) ∧ w'.cell? ⟨s, 17, none⟩ = some (.int .i64 F) ∧ w'.cell? ⟨s, 24, none⟩ = some (.slice none 0 0) ∧ w'.cell? ⟨w8.heap.size, 0, none⟩ = some (.int .i64 mm.a) ∧ w'.cell? ⟨w8.heap.size, 1, none⟩ = some (.int .i64 mm.b) ∧ w'.cell? ⟨w8.heap.size, 2, none⟩ = some (.int .i64 mm.c) ∧ w'.cell? ⟨w8.heap.size, 3, none⟩ = some (.int .i64 mm.d) ∧ w'.cell? ⟨w8.heap.size, 4, none⟩ = some (.int .i64 x) ∧ w'.cell? ⟨w8.heap.size, 5, none⟩ = some (.int .i64 y)) (by kernel_rfl) ?_ (fun hHeld => ?_)
    · exact s24_of (show Row _ s (rsC C F FM false n (.slice (some ⟨g, 0, none⟩) 1 cap)) from (by exact ra)) (show Row _ w8.heap.size #[.int .i64 mm.a, .int .i64 mm.b, .int .i64 mm.c, .int .i64 mm.d, .int .i64 x, .int .i64 y] from (by exact ro))
    refine wpAnyH_take (i := 0) (v := ?_) rfl (by kernel_rfl) (by kernel_rfl) (by kernel_rfl) (fun _ _ _ h => h) (Or.inl ⟨by rfl, ?_⟩) (by assumption) ?_
    rotate_left
    · intro w2 hSw
      (try dsimp only at hSw)
      obtain ⟨s0, s1, s2, s3, s4, s5, s6, s7, s8, s9, s10, s11, s12⟩ := hSw
      go_simp
      (try (with_reducible rfl))
    (try simp only [Act.put, lga, lgz, lgs, lsa, lsz, lss])
    refine wpAnyH_take (i := 1) (v := ?_) rfl (by kernel_rfl) (by kernel_rfl) (by kernel_rfl) (fun _ _ _ h => h) (Or.inl ⟨by rfl, ?_⟩) (by assumption) ?_
    rotate_left
    · intro w2 hSw
      (try dsimp only at hSw)
      obtain ⟨s0, s1, s2, s3, s4, s5, s6, s7, s8, s9, s10, s11, s12⟩ := hSw
      go_simp
      (try (with_reducible rfl))
    (try simp only [Act.put, lga, lgz, lgs, lsa, lsz, lss])
    refine wpAnyH_take (i := 2) (v := ?_) rfl (by kernel_rfl) (by kernel_rfl) (by kernel_rfl) (fun _ _ _ h => h) (Or.inl ⟨by rfl, ?_⟩) (by assumption) ?_
    rotate_left
    · intro w2 hSw
      (try dsimp only at hSw)
      obtain ⟨s0, s1, s2, s3, s4, s5, s6, s7, s8, s9, s10, s11, s12⟩ := hSw
      go_simp
      (try (with_reducible rfl))
    (try simp only [Act.put, lga, lgz, lgs, lsa, lsz, lss])
    refine wpAnyH_take (i := 3) (v := ?_) rfl (by kernel_rfl) (by kernel_rfl) (by kernel_rfl) (fun _ _ _ h => h) (Or.inl ⟨by rfl, ?_⟩) (by assumption) ?_
    rotate_left
    · intro w2 hSw
      (try dsimp only at hSw)
      obtain ⟨s0, s1, s2, s3, s4, s5, s6, s7, s8, s9, s10, s11, s12⟩ := hSw
      go_simp
      (try (with_reducible rfl))
    (try simp only [Act.put, lga, lgz, lgs, lsa, lsz, lss])
    refine wpAnyH_take (i := 4) (v := ?_) rfl (by kernel_rfl) (by kernel_rfl) (by kernel_rfl) (fun _ _ _ h => h) (Or.inl ⟨by rfl, ?_⟩) (by assumption) ?_
    rotate_left
    · intro w2 hSw
      (try dsimp only at hSw)
      obtain ⟨s0, s1, s2, s3, s4, s5, s6, s7, s8, s9, s10, s11, s12⟩ := hSw
      go_simp
      (try (with_reducible rfl))
    (try simp only [Act.put, lga, lgz, lgs, lsa, lsz, lss])
    refine wpAnyH_take (i := 5) (v := ?_) rfl (by kernel_rfl) (by kernel_rfl) (by kernel_rfl) (fun _ _ _ h => h) (Or.inl ⟨by rfl, ?_⟩) (by assumption) ?_
    rotate_left
    · intro w2 hSw
      (try dsimp only at hSw)
      obtain ⟨s0, s1, s2, s3, s4, s5, s6, s7, s8, s9, s10, s11, s12⟩ := hSw
      go_simp
      (try (with_reducible rfl))
    (try simp only [Act.put, lga, lgz, lgs, lsa, lsz, lss])
    refine wpAnyH_take (i := 6) (v := ?_) rfl (by kernel_rfl) (by kernel_rfl) (by kernel_rfl) (fun _ _ _ h => h) (Or.inl ⟨by rfl, ?_⟩) (by assumption) ?_
    rotate_left
    · intro w2 hSw
      (try dsimp only at hSw)
      obtain ⟨s0, s1, s2, s3, s4, s5, s6, s7, s8, s9, s10, s11, s12⟩ := hSw
      go_simp
      (try (with_reducible rfl))
    (try simp only [Act.put, lga, lgz, lgs, lsa, lsz, lss])
    refine wpAnyH_take (i := 7) (v := ?_) rfl (by kernel_rfl) (by kernel_rfl) (by kernel_rfl) (fun _ _ _ h => h) (Or.inl ⟨by rfl, ?_⟩) (by assumption) ?_
    rotate_left
    · intro w2 hSw
      (try dsimp only at hSw)
      obtain ⟨s0, s1, s2, s3, s4, s5, s6, s7, s8, s9, s10, s11, s12⟩ := hSw
      go_simp
      (try (with_reducible rfl))
    (try simp only [Act.put, lga, lgz, lgs, lsa, lsz, lss])
    refine wpAnyH_take (i := 8) (v := ?_) rfl (by kernel_rfl) (by kernel_rfl) (by kernel_rfl) (fun _ _ _ h => h) (Or.inl ⟨by rfl, ?_⟩) (by assumption) ?_
    rotate_left
    · intro w2 hSw
      (try dsimp only at hSw)
      obtain ⟨s0, s1, s2, s3, s4, s5, s6, s7, s8, s9, s10, s11, s12⟩ := hSw
      go_simp
      (try (with_reducible rfl))
    (try simp only [Act.put, lga, lgz, lgs, lsa, lsz, lss])
    refine wpAnyH_take (i := 9) (v := ?_) rfl (by kernel_rfl) (by kernel_rfl) (by kernel_rfl) (fun _ _ _ h => h) (Or.inl ⟨by rfl, ?_⟩) (by assumption) ?_
    rotate_left
    · intro w2 hSw
      (try dsimp only at hSw)
      obtain ⟨s0, s1, s2, s3, s4, s5, s6, s7, s8, s9, s10, s11, s12⟩ := hSw
      go_simp
      (try (with_reducible rfl))
    (try simp only [Act.put, lga, lgz, lgs, lsa, lsz, lss])
    refine wpAnyH_take (i := 10) (v := ?_) rfl (by kernel_rfl) (by kernel_rfl) (by kernel_rfl) (fun _ _ _ h => h) (Or.inl ⟨by rfl, ?_⟩) (by assumption) ?_
    rotate_left
    · intro w2 hSw
      (try dsimp only at hSw)
      obtain ⟨s0, s1, s2, s3, s4, s5, s6, s7, s8, s9, s10, s11, s12⟩ := hSw
      go_simp
      (try (with_reducible rfl))
    (try simp only [Act.put, lga, lgz, lgs, lsa, lsz, lss])
    refine wpAnyH_take (i := 11) (v := ?_) rfl (by kernel_rfl) (by kernel_rfl) (by kernel_rfl) (fun _ _ _ h => h) (Or.inl ⟨by rfl, ?_⟩) (by assumption) ?_
    rotate_left
    · intro w2 hSw
      (try dsimp only at hSw)
      obtain ⟨s0, s1, s2, s3, s4, s5, s6, s7, s8, s9, s10, s11, s12⟩ := hSw
      go_simp
      (try (with_reducible rfl))
    (try simp only [Act.put, lga, lgz, lgs, lsa, lsz, lss])
    refine wpAnyH_take (i := 12) (v := ?_) rfl (by kernel_rfl) (by kernel_rfl) (by kernel_rfl) (fun _ _ _ h => h) (Or.inl ⟨by rfl, ?_⟩) (by assumption) ?_
    rotate_left
    · intro w2 hSw
      (try dsimp only at hSw)
      obtain ⟨s0, s1, s2, s3, s4, s5, s6, s7, s8, s9, s10, s11, s12⟩ := hSw
      go_simp
      (try (with_reducible rfl))
    (try simp only [Act.put, lga, lgz, lgs, lsa, lsz, lss])
    refine wpAnyH_take (i := 13) (v := ?_) rfl (by kernel_rfl) (by kernel_rfl) (by kernel_rfl) (fun _ _ _ h => h) (Or.inl ⟨by rfl, ?_⟩) (by assumption) ?_
    rotate_left
    · intro w2 hSw
      (try dsimp only at hSw)
      obtain ⟨s0, s1, s2, s3, s4, s5, s6, s7, s8, s9, s10, s11, s12⟩ := hSw
      go_simp
      (try (with_reducible rfl))
    (try simp only [Act.put, lga, lgz, lgs, lsa, lsz, lss])
    refine wpAnyH_take (i := 15) (v := ?_) rfl (by kernel_rfl) (by kernel_rfl) (by kernel_rfl) (fun _ _ _ h => h) (Or.inl ⟨by rfl, ?_⟩) (by assumption) ?_
    rotate_left
    · intro w2 hSw
      (try dsimp only at hSw)
      obtain ⟨s0, s1, s2, s3, s4, s5, s6, s7, s8, s9, s10, s11, s12⟩ := hSw
      go_simp
      (try (with_reducible rfl))
    (try simp only [Act.put, lga, lgz, lgs, lsa, lsz, lss])
    refine wpAnyH_ready (rs := [14]) (by decide +kernel) (by simp) ?_
    refine AllReadyH.cons rfl (fun K hK => ?_) (AllReadyH.nil)
    (try simp only [lga, lgz, lgs])
    (go_simp)
    refine hK.out _ _ ?_ (fun hHeld => ?_)
    · exact s24_of (show Row _ s (rsC C F FM false n (.slice (some ⟨g, 0, none⟩) 1 cap)) from (by exact ra)) (show Row _ w8.heap.size #[.int .i64 mm.a, .int .i64 mm.b, .int .i64 mm.c, .int .i64 mm.d, .int .i64 x, .int .i64 y] from (by exact ro))
    clear hK K
    (try simp only [Act.put, lga, lgz, lgs, lsa, lsz, lss])
    refine wpAnyH_ready (rs := [16]) (by decide +kernel) (by simp) ?_
    refine AllReadyH.cons rfl (fun K hK => ?_) (AllReadyH.nil)
    (try simp only [lga, lgz, lgs])
    (rw [if_pos (by rfl)]; refine wp_append_any rfl (.tmp 105) (.tmp 106) 27 rfl w.heap.size 5 i0 (.int .u8 0) 1 1 Tryz.underlying27 hi hz0 hz1 hz2 rfl (by decide) (.slice (some ⟨wR.heap.size, 0, none⟩) 0 0) 0 [] rfl (made_any (by first | exact made_by (by first | (simp; done) | rfl) (by omega) | exact raw_upB (made_by (by first | (simp; done) | rfl) (by omega)) (Up.drew (Up.refl _)))) ba N bc (byC bs) rfl (by have := HN.out; simp [byC]; omega) HNN.out (fun ad e j u hj => (HNW.out ad e j u hj _ (Up.call HU6.out (show Chg [] w6 _ from (by (repeat' (first | (with_reducible first | exact Chg.refl _ _ | assumption | refine Chg.alloc ?_ _ | refine Chg.drew ?_ | refine Chg.drewN ?_ _ | refine Chg.setCell ?_ ?_ _ | refine Chg.upc ?_ (by assumption) | refine Chg.call ?_ (by assumption) ?_) | (refine Or.inl ?_; (simp; done)) | (simp; done) | (simp; omega) | omega)))).up))) (byC_one bs) (by unfold maxLen; omega) (by omega) (by first | (simp; done) | (simp; omega) | omega) ?_; intro vb w9 hown hgr; have z9 := hgr.size; (try simp at z9); have hC9 : Chg [w8.heap.size, wR.heap.size] wR w9 := Chg.grown (show Chg [w8.heap.size, wR.heap.size] wR _ from (by (repeat' (first | (with_reducible first | exact Chg.refl _ _ | assumption | refine Chg.alloc ?_ _ | refine Chg.drew ?_ | refine Chg.drewN ?_ _ | refine Chg.setCell ?_ ?_ _ | refine Chg.upc ?_ (by assumption) | refine Chg.call ?_ (by assumption) ?_) | (refine Or.inl ?_; (simp; done)) | (simp; done) | (simp; omega) | omega)))) hgr (fun k hk => Or.inl (by simp only [Value.ownBlock, Option.some.injEq] at hk; simp [hk])); (obtain ⟨va, vc, e9, hv9, hf9⟩ := by_had (N := N) (base := w.heap.size) hown (by omega) HN.out HWF.out); subst e9; have RS_w9 : Row w9 s (rsC C F FM false n (.slice (some ⟨g, 0, none⟩) 1 cap)) := RS_wR.chg hC9 (by simp; omega); have R12_w9 : Row w9 (w4.heap.size + 1) #[.int .i64 n, .slice (some ⟨g6, 0, none⟩) 1 cap6] := R12_wR.chg hC9 (by simp; omega); have R13_w9 : Row w9 w8.heap.size #[.int .i64 mm.a, .int .i64 mm.b, .int .i64 mm.c, .int .i64 mm.d, .int .i64 x, .int .i64 y] := Row.chg (S := [wR.heap.size]) (show Row _ w8.heap.size #[.int .i64 mm.a, .int .i64 mm.b, .int .i64 mm.c, .int .i64 mm.d, .int .i64 x, .int .i64 y] from (by exact ro)) (Chg.grown (Chg.refl _ _) hgr (fun k hk => Or.inl (by simp only [Value.ownBlock, Option.some.injEq] at hk; simp [hk]))) (by simp; omega); have HV9 := Lib.hid hv9; have HF9 := Lib.hid hf9; have HU9 := Lib.hid (show Up w w9 from ((Chg.of_up (S := []) HUR.out).call hC9 (fun k hk => Or.inr (by simp at hk; omega))).up); clear hown hgr hv9 hf9)
    refine hK.out _ _ ?_ (fun hHeld => ?_)
    · exact s24_of (RS_w9) (R13_w9)
    clear hK K
    (try simp only [Act.put, lga, lgz, lgs, lsa, lsz, lss])
    refine wpAnyH_take (i := 17) (v := ?_) rfl (by kernel_rfl) (by kernel_rfl) (by kernel_rfl) (fun _ _ _ h => h) (Or.inl ⟨by rfl, ?_⟩) (by assumption) ?_
    rotate_left
    · intro w2 hSw
      (try dsimp only at hSw)
      obtain ⟨s0, s1, s2, s3, s4, s5, s6, s7, s8, s9, s10, s11, s12⟩ := hSw
      go_simp
      (try (with_reducible rfl))
    (try simp only [Act.put, lga, lgz, lgs, lsa, lsz, lss])
    refine wpAnyH_ready (rs := [18]) (by decide +kernel) (by simp) ?_
    refine AllReadyH.cons rfl (fun K hK => ?_) (AllReadyH.nil)
    (try simp only [lga, lgz, lgs])
    (go_simp; go_at_call 33; (with_reducible refine (rlay_callsN m rv l F ⟨mm.a, mm.b, mm.c, mm.d, x, y⟩ va vc N bs HN.out _ (HH.out.rm.up HU9.out) (HH.out.up HU9.out).its HLN.out).mono ?_); rintro E w10 ⟨rfl, rv10, hm10, hi10, hc10, hf10⟩; have z10 := hc10.size; have HM10 := Lib.hid hm10; have HI10 := Lib.hid hi10; have HF10 := Lib.hid hf10; have HSM2 := HSM.out; have RS_w10 : Row w10 s (rsC C F FM false n (.slice (some ⟨g, 0, none⟩) 1 cap)) := RS_w9.chg hc10 (by simpa using HSM.out); have lS_w10 := RS_w10.lt; have cS_w10_26 : w10.cell? ⟨s, 26, none⟩ = some (.int .i64 n) := RS_w10.cell 26 rfl; have fS_w10_26 := RS_w10.free 26; have cS_w10_27 : w10.cell? ⟨s, 27, none⟩ = some (.slice (some ⟨g, 0, none⟩) 1 cap) := RS_w10.cell 27 rfl; have fS_w10_27 := RS_w10.free 27; have R12_w10 : Row w10 (w4.heap.size + 1) #[.int .i64 n, .slice (some ⟨g6, 0, none⟩) 1 cap6] := R12_w9.chg hc10 (by simp; omega); have l12_w10 := R12_w10.lt; have c12_w10_0 : w10.cell? ⟨w4.heap.size + 1, 0, none⟩ = some (.int .i64 n) := R12_w10.cell 0 rfl; have f12_w10_0 := R12_w10.free 0; have c12_w10_1 : w10.cell? ⟨w4.heap.size + 1, 1, none⟩ = some (.slice (some ⟨g6, 0, none⟩) 1 cap6) := R12_w10.cell 1 rfl; have f12_w10_1 := R12_w10.free 1; clear hm10 hi10 hf10; (try dsimp only))
    refine hK.out _ _ ?_ (fun hHeld => ?_)
    · exact s24_of (RS_w10) (R13_w9.chg hc10 (by simp; omega))
    clear hK K
    (try simp only [Act.put, lga, lgz, lgs, lsa, lsz, lss])
    refine wpAnyH_take (i := 19) (v := ?_) rfl (by kernel_rfl) (by kernel_rfl) (by kernel_rfl) (fun _ _ _ h => h) (Or.inl ⟨by rfl, ?_⟩) (by assumption) ?_
    rotate_left
    · intro w2 hSw
      (try dsimp only at hSw)
      obtain ⟨s0, s1, s2, s3, s4, s5, s6, s7, s8, s9, s10, s11, s12⟩ := hSw
      go_simp
      (try (with_reducible rfl))
    (try simp only [Act.put, lga, lgz, lgs, lsa, lsz, lss])
    refine wpAnyH_done (by kernel_rfl) ?_ _
    clear hHeld
    go_wp2
    go_ret
    have HU69 := Lib.hid (show Up w6 w9 from ((Chg.of_up (S := []) u6R).call hC9 (fun k hk => Or.inr (by simp at hk; omega))).up)
    refine ⟨rfl, Lettered.laid HH.out HU9.out (k := ⟨⟨F, ⟨mm.a, mm.b, mm.c, mm.d, x, y⟩, bs⟩, none, 0, va, vc⟩) (by have := HN.out; show 0 < bs.length; omega) (by have h1 := HV9.out; rw [← HN.out] at h1; exact h1) (fun b hb => HF9.out b (by have h1 : b ∈ own (.slice va bs.length vc) := hb; rw [HN.out] at h1; exact h1)) HM10.out HI10.out hc10 (fun g hg => Nat.le_trans HU9.out.size (HF10.out g hg)) (v6 := .slice (some ⟨g6, 0, none⟩) 1 cap6) (HSG6.out.chg (S := []) (Chg.of_up HU69.out) (by simp)) HO6.out (show Row _ s (rsC C F FM false n (.slice (some ⟨g6, 0, none⟩) 1 cap6)) from (by exact ro)) ?_⟩
    exact ((Chg.refl [s] w10).setCell (Or.inl (by simp)) _).setCell (Or.inl (by simp)) _
  · skip
    (try simp only [lga, lgz, lgs])
    (go_simp)
    refine hK.out _ _ ?_ (fun hHeld => ?_)
    · exact s19_of (show Row _ s (rsC C F FM false n (.slice (some ⟨g, 0, none⟩) 1 cap)) from (by exact ra))
    clear hK K
    (try simp only [Act.put, lga, lgz, lgs, lsa, lsz, lss])
    refine wpAnyH_ready (rs := [8]) (by decide +kernel) (by simp) ?_
    refine AllReadyH.cons rfl (fun K hK => ?_) (AllReadyH.nil)
    (try simp only [lga, lgz, lgs])
    (go_simp; go_at_call 32; (with_reducible refine (Mat2.rconcat_calls FM.a FM.b FM.c FM.d FM.x FM.y C.a C.b C.c C.d C.x C.y _).mono ?_); rw [HC.out]; rintro E w8 ⟨rfl, hu8⟩; have z8 := hu8.size; (try simp at z8); have RS_w8 : Row w8 s (rsC C F FM false n (.slice (some ⟨g, 0, none⟩) 1 cap)) := HR.out.up (Up.call HU6.out (show Chg [] w6 w8 by (repeat' (first | (with_reducible first | exact Chg.refl _ _ | assumption | refine Chg.alloc ?_ _ | refine Chg.drew ?_ | refine Chg.drewN ?_ _ | refine Chg.setCell ?_ ?_ _ | refine Chg.upc ?_ (by assumption) | refine Chg.call ?_ (by assumption) ?_) | (refine Or.inl ?_; (simp; done)) | (simp; done) | (simp; omega) | omega))).up); have R7_w8 : Row w8 w1.heap.size #[.int .i64 x, .int .i64 y] := Row.up (show Row _ w1.heap.size #[.int .i64 x, .int .i64 y] from (by exact ra)) hu8; have l7_w8 := R7_w8.lt; have c7_w8_0 : w8.cell? ⟨w1.heap.size, 0, none⟩ = some (.int .i64 x) := R7_w8.cell 0 rfl; have f7_w8_0 := R7_w8.free 0; have c7_w8_1 : w8.cell? ⟨w1.heap.size, 1, none⟩ = some (.int .i64 y) := R7_w8.cell 1 rfl; have f7_w8_1 := R7_w8.free 1; have R12_w8 : Row w8 (w4.heap.size + 1) #[.int .i64 n, .slice (some ⟨g6, 0, none⟩) 1 cap6] := Row.up (show Row _ (w4.heap.size + 1) #[.int .i64 n, .slice (some ⟨g6, 0, none⟩) 1 cap6] from (by exact ra)) hu8; have R13_w8 : Row w8 w6.heap.size #[.int .i64 0, .int .i64 0, .int .i64 0, .int .i64 0, .int .i64 0, .int .i64 0] := Row.up (show Row _ w6.heap.size #[.int .i64 0, .int .i64 0, .int .i64 0, .int .i64 0, .int .i64 0, .int .i64 0] from (by exact ra)) hu8; have l13_w8 := R13_w8.lt; have c13_w8_0 : w8.cell? ⟨w6.heap.size, 0, none⟩ = some (.int .i64 0) := R13_w8.cell 0 rfl; have f13_w8_0 := R13_w8.free 0; have c13_w8_1 : w8.cell? ⟨w6.heap.size, 1, none⟩ = some (.int .i64 0) := R13_w8.cell 1 rfl; have f13_w8_1 := R13_w8.free 1; have c13_w8_2 : w8.cell? ⟨w6.heap.size, 2, none⟩ = some (.int .i64 0) := R13_w8.cell 2 rfl; have f13_w8_2 := R13_w8.free 2; have c13_w8_3 : w8.cell? ⟨w6.heap.size, 3, none⟩ = some (.int .i64 0) := R13_w8.cell 3 rfl; have f13_w8_3 := R13_w8.free 3; have c13_w8_4 : w8.cell? ⟨w6.heap.size, 4, none⟩ = some (.int .i64 0) := R13_w8.cell 4 rfl; have f13_w8_4 := R13_w8.free 4; have c13_w8_5 : w8.cell? ⟨w6.heap.size, 5, none⟩ = some (.int .i64 0) := R13_w8.cell 5 rfl; have f13_w8_5 := R13_w8.free 5;  have u68 : Up w6 w8 := (show Chg [] w6 w8 by (repeat' (first | (with_reducible first | exact Chg.refl _ _ | assumption | refine Chg.alloc ?_ _ | refine Chg.drew ?_ | refine Chg.drewN ?_ _ | refine Chg.setCell ?_ ?_ _ | refine Chg.upc ?_ (by assumption) | refine Chg.call ?_ (by assumption) ?_) | (refine Or.inl ?_; (simp; done)) | (simp; done) | (simp; omega) | omega))).up; (try dsimp only))
    refine hK.out _ _ ?_ (fun hHeld => ?_)
    · exact s19_of (RS_w8)
    clear hK K
    (try simp only [Act.put, lga, lgz, lgs, lsa, lsz, lss])
    refine wpAnyH_take (i := 9) (v := ?_) rfl (by kernel_rfl) (by kernel_rfl) (by kernel_rfl) (fun _ _ _ h => h) (Or.inl ⟨by rfl, ?_⟩) (by assumption) ?_
    rotate_left
    · intro w2 hSw
      (try dsimp only at hSw)
      obtain ⟨s0, s1, s2, s3, s4, s5, s6, s7, s8, s9, s10, s11⟩ := hSw
      go_simp
      (try (with_reducible rfl))
    (try simp only [Act.put, lga, lgz, lgs, lsa, lsz, lss])
    refine wpAnyH_take (i := 10) (v := ?_) rfl (by kernel_rfl) (by kernel_rfl) (by kernel_rfl) (fun _ _ _ h => h) (Or.inl ⟨by rfl, ?_⟩) (by assumption) ?_
    rotate_left
    · intro w2 hSw
      (try dsimp only at hSw)
      obtain ⟨s0, s1, s2, s3, s4, s5, s6, s7, s8, s9, s10, s11⟩ := hSw
      go_simp
      (try (with_reducible rfl))
    (try simp only [Act.put, lga, lgz, lgs, lsa, lsz, lss])
    refine wpAnyH_take (i := 11) (v := ?_) rfl (by kernel_rfl) (by kernel_rfl) (by kernel_rfl) (fun _ _ _ h => h) (Or.inl ⟨by rfl, ?_⟩) (by assumption) ?_
    rotate_left
    · intro w2 hSw
      (try dsimp only at hSw)
      obtain ⟨s0, s1, s2, s3, s4, s5, s6, s7, s8, s9, s10, s11⟩ := hSw
      go_simp
      (try (with_reducible rfl))
    (try simp only [Act.put, lga, lgz, lgs, lsa, lsz, lss])
    refine wpAnyH_ready (rs := [13]) (by decide +kernel) (by simp) ?_
    refine AllReadyH.cons rfl (fun K hK => ?_) (AllReadyH.nil)
    (try simp only [lga, lgz, lgs])
    (go_simp)
    refine hK.out _ _ ?_ (fun hHeld => ?_)
    · exact s19_of (show Row _ s (rsC C F FM false n (.slice (some ⟨g, 0, none⟩) 1 cap)) from (by exact ra))
    clear hK K
    (try simp only [Act.put, lga, lgz, lgs, lsa, lsz, lss])
    refine wpAnyH_take (i := 14) (v := ?_) rfl (by kernel_rfl) (by kernel_rfl) (by kernel_rfl) (fun _ _ _ h => h) (Or.inl ⟨by rfl, ?_⟩) (by assumption) ?_
    rotate_left
    · intro w2 hSw
      (try dsimp only at hSw)
      obtain ⟨s0, s1, s2, s3, s4, s5, s6, s7, s8, s9, s10, s11⟩ := hSw
      go_simp
      (try (with_reducible rfl))
    (try simp only [Act.put, lga, lgz, lgs, lsa, lsz, lss])
    refine wpAnyH_done (by kernel_rfl) ?_ _
    (try dsimp only)
    generalize hW : World.setCell (World.setCell (World.setCell (World.setCell (World.setCell (World.setCell _ _ _) _ _) _ _) _ _) _ _) _ _ = wR
    have RS_wR : Row wR s (rsC C F FM false n (.slice (some ⟨g, 0, none⟩) 1 cap)) := by rw [← hW]; exact ra
    have R7_wR : Row wR w1.heap.size #[.int .i64 x, .int .i64 y] := by rw [← hW]; exact ra
    have R12_wR : Row wR (w4.heap.size + 1) #[.int .i64 n, .slice (some ⟨g6, 0, none⟩) 1 cap6] := by rw [← hW]; exact ra
    have R13_wR : Row wR w6.heap.size #[.int .i64 mm.a, .int .i64 mm.b, .int .i64 mm.c, .int .i64 mm.d, .int .i64 mm.x, .int .i64 mm.y] := by rw [← hW]; exact (by exact ro)
    have u6R : Up w6 wR := by rw [← hW]; exact (show Chg [] w6 _ from by (repeat' (first | (with_reducible first | exact Chg.refl _ _ | assumption | refine Chg.alloc ?_ _ | refine Chg.drew ?_ | refine Chg.drewN ?_ _ | refine Chg.setCell ?_ ?_ _ | refine Chg.upc ?_ (by assumption) | refine Chg.call ?_ (by assumption) ?_) | (refine Or.inl ?_; (simp; done)) | (simp; done) | (simp; omega) | omega))).up
    have HUR := Lib.hid (Up.call HU6.out u6R)
    have zR := u6R.size
    have lR13 := R13_wR.lt
    have l7_wR := R7_wR.lt; have c7_wR_0 : wR.cell? ⟨w1.heap.size, 0, none⟩ = some (.int .i64 x) := R7_wR.cell 0 rfl; have f7_wR_0 := R7_wR.free 0; have c7_wR_1 : wR.cell? ⟨w1.heap.size, 1, none⟩ = some (.int .i64 y) := R7_wR.cell 1 rfl; have f7_wR_1 := R7_wR.free 1; have l13_wR := R13_wR.lt; have c13_wR_0 : wR.cell? ⟨w6.heap.size, 0, none⟩ = some (.int .i64 mm.a) := R13_wR.cell 0 rfl; have f13_wR_0 := R13_wR.free 0; have c13_wR_1 : wR.cell? ⟨w6.heap.size, 1, none⟩ = some (.int .i64 mm.b) := R13_wR.cell 1 rfl; have f13_wR_1 := R13_wR.free 1; have c13_wR_2 : wR.cell? ⟨w6.heap.size, 2, none⟩ = some (.int .i64 mm.c) := R13_wR.cell 2 rfl; have f13_wR_2 := R13_wR.free 2; have c13_wR_3 : wR.cell? ⟨w6.heap.size, 3, none⟩ = some (.int .i64 mm.d) := R13_wR.cell 3 rfl; have f13_wR_3 := R13_wR.free 3; have c13_wR_4 : wR.cell? ⟨w6.heap.size, 4, none⟩ = some (.int .i64 mm.x) := R13_wR.cell 4 rfl; have f13_wR_4 := R13_wR.free 4; have c13_wR_5 : wR.cell? ⟨w6.heap.size, 5, none⟩ = some (.int .i64 mm.y) := R13_wR.cell 5 rfl; have f13_wR_5 := R13_wR.free 5
    clear hW hHeld
    go_wp2
    refine wp_region_held_drew (S := fun w' => w'.cell? ⟨s, 6, none⟩ = some (.int .i64 1) ∧ w'.cell? ⟨s, 7, none⟩ = some (.int .i64 0) ∧ w'.cell? ⟨s, 8, none⟩ = some (.int .i64 0) ∧ w'.cell? ⟨s, 9, none⟩ = some (.int .i64 0) ∧ w'.cell? ⟨s, 10, none⟩ = some (.int .i64 0) ∧ w'.cell? ⟨s, 17, none⟩ = some (.int .i64 F) ∧ w'.cell? ⟨s, 24, none⟩ = some (.slice none 0 0) ∧ w'.cell? ⟨w6.heap.size, 0, none⟩ = some (.int .i64 mm.a) ∧ w'.cell? ⟨w6.heap.size, 1, none⟩ = some (.int .i64 mm.b) ∧ w'.cell? ⟨w6.heap.size, 2, none⟩ = some (.int .i64 mm.c) ∧ w'.cell? ⟨w6.heap.size, 3, none⟩ = some (.int .i64 mm.d) ∧ w'.cell? ⟨w6.heap.size, 4, none⟩ = some (.int .i64 x) ∧ w'.cell? ⟨w6.heap.size, 5, none⟩ = some (.int .i64 y)) (by kernel_rfl) ?_ (fun hHeld => ?_)
    · exact s24_of (show Row _ s (rsC C F FM false n (.slice (some ⟨g, 0, none⟩) 1 cap)) from (by exact ra)) (show Row _ w6.heap.size #[.int .i64 mm.a, .int .i64 mm.b, .int .i64 mm.c, .int .i64 mm.d, .int .i64 x, .int .i64 y] from (by exact ro))
    refine wpAnyH_take (i := 0) (v := ?_) rfl (by kernel_rfl) (by kernel_rfl) (by kernel_rfl) (fun _ _ _ h => h) (Or.inl ⟨by rfl, ?_⟩) (by assumption) ?_
    rotate_left
    · intro w2 hSw
      (try dsimp only at hSw)
      obtain ⟨s0, s1, s2, s3, s4, s5, s6, s7, s8, s9, s10, s11, s12⟩ := hSw
      go_simp
      (try (with_reducible rfl))
    (try simp only [Act.put, lga, lgz, lgs, lsa, lsz, lss])
    refine wpAnyH_take (i := 1) (v := ?_) rfl (by kernel_rfl) (by kernel_rfl) (by kernel_rfl) (fun _ _ _ h => h) (Or.inl ⟨by rfl, ?_⟩) (by assumption) ?_
    rotate_left
    · intro w2 hSw
      (try dsimp only at hSw)
      obtain ⟨s0, s1, s2, s3, s4, s5, s6, s7, s8, s9, s10, s11, s12⟩ := hSw
      go_simp
      (try (with_reducible rfl))
    (try simp only [Act.put, lga, lgz, lgs, lsa, lsz, lss])
    refine wpAnyH_take (i := 2) (v := ?_) rfl (by kernel_rfl) (by kernel_rfl) (by kernel_rfl) (fun _ _ _ h => h) (Or.inl ⟨by rfl, ?_⟩) (by assumption) ?_
    rotate_left
    · intro w2 hSw
      (try dsimp only at hSw)
      obtain ⟨s0, s1, s2, s3, s4, s5, s6, s7, s8, s9, s10, s11, s12⟩ := hSw
      go_simp
      (try (with_reducible rfl))
    (try simp only [Act.put, lga, lgz, lgs, lsa, lsz, lss])
    refine wpAnyH_take (i := 3) (v := ?_) rfl (by kernel_rfl) (by kernel_rfl) (by kernel_rfl) (fun _ _ _ h => h) (Or.inl ⟨by rfl, ?_⟩) (by assumption) ?_
    rotate_left
    · intro w2 hSw
      (try dsimp only at hSw)
      obtain ⟨s0, s1, s2, s3, s4, s5, s6, s7, s8, s9, s10, s11, s12⟩ := hSw
      go_simp
      (try (with_reducible rfl))
    (try simp only [Act.put, lga, lgz, lgs, lsa, lsz, lss])
    refine wpAnyH_take (i := 4) (v := ?_) rfl (by kernel_rfl) (by kernel_rfl) (by kernel_rfl) (fun _ _ _ h => h) (Or.inl ⟨by rfl, ?_⟩) (by assumption) ?_
    rotate_left
    · intro w2 hSw
      (try dsimp only at hSw)
      obtain ⟨s0, s1, s2, s3, s4, s5, s6, s7, s8, s9, s10, s11, s12⟩ := hSw
      go_simp
      (try (with_reducible rfl))
    (try simp only [Act.put, lga, lgz, lgs, lsa, lsz, lss])
    refine wpAnyH_take (i := 5) (v := ?_) rfl (by kernel_rfl) (by kernel_rfl) (by kernel_rfl) (fun _ _ _ h => h) (Or.inl ⟨by rfl, ?_⟩) (by assumption) ?_
    rotate_left
    · intro w2 hSw
      (try dsimp only at hSw)
      obtain ⟨s0, s1, s2, s3, s4, s5, s6, s7, s8, s9, s10, s11, s12⟩ := hSw
      go_simp
      (try (with_reducible rfl))
    (try simp only [Act.put, lga, lgz, lgs, lsa, lsz, lss])
    refine wpAnyH_take (i := 6) (v := ?_) rfl (by kernel_rfl) (by kernel_rfl) (by kernel_rfl) (fun _ _ _ h => h) (Or.inl ⟨by rfl, ?_⟩) (by assumption) ?_
    rotate_left
    · intro w2 hSw
      (try dsimp only at hSw)
      obtain ⟨s0, s1, s2, s3, s4, s5, s6, s7, s8, s9, s10, s11, s12⟩ := hSw
      go_simp
      (try (with_reducible rfl))
    (try simp only [Act.put, lga, lgz, lgs, lsa, lsz, lss])
    refine wpAnyH_take (i := 7) (v := ?_) rfl (by kernel_rfl) (by kernel_rfl) (by kernel_rfl) (fun _ _ _ h => h) (Or.inl ⟨by rfl, ?_⟩) (by assumption) ?_
    rotate_left
    · intro w2 hSw
      (try dsimp only at hSw)
      obtain ⟨s0, s1, s2, s3, s4, s5, s6, s7, s8, s9, s10, s11, s12⟩ := hSw
      go_simp
      (try (with_reducible rfl))
    (try simp only [Act.put, lga, lgz, lgs, lsa, lsz, lss])
    refine wpAnyH_take (i := 8) (v := ?_) rfl (by kernel_rfl) (by kernel_rfl) (by kernel_rfl) (fun _ _ _ h => h) (Or.inl ⟨by rfl, ?_⟩) (by assumption) ?_
    rotate_left
    · intro w2 hSw
      (try dsimp only at hSw)
      obtain ⟨s0, s1, s2, s3, s4, s5, s6, s7, s8, s9, s10, s11, s12⟩ := hSw
      go_simp
      (try (with_reducible rfl))
    (try simp only [Act.put, lga, lgz, lgs, lsa, lsz, lss])
    refine wpAnyH_take (i := 9) (v := ?_) rfl (by kernel_rfl) (by kernel_rfl) (by kernel_rfl) (fun _ _ _ h => h) (Or.inl ⟨by rfl, ?_⟩) (by assumption) ?_
    rotate_left
    · intro w2 hSw
      (try dsimp only at hSw)
      obtain ⟨s0, s1, s2, s3, s4, s5, s6, s7, s8, s9, s10, s11, s12⟩ := hSw
      go_simp
      (try (with_reducible rfl))
    (try simp only [Act.put, lga, lgz, lgs, lsa, lsz, lss])
    refine wpAnyH_take (i := 10) (v := ?_) rfl (by kernel_rfl) (by kernel_rfl) (by kernel_rfl) (fun _ _ _ h => h) (Or.inl ⟨by rfl, ?_⟩) (by assumption) ?_
    rotate_left
    · intro w2 hSw
      (try dsimp only at hSw)
      obtain ⟨s0, s1, s2, s3, s4, s5, s6, s7, s8, s9, s10, s11, s12⟩ := hSw
      go_simp
      (try (with_reducible rfl))
    (try simp only [Act.put, lga, lgz, lgs, lsa, lsz, lss])
    refine wpAnyH_take (i := 11) (v := ?_) rfl (by kernel_rfl) (by kernel_rfl) (by kernel_rfl) (fun _ _ _ h => h) (Or.inl ⟨by rfl, ?_⟩) (by assumption) ?_
    rotate_left
    · intro w2 hSw
      (try dsimp only at hSw)
      obtain ⟨s0, s1, s2, s3, s4, s5, s6, s7, s8, s9, s10, s11, s12⟩ := hSw
      go_simp
      (try (with_reducible rfl))
    (try simp only [Act.put, lga, lgz, lgs, lsa, lsz, lss])
    refine wpAnyH_take (i := 12) (v := ?_) rfl (by kernel_rfl) (by kernel_rfl) (by kernel_rfl) (fun _ _ _ h => h) (Or.inl ⟨by rfl, ?_⟩) (by assumption) ?_
    rotate_left
    · intro w2 hSw
      (try dsimp only at hSw)
      obtain ⟨s0, s1, s2, s3, s4, s5, s6, s7, s8, s9, s10, s11, s12⟩ := hSw
      go_simp
      (try (with_reducible rfl))
    (try simp only [Act.put, lga, lgz, lgs, lsa, lsz, lss])
    refine wpAnyH_take (i := 13) (v := ?_) rfl (by kernel_rfl) (by kernel_rfl) (by kernel_rfl) (fun _ _ _ h => h) (Or.inl ⟨by rfl, ?_⟩) (by assumption) ?_
    rotate_left
    · intro w2 hSw
      (try dsimp only at hSw)
      obtain ⟨s0, s1, s2, s3, s4, s5, s6, s7, s8, s9, s10, s11, s12⟩ := hSw
      go_simp
      (try (with_reducible rfl))
    (try simp only [Act.put, lga, lgz, lgs, lsa, lsz, lss])
    refine wpAnyH_take (i := 15) (v := ?_) rfl (by kernel_rfl) (by kernel_rfl) (by kernel_rfl) (fun _ _ _ h => h) (Or.inl ⟨by rfl, ?_⟩) (by assumption) ?_
    rotate_left
    · intro w2 hSw
      (try dsimp only at hSw)
      obtain ⟨s0, s1, s2, s3, s4, s5, s6, s7, s8, s9, s10, s11, s12⟩ := hSw
      go_simp
      (try (with_reducible rfl))
    (try simp only [Act.put, lga, lgz, lgs, lsa, lsz, lss])
    refine wpAnyH_ready (rs := [14]) (by decide +kernel) (by simp) ?_
    refine AllReadyH.cons rfl (fun K hK => ?_) (AllReadyH.nil)
    (try simp only [lga, lgz, lgs])
    (go_simp)
    refine hK.out _ _ ?_ (fun hHeld => ?_)
    · exact s24_of (show Row _ s (rsC C F FM false n (.slice (some ⟨g, 0, none⟩) 1 cap)) from (by exact ra)) (show Row _ w6.heap.size #[.int .i64 mm.a, .int .i64 mm.b, .int .i64 mm.c, .int .i64 mm.d, .int .i64 x, .int .i64 y] from (by exact ro))
    clear hK K
    (try simp only [Act.put, lga, lgz, lgs, lsa, lsz, lss])
    refine wpAnyH_ready (rs := [16]) (by decide +kernel) (by simp) ?_
    refine AllReadyH.cons rfl (fun K hK => ?_) (AllReadyH.nil)
    (try simp only [lga, lgz, lgs])
    (rw [if_pos (by rfl)]; refine wp_append_any rfl (.tmp 105) (.tmp 106) 27 rfl w.heap.size 5 i0 (.int .u8 0) 1 1 Tryz.underlying27 hi hz0 hz1 hz2 rfl (by decide) (.slice (some ⟨wR.heap.size, 0, none⟩) 0 0) 0 [] rfl (made_any (by first | exact made_by (by first | (simp; done) | rfl) (by omega) | exact raw_upB (made_by (by first | (simp; done) | rfl) (by omega)) (Up.drew (Up.refl _)))) ba N bc (byC bs) rfl (by have := HN.out; simp [byC]; omega) HNN.out (fun ad e j u hj => (HNW.out ad e j u hj _ (Up.call HU6.out (show Chg [] w6 _ from (by (repeat' (first | (with_reducible first | exact Chg.refl _ _ | assumption | refine Chg.alloc ?_ _ | refine Chg.drew ?_ | refine Chg.drewN ?_ _ | refine Chg.setCell ?_ ?_ _ | refine Chg.upc ?_ (by assumption) | refine Chg.call ?_ (by assumption) ?_) | (refine Or.inl ?_; (simp; done)) | (simp; done) | (simp; omega) | omega)))).up))) (byC_one bs) (by unfold maxLen; omega) (by omega) (by first | (simp; done) | (simp; omega) | omega) ?_; intro vb w9 hown hgr; have z9 := hgr.size; (try simp at z9); have hC9 : Chg [w6.heap.size, wR.heap.size] wR w9 := Chg.grown (show Chg [w6.heap.size, wR.heap.size] wR _ from (by (repeat' (first | (with_reducible first | exact Chg.refl _ _ | assumption | refine Chg.alloc ?_ _ | refine Chg.drew ?_ | refine Chg.drewN ?_ _ | refine Chg.setCell ?_ ?_ _ | refine Chg.upc ?_ (by assumption) | refine Chg.call ?_ (by assumption) ?_) | (refine Or.inl ?_; (simp; done)) | (simp; done) | (simp; omega) | omega)))) hgr (fun k hk => Or.inl (by simp only [Value.ownBlock, Option.some.injEq] at hk; simp [hk])); (obtain ⟨va, vc, e9, hv9, hf9⟩ := by_had (N := N) (base := w.heap.size) hown (by omega) HN.out HWF.out); subst e9; have RS_w9 : Row w9 s (rsC C F FM false n (.slice (some ⟨g, 0, none⟩) 1 cap)) := RS_wR.chg hC9 (by simp; omega); have R12_w9 : Row w9 (w4.heap.size + 1) #[.int .i64 n, .slice (some ⟨g6, 0, none⟩) 1 cap6] := R12_wR.chg hC9 (by simp; omega); have R13_w9 : Row w9 w6.heap.size #[.int .i64 mm.a, .int .i64 mm.b, .int .i64 mm.c, .int .i64 mm.d, .int .i64 x, .int .i64 y] := Row.chg (S := [wR.heap.size]) (show Row _ w6.heap.size #[.int .i64 mm.a, .int .i64 mm.b, .int .i64 mm.c, .int .i64 mm.d, .int .i64 x, .int .i64 y] from (by exact ro)) (Chg.grown (Chg.refl _ _) hgr (fun k hk => Or.inl (by simp only [Value.ownBlock, Option.some.injEq] at hk; simp [hk]))) (by simp; omega); have HV9 := Lib.hid hv9; have HF9 := Lib.hid hf9; have HU9 := Lib.hid (show Up w w9 from ((Chg.of_up (S := []) HUR.out).call hC9 (fun k hk => Or.inr (by simp at hk; omega))).up); clear hown hgr hv9 hf9)
    refine hK.out _ _ ?_ (fun hHeld => ?_)
    · exact s24_of (RS_w9) (R13_w9)
    clear hK K
    (try simp only [Act.put, lga, lgz, lgs, lsa, lsz, lss])
    refine wpAnyH_take (i := 17) (v := ?_) rfl (by kernel_rfl) (by kernel_rfl) (by kernel_rfl) (fun _ _ _ h => h) (Or.inl ⟨by rfl, ?_⟩) (by assumption) ?_
    rotate_left
    · intro w2 hSw
      (try dsimp only at hSw)
      obtain ⟨s0, s1, s2, s3, s4, s5, s6, s7, s8, s9, s10, s11, s12⟩ := hSw
      go_simp
      (try (with_reducible rfl))
    (try simp only [Act.put, lga, lgz, lgs, lsa, lsz, lss])
    refine wpAnyH_ready (rs := [18]) (by decide +kernel) (by simp) ?_
    refine AllReadyH.cons rfl (fun K hK => ?_) (AllReadyH.nil)
    (try simp only [lga, lgz, lgs])
    (go_simp; go_at_call 33; (with_reducible refine (rlay_callsN m rv l F ⟨mm.a, mm.b, mm.c, mm.d, x, y⟩ va vc N bs HN.out _ (HH.out.rm.up HU9.out) (HH.out.up HU9.out).its HLN.out).mono ?_); rintro E w10 ⟨rfl, rv10, hm10, hi10, hc10, hf10⟩; have z10 := hc10.size; have HM10 := Lib.hid hm10; have HI10 := Lib.hid hi10; have HF10 := Lib.hid hf10; have HSM2 := HSM.out; have RS_w10 : Row w10 s (rsC C F FM false n (.slice (some ⟨g, 0, none⟩) 1 cap)) := RS_w9.chg hc10 (by simpa using HSM.out); have lS_w10 := RS_w10.lt; have cS_w10_26 : w10.cell? ⟨s, 26, none⟩ = some (.int .i64 n) := RS_w10.cell 26 rfl; have fS_w10_26 := RS_w10.free 26; have cS_w10_27 : w10.cell? ⟨s, 27, none⟩ = some (.slice (some ⟨g, 0, none⟩) 1 cap) := RS_w10.cell 27 rfl; have fS_w10_27 := RS_w10.free 27; have R12_w10 : Row w10 (w4.heap.size + 1) #[.int .i64 n, .slice (some ⟨g6, 0, none⟩) 1 cap6] := R12_w9.chg hc10 (by simp; omega); have l12_w10 := R12_w10.lt; have c12_w10_0 : w10.cell? ⟨w4.heap.size + 1, 0, none⟩ = some (.int .i64 n) := R12_w10.cell 0 rfl; have f12_w10_0 := R12_w10.free 0; have c12_w10_1 : w10.cell? ⟨w4.heap.size + 1, 1, none⟩ = some (.slice (some ⟨g6, 0, none⟩) 1 cap6) := R12_w10.cell 1 rfl; have f12_w10_1 := R12_w10.free 1; clear hm10 hi10 hf10; (try dsimp only))
    refine hK.out _ _ ?_ (fun hHeld => ?_)
    · exact s24_of (RS_w10) (R13_w9.chg hc10 (by simp; omega))
    clear hK K
    (try simp only [Act.put, lga, lgz, lgs, lsa, lsz, lss])
    refine wpAnyH_take (i := 19) (v := ?_) rfl (by kernel_rfl) (by kernel_rfl) (by kernel_rfl) (fun _ _ _ h => h) (Or.inl ⟨by rfl, ?_⟩) (by assumption) ?_
    rotate_left
    · intro w2 hSw
      (try dsimp only at hSw)
      obtain ⟨s0, s1, s2, s3, s4, s5, s6, s7, s8, s9, s10, s11, s12⟩ := hSw
      go_simp
      (try (with_reducible rfl))
    (try simp only [Act.put, lga, lgz, lgs, lsa, lsz, lss])
    refine wpAnyH_done (by kernel_rfl) ?_ _
    clear hHeld
    go_wp2
    go_ret
    have HU69 := Lib.hid (show Up w6 w9 from ((Chg.of_up (S := []) u6R).call hC9 (fun k hk => Or.inr (by simp at hk; omega))).up)
    refine ⟨rfl, Lettered.laid HH.out HU9.out (k := ⟨⟨F, ⟨mm.a, mm.b, mm.c, mm.d, x, y⟩, bs⟩, none, 0, va, vc⟩) (by have := HN.out; show 0 < bs.length; omega) (by have h1 := HV9.out; rw [← HN.out] at h1; exact h1) (fun b hb => HF9.out b (by have h1 : b ∈ own (.slice va bs.length vc) := hb; rw [HN.out] at h1; exact h1)) HM10.out HI10.out hc10 (fun g hg => Nat.le_trans HU9.out.size (HF10.out g hg)) (v6 := .slice (some ⟨g6, 0, none⟩) 1 cap6) (HSG6.out.chg (S := []) (Chg.of_up HU69.out) (by simp)) HO6.out (show Row _ s (rsC C F FM false n (.slice (some ⟨g6, 0, none⟩) 1 cap6)) from (by exact ro)) ?_⟩
    exact ((Chg.refl [s] w10).setCell (Or.inl (by simp)) _).setCell (Or.inl (by simp)) _

end Go.Proofs.YtjdbefpfjhdmoaaGreatDoor.Sh
end

section
namespace Go.Proofs.YtjdbefpfjhdmoaaGreatDoor.Sh
open Go.Proofs.YtjdbefpfjhdmoaaGreatDoor.ZGD
open Go.ChangeShapes Go.WideShapes Go.ChangeAt Go.RowKit
open Go.Proofs.YtjdbefpfjhdmoaaGreatDoor.Gs
open Go.Proofs.YtjdbefpfjhdmoaaGreatDoor.FixM (fits)
open Go.Proofs.YtjdbefpfjhdmoaaGreatDoor.MatM (M6 concat)
open Go.Proofs.YtjdbefpfjhdmoaaGreatDoor.PathM
set_option linter.unusedVariables false
set_option linter.unusedSimpArgs false

theorem rlet_calls (s m : Nat) (C : M6) (F : Int) (FM : M6) (dk : Bool) (n : Int) (vl rv : Value) (l : List Cl) (x y : Int) (ba : Option Addr) (bc : Nat) (bs : List Int) (w : World) (h : Ref w s m C F FM dk n vl rv (T1 n x y) l)
    (hv : Ints .u8 w (.slice ba bs.length bc) bs) (hl : bs.length ≤ 65535) (hln : l.length < 4096) :
    Calls Tryz.prog 8 #[.pointer (some ⟨m, 0, none⟩), .pointer (some ⟨s, 0, none⟩), .slice ba bs.length bc] w fun E w' =>
      E = .returned (.int .i64 (letR C F FM dk x y bs).1) ∧ Lettered w s m C F FM dk n vl rv l (T1 n (letR C F FM dk x y bs).2.1.1 (letR C F FM dk x y bs).2.1.2) (letR C F FM dk x y bs).2.2 w' := by
  obtain ⟨g, cap, rfl⟩ : ∃ g cap, vl = .slice (some ⟨g, 0, none⟩) 1 cap := by
    rcases h.sg.form with ⟨_, e2⟩ | ⟨g', c', e, _, _, h1⟩
    · cases e2
    · exact ⟨g', c', e⟩
  have stop : ∀ e, (letR C F FM dk x y bs) = (e, (x, y), []) → Calls Tryz.prog 8 #[.pointer (some ⟨m, 0, none⟩), .pointer (some ⟨s, 0, none⟩), .slice ba bs.length bc] w (fun E w' => E = .returned (.int .i64 e) ∧ Up w w') →
      Calls Tryz.prog 8 #[.pointer (some ⟨m, 0, none⟩), .pointer (some ⟨s, 0, none⟩), .slice ba bs.length bc] w fun E w' =>
      E = .returned (.int .i64 (letR C F FM dk x y bs).1) ∧ Lettered w s m C F FM dk n (.slice (some ⟨g, 0, none⟩) 1 cap) rv l (T1 n (letR C F FM dk x y bs).2.1.1 (letR C F FM dk x y bs).2.1.2) (letR C F FM dk x y bs).2.2 w' := by
    intro e he hc
    rw [he]
    exact hc.mono (by rintro E w' ⟨rfl, hu⟩; exact ⟨rfl, Lettered.same h hu⟩)
  by_cases hF : F < 0
  · exact stop 7 (by unfold letR; rw [if_pos hF]) (rlet_nofont s m C F FM dk n g cap rv l x y ba bc _ bs w h rfl hv hl (decide_eq_true hF))
  have hF0 : decide (F < 0) = false := decide_eq_false hF
  obtain ⟨⟨⟨bx, bz⟩, be⟩, hB⟩ : ∃ X, farR F FM bs = X := ⟨_, rfl⟩
  by_cases hb : be = 0
  rotate_left
  · exact stop be (by unfold letR; rw [if_neg hF, hB, if_pos hb]) (rlet_far s m C F FM dk n g cap rv l x y ba bc _ bs w h rfl hv hl hF0 bx bz be hB hb)
  subst hb
  obtain ⟨⟨⟨tx, tz⟩, te⟩, hM⟩ : ∃ X, movedR C x y bx bz = X := ⟨_, rfl⟩
  by_cases ht : te = 0
  rotate_left
  · exact stop te (by unfold letR; rw [if_neg hF, hB]; simp only [hM]; rw [if_neg (by decide), if_pos ht]) (rlet_mov s m C F FM dk n g cap rv l x y ba bc _ bs w h rfl hv hl hF0 bx bz tx tz te hB hM ht)
  subst ht
  have hfp : fitsP (tx, tz) = true := by have := moved_fits C x y bx bz; rwa [hM] at this
  by_cases h0 : 0 < bs.length
  rotate_left
  · have e : letR C F FM dk x y bs = (0, (tx, tz), []) := by unfold letR; rw [if_neg hF, hB]; simp only [hM]; rw [if_neg (by decide), if_neg (by decide), if_neg (fun h => h0 h.1)]
    rw [e]
    exact rlet_empty s m C F FM dk n g cap rv l x y ba bc _ bs w h rfl hv hl hF0 bx bz tx tz hB hM hfp (by omega)
  cases dk
  rotate_left
  · have e : letR C F FM true x y bs = (0, (tx, tz), []) := by unfold letR; rw [if_neg hF, hB]; simp only [hM]; rw [if_neg (by decide), if_neg (by decide), if_neg (fun h => by cases h.2)]
    rw [e]
    exact rlet_dark s m C F FM true n g cap rv l x y ba bc _ bs w h rfl hv hl hF0 bx bz tx tz hB hM hfp h0 rfl
  obtain ⟨⟨mm, me⟩, hC⟩ : ∃ X, concat FM C = X := ⟨_, rfl⟩
  by_cases hm : me = 0
  rotate_left
  · exact stop me (by unfold letR; rw [if_neg hF, hB]; simp only [hM]; rw [if_neg (by decide), if_neg (by decide), if_pos ⟨h0, trivial⟩, hC, if_pos hm]) (rlet_bad s m C F FM false n g cap rv l x y ba bc _ bs w h rfl hv hl hF0 bx bz tx tz hB hM hfp h0 rfl mm me hC hm)
  subst hm
  have e : letR C F FM false x y bs = (0, (tx, tz), [⟨F, ⟨mm.a, mm.b, mm.c, mm.d, x, y⟩, bs⟩]) := by unfold letR matR; rw [if_neg hF, hB]; simp only [hM]; rw [if_neg (by decide), if_neg (by decide), if_pos ⟨h0, trivial⟩, hC, if_neg (fun h => h rfl)]
  rw [e]
  exact rlet_good s m C F FM false n g cap rv l x y ba bc _ bs w h rfl hv hl hF0 bx bz tx tz hB hM hfp h0 rfl mm hC hln
/-- without a font, or a place -/
theorem rlet_noplace (s m : Nat) (C : M6) (F : Int) (FM : M6) (dk : Bool) (n : Int) (vl rv : Value) (l : List Cl) (ba : Option Addr) (bc : Nat) (bs : List Int) (w : World) (h : Ref w s m C F FM dk n vl rv ⟨n, [], Z, Z⟩ l) :
    Calls Tryz.prog 8 #[.pointer (some ⟨m, 0, none⟩), .pointer (some ⟨s, 0, none⟩), .slice ba bs.length bc] w fun E w' => E = .returned (.int .i64 (if F < 0 then 7 else 10)) ∧ Up w w' := by
  have HR := Lib.hid h.rs
  have ls := h.rs.lt
  obtain ⟨a, c, rfl⟩ := Path.Segs.val h.sg
  have HQ := Lib.hid (show w.cell? ⟨s, 27, none⟩ = some (.slice a 0 c) from h.rs.cell 27 rfl)
  clear h
  by_cases hF : F < 0
  · rw [if_pos hF]
    have t0 : decide (F < 0) = true := decide_eq_true hF
    clear hF
    go_enter Tryz.func8, Tryz.ntmps8
    go_wp2_with (go_at_call 29; ((with_reducible refine (Path.rcurs_empty s a c _ (by first | assumption | (simp; omega)) HQ.out).mono ?_); rintro E w1 ⟨rfl, hu1⟩; have RS1 := HR.out.up hu1; have c17 : w1.cell? ⟨s, 17, none⟩ = some (.int .i64 F) := RS1.cell 17 rfl; have ls1 := RS1.lt; have ls2 : s < w1.heap.size + 1 := Nat.lt_succ_of_lt ls1))
    go_ret
    exact ⟨rfl, by exact ua⟩
  · rw [if_neg hF]
    have t0 : decide (F < 0) = false := decide_eq_false hF
    clear hF
    go_enter Tryz.func8, Tryz.ntmps8
    go_wp2_with (go_at_call 29; ((with_reducible refine (Path.rcurs_empty s a c _ (by first | assumption | (simp; omega)) HQ.out).mono ?_); rintro E w1 ⟨rfl, hu1⟩; have RS1 := HR.out.up hu1; have c17 : w1.cell? ⟨s, 17, none⟩ = some (.int .i64 F) := RS1.cell 17 rfl; have ls1 := RS1.lt; have ls2 : s < w1.heap.size + 1 := Nat.lt_succ_of_lt ls1))
    go_ret
    exact ⟨rfl, by exact ua⟩

end Go.Proofs.YtjdbefpfjhdmoaaGreatDoor.Sh
end
