/- Package gstate: own and Now of a state with a dash, without clips. No condition but a length that an append bears. -/
import Derived.Test.YteddlahklilncaaGA
import Derived.Deep.AppendLies
import Derived.Deep.MidRow
import Derived.Deep.Cut
namespace Go.Proofs.Yteddlahklilncaa.Pp
open List renaming getElem_toArray → lga, getElem_cons_zero → lgz, getElem_cons_succ → lgs, setIfInBounds_toArray → lsa, set_cons_zero → lsz, set_cons_succ → lss
open Go.ChangeShapes Go.WideShapes Go.ChangeAt Go.RowKit
open Go.Proofs.Yteddlahklilncaa.FixM (fits)
open Go.Proofs.Yteddlahklilncaa.MatM (M6)
open Go.Proofs.Yteddlahklilncaa.PathM (Seg St Z segCells)
open Go.Proofs.Yteddlahklilncaa.Path (own own_mem own_of)
open Go.Proofs.Yteddlahklilncaa.Gs (gsC stC infoSt)
open Go.Proofs.Yteddlahklilncaa.Pt (Src cloneInts raw_up)
set_option linter.unusedVariables false
set_option linter.unusedSimpArgs false

theorem ints_nil (w : World) : Ints .i64 w (.slice none 0 0) [] := ⟨none, 0, rfl, Nat.le_refl _, by decide, fun _ => ⟨rfl, rfl⟩, fun h => absurd h (by decide), fun z hz => by cases hz⟩
theorem nil_own {g : Nat} (h : (Value.slice none 0 0).ownBlock = some g) : False := by cases h
set_option maxRecDepth 8000 in
set_option maxHeartbeats 8000000 in
theorem walk_good (a0 a1 a3 a4 : Int) (a2 : Option Addr) (N cap2 : Nat) (z2 : List Int) (b0 : 0 ≤ a0 ∧ a0 ≤ 65535) (b1 : 0 ≤ a1 ∧ a1 ≤ 65535) (b3 : 0 ≤ a3 ∧ a3 ≤ 255) (b4 : 0 ≤ a4 ∧ a4 ≤ 255) (hl : N ≤ 11) {w : World} (w2 : IsRow .u16 w a2 N cap2 z2) :
    Calls Try.prog 3 #[.int .u16 a0, .int .u16 a1, .slice a2 N cap2, .int .u8 a3, .int .u8 a4] w fun e w' => e = .returned (.bool true) ∧ Up w w' := by
  obtain ⟨i0, hi, hz0, hz1, hz2⟩ := Pt.info_parts3 Pt.infoI1
  have W2 := Lib.hid w2
  clear w2
  have hNd : decide (11 < N) = false := decide_eq_false (by omega)
  have HB0 := Lib.hid b0
  have HB1 := Lib.hid b1
  obtain ⟨b0a, b0b⟩ := b0
  obtain ⟨b1a, b1b⟩ := b1
  obtain ⟨b3a, b3b⟩ := b3
  obtain ⟨b4a, b4b⟩ := b4
  go_enter Try.func3, Try.ntmps3
  go_upto_region 6 with (first
    | (go_at_call 4; ((with_reducible refine (Pt.new_calls 65536 65536 2 (by decide +kernel) (by decide +kernel) (by decide) (by decide) _).mono ?_); rintro E w1 ⟨cn, rfl, hc1, hr1, hu1⟩; have HU1 := Lib.hid hu1; have HR1 := Lib.hid hr1; have lc1 := hr1.lt; have zz1 := hu1.size; clear hr1))
    | (go_at_call 5; ((with_reducible refine (Gs.gnew_calls 3 40 _).mono ?_); rintro E w2 ⟨gb, pb, rfl, hb2, hp2, hpg, hg2, hpi2, hu2⟩; have HU2 := Lib.hid hu2; have HG2 := Lib.hid hg2; have HP2 := Lib.hid hpi2; have lg2 := hg2.lt; have lp2 := hpi2.row.lt; have zz2 := hu2.size; clear hg2 hpi2))
    | (go_at_call 6; ((with_reducible refine (Pt.answers_calls _).mono ?_); rintro E w3 ⟨rfl, hu3⟩; have HU3 := Lib.hid hu3; have zz3 := hu3.size; have HG3 := Lib.hid (HG2.out.up hu3))))
  generalize hk : a3 % 9 + 1 = k
  have hk1 : 1 ≤ k := by omega
  have hk9 : k ≤ 9 := by omega
  clear hk
  obtain ⟨q, hq⟩ : ∃ q : Nat, a4 % 4 = (q : Int) := ⟨(a4 % 4).toNat, by omega⟩
  have hq4 : q < 4 := by omega
  have hq4i : (q : Int) < 4 := by omega
  go_wp2_with (first
    | (go_at_call 7; ((with_reducible refine (concat1 gb pb k hk1 hk9 _ HG3.out).mono ?_); rintro E w4 ⟨rfl, hg4, hc4⟩; have HC4 := Lib.hid hc4; have HG4 := Lib.hid hg4; have z4 := hc4.size; clear hg4 hc4))
    | (go_at_call 7; ((with_reducible refine (concat2 gb pb q k hk1 hk9 hq4 _ (HG4.out.up (Up.alloc (Up.refl w4) _))).mono ?_); rintro E w5 ⟨rfl, hg5, hc5⟩; have HC5 := Lib.hid hc5; have HG5 := Lib.hid hg5; have z5 := hc5.size; (try simp at z5); clear hg5 hc5))
    | (refine wpList_load_mid rfl 32 (.tmp 63) rfl w4.heap.size (q * 6) (by first | rfl | simp) #[.int .i64 (turnM q).a, .int .i64 (turnM q).b, .int .i64 (turnM q).c, .int .i64 (turnM q).d, .int .i64 (turnM q).x, .int .i64 (turnM q).y].toList _ (turn_rng (show Row _ w4.heap.size #[.int .i64 65536, .int .i64 0, .int .i64 0, .int .i64 65536, .int .i64 0, .int .i64 0, .int .i64 0, .int .i64 65536, .int .i64 (-65536), .int .i64 0, .int .i64 0, .int .i64 0, .int .i64 (-65536), .int .i64 0, .int .i64 0, .int .i64 (-65536), .int .i64 0, .int .i64 0, .int .i64 0, .int .i64 (-65536), .int .i64 65536, .int .i64 0, .int .i64 0, .int .i64 0] by (repeat' (with_reducible first | assumption | (refine Row.at _ _ ?_; (simp; done)) | refine Row.alloc ?_ _ | refine Row.drew ?_ | refine Row.drewN ?_ _ | refine Row.other ?_ (by first | (simp; done) | (simp; omega) | omega) _ | refine Row.up ?_ (by assumption) | refine Row.chg ?_ (by assumption) (by first | (simp; done) | (simp; omega))))) q hq4) Try.underlying32 rfl (by kernel_rfl) ?_))
  have hgw : w.heap.size ≤ gb := by omega
  have hcn : w.heap.size ≤ cn := hc1
  have hgc : gb ≠ cn := by omega
  have hpc : pb ≠ cn := by omega
  have HC45 : Hid (Chg [gb] w3 w5) := Lib.hid (((HC4.out).call (Chg.of_up (S := [gb]) (Up.alloc (Up.refl w4) _)) (fun k hk => Or.inl hk)).call HC5.out (fun k hk => Or.inl hk))
  have HUw3 : Hid (Up w w3) := Lib.hid (Up.call (Up.call HU1.out HU2.out) HU3.out)
  have HU5 : Hid (Up w w5) := Lib.hid (up_new HUw3.out HC45.out (fun b hb => by simp at hb; omega))
  have HR5 : Hid (Row w5 cn #[.int .i64 65536, .int .i64 65536, .slice none 0 0, .int .i64 2, .slice none 0 0]) := Lib.hid (Row.chg ((HR1.out.up HU2.out).up HU3.out) HC45.out (by simpa using fun e => hgc e.symm))
  have HP5 : Hid (Path.PathIs w5 pb (.slice none 0 0) ⟨40, [], Z, Z⟩) := Lib.hid ((HP2.out.up HU3.out).chg HC45.out (by simpa using hpg) (fun g hg => by cases hg))
  obtain ⟨zs, hzs⟩ : ∃ zs, z2.take N = zs := ⟨_, rfl⟩
  have hNc : N ≤ cap2 ∧ z2.length = cap2 := by
    rcases W2.out with ⟨_, h1, h2, h3⟩ | ⟨_, _, h1, _, h2, _⟩
    · subst h1 h2 h3; exact ⟨Nat.le_refl _, rfl⟩
    · exact ⟨h1, h2⟩
  have hzl : zs.length = N := by rw [← hzs, List.length_take]; omega
  have HZL := Lib.hid hzl
  have HZ : Hid (∀ z ∈ zs, 0 ≤ z ∧ z ≤ 65535) := Lib.hid (fun z hz => by
    have h1 : z ∈ z2 := by rw [← hzs] at hz; exact List.mem_of_mem_take hz
    rcases W2.out with ⟨_, _, _, h3⟩ | ⟨_, _, _, _, _, _, h3⟩
    · subst h3; cases h1
    · have := h3 z h1
      simp [Lit.wf, IntKind.min, IntKind.max, IntKind.signed, IntKind.bits] at this
      omega)
  have HA : Hid (0 < N → ∃ b o, a2 = some ⟨b, o, none⟩ ∧ b < w.heap.size ∧ ∀ i, i < N → w.cell? ⟨b, o + i, none⟩ = some (.int .u16 (zs.getD i 0))) := Lib.hid (fun h0 => by
    obtain ⟨b, o, h1, _, _, h2, h3, _, h4⟩ := W2.out.at (by omega)
    refine ⟨b, o, h1, h4, fun i hi => ?_⟩
    rw [h3 i (by omega), ← hzs]
    congr 2
    simp [List.getD, List.getElem?_take, hi])
  obtain ⟨B, hB⟩ : ∃ B, w5.heap.size = B := ⟨_, rfl⟩
  have hwB : w.heap.size ≤ B := by have := HU5.out.size; omega
  have HB := Lib.hid hB
  clear hB hzs hNc hzl hu1 hu2 hu3
  have HT0 : Hid (Two w5 B (.slice none 0 0) (.slice none 0 0) zs k 0) := Lib.hid ⟨World.ownsRow_nil _ _ _ _, World.ownsRow_nil _ _ _ _, (fun g h => by cases h), fun _ => ⟨rfl, rfl⟩⟩
  go_loopw [16, 17, 18, 19] (fun s16 s17 s18 s19 wr => ∃ (i : Nat) (x1 : Option Addr) (y1 : Nat) (x2 : Option Addr) (y2 : Nat), i ≤ N ∧ s16 = .slice x1 i y1 ∧ s17 = .slice x2 i y2 ∧ s18 = .int .i64 (zs.take i).sum ∧ s19 = .int .i64 i ∧ Hid (Two wr B (.slice x1 i y1) (.slice x2 i y2) zs k i) ∧ Hid (Up w5 wr)) (fun _ _ _ s19 _ => N - (intOf s19).toNat)
  case atStart => exact ⟨0, none, 0, none, 0, Nat.zero_le _, rfl, rfl, rfl, rfl, HT0, Lib.hid (Up.refl _)⟩
  case round =>
    obtain ⟨i, x1, y1, x2, y2, hiN, rfl, rfl, rfl, rfl, HT, HUR⟩ := hrel
    have hpb := sum_low (zs.take i) (fun z hz => HZ.out z (List.mem_of_mem_take hz))
    have hpl : (zs.take i).length ≤ 11 := by simp; omega
    have hBr : B ≤ wr.heap.size := by have := HUR.out.size; have := HB.out; omega
    by_cases hlt : i < N
    · obtain ⟨b, o, rfl, hbl, hcells⟩ := HA.out (by omega)
      have hiz : i < zs.length := by rw [HZL.out]; exact hlt
      obtain ⟨x, hx⟩ : ∃ x, zs[i] = x := ⟨_, rfl⟩
      have HX : Hid (zs[i]? = some x) := Lib.hid (by rw [List.getElem?_eq_getElem hiz, hx])
      have hxz := HZ.out x (by rw [← hx]; exact List.getElem_mem hiz)
      have hx0 := hxz.1
      have hx1 := hxz.2
      have hxk0 : 0 ≤ x * k := Int.mul_nonneg hx0 (by omega)
      have hxk1 : x * k ≤ 65535 * 9 := Int.mul_le_mul hx1 hk9 (by omega) (by omega)
      have q0 : w.cell? ⟨b, o + i, none⟩ = some (.int .u16 x) := by
        have := hcells i hlt
        rwa [show zs.getD i 0 = x by simp [List.getD, List.getElem?_eq_getElem hiz, hx]] at this
      have q5 : w5.cell? ⟨b, o + i, none⟩ = some (.int .u16 x) := (HU5.out.cells.1 b (o + i) hbl).trans q0
      have lb5 : b < w5.heap.size := Nat.lt_of_lt_of_le hbl HU5.out.size
      have qr : wr.cell? ⟨b, o + i, none⟩ = some (.int .u16 x) := (HUR.out.cells.1 b (o + i) lb5).trans q5
      have lbr : b < wr.heap.size := Nat.lt_of_lt_of_le lb5 HUR.out.size
      have HSU : Hid ((zs.take (i + 1)).sum = (zs.take i).sum + x) := Lib.hid (by rw [List.take_succ_eq_append_getElem hiz, List.sum_append, hx]; simp)
      clear hx hcells hxz q0
      (go_wp2_with (first
        | (at_builtin; refine wpList_append_lies _ rfl (.tmp 72) (.tmp 78) 34 rfl B 3 i0 _ 1 8 Try.underlying34 hi hz0 hz1 hz2 rfl (by decide) (.slice x1 i y1) i ((zs.take i).map (Value.int .i64)) rfl (raw_up HT.out.o1 (Up.alloc (Up.refl wr) _)) ⟨wr.heap.size, 0, none⟩ 1 1 [.int .i64 x] rfl rfl (news_at (show Row _ _ #[.int .i64 x] by (repeat' (with_reducible first | assumption | (refine Row.at _ _ ?_; (simp; done)) | refine Row.alloc ?_ _ | refine Row.drew ?_ | refine Row.drewN ?_ _ | refine Row.other ?_ (by first | (simp; done) | (simp; omega) | omega) _ | refine Row.up ?_ (by assumption) | refine Row.chg ?_ (by assumption) (by first | (simp; done) | (simp; omega))))) rfl) (fun u hu => by rw [List.mem_singleton] at hu; subst hu; rfl) (by decide) (by unfold maxLen; omega) (by omega) (by have := HB.out; simp; omega) _ rfl ?_; intro g6 c6 w6 hown6 hgr6 hat6 hg6; have HC6 : Hid (Chg (own (.slice x1 i y1)) (wr.alloc (.cells #[.int .i64 x] 3)) w6) := Lib.hid (Chg.grown (Chg.of_up (Up.refl _)) hgr6 (fun k0 hk0 => Or.inl (own_mem hk0))); have HU6 : Hid (Up w5 w6) := Lib.hid (up_new (Up.alloc HUR.out _) HC6.out (fun b hb => by have := (HT.out.o1.lt b (own_of hb)).1; have := HB.out; omega)); have HF6 := Lib.hid (HT.out.first (Up.alloc (Up.refl wr) (.cells #[.int .i64 x] 3)) HC6.out hat6); have HO6 := Lib.hid hown6; have z6 := HU6.out.size; have q6 := (HU6.out.cells.1 b (o + i) lb5).trans q5; clear hown6 hgr6 hat6)
        | (at_builtin; refine wpList_append_lies _ rfl (.tmp 80) (.tmp 88) 34 rfl B 3 i0 _ 1 8 Try.underlying34 hi hz0 hz1 hz2 rfl (by decide) (.slice x2 i y2) i (((zs.take i).map (fun z => z * k)).map (Value.int .i64)) rfl (raw_up HF6.out.1 (Up.alloc (Up.refl w6) _)) ⟨w6.heap.size, 0, none⟩ 1 1 [.int .i64 (x * k)] rfl rfl (news_at (show Row _ _ #[.int .i64 (x * k)] by (repeat' (with_reducible first | assumption | (refine Row.at _ _ ?_; (simp; done)) | refine Row.alloc ?_ _ | refine Row.drew ?_ | refine Row.drewN ?_ _ | refine Row.other ?_ (by first | (simp; done) | (simp; omega) | omega) _ | refine Row.up ?_ (by assumption) | refine Row.chg ?_ (by assumption) (by first | (simp; done) | (simp; omega))))) rfl) (fun u hu => by rw [List.mem_singleton] at hu; subst hu; rfl) (by decide) (by unfold maxLen; omega) (by omega) (by have := HB.out; simp; omega) _ rfl ?_; intro g7 c7 w7 hown7 hgr7 hat7 hg7; have HC7 : Hid (Chg (own (.slice x2 i y2)) (w6.alloc (.cells #[.int .i64 (x * k)] 3)) w7) := Lib.hid (Chg.grown (Chg.of_up (Up.refl _)) hgr7 (fun k0 hk0 => Or.inl (own_mem hk0))); have HU7 : Hid (Up w5 w7) := Lib.hid (up_new (Up.alloc HU6.out _) HC7.out (fun b hb => by have := (HF6.out.1.lt b (own_of hb)).1; have := HB.out; omega)); have HT7 := Lib.hid (Two.more HX.out HO6.out HF6.out.2 (Up.alloc (Up.refl w6) (.cells #[.int .i64 (x * k)] 3)) HC7.out hat7 hown7); have z7 := HU7.out.size; have q7 := (HU7.out.cells.1 b (o + i) lb5).trans q5; clear hown7 hgr7 hat7)))
      go_roundw
      case rel => exact ⟨i + 1, some ⟨g6, 0, none⟩, c6, some ⟨g7, 0, none⟩, c7, by omega, rfl, rfl, by rw [HSU.out], by go_num, HT7, HU7⟩
      case measure => simp [intOf]; omega
    · obtain rfl : i = N := by omega
      have HTA : Hid (zs.take i = zs) := Lib.hid (List.take_of_length_le (by rw [HZL.out]; exact Nat.le_refl _))
      have HSM : Hid ((zs.take i).sum = zs.sum) := Lib.hid (by rw [HTA.out])
      rw [HSM.out] at hpb ⊢
      have HGr : Hid (Row wr gb (gsC (qkM q k) 65536 (.slice none 0 0) 0 (-1) Gs.idM false pb 3 40)) := Lib.hid (HG5.out.up HUR.out)
      have HRr : Hid (Row wr cn #[.int .i64 65536, .int .i64 65536, .slice none 0 0, .int .i64 2, .slice none 0 0]) := Lib.hid (HR5.out.up HUR.out)
      have HPr : Hid (Path.PathIs wr pb (.slice none 0 0) ⟨40, [], Z, Z⟩) := Lib.hid (HP5.out.up HUR.out)
      have HUwr : Hid (Up w wr) := Lib.hid (Up.call HU5.out HUR.out)
      have hBB := HB.out
      have hzr := HUR.out.size
      have lgr := HGr.out.lt
      have lcr := HRr.out.lt
      have lpr := HPr.out.row.lt
      have lgb5 := HG5.out.lt
      have lpb5 := HP5.out.row.lt
      have lcn5 := HR5.out.lt
      have HMZ : Hid (∀ z : Int, 0 ≤ z ∧ z ≤ 65535 → FixM.mul z (k * 65536) = ((fun z => z * k) z, 0)) := Lib.hid (fun z hz => mul_ok z k hz ⟨hk1, hk9⟩)
      have HFZ : Hid (∀ z : Int, 0 ≤ z ∧ z ≤ 65535 → 0 ≤ (fun z => z * k) z ∧ (fun z => z * k) z ≤ 1000000) := Lib.hid (fun z hz => by
        have h1 : 0 ≤ z * k := Int.mul_nonneg hz.1 (by omega)
        have h2 : z * k ≤ 65535 * 9 := Int.mul_le_mul hz.2 hk9 (by omega) (by omega)
        exact ⟨h1, by show z * k ≤ _; omega⟩)
      have HSC : Hid (MatM.scale (qkM q k).a (qkM q k).b (qkM q k).c (qkM q k).d = (k * 65536, 0)) := Lib.hid (scale_qk q k hk1 hk9 hq4)
      have e00 : 0 ≤ a0 * k := (HFZ.out a0 HB0.out).1
      have e01 : a0 * k ≤ 1000000 := (HFZ.out a0 HB0.out).2
      have e10 : 0 ≤ a1 * k := (HFZ.out a1 HB1.out).1
      have e11 : a1 * k ≤ 1000000 := (HFZ.out a1 HB1.out).2
      by_cases hi0 : i = 0
      · skip
        subst hi0
        obtain ⟨e1, e2⟩ := HT.out.z rfl
        obtain ⟨rfl, rfl⟩ : x1 = none ∧ y1 = 0 := by simpa using e1
        obtain ⟨rfl, rfl⟩ : x2 = none ∧ y2 = 0 := by simpa using e2
        clear e1 e2
        go_wp2_with (first
          | (go_at_call 8; ((with_reducible refine (setWidth1 gb (qkM q k) 65536 0 (-1) (.slice none 0 0) Gs.idM false pb 3 40 a0 HB0.out _ HGr.out).mono ?_); rintro E w8 ⟨rfl, hg8, hc8⟩; have HG8 := Lib.hid hg8; have HC8 := Lib.hid hc8; have z8 := hc8.size; clear hg8 hc8))
          | (go_at_call 9; ((with_reducible refine (setDash_nil gb (qkM q k) a0 0 (-1) (.slice none 0 0) Gs.idM false pb 3 40 a1 _ HG8.out b1a b1b).mono ?_); rintro E w9 ⟨rfl, hg9, hc9⟩; have HG9 := Lib.hid hg9; have HC9 : Hid (Chg [gb] wr w9) := Lib.hid (HC8.out.call hc9 (fun k hk => Or.inl hk)); have HP9 : Hid (Path.PathIs w9 pb (.slice none 0 0) ⟨40, [], Z, Z⟩) := Lib.hid (HPr.out.chg HC9.out (by simpa using hpg) (fun g hg => (nil_own hg).elim)); have z9 := hc9.size; have l9g : gb < w9.heap.size := hg9.lt; have l9c : cn < w9.heap.size := (by omega); have l9p : pb < w9.heap.size := (by omega); clear hg9 hc9))
          | (go_at_call 10; ((with_reducible refine (Gs.path_calls gb pb _ (HG10.out.cell 26 rfl)).mono ?_); rintro E w0 ⟨rfl, rfl⟩))
          | (go_at_call 10; ((with_reducible refine (Gs.path_calls gb pb _ ((show Row _ gb (gsC (qkM q k) a0 (.slice none 0 0) a1 (-1) Gs.idM false pb 3 40) from (by (have h9 := HG9.out; (repeat' (with_reducible first | assumption | (refine Row.at _ _ ?_; (simp; done)) | refine Row.alloc ?_ _ | refine Row.drew ?_ | refine Row.drewN ?_ _ | refine Row.other ?_ (by first | (simp; done) | (simp; omega) | omega) _ | refine Row.up ?_ (by assumption) | refine Row.chg ?_ (by assumption) (by first | (simp; done) | (simp; omega))))))).cell 26 rfl)).mono ?_); rintro E w0 ⟨rfl, rfl⟩))
          | (go_at_call 11; ((with_reducible refine (moveP pb _ ((HP9.out).chg (S := [w9.heap.size]) (by (repeat' (first | (with_reducible first | exact Chg.refl _ _ | assumption | refine Chg.alloc ?_ _ | refine Chg.drew ?_ | refine Chg.drewN ?_ _ | refine Chg.setCell ?_ ?_ _ | refine Chg.upc ?_ (by assumption) | refine Chg.call ?_ (by assumption) ?_) | (refine Or.inl ?_; (simp; done)) | (simp; done) | (simp; omega) | omega))) (by simp; omega) (fun g hg => (nil_own hg).elim))).mono ?_); rintro E w10 ⟨rfl, v1, hp10, hc10, hv10⟩; have HP10 := Lib.hid hp10; have z10 := hc10.size; (try simp at z10); have HV10 : Hid (∀ g, v1.ownBlock = some g → w9.heap.size + 1 ≤ g) := Lib.hid (fun g hg => by have := hv10 g hg; simpa using this); have HN10 : Hid (Row w10 w9.heap.size #[.int .i64 (a0 * k), .int .i64 0, .int .i64 0, .int .i64 655360, .slice none 0 0, .int .i64 (a1 * k)]) := Lib.hid (Row.chg (show Row _ w9.heap.size #[.int .i64 (a0 * k), .int .i64 0, .int .i64 0, .int .i64 655360, .slice none 0 0, .int .i64 (a1 * k)] from (by apply cast; (case h => (repeat (first | (with_reducible first | assumption | (apply Row.at; (simp; done)) | apply Row.alloc | apply Row.drew | apply Row.drewN | apply Row.set) | ((with_reducible apply Row.other); (case hp => first | (simp; done) | (simp; omega) | omega))))); (case e => rfl))) hc10 (by simp; omega)); have HG10 : Hid (Row w10 gb (gsC (qkM q k) a0 (.slice none 0 0) a1 (-1) Gs.idM false pb 3 40)) := Lib.hid (Row.chg (show Row _ gb (gsC (qkM q k) a0 (.slice none 0 0) a1 (-1) Gs.idM false pb 3 40) from (by (have h9 := HG9.out; (repeat' (with_reducible first | assumption | (refine Row.at _ _ ?_; (simp; done)) | refine Row.alloc ?_ _ | refine Row.drew ?_ | refine Row.drewN ?_ _ | refine Row.other ?_ (by first | (simp; done) | (simp; omega) | omega) _ | refine Row.up ?_ (by assumption) | refine Row.chg ?_ (by assumption) (by first | (simp; done) | (simp; omega))))))) hc10 (by simpa using fun e => hpg e.symm)); have HC10 : Hid (Chg [w9.heap.size, pb] w9 w10) := Lib.hid (Chg.call (show Chg [w9.heap.size, pb] w9 _ from (by (repeat' (first | (with_reducible first | exact Chg.refl _ _ | assumption | refine Chg.alloc ?_ _ | refine Chg.drew ?_ | refine Chg.drewN ?_ _ | refine Chg.setCell ?_ ?_ _ | refine Chg.upc ?_ (by assumption) | refine Chg.call ?_ (by assumption) ?_) | (refine Or.inl ?_; (simp; done)) | (simp; done) | (simp; omega) | omega)))) hc10 (fun k hk => Or.inl (by simp at hk; simp [hk]))); clear hp10 hc10 hv10))
          | (go_at_call 12; ((with_reducible refine (lineP pb v1 _ HP10.out).mono ?_); rintro E w11 ⟨rfl, v2, hp11, hc11, hv11⟩; have HP11 := Lib.hid hp11; have z11 := hc11.size; have HV11 : Hid (∀ g, v2.ownBlock = some g → w9.heap.size + 1 ≤ g) := Lib.hid (fun g hg => by rcases hv11 g hg with h1 | h1; exact HV10.out g h1; omega); have HC11 : Hid (Chg (w9.heap.size :: pb :: own v1) w9 w11) := Lib.hid (((Chg.of_up (S := w9.heap.size :: pb :: own v1) (Up.refl w9)).call HC10.out (fun k hk => Or.inl (by simp at hk; rcases hk with h1 | h1 <;> simp [h1]))).call hc11 (fun k hk => Or.inl (List.mem_cons_of_mem _ hk))); have RN11 : Row w11 w9.heap.size #[.int .i64 (a0 * k), .int .i64 0, .int .i64 0, .int .i64 655360, .slice none 0 0, .int .i64 (a1 * k)] := Row.chg HN10.out hc11 (fun hm => by rcases List.mem_cons.1 hm with h1 | h1; omega; have := HV10.out _ (own_of h1); omega); clear hp11 hc11 hv11)))
        have hlow : ∀ g, g < w9.heap.size → g ≠ pb → g ∉ w9.heap.size :: pb :: own v1 := fun g h1 h2 hm => by
          rcases List.mem_cons.1 hm with h3 | h3
          · omega
          · rcases List.mem_cons.1 h3 with h4 | h4
            · exact h2 h4
            · have := HV10.out _ (own_of h4); omega
        have HLOW := Lib.hid hlow
        clear hlow
        have HG11 : Hid (Row w11 gb (gsC (qkM q k) a0 (.slice none 0 0) a1 (-1) Gs.idM false pb 3 40)) := Lib.hid (Row.chg HG9.out HC11.out (HLOW.out gb l9g (fun e => hpg e.symm)))
        have HR11 : Hid (Row w11 cn #[.int .i64 65536, .int .i64 65536, .slice none 0 0, .int .i64 2, .slice none 0 0]) := Lib.hid (Row.chg (Row.chg HRr.out HC9.out (by simpa using fun e => hgc e.symm)) HC11.out (HLOW.out cn l9c (fun e => hpc e.symm)))
        have HU11 : Hid (Up w w11) := Lib.hid (up_new (up_new HUwr.out HC9.out (fun b hb => by simp at hb; omega)) HC11.out (fun b hb => by
          rcases List.mem_cons.1 hb with h3 | h3
          · omega
          · rcases List.mem_cons.1 h3 with h4 | h4
            · omega
            · have := HV10.out _ (own_of h4); omega))
        have HD11 : Hid (Src w11 (.slice none 0 0) 1 0 (([] : List Int).map (Value.int .i64))) := Lib.hid ⟨none, 0, rfl, rfl, fun _ => ⟨rfl, rfl⟩, fun ad e => by cases e⟩
        have HM11 : Hid (∀ z ∈ a0 :: a1 :: ([] : List Int), FixM.mul z (k * 65536) = ((fun z => z * k) z, 0)) := Lib.hid (fun z hz => by rcases List.mem_cons.1 hz with h | h; subst h; exact HMZ.out _ HB0.out; rw [List.mem_singleton] at h; subst h; exact HMZ.out _ HB1.out)
        have HF11 : Hid (∀ z ∈ ([] : List Int), 0 ≤ (fun z => z * k) z ∧ (fun z => z * k) z ≤ 1000000) := Lib.hid (fun z hz => by cases hz)
        have HQ11 : Hid (0 < 0 → (([] : List Int).map (fun z => z * k)).sum ≠ 0) := Lib.hid (fun h => by omega)
        have HDN : Hid (([] : List Int).length = 0) := Lib.hid (rfl)
        have HWN : Hid (([] : List Int).length = 0) := Lib.hid (rfl)
        have hgp : gb ≠ pb := fun e => hpg e.symm
        have HPO : Hid (∀ g, v2.ownBlock = some g → g ≠ cn) := Lib.hid (fun g hg e => by have := HV11.out g hg; omega)
        have hdl : 0 ≤ 1000 := by omega
        refine wp_region_held_drew (S := fun w' => Row w' w9.heap.size #[.int .i64 (a0 * k), .int .i64 0, .int .i64 0, .int .i64 655360, .slice none 0 0, .int .i64 (a1 * k)]) (by kernel_rfl) ?_ (fun hHeld => ?_)
        · exact RN11
        refine wpAnyH_take (i := 0) (v := ?_) rfl (by decide +kernel) (by decide +kernel) (by decide +kernel) (fun _ _ _ h => h) (Or.inl ⟨by rfl, ?_⟩) (by assumption) ?_
        rotate_left
        · intro w2 hSw
          (try dsimp only at hSw)
          go_simp
          (try (with_reducible rfl))
        (try simp only [Act.put, lga, lgz, lgs, lsa, lsz, lss])
        refine wpAnyH_take (i := 1) (v := ?_) rfl (by decide +kernel) (by decide +kernel) (by decide +kernel) (fun _ _ _ h => h) (Or.inl ⟨by rfl, ?_⟩) (by assumption) ?_
        rotate_left
        · intro w2 hSw
          (try dsimp only at hSw)
          go_simp
          (try (with_reducible rfl))
        (try simp only [Act.put, lga, lgz, lgs, lsa, lsz, lss])
        refine wpAnyH_ready (rs := [2]) (by decide +kernel) (by simp) ?_
        refine AllReadyH.cons rfl (fun K hK => ?_) (AllReadyH.nil)
        (try simp only [lga, lgz, lgs])
        (go_simp; go_at_call 13; (with_reducible refine (stroke_first 65536 65536 2 cn gb pb (qkM q k) a0 a1 (-1) Gs.idM 3 40 none 0 0 ([] : List Int) v2 T2 2 (k * 65536) (fun z => z * k) _ (HR11.out.up (by (repeat' (first | (with_reducible first | exact Up.refl _ | assumption | refine Up.alloc ?_ _ | refine Up.drew ?_ | refine Up.drewN ?_ _ | refine Up.setCell ?_ ?_ _ | refine Up.call ?_ (by assumption)) | go_size)))) (HG11.out.up (by (repeat' (first | (with_reducible first | exact Up.refl _ | assumption | refine Up.alloc ?_ _ | refine Up.drew ?_ | refine Up.drewN ?_ _ | refine Up.setCell ?_ ?_ _ | refine Up.call ?_ (by assumption)) | go_size)))) (HD11.out.up (by (repeat' (first | (with_reducible first | exact Up.refl _ | assumption | refine Up.alloc ?_ _ | refine Up.drew ?_ | refine Up.drewN ?_ _ | refine Up.setCell ?_ ?_ _ | refine Up.call ?_ (by assumption)) | go_size)))) HDN.out hdl (HP11.out.up (by (repeat' (first | (with_reducible first | exact Up.refl _ | assumption | refine Up.alloc ?_ _ | refine Up.drew ?_ | refine Up.drewN ?_ _ | refine Up.setCell ?_ ?_ _ | refine Up.call ?_ (by assumption)) | go_size)))) rfl (by decide) (by decide) HSC.out HM11.out HF11.out HQ11.out hgc hpc hgp HPO.out).mono ?_); rintro E wS ⟨rfl, j, hj, g, cap, hrS, hoS, hcS⟩; have HJ : Hid (j.dat = strokeD T2.l (a0 * k) (a1 * k) ([] : List Int)) := Lib.hid (by rw [hj]; try (first | rfl | simp)); have HRS := Lib.hid hrS; have HOS := Lib.hid hoS; have HCS : Hid (Chg [cn, pb] w11 wS) := Lib.hid ((Chg.of_up (S := [cn, pb]) (Up.drew (Up.refl w11))).call hcS (fun k hk => Or.inl hk)); have zS := HCS.out.size; have RNS : Row wS w9.heap.size #[.int .i64 (a0 * k), .int .i64 0, .int .i64 0, .int .i64 655360, .slice none 0 0, .int .i64 (a1 * k)] := Row.chg RN11 HCS.out (by simp; omega); have HLN : Hid (Pt.Lens j.dat) := Lib.hid (by rw [HJ.out]; exact ⟨by simp [strokeD], by simp [strokeD], by have := HWN.out; show (([] : List Int)).length ≤ 10000; omega, by simp [strokeD], fun c hc => by simp [strokeD] at hc⟩); clear hj hrS hoS hcS; (try dsimp only))
        refine hK.out _ _ ?_ (fun hHeld => ?_)
        · exact RNS
        clear hK K
        (try simp only [Act.put, lga, lgz, lgs, lsa, lsz, lss])
        refine wpAnyH_take (i := 3) (v := ?_) rfl (by decide +kernel) (by decide +kernel) (by decide +kernel) (fun _ _ _ h => h) (Or.inl ⟨by rfl, ?_⟩) (by assumption) ?_
        rotate_left
        · intro w2 hSw
          (try dsimp only at hSw)
          go_simp
          (try (with_reducible rfl))
        (try simp only [Act.put, lga, lgz, lgs, lsa, lsz, lss])
        refine wpAnyH_take (i := 4) (v := ?_) rfl (by decide +kernel) (by decide +kernel) (by decide +kernel) (fun _ _ _ h => h) (Or.inl ⟨by rfl, ?_⟩) (by assumption) ?_
        rotate_left
        · intro w2 hSw
          (try dsimp only at hSw)
          go_simp
          (try (with_reducible rfl))
        (try simp only [Act.put, lga, lgz, lgs, lsa, lsz, lss])
        refine wpAnyH_take (i := 5) (v := ?_) rfl (by decide +kernel) (by decide +kernel) (by decide +kernel) (fun _ _ _ h => h) (Or.inl ⟨by rfl, ?_⟩) (by assumption) ?_
        rotate_left
        · intro w2 hSw
          (try dsimp only at hSw)
          go_simp
          (try (with_reducible rfl))
        (try simp only [Act.put, lga, lgz, lgs, lsa, lsz, lss])
        refine wpAnyH_ready (rs := [6]) (by decide +kernel) (by simp) ?_
        refine AllReadyH.cons rfl (fun K hK => ?_) (AllReadyH.nil)
        (try simp only [lga, lgz, lgs])
        (go_simp; go_at_call 14; (with_reducible refine (Pt.items_one 65536 65536 2 (.slice none 0 0) cn j _ g cap _ HRS.out HOS.out HLN.out).mono ?_); rintro E wI ⟨g2, cp2, rfl, j2, -, -, huI⟩; have HUI := Lib.hid huI; have RNI := RNS.up huI; (try dsimp only))
        refine hK.out _ _ ?_ (fun hHeld => ?_)
        · exact RNI
        clear hK K
        (try simp only [Act.put, lga, lgz, lgs, lsa, lsz, lss])
        refine wpAnyH_take (i := 7) (v := ?_) rfl (by decide +kernel) (by decide +kernel) (by decide +kernel) (fun _ _ _ h => h) (Or.inl ⟨by rfl, ?_⟩) (by assumption) ?_
        rotate_left
        · intro w2 hSw
          (try dsimp only at hSw)
          go_simp
          (try (with_reducible rfl))
        (try simp only [Act.put, lga, lgz, lgs, lsa, lsz, lss])
        refine wpAnyH_take (i := 8) (v := ?_) rfl (by decide +kernel) (by decide +kernel) (by decide +kernel) (fun _ _ _ h => h) (Or.inl ⟨by rfl, ?_⟩) (by assumption) ?_
        rotate_left
        · intro w2 hSw
          (try dsimp only at hSw)
          go_simp
          (try (with_reducible rfl))
        (try simp only [Act.put, lga, lgz, lgs, lsa, lsz, lss])
        refine wpAnyH_take (i := 9) (v := ?_) rfl (by decide +kernel) (by decide +kernel) (by decide +kernel) (fun _ _ _ h => h) (Or.inl ⟨by rfl, ?_⟩) (by assumption) ?_
        rotate_left
        · intro w2 hSw
          (try dsimp only at hSw)
          go_simp
          (try (with_reducible rfl))
        (try simp only [Act.put, lga, lgz, lgs, lsa, lsz, lss])
        refine wpAnyH_take (i := 10) (v := ?_) rfl (by decide +kernel) (by decide +kernel) (by decide +kernel) (fun _ _ _ h => h) (Or.inl ⟨by rfl, ?_⟩) (by assumption) ?_
        rotate_left
        · intro w2 hSw
          (try dsimp only at hSw)
          go_simp
          (try (with_reducible rfl))
        (try simp only [Act.put, lga, lgz, lgs, lsa, lsz, lss])
        refine wpAnyH_take (i := 11) (v := ?_) rfl (by decide +kernel) (by decide +kernel) (by decide +kernel) (fun _ _ _ h => h) (Or.inl ⟨by rfl, ?_⟩) (by assumption) ?_
        rotate_left
        · intro w2 hSw
          (try dsimp only at hSw)
          go_simp
          (try (with_reducible rfl))
        (try simp only [Act.put, lga, lgz, lgs, lsa, lsz, lss])
        refine wpAnyH_take (i := 16) rfl (by decide +kernel) (by decide +kernel) (by decide +kernel) (fun _ _ _ h => h) (yieldsIf_load_mid (by rfl) 38 (.tmp 21) rfl w9.heap.size 0 rfl #[.int .i64 (a0 * k), .int .i64 0, .int .i64 0, .int .i64 655360, .slice none 0 0, .int .i64 (a1 * k)].toList _ (fun _ h => Gs.rng_all h) Try.underlying38 rfl (by exact infoPen)) (by assumption) ?_
        (try simp only [Act.put, lga, lgz, lgs, lsa, lsz, lss])
        refine wpAnyH_ready (rs := [12]) (by decide +kernel) (by simp) ?_
        refine AllReadyH.cons rfl (fun K hK => ?_) (AllReadyH.nil)
        (try simp only [lga, lgz, lgs])
        (go_simp; go_at_call 14; (with_reducible refine (Pt.items_one 65536 65536 2 (.slice none 0 0) cn j _ g cap _ (HRS.out.up HUI.out) (HOS.out.chg (Chg.of_up (S := []) HUI.out) (by simp)) HLN.out).mono ?_); rintro E wJ ⟨g3, cp3, rfl, j3, ho3, hd3, huJ⟩; have HUJ := Lib.hid huJ; have RNJ := RNI.up huJ; obtain ⟨ia, ic, hrng, hin⟩ := item_pen ho3 (hd3.trans HJ.out) HWN.out; have HRNG := Lib.hid hrng; have HIN := Lib.hid hin; clear ho3 hd3 hrng hin; (try dsimp only))
        refine hK.out _ _ ?_ (fun hHeld => ?_)
        · exact RNJ
        clear hK K
        (try simp only [Act.put, lga, lgz, lgs, lsa, lsz, lss])
        refine wpAnyH_take (i := 13) (v := ?_) rfl (by decide +kernel) (by decide +kernel) (by decide +kernel) (fun _ _ _ h => h) (Or.inl ⟨by rfl, ?_⟩) (by assumption) ?_
        rotate_left
        · intro w2 hSw
          (try dsimp only at hSw)
          go_simp
          (try (with_reducible rfl))
        (try simp only [Act.put, lga, lgz, lgs, lsa, lsz, lss])
        refine wpAnyH_take (i := 14) (v := ?_) rfl (by decide +kernel) (by decide +kernel) (by decide +kernel) (fun _ _ _ h => h) (Or.inl ⟨by rfl, ?_⟩) (by assumption) ?_
        rotate_left
        · intro w2 hSw
          (try dsimp only at hSw)
          go_simp
          (try (with_reducible rfl))
        (try simp only [Act.put, lga, lgz, lgs, lsa, lsz, lss])
        refine wpAnyH_ready (rs := [15]) (by decide +kernel) (by simp) ?_
        refine AllReadyH.cons rfl (fun K hK => ?_) (AllReadyH.nil)
        (try simp only [lga, lgz, lgs])
        (rw [if_pos (by rfl)]; refine wp_load_mid 38 (.tmp 152) rfl g3 8 rfl [.int .i64 (a0 * k), .int .i64 0, .int .i64 0, .int .i64 655360, .slice ia 0 ic, .int .i64 (a1 * k)] _ HRNG.out Try.underlying38 rfl infoPen ?_)
        refine hK.out _ _ ?_ (fun hHeld => ?_)
        · exact RNJ
        clear hK K
        (try simp only [Act.put, lga, lgz, lgs, lsa, lsz, lss])
        refine wpAnyH_ready (rs := [17]) (by decide +kernel) (by simp) ?_
        refine AllReadyH.cons rfl (fun K hK => ?_) (AllReadyH.nil)
        (try simp only [lga, lgz, lgs])
        (go_simp; go_at_call 15; (with_reducible refine (Pt.samePen_eq (a0 * k) 0 0 655360 (a1 * k) ia none 0 ic 0 ([] : List Int) _ HWN.out (by omega) HIN.out (ints_nil _)).mono ?_); rintro E wK ⟨rfl, huK⟩; have HUK := Lib.hid huK; have RNK := RNJ.up huK; (try dsimp only))
        refine hK.out _ _ ?_ (fun hHeld => ?_)
        · exact RNK
        clear hK K
        (try simp only [Act.put, lga, lgz, lgs, lsa, lsz, lss])
        refine wpAnyH_take (i := 18) (v := ?_) rfl (by decide +kernel) (by decide +kernel) (by decide +kernel) (fun _ _ _ h => h) (Or.inl ⟨by rfl, ?_⟩) (by assumption) ?_
        rotate_left
        · intro w2 hSw
          (try dsimp only at hSw)
          go_simp
          (try (with_reducible rfl))
        (try simp only [Act.put, lga, lgz, lgs, lsa, lsz, lss])
        refine wpAnyH_take (i := 19) (v := ?_) rfl (by decide +kernel) (by decide +kernel) (by decide +kernel) (fun _ _ _ h => h) (Or.inl ⟨by rfl, ?_⟩) (by assumption) ?_
        rotate_left
        · intro w2 hSw
          (try dsimp only at hSw)
          go_simp
          (try (with_reducible rfl))
        (try simp only [Act.put, lga, lgz, lgs, lsa, lsz, lss])
        refine wpAnyH_done (by decide +kernel) ?_ _
        go_wp2
        go_ret
        exact ⟨rfl, Up.call (Up.call (Up.call (up_new HU11.out HCS.out (fun b hb => by simp at hb; omega)) HUI.out) HUJ.out) HUK.out⟩
      · have hi1 : 0 < i := by omega
        obtain ⟨lg, lcap, e1, hlg, hlg2⟩ := World.ownsRow.form HT.out.o1 hi1
        obtain ⟨rfl, rfl⟩ : x1 = some ⟨lg, 0, none⟩ ∧ y1 = lcap := by simpa using e1
        clear e1
        have HO1 : Hid (wr.ownsRow B 3 1 (.slice (some ⟨lg, 0, none⟩) i y1) i (zs.map (Value.int .i64))) := Lib.hid (by have := HT.out.o1; rwa [HTA.out] at this)
        have HO2 : Hid (wr.ownsRow B 3 1 (.slice x2 i y2) i ((zs.map (fun z => z * k)).map (Value.int .i64))) := Lib.hid (by have := HT.out.o2; rwa [HTA.out] at this)
        have hi1d : decide (0 < i) = true := decide_eq_true hi1
        by_cases hs0 : zs.sum = 0
        · have hsb : (zs.sum == 0) = true := by simpa using hs0
          go_wp2_with (first
            | (go_at_call 8; ((with_reducible refine (setWidth1 gb (qkM q k) 65536 0 (-1) (.slice none 0 0) Gs.idM false pb 3 40 a0 HB0.out _ HGr.out).mono ?_); rintro E w8 ⟨rfl, hg8, hc8⟩; have HG8 := Lib.hid hg8; have HC8 := Lib.hid hc8; have HL8 := Lib.hid (owned_chgB HO1.out hc8 (fun g hg => by simp only [Value.ownBlock, Option.some.injEq] at hg; subst hg; simp; omega)); have z8 := hc8.size; clear hg8 hc8))
            | (go_at_call 9; ((with_reducible refine (setDash_bad gb (qkM q k) a0 0 (-1) (.slice none 0 0) Gs.idM false pb 3 40 B lg i y1 zs a1 _ HG8.out HL8.out HZL.out hi1 hl HZ.out HB1.out hs0).mono ?_); rintro E w9 ⟨rfl, hg9, hc9⟩; have HG9 := Lib.hid hg9; have HC9 : Hid (Chg [gb] wr w9) := Lib.hid (HC8.out.call hc9 (fun k hk => Or.inl hk)); have HP9 : Hid (Path.PathIs w9 pb (.slice none 0 0) ⟨40, [], Z, Z⟩) := Lib.hid (HPr.out.chg HC9.out (by simpa using hpg) (fun g hg => (nil_own hg).elim)); have z9 := hc9.size; have l9g : gb < w9.heap.size := hg9.lt; have l9c : cn < w9.heap.size := (by omega); have l9p : pb < w9.heap.size := (by omega); clear hg9 hc9))
            | (go_at_call 10; ((with_reducible refine (Gs.path_calls gb pb _ (HG10.out.cell 26 rfl)).mono ?_); rintro E w0 ⟨rfl, rfl⟩))
            | (go_at_call 10; ((with_reducible refine (Gs.path_calls gb pb _ ((show Row _ gb (gsC (qkM q k) a0 (.slice none 0 0) 0 (-1) Gs.idM false pb 3 40) from (by (have h9 := HG9.out; (repeat' (with_reducible first | assumption | (refine Row.at _ _ ?_; (simp; done)) | refine Row.alloc ?_ _ | refine Row.drew ?_ | refine Row.drewN ?_ _ | refine Row.other ?_ (by first | (simp; done) | (simp; omega) | omega) _ | refine Row.up ?_ (by assumption) | refine Row.chg ?_ (by assumption) (by first | (simp; done) | (simp; omega))))))).cell 26 rfl)).mono ?_); rintro E w0 ⟨rfl, rfl⟩))
            | (go_at_call 11; ((with_reducible refine (moveP pb _ ((HP9.out).chg (S := [w9.heap.size]) (by (repeat' (first | (with_reducible first | exact Chg.refl _ _ | assumption | refine Chg.alloc ?_ _ | refine Chg.drew ?_ | refine Chg.drewN ?_ _ | refine Chg.setCell ?_ ?_ _ | refine Chg.upc ?_ (by assumption) | refine Chg.call ?_ (by assumption) ?_) | (refine Or.inl ?_; (simp; done)) | (simp; done) | (simp; omega) | omega))) (by simp; omega) (fun g hg => (nil_own hg).elim))).mono ?_); rintro E w10 ⟨rfl, v1, hp10, hc10, hv10⟩; have HP10 := Lib.hid hp10; have z10 := hc10.size; (try simp at z10); have HV10 : Hid (∀ g, v1.ownBlock = some g → w9.heap.size + 1 ≤ g) := Lib.hid (fun g hg => by have := hv10 g hg; simpa using this); have HN10 : Hid (Row w10 w9.heap.size #[.int .i64 (a0 * k), .int .i64 0, .int .i64 0, .int .i64 655360, .slice none 0 0, .int .i64 0]) := Lib.hid (Row.chg (show Row _ w9.heap.size #[.int .i64 (a0 * k), .int .i64 0, .int .i64 0, .int .i64 655360, .slice none 0 0, .int .i64 0] from (by apply cast; (case h => (repeat (first | (with_reducible first | assumption | (apply Row.at; (simp; done)) | apply Row.alloc | apply Row.drew | apply Row.drewN | apply Row.set) | ((with_reducible apply Row.other); (case hp => first | (simp; done) | (simp; omega) | omega))))); (case e => rfl))) hc10 (by simp; omega)); have HG10 : Hid (Row w10 gb (gsC (qkM q k) a0 (.slice none 0 0) 0 (-1) Gs.idM false pb 3 40)) := Lib.hid (Row.chg (show Row _ gb (gsC (qkM q k) a0 (.slice none 0 0) 0 (-1) Gs.idM false pb 3 40) from (by (have h9 := HG9.out; (repeat' (with_reducible first | assumption | (refine Row.at _ _ ?_; (simp; done)) | refine Row.alloc ?_ _ | refine Row.drew ?_ | refine Row.drewN ?_ _ | refine Row.other ?_ (by first | (simp; done) | (simp; omega) | omega) _ | refine Row.up ?_ (by assumption) | refine Row.chg ?_ (by assumption) (by first | (simp; done) | (simp; omega))))))) hc10 (by simpa using fun e => hpg e.symm)); have HC10 : Hid (Chg [w9.heap.size, pb] w9 w10) := Lib.hid (Chg.call (show Chg [w9.heap.size, pb] w9 _ from (by (repeat' (first | (with_reducible first | exact Chg.refl _ _ | assumption | refine Chg.alloc ?_ _ | refine Chg.drew ?_ | refine Chg.drewN ?_ _ | refine Chg.setCell ?_ ?_ _ | refine Chg.upc ?_ (by assumption) | refine Chg.call ?_ (by assumption) ?_) | (refine Or.inl ?_; (simp; done)) | (simp; done) | (simp; omega) | omega)))) hc10 (fun k hk => Or.inl (by simp at hk; simp [hk]))); clear hp10 hc10 hv10))
            | (go_at_call 12; ((with_reducible refine (lineP pb v1 _ HP10.out).mono ?_); rintro E w11 ⟨rfl, v2, hp11, hc11, hv11⟩; have HP11 := Lib.hid hp11; have z11 := hc11.size; have HV11 : Hid (∀ g, v2.ownBlock = some g → w9.heap.size + 1 ≤ g) := Lib.hid (fun g hg => by rcases hv11 g hg with h1 | h1; exact HV10.out g h1; omega); have HC11 : Hid (Chg (w9.heap.size :: pb :: own v1) w9 w11) := Lib.hid (((Chg.of_up (S := w9.heap.size :: pb :: own v1) (Up.refl w9)).call HC10.out (fun k hk => Or.inl (by simp at hk; rcases hk with h1 | h1 <;> simp [h1]))).call hc11 (fun k hk => Or.inl (List.mem_cons_of_mem _ hk))); have RN11 : Row w11 w9.heap.size #[.int .i64 (a0 * k), .int .i64 0, .int .i64 0, .int .i64 655360, .slice none 0 0, .int .i64 0] := Row.chg HN10.out hc11 (fun hm => by rcases List.mem_cons.1 hm with h1 | h1; omega; have := HV10.out _ (own_of h1); omega); clear hp11 hc11 hv11)))
          have hlow : ∀ g, g < w9.heap.size → g ≠ pb → g ∉ w9.heap.size :: pb :: own v1 := fun g h1 h2 hm => by
            rcases List.mem_cons.1 hm with h3 | h3
            · omega
            · rcases List.mem_cons.1 h3 with h4 | h4
              · exact h2 h4
              · have := HV10.out _ (own_of h4); omega
          have HLOW := Lib.hid hlow
          clear hlow
          have HG11 : Hid (Row w11 gb (gsC (qkM q k) a0 (.slice none 0 0) 0 (-1) Gs.idM false pb 3 40)) := Lib.hid (Row.chg HG9.out HC11.out (HLOW.out gb l9g (fun e => hpg e.symm)))
          have HR11 : Hid (Row w11 cn #[.int .i64 65536, .int .i64 65536, .slice none 0 0, .int .i64 2, .slice none 0 0]) := Lib.hid (Row.chg (Row.chg HRr.out HC9.out (by simpa using fun e => hgc e.symm)) HC11.out (HLOW.out cn l9c (fun e => hpc e.symm)))
          have HU11 : Hid (Up w w11) := Lib.hid (up_new (up_new HUwr.out HC9.out (fun b hb => by simp at hb; omega)) HC11.out (fun b hb => by
            rcases List.mem_cons.1 hb with h3 | h3
            · omega
            · rcases List.mem_cons.1 h3 with h4 | h4
              · omega
              · have := HV10.out _ (own_of h4); omega))
          have HD11 : Hid (Src w11 (.slice none 0 0) 1 0 (([] : List Int).map (Value.int .i64))) := Lib.hid ⟨none, 0, rfl, rfl, fun _ => ⟨rfl, rfl⟩, fun ad e => by cases e⟩
          have HM11 : Hid (∀ z ∈ a0 :: 0 :: ([] : List Int), FixM.mul z (k * 65536) = ((fun z => z * k) z, 0)) := Lib.hid (fun z hz => by rcases List.mem_cons.1 hz with h | h; subst h; exact HMZ.out _ HB0.out; rw [List.mem_singleton] at h; subst h; exact HMZ.out _ (by decide))
          have HF11 : Hid (∀ z ∈ ([] : List Int), 0 ≤ (fun z => z * k) z ∧ (fun z => z * k) z ≤ 1000000) := Lib.hid (fun z hz => by cases hz)
          have HQ11 : Hid (0 < 0 → (([] : List Int).map (fun z => z * k)).sum ≠ 0) := Lib.hid (fun h => by omega)
          have HDN : Hid (([] : List Int).length = 0) := Lib.hid (rfl)
          have HWN : Hid (([] : List Int).length = 0) := Lib.hid (rfl)
          have hgp : gb ≠ pb := fun e => hpg e.symm
          have HPO : Hid (∀ g, v2.ownBlock = some g → g ≠ cn) := Lib.hid (fun g hg e => by have := HV11.out g hg; omega)
          have hdl : 0 ≤ 1000 := by omega
          refine wp_region_held_drew (S := fun w' => Row w' w9.heap.size #[.int .i64 (a0 * k), .int .i64 0, .int .i64 0, .int .i64 655360, .slice none 0 0, .int .i64 0]) (by kernel_rfl) ?_ (fun hHeld => ?_)
          · exact RN11
          refine wpAnyH_take (i := 0) (v := ?_) rfl (by decide +kernel) (by decide +kernel) (by decide +kernel) (fun _ _ _ h => h) (Or.inl ⟨by rfl, ?_⟩) (by assumption) ?_
          rotate_left
          · intro w2 hSw
            (try dsimp only at hSw)
            go_simp
            (try (with_reducible rfl))
          (try simp only [Act.put, lga, lgz, lgs, lsa, lsz, lss])
          refine wpAnyH_take (i := 1) (v := ?_) rfl (by decide +kernel) (by decide +kernel) (by decide +kernel) (fun _ _ _ h => h) (Or.inl ⟨by rfl, ?_⟩) (by assumption) ?_
          rotate_left
          · intro w2 hSw
            (try dsimp only at hSw)
            go_simp
            (try (with_reducible rfl))
          (try simp only [Act.put, lga, lgz, lgs, lsa, lsz, lss])
          refine wpAnyH_ready (rs := [2]) (by decide +kernel) (by simp) ?_
          refine AllReadyH.cons rfl (fun K hK => ?_) (AllReadyH.nil)
          (try simp only [lga, lgz, lgs])
          (go_simp; go_at_call 13; (with_reducible refine (stroke_first 65536 65536 2 cn gb pb (qkM q k) a0 0 (-1) Gs.idM 3 40 none 0 0 ([] : List Int) v2 T2 2 (k * 65536) (fun z => z * k) _ (HR11.out.up (by (repeat' (first | (with_reducible first | exact Up.refl _ | assumption | refine Up.alloc ?_ _ | refine Up.drew ?_ | refine Up.drewN ?_ _ | refine Up.setCell ?_ ?_ _ | refine Up.call ?_ (by assumption)) | go_size)))) (HG11.out.up (by (repeat' (first | (with_reducible first | exact Up.refl _ | assumption | refine Up.alloc ?_ _ | refine Up.drew ?_ | refine Up.drewN ?_ _ | refine Up.setCell ?_ ?_ _ | refine Up.call ?_ (by assumption)) | go_size)))) (HD11.out.up (by (repeat' (first | (with_reducible first | exact Up.refl _ | assumption | refine Up.alloc ?_ _ | refine Up.drew ?_ | refine Up.drewN ?_ _ | refine Up.setCell ?_ ?_ _ | refine Up.call ?_ (by assumption)) | go_size)))) HDN.out hdl (HP11.out.up (by (repeat' (first | (with_reducible first | exact Up.refl _ | assumption | refine Up.alloc ?_ _ | refine Up.drew ?_ | refine Up.drewN ?_ _ | refine Up.setCell ?_ ?_ _ | refine Up.call ?_ (by assumption)) | go_size)))) rfl (by decide) (by decide) HSC.out HM11.out HF11.out HQ11.out hgc hpc hgp HPO.out).mono ?_); rintro E wS ⟨rfl, j, hj, g, cap, hrS, hoS, hcS⟩; have HJ : Hid (j.dat = strokeD T2.l (a0 * k) 0 ([] : List Int)) := Lib.hid (by rw [hj]; try (first | rfl | simp)); have HRS := Lib.hid hrS; have HOS := Lib.hid hoS; have HCS : Hid (Chg [cn, pb] w11 wS) := Lib.hid ((Chg.of_up (S := [cn, pb]) (Up.drew (Up.refl w11))).call hcS (fun k hk => Or.inl hk)); have zS := HCS.out.size; have RNS : Row wS w9.heap.size #[.int .i64 (a0 * k), .int .i64 0, .int .i64 0, .int .i64 655360, .slice none 0 0, .int .i64 0] := Row.chg RN11 HCS.out (by simp; omega); have HLN : Hid (Pt.Lens j.dat) := Lib.hid (by rw [HJ.out]; exact ⟨by simp [strokeD], by simp [strokeD], by have := HWN.out; show (([] : List Int)).length ≤ 10000; omega, by simp [strokeD], fun c hc => by simp [strokeD] at hc⟩); clear hj hrS hoS hcS; (try dsimp only))
          refine hK.out _ _ ?_ (fun hHeld => ?_)
          · exact RNS
          clear hK K
          (try simp only [Act.put, lga, lgz, lgs, lsa, lsz, lss])
          refine wpAnyH_take (i := 3) (v := ?_) rfl (by decide +kernel) (by decide +kernel) (by decide +kernel) (fun _ _ _ h => h) (Or.inl ⟨by rfl, ?_⟩) (by assumption) ?_
          rotate_left
          · intro w2 hSw
            (try dsimp only at hSw)
            go_simp
            (try (with_reducible rfl))
          (try simp only [Act.put, lga, lgz, lgs, lsa, lsz, lss])
          refine wpAnyH_take (i := 4) (v := ?_) rfl (by decide +kernel) (by decide +kernel) (by decide +kernel) (fun _ _ _ h => h) (Or.inl ⟨by rfl, ?_⟩) (by assumption) ?_
          rotate_left
          · intro w2 hSw
            (try dsimp only at hSw)
            go_simp
            (try (with_reducible rfl))
          (try simp only [Act.put, lga, lgz, lgs, lsa, lsz, lss])
          refine wpAnyH_take (i := 5) (v := ?_) rfl (by decide +kernel) (by decide +kernel) (by decide +kernel) (fun _ _ _ h => h) (Or.inl ⟨by rfl, ?_⟩) (by assumption) ?_
          rotate_left
          · intro w2 hSw
            (try dsimp only at hSw)
            go_simp
            (try (with_reducible rfl))
          (try simp only [Act.put, lga, lgz, lgs, lsa, lsz, lss])
          refine wpAnyH_ready (rs := [6]) (by decide +kernel) (by simp) ?_
          refine AllReadyH.cons rfl (fun K hK => ?_) (AllReadyH.nil)
          (try simp only [lga, lgz, lgs])
          (go_simp; go_at_call 14; (with_reducible refine (Pt.items_one 65536 65536 2 (.slice none 0 0) cn j _ g cap _ HRS.out HOS.out HLN.out).mono ?_); rintro E wI ⟨g2, cp2, rfl, j2, -, -, huI⟩; have HUI := Lib.hid huI; have RNI := RNS.up huI; (try dsimp only))
          refine hK.out _ _ ?_ (fun hHeld => ?_)
          · exact RNI
          clear hK K
          (try simp only [Act.put, lga, lgz, lgs, lsa, lsz, lss])
          refine wpAnyH_take (i := 7) (v := ?_) rfl (by decide +kernel) (by decide +kernel) (by decide +kernel) (fun _ _ _ h => h) (Or.inl ⟨by rfl, ?_⟩) (by assumption) ?_
          rotate_left
          · intro w2 hSw
            (try dsimp only at hSw)
            go_simp
            (try (with_reducible rfl))
          (try simp only [Act.put, lga, lgz, lgs, lsa, lsz, lss])
          refine wpAnyH_take (i := 8) (v := ?_) rfl (by decide +kernel) (by decide +kernel) (by decide +kernel) (fun _ _ _ h => h) (Or.inl ⟨by rfl, ?_⟩) (by assumption) ?_
          rotate_left
          · intro w2 hSw
            (try dsimp only at hSw)
            go_simp
            (try (with_reducible rfl))
          (try simp only [Act.put, lga, lgz, lgs, lsa, lsz, lss])
          refine wpAnyH_take (i := 9) (v := ?_) rfl (by decide +kernel) (by decide +kernel) (by decide +kernel) (fun _ _ _ h => h) (Or.inl ⟨by rfl, ?_⟩) (by assumption) ?_
          rotate_left
          · intro w2 hSw
            (try dsimp only at hSw)
            go_simp
            (try (with_reducible rfl))
          (try simp only [Act.put, lga, lgz, lgs, lsa, lsz, lss])
          refine wpAnyH_take (i := 10) (v := ?_) rfl (by decide +kernel) (by decide +kernel) (by decide +kernel) (fun _ _ _ h => h) (Or.inl ⟨by rfl, ?_⟩) (by assumption) ?_
          rotate_left
          · intro w2 hSw
            (try dsimp only at hSw)
            go_simp
            (try (with_reducible rfl))
          (try simp only [Act.put, lga, lgz, lgs, lsa, lsz, lss])
          refine wpAnyH_take (i := 11) (v := ?_) rfl (by decide +kernel) (by decide +kernel) (by decide +kernel) (fun _ _ _ h => h) (Or.inl ⟨by rfl, ?_⟩) (by assumption) ?_
          rotate_left
          · intro w2 hSw
            (try dsimp only at hSw)
            go_simp
            (try (with_reducible rfl))
          (try simp only [Act.put, lga, lgz, lgs, lsa, lsz, lss])
          refine wpAnyH_take (i := 16) rfl (by decide +kernel) (by decide +kernel) (by decide +kernel) (fun _ _ _ h => h) (yieldsIf_load_mid (by rfl) 38 (.tmp 21) rfl w9.heap.size 0 rfl #[.int .i64 (a0 * k), .int .i64 0, .int .i64 0, .int .i64 655360, .slice none 0 0, .int .i64 0].toList _ (fun _ h => Gs.rng_all h) Try.underlying38 rfl (by exact infoPen)) (by assumption) ?_
          (try simp only [Act.put, lga, lgz, lgs, lsa, lsz, lss])
          refine wpAnyH_ready (rs := [12]) (by decide +kernel) (by simp) ?_
          refine AllReadyH.cons rfl (fun K hK => ?_) (AllReadyH.nil)
          (try simp only [lga, lgz, lgs])
          (go_simp; go_at_call 14; (with_reducible refine (Pt.items_one 65536 65536 2 (.slice none 0 0) cn j _ g cap _ (HRS.out.up HUI.out) (HOS.out.chg (Chg.of_up (S := []) HUI.out) (by simp)) HLN.out).mono ?_); rintro E wJ ⟨g3, cp3, rfl, j3, ho3, hd3, huJ⟩; have HUJ := Lib.hid huJ; have RNJ := RNI.up huJ; obtain ⟨ia, ic, hrng, hin⟩ := item_pen ho3 (hd3.trans HJ.out) HWN.out; have HRNG := Lib.hid hrng; have HIN := Lib.hid hin; clear ho3 hd3 hrng hin; (try dsimp only))
          refine hK.out _ _ ?_ (fun hHeld => ?_)
          · exact RNJ
          clear hK K
          (try simp only [Act.put, lga, lgz, lgs, lsa, lsz, lss])
          refine wpAnyH_take (i := 13) (v := ?_) rfl (by decide +kernel) (by decide +kernel) (by decide +kernel) (fun _ _ _ h => h) (Or.inl ⟨by rfl, ?_⟩) (by assumption) ?_
          rotate_left
          · intro w2 hSw
            (try dsimp only at hSw)
            go_simp
            (try (with_reducible rfl))
          (try simp only [Act.put, lga, lgz, lgs, lsa, lsz, lss])
          refine wpAnyH_take (i := 14) (v := ?_) rfl (by decide +kernel) (by decide +kernel) (by decide +kernel) (fun _ _ _ h => h) (Or.inl ⟨by rfl, ?_⟩) (by assumption) ?_
          rotate_left
          · intro w2 hSw
            (try dsimp only at hSw)
            go_simp
            (try (with_reducible rfl))
          (try simp only [Act.put, lga, lgz, lgs, lsa, lsz, lss])
          refine wpAnyH_ready (rs := [15]) (by decide +kernel) (by simp) ?_
          refine AllReadyH.cons rfl (fun K hK => ?_) (AllReadyH.nil)
          (try simp only [lga, lgz, lgs])
          (rw [if_pos (by rfl)]; refine wp_load_mid 38 (.tmp 152) rfl g3 8 rfl [.int .i64 (a0 * k), .int .i64 0, .int .i64 0, .int .i64 655360, .slice ia 0 ic, .int .i64 0] _ HRNG.out Try.underlying38 rfl infoPen ?_)
          refine hK.out _ _ ?_ (fun hHeld => ?_)
          · exact RNJ
          clear hK K
          (try simp only [Act.put, lga, lgz, lgs, lsa, lsz, lss])
          refine wpAnyH_ready (rs := [17]) (by decide +kernel) (by simp) ?_
          refine AllReadyH.cons rfl (fun K hK => ?_) (AllReadyH.nil)
          (try simp only [lga, lgz, lgs])
          (go_simp; go_at_call 15; (with_reducible refine (Pt.samePen_eq (a0 * k) 0 0 655360 0 ia none 0 ic 0 ([] : List Int) _ HWN.out (by omega) HIN.out (ints_nil _)).mono ?_); rintro E wK ⟨rfl, huK⟩; have HUK := Lib.hid huK; have RNK := RNJ.up huK; (try dsimp only))
          refine hK.out _ _ ?_ (fun hHeld => ?_)
          · exact RNK
          clear hK K
          (try simp only [Act.put, lga, lgz, lgs, lsa, lsz, lss])
          refine wpAnyH_take (i := 18) (v := ?_) rfl (by decide +kernel) (by decide +kernel) (by decide +kernel) (fun _ _ _ h => h) (Or.inl ⟨by rfl, ?_⟩) (by assumption) ?_
          rotate_left
          · intro w2 hSw
            (try dsimp only at hSw)
            go_simp
            (try (with_reducible rfl))
          (try simp only [Act.put, lga, lgz, lgs, lsa, lsz, lss])
          refine wpAnyH_take (i := 19) (v := ?_) rfl (by decide +kernel) (by decide +kernel) (by decide +kernel) (fun _ _ _ h => h) (Or.inl ⟨by rfl, ?_⟩) (by assumption) ?_
          rotate_left
          · intro w2 hSw
            (try dsimp only at hSw)
            go_simp
            (try (with_reducible rfl))
          (try simp only [Act.put, lga, lgz, lgs, lsa, lsz, lss])
          refine wpAnyH_done (by decide +kernel) ?_ _
          go_wp2
          go_ret
          exact ⟨rfl, Up.call (Up.call (Up.call (up_new HU11.out HCS.out (fun b hb => by simp at hb; omega)) HUI.out) HUJ.out) HUK.out⟩
        · have hsb : (zs.sum == 0) = false := by simpa using hs0
          go_wp2_with (first
            | (go_at_call 8; ((with_reducible refine (setWidth1 gb (qkM q k) 65536 0 (-1) (.slice none 0 0) Gs.idM false pb 3 40 a0 HB0.out _ HGr.out).mono ?_); rintro E w8 ⟨rfl, hg8, hc8⟩; have HG8 := Lib.hid hg8; have HC8 := Lib.hid hc8; have HL8 := Lib.hid (owned_chgB HO1.out hc8 (fun g hg => by simp only [Value.ownBlock, Option.some.injEq] at hg; subst hg; simp; omega)); have z8 := hc8.size; clear hg8 hc8))
            | (go_at_call 9; ((with_reducible refine (setDash_good gb (qkM q k) a0 0 (-1) (.slice none 0 0) Gs.idM false pb 3 40 B lg i y1 zs a1 _ HG8.out HL8.out HZL.out hi1 hl HZ.out HB1.out hs0).mono ?_); rintro E w9 ⟨a8, c8, rfl, hg9, hd9, hf9, hc9⟩; have HD9 := Lib.hid hd9; have HF9 := Lib.hid hf9; clear hd9 hf9; have HG9 := Lib.hid hg9; have HC9 : Hid (Chg [gb] wr w9) := Lib.hid (HC8.out.call hc9 (fun k hk => Or.inl hk)); have HP9 : Hid (Path.PathIs w9 pb (.slice none 0 0) ⟨40, [], Z, Z⟩) := Lib.hid (HPr.out.chg HC9.out (by simpa using hpg) (fun g hg => (nil_own hg).elim)); have z9 := hc9.size; have l9g : gb < w9.heap.size := hg9.lt; have l9c : cn < w9.heap.size := (by omega); have l9p : pb < w9.heap.size := (by omega); clear hg9 hc9))
            | (go_at_call 10; ((with_reducible refine (Gs.path_calls gb pb _ (HG10.out.cell 26 rfl)).mono ?_); rintro E w0 ⟨rfl, rfl⟩))
            | (go_at_call 10; ((with_reducible refine (Gs.path_calls gb pb _ ((show Row _ gb (gsC (qkM q k) a0 (.slice a8 i c8) a1 (-1) Gs.idM false pb 3 40) from (by (have h9 := HG9.out; (repeat' (with_reducible first | assumption | (refine Row.at _ _ ?_; (simp; done)) | refine Row.alloc ?_ _ | refine Row.drew ?_ | refine Row.drewN ?_ _ | refine Row.other ?_ (by first | (simp; done) | (simp; omega) | omega) _ | refine Row.up ?_ (by assumption) | refine Row.chg ?_ (by assumption) (by first | (simp; done) | (simp; omega))))))).cell 26 rfl)).mono ?_); rintro E w0 ⟨rfl, rfl⟩))
            | (go_at_call 11; ((with_reducible refine (moveP pb _ ((HP9.out).chg (S := [w9.heap.size]) (by (repeat' (first | (with_reducible first | exact Chg.refl _ _ | assumption | refine Chg.alloc ?_ _ | refine Chg.drew ?_ | refine Chg.drewN ?_ _ | refine Chg.setCell ?_ ?_ _ | refine Chg.upc ?_ (by assumption) | refine Chg.call ?_ (by assumption) ?_) | (refine Or.inl ?_; (simp; done)) | (simp; done) | (simp; omega) | omega))) (by simp; omega) (fun g hg => (nil_own hg).elim))).mono ?_); rintro E w10 ⟨rfl, v1, hp10, hc10, hv10⟩; have HP10 := Lib.hid hp10; have z10 := hc10.size; (try simp at z10); have HV10 : Hid (∀ g, v1.ownBlock = some g → w9.heap.size + 1 ≤ g) := Lib.hid (fun g hg => by have := hv10 g hg; simpa using this); have HN10 : Hid (Row w10 w9.heap.size #[.int .i64 (a0 * k), .int .i64 0, .int .i64 0, .int .i64 655360, .slice x2 i y2, .int .i64 (a1 * k)]) := Lib.hid (Row.chg (show Row _ w9.heap.size #[.int .i64 (a0 * k), .int .i64 0, .int .i64 0, .int .i64 655360, .slice x2 i y2, .int .i64 (a1 * k)] from (by apply cast; (case h => (repeat (first | (with_reducible first | assumption | (apply Row.at; (simp; done)) | apply Row.alloc | apply Row.drew | apply Row.drewN | apply Row.set) | ((with_reducible apply Row.other); (case hp => first | (simp; done) | (simp; omega) | omega))))); (case e => rfl))) hc10 (by simp; omega)); have HG10 : Hid (Row w10 gb (gsC (qkM q k) a0 (.slice a8 i c8) a1 (-1) Gs.idM false pb 3 40)) := Lib.hid (Row.chg (show Row _ gb (gsC (qkM q k) a0 (.slice a8 i c8) a1 (-1) Gs.idM false pb 3 40) from (by (have h9 := HG9.out; (repeat' (with_reducible first | assumption | (refine Row.at _ _ ?_; (simp; done)) | refine Row.alloc ?_ _ | refine Row.drew ?_ | refine Row.drewN ?_ _ | refine Row.other ?_ (by first | (simp; done) | (simp; omega) | omega) _ | refine Row.up ?_ (by assumption) | refine Row.chg ?_ (by assumption) (by first | (simp; done) | (simp; omega))))))) hc10 (by simpa using fun e => hpg e.symm)); have HC10 : Hid (Chg [w9.heap.size, pb] w9 w10) := Lib.hid (Chg.call (show Chg [w9.heap.size, pb] w9 _ from (by (repeat' (first | (with_reducible first | exact Chg.refl _ _ | assumption | refine Chg.alloc ?_ _ | refine Chg.drew ?_ | refine Chg.drewN ?_ _ | refine Chg.setCell ?_ ?_ _ | refine Chg.upc ?_ (by assumption) | refine Chg.call ?_ (by assumption) ?_) | (refine Or.inl ?_; (simp; done)) | (simp; done) | (simp; omega) | omega)))) hc10 (fun k hk => Or.inl (by simp at hk; simp [hk]))); clear hp10 hc10 hv10))
            | (go_at_call 12; ((with_reducible refine (lineP pb v1 _ HP10.out).mono ?_); rintro E w11 ⟨rfl, v2, hp11, hc11, hv11⟩; have HP11 := Lib.hid hp11; have z11 := hc11.size; have HV11 : Hid (∀ g, v2.ownBlock = some g → w9.heap.size + 1 ≤ g) := Lib.hid (fun g hg => by rcases hv11 g hg with h1 | h1; exact HV10.out g h1; omega); have HC11 : Hid (Chg (w9.heap.size :: pb :: own v1) w9 w11) := Lib.hid (((Chg.of_up (S := w9.heap.size :: pb :: own v1) (Up.refl w9)).call HC10.out (fun k hk => Or.inl (by simp at hk; rcases hk with h1 | h1 <;> simp [h1]))).call hc11 (fun k hk => Or.inl (List.mem_cons_of_mem _ hk))); have RN11 : Row w11 w9.heap.size #[.int .i64 (a0 * k), .int .i64 0, .int .i64 0, .int .i64 655360, .slice x2 i y2, .int .i64 (a1 * k)] := Row.chg HN10.out hc11 (fun hm => by rcases List.mem_cons.1 hm with h1 | h1; omega; have := HV10.out _ (own_of h1); omega); clear hp11 hc11 hv11)))
          have hlow : ∀ g, g < w9.heap.size → g ≠ pb → g ∉ w9.heap.size :: pb :: own v1 := fun g h1 h2 hm => by
            rcases List.mem_cons.1 hm with h3 | h3
            · omega
            · rcases List.mem_cons.1 h3 with h4 | h4
              · exact h2 h4
              · have := HV10.out _ (own_of h4); omega
          have HLOW := Lib.hid hlow
          clear hlow
          have HG11 : Hid (Row w11 gb (gsC (qkM q k) a0 (.slice a8 i c8) a1 (-1) Gs.idM false pb 3 40)) := Lib.hid (Row.chg HG9.out HC11.out (HLOW.out gb l9g (fun e => hpg e.symm)))
          have HR11 : Hid (Row w11 cn #[.int .i64 65536, .int .i64 65536, .slice none 0 0, .int .i64 2, .slice none 0 0]) := Lib.hid (Row.chg (Row.chg HRr.out HC9.out (by simpa using fun e => hgc e.symm)) HC11.out (HLOW.out cn l9c (fun e => hpc e.symm)))
          have HU11 : Hid (Up w w11) := Lib.hid (up_new (up_new HUwr.out HC9.out (fun b hb => by simp at hb; omega)) HC11.out (fun b hb => by
            rcases List.mem_cons.1 hb with h3 | h3
            · omega
            · rcases List.mem_cons.1 h3 with h4 | h4
              · omega
              · have := HV10.out _ (own_of h4); omega))
          have HD11 : Hid (Src w11 (.slice a8 i c8) 1 i (zs.map (Value.int .i64))) := Lib.hid (src_row (owned_chg HD9.out HC11.out (fun g hg => by have := HF9.out g (own_mem hg); exact HLOW.out g this.2 (by omega))))
          have HL11 : Hid (w11.ownsRow B 3 1 (.slice x2 i y2) i ((zs.map (fun z => z * k)).map (Value.int .i64))) := Lib.hid (owned_chgB (owned_chgB HO2.out HC9.out (fun g hg => by have := (HO2.out.lt g hg).1; simp; omega)) HC11.out (fun g hg => HLOW.out g (by have := (HO2.out.lt g hg).2; omega) (by have := (HO2.out.lt g hg).1; omega)))
          have HM11 : Hid (∀ z ∈ a0 :: a1 :: zs, FixM.mul z (k * 65536) = ((fun z => z * k) z, 0)) := Lib.hid (fun z hz => by rcases List.mem_cons.1 hz with h | h; subst h; exact HMZ.out _ HB0.out; rcases List.mem_cons.1 h with h | h; subst h; exact HMZ.out _ HB1.out; exact HMZ.out _ (HZ.out _ h))
          have HF11 : Hid (∀ z ∈ zs, 0 ≤ (fun z => z * k) z ∧ (fun z => z * k) z ≤ 1000000) := Lib.hid (fun z hz => HFZ.out z (HZ.out z hz))
          have HQ11 : Hid (0 < i → (zs.map (fun z => z * k)).sum ≠ 0) := Lib.hid (fun h => by rw [sum_mul]; intro h2; rcases Int.mul_eq_zero.1 h2 with h3 | h3; exact hs0 h3; omega)
          have HDN : Hid (zs.length = i) := Lib.hid (HZL.out)
          have HWN : Hid ((zs.map (fun z => z * k)).length = i) := Lib.hid (by rw [List.length_map]; exact HZL.out)
          have hgp : gb ≠ pb := fun e => hpg e.symm
          have HPO : Hid (∀ g, v2.ownBlock = some g → g ≠ cn) := Lib.hid (fun g hg e => by have := HV11.out g hg; omega)
          have hdl : i ≤ 1000 := by omega
          have HWW : Hid (∀ z ∈ zs.map (fun z => z * k), (Lit.int .i64 z).wf = true) := Lib.hid (fun z hz => by
            simp only [List.mem_map] at hz
            obtain ⟨y, hy, rfl⟩ := hz
            have : 0 ≤ y * k ∧ y * k ≤ 1000000 := HFZ.out y (HZ.out y hy)
            exact Mat.fits_wf (FixM.fits_true (by omega) (by omega)))
          refine wp_region_held_drew (S := fun w' => Row w' w9.heap.size #[.int .i64 (a0 * k), .int .i64 0, .int .i64 0, .int .i64 655360, .slice x2 i y2, .int .i64 (a1 * k)]) (by kernel_rfl) ?_ (fun hHeld => ?_)
          · exact RN11
          refine wpAnyH_take (i := 0) (v := ?_) rfl (by decide +kernel) (by decide +kernel) (by decide +kernel) (fun _ _ _ h => h) (Or.inl ⟨by rfl, ?_⟩) (by assumption) ?_
          rotate_left
          · intro w2 hSw
            (try dsimp only at hSw)
            go_simp
            (try (with_reducible rfl))
          (try simp only [Act.put, lga, lgz, lgs, lsa, lsz, lss])
          refine wpAnyH_take (i := 1) (v := ?_) rfl (by decide +kernel) (by decide +kernel) (by decide +kernel) (fun _ _ _ h => h) (Or.inl ⟨by rfl, ?_⟩) (by assumption) ?_
          rotate_left
          · intro w2 hSw
            (try dsimp only at hSw)
            go_simp
            (try (with_reducible rfl))
          (try simp only [Act.put, lga, lgz, lgs, lsa, lsz, lss])
          refine wpAnyH_ready (rs := [2]) (by decide +kernel) (by simp) ?_
          refine AllReadyH.cons rfl (fun K hK => ?_) (AllReadyH.nil)
          (try simp only [lga, lgz, lgs])
          (go_simp; go_at_call 13; (with_reducible refine (stroke_first 65536 65536 2 cn gb pb (qkM q k) a0 a1 (-1) Gs.idM 3 40 a8 i c8 zs v2 T2 2 (k * 65536) (fun z => z * k) _ (HR11.out.up (by (repeat' (first | (with_reducible first | exact Up.refl _ | assumption | refine Up.alloc ?_ _ | refine Up.drew ?_ | refine Up.drewN ?_ _ | refine Up.setCell ?_ ?_ _ | refine Up.call ?_ (by assumption)) | go_size)))) (HG11.out.up (by (repeat' (first | (with_reducible first | exact Up.refl _ | assumption | refine Up.alloc ?_ _ | refine Up.drew ?_ | refine Up.drewN ?_ _ | refine Up.setCell ?_ ?_ _ | refine Up.call ?_ (by assumption)) | go_size)))) (HD11.out.up (by (repeat' (first | (with_reducible first | exact Up.refl _ | assumption | refine Up.alloc ?_ _ | refine Up.drew ?_ | refine Up.drewN ?_ _ | refine Up.setCell ?_ ?_ _ | refine Up.call ?_ (by assumption)) | go_size)))) HDN.out hdl (HP11.out.up (by (repeat' (first | (with_reducible first | exact Up.refl _ | assumption | refine Up.alloc ?_ _ | refine Up.drew ?_ | refine Up.drewN ?_ _ | refine Up.setCell ?_ ?_ _ | refine Up.call ?_ (by assumption)) | go_size)))) rfl (by decide) (by decide) HSC.out HM11.out HF11.out HQ11.out hgc hpc hgp HPO.out).mono ?_); rintro E wS ⟨rfl, j, hj, g, cap, hrS, hoS, hcS⟩; have HJ : Hid (j.dat = strokeD T2.l (a0 * k) (a1 * k) (zs.map (fun z => z * k))) := Lib.hid (by rw [hj]; try (first | rfl | simp)); have HRS := Lib.hid hrS; have HOS := Lib.hid hoS; have HCS : Hid (Chg [cn, pb] w11 wS) := Lib.hid ((Chg.of_up (S := [cn, pb]) (Up.drew (Up.refl w11))).call hcS (fun k hk => Or.inl hk)); have zS := HCS.out.size; have RNS : Row wS w9.heap.size #[.int .i64 (a0 * k), .int .i64 0, .int .i64 0, .int .i64 655360, .slice x2 i y2, .int .i64 (a1 * k)] := Row.chg RN11 HCS.out (by simp; omega); have HLN : Hid (Pt.Lens j.dat) := Lib.hid (by rw [HJ.out]; exact ⟨by simp [strokeD], by simp [strokeD], by have := HWN.out; show ((zs.map (fun z => z * k))).length ≤ 10000; omega, by simp [strokeD], fun c hc => by simp [strokeD] at hc⟩); clear hj hrS hoS hcS; (try dsimp only))
          refine hK.out _ _ ?_ (fun hHeld => ?_)
          · exact RNS
          clear hK K
          (try simp only [Act.put, lga, lgz, lgs, lsa, lsz, lss])
          refine wpAnyH_take (i := 3) (v := ?_) rfl (by decide +kernel) (by decide +kernel) (by decide +kernel) (fun _ _ _ h => h) (Or.inl ⟨by rfl, ?_⟩) (by assumption) ?_
          rotate_left
          · intro w2 hSw
            (try dsimp only at hSw)
            go_simp
            (try (with_reducible rfl))
          (try simp only [Act.put, lga, lgz, lgs, lsa, lsz, lss])
          refine wpAnyH_take (i := 4) (v := ?_) rfl (by decide +kernel) (by decide +kernel) (by decide +kernel) (fun _ _ _ h => h) (Or.inl ⟨by rfl, ?_⟩) (by assumption) ?_
          rotate_left
          · intro w2 hSw
            (try dsimp only at hSw)
            go_simp
            (try (with_reducible rfl))
          (try simp only [Act.put, lga, lgz, lgs, lsa, lsz, lss])
          refine wpAnyH_take (i := 5) (v := ?_) rfl (by decide +kernel) (by decide +kernel) (by decide +kernel) (fun _ _ _ h => h) (Or.inl ⟨by rfl, ?_⟩) (by assumption) ?_
          rotate_left
          · intro w2 hSw
            (try dsimp only at hSw)
            go_simp
            (try (with_reducible rfl))
          (try simp only [Act.put, lga, lgz, lgs, lsa, lsz, lss])
          refine wpAnyH_ready (rs := [6]) (by decide +kernel) (by simp) ?_
          refine AllReadyH.cons rfl (fun K hK => ?_) (AllReadyH.nil)
          (try simp only [lga, lgz, lgs])
          (go_simp; go_at_call 14; (with_reducible refine (Pt.items_one 65536 65536 2 (.slice none 0 0) cn j _ g cap _ HRS.out HOS.out HLN.out).mono ?_); rintro E wI ⟨g2, cp2, rfl, j2, -, -, huI⟩; have HUI := Lib.hid huI; have RNI := RNS.up huI; (try dsimp only))
          refine hK.out _ _ ?_ (fun hHeld => ?_)
          · exact RNI
          clear hK K
          (try simp only [Act.put, lga, lgz, lgs, lsa, lsz, lss])
          refine wpAnyH_take (i := 7) (v := ?_) rfl (by decide +kernel) (by decide +kernel) (by decide +kernel) (fun _ _ _ h => h) (Or.inl ⟨by rfl, ?_⟩) (by assumption) ?_
          rotate_left
          · intro w2 hSw
            (try dsimp only at hSw)
            go_simp
            (try (with_reducible rfl))
          (try simp only [Act.put, lga, lgz, lgs, lsa, lsz, lss])
          refine wpAnyH_take (i := 8) (v := ?_) rfl (by decide +kernel) (by decide +kernel) (by decide +kernel) (fun _ _ _ h => h) (Or.inl ⟨by rfl, ?_⟩) (by assumption) ?_
          rotate_left
          · intro w2 hSw
            (try dsimp only at hSw)
            go_simp
            (try (with_reducible rfl))
          (try simp only [Act.put, lga, lgz, lgs, lsa, lsz, lss])
          refine wpAnyH_take (i := 9) (v := ?_) rfl (by decide +kernel) (by decide +kernel) (by decide +kernel) (fun _ _ _ h => h) (Or.inl ⟨by rfl, ?_⟩) (by assumption) ?_
          rotate_left
          · intro w2 hSw
            (try dsimp only at hSw)
            go_simp
            (try (with_reducible rfl))
          (try simp only [Act.put, lga, lgz, lgs, lsa, lsz, lss])
          refine wpAnyH_take (i := 10) (v := ?_) rfl (by decide +kernel) (by decide +kernel) (by decide +kernel) (fun _ _ _ h => h) (Or.inl ⟨by rfl, ?_⟩) (by assumption) ?_
          rotate_left
          · intro w2 hSw
            (try dsimp only at hSw)
            go_simp
            (try (with_reducible rfl))
          (try simp only [Act.put, lga, lgz, lgs, lsa, lsz, lss])
          refine wpAnyH_take (i := 11) (v := ?_) rfl (by decide +kernel) (by decide +kernel) (by decide +kernel) (fun _ _ _ h => h) (Or.inl ⟨by rfl, ?_⟩) (by assumption) ?_
          rotate_left
          · intro w2 hSw
            (try dsimp only at hSw)
            go_simp
            (try (with_reducible rfl))
          (try simp only [Act.put, lga, lgz, lgs, lsa, lsz, lss])
          refine wpAnyH_take (i := 16) rfl (by decide +kernel) (by decide +kernel) (by decide +kernel) (fun _ _ _ h => h) (yieldsIf_load_mid (by rfl) 38 (.tmp 21) rfl w9.heap.size 0 rfl #[.int .i64 (a0 * k), .int .i64 0, .int .i64 0, .int .i64 655360, .slice x2 i y2, .int .i64 (a1 * k)].toList _ (fun _ h => Gs.rng_all h) Try.underlying38 rfl (by exact infoPen)) (by assumption) ?_
          (try simp only [Act.put, lga, lgz, lgs, lsa, lsz, lss])
          refine wpAnyH_ready (rs := [12]) (by decide +kernel) (by simp) ?_
          refine AllReadyH.cons rfl (fun K hK => ?_) (AllReadyH.nil)
          (try simp only [lga, lgz, lgs])
          (go_simp; go_at_call 14; (with_reducible refine (Pt.items_one 65536 65536 2 (.slice none 0 0) cn j _ g cap _ (HRS.out.up HUI.out) (HOS.out.chg (Chg.of_up (S := []) HUI.out) (by simp)) HLN.out).mono ?_); rintro E wJ ⟨g3, cp3, rfl, j3, ho3, hd3, huJ⟩; have HUJ := Lib.hid huJ; have RNJ := RNI.up huJ; obtain ⟨ia, ic, hrng, hin⟩ := item_pen ho3 (hd3.trans HJ.out) HWN.out; have HRNG := Lib.hid hrng; have HIN := Lib.hid hin; clear ho3 hd3 hrng hin; (try dsimp only))
          refine hK.out _ _ ?_ (fun hHeld => ?_)
          · exact RNJ
          clear hK K
          (try simp only [Act.put, lga, lgz, lgs, lsa, lsz, lss])
          refine wpAnyH_take (i := 13) (v := ?_) rfl (by decide +kernel) (by decide +kernel) (by decide +kernel) (fun _ _ _ h => h) (Or.inl ⟨by rfl, ?_⟩) (by assumption) ?_
          rotate_left
          · intro w2 hSw
            (try dsimp only at hSw)
            go_simp
            (try (with_reducible rfl))
          (try simp only [Act.put, lga, lgz, lgs, lsa, lsz, lss])
          refine wpAnyH_take (i := 14) (v := ?_) rfl (by decide +kernel) (by decide +kernel) (by decide +kernel) (fun _ _ _ h => h) (Or.inl ⟨by rfl, ?_⟩) (by assumption) ?_
          rotate_left
          · intro w2 hSw
            (try dsimp only at hSw)
            go_simp
            (try (with_reducible rfl))
          (try simp only [Act.put, lga, lgz, lgs, lsa, lsz, lss])
          refine wpAnyH_ready (rs := [15]) (by decide +kernel) (by simp) ?_
          refine AllReadyH.cons rfl (fun K hK => ?_) (AllReadyH.nil)
          (try simp only [lga, lgz, lgs])
          (rw [if_pos (by rfl)]; refine wp_load_mid 38 (.tmp 152) rfl g3 8 rfl [.int .i64 (a0 * k), .int .i64 0, .int .i64 0, .int .i64 655360, .slice ia i ic, .int .i64 (a1 * k)] _ HRNG.out Try.underlying38 rfl infoPen ?_)
          refine hK.out _ _ ?_ (fun hHeld => ?_)
          · exact RNJ
          clear hK K
          (try simp only [Act.put, lga, lgz, lgs, lsa, lsz, lss])
          refine wpAnyH_ready (rs := [17]) (by decide +kernel) (by simp) ?_
          refine AllReadyH.cons rfl (fun K hK => ?_) (AllReadyH.nil)
          (try simp only [lga, lgz, lgs])
          (go_simp; go_at_call 15; (with_reducible refine (Pt.samePen_eq (a0 * k) 0 0 655360 (a1 * k) ia x2 i ic y2 (zs.map (fun z => z * k)) _ HWN.out (by omega) HIN.out (owns_ints (raw_up (raw_up (owned_chgB HL11.out HCS.out (fun g hg => by have := (HO2.out.lt g hg); simp; omega)) HUI.out) HUJ.out) HWW.out)).mono ?_); rintro E wK ⟨rfl, huK⟩; have HUK := Lib.hid huK; have RNK := RNJ.up huK; (try dsimp only))
          refine hK.out _ _ ?_ (fun hHeld => ?_)
          · exact RNK
          clear hK K
          (try simp only [Act.put, lga, lgz, lgs, lsa, lsz, lss])
          refine wpAnyH_take (i := 18) (v := ?_) rfl (by decide +kernel) (by decide +kernel) (by decide +kernel) (fun _ _ _ h => h) (Or.inl ⟨by rfl, ?_⟩) (by assumption) ?_
          rotate_left
          · intro w2 hSw
            (try dsimp only at hSw)
            go_simp
            (try (with_reducible rfl))
          (try simp only [Act.put, lga, lgz, lgs, lsa, lsz, lss])
          refine wpAnyH_take (i := 19) (v := ?_) rfl (by decide +kernel) (by decide +kernel) (by decide +kernel) (fun _ _ _ h => h) (Or.inl ⟨by rfl, ?_⟩) (by assumption) ?_
          rotate_left
          · intro w2 hSw
            (try dsimp only at hSw)
            go_simp
            (try (with_reducible rfl))
          (try simp only [Act.put, lga, lgz, lgs, lsa, lsz, lss])
          refine wpAnyH_done (by decide +kernel) ?_ _
          go_wp2
          go_ret
          exact ⟨rfl, Up.call (Up.call (Up.call (up_new HU11.out HCS.out (fun b hb => by simp at hb; omega)) HUI.out) HUJ.out) HUK.out⟩

set_option maxRecDepth 8000 in
set_option maxHeartbeats 2000000 in
theorem walk_long (a0 a1 a3 a4 : Int) (a2 : Option Addr) (N cap2 : Nat) (hl : ¬ N ≤ 11) {w : World} :
    Calls Try.prog 3 #[.int .u16 a0, .int .u16 a1, .slice a2 N cap2, .int .u8 a3, .int .u8 a4] w fun e w' => e = .returned (.bool true) ∧ Up w w' := by
  have hNd : decide (11 < N) = true := decide_eq_true (by omega)
  go_enter Try.func3, Try.ntmps3
  go_wp2_with (first
    | (go_at_call 4; ((with_reducible refine (Pt.new_calls 65536 65536 2 (by decide +kernel) (by decide +kernel) (by decide) (by decide) _).mono ?_); rintro E w1 ⟨cn, rfl, hc1, hr1, hu1⟩))
    | (go_at_call 5; ((with_reducible refine (Gs.gnew_calls 3 40 _).mono ?_); rintro E w2 ⟨gb, pb, rfl, hb2, hp2, hpg, hg2, hpi2, hu2⟩))
    | (go_at_call 6; ((with_reducible refine (Pt.answers_calls _).mono ?_); rintro E w3 ⟨rfl, hu3⟩)))
  go_ret
  exact ⟨rfl, by (repeat' (first | (with_reducible first | exact Up.refl _ | assumption | refine Up.alloc ?_ _ | refine Up.drew ?_ | refine Up.drewN ?_ _ | refine Up.setCell ?_ ?_ _ | refine Up.call ?_ (by assumption)) | go_size))⟩

end Go.Proofs.Yteddlahklilncaa.Pp
