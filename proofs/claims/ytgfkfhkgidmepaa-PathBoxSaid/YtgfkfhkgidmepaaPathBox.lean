/- PathBox: for every list of segments and every distance the law returns true. No condition. -/
import Derived.Test.YtgfkfhkgidmepaaPathL
import Derived.Test.YtgfkfhkgidmepaaPathM4
import Derived.Deep.Cut
import Derived.Deep.CutRange
namespace Go.Proofs.Ytgfkfhkgidmepaa.pathBox
open Go.ChangeShapes Go.WideShapes Go.ChangeAt Go.RowKit
open Go.Proofs.Ytgfkfhkgidmepaa.PathM Go.Proofs.Ytgfkfhkgidmepaa.Path
set_option linter.unusedVariables false
set_option linter.unusedSimpArgs false

theorem full {w : World} {v : Value} {l : List Seg} (h : Segs w v l) (h0 : 0 < l.length) : ∃ g cap, v = .slice (some ⟨g, 0, none⟩) l.length cap ∧ l.length ≤ cap ∧ g < w.heap.size := by
  rcases h.form with ⟨rfl, rfl⟩ | ⟨g, cap, h1, h2, _, h3⟩
  · simp at h0
  · exact ⟨g, cap, h1, h2, h3⟩

theorem made_at {w : World} {g : Nat} (e : g = w.heap.size) : (w.alloc (.cells #[] 43)).ownsRow 0 43 7 (.slice (some ⟨g, 0, none⟩) 0 0) 0 [] := by
  subst e
  exact World.ownsRow_made w #[] 0 (Nat.zero_le _) (by decide) rfl

set_option maxRecDepth 8000 in
set_option maxHeartbeats 4000000 in
theorem walk {w : World} (a : Option Addr) (len cap : Nat) (l : List Seg) (dx dy : Int) (g0 : SegIs w a len cap l) (v0 : (Lit.int .i16 dx).wf = true) (v1 : (Lit.int .i16 dy).wf = true) :
    Calls Try.prog 4 #[.slice a len cap, .int .i16 dx, .int .i16 dy] w fun e w' => e = .returned (.bool true) ∧ Up w w' := by
  obtain ⟨x0, x1⟩ : -32768 ≤ dx ∧ dx ≤ 32767 := by simp [Lit.wf, IntKind.min, IntKind.max, IntKind.signed, IntKind.bits] at v0; omega
  obtain ⟨y0, y1⟩ : -32768 ≤ dy ∧ dy ≤ 32767 := by simp [Lit.wf, IntKind.min, IntKind.max, IntKind.signed, IntKind.bits] at v1; omega
  clear v0 v1
  obtain ⟨-, hcap, hlen, hnil, -, hat⟩ := g0
  subst hlen
  by_cases h6 : 3000 < l.length
  · clear hat
    go_enter Try.func4, Try.ntmps4
    go_wp2_with (go_at_call 9; ((with_reducible refine (answers_calls _).mono ?_); rintro E w1 ⟨rfl, hu1⟩))
    go_ret
    exact ⟨rfl, by (repeat' (first | (with_reducible exact Up.refl _) | (with_reducible assumption) | (with_reducible refine Up.alloc ?_ _) | (with_reducible refine Up.drew ?_) | (with_reducible refine Up.drewN ?_ _) | (with_reducible refine Up.setCell ?_ ?_ _) | (with_reducible refine Up.call ?_ (by with_reducible assumption)) | go_size))⟩
  obtain ⟨i0, ji, jz0, jz1, jz2⟩ := info_parts infoSeg
  by_cases h0 : l.length = 0
  · obtain rfl := List.eq_nil_of_length_eq_zero h0
    clear hat
    have HT := Lib.hid (show sound [] = true from rfl)
    have HN : Hid (∀ w a cap, SegV w (.slice a 0 cap) []) := Lib.hid (fun w a cap => Or.inl ⟨a, cap, rfl, rfl⟩)
    go_enter Try.func4, Try.ntmps4
    go_wp2_with (first
      | (go_at_call 9; ((with_reducible refine (answers_calls _).mono ?_); rintro E w1 ⟨rfl, hu1⟩; have hz1 := hu1.size))
      | (go_at_call 16; ((with_reducible refine (soundPath_calls _ [] _ (HN.out _ _ _)).mono ?_); rintro E w2 ⟨rfl, hu2⟩; rw [HT.out]; have HU2 := Lib.hid (Up.call hu1 hu2)))
      | (go_at_call 17; ((with_reducible refine (box_empty _ _ (HN.out _ _ _)).mono ?_); rintro E w3 ⟨rfl, hu3⟩; have HU3 := Lib.hid (Up.call HU2.out hu3))))
    go_ret
    exact ⟨rfl, by have h3 := HU3.out; (repeat' (first | (with_reducible exact Up.refl _) | (with_reducible assumption) | (with_reducible refine Up.alloc ?_ _) | (with_reducible refine Up.drew ?_) | (with_reducible refine Up.drewN ?_ _) | (with_reducible refine Up.setCell ?_ ?_ _) | (with_reducible refine Up.call ?_ (by with_reducible assumption)) | go_size))⟩
  obtain ⟨b, o, rfl, hb, hat⟩ := hat (by omega)
  have HAT := Lib.hid (show SegAt w b o l from hat)
  have HV := Lib.hid (show SegV w (.slice (some ⟨b, o, none⟩) l.length cap) l from Or.inr ⟨b, o, cap, rfl, by omega, hb, hat, by omega⟩)
  clear hat hnil
  obtain ⟨t, ht⟩ : ∃ t, sound l = t := ⟨_, rfl⟩
  have HT := Lib.hid ht
  clear ht
  cases t
  · go_enter Try.func4, Try.ntmps4
    go_wp2_with (first
      | (go_at_call 9; ((with_reducible refine (answers_calls _).mono ?_); rintro E w1 ⟨rfl, hu1⟩; have hz1 := hu1.size))
      | (go_at_call 16; ((with_reducible refine (soundPath_calls _ l _ (HV.out.up (by (repeat' (first | (with_reducible exact Up.refl _) | (with_reducible assumption) | (with_reducible refine Up.alloc ?_ _) | (with_reducible refine Up.drew ?_) | (with_reducible refine Up.drewN ?_ _) | (with_reducible refine Up.setCell ?_ ?_ _) | (with_reducible refine Up.call ?_ (by with_reducible assumption)) | go_size))))).mono ?_); rintro E w2 ⟨rfl, hu2⟩; rw [HT.out])))
    go_ret
    exact ⟨rfl, by (repeat' (first | (with_reducible exact Up.refl _) | (with_reducible assumption) | (with_reducible refine Up.alloc ?_ _) | (with_reducible refine Up.drew ?_) | (with_reducible refine Up.drewN ?_ _) | (with_reducible refine Up.setCell ?_ ?_ _) | (with_reducible refine Up.call ?_ (by with_reducible assumption)) | go_size))⟩
  obtain ⟨lx, ly, hx, hy, hbd⟩ : ∃ lx ly hx hy, bounds l = ((lx, ly), (hx, hy)) := ⟨_, _, _, _, rfl⟩
  have HBX := Lib.hid hbd
  clear hbd
  have d0 : decide ((0 : Int) < (l.length : Int)) = true := decide_eq_true (by omega)
  have d2 : decide ((3000 : Int) < (l.length : Int)) = false := decide_eq_false (by omega)
  have d1 : ((l.length : Int) == 0) = false := by rw [beq_eq_false_iff_ne]; omega
  go_enter Try.func4, Try.ntmps4
  go_wp2_with (first
    | (go_at_call 9; ((with_reducible refine (answers_calls _).mono ?_); rintro E w1 ⟨rfl, hu1⟩; have hz1 := hu1.size))
    | (go_at_call 16; ((with_reducible refine (soundPath_calls _ l _ (HV.out.up (by (repeat' (first | (with_reducible exact Up.refl _) | (with_reducible assumption) | (with_reducible refine Up.alloc ?_ _) | (with_reducible refine Up.drew ?_) | (with_reducible refine Up.drewN ?_ _) | (with_reducible refine Up.setCell ?_ ?_ _) | (with_reducible refine Up.call ?_ (by with_reducible assumption)) | go_size))))).mono ?_); rintro E w2 ⟨rfl, hu2⟩; rw [HT.out]; have HU2 := Lib.hid (Up.call hu1 hu2)))
    | (go_at_call 17; ((with_reducible refine (box_good _ l _ (HV.out.up HU2.out) HT.out (by omega)).mono ?_); rintro E w3 ⟨rfl, hu3⟩; rw [HBX.out]; have HU3 := Lib.hid (Up.call HU2.out hu3); have hz3 := HU3.out.size))
    | (at_builtin; refine wpList_append_own_at _ rfl _ _ 32 rfl 0 43 i0 _ 7 56 Try.underlying32 ji jz0 jz1 jz2 rfl (by decide) (.slice (some ⟨w3.heap.size + 1 + 1, 0, none⟩) 0 0) 0 [] rfl (made_at (by simp)) ⟨b, o, none⟩ l.length cap (segCells l) rfl (segCells_length l) (fun j u hu => by rw [add_plain]; exact ((show Up w _ by have h3 := HU3.out; (repeat' (first | (with_reducible exact Up.refl _) | (with_reducible assumption) | (with_reducible refine Up.alloc ?_ _) | (with_reducible refine Up.drew ?_) | (with_reducible refine Up.drewN ?_ _) | (with_reducible refine Up.setCell ?_ ?_ _) | (with_reducible refine Up.call ?_ (by with_reducible assumption)) | go_size))).cells.1 b _ hb).trans (HAT.out.cells j u hu)) (segCells_one l) (by unfold maxLen; omega) (by omega) (Nat.zero_le _) ?_; intro va wa hown hgr hnil hat; have hO : Segs wa va l := (by have := hown; rw [Nat.zero_add, List.nil_append] at this; exact this); have HUA := Lib.hid (show Up w3 wa from grown_up (by (repeat' (first | (with_reducible exact Up.refl _) | (with_reducible assumption) | (with_reducible refine Up.alloc ?_ _) | (with_reducible refine Up.drew ?_) | (with_reducible refine Up.drewN ?_ _) | (with_reducible refine Up.setCell ?_ ?_ _) | (with_reducible refine Up.call ?_ (by with_reducible assumption)) | go_size))) hgr (fun k hk => by simp only [Value.ownBlock, Option.some.injEq] at hk; omega)); have hA : ∀ g, va.ownBlock = some g → w3.heap.size + 1 + 1 ≤ g := (fun g hg => by rcases hat with h1 | h1; (rw [h1] at hg; simp only [Value.ownBlock, Option.some.injEq] at hg; omega); (rw [h1] at hg; simp at hg; omega)); obtain ⟨gm, cm, hv, hcm, hgm⟩ := full hO (by omega); subst hv; have hgm2 := hA gm rfl; have R7 : Row wa w3.heap.size #[.int .i64 lx, .int .i64 ly] := Row.chg (S := [w3.heap.size + 1 + 1]) (show Row _ w3.heap.size #[.int .i64 lx, .int .i64 ly] by (repeat' (first | (with_reducible assumption) | (with_reducible refine Row.at _ _ ?_; (simp; done)) | (with_reducible refine Row.alloc ?_ _) | (with_reducible refine Row.drew ?_) | (with_reducible refine Row.drewN ?_ _) | (with_reducible refine Row.other ?_ (by first | (simp; done) | (simp; omega) | omega) _) | (with_reducible refine Row.up ?_ (by with_reducible assumption)) | (with_reducible refine Row.chg ?_ (by with_reducible assumption) (by first | (simp; done) | (simp; omega)))))) (Chg.grown (Chg.refl _ _) hgr (fun k hk => Or.inl (by simp only [Value.ownBlock, Option.some.injEq] at hk; simp [hk]))) (by simp; omega); have R8 : Row wa (w3.heap.size + 1) #[.int .i64 hx, .int .i64 hy] := Row.chg (S := [w3.heap.size + 1 + 1]) (show Row _ (w3.heap.size + 1) #[.int .i64 hx, .int .i64 hy] by (repeat' (first | (with_reducible assumption) | (with_reducible refine Row.at _ _ ?_; (simp; done)) | (with_reducible refine Row.alloc ?_ _) | (with_reducible refine Row.drew ?_) | (with_reducible refine Row.drewN ?_ _) | (with_reducible refine Row.other ?_ (by first | (simp; done) | (simp; omega) | omega) _) | (with_reducible refine Row.up ?_ (by with_reducible assumption)) | (with_reducible refine Row.chg ?_ (by with_reducible assumption) (by first | (simp; done) | (simp; omega)))))) (Chg.grown (Chg.refl _ _) hgr (fun k hk => Or.inl (by simp only [Value.ownBlock, Option.some.injEq] at hk; simp [hk]))) (by simp); have HO := Lib.hid hO; clear hown hgr hnil hat hO hA))
  have l7 := R7.lt
  have l8 := R8.lt
  go_loopw [10, 11, 12, 13, 15, 16] (fun sl sr sd su sf i wr => ∃ (k : Nat), k ≤ l.length ∧ i = .int .i64 k ∧ sl = .bool ((allPts (l.take k)).any (fun p => p.1 == lx)) ∧ sr = .bool ((allPts (l.take k)).any (fun p => p.1 == hx)) ∧ sd = .bool ((allPts (l.take k)).any (fun p => p.2 == ly)) ∧ su = .bool ((allPts (l.take k)).any (fun p => p.2 == hy)) ∧ sf = .bool ((allPts (l.take k)).all (fun p => fitsP (sh (dx, dy) p))) ∧ Up w3 wr ∧ Row wr w3.heap.size #[.int .i64 lx, .int .i64 ly] ∧ Row wr (w3.heap.size + 1) #[.int .i64 hx, .int .i64 hy] ∧ Segs wr (.slice (some ⟨gm, 0, none⟩) l.length cm) (mvd (dx, dy) l k 0)) (fun _ _ _ _ _ i _ => l.length - (intOf i).toNat)
  case atStart => exact ⟨0, Nat.zero_le _, rfl, rfl, rfl, rfl, rfl, rfl, HUA.out, R7, R8, by rw [mvd_zero]; exact HO.out⟩
  case round =>
    obtain ⟨k, hk, rfl, rfl, rfl, rfl, rfl, rfl, hup3, r7, r8, hO⟩ := hrel
    obtain ⟨wo, hwo⟩ : ∃ x, x = wr := ⟨wr, rfl⟩
    subst hwo
    clear R7 R8 HO
    have hup : Up w wo := Up.call HU3.out hup3
    have HO := Lib.hid hO
    clear hO
    by_cases hlt : k < l.length
    · obtain ⟨s, hsg⟩ : ∃ s, l[k]? = some s := ⟨_, List.getElem?_eq_getElem hlt⟩
      have HSG := Lib.hid hsg
      have hp := (soundFrom_pts l 0 (soundFrom_of HT.out) s (List.mem_of_getElem? hsg)).1
      obtain ⟨n, hn⟩ : ∃ n, s.n = n := ⟨_, rfl⟩
      have HN := Lib.hid hn
      have c0 := (hup.cells.1 b _ hb).trans (HAT.out k s 0 _ hsg rfl)
      rw [Nat.add_zero] at c0
      clear hsg
      have hbo : b < wo.heap.size := Nat.lt_of_lt_of_le hb hup.size
      have hbo1 : b < wo.heap.size + 1 := by omega
      obtain ⟨bl, hbl⟩ : ∃ t, (allPts (l.take k)).any (fun p => p.1 == lx) = t := ⟨_, rfl⟩
      obtain ⟨br, hbr⟩ : ∃ t, (allPts (l.take k)).any (fun p => p.1 == hx) = t := ⟨_, rfl⟩
      obtain ⟨bd, hbd⟩ : ∃ t, (allPts (l.take k)).any (fun p => p.2 == ly) = t := ⟨_, rfl⟩
      obtain ⟨bu, hbu⟩ : ∃ t, (allPts (l.take k)).any (fun p => p.2 == hy) = t := ⟨_, rfl⟩
      obtain ⟨bf, hbf⟩ : ∃ t, (allPts (l.take k)).all (fun p => fitsP (sh (dx, dy) p)) = t := ⟨_, rfl⟩
      rw [hbl, hbr, hbd, hbu, hbf]
      have HBL := Lib.hid hbl
      have HBR := Lib.hid hbr
      have HBD := Lib.hid hbd
      have HBU := Lib.hid hbu
      have HBF := Lib.hid hbf
      clear hbl hbr hbd hbu hbf
      go_upto_region 12 with fail
      go_cut [17] from 61 to 172 (fun s17 wx => s17 = .int .i64 n ∧ Up wo wx)
      case first =>
        rcases points_cases hp with ⟨e, h⟩ | ⟨e, h⟩ | ⟨e, h⟩ | ⟨e, h⟩
        all_goals
          have hnn : s.n = (points s.k).toNat := rfl
          rw [h] at hnn
          rw [hn] at hnn
          subst hnn
          rw [e] at c0
          (try dsimp only at c0)
          clear e h
          go_wp2
          go_meet
          case rel => exact ⟨rfl, by (repeat' (first | (with_reducible exact Up.refl _) | (with_reducible assumption) | (with_reducible refine Up.alloc ?_ _) | (with_reducible refine Up.drew ?_) | (with_reducible refine Up.drewN ?_ _) | (with_reducible refine Up.setCell ?_ ?_ _) | (with_reducible refine Up.call ?_ (by with_reducible assumption)) | go_size))⟩
      case rest =>
        obtain ⟨rfl, hcu⟩ := hcut
        have hlw := HUA.out.size
        have r7 : Row wc w3.heap.size #[.int .i64 lx, .int .i64 ly] := r7.up hcu
        have r8 : Row wc (w3.heap.size + 1) #[.int .i64 hx, .int .i64 hy] := r8.up hcu
        have HO := Lib.hid (HO.out.chg (S := []) (Chg.of_up hcu) (by simp))
        have HUC := Lib.hid (Up.call hup3 hcu)
        have hn3 : n ≤ 3 := by rw [← hn]; exact n_le s
        clear c0 hp
        go_wp2
        go_loopw [10, 11, 12, 13, 15, 18] (fun sl sr sd su sf i wr => ∃ (j : Nat), j ≤ n ∧ i = .int .i64 j ∧ sl = .bool (bl || (s.own.take j).any (fun p => p.1 == lx)) ∧ sr = .bool (br || (s.own.take j).any (fun p => p.1 == hx)) ∧ sd = .bool (bd || (s.own.take j).any (fun p => p.2 == ly)) ∧ su = .bool (bu || (s.own.take j).any (fun p => p.2 == hy)) ∧ sf = .bool (bf && (s.own.take j).all (fun p => fitsP (sh (dx, dy) p))) ∧ Up w3 wr ∧ Row wr w3.heap.size #[.int .i64 lx, .int .i64 ly] ∧ Row wr (w3.heap.size + 1) #[.int .i64 hx, .int .i64 hy] ∧ Segs wr (.slice (some ⟨gm, 0, none⟩) l.length cm) (mvd (dx, dy) l k j)) (fun _ _ _ _ _ i _ => n - (intOf i).toNat)
        case atStart => exact ⟨0, Nat.zero_le _, rfl, by simp, by simp, by simp, by simp, by simp, HUC.out, r7, r8, HO.out⟩
        case round =>
          obtain ⟨j, hj, rfl, rfl, rfl, rfl, rfl, rfl, hup4, r7', r8', hO'⟩ := hrel
          clear r7 r8 HO
          have hup5 : Up w wr := Up.call HU3.out hup4
          by_cases hjn : j < n
          · obtain ⟨px, py, hpt⟩ : ∃ px py, s.pts[j]? = some (px, py) := ⟨_, _, List.getElem?_eq_getElem (by simp [Seg.pts]; omega)⟩
            have hown : s.own[j]? = some (px, py) := by rw [own_all, List.getElem?_take, if_pos (by rw [HN.out]; exact hjn), hpt]
            have hmem : (px, py) ∈ allPts l := by
              simp only [allPts, List.mem_flatMap]
              exact ⟨s, List.mem_of_getElem? HSG.out, List.mem_of_getElem? hown⟩
            obtain ⟨i1, i2, i3, i4⟩ := box_in l _ hmem
            rw [HBX.out] at i1 i2 i3 i4
            dsimp only at i1 i2 i3 i4
            have e1 : decide (px < lx) = false := decide_eq_false (by omega)
            have e2 : decide (hx < px) = false := decide_eq_false (by omega)
            have e3 : decide (py < ly) = false := decide_eq_false (by omega)
            have e4 : decide (hy < py) = false := decide_eq_false (by omega)
            have hfit := pts_fit l HT.out _ hmem
            unfold fitsP at hfit
            simp only [Bool.and_eq_true, FixM.fits_iff] at hfit
            have hw1 : IntKind.i64.wrap (px + dx) = px + dx := wrap_small (by omega) (by omega)
            have hw2 : IntKind.i64.wrap (py + dy) = py + dy := wrap_small (by omega) (by omega)
            obtain ⟨q0, q1⟩ := cells_pt hpt
            have p0 := (hup5.cells.1 b _ hb).trans (HAT.out k s _ _ HSG.out q0)
            have p1 := (hup5.cells.1 b _ hb).trans (HAT.out k s _ _ HSG.out q1)
            dsimp only at p0 p1
            rw [show o + k * 7 + (1 + j * 2) = o + k * 7 + 1 + j * 2 by omega] at p0
            rw [show o + k * 7 + (1 + j * 2 + 1) = o + k * 7 + 1 + j * 2 + 1 by omega] at p1
            have hO2 : wr.ownsRow 0 43 7 (.slice (some ⟨gm, 0, none⟩) l.length cm) l.length (segCells (mvd (dx, dy) l k j)) := by have := hO'; unfold Segs at this; rwa [mvd_length] at this
            obtain ⟨m0, hm0⟩ : ∃ u, wr.cell? ⟨gm, k * 7 + 1 + j * 2, none⟩ = some u := ⟨_, (hO2.cellAt _ (by omega)).trans (List.getElem?_eq_getElem (by rw [segCells_length, mvd_length]; omega))⟩
            obtain ⟨m1, hm1⟩ : ∃ u, wr.cell? ⟨gm, k * 7 + 1 + j * 2 + 1, none⟩ = some u := ⟨_, (hO2.cellAt _ (by omega)).trans (List.getElem?_eq_getElem (by rw [segCells_length, mvd_length]; omega))⟩
            have z0 := hO2.frozenAt (k * 7 + 1 + j * 2)
            have z1 := hO2.frozenAt (k * 7 + 1 + j * 2 + 1)
            have q70 : wr.cell? ⟨w3.heap.size, 0, none⟩ = some (.int .i64 lx) := r7'.cell 0 rfl
            have q71 : wr.cell? ⟨w3.heap.size, 1, none⟩ = some (.int .i64 ly) := r7'.cell 1 rfl
            have q80 : wr.cell? ⟨w3.heap.size + 1, 0, none⟩ = some (.int .i64 hx) := r8'.cell 0 rfl
            have q81 : wr.cell? ⟨w3.heap.size + 1, 1, none⟩ = some (.int .i64 hy) := r8'.cell 1 rfl
            have s7 := r7'.lt
            have s8 := r8'.lt
            have sb : b < wr.heap.size := Nat.lt_of_lt_of_le hb hup5.size
            have sg : gm < wr.heap.size := cell_lt hm0
            have t7 : w3.heap.size < wr.heap.size + 1 := by omega
            have t8 : w3.heap.size + 1 < wr.heap.size + 1 := by omega
            have tb : b < wr.heap.size + 1 := by omega
            have tg : gm < wr.heap.size + 1 := by omega
            have ng7 : ¬ gm = w3.heap.size := by omega
            have ng8 : ¬ gm = w3.heap.size + 1 := by omega
            have HMV := Lib.hid (mvd_cells (d := (dx, dy)) HSG.out hpt)
            have HO' := Lib.hid hO2
            have HS' := Lib.hid hO'
            have rw1 : wr.heap.size < wr.heap.size + 1 := by omega
            obtain ⟨tl, htl⟩ : ∃ t, (bl || (s.own.take j).any (fun p => p.1 == lx)) = t := ⟨_, rfl⟩
            obtain ⟨tr, htr⟩ : ∃ t, (br || (s.own.take j).any (fun p => p.1 == hx)) = t := ⟨_, rfl⟩
            obtain ⟨td, htd⟩ : ∃ t, (bd || (s.own.take j).any (fun p => p.2 == ly)) = t := ⟨_, rfl⟩
            obtain ⟨tu, htu⟩ : ∃ t, (bu || (s.own.take j).any (fun p => p.2 == hy)) = t := ⟨_, rfl⟩
            obtain ⟨tf, htf⟩ : ∃ t, (bf && (s.own.take j).all (fun p => fitsP (sh (dx, dy) p))) = t := ⟨_, rfl⟩
            have HL := Lib.hid (show (bl || (s.own.take (j + 1)).any (fun p => p.1 == lx)) = (tl || (px == lx)) by rw [take_succ_of hown, List.any_append, ← Bool.or_assoc, htl]; simp)
            have HR := Lib.hid (show (br || (s.own.take (j + 1)).any (fun p => p.1 == hx)) = (tr || (px == hx)) by rw [take_succ_of hown, List.any_append, ← Bool.or_assoc, htr]; simp)
            have HD := Lib.hid (show (bd || (s.own.take (j + 1)).any (fun p => p.2 == ly)) = (td || (py == ly)) by rw [take_succ_of hown, List.any_append, ← Bool.or_assoc, htd]; simp)
            have HU := Lib.hid (show (bu || (s.own.take (j + 1)).any (fun p => p.2 == hy)) = (tu || (py == hy)) by rw [take_succ_of hown, List.any_append, ← Bool.or_assoc, htu]; simp)
            have HF := Lib.hid (show (bf && (s.own.take (j + 1)).all (fun p => fitsP (sh (dx, dy) p))) = (tf && fitsP (px + dx, py + dy)) by rw [take_succ_of hown, List.all_append, ← Bool.and_assoc, htf]; simp [sh])
            rw [htl, htr, htd, htu, htf]
            clear htl htr htd htu htf hown hmem i1 i2 i3 i4 q0 q1 hpt hO' hO2 hn
            have R7 := Lib.hid r7'
            have R8 := Lib.hid r8'
            have M0 := Lib.hid hm0
            have M1 := Lib.hid hm1
            have hup4' := Lib.hid hup4
            clear hm0 hm1 z0 z1
            go_upto_region 19 with fail
            go_cut [10, 11] from 75 to 172 (fun sl sr wx => sl = .bool (tl || (px == lx)) ∧ sr = .bool (tr || (px == hx)) ∧ Up wr wx ∧ Row wx wr.heap.size #[.int .i64 px, .int .i64 py])
            case first =>
              cases tl <;> cases tr
              all_goals
                go_region
                go_wp2
                go_meet
                case rel => exact ⟨rfl, rfl, by (repeat' (first | (with_reducible exact Up.refl _) | (with_reducible assumption) | (with_reducible refine Up.alloc ?_ _) | (with_reducible refine Up.drew ?_) | (with_reducible refine Up.drewN ?_ _) | (with_reducible refine Up.setCell ?_ ?_ _) | (with_reducible refine Up.call ?_ (by with_reducible assumption)) | go_size)), by (repeat' (first | (with_reducible assumption) | (with_reducible refine Row.at _ _ ?_; (simp; done)) | (with_reducible refine Row.alloc ?_ _) | (with_reducible refine Row.drew ?_) | (with_reducible refine Row.drewN ?_ _) | (with_reducible refine Row.other ?_ (by first | (simp; done) | (simp; omega) | omega) _) | (with_reducible refine Row.up ?_ (by with_reducible assumption)) | (with_reducible refine Row.chg ?_ (by with_reducible assumption) (by first | (simp; done) | (simp; omega)))))⟩
            case rest =>
              obtain ⟨rfl, rfl, hc1, ra⟩ := hcut
              obtain ⟨wd, hwd⟩ : ∃ x, x = wc := ⟨wc, rfl⟩
              subst hwd
              clear q70 q71 q80 q81 s7 s8 sb sg t7 t8 tb tg p0 p1 hw1 hw2 rw1
              clear e1 e2 e3 e4
              clear r7' r8'
              have r7' := R7.out.up hc1
              have r8' := R8.out.up hc1
              have q70 : wd.cell? ⟨w3.heap.size, 0, none⟩ = some (.int .i64 lx) := r7'.cell 0 rfl
              have q71 : wd.cell? ⟨w3.heap.size, 1, none⟩ = some (.int .i64 ly) := r7'.cell 1 rfl
              have q80 : wd.cell? ⟨w3.heap.size + 1, 0, none⟩ = some (.int .i64 hx) := r8'.cell 0 rfl
              have q81 : wd.cell? ⟨w3.heap.size + 1, 1, none⟩ = some (.int .i64 hy) := r8'.cell 1 rfl
              have a0 : wd.cell? ⟨wr.heap.size, 0, none⟩ = some (.int .i64 px) := ra.cell 0 rfl
              have a1 : wd.cell? ⟨wr.heap.size, 1, none⟩ = some (.int .i64 py) := ra.cell 1 rfl
              go_wp2
              go_cut [12, 13] from 75 to 172 (fun sl sr wx => sl = .bool (td || (py == ly)) ∧ sr = .bool (tu || (py == hy)) ∧ Up wr wx ∧ Row wx wr.heap.size #[.int .i64 px, .int .i64 py])
              case first =>
                cases td <;> cases tu
                all_goals
                  go_region
                  go_wp2
                  go_meet
                  case rel => exact ⟨rfl, rfl, by (repeat' (first | (with_reducible exact Up.refl _) | (with_reducible assumption) | (with_reducible refine Up.alloc ?_ _) | (with_reducible refine Up.drew ?_) | (with_reducible refine Up.drewN ?_ _) | (with_reducible refine Up.setCell ?_ ?_ _) | (with_reducible refine Up.call ?_ (by with_reducible assumption)) | go_size)), by (repeat' (first | (with_reducible assumption) | (with_reducible refine Row.at _ _ ?_; (simp; done)) | (with_reducible refine Row.alloc ?_ _) | (with_reducible refine Row.drew ?_) | (with_reducible refine Row.drewN ?_ _) | (with_reducible refine Row.other ?_ (by first | (simp; done) | (simp; omega) | omega) _) | (with_reducible refine Row.up ?_ (by with_reducible assumption)) | (with_reducible refine Row.chg ?_ (by with_reducible assumption) (by first | (simp; done) | (simp; omega)))))⟩
              case rest =>
                obtain ⟨rfl, rfl, hc2, ra2⟩ := hcut
                obtain ⟨we, hwe⟩ : ∃ x, x = wc := ⟨wc, rfl⟩
                subst hwe
                clear q70 q71 q80 q81 a0 a1 r7' r8'
                have r7' := R7.out.up hc2
                have r8' := R8.out.up hc2
                have q70 : we.cell? ⟨w3.heap.size, 0, none⟩ = some (.int .i64 lx) := r7'.cell 0 rfl
                have q71 : we.cell? ⟨w3.heap.size, 1, none⟩ = some (.int .i64 ly) := r7'.cell 1 rfl
                have q80 : we.cell? ⟨w3.heap.size + 1, 0, none⟩ = some (.int .i64 hx) := r8'.cell 0 rfl
                have q81 : we.cell? ⟨w3.heap.size + 1, 1, none⟩ = some (.int .i64 hy) := r8'.cell 1 rfl
                have a0 : we.cell? ⟨wr.heap.size, 0, none⟩ = some (.int .i64 px) := ra2.cell 0 rfl
                have a1 : we.cell? ⟨wr.heap.size, 1, none⟩ = some (.int .i64 py) := ra2.cell 1 rfl
                have hsg : gm < wr.heap.size := cell_lt M0.out
                have m0 := (hc2.cells.1 gm _ hsg).trans M0.out
                have m1 := (hc2.cells.1 gm _ hsg).trans M1.out
                have z0 := (hc2.cells.2 gm (k * 7 + 1 + j * 2) hsg).trans (HO'.out.frozenAt _)
                have z1 := (hc2.cells.2 gm (k * 7 + 1 + j * 2 + 1) hsg).trans (HO'.out.frozenAt _)
                have hw1 : IntKind.i64.wrap (px + dx) = px + dx := wrap_small (by omega) (by omega)
                have hw2 : IntKind.i64.wrap (py + dy) = py + dy := wrap_small (by omega) (by omega)
                have ngw : ¬ gm = wr.heap.size := by omega
                have ngw' : ¬ wr.heap.size = gm := by omega
                have hseg : gm < we.heap.size := Nat.lt_of_lt_of_le hsg hc2.size
                have hue : Up w3 we := Up.call hup4'.out hc2
                have hgm3 : w3.heap.size ≤ gm := by omega
                have hF : Segs ((we.setCell ⟨gm, k * 7 + 1 + j * 2, none⟩ (.int .i64 (px + dx))).setCell ⟨gm, k * 7 + 1 + j * 2 + 1, none⟩ (.int .i64 (py + dy))) (.slice (some ⟨gm, 0, none⟩) l.length cm) (mvd (dx, dy) l k (j + 1)) := by
                  have h1 := HS'.out.chg (S := []) (Chg.of_up hc2) (by simp)
                  unfold Segs at h1 ⊢
                  rw [mvd_length] at h1 ⊢
                  rw [← HMV.out]
                  exact ((h1.stored _ _).1.stored _ _).1
                have HFS := Lib.hid hF
                clear hF
                cases tf
                all_goals
                  go_wp2
                  go_region
                  go_wp2_with (go_at_call 18; ((with_reducible refine (fitsPoint_calls _ _ _).mono ?_); rintro E w4 ⟨rfl, rfl⟩; (try rw [hw1, hw2])))
                  go_roundw
                  case rel =>
                    exact ⟨j + 1, by omega, by go_num, by rw [HL.out], by rw [HR.out], by rw [HD.out], by rw [HU.out], by rw [HF.out]; rfl, (by (repeat' (first | (with_reducible exact hue) | (with_reducible refine Up.alloc ?_ _) | (with_reducible refine Up.drew ?_) | (with_reducible refine Up.setCell ?_ ?_ _) | exact hgm3))), by (repeat' (first | (with_reducible assumption) | (with_reducible refine Row.at _ _ ?_; (simp; done)) | (with_reducible refine Row.alloc ?_ _) | (with_reducible refine Row.drew ?_) | (with_reducible refine Row.drewN ?_ _) | (with_reducible refine Row.other ?_ (by first | (simp; done) | (simp; omega) | omega) _) | (with_reducible refine Row.up ?_ (by with_reducible assumption)) | (with_reducible refine Row.chg ?_ (by with_reducible assumption) (by first | (simp; done) | (simp; omega))))), by (repeat' (first | (with_reducible assumption) | (with_reducible refine Row.at _ _ ?_; (simp; done)) | (with_reducible refine Row.alloc ?_ _) | (with_reducible refine Row.drew ?_) | (with_reducible refine Row.drewN ?_ _) | (with_reducible refine Row.other ?_ (by first | (simp; done) | (simp; omega) | omega) _) | (with_reducible refine Row.up ?_ (by with_reducible assumption)) | (with_reducible refine Row.chg ?_ (by with_reducible assumption) (by first | (simp; done) | (simp; omega))))), HFS.out.chg (S := []) (Chg.of_up (by (repeat' (first | (with_reducible exact Up.refl _) | (with_reducible assumption) | (with_reducible refine Up.alloc ?_ _) | (with_reducible refine Up.drew ?_) | (with_reducible refine Up.drewN ?_ _) | (with_reducible refine Up.setCell ?_ ?_ _) | (with_reducible refine Up.call ?_ (by with_reducible assumption)) | go_size)))) (by simp)⟩
                  case measure => simp [intOf]; omega
          · obtain rfl : j = n := by omega
            have HS := Lib.hid (allPts_step HSG.out)
            have ho : s.own.take j = s.own := List.take_of_length_le (by rw [← HN.out, own_all]; simp; omega)
            rw [ho]
            go_wp2
            go_roundw
            case rel => exact ⟨k + 1, by omega, by go_num, by rw [HS.out, List.any_append, HBL.out], by rw [HS.out, List.any_append, HBR.out], by rw [HS.out, List.any_append, HBD.out], by rw [HS.out, List.any_append, HBU.out], by rw [HS.out, List.all_append, HBF.out], hup4, r7', r8', by rw [← mvd_next HSG.out, HN.out]; exact hO'⟩
            case measure => simp [intOf]; omega
    · have hk' : l.take k = l := List.take_of_length_le (by omega)
      have hne : l ≠ [] := fun e => h0 (by rw [e]; rfl)
      obtain ⟨a1, a2, a3, a4⟩ := box_at l HT.out hne
      rw [HBX.out] at a1 a2 a3 a4
      dsimp only at a1 a2 a3 a4
      rw [hk', a1, a2, a3, a4]
      obtain ⟨f1, f2⟩ := bounds_fit l HT.out hne
      rw [HBX.out] at f1 f2
      unfold fitsP at f1 f2
      simp only [Bool.and_eq_true, FixM.fits_iff] at f1 f2
      obtain ⟨bf, hbf⟩ : ∃ t, (allPts l).all (fun p => fitsP (sh (dx, dy) p)) = t := ⟨_, rfl⟩
      rw [hbf]
      cases bf
      · clear hbf
        go_wp2
        go_ret
        exact ⟨rfl, by (repeat' (first | (with_reducible exact Up.refl _) | (with_reducible assumption) | (with_reducible refine Up.alloc ?_ _) | (with_reducible refine Up.drew ?_) | (with_reducible refine Up.drewN ?_ _) | (with_reducible refine Up.setCell ?_ ?_ _) | (with_reducible refine Up.call ?_ (by with_reducible assumption)) | go_size))⟩
      · have HM := Lib.hid (sound_mv (dx, dy) l HT.out hbf)
        have HBM := Lib.hid (show bounds (l.map (mv (dx, dy))) = ((lx + dx, ly + dy), (hx + dx, hy + dy)) by rw [bounds_mv (dx, dy) l HT.out hne, HBX.out]; rfl)
        have HOO := Lib.hid (show SegV wo (.slice (some ⟨gm, 0, none⟩) l.length cm) (l.map (mv (dx, dy))) from by
          have := HO.out
          rw [mvd_all _ _ _ (by omega)] at this
          exact this.v)
        have hw1 : IntKind.i64.wrap (lx + dx) = lx + dx := wrap_small (by omega) (by omega)
        have hw2 : IntKind.i64.wrap (ly + dy) = ly + dy := wrap_small (by omega) (by omega)
        have hw3 : IntKind.i64.wrap (hx + dx) = hx + dx := wrap_small (by omega) (by omega)
        have hw4 : IntKind.i64.wrap (hy + dy) = hy + dy := wrap_small (by omega) (by omega)
        have q70 : wo.cell? ⟨w3.heap.size, 0, none⟩ = some (.int .i64 lx) := r7.cell 0 rfl
        have s7 := r7.lt
        have s8 := r8.lt
        clear hbf
        go_wp2_with (go_at_call 17; ((with_reducible refine (box_good _ (l.map (mv (dx, dy))) _ HOO.out HM.out (by simp; omega)).mono ?_); rintro E w5 ⟨rfl, hu5⟩; rw [HBM.out]; have R7 := r7.up hu5; have R8 := r8.up hu5; have v7 := R7.lt; have v8 := R8.lt; have v70 : w3.heap.size < w5.heap.size + 1 := (by omega); have v71 : w3.heap.size < w5.heap.size + 1 + 1 := (by omega); have v80 : w3.heap.size + 1 < w5.heap.size + 1 := (by omega); have v81 : w3.heap.size + 1 < w5.heap.size + 1 + 1 := (by omega); have c70 : w5.cell? ⟨w3.heap.size, 0, none⟩ = some (.int .i64 lx) := R7.cell 0 rfl; have c71 : w5.cell? ⟨w3.heap.size, 1, none⟩ = some (.int .i64 ly) := R7.cell 1 rfl; have c80 : w5.cell? ⟨w3.heap.size + 1, 0, none⟩ = some (.int .i64 hx) := R8.cell 0 rfl; have c81 : w5.cell? ⟨w3.heap.size + 1, 1, none⟩ = some (.int .i64 hy) := R8.cell 1 rfl))
        go_ret
        exact ⟨rfl, by (repeat' (first | (with_reducible exact Up.refl _) | (with_reducible assumption) | (with_reducible refine Up.alloc ?_ _) | (with_reducible refine Up.drew ?_) | (with_reducible refine Up.drewN ?_ _) | (with_reducible refine Up.setCell ?_ ?_ _) | (with_reducible refine Up.call ?_ (by with_reducible assumption)) | go_size))⟩

theorem own : ownKnob Try.prog.godebug = none := by kernel_rfl
theorem laidOut : laidOutB Try.prog = true := by kernel_rfl
set_option maxRecDepth 100000 in
theorem lifted (os : Os) (started : os.Started) (H : Type) (enc : TypeId × Value → H) :
    ReturnsInHanded {} Try.checked os 4 .any (Rows.pathBoxSpec.pre6 enc Try.prog Try.f4 Rows.pathBoxRow.domain false) (Rows.pathBoxSpec.post enc Try.prog Try.f4 false true false false) := by
  refine returnsInHanded_of_change (C := Try.checked) own started (by kernel_rfl) Try.func4
    (ChangeSpec.witness6 (enc := enc) (C := Try.checked) false ⟨#[], #[.slice none 0 0, .int .i16 0, .int .i16 0], []⟩ 8 (by kernel_rfl) (by kernel_rfl) (by kernel_rfl) (by kernel_rfl)) ?_
  intro W base args ds gs before hval0 hW hcnd _
  have hval : ∀ (j : Nat) t v, Try.f4.params[j]? = some t → args[j]? = some v → Value.okWide Try.prog W .any base t v := hval0
  have hW' := hW
  obtain ⟨p, q, hA0, hV, rfl, hfz, hnd⟩ := hW
  have hA : DataW.TrodAll enc Try.prog W 0 (fun _ => true) true Try.f4.params.toList args.toList ds p := hA0
  rw [Try.params4] at hA hval
  obtain ⟨v0, vs0, d0, ds0, p0, q0, hargs, rfl, rfl, h0, r0⟩ := trodAll_cons hA
  obtain ⟨v1, vs1, d1, ds1, p1, q1, rfl, rfl, rfl, h1, r1⟩ := trodAll_cons r0
  obtain ⟨v2, vs2, d2, ds2, p2, q2, rfl, rfl, rfl, h2, r2⟩ := trodAll_cons r1
  obtain ⟨rfl, rfl, rfl⟩ := trodAll_nil r2
  obtain rfl : args = #[v0, v1, v2] := by cases args; simp_all
  obtain ⟨rfl, rfl⟩ := trodVars_none hV
  have k0 := h0
  have lt0 : ∀ x ∈ p0, x.block < W.heap.size := by obtain ⟨m, hm⟩ := k0; exact DataW.trod_lt m _ _ _ hm
  have k1 := h1
  have lt1 : ∀ x ∈ p1, x.block < W.heap.size := by obtain ⟨m, hm⟩ := k1; exact DataW.trod_lt m _ _ _ hm
  have k2 := h2
  have lt2 : ∀ x ∈ p2, x.block < W.heap.size := by obtain ⟨m, hm⟩ := k2; exact DataW.trod_lt m _ _ _ hm
  obtain ⟨a0, len0, cap0, rfl⟩ := okWide_slice Try.underlying32 (hval 0 32 v0 rfl rfl)
  obtain ⟨l0, g0⟩ := segIs_of h0
  obtain ⟨a1, rfl, rfl, rfl, w1⟩ := open_int Try.underlying36 (hval 1 36 v1 rfl rfl) h1
  obtain ⟨a2, rfl, rfl, rfl, w2⟩ := open_int Try.underlying36 (hval 2 36 v2 rfl rfl) h2
  clear hA0 hval0
  refine (walk (w := W) a0 len0 cap0 l0 a1 a2 g0 w1 w2 ).mono fun e W' ⟨he, bel⟩ => ?_
  subst he
  exact ⟨_, rfl, _, _, _, [], _, [], hW', trodAll_mk1 (shut_bool Try.underlying4 _), (trodAll_cons_mk (Below.trod laidOut (by kernel_rfl) (of_decide_eq_true (by kernel_rfl)) k0 bel lt0) (trodAll_cons_mk (Below.trod laidOut (by kernel_rfl) (of_decide_eq_true (by kernel_rfl)) k1 bel lt1) (trodAll_cons_mk (Below.trod laidOut (by kernel_rfl) (of_decide_eq_true (by kernel_rfl)) k2 bel lt2) trodAll_mk0))), rfl, bel.frame _, fun h => by cases h⟩

theorem over : Rows.pathBoxRow.holds Try.pinned (OpenSpec.ofChange Rows.pathBoxSpec) :=
  OpenClaim.holds_of_wide 4 Try.f4 rfl rfl rfl rfl rfl rfl rfl ⟨rfl, rfl, rfl, rfl, rfl⟩ rfl rfl rfl rfl rfl (by kernel_rfl) Try.func4 (by kernel_rfl)
    (of_decide_eq_true (by kernel_rfl)) (by unfold Func.isWrapper; first | (rw [if_pos (by decide +kernel)]; kernel_rfl) | (rw [if_neg (by decide +kernel)]; exact ⟨rfl, rfl⟩))
    (fun os started H enc _ => lifted os started H enc)

/-- THE STATEMENT -/
theorem proved : Rows.PathBoxSaid := over
#print axioms proved
end Go.Proofs.Ytgfkfhkgidmepaa.pathBox
