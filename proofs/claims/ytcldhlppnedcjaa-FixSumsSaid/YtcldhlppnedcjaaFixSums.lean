/- FixSums: for every two integers and every list the law returns true. No condition. -/
import Derived.Test.YtcldhlppnedcjaaLfixA
import Derived.Test.YtcldhlppnedcjaaFix2
import Derived.Test.YtcldhlppnedcjaaRfix2
import Derived.Test.YtcldhlppnedcjaaSumM
import Derived.Test.YtcldhlppnedcjaaApp
namespace Go.Proofs.Ytcldhlppnedcjaa.fixSums
open Go.ChangeShapes Go.WideShapes Go.ChangeAt Go.RowKit
open Go.Proofs.Ytcldhlppnedcjaa.FixM (fits within rnd rndp add sub mul div sum sumF)
set_option linter.unusedVariables false

theorem sum_calls (zs : List Int) (b c : Nat) (w : World) (hlen : zs.length ≤ 9223372036854775807)
    (hc : ∀ i, i < zs.length → w.cell? ⟨b, i, none⟩ = some (.int .i64 (zs.getD i 0))) (hb : 0 < zs.length → b < w.heap.size) :
    Calls Try.prog 24 #[.slice (some ⟨b, 0, none⟩) zs.length c] w fun e w' => e = .returned (.tuple #[.int .i64 (sum zs).1, .int .i64 (sum zs).2]) ∧ Up w w' := by
  have HC := Lib.hid hc
  clear hc
  have HB := Lib.hid hb
  clear hb
  go_enter Try.func24, Try.ntmps24
  go_wp2
  go_loopw [4, 10] (fun t i wr => ∃ (k : Nat) (x : Int), k ≤ zs.length ∧ i = .int .i64 k ∧ t = .int .i64 x ∧ Hid (sumF 0 (zs.take k) = (x, 0)) ∧ Up w wr) (fun _ i _ => zs.length - (intOf i).toNat)
  case atStart => exact ⟨0, 0, Nat.zero_le _, rfl, rfl, Lib.hid rfl, Up.refl _⟩
  case round =>
    obtain ⟨k, x, hk, rfl, rfl, HS, hup⟩ := hrel
    by_cases hlt : k < zs.length
    · have hcell := HC.out k hlt
      have hbk := HB.out (by omega)
      have hcell' : wr.cell? ⟨b, k, none⟩ = some (.int .i64 (zs.getD k 0)) := by rw [hup.cells.1 b k hbk]; exact hcell
      have HN : Hid (sumF 0 (zs.take (k + 1)) = if (add x (zs.getD k 0)).2 = 0 then add x (zs.getD k 0) else (0, (add x (zs.getD k 0)).2)) := Lib.hid (by
        rw [List.take_succ_eq_append_getElem hlt, FixM.sumF_append, HS.out]
        simp [List.getD, hlt])
      have HT : Hid ((add x (zs.getD k 0)).2 ≠ 0 → sum zs = (0, (add x (zs.getD k 0)).2)) := Lib.hid (by
        intro h
        have h1 := HN.out
        rw [if_neg h] at h1
        have h2 := FixM.sumF_stays (zs.take (k + 1)) (zs.drop (k + 1)) 0 (by rw [h1]; exact h)
        rw [List.take_append_drop] at h2
        rw [sum, h2, h1])
      clear hcell
      generalize zs.getD k 0 = z at *
      by_cases hf : (add x z).2 = 0
      · have HF := Lib.hid hf
        have hf' : ((add x z).2 != 0) = false := by simpa using hf
        clear hf
        go_wp2_with (go_at_call 19; ((with_reducible refine (Fix.add_calls _ _ _).mono ?_); rintro e w1 ⟨rfl, hu1⟩))
        go_roundw
        case rel => exact ⟨k + 1, (add x z).1, by omega, by go_num, rfl, Lib.hid (by rw [HN.out, if_pos HF.out, ← HF.out]), by (repeat' (first | (with_reducible exact Up.refl _) | (with_reducible assumption) | (with_reducible refine Up.alloc ?_ _) | (with_reducible refine Up.drew ?_) | (with_reducible refine Up.drewN ?_ _) | (with_reducible refine Up.setCell ?_ ?_ _) | (with_reducible refine Up.call ?_ (by with_reducible assumption)) | go_size))⟩
        case measure => simp [intOf]; omega
      · have HF := Lib.hid hf
        have hf' : ((add x z).2 != 0) = true := by simpa using hf
        clear hf
        go_wp2_with (go_at_call 19; ((with_reducible refine (Fix.add_calls _ _ _).mono ?_); rintro e w1 ⟨rfl, hu1⟩))
        go_ret2
        exact ⟨by rw [HT.out HF.out]; rfl, by (repeat' (first | (with_reducible exact Up.refl _) | (with_reducible assumption) | (with_reducible refine Up.alloc ?_ _) | (with_reducible refine Up.drew ?_) | (with_reducible refine Up.drewN ?_ _) | (with_reducible refine Up.setCell ?_ ?_ _) | (with_reducible refine Up.call ?_ (by with_reducible assumption)) | go_size))⟩
    · have HE : Hid (sum zs = (x, 0)) := Lib.hid (by rw [← HS.out, List.take_of_length_le (by omega), sum])
      go_wp2
      go_ret2
      exact ⟨by rw [HE.out]; rfl, by (repeat' (first | (with_reducible exact Up.refl _) | (with_reducible assumption) | (with_reducible refine Up.alloc ?_ _) | (with_reducible refine Up.drew ?_) | (with_reducible refine Up.drewN ?_ _) | (with_reducible refine Up.setCell ?_ ?_ _) | (with_reducible refine Up.call ?_ (by with_reducible assumption)) | go_size))⟩


theorem sum_calls' (zs : List Int) (n b c : Nat) (w : World) (hn : zs.length = n) (hlen : n ≤ 10000)
    (hc : ∀ i u, ([] ++ zs.map (Value.int .i64))[i]? = some u → w.cell? ⟨b, i, none⟩ = some u) (hb : b < w.heap.size) :
    Calls Try.prog 24 #[.slice (some ⟨b, 0, none⟩) (0 + n) c] w fun e w' => e = .returned (.tuple #[.int .i64 (sum zs).1, .int .i64 (sum zs).2]) ∧ Up w w' := by
  subst hn
  rw [Nat.zero_add]
  exact sum_calls zs b c w (by omega) (fun i hi => hc i _ (by simp [List.getD, hi])) (fun _ => hb)

theorem info3 : (Try.prog.info? 3).map (fun i => (i.zero, i.size, i.bytes)) = some (some (.int .i64 0), 1, 8) := by kernel_rfl

set_option maxHeartbeats 1000000 in
set_option maxRecDepth 100000 in
theorem small (x y : Int) (a2 : Option Addr) (len2 cap2 : Nat) (z2 : List Int) (w : World) (hl : len2 ≤ 10000) (w2 : IsRow .i64 w a2 len2 cap2 z2) :
    Calls Try.prog 7 #[.int .i64 x, .int .i64 y, .slice a2 len2 cap2] w fun e w' => e = .returned (.bool true) ∧ Up w w' := by
  obtain ⟨i0, hi, hz0, hz1, hz2⟩ := info_parts info3
  have W2 := Lib.hid w2
  clear w2
  have d1 : decide (10000 < (len2 : Int)) = false := decide_eq_false (by omega)
  go_enter Try.func7, Try.ntmps7
  go_wp2_with (first
    | (go_at_call 19; ((with_reducible refine (Fix.add_calls _ _ _).mono ?_); rintro e w' ⟨rfl, hu1⟩))
    | (go_at_call 20; ((with_reducible refine (Fix.sub_calls _ _ _).mono ?_); rintro e w' ⟨rfl, hu2⟩))
    | (go_at_call 21; ((with_reducible refine (Rfix.add_calls _ _ _).mono ?_); rintro e w' ⟨rfl, hu3⟩))
    | (go_at_call 22; ((with_reducible refine (Rfix.sub_calls _ _ _).mono ?_); rintro e w' ⟨rfl, hu4⟩))
    | (go_at_call 23; ((with_reducible refine (Fix.fits_calls _ _).mono ?_); rintro e w' ⟨rfl, rfl⟩))
    | (go_at_call 16; ((with_reducible refine (Rfix.fits_calls _ _).mono ?_); rintro e w' ⟨rfl, rfl⟩))
    | (go_at_call 14; ((with_reducible refine (Lfix.answers_calls _).mono ?_); rintro e w' ⟨rfl, hu5⟩))
    | (go_at_call 15; ((with_reducible refine (Lfix.same_calls _ _ _).mono ?_); rintro e w' ⟨rfl, rfl⟩)))
  go_loopw [15, 16, 17] (fun t l i wr => ∃ (k : Nat) (p q : Int), k ≤ len2 ∧ i = .int .i64 k ∧ t = .int .i64 p ∧ l = .int .i64 q ∧ Hid (sumF 0 (z2.take k) = (p, q)) ∧ Up w wr) (fun _ _ i _ => len2 - (intOf i).toNat)
  case atStart => exact ⟨0, 0, 0, Nat.zero_le _, rfl, rfl, rfl, Lib.hid rfl, by (repeat' (first | (with_reducible exact Up.refl _) | (with_reducible assumption) | (with_reducible refine Up.alloc ?_ _) | (with_reducible refine Up.drew ?_) | (with_reducible refine Up.drewN ?_ _) | (with_reducible refine Up.setCell ?_ ?_ _) | (with_reducible refine Up.call ?_ (by with_reducible assumption)) | go_size))⟩
  case round =>
    obtain ⟨k, p, q, hk, rfl, rfl, rfl, HS, hup⟩ := hrel
    obtain ⟨hle, hcm, hzl⟩ := W2.out.le
    unfold maxLen at hcm
    by_cases hc : k < len2 ∧ q = 0
    · obtain ⟨hlt, rfl⟩ := hc
      obtain ⟨b, o, rfl, -, -, -, hcell, -, hbl⟩ := W2.out.at (by omega)
      have hcell' : wr.cell? ⟨b, o + k, none⟩ = some (.int .i64 (z2.getD k 0)) := by rw [hup.cells.1 b _ hbl]; exact hcell k (by omega)
      have HN : Hid (sumF 0 (z2.take (k + 1)) = ((add p (z2.getD k 0)).1, (add p (z2.getD k 0)).2)) := Lib.hid (by
        have hlt' : k < z2.length := by omega
        rw [List.take_succ_eq_append_getElem hlt', FixM.sumF_append, HS.out]
        have e : z2.getD k 0 = z2[k] := by simp [List.getD, hlt']
        rw [e, if_pos rfl]
        split
        · rfl
        · rename_i hne
          exact Prod.ext (FixM.add_err _ _ hne).symm rfl)
      clear hcell
      generalize z2.getD k 0 = z at *
      have HK := Lib.hid hzl
      clear hzl
      go_wp2_with (go_at_call 21; ((with_reducible refine (Rfix.add_calls _ _ _).mono ?_); rintro e w1 ⟨rfl, hu1⟩))
      go_roundw
      case rel => exact ⟨k + 1, _, _, by omega, by go_num, rfl, rfl, HN, by (repeat' (first | (with_reducible exact Up.refl _) | (with_reducible assumption) | (with_reducible refine Up.alloc ?_ _) | (with_reducible refine Up.drew ?_) | (with_reducible refine Up.drewN ?_ _) | (with_reducible refine Up.setCell ?_ ?_ _) | (with_reducible refine Up.call ?_ (by with_reducible assumption)) | go_size))⟩
      case measure => simp [intOf]; omega
    · have HE : Hid (FixM.sum (z2.take len2) = (p, q) ∧ (q ≠ 0 → p = 0)) := Lib.hid (by
        refine ⟨?_, fun hq => ?_⟩
        · by_cases hq : q = 0
          · have : k = len2 := by
              by_cases hkl : k < len2
              · exact absurd ⟨hkl, hq⟩ hc
              · omega
            rw [← HS.out, this]; rfl
          · have h2 := FixM.sumF_stays (z2.take k) ((z2.take len2).drop k) 0 (by rw [HS.out]; exact hq)
            have e : z2.take k ++ (z2.take len2).drop k = z2.take len2 := by
              have := List.take_append_drop k (z2.take len2)
              rw [List.take_take, Nat.min_eq_left hk] at this
              exact this
            rw [e, HS.out] at h2
            exact h2
        · have := FixM.sumF_err (z2.take k) 0 (by rw [HS.out]; exact hq)
          rw [HS.out] at this
          exact this)
      have hg : decide (k < len2) = false ∨ ((q == 0) = false ∧ decide (k < len2) = true) := by
        by_cases hkl : k < len2
        · exact .inr ⟨by rw [beq_eq_false_iff_ne]; exact fun h => hc ⟨hkl, h⟩, decide_eq_true (by omega)⟩
        · exact .inl (decide_eq_false (by omega))
      have hq2 : ((q != 0) = false ∧ (q == 0) = true) ∨ ((q != 0) = true ∧ (q == 0) = false ∧ p = 0) := by
        by_cases hq : q = 0
        · exact .inl ⟨by simp [hq], by simp [hq]⟩
        · exact .inr ⟨by simpa using hq, by simpa using hq, HE.out.2 hq⟩
      have HI : Hid (IsRow .i64 w a2 len2 cap2 z2) := W2
      clear hc hzl
      rcases hg with hg | ⟨hg1, hg2⟩ <;> rcases hq2 with ⟨hq3, hq4⟩ | ⟨hq3, hq4, rfl⟩
      all_goals try (exfalso; rw [hg1] at hq4; cases hq4; done)
      all_goals
        go_wp2_with (first
          | (at_builtin; refine wpList_append_any rfl _ _ 31 rfl w.heap.size 3 i0 (.int .i64 0) 1 8 Try.underlying31 hi hz0 hz1 hz2 rfl (by decide) (.slice (some ⟨wr.heap.size, 0, none⟩) 0 0) 0 [] rfl (ownsRow_empty wr w.heap.size _ hup.size) a2 len2 cap2 _ rfl HI.out.newsLen HI.out.none (HI.out.news (Up.alloc hup _)) (ints_oneCell _ _) (by unfold maxLen; omega) (by omega) (by have := hup.size; simp; omega) ?_; intro v' w1 hown hgr hnil))
        obtain ⟨g, c, rfl, hbg, -, -, hgs, -, hcells⟩ := owns_some hown (fun h => by have h2 := (hnil.1 h).1; injection h2 with h3; cases h3)
        have hup1 : Up w w1 := grown_up (Up.alloc hup _) hgr (fun k0 hk0 => by have h4 : wr.heap.size = k0 := (by injection hk0); have := hup.size; omega)
        have HC := Lib.hid hcells
        have hsum : FixM.sum (z2.take len2) = (_, _) := HE.out.1
        have HL : Hid ((z2.take len2).length = len2) := Lib.hid (by have := HI.out.le; simp; omega)
        clear hown hcells hnil hgr
        go_wp2_with (first
          | (go_at_call 24; ((with_reducible refine (sum_calls' (z2.take len2) len2 g c w1 HL.out hl HC.out hgs).mono ?_); rintro e w' ⟨rfl, hu6⟩))
          | (go_at_call 15; ((with_reducible refine (Lfix.same_calls _ _ _).mono ?_); rintro e w' ⟨rfl, rfl⟩)))
        go_ret
        exact ⟨rfl, by (repeat' (first | (with_reducible exact Up.refl _) | (with_reducible assumption) | (with_reducible refine Up.alloc ?_ _) | (with_reducible refine Up.drew ?_) | (with_reducible refine Up.drewN ?_ _) | (with_reducible refine Up.setCell ?_ ?_ _) | (with_reducible refine Up.call ?_ (by with_reducible assumption)) | go_size))⟩


set_option maxHeartbeats 400000 in
theorem large (x y : Int) (a2 : Option Addr) (len2 cap2 : Nat) (w : World) (hl : 10000 < len2) (hc : len2 ≤ 9223372036854775807) :
    Calls Try.prog 7 #[.int .i64 x, .int .i64 y, .slice a2 len2 cap2] w fun e w' => e = .returned (.bool true) ∧ Up w w' := by
  have d1 : decide (10000 < (len2 : Int)) = true := decide_eq_true (by omega)
  go_enter Try.func7, Try.ntmps7
  go_wp2_with (first
    | (go_at_call 19; ((with_reducible refine (Fix.add_calls _ _ _).mono ?_); rintro e w' ⟨rfl, hu1⟩))
    | (go_at_call 20; ((with_reducible refine (Fix.sub_calls _ _ _).mono ?_); rintro e w' ⟨rfl, hu2⟩))
    | (go_at_call 21; ((with_reducible refine (Rfix.add_calls _ _ _).mono ?_); rintro e w' ⟨rfl, hu3⟩))
    | (go_at_call 22; ((with_reducible refine (Rfix.sub_calls _ _ _).mono ?_); rintro e w' ⟨rfl, hu4⟩))
    | (go_at_call 23; ((with_reducible refine (Fix.fits_calls _ _).mono ?_); rintro e w' ⟨rfl, rfl⟩))
    | (go_at_call 16; ((with_reducible refine (Rfix.fits_calls _ _).mono ?_); rintro e w' ⟨rfl, rfl⟩))
    | (go_at_call 14; ((with_reducible refine (Lfix.answers_calls _).mono ?_); rintro e w' ⟨rfl, hu5⟩))
    | (go_at_call 15; ((with_reducible refine (Lfix.same_calls _ _ _).mono ?_); rintro e w' ⟨rfl, rfl⟩)))
  go_ret
  exact ⟨rfl, by (repeat' (first | (with_reducible exact Up.refl _) | (with_reducible assumption) | (with_reducible refine Up.alloc ?_ _) | (with_reducible refine Up.drew ?_) | (with_reducible refine Up.drewN ?_ _) | (with_reducible refine Up.setCell ?_ ?_ _) | (with_reducible refine Up.call ?_ (by with_reducible assumption)) | go_size))⟩

theorem walk (x y : Int) (a2 : Option Addr) (len2 cap2 : Nat) (z2 : List Int) (w0 : (Lit.int .i64 x).wf = true) (w1 : (Lit.int .i64 y).wf = true) {w : World} (w2 : IsRow .i64 w a2 len2 cap2 z2) :
    Calls Try.prog 7 #[.int .i64 x, .int .i64 y, .slice a2 len2 cap2] w fun e w' => e = .returned (.bool true) ∧ Up w w' := by
  by_cases hl : len2 ≤ 10000
  · exact small x y a2 len2 cap2 z2 w hl w2
  · have h := w2.le
    unfold maxLen at h
    exact large x y a2 len2 cap2 w (by omega) (by omega)

theorem own : ownKnob Try.prog.godebug = none := by kernel_rfl
theorem laidOut : laidOutB Try.prog = true := by kernel_rfl
set_option maxRecDepth 100000 in
theorem lifted (os : Os) (started : os.Started) (H : Type) (enc : TypeId × Value → H) :
    ReturnsInHanded {} Try.checked os 7 .any (Rows.fixSumsSpec.pre6 enc Try.prog Try.f7 Rows.fixSumsRow.domain false) (Rows.fixSumsSpec.post enc Try.prog Try.f7 false true false false) := by
  refine returnsInHanded_of_change (C := Try.checked) own started (by kernel_rfl) Try.func7
    (ChangeSpec.witness6 (enc := enc) (C := Try.checked) false ⟨#[], #[.int .i64 0, .int .i64 0, .slice none 0 0], []⟩ 8 (by kernel_rfl) (by kernel_rfl) (by kernel_rfl) (by kernel_rfl)) ?_
  intro W base args ds gs before hval0 hW hcnd _
  have hval : ∀ (j : Nat) t v, Try.f7.params[j]? = some t → args[j]? = some v → Value.okWide Try.prog W .any base t v := hval0
  have hW' := hW
  obtain ⟨p, q, hA0, hV, rfl, hfz, hnd⟩ := hW
  have hA : DataW.TrodAll enc Try.prog W 0 (fun _ => true) true Try.f7.params.toList args.toList ds p := hA0
  rw [Try.params7] at hA hval
  obtain ⟨v0, vs0, d0, ds0, p0, q0, hargs, rfl, rfl, h0, r0⟩ := trodAll_cons hA
  obtain ⟨v1, vs1, d1, ds1, p1, q1, rfl, rfl, rfl, h1, r1⟩ := trodAll_cons r0
  obtain ⟨v2, vs2, d2, ds2, p2, q2, rfl, rfl, rfl, h2, r2⟩ := trodAll_cons r1
  obtain ⟨rfl, rfl, rfl⟩ := trodAll_nil r2
  obtain rfl : args = #[v0, v1, v2] := by cases args; simp_all
  obtain ⟨rfl, rfl⟩ := trodVars_none hV
  have k0 := h0
  have lt0 : ∀ x ∈ p0, x.block < W.heap.size := by obtain ⟨m, hm⟩ := k0; exact DataW.trod_lt m _ _ _ hm
  have k1 := h1
  have lt1 : ∀ x ∈ p1, x.block < W.heap.size := by obtain ⟨m, hm⟩ := k1; exact DataW.trod_lt m _ _ _ hm
  have k2 := h2
  have lt2 : ∀ x ∈ p2, x.block < W.heap.size := by obtain ⟨m, hm⟩ := k2; exact DataW.trod_lt m _ _ _ hm
  obtain ⟨a0, rfl, rfl, rfl, w0⟩ := open_int Try.underlying3 (hval 0 3 v0 rfl rfl) h0
  obtain ⟨a1, rfl, rfl, rfl, w1⟩ := open_int Try.underlying3 (hval 1 3 v1 rfl rfl) h1
  obtain ⟨a2, len2, cap2, rfl⟩ := okWide_slice Try.underlying31 (hval 2 31 v2 rfl rfl)
  obtain ⟨z2, w2⟩ : ∃ zs, IsRow .i64 W a2 len2 cap2 zs := isRow_of Try.underlying31 Try.underlying3 (by kernel_rfl) h2
  clear hA0 hval0
  refine (walk (w := W) a0 a1 a2 len2 cap2 z2 w0 w1 w2 ).mono fun e W' ⟨he, bel⟩ => ?_
  subst he
  exact ⟨_, rfl, _, _, _, [], _, [], hW', trodAll_mk1 (shut_bool Try.underlying4 _), (trodAll_cons_mk (Below.trod laidOut (by kernel_rfl) (of_decide_eq_true (by kernel_rfl)) k0 bel lt0) (trodAll_cons_mk (Below.trod laidOut (by kernel_rfl) (of_decide_eq_true (by kernel_rfl)) k1 bel lt1) (trodAll_cons_mk (Below.trod laidOut (by kernel_rfl) (of_decide_eq_true (by kernel_rfl)) k2 bel lt2) trodAll_mk0))), rfl, bel.frame _, fun h => by cases h⟩

theorem over : Rows.fixSumsRow.holds Try.pinned (OpenSpec.ofChange Rows.fixSumsSpec) :=
  OpenClaim.holds_of_wide 7 Try.f7 rfl rfl rfl rfl rfl rfl rfl ⟨rfl, rfl, rfl, rfl, rfl⟩ rfl rfl rfl rfl rfl (by kernel_rfl) Try.func7 (by kernel_rfl)
    (of_decide_eq_true (by kernel_rfl)) (by unfold Func.isWrapper; first | (rw [if_pos (by decide +kernel)]; kernel_rfl) | (rw [if_neg (by decide +kernel)]; exact ⟨rfl, rfl⟩))
    (fun os started H enc _ => lifted os started H enc)

/-- THE STATEMENT -/
theorem proved : Rows.FixSumsSaid := over
#print axioms proved
end Go.Proofs.Ytcldhlppnedcjaa.fixSums
