/- ArithDoes: for every input the law returns true. Its card lists a package-level variable. No other condition. -/
import Derived.Test.YtakickodehebmaaDoorArP
import Derived.Lib.LaidTab
import Derived.Deep.DeepHandedRow
import Derived.Test.YtakickodehebmaaDoorTie
import Derived.Test.YtakickodehebmaaDoorCards
import Derived.Test.YtakickodehebmaaDoorArgs
import Derived.Deep.QuietTactic
import Derived.Deep.Cut
import Derived.Test.YtakickodehebmaaDoorArO
import Derived.Test.YtakickodehebmaaDoorArU
import Derived.Test.YtakickodehebmaaDoorDoK
import Derived.Test.YtakickodehebmaaDoorArRD
namespace Go.Proofs.YtakickodehebmaaDoor.arithDoes
open Go.ChangeShapes Go.WideShapes Go.ChangeAt Go.RowKit
open Go.Proofs.YtakickodehebmaaDoor.FixM (fits within)
open Go.Proofs.YtakickodehebmaaDoor.ArM
open Go.Proofs.YtakickodehebmaaDoor.Ar
set_option linter.unusedVariables false
set_option linter.unusedSimpArgs false

theorem infoObj : (Tryd.prog.info? 38).map (fun i => (i.zero, i.size, i.bytes)) = some (some (.agg #[.int .i64 0, .bool false, .int .i64 0, .int .i64 0, .string ⟨#[]⟩, .int .i64 0, .int .i64 0, .int .i64 0]), 8, 72) := by kernel_rfl
theorem infoVal : (Tryd.prog.info? 35).map (fun i => (i.zero, i.size, i.bytes)) = some (some (.agg #[.int .i64 0, .bool false, .int .i64 0, .int .i64 0, .string ⟨#[]⟩, .pointer none, .pointer none, .pointer none, .int .i64 0, .int .i64 0]), 10, 88) := by kernel_rfl
def vcells (o : ObjL) : List Value := [.int .i64 o.k, .bool o.x, .int .i64 o.a, .int .i64 o.n, .string o.s, .pointer none, .pointer none, .pointer none, .int .i64 0, .int .i64 0]
theorem flat_length {α : Type} (f : α → List Value) (K : Nat) (hf : ∀ s, (f s).length = K) : ∀ l : List α, (l.flatMap f).length = l.length * K
  | [] => by simp
  | a :: l => by rw [List.flatMap_cons, List.length_append, hf, flat_length f K hf l, List.length_cons, Nat.add_mul]; omega
theorem flat_get {α : Type} (f : α → List Value) (K : Nat) (hK : 0 < K) (hf : ∀ s, (f s).length = K) : ∀ (l : List α) (j : Nat) (u : Value), (l.flatMap f)[j]? = some u → ∃ s, l[j / K]? = some s ∧ (f s)[j % K]? = some u
  | [], j, u, h => by simp at h
  | a :: l, j, u, h => by
    rw [List.flatMap_cons] at h
    by_cases hj : j < K
    · rw [List.getElem?_append_left (by rw [hf]; exact hj)] at h
      exact ⟨a, by rw [Nat.div_eq_of_lt hj]; rfl, by rw [Nat.mod_eq_of_lt hj]; exact h⟩
    · rw [List.getElem?_append_right (by rw [hf]; omega), hf] at h
      obtain ⟨s, h1, h2⟩ := flat_get f K hK hf l (j - K) u h
      obtain ⟨m, rfl⟩ : ∃ m, j = m + K := ⟨j - K, by omega⟩
      rw [Nat.add_sub_cancel] at h1 h2
      exact ⟨s, by rw [Nat.add_div_right _ hK, List.getElem?_cons_succ]; exact h1, by rw [Nat.add_mod_right]; exact h2⟩
/-- the cells of a slice, in one row -/
theorem Sl.news {α : Type} {K : Nat} {cells : α → List Value} {w W : World} {b o len cap : Nat} {l : List α} (hK : 0 < K) (hc : ∀ s, (cells s).length = K) (h : Sl K cells w (some ⟨b, o, none⟩) len cap l) (h0 : 0 < len) (hu : Up w W) :
    ∀ j u, (l.flatMap cells)[j]? = some u → W.cell? ((⟨b, o, none⟩ : Addr).add j) = some u := fun j u hj => by
  obtain ⟨b', o', e, hb, hcl⟩ := h.2.2.2.2 h0
  injection e with e
  injection e with e1 e2
  subst e1 e2
  obtain ⟨s, h1, h2⟩ := flat_get cells K hK hc l j u hj
  rw [add_plain, hu.cells.1 _ _ hb]
  have := hcl _ _ _ _ h1 h2
  rwa [show o + j / K * K + j % K = o + j by have := Nat.div_add_mod j K; rw [Nat.mul_comm] at this; omega] at this
theorem cells_one (l : List ObjL) : ∀ u ∈ l.flatMap ObjL.cells, u.oneCell' = true := fun u hu => by
  obtain ⟨s, _, hs⟩ := List.mem_flatMap.1 hu
  simp only [ObjL.cells, List.mem_cons, List.not_mem_nil, or_false] at hs
  rcases hs with rfl | rfl | rfl | rfl | rfl | rfl | rfl | rfl <;> rfl

theorem OutR.ok {w w' : World} {v : Value} {rk rn : Int} (h : OutR w v rk rn 0 w') : ∃ b, w.heap.size ≤ b ∧ v = .slice (some ⟨b, 0, none⟩) 1 1 ∧ Row w' b #[.int .i64 (rk), .bool false, .int .i64 0, .int .i64 (rn), .string ⟨#[]⟩, .pointer none, .pointer none, .pointer none, .int .i64 0, .int .i64 0] := by
  rcases h with ⟨_, h⟩ | ⟨h, _⟩
  · exact h
  · exact absurd rfl h
theorem OutR.bad {w w' : World} {v : Value} {rk rn re : Int} (h : OutR w v rk rn re w') (hz : re ≠ 0) : v = .slice none 0 0 := by
  rcases h with ⟨h, _⟩ | ⟨_, h⟩
  · exact absurd h hz
  · exact h

set_option maxRecDepth 100000 in
set_option maxHeartbeats 4000000 in
theorem law_ok1 (s : ByteArray) (hs : s.size ≤ 1000) (l : List ObjL) (N : Nat) (hN : l.length = N) (h1 : 0 < N) (h2 : N ≤ 2) (b o cap : Nat) {w : World} (hl : Sl 8 ObjL.cells w (some ⟨b, o, none⟩) N cap l) (hb : b < w.heap.size) (hT : Turn.Tab w)
    (hK : ∀ W, Calls Tryd.prog 7 #[.string s] W fun e w' => e = .returned (.tuple #[.int .i64 (N : Nat), .bool true]) ∧ W = w')
    (hC : ∀ W, Calls Tryd.prog 9 #[.string s] W fun e w' => e = .returned (.int .i64 (N : Nat)) ∧ W = w')
    (rk rn re : Int) (z : re ≠ 0)
    (hD : ∀ W g c, Turn.Tab W → Cs W g (l.flatMap ObjL.cells).toArray → g < W.heap.size → Calls Tryd.prog 10 #[.string s, .slice (some ⟨g, 0, none⟩) N c] W fun E w' => Gives W rk rn re E w' ∧ Up W w')
    (hA : ∀ W g c, Cs W g (l.flatMap vcells).toArray → g < W.heap.size → Calls Tryd.prog 12 #[.string s, .slice (some ⟨g, 0, none⟩) N c] W fun E w' => GivesR W rk rn re E w' ∧ Up W w') :
    Calls Tryd.prog 3 #[.string s, .slice (some ⟨b, o, none⟩) N cap] w fun e w' => e = .returned (.bool true) ∧ Up w w' := by
  obtain ⟨i0, ji, jz0, jz1, jz2⟩ := info_parts infoObj
  obtain ⟨i1, ki, kz0, kz1, kz2⟩ := info_parts infoVal
  have HN := Lib.hid hN
  have HL := Lib.hid hl
  have d4 : ((N : Int) == 0) = false := by simp; omega
  have HT := Lib.hid hT
  have HK := Lib.hid hK
  have HC := Lib.hid hC
  have HD := Lib.hid hD
  have HA := Lib.hid hA
  have hcap : cap ≤ 9223372036854775807 := hl.2.1
  have hlc : N ≤ cap := hl.1
  clear hl hT hK hC hD hA hN
  have d1 : decide (1000 < (s.size : Int)) = false := decide_eq_false (by omega)
  have d2 : decide (100 < (N : Int)) = false := decide_eq_false (by omega)
  have d3 : decide (0 < N) = true := decide_eq_true h1
  go_enter Tryd.func3, Tryd.ntmps3
  go_wp2_with (first
    | (go_at_call 7; ((with_reducible refine (HK.out _).mono ?_); rintro E w0 ⟨rfl, rfl⟩))
    | (go_at_call 8; ((with_reducible refine (answers_calls _).mono ?_); rintro E w1 ⟨rfl, hu1⟩))
    | (go_at_call 9; ((with_reducible refine (HC.out _).mono ?_); rintro E w0 ⟨rfl, rfl⟩))
    | (at_builtin; refine wpList_append_own_at _ rfl _ _ 22 rfl 0 38 i0 _ 8 72 Tryd.underlying22 ji jz0 jz1 jz2 rfl (by decide) (.slice (some ⟨w1.heap.size, 0, none⟩) 0 0) 0 [] rfl (World.ownsRow_made w1 #[] 0 (Nat.zero_le _) (by decide) rfl) ⟨b, o, none⟩ N cap (l.flatMap ObjL.cells) rfl (by rw [flat_length _ 8 (fun _ => rfl) l, HN.out]) (Sl.news (by decide) (fun _ => rfl) HL.out h1 (by (repeat' (first | (with_reducible exact Up.refl _) | (with_reducible assumption) | (with_reducible refine Up.alloc ?_ _) | (with_reducible refine Up.drew ?_) | (with_reducible refine Up.drewN ?_ _) | (with_reducible refine Up.setCell ?_ ?_ _) | (with_reducible refine Up.call ?_ (by with_reducible assumption)) | go_size)))) (cells_one l) (by unfold maxLen; omega) (by omega) (Nat.zero_le _) ?_; intro va wa hown hgr hnil hat; rw [Nat.zero_add, List.nil_append] at hown; have HO := Lib.hid hown; have HUA := Lib.hid (show Up w wa from grown_up (by (repeat' (first | (with_reducible exact Up.refl _) | (with_reducible assumption) | (with_reducible refine Up.alloc ?_ _) | (with_reducible refine Up.drew ?_) | (with_reducible refine Up.drewN ?_ _) | (with_reducible refine Up.setCell ?_ ?_ _) | (with_reducible refine Up.call ?_ (by with_reducible assumption)) | go_size))) hgr (fun k hk => by simp only [Value.ownBlock, Option.some.injEq] at hk; (have := (show Up w w1 by (repeat' (first | (with_reducible exact Up.refl _) | (with_reducible assumption) | (with_reducible refine Up.alloc ?_ _) | (with_reducible refine Up.drew ?_) | (with_reducible refine Up.drewN ?_ _) | (with_reducible refine Up.setCell ?_ ?_ _) | (with_reducible refine Up.call ?_ (by with_reducible assumption)) | go_size))).size); omega)); clear hown hgr hnil hat; refine Hid.out ?_))
  refine Lib.hid ?_
  rcases owned_form HO.out with ⟨_, h0⟩ | ⟨ga, ca, rfl, a1, a2, a3⟩
  · omega
  have hua := HUA.out
  have hcs : Cs wa ga (l.flatMap ObjL.cells).toArray := fun i u e => by
    have := HO.out.cells (g := ga) rfl i u (by simpa using e)
    rwa [add_plain, Nat.zero_add] at this
  have HCS := Lib.hid hcs
  clear hcs
  have dz : (re == 0) = false := by simpa using z
  have HZ := Lib.hid z
  clear z
  go_wp2_with (first
    | (go_at_call 10; ((with_reducible refine (HD.out _ ga ca (HT.out.up (by (repeat' (first | (with_reducible exact Up.refl _) | (with_reducible assumption) | (with_reducible refine Up.alloc ?_ _) | (with_reducible refine Up.drew ?_) | (with_reducible refine Up.drewN ?_ _) | (with_reducible refine Up.setCell ?_ ?_ _) | (with_reducible refine Up.call ?_ (by with_reducible assumption)) | go_size)))) HCS.out a3).mono ?_); rintro E w2 ⟨hg, hu2⟩; obtain rfl := hg.bad HZ.out; clear hg)))
  have U2 := Lib.hid (show Up w w2 by (repeat' (first | (with_reducible exact Up.refl _) | (with_reducible assumption) | (with_reducible refine Up.alloc ?_ _) | (with_reducible refine Up.drew ?_) | (with_reducible refine Up.drewN ?_ _) | (with_reducible refine Up.setCell ?_ ?_ _) | (with_reducible refine Up.call ?_ (by with_reducible assumption)) | go_size)))
  go_loopw [9, 10] (fun s9 s10 wr => ∃ k : Nat, k ≤ N ∧ s10 = .int .i64 k ∧ Hid (wr.ownsRow 0 35 10 s9 k ((l.take k).flatMap vcells) ∧ Up w2 wr ∧ ∀ g, s9.ownBlock = some g → w2.heap.size ≤ g)) (fun _ s10 _ => N - (intOf s10).toNat)
  case atStart => exact ⟨0, Nat.zero_le _, rfl, Lib.hid ⟨by rw [List.take_zero]; exact World.ownsRow_nil _ _ _ _, by (repeat' (first | (with_reducible exact Up.refl _) | (with_reducible assumption) | (with_reducible refine Up.alloc ?_ _) | (with_reducible refine Up.drew ?_) | (with_reducible refine Up.drewN ?_ _) | (with_reducible refine Up.setCell ?_ ?_ _) | (with_reducible refine Up.call ?_ (by with_reducible assumption)) | go_size)), fun g h => by simp [Value.ownBlock] at h⟩⟩
  case round =>
    obtain ⟨k, hk, rfl, HR⟩ := hrel
    have hur := HR.out.2.1
    have lbr : b < wr.heap.size := Nat.lt_of_lt_of_le hb (U2.out.call hur).size
    by_cases hlt : k < N
    · have dk : decide (k < N) = true := decide_eq_true hlt
      obtain ⟨b', o', e9, hb', hcl⟩ := HL.out.2.2.2.2 h1
      injection e9 with e9
      injection e9 with e91 e92
      subst e91 e92
      obtain ⟨q, hq⟩ : ∃ q, l[k]? = some q := ⟨_, List.getElem?_eq_getElem (by rw [HN.out]; exact hlt)⟩
      have ht : (l.take (k + 1)).flatMap vcells = (l.take k).flatMap vcells ++ vcells q := by
        rw [List.take_add_one, hq]; simp
      have HTK := Lib.hid ht
      have hce : ∀ j u, (ObjL.cells q)[j]? = some u → wr.cell? ⟨b, o + k * 8 + j, none⟩ = some u := fun j u hu => ((U2.out.call hur).cells.1 b _ hb).trans (hcl k q j u hq hu)
      obtain ⟨q0, q1, q2, q3, q4, q5, q6, q7⟩ := q
      have x0 : wr.cell? ⟨b, o + k * 8, none⟩ = some (.int .i64 q0) := hce 0 _ rfl
      have x1 := hce 1 _ rfl
      have x2 := hce 2 _ rfl
      have x3 := hce 3 _ rfl
      have x4 := hce 4 _ rfl
      have x5 := hce 5 _ rfl
      have x6 := hce 6 _ rfl
      have x7 := hce 7 _ rfl
      clear hce hcl hq ht
      go_wp2_with (first
        | (go_at_call 11; ((with_reducible refine (val_calls q0 q1 q2 q3 q4 q5 q6 q7 _).mono ?_); rintro E w3 ⟨rfl, hu3⟩))
        | (at_builtin; refine wpList_append_own_at _ rfl _ _ 30 rfl 0 35 i1 _ 10 88 Tryd.underlying30 ki kz0 kz1 kz2 rfl (by decide) _ k _ rfl (owned_up HR.out.1 (show Up wr _ by (repeat' (first | (with_reducible exact Up.refl _) | (with_reducible assumption) | (with_reducible refine Up.alloc ?_ _) | (with_reducible refine Up.drew ?_) | (with_reducible refine Up.drewN ?_ _) | (with_reducible refine Up.setCell ?_ ?_ _) | (with_reducible refine Up.call ?_ (by with_reducible assumption)) | go_size)))) ⟨w3.heap.size, 0, none⟩ 1 1 (vcells ⟨q0, q1, q2, q3, q4, q5, q6, q7⟩) rfl rfl (news_at (show Row _ w3.heap.size (vcells ⟨q0, q1, q2, q3, q4, q5, q6, q7⟩).toArray by simp only [vcells]; (repeat' (first | (with_reducible assumption) | (with_reducible refine Row.at _ _ ?_; (simp; done)) | (with_reducible refine Row.alloc ?_ _) | (with_reducible refine Row.drew ?_) | (with_reducible refine Row.drewN ?_ _) | (with_reducible refine Row.other ?_ (by first | (simp; done) | (simp; omega) | omega) _) | (with_reducible refine Row.up ?_ (by with_reducible assumption)) | (with_reducible refine Row.chg ?_ (by with_reducible assumption) (by first | (simp; done) | (simp; omega)))))) rfl) (by simp [vcells, Value.oneCell']) (by unfold maxLen; omega) (by omega) (Nat.zero_le _) ?_; intro vn wn hown hgr hnil hat; have HN := Lib.hid hown; have HNA := Lib.hid hat; have HG := Lib.hid (show Up w2 wn from grown_up (by (repeat' (first | (with_reducible exact Up.refl _) | (with_reducible assumption) | (with_reducible refine Up.alloc ?_ _) | (with_reducible refine Up.drew ?_) | (with_reducible refine Up.drewN ?_ _) | (with_reducible refine Up.setCell ?_ ?_ _) | (with_reducible refine Up.call ?_ (by with_reducible assumption)) | go_size))) hgr (fun g hg => HR.out.2.2 g hg)); clear hown hgr hnil hat))
      go_roundw
      case measure => simp [intOf]; omega
      case rel =>
        refine ⟨k + 1, by omega, by go_num, Lib.hid ⟨by rw [HTK.out]; exact HN.out, HG.out, fun g hg => ?_⟩⟩
        rcases HNA.out with e | e
        · exact HR.out.2.2 g (e.symm.trans hg)
        · have := (show Up w2 w3 by (repeat' (first | (with_reducible exact Up.refl _) | (with_reducible assumption) | (with_reducible refine Up.alloc ?_ _) | (with_reducible refine Up.drew ?_) | (with_reducible refine Up.drewN ?_ _) | (with_reducible refine Up.setCell ?_ ?_ _) | (with_reducible refine Up.call ?_ (by with_reducible assumption)) | go_size))).size
          rw [e] at hg
          injection hg with hg
          rw [← hg]
          simp
          omega
    · have dk : decide (k < N) = false := decide_eq_false hlt
      obtain rfl : k = N := by omega
      have hvo := HR.out.1
      rw [← HN.out, List.take_length, HN.out] at hvo
      rcases owned_form hvo with ⟨_, h0⟩ | ⟨gv, cv, e9, v1, v2, v3⟩
      · omega
      subst e9
      have hcv : Cs wr gv (l.flatMap vcells).toArray := fun i u e => by
        have := hvo.cells (g := gv) rfl i u (by simpa using e)
        rwa [add_plain, Nat.zero_add] at this
      have HCV := Lib.hid hcv
      clear hcv hvo
      go_wp2_with (first
        | (go_at_call 12; ((with_reducible refine (HA.out _ gv cv HCV.out v3).mono ?_); rintro E w4 ⟨⟨vr, rfl, hvr⟩, hu4⟩; obtain rfl := OutR.bad hvr HZ.out; clear hvr)))
      have U4 := Lib.hid (show Up w w4 by have h3 := U2.out; (repeat' (first | (with_reducible exact Up.refl _) | (with_reducible assumption) | (with_reducible refine Up.alloc ?_ _) | (with_reducible refine Up.drew ?_) | (with_reducible refine Up.drewN ?_ _) | (with_reducible refine Up.setCell ?_ ?_ _) | (with_reducible refine Up.call ?_ (by with_reducible assumption)) | go_size)))
      go_loop [13] (fun s13 => s13 = .int .i64 0) (fun s13 => 1 - (intOf s13).toNat)
      case atStart => exact rfl
      case round =>
        obtain rfl := hrel
        go_wp2
        go_ret
        exact ⟨rfl, U4.out⟩

set_option maxRecDepth 100000 in
set_option maxHeartbeats 1000000 in
theorem law_big (s : ByteArray) (n : Int) (ok : Bool) (a : Option Addr) (len cap : Nat) (hcap : cap ≤ 9223372036854775807) (hlc : len ≤ cap) (h : 1000 < s.size ∨ 100 < len) {w : World}
    (hK : ∀ W, Calls Tryd.prog 7 #[.string s] W fun e w' => e = .returned (.tuple #[.int .i64 n, .bool ok]) ∧ W = w') :
    Calls Tryd.prog 3 #[.string s, .slice a len cap] w fun e w' => e = .returned (.bool true) ∧ Up w w' := by
  have HK := Lib.hid hK
  clear hK
  have hd : decide (1000 < (s.size : Int)) = true ∨ (decide (1000 < (s.size : Int)) = false ∧ decide (100 < (len : Int)) = true) := by
    by_cases h1 : 1000 < s.size
    · exact .inl (decide_eq_true (by omega))
    · exact .inr ⟨decide_eq_false (by omega), decide_eq_true (by omega)⟩
  clear h
  rcases hd with d1 | ⟨d1, d2⟩
  all_goals
    go_enter Tryd.func3, Tryd.ntmps3
    go_wp2_with (first
      | (go_at_call 7; ((with_reducible refine (HK.out _).mono ?_); rintro E w0 ⟨rfl, rfl⟩))
      | (go_at_call 8; ((with_reducible refine (answers_calls _).mono ?_); rintro E w1 ⟨rfl, hu1⟩)))
    go_ret
    exact ⟨rfl, by (repeat' (first | (with_reducible exact Up.refl _) | (with_reducible assumption) | (with_reducible refine Up.alloc ?_ _) | (with_reducible refine Up.drew ?_) | (with_reducible refine Up.drewN ?_ _) | (with_reducible refine Up.setCell ?_ ?_ _) | (with_reducible refine Up.call ?_ (by with_reducible assumption)) | go_size))⟩

theorem Sl.newsAny {α : Type} {K : Nat} {cells : α → List Value} {w W : World} {a : Option Addr} {len cap : Nat} {l : List α} (hK : 0 < K) (hc : ∀ s, (cells s).length = K) (h : Sl K cells w a len cap l) (hu : Up w W) :
    ∀ ad, a = some ad → ∀ j u, (l.flatMap cells)[j]? = some u → W.cell? (ad.add j) = some u := fun ad ha j u hj => by
  have h0 : 0 < len := by
    rcases Nat.eq_zero_or_pos len with e | e
    · have : l = [] := List.eq_nil_of_length_eq_zero (by rw [h.2.2.1, e])
      subst this; simp at hj
    · exact e
  obtain ⟨b, o, e, _⟩ := h.2.2.2.2 h0
  obtain rfl : ad = ⟨b, o, none⟩ := Option.some.inj (ha.symm.trans e)
  subst ha
  exact Sl.news hK hc h h0 hu j u hj

set_option maxRecDepth 100000 in
set_option maxHeartbeats 4000000 in
theorem law_bad (s : ByteArray) (hs : s.size ≤ 1000) (l : List ObjL) (n : Int) (ok : Bool) (a : Option Addr) (len cap : Nat) (h2 : len ≤ 100) {w : World} (hl : Sl 8 ObjL.cells w a len cap l)
    (hok : decide (0 < n) = ok) (hn : (n = 0 ∧ ok = false) ∨ (ok = true ∧ (n == 0) = false ∧ (n == (len : Int)) = false))
    (hK : ∀ W, Calls Tryd.prog 7 #[.string s] W fun e w' => e = .returned (.tuple #[.int .i64 n, .bool ok]) ∧ W = w')
    (hC : ∀ W, Calls Tryd.prog 9 #[.string s] W fun e w' => e = .returned (.int .i64 n) ∧ W = w') :
    Calls Tryd.prog 3 #[.string s, .slice a len cap] w fun e w' => e = .returned (.bool true) ∧ Up w w' := by
  obtain ⟨i0, ji, jz0, jz1, jz2⟩ := info_parts infoObj
  have HK := Lib.hid hK
  have HC := Lib.hid hC
  have HL := Lib.hid hl
  have hcap : cap ≤ 9223372036854775807 := hl.2.1
  have hlc : len ≤ cap := hl.1
  have d1 : decide (1000 < (s.size : Int)) = false := decide_eq_false (by omega)
  have d2 : decide (100 < (len : Int)) = false := decide_eq_false (by omega)
  clear hK hC hl
  rcases hn with ⟨rfl, rfl⟩ | ⟨rfl, n0, n1⟩
  all_goals
    skip
    all_goals
      go_enter Tryd.func3, Tryd.ntmps3
      go_wp2_with (first
        | (go_at_call 7; ((with_reducible refine (HK.out _).mono ?_); rintro E w0 ⟨rfl, rfl⟩))
        | (go_at_call 8; ((with_reducible refine (answers_calls _).mono ?_); rintro E w1 ⟨rfl, hu1⟩))
        | (go_at_call 9; ((with_reducible refine (HC.out _).mono ?_); rintro E w0 ⟨rfl, rfl⟩))
        | (at_builtin; refine wpList_append_any rfl _ _ 22 rfl 0 38 i0 _ 8 72 Tryd.underlying22 ji jz0 jz1 jz2 rfl (by decide) (.slice (some ⟨w1.heap.size, 0, none⟩) 0 0) 0 [] rfl (World.ownsRow_made w1 #[] 0 (Nat.zero_le _) (by decide) rfl) a len cap (l.flatMap ObjL.cells) rfl (by rw [flat_length _ 8 (fun _ => rfl) l, HL.out.2.2.1]) HL.out.2.2.2.1 (Sl.newsAny (by decide) (fun _ => rfl) HL.out (by (repeat' (first | (with_reducible exact Up.refl _) | (with_reducible assumption) | (with_reducible refine Up.alloc ?_ _) | (with_reducible refine Up.drew ?_) | (with_reducible refine Up.drewN ?_ _) | (with_reducible refine Up.setCell ?_ ?_ _) | (with_reducible refine Up.call ?_ (by with_reducible assumption)) | go_size)))) (cells_one l) (by unfold maxLen; omega) (by omega) (Nat.zero_le _) ?_; intro va wa hown hgr hnil; rw [Nat.zero_add, List.nil_append] at hown; have HO := Lib.hid hown; have HUA := Lib.hid (show Up w wa from grown_up (by (repeat' (first | (with_reducible exact Up.refl _) | (with_reducible assumption) | (with_reducible refine Up.alloc ?_ _) | (with_reducible refine Up.drew ?_) | (with_reducible refine Up.drewN ?_ _) | (with_reducible refine Up.setCell ?_ ?_ _) | (with_reducible refine Up.call ?_ (by with_reducible assumption)) | go_size))) hgr (fun k hk => by simp only [Value.ownBlock, Option.some.injEq] at hk; (have := (show Up w w1 by (repeat' (first | (with_reducible exact Up.refl _) | (with_reducible assumption) | (with_reducible refine Up.alloc ?_ _) | (with_reducible refine Up.drew ?_) | (with_reducible refine Up.drewN ?_ _) | (with_reducible refine Up.setCell ?_ ?_ _) | (with_reducible refine Up.call ?_ (by with_reducible assumption)) | go_size))).size); omega)); clear hown hgr hnil; refine Hid.out ?_))
      refine Lib.hid ?_
      obtain ⟨ga, ca, rfl⟩ := owned_val HO.out
      have hua := HUA.out
      go_wp2_with (first
        | (go_at_call 10; ((with_reducible refine (do_bad s _ _ ga len ca HK.out (by first | exact Or.inl rfl | exact Or.inr n1) _).mono ?_); rintro E w2 ⟨rfl, hu2⟩)))
      go_ret
      exact ⟨rfl, by (repeat' (first | (with_reducible exact Up.refl _) | (with_reducible assumption) | (with_reducible refine Up.alloc ?_ _) | (with_reducible refine Up.drew ?_) | (with_reducible refine Up.drewN ?_ _) | (with_reducible refine Up.setCell ?_ ?_ _) | (with_reducible refine Up.call ?_ (by with_reducible assumption)) | go_size))⟩

end Go.Proofs.YtakickodehebmaaDoor.arithDoes
