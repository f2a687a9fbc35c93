/- Sound objects are the same exactly if their bytes are. No program in sight; no condition. -/
import Derived.Test.YtaafelkdhahaoaaDoorPobV2
namespace Go.Proofs.YtaafelkdhahaoaaDoor.Pob
open Go.ChangeShapes Go.WideShapes Go.RowKit Go.Shelf
set_option linter.unusedVariables false
set_option linter.unusedSimpArgs false

/-- the same at any depth -/
def EqA (a b : PO) : Prop := ∀ j, eqR j a b = true
def EqL (xs ys : List PO) : Prop := xs.length = ys.length ∧ ∀ i, i < xs.length → EqA (xs.getD i dfl) (ys.getD i dfl)
theorem eqA_of {a b : PO} (h1 : a.k = b.k) (h2 : a.n = b.n) (h3 : a.t = b.t) (h4 : a.ks = b.ks) (h5 : a.d = b.d) (h6 : EqL a.l b.l) : EqA a b := by
  intro j
  cases j with
  | zero => rfl
  | succ j =>
    simp only [eqR, h1, h2, h3, h4, h5, h6.1, decide_true, Bool.true_and, List.all_eq_true, List.mem_range]
    intro i hi
    exact h6.2 i (by rw [h6.1]; exact hi) j
theorem eqL_nil : EqL [] [] := ⟨rfl, fun i h => absurd h (Nat.not_lt_zero _)⟩
theorem eqL_cons {a b : PO} {xs ys : List PO} (h : EqA a b) (k : EqL xs ys) : EqL (a :: xs) (b :: ys) :=
  ⟨by simp [k.1], fun i hi => by
    cases i with
    | zero => exact h
    | succ i => exact k.2 i (by simpa using hi)⟩

/-- elements behind the first -/
def seqP (f : PO → List UInt8) (l : List PO) : List UInt8 := l.flatMap (fun x => 32 :: f x)
theorem els_from (f : PO → List UInt8) (l : List PO) (n : Nat) (hn : l.length = n + 1) : elsP f l l.length = f (l.getD 0 dfl) ++ seqP f l.tail := by
  have : ∀ (k : Nat), k + 1 ≤ l.length → elsP f l (k + 1) = f (l.getD 0 dfl) ++ seqP f (l.tail.take k) := by
    intro k
    induction k with
    | zero => intro _; rw [els_succ]; simp [elsP, seqP]
    | succ k ih =>
      intro h
      rw [els_succ, ih (by omega), if_neg (by omega)]
      have hk : k < l.tail.length := by rw [List.length_tail]; omega
      rw [List.take_add_one, List.getElem?_eq_getElem hk]
      have e : l.getD (k + 1) dfl = l.tail[k] := by
        rw [List.getD_eq_getElem?_getD, List.getElem_tail, List.getElem?_eq_getElem (by omega)]; rfl
      rw [e]
      simp [seqP]
  rw [hn, this n (by omega), List.take_of_length_le (by rw [List.length_tail]; omega)]
/-- keys and objects -/
def pseq (f : PO → List UInt8) (ps : List (List UInt8 × PO)) : List UInt8 := ps.flatMap (fun p => 32 :: 47 :: (enc p.1 ++ 32 :: f p.2))
theorem par_zip (f : PO → List UInt8) (ks : List (List UInt8)) (l : List PO) (h : ks.length = l.length) : parP f ks l ks.length = pseq f (ks.zip l) := by
  have : ∀ k, k ≤ ks.length → parP f ks l k = pseq f ((ks.zip l).take k) := by
    intro k
    induction k with
    | zero => intro _; rfl
    | succ k ih =>
      intro hk
      rw [par_succ, ih (by omega), List.take_add_one]
      have h1 : k < (ks.zip l).length := by rw [List.length_zip]; omega
      rw [List.getElem?_eq_getElem h1, List.getElem_zip]
      rw [List.getD_eq_getElem?_getD, List.getD_eq_getElem?_getD, List.getElem?_eq_getElem (show k < ks.length by omega), List.getElem?_eq_getElem (show k < l.length by omega)]
      simp [pseq]
  rw [this _ (Nat.le_refl _), List.take_of_length_le (by rw [List.length_zip]; omega)]

/-- objects of depth m are read back in one way -/
abbrev Inj (m : Nat) : Prop := ∀ (a b : PO), Good m a → Good m b → ∀ r1 r2, Cont r1 → Cont r2 → prn m a ++ r1 = prn m b ++ r2 → EqA a b ∧ r1 = r2
theorem cont_seq {m : Nat} : ∀ (xs : List PO) (r : List UInt8), (∀ c ∈ xs, Good m c) → Cont (seqP (prn m) xs ++ 93 :: r)
  | [], r, _ => cont_93 r
  | x :: xs, r, h => by
    have h1 := cont_seq xs r (fun c hc => h c (List.mem_cons_of_mem _ hc))
    have := cont_elem (h x (by simp)) h1
    simpa [seqP] using this
theorem seq_inj {m : Nat} (ih : Inj m) : ∀ (xs ys : List PO) (r1 r2 : List UInt8), (∀ c ∈ xs, Good m c) → (∀ c ∈ ys, Good m c) → seqP (prn m) xs ++ 93 :: r1 = seqP (prn m) ys ++ 93 :: r2 → EqL xs ys ∧ r1 = r2
  | [], [], r1, r2, _, _, h => ⟨eqL_nil, (List.cons.inj h).2⟩
  | [], y :: ys, r1, r2, _, _, h => absurd (List.cons.inj h).1 (by decide)
  | x :: xs, [], r1, r2, _, _, h => absurd (List.cons.inj h).1 (by decide)
  | x :: xs, y :: ys, r1, r2, hx, hy, h => by
    have h' : prn m x ++ (seqP (prn m) xs ++ 93 :: r1) = prn m y ++ (seqP (prn m) ys ++ 93 :: r2) := by simpa [seqP] using h
    obtain ⟨h1, h2⟩ := ih x y (hx x (by simp)) (hy y (by simp)) _ _ (cont_seq xs r1 (fun c hc => hx c (List.mem_cons_of_mem _ hc))) (cont_seq ys r2 (fun c hc => hy c (List.mem_cons_of_mem _ hc))) h'
    obtain ⟨h3, h4⟩ := seq_inj ih xs ys r1 r2 (fun c hc => hx c (List.mem_cons_of_mem _ hc)) (fun c hc => hy c (List.mem_cons_of_mem _ hc)) h2
    exact ⟨eqL_cons h1 h3, h4⟩
theorem cont_pseq {m : Nat} : ∀ (ps : List (List UInt8 × PO)) (r : List UInt8), Cont (pseq (prn m) ps ++ 32 :: 62 :: r)
  | [], r => cont_sp 62 r (by decide) (by decide)
  | p :: ps, r => by
    have := cont_sp 47 (enc p.1 ++ 32 :: prn m p.2 ++ (pseq (prn m) ps ++ 32 :: 62 :: r)) (by decide) (by decide)
    simpa [pseq] using this
def EqP (ps qs : List (List UInt8 × PO)) : Prop := ps.map (·.1) = qs.map (·.1) ∧ EqL (ps.map (·.2)) (qs.map (·.2))
theorem pseq_inj {m : Nat} (ih : Inj m) : ∀ (ps qs : List (List UInt8 × PO)) (r1 r2 : List UInt8), (∀ p ∈ ps, Good m p.2) → (∀ p ∈ qs, Good m p.2) → pseq (prn m) ps ++ 32 :: 62 :: r1 = pseq (prn m) qs ++ 32 :: 62 :: r2 → EqP ps qs ∧ r1 = r2
  | [], [], r1, r2, _, _, h => ⟨⟨rfl, eqL_nil⟩, (List.cons.inj (List.cons.inj h).2).2⟩
  | [], q :: qs, r1, r2, _, _, h => absurd (List.cons.inj (List.cons.inj h).2).1 (by decide)
  | p :: ps, [], r1, r2, _, _, h => absurd (List.cons.inj (List.cons.inj h).2).1 (by decide)
  | p :: ps, q :: qs, r1, r2, hp, hq, h => by
    have h' : enc p.1 ++ 32 :: (prn m p.2 ++ (pseq (prn m) ps ++ 32 :: 62 :: r1)) = enc q.1 ++ 32 :: (prn m q.2 ++ (pseq (prn m) qs ++ 32 :: 62 :: r2)) := by simpa [pseq] using h
    obtain ⟨h1, h2⟩ := split_by wrd _ _ _ _ (enc_wrd _) (enc_wrd _) (fun c s e => by rw [← (List.cons.inj e).1]; rfl) (fun c s e => by rw [← (List.cons.inj e).1]; rfl) h'
    obtain ⟨h3, h4⟩ := ih p.2 q.2 (hp p (by simp)) (hq q (by simp)) _ _ (cont_pseq ps r1) (cont_pseq qs r2) (List.cons.inj h2).2
    obtain ⟨h5, h6⟩ := pseq_inj ih ps qs r1 r2 (fun c hc => hp c (List.mem_cons_of_mem _ hc)) (fun c hc => hq c (List.mem_cons_of_mem _ hc)) h4
    exact ⟨⟨by simp [enc_inj _ _ h1, h5.1], eqL_cons h3 h5.2⟩, h6⟩
/-- a stream's length as an object -/
def lenO (n : Nat) : PO := .mk 2 n [] none 0 0 [] none 0 0 [] none 0 0 []
theorem len_good (m n : Nat) : Good m (lenO n) := by
  have : LeafG (lenO n) := ⟨rfl, rfl, rfl, Or.inr (Or.inr (Or.inl ⟨rfl, rfl⟩))⟩
  cases m with
  | zero => exact this
  | succ m => exact Or.inl this
theorem len_prn (m n : Nat) : prn m (lenO n) = intL n := by
  rw [prn_leaf m (o := lenO n) (by rintro (h | h | h); exact absurd (show (2 : Int) = 6 from h) (by decide); exact absurd (show (2 : Int) = 7 from h) (by decide); exact absurd (show (2 : Int) = 9 from h) (by decide))]
  rfl
theorem enc_len_key : enc lenKey = lenKey := by decide
theorem stream_form (m : Nat) (ks : List (List UInt8)) (l : List PO) (n : Nat) (h : ks.length = l.length) : dictP (prn m) ks l (lenP n) = 60 :: 60 :: (pseq (prn m) (ks.zip l ++ [(lenKey, lenO n)]) ++ [32, 62, 62]) := by
  unfold dictP lenP
  rw [par_zip _ _ _ h]
  have : pseq (prn m) (ks.zip l ++ [(lenKey, lenO n)]) = pseq (prn m) (ks.zip l) ++ ([32, 47, 76, 101, 110, 103, 116, 104, 32] ++ intL n) := by
    unfold pseq
    rw [List.flatMap_append]
    congr 1
    simp only [List.flatMap_cons, List.flatMap_nil, List.append_nil, len_prn, enc_len_key]
    rfl
  rw [this]
  simp
theorem map_zip {α β : Type} : ∀ (a : List α) (b : List β), a.length = b.length → (a.zip b).map (·.1) = a ∧ (a.zip b).map (·.2) = b
  | [], [], _ => ⟨rfl, rfl⟩
  | [], _ :: _, h => by simp at h
  | _ :: _, [], h => by simp at h
  | x :: a, y :: b, h => by
    obtain ⟨h1, h2⟩ := map_zip a b (by simpa using h)
    simp [h1, h2]
theorem zip_mem {ks : List (List UInt8)} {l : List PO} {p : List UInt8 × PO} (h : p ∈ ks.zip l) : p.2 ∈ l := (List.of_mem_zip h).2
theorem node_k {o : PO} (h : NodeG o) : o.k = 6 ∨ o.k = 7 ∨ o.k = 9 := by
  obtain ⟨-, -, h⟩ := h
  exact h.imp (fun x => x.1) (Or.imp (fun x => x.1) (fun x => x.1))
theorem prn_inj : ∀ m, Inj m := by
  have leaf : ∀ (a b : PO) (r1 r2 : List UInt8), LeafG a → LeafG b → Cont r1 → Cont r2 → leafP a ++ r1 = leafP b ++ r2 → EqA a b ∧ r1 = r2 := by
    intro a b r1 r2 ha hb h1 h2 h
    obtain ⟨⟨e1, e2, e3, e4, e5, e6, e7⟩, e8⟩ := leaf_inj ha hb h1 h2 h
    exact ⟨eqA_of e1 e2 e3 e4 e5 (by rw [e6, e7]; exact eqL_nil), e8⟩
  intro m
  induction m with
  | zero => intro a b ha hb r1 r2 h1 h2 h; exact leaf a b r1 r2 ha hb h1 h2 h
  | succ m ih =>
    intro a b ha hb r1 r2 h1 h2 h
    have hcl : cl a.k = cl b.k := by
      obtain ⟨c1, z1, e1, g1⟩ := prn_head (m + 1) a ha
      obtain ⟨c2, z2, e2, g2⟩ := prn_head (m + 1) b hb
      rw [e1, e2] at h
      obtain ⟨rfl, -⟩ := List.cons.inj h
      rw [← g1, g2]
    have lk : ∀ o : PO, LeafG o → cl o.k < 6 := by
      intro o h
      obtain ⟨-, -, -, h⟩ := h
      rcases h with ⟨e, -⟩ | ⟨e, -⟩ | ⟨e, -⟩ | ⟨e, -⟩ | ⟨e, -⟩ | ⟨e, -⟩ | ⟨e, -⟩ <;> rw [e] <;> decide
    have nk : ∀ o : PO, NodeG o → 6 ≤ cl o.k := by
      intro o h
      rcases node_k h with e | e | e <;> rw [e] <;> decide
    rcases ha with ha | ⟨ha, ga⟩ <;> rcases hb with hb | ⟨hb, gb⟩
    · rw [prn_leaf _ (leaf_k ha), prn_leaf _ (leaf_k hb)] at h
      exact leaf a b r1 r2 ha hb h1 h2 h
    · have := lk a ha; have := nk b hb; omega
    · have := nk a ha; have := lk b hb; omega
    · obtain ⟨k, n, t, ka, kl, kc, ks, la, ll, lc, l, da, dl, dc, d⟩ := a
      obtain ⟨k', n', t', ka', kl', kc', ks', la', ll', lc', l', da', dl', dc', d'⟩ := b
      obtain ⟨z1, z2, ha⟩ := ha
      obtain ⟨y1, y2, hb⟩ := hb
      simp only [PO.k, PO.n, PO.t, PO.ks, PO.l, PO.d] at z1 z2 y1 y2 ha hb ga gb hcl
      subst z1 z2 y1 y2
      have P6 : ∀ (ks : List (List UInt8)) (l : List PO) (d : List UInt8) ka kl kc la ll lc da dl dc, prn (m + 1) (.mk 6 0 [] ka kl kc ks la ll lc l da dl dc d) = 91 :: (elsP (prn m) l l.length ++ [93]) := by intros; simp [prn, PO.k, PO.l]
      have P7 : ∀ (ks : List (List UInt8)) (l : List PO) (d : List UInt8) ka kl kc la ll lc da dl dc, prn (m + 1) (.mk 7 0 [] ka kl kc ks la ll lc l da dl dc d) = dictP (prn m) ks l [] := by intros; simp [prn, PO.k, PO.l, PO.ks]
      have P9 : ∀ (ks : List (List UInt8)) (l : List PO) (d : List UInt8) ka kl kc la ll lc da dl dc, prn (m + 1) (.mk 9 0 [] ka kl kc ks la ll lc l da dl dc d) = dictP (prn m) ks l (lenP d.length) ++ ([10, 115, 116, 114, 101, 97, 109, 10] ++ (d ++ [10, 101, 110, 100, 115, 116, 114, 101, 97, 109])) := by intros; simp [prn, PO.k, PO.l, PO.ks, PO.d]
      have D7 : ∀ (ks : List (List UInt8)) (l : List PO) (r : List UInt8), ks.length = l.length → dictP (prn m) ks l [] ++ r = 60 :: 60 :: (pseq (prn m) (ks.zip l) ++ 32 :: 62 :: (62 :: r)) := by
        intro ks l r e; unfold dictP; rw [par_zip _ _ _ e]; simp
      have D9 : ∀ (ks : List (List UInt8)) (l : List PO) (d r : List UInt8), ks.length = l.length → (dictP (prn m) ks l (lenP d.length) ++ ([10, 115, 116, 114, 101, 97, 109, 10] ++ (d ++ [10, 101, 110, 100, 115, 116, 114, 101, 97, 109]))) ++ r = 60 :: 60 :: (pseq (prn m) (ks.zip l ++ [(lenKey, lenO d.length)]) ++ 32 :: 62 :: (62 :: 10 :: 115 :: 116 :: 114 :: 101 :: 97 :: 109 :: 10 :: (d ++ ([10, 101, 110, 100, 115, 116, 114, 101, 97, 109] ++ r)))) := by
        intro ks l d r e; rw [stream_form _ _ _ _ e]; simp
      have G9 : ∀ (ks : List (List UInt8)) (l : List PO) (n : Nat), (∀ c ∈ l, Good m c) → ∀ p ∈ ks.zip l ++ [(lenKey, lenO n)], Good m p.2 := by
        intro ks l n hg p hp
        rcases List.mem_append.1 hp with hp | hp
        · exact hg _ (zip_mem hp)
        · rw [List.mem_singleton.1 hp]; exact len_good m n
      have st : ∀ (r : List UInt8), Cont r → ∀ z, r ≠ 10 :: z := fun r hr z e => absurd (hr.1 _ _ e) (by decide)
      rcases ha with ⟨rfl, rfl, rfl⟩ | ⟨rfl, e1, rfl⟩ | ⟨rfl, e1⟩ <;> rcases hb with ⟨rfl, rfl, rfl⟩ | ⟨rfl, e2, rfl⟩ | ⟨rfl, e2⟩
      · rw [P6, P6] at h
        have h' : (elsP (prn m) l l.length ++ [93]) ++ r1 = (elsP (prn m) l' l'.length ++ [93]) ++ r2 := (List.cons.inj h).2
        rw [List.append_assoc, List.append_assoc] at h'
        have hgo : EqL l l' ∧ r1 = r2 := by
          cases l with
          | nil =>
            cases l' with
            | nil => exact ⟨eqL_nil, (List.cons.inj (show 93 :: r1 = 93 :: r2 from h')).2⟩
            | cons y ys =>
              rw [els_from (prn m) (y :: ys) ys.length rfl] at h'
              obtain ⟨c, z, e, hc⟩ := prn_head m y (gb y (by simp))
              have e5 : (y :: ys).getD 0 dfl = y := rfl
              rw [e5, e] at h'
              have := (List.cons.inj (show 93 :: r1 = c :: (z ++ seqP (prn m) ys ++ ([93] ++ r2)) by simpa [elsP] using h')).1
              subst this
              exfalso
              rw [show cls 93 = 99 by decide] at hc
              unfold cl at hc
              repeat' split at hc
              all_goals omega
          | cons x xs =>
            cases l' with
            | nil =>
              rw [els_from (prn m) (x :: xs) xs.length rfl] at h'
              obtain ⟨c, z, e, hc⟩ := prn_head m x (ga x (by simp))
              have e5 : (x :: xs).getD 0 dfl = x := rfl
              rw [e5, e] at h'
              have := (List.cons.inj (show c :: (z ++ seqP (prn m) xs ++ ([93] ++ r1)) = 93 :: r2 by simpa [elsP] using h')).1
              subst this
              exfalso
              rw [show cls 93 = 99 by decide] at hc
              unfold cl at hc
              repeat' split at hc
              all_goals omega
            | cons y ys =>
              rw [els_from (prn m) (x :: xs) xs.length rfl, els_from (prn m) (y :: ys) ys.length rfl] at h'
              have h3 : prn m x ++ (seqP (prn m) xs ++ 93 :: r1) = prn m y ++ (seqP (prn m) ys ++ 93 :: r2) := by simpa using h'
              obtain ⟨h4, h5⟩ := ih x y (ga x (by simp)) (gb y (by simp)) _ _ (cont_seq xs r1 (fun c hc => ga c (List.mem_cons_of_mem _ hc))) (cont_seq ys r2 (fun c hc => gb c (List.mem_cons_of_mem _ hc))) h3
              obtain ⟨h6, h7⟩ := seq_inj ih xs ys r1 r2 (fun c hc => ga c (List.mem_cons_of_mem _ hc)) (fun c hc => gb c (List.mem_cons_of_mem _ hc)) h5
              exact ⟨eqL_cons h4 h6, h7⟩
        exact ⟨eqA_of rfl rfl rfl rfl rfl hgo.1, hgo.2⟩
      · exact absurd hcl (by decide)
      · exact absurd hcl (by decide)
      · exact absurd hcl (by decide)
      · rw [P7, P7, D7 _ _ _ e1, D7 _ _ _ e2] at h
        obtain ⟨h3, h4⟩ := pseq_inj ih _ _ _ _ (fun p hp => ga _ (zip_mem hp)) (fun p hp => gb _ (zip_mem hp)) (List.cons.inj (List.cons.inj h).2).2
        obtain ⟨m1, m2⟩ := map_zip ks l e1
        obtain ⟨m3, m4⟩ := map_zip ks' l' e2
        unfold EqP at h3
        rw [m1, m2, m3, m4] at h3
        exact ⟨eqA_of rfl rfl rfl h3.1 rfl h3.2, (List.cons.inj h4).2⟩
      · rw [P7, P9, D7 _ _ _ e1, D9 _ _ _ _ e2] at h
        obtain ⟨h3, h4⟩ := pseq_inj ih _ _ _ _ (fun p hp => ga _ (zip_mem hp)) (G9 _ _ _ gb) (List.cons.inj (List.cons.inj h).2).2
        exact absurd (List.cons.inj h4).2 (st r1 h1 _)
      · exact absurd hcl (by decide)
      · rw [P9, P7, D9 _ _ _ _ e1, D7 _ _ _ e2] at h
        obtain ⟨h3, h4⟩ := pseq_inj ih _ _ _ _ (G9 _ _ _ ga) (fun p hp => gb _ (zip_mem hp)) (List.cons.inj (List.cons.inj h).2).2
        exact absurd (List.cons.inj h4).2.symm (st r2 h2 _)
      · rw [P9, P9, D9 _ _ _ _ e1, D9 _ _ _ _ e2] at h
        obtain ⟨h3, h4⟩ := pseq_inj ih _ _ _ _ (G9 _ _ _ ga) (G9 _ _ _ gb) (List.cons.inj (List.cons.inj h).2).2
        obtain ⟨m1, m2⟩ := map_zip ks l e1
        obtain ⟨m3, m4⟩ := map_zip ks' l' e2
        unfold EqP at h3
        simp only [List.map_append, m1, m2, m3, m4, List.map_cons, List.map_nil] at h3
        have hlk := (List.append_inj' h3.1 rfl).1
        have hll : l.length = l'.length := by have := h3.2.1; simpa using this
        have hel : EqL l l' := ⟨hll, fun i hi => by
          have := h3.2.2 i (by rw [List.length_append]; omega)
          rw [List.getD_eq_getElem?_getD, List.getD_eq_getElem?_getD, List.getElem?_append_left hi, List.getElem?_append_left (by omega)] at this
          rw [List.getD_eq_getElem?_getD, List.getD_eq_getElem?_getD]
          exact this⟩
        have hdl : d.length = d'.length := by
          have := h3.2.2 l.length (by simp)
          rw [List.getD_eq_getElem?_getD, List.getD_eq_getElem?_getD, List.getElem?_append_right (Nat.le_refl _), List.getElem?_append_right (by omega), hll] at this
          simp at this
          have h9 := this 1
          simp only [eqR, Bool.and_eq_true, decide_eq_true_eq] at h9
          have := h9.1.1.1.1.1.2
          simp only [lenO, PO.n] at this
          omega
        have h5 : d ++ ([10, 101, 110, 100, 115, 116, 114, 101, 97, 109] ++ r1) = d' ++ ([10, 101, 110, 100, 115, 116, 114, 101, 97, 109] ++ r2) := by simpa using h4
        obtain ⟨h6, h7⟩ := List.append_inj h5 hdl
        exact ⟨eqA_of rfl rfl rfl hlk h6 hel, List.append_cancel_left h7⟩
/-- objects that are the same are printed the same -/
theorem prn_eq : ∀ (j : Nat) (a b : PO) (m : Nat), eqR j a b = true → lightR j a = true → prn m a = prn m b := by
  intro j
  induction j with
  | zero => intro a b m _ h; cases h
  | succ j ih =>
    intro a b m h hl
    simp only [eqR, Bool.and_eq_true, decide_eq_true_eq, List.all_eq_true, List.mem_range] at h
    obtain ⟨⟨⟨⟨⟨⟨h1, h2⟩, h3⟩, h4⟩, h5⟩, h6⟩, h7⟩ := h
    obtain ⟨j', ej, -, -, -, -, -, j6⟩ := lightR_elim hl
    obtain rfl : j = j' := by omega
    have hle : leafP a = leafP b := by
      obtain ⟨k, n, t, ka, kl, kc, ks, la, ll, lc, l, da, dl, dc, d⟩ := a
      obtain ⟨k', n', t', ka', kl', kc', ks', la', ll', lc', l', da', dl', dc', d'⟩ := b
      simp only [PO.k, PO.n, PO.t] at h1 h2 h3
      subst h1 h2 h3
      rfl
    cases m with
    | zero => exact hle
    | succ m =>
      have hel : ∀ i, i < a.l.length → prn m (a.l.getD i dfl) = prn m (b.l.getD i dfl) := fun i hi => ih _ _ m (h7 i hi) (j6 _ (by rw [List.getD_eq_getElem?_getD, List.getElem?_eq_getElem hi]; exact List.getElem_mem hi))
      have hels : ∀ i, i ≤ a.l.length → elsP (prn m) a.l i = elsP (prn m) b.l i := by
        intro i
        induction i with
        | zero => intro _; rfl
        | succ i ihi => intro hi; rw [els_succ, els_succ, ihi (by omega), hel i (by omega)]
      have hpar : ∀ i, parP (prn m) a.ks a.l i = parP (prn m) b.ks b.l i := by
        intro i
        induction i with
        | zero => rfl
        | succ i ihi =>
          rw [par_succ, par_succ, ihi, h4]
          by_cases hi : i < a.l.length
          · rw [hel i hi]
          · have e1 : a.l.getD i dfl = dfl := by rw [List.getD_eq_getElem?_getD, List.getElem?_eq_none (by omega)]; rfl
            have e2 : b.l.getD i dfl = dfl := by rw [List.getD_eq_getElem?_getD, List.getElem?_eq_none (by omega)]; rfl
            rw [e1, e2]
      have hd : ∀ more, dictP (prn m) a.ks a.l more = dictP (prn m) b.ks b.l more := by
        intro more; unfold dictP; rw [hpar, h4]
      simp only [prn, h1]
      rw [hels _ (Nat.le_refl _), h6, hd, hd, h5, hle]
theorem prn_law {a b : PO} {w w' : World} (ha : POk w a) (hb : POk w' b) (hla : lightR 41 a = true) (hsa : sndR 32 true a = true) (hsb : sndR 32 true b = true) : decide (prn 32 a = prn 32 b) = eqR 41 a b := by
  cases he : eqR 41 a b
  · apply decide_eq_false
    intro e
    have := (prn_inj 32 a b (good_of 32 true a w ha hsa) (good_of 32 true b w' hb hsb) [] [] cont_nil cont_nil (by rw [e])).1 41
    rw [he] at this
    cases this
  · exact decide_eq_true (prn_eq 41 a b 32 he hla)
end Go.Proofs.YtaafelkdhahaoaaDoor.Pob
