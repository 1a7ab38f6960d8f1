/-
  PLAIN: the law LexCovers.
-/
import Derived.Test.YtmmjhdhgohfioaaD4
import Derived.Test.YtmmjhdhgohfioaaM9
import Derived.Test.YtmmjhdhgohfioaaPA
namespace Go.Proofs.Ytmmjhdhgohfioaa.Gx
open Go.RowKit Go.Proofs.YtmmjhdhgohfioaaW.PrintWords Go.Proofs.YtmmjhdhgohfioaaW.PrintLast
set_option linter.unusedVariables false
set_option linter.unusedSimpArgs false
theorem upN (a : Nat) (h : a ≤ 10000) : wrap64 ((a : Int) + 1) = ((a + 1 : Nat) : Int) := by rw [w64 (by omega) (by omega)]; omega

/-! ### what is passed over is blank -/
theorem gap_blank : ∀ (b : Bool) (l : List UInt8), skipB b (l.take (l.length - (skipB b l).length)) = []
  | b, [] => by cases b <;> simp [skipB]
  | true, c :: r => by
    have h1 := gap_blank false r
    have h2 := gap_blank true r
    have l1 := skipB_le false r
    have l2 := skipB_le true r
    by_cases hc : c = 10
    · rw [skipB, if_pos hc, List.length_cons, show r.length + 1 - (skipB false r).length = (r.length - (skipB false r).length) + 1 by omega, List.take_succ_cons, skipB, if_pos hc]
      exact h1
    · rw [skipB, if_neg hc, List.length_cons, show r.length + 1 - (skipB true r).length = (r.length - (skipB true r).length) + 1 by omega, List.take_succ_cons, skipB, if_neg hc]
      exact h2
  | false, c :: r => by
    have h1 := gap_blank false r
    have h2 := gap_blank true r
    have l1 := skipB_le false r
    have l2 := skipB_le true r
    by_cases hb : isBlank c = true
    · rw [skipB, if_pos hb, List.length_cons, show r.length + 1 - (skipB false r).length = (r.length - (skipB false r).length) + 1 by omega, List.take_succ_cons, skipB, if_pos hb]
      exact h1
    · by_cases hr : c = 47 ∧ r.head? = some 47
      · rw [skipB, if_neg hb, if_pos hr, List.length_cons, show r.length + 1 - (skipB true r).length = (r.length - (skipB true r).length) + 1 by omega, List.take_succ_cons, skipB, if_neg hb, if_pos ?_]
        · exact h2
        · refine ⟨hr.1, ?_⟩
          match r, hr, l2 with
          | d :: q, hr, l2 =>
            have hd : d = 47 := by simpa using hr.2
            have l3 := skipB_le true q
            rw [skipB, if_neg (by rw [hd]; decide), List.length_cons, show q.length + 1 - (skipB true q).length = (q.length - (skipB true q).length) + 1 by omega, List.take_succ_cons, List.head?_cons, hd]
      · rw [skipB, if_neg hb, if_neg hr, Nat.sub_self, List.take_zero]
        rfl
theorem between_go (s : ByteArray) (hs : s.size ≤ 8192) : ∀ (l : List UInt8) (i k : Nat), suf s i = l → 4 * l.length + 4 ≤ k → i ≤ s.size →
    (skipB false l = [] → mortiselaw4_between.l0 k s (i : Int) = some true) ∧ (skipB true l = [] → mortiselaw4_between.l1 k s (i : Int) = some true)
  | [], i, k, h, hk, hi => by
    obtain ⟨k, rfl⟩ : ∃ m, k = m + 2 := ⟨k - 2, by simp at hk; omega⟩
    have h1 := suf_nil h
    have h0 : ∀ q, mortiselaw4_between.l0 (q + 1) s (i : Int) = some true := by
      intro q
      rw [mortiselaw4_between.l0, if_neg (by omega)]
    refine ⟨fun _ => h0 (k + 1), fun _ => ?_⟩
    rw [mortiselaw4_between.l1, if_neg (by omega)]
    exact h0 k
  | c :: r, i, k, h, hk, hi => by
    obtain ⟨k, rfl⟩ : ∃ m, k = m + 4 := ⟨k - 4, by simp at hk; omega⟩
    obtain ⟨h1, h2, h3, h4⟩ := suf_cons h
    have hk' : 4 * r.length + 4 ≤ k := by simp at hk; omega
    have hw : wrap64 ((i : Int) + 1) = ((i + 1 : Nat) : Int) := upN i (by omega)
    have ih := fun q (hq : 4 * r.length + 4 ≤ q) => between_go s hs r (i + 1) q h3 hq (by omega)
    have hl0 : ∀ q, 4 * r.length + 4 ≤ q → skipB false (c :: r) = [] → mortiselaw4_between.l0 (q + 3) s (i : Int) = some true := by
      intro q hq hsk
      rw [mortiselaw4_between.l0, if_pos (by omega), if_pos (by omega), h2, hw]
      by_cases hb : isBlank c = true
      · rw [skipB, if_pos hb] at hsk
        have g := (ih (q + 2) (by omega)).1 hsk
        rw [g]
        have := (blank_iff c).1 hb
        by_cases b1 : (c.toNat : Int) = 32
        · rw [if_pos b1]
        rw [if_neg b1]
        by_cases b2 : (c.toNat : Int) = 9
        · rw [if_pos b2]
        rw [if_neg b2]
        by_cases b3 : (c.toNat : Int) = 10
        · rw [if_pos b3]
        rw [if_neg b3, if_pos (by omega)]
      · have nb : ¬ ((c.toNat : Int) = 32 ∨ (c.toNat : Int) = 9 ∨ (c.toNat : Int) = 10 ∨ (c.toNat : Int) = 13) := fun h => hb ((blank_iff c).2 h)
        rw [skipB, if_neg hb] at hsk
        by_cases hr : c = 47 ∧ r.head? = some 47
        · rw [if_pos hr] at hsk
          obtain ⟨e47, e2⟩ := hr
          match r, h3, h4, ih, hq, hsk, e2 with
          | d :: q2, h3, h4, ih, hq, hsk, e2 =>
            have hd : d = 47 := by simpa using e2
            obtain ⟨g1, g2, g3, g4⟩ := suf_cons h3
            have c47 : (c.toNat : Int) = 47 := (toNat_iff c 47 (by decide)).1 e47
            have d47 : (d.toNat : Int) = 47 := (toNat_iff d 47 (by decide)).1 hd
            rw [if_neg (by omega), if_neg (by omega), if_neg (by omega), if_neg (by omega), if_neg (by simp at h4; omega), if_pos c47, if_pos (by omega), if_pos (by omega), g2]
            rw [show ((d.toNat : Int) != 47) = false from bne_eq_false_iff_eq.2 d47, mortiselaw4_between.j1, if_neg (by simp), mortiselaw4_between.l1, if_pos (by omega), if_pos (by omega), h2, if_neg (by omega), hw]
            exact (ih q hq).2 hsk
        · rw [if_neg hr] at hsk
          cases hsk
    refine ⟨fun hsk => hl0 (k + 1) (by omega) hsk, fun hsk => ?_⟩
    rw [mortiselaw4_between.l1, if_pos (by omega), if_pos (by omega), h2, hw]
    by_cases hc : c = 10
    · have c10 : (c.toNat : Int) = 10 := (toNat_iff c 10 (by decide)).1 hc
      rw [if_pos c10]
      rw [skipB, if_pos hc] at hsk
      have hb : isBlank c = true := (blank_iff c).2 (by omega)
      exact hl0 k hk' (by rw [skipB, if_pos hb]; exact hsk)
    · have c10 : ¬ (c.toNat : Int) = 10 := fun h => hc ((toNat_iff c 10 (by decide)).2 h)
      rw [if_neg c10]
      rw [skipB, if_neg hc] at hsk
      exact (ih (k + 3) (by omega)).2 hsk
theorem between_gap (s : ByteArray) (hs : s.size ≤ 8192) (p k : Nat) (hp : p ≤ s.size) (hk : 4 * s.size + 4 ≤ k) : mortiselaw4_between.f k (s.extract p (s.size - (skipB false (suf s p)).length)) = some true := by
  have hl := suf_length s p
  have h1 := skipB_le false (suf s p)
  have e : s.extract p (s.size - (skipB false (suf s p)).length) = ofL ((suf s p).take ((suf s p).length - (skipB false (suf s p)).length)) := by
    rw [extract_ofL]
    congr 2
    omega
  rw [e]
  unfold mortiselaw4_between.f
  have hsz : (ofL ((suf s p).take ((suf s p).length - (skipB false (suf s p)).length))).size ≤ s.size := by
    rw [ofL_size, List.length_take]; omega
  refine (between_go _ (Nat.le_trans hsz hs) _ 0 k (suf_ofL _ 0) ?_ (Nat.zero_le _)).1 ?_
  · rw [List.drop_zero, ← ofL_size]
    omega
  · rw [List.drop_zero]
    exact gap_blank false _

/-! ### a token's shape -/
theorem tok_shape {c : UInt8} {r : List UInt8} {t : Tk} (h : tok (c :: r) = some t) :
    (t.kind = 4 ∧ ∃ b m, strVal r = some (b, m) ∧ t.len = m + 1) ∨ (¬ t.kind = 4 ∧ ¬ t.kind = 0 ∧ t.text = (c :: r).take t.len ∧ t.text.length = t.len) := by
  have htw := takeWhile_take (p := isAlnum) (c :: r)
  rw [tok] at h
  split at h
  · right
    unfold wordTok at h
    simp only at h
    split at h
    · simp only [Option.some.injEq] at h; subst h; exact ⟨by simp, by simp, htw.symm, rfl⟩
    · split at h
      · simp only [Option.some.injEq] at h; subst h; exact ⟨by simp, by simp, htw.symm, rfl⟩
      · simp at h
  · split at h
    · right
      unfold numTok at h
      simp only at h
      split at h
      · simp at h
      · rw [Option.map_eq_some_iff] at h
        obtain ⟨v, _, rfl⟩ := h
        exact ⟨by simp, by simp, htw.symm, rfl⟩
    · split at h
      · left
        unfold strTok at h
        rw [Option.bind_eq_some_iff] at h
        obtain ⟨⟨b, m⟩, h1, h2⟩ := h
        simp only at h2
        split at h2
        · simp only [Option.some.injEq] at h2; subst h2; exact ⟨rfl, b, m, h1, rfl⟩
        · simp at h2
      · right
        unfold signTok at h
        split at h
        · rename_i h2
          have h3 : ((c :: r).take 2).length = 2 := by
            have h4 := List.contains_iff_mem.1 h2
            generalize (c :: r).take 2 = x at h4
            simp only [doubles, List.mem_cons, List.not_mem_nil, or_false] at h4
            rcases h4 with rfl | rfl | rfl | rfl | rfl | rfl | rfl <;> rfl
          simp only [Option.some.injEq] at h; subst h
          exact ⟨by simp, by simp, rfl, h3⟩
        · simp only at h
          split at h
          · simp only [Option.some.injEq] at h; subst h; exact ⟨by simp, by simp, rfl, rfl⟩
          · simp at h

/-! ### the closing sign of a string -/
theorem scan_go (s : ByteArray) (hs : s.size ≤ 8192) (x3 : List S31) (x7 : Nat) (hx : x7 ≤ 9000) (A : Option Bool) : ∀ (n : Nat) (l : List UInt8) (i k : Nat) (b : List UInt8) (m : Nat), l.length ≤ n → suf s i = l → strVal l = some (b, m) → 2 * m ≤ k → i ≤ s.size →
    (∀ q, k ≤ q + 2 * m → mortiselaw4_LexCovers.l0 q s x3 ((i + m : Nat) : Int) ((x7 + 1 : Nat) : Int) = A) → mortiselaw4_LexCovers.l1 k s x3 (i : Int) (x7 : Int) = A := by
  intro n
  induction n with
  | zero =>
    intro l i k b m hl h hv
    match l, hl with
    | [], _ => simp [strVal] at hv
  | succ n ih =>
    intro l i k b m hl h hv hk hi hA
    match l, hl, h, hv with
    | [], hl, h, hv => simp [strVal] at hv
    | c :: r, hl, h, hv =>
      obtain ⟨h1, h2, h3, h4⟩ := suf_cons h
      obtain ⟨m1, m2, m3⟩ := strVal_len _ _ hl _ _ hv
      obtain ⟨k, rfl⟩ : ∃ q, k = q + 2 := ⟨k - 2, by omega⟩
      have hib : i ≤ 9000 := by omega
      rw [strVal_cons] at hv
      rw [mortiselaw4_LexCovers.l1, if_pos (by omega), if_pos (by omega), h2, mortiselaw4_LexCovers.j3]
      by_cases c34 : c = 34
      · rw [if_pos c34] at hv
        simp only [Option.some.injEq, Prod.mk.injEq] at hv
        obtain ⟨-, rfl⟩ := hv
        rw [show ((c.toNat : Int) != 34) = false from bne_eq_false_iff_eq.2 ((toNat_iff c 34 (by decide)).1 c34), if_neg (by simp), upN i (by omega), upN x7 (by omega)]
        exact hA k (by omega)
      · rw [if_neg c34] at hv
        rw [show ((c.toNat : Int) != 34) = true from bne_iff_ne.2 (fun h => c34 ((toNat_iff c 34 (by decide)).2 h)), if_pos rfl, if_pos (by omega), if_pos (by omega), h2]
        split at hv
        · cases hv
        · by_cases c92 : c = 92
          · rw [if_pos c92] at hv
            rw [if_pos (show (c.toNat : Int) = 92 from (toNat_iff c 92 (by decide)).1 c92)]
            cases r with
            | nil => simp at hv
            | cons d q =>
              obtain ⟨g1, g2, g3, g4⟩ := suf_cons h3
              rw [upN i (by omega), upN (i + 1) (by omega)]
              have key : ∃ b' m', strVal q = some (b', m') ∧ m = m' + 2 := by
                simp only at hv
                split at hv
                · rw [Option.map_eq_some_iff] at hv
                  obtain ⟨⟨b1, m1⟩, e1, e2⟩ := hv
                  simp only [Prod.mk.injEq] at e2
                  exact ⟨b1, m1, e1, e2.2.symm⟩
                · split at hv
                  · rw [Option.map_eq_some_iff] at hv
                    obtain ⟨⟨b1, m1⟩, e1, e2⟩ := hv
                    simp only [Prod.mk.injEq] at e2
                    exact ⟨b1, m1, e1, e2.2.symm⟩
                  · cases hv
              obtain ⟨b', m', e1, e2⟩ := key
              refine ih q (i + 1 + 1) k b' m' (by simp at hl; omega) g3 e1 (by omega) (by omega) (fun f hf => ?_)
              have := hA f (by omega)
              rw [show i + m = i + 1 + 1 + m' by omega] at this
              exact this
          · rw [if_neg c92] at hv
            rw [if_neg (show ¬ (c.toNat : Int) = 92 from fun h => c92 ((toNat_iff c 92 (by decide)).2 h)), upN i (by omega)]
            rw [Option.map_eq_some_iff] at hv
            obtain ⟨⟨b1, m1⟩, e1, e2⟩ := hv
            simp only [Prod.mk.injEq] at e2
            refine ih r (i + 1) k b1 m1 (by simp at hl; omega) h3 e1 (by omega) (by omega) (fun f hf => ?_)
            have := hA f (by omega)
            rw [show i + m = i + 1 + m1 by omega] at this
            exact this

/-! ### the walk over the tokens -/
theorem rd_mid (pre post : List S31) (y : S31) : rd_T31 (pre ++ y :: post) ((pre.length : Nat) : Int) = y := by
  simp [rd_T31]
def endT (N : Nat) : S31 := ⟨0, ofL [], 0, N⟩
theorem covers_end (s : ByteArray) (hs : s.size ≤ 8192) (x3 : List S31) (i k : Nat) (hi : x3.length = i) : mortiselaw4_LexCovers.l0 (k + 1) s x3 ((s.size : Nat) : Int) (i : Int) = some true := by
  rw [mortiselaw4_LexCovers.l0, if_neg (by omega), if_pos rfl, awake_eq]
  rfl
theorem covers_go (s : ByteArray) (hs : s.size ≤ 8192) : ∀ (f p k : Nat) (pre : List S31) (ts : List (Tk × Nat)), toks f (suf s p) = (ts, none) → p ≤ s.size → pre.length ≤ p → 4 * (s.size - p) + 40000 ≤ k →
    mortiselaw4_LexCovers.l0 k s (pre ++ ts.map (place s.size) ++ [endT s.size]) (p : Int) ((pre.length : Nat) : Int) = some true
  | 0, p, k, pre, ts, h, hp, hq, hk => by simp [toks] at h
  | f + 1, p, k, pre, ts, h, hp, hq, hk => by
    obtain ⟨k, rfl⟩ : ∃ m, k = m + 2 := ⟨k - 2, by omega⟩
    have hsl := suf_length s p
    have hle := skipB_le false (suf s p)
    obtain ⟨sp1, sp2⟩ := skip_pos (s := s) (i := p) (b := false) hp
    have hbt := between_gap s hs p (k + 1) hp (by omega)
    have hsuf := suf_skip (s := s) (i := p) (b := false) hp
    rw [toks] at h
    cases hx : skipB false (suf s p) with
    | nil =>
      rw [hx] at h hbt
      simp only [Prod.mk.injEq, and_true] at h
      subst h
      rw [List.map_nil, List.append_nil]
      have hlen : (pre ++ [endT s.size]).length = pre.length + 1 := by simp
      rw [mortiselaw4_LexCovers.l0, hlen, if_pos (by omega), if_pos (by omega), rd_mid]
      rw [if_neg (show ¬ (endT s.size).f3 < (p : Int) by simp only [endT]; omega), if_neg (show ¬ (endT s.size).f3 > (s.size : Int) by simp only [endT]; omega)]
      have hl1 : wrap64 (((pre.length + 1 : Nat) : Int) - 1) = ((pre.length : Nat) : Int) := by rw [w64 (by omega) (by omega)]; omega
      rw [hl1, if_neg (by simp [endT]), if_pos (by omega), if_pos (by simp only [endT]; omega), if_pos (by simp only [endT]; omega)]
      rw [show (endT s.size).f3 = ((s.size : Nat) : Int) from rfl, Int.toNat_natCast, Int.toNat_natCast]
      rw [List.length_nil, Nat.sub_zero] at hbt
      rw [hbt]
      simp only [Option.bind_some, Bool.not_true]
      rw [mortiselaw4_LexCovers.j1, if_neg (by simp), if_neg (show ¬ (endT s.size).f0 = 4 by simp [endT]), if_pos (show (endT s.size).f0 = 0 from rfl), upN _ (by omega)]
      have e : wrap64 (((s.size : Nat) : Int) + ((endT s.size).f1.size : Int)) = ((s.size : Nat) : Int) := by
        rw [show (endT s.size).f1.size = 0 from rfl, w64 (by omega) (by omega)]; omega
      rw [e]
      obtain ⟨k, rfl⟩ : ∃ m, k = m + 1 := ⟨k - 1, by omega⟩
      exact covers_end s hs _ _ k hlen
    | cons c r =>
      rw [hx] at h hbt hle sp1 sp2 hsuf
      simp only at h
      cases ht : tok (c :: r) with
      | none => rw [ht] at h; simp at h
      | some t =>
        rw [ht] at h
        simp only [Prod.mk.injEq] at h
        obtain ⟨e1, e2⟩ := h
        subst e1
        obtain ⟨b1, b2⟩ := tok_len ht
        simp only [List.length_cons] at hle sp1 sp2 hsuf hbt b2
        obtain ⟨p', hp'⟩ : ∃ p', p' = s.size - (r.length + 1) := ⟨_, rfl⟩
        rw [← hp'] at hsuf hbt sp1
        have hpl : place s.size (t, r.length + 1) = ⟨t.kind, ofL t.text, t.num, (p' : Int)⟩ := by
          unfold place
          simp only
          congr 1
          omega
        have hdrop : toks f (suf s (p' + t.len)) = ((toks f ((c :: r).drop t.len)).1, none) := by
          rw [← suf_drop, hsuf, ← e2]
        obtain ⟨ts', hts⟩ : ∃ ts', ts' = (toks f ((c :: r).drop t.len)).1 := ⟨_, rfl⟩
        rw [← hts] at hdrop ⊢
        rw [List.map_cons, hpl, List.append_assoc, List.cons_append]
        obtain ⟨post, hpost⟩ : ∃ post, post = ts'.map (place s.size) ++ [endT s.size] := ⟨_, rfl⟩
        have hpp : 1 ≤ post.length := by rw [hpost]; simp
        rw [← hpost]
        have hlen : (pre ++ (⟨t.kind, ofL t.text, t.num, (p' : Int)⟩ : S31) :: post).length = pre.length + 1 + post.length := by simp; omega
        have hpostl : post.length ≤ 8194 := by
          have h1 : ∀ (f : Nat) (l : List UInt8), (toks f l).1.length ≤ l.length := by
            intro f
            induction f with
            | zero => intro l; simp [toks]
            | succ f ih =>
              intro l
              rw [toks]
              split
              · simp
              · rename_i c' r' hs'
                have hle' := skipB_le false l
                rw [hs'] at hle'
                split
                · simp
                · rename_i t' ht'
                  have := ih ((c' :: r').drop t'.len)
                  obtain ⟨q1, q2⟩ := tok_len ht'
                  simp only [List.length_cons, List.length_drop] at this hle' q2 ⊢
                  omega
          have h2 := h1 f ((c :: r).drop t.len)
          rw [← hts, List.length_drop] at h2
          rw [hpost, List.length_append, List.length_map]
          simp only [List.length_cons, List.length_nil] at h2 ⊢
          omega
        have ih : ∀ q, 4 * (s.size - (p' + t.len)) + 40000 ≤ q → mortiselaw4_LexCovers.l0 q s (pre ++ (⟨t.kind, ofL t.text, t.num, (p' : Int)⟩ : S31) :: post) ((p' + t.len : Nat) : Int) ((pre.length + 1 : Nat) : Int) = some true := by
          intro q hq'
          have g := covers_go s hs f (p' + t.len) q (pre ++ [⟨t.kind, ofL t.text, t.num, (p' : Int)⟩]) ts' hdrop (by omega) (by simp; omega) hq'
          rw [List.append_assoc, ← hpost, List.append_assoc, List.singleton_append, List.length_append] at g
          exact g
        rw [mortiselaw4_LexCovers.l0, hlen, if_pos (by omega), if_pos (by omega), rd_mid]
        simp only
        have hl1 : wrap64 (((pre.length + 1 + post.length : Nat) : Int) - 1) = ((pre.length + post.length : Nat) : Int) := by rw [w64 (by omega) (by omega)]; omega
        have hk0 : (t.kind == 0) = false := by
          rcases tok_shape ht with ⟨e, _⟩ | ⟨_, e, _⟩
          · rw [e]; rfl
          · exact beq_eq_false_iff_ne.2 e
        have hne : (((pre.length : Nat) : Int) == ((pre.length + post.length : Nat) : Int)) = false := beq_eq_false_iff_ne.2 (by omega)
        rw [if_neg (by omega), if_neg (by omega), hl1, hk0, hne, if_neg (by simp), if_pos (by omega), if_pos (by omega), if_pos (by omega)]
        rw [Int.toNat_natCast, Int.toNat_natCast, hbt]
        simp only [Option.bind_some, Bool.not_true]
        rw [mortiselaw4_LexCovers.j1, if_neg (by simp)]
        obtain ⟨y1, y2, y3, y4⟩ := suf_cons hsuf
        rcases tok_shape ht with ⟨k4, b, m, hv, hm⟩ | ⟨n4, n0, htx, htl⟩
        · rw [if_pos k4, upN p' (by omega)]
          refine scan_go s hs _ pre.length (by omega) (some true) r.length r (p' + 1) k b m (Nat.le_refl _) y3 hv (by omega) (by omega) (fun q hq' => ?_)
          have := ih q (by omega)
          rw [show p' + 1 + m = p' + t.len by omega]
          exact this
        · rw [if_neg n4, if_neg n0, ofL_size, htl]
          have w1 : wrap64 (((s.size : Nat) : Int) - (p' : Int)) = ((s.size - p' : Nat) : Int) := by rw [w64 (by omega) (by omega)]; omega
          rw [w1]
          clear w1 hl1
          have w2 : wrap64 ((p' : Int) + ((t.len : Nat) : Int)) = ((p' + t.len : Nat) : Int) := by rw [w64 (by omega) (by omega)]; omega
          rw [w2]
          clear w2
          rw [if_neg (by omega), if_pos (by omega), if_pos (by omega), if_pos (by omega), Int.toNat_natCast, Int.toNat_natCast, upN pre.length (by omega)]
          rw [if_pos (by rw [extract_ofL, hsuf, Nat.add_sub_cancel_left, htx])]
          exact ih k (by omega)
theorem toks_fault : ∀ (f : Nat) (l : List UInt8) (x : List (Tk × Nat)) (m : Nat), toks f l = (x, some m) → m ≤ l.length
  | 0, l, x, m, h => by simp [toks] at h; omega
  | f + 1, l, x, m, h => by
    have hle := skipB_le false l
    rw [toks] at h
    split at h
    · simp at h
    · rename_i c r hx
      rw [hx] at hle
      split at h
      · simp only [Prod.mk.injEq, Option.some.injEq] at h
        rw [← h.2]
        simpa using hle
      · rename_i t ht
        simp only [Prod.mk.injEq] at h
        have := toks_fault f ((c :: r).drop t.len) _ m (Prod.ext rfl h.2)
        rw [List.length_drop] at this
        omega
theorem LexCovers_eq (s : ByteArray) (k : Nat) (hk : 80000 ≤ k) : mortiselaw4_LexCovers.f k s = some true := by
  unfold mortiselaw4_LexCovers.f lex_Lex.f mortiselaw4_num.f
  simp only [Option.bind_some]
  by_cases hs : 8192 < s.size
  · have e : lexSpec s = ([], 0, 2) := by unfold lexSpec; rw [if_pos hs]
    rw [e, awake_eq]
    simp
  · have hs' : s.size ≤ 8192 := by omega
    have hd := data_length s
    unfold lexSpec
    rw [if_neg hs]
    cases hx : toks (s.size + 1) s.data.toList with
    | mk ts o =>
      cases o with
      | none =>
        simp only
        rw [if_pos trivial]
        have g := covers_go s hs' (s.size + 1) 0 k [] ts hx (Nat.zero_le _) (Nat.zero_le _) (by omega)
        exact g
      | some m =>
        have hm := toks_fault _ _ _ _ hx
        simp only
        rw [if_neg (by decide), awake_eq]
        rw [if_pos (show ((([] : List S31).length : Nat) : Int) = 0 from rfl), if_pos (by omega), if_pos (by omega)]
        rfl
end Go.Proofs.Ytmmjhdhgohfioaa.Gx
namespace Go.Proofs.Ytmmjhdhgohfioaa.Pure
open Go.RowKit Go.Proofs.Ytmmjhdhgohfioaa.Gx Go.Proofs.YtmmjhdhgohfioaaW.PrintWords Go.Proofs.YtmmjhdhgohfioaaW.PrintLast
theorem LexCovers : mortiselaw4_LexCovers.Pure := fun s _ => ⟨80000, LexCovers_eq s 80000 (Nat.le_refl _)⟩
end Go.Proofs.Ytmmjhdhgohfioaa.Pure
