/-
  PLAIN: the document's lexer is the plain lexer.
-/
import Derived.Test.YtmmjhdhgohfioaaC8
import Derived.Test.YtmmjhdhgohfioaaC9
import Derived.Test.YtmmjhdhgohfioaaPQ
namespace Go.Proofs.Ytmmjhdhgohfioaa.Gx
open Go.RowKit Go.Proofs.YtmmjhdhgohfioaaW.PrintWords Go.Proofs.YtmmjhdhgohfioaaW.PrintLast
set_option linter.unusedVariables false
set_option linter.unusedSimpArgs false

/-! ### words -/
def wordOut (s : ByteArray) (i e : Nat) : Int × ByteArray × Int × Int × Int × Bool := (if isWord (s.extract i e).data.toList then 2 else 1, s.extract i e, 0, (i : Int), (e : Int), decide (e - i ≤ 16))
theorem word_end (s : ByteArray) (hs : s.size ≤ 8192) (i e : Nat) (h1 : i ≤ e) (h2 : e ≤ s.size) : ((mortiseref4_Word.f (s.extract (i : Int).toNat (e : Int).toNat)).bind fun t217 => (if t217 = true then (some (2, s.extract (i : Int).toNat (e : Int).toNat, 0, (i : Int), (e : Int), decide ((wrap64 ((e : Int) - (i : Int))) ≤ 16))) else (some (1, s.extract (i : Int).toNat (e : Int).toNat, 0, (i : Int), (e : Int), decide ((wrap64 ((e : Int) - (i : Int))) ≤ 16))))) = some (wordOut s i e) := by
  rw [r4_Word_eq, w64 (by omega) (by omega)]
  simp only [Option.bind_some, Int.toNat_natCast]
  unfold wordOut
  rw [show decide ((e : Int) - (i : Int) ≤ 16) = decide (e - i ≤ 16) from by rw [decide_eq_decide]; omega]
  cases isWord (s.extract i e).data.toList <;> simp
theorem word_go (s : ByteArray) (hs : s.size ≤ 8192) (i : Nat) : ∀ (l : List UInt8) (j k : Nat), suf s j = l → l.length + 1 ≤ k → i ≤ j → j ≤ s.size →
    mortiseref4_next.l0 k s (i : Int) (j : Int) = some (wordOut s i (j + (l.takeWhile isAlnum).length))
  | [], j, k, h, hk, hij, hj => by
    obtain ⟨k, rfl⟩ : ∃ m, k = m + 1 := ⟨k - 1, by simp at hk; omega⟩
    have := suf_nil h
    rw [mortiseref4_next.l0, if_neg (by omega), if_pos (by omega), if_pos (by omega), if_pos (by omega)]
    exact word_end s hs i j hij hj
  | c :: r, j, k, h, hk, hij, hj => by
    obtain ⟨k, rfl⟩ : ∃ m, k = m + 1 := ⟨k - 1, by simp at hk; omega⟩
    obtain ⟨h1, h2, h3, h4⟩ := suf_cons h
    have hw : wrap64 ((j : Int) + 1) = ((j + 1 : Nat) : Int) := by rw [w64 (by omega) (by omega)]; omega
    have ih := word_go s hs i r (j + 1) k h3 (by simp at hk; omega) (by omega) (by omega)
    rw [mortiseref4_next.l0, if_pos (by omega), if_pos (by omega), h2, r4_Letter_eq]
    simp only [Option.bind_some]
    by_cases hc : isLetter c = true
    · rw [if_pos hc, hw, ih, List.takeWhile_cons, if_pos (by simp [isAlnum, hc]), List.length_cons]
      rw [show j + 1 + (r.takeWhile isAlnum).length = j + ((r.takeWhile isAlnum).length + 1) by omega]
    · rw [if_neg hc, r4_Digit_eq]
      simp only [Option.bind_some]
      by_cases hd : isDigit c = true
      · rw [if_pos hd, hw, ih, List.takeWhile_cons, if_pos (by simp [isAlnum, hd]), List.length_cons]
        rw [show j + 1 + (r.takeWhile isAlnum).length = j + ((r.takeWhile isAlnum).length + 1) by omega]
      · have tw : (c :: r).takeWhile isAlnum = [] := by rw [List.takeWhile_cons, if_neg (by simp [isAlnum, hc, hd])]
        rw [tw, if_neg hd, if_pos (by omega), if_pos (by omega), if_pos (by omega)]
        exact word_end s hs i j hij hj

/-! ### one token -/
def NextIs (s : ByteArray) (i : Nat) (t : Option Tk) (v : Int × ByteArray × Int × Int × Int × Bool) : Prop := match t with
  | none => v.2.2.2.2.2 = false
  | some t => v = (t.kind, ofL t.text, t.num, (i : Int), ((i + t.len : Nat) : Int), true)
theorem numTok_shape {l : List UInt8} {t : Tk} (h : numTok l = some t) : t.kind = 3 ∧ t.text.length = t.len := by
  unfold numTok at h
  simp only at h
  split at h
  · simp at h
  · rw [Option.map_eq_some_iff] at h
    obtain ⟨v, _, rfl⟩ := h
    exact ⟨rfl, rfl⟩
theorem strTok_shape {l : List UInt8} {t : Tk} (h : strTok l = some t) : t.kind = 4 ∧ t.num = 0 := by
  unfold strTok at h
  rw [Option.bind_eq_some_iff] at h
  obtain ⟨x, _, h⟩ := h
  split at h
  · simp only [Option.some.injEq] at h; subst h; exact ⟨rfl, rfl⟩
  · simp at h
theorem signTok_shape {l : List UInt8} {t : Tk} (h : signTok l = some t) : t.kind = 5 ∧ t.num = 0 ∧ t.text.length = t.len ∧ 1 ≤ t.len := by
  unfold signTok at h
  split at h
  · rename_i h2
    have h3 : (l.take 2).length = 2 := by
      have h4 := List.contains_iff_mem.1 h2
      generalize l.take 2 = x at h4
      simp only [doubles, List.mem_cons, List.not_mem_nil, or_false] at h4
      rcases h4 with rfl | rfl | rfl | rfl | rfl | rfl | rfl <;> rfl
    simp only [Option.some.injEq] at h; subst h
    exact ⟨rfl, rfl, h3, Nat.le_succ 1⟩
  · split at h
    · simp at h
    · split at h
      · simp only [Option.some.injEq] at h; subst h; exact ⟨rfl, rfl, rfl, Nat.le_refl 1⟩
      · simp at h
theorem next_eq (s : ByteArray) (hs : s.size ≤ 8192) (i k : Nat) (c : UInt8) (r : List UInt8) (h : suf s i = c :: r) (hk : 4 * s.size + 8 ≤ k) : ∃ v, mortiseref4_next.f k s (i : Int) = some v ∧ NextIs s i (tok (c :: r)) v := by
  obtain ⟨h1, h2, h3, h4⟩ := suf_cons h
  have hl := suf_length s i
  unfold mortiseref4_next.f
  rw [if_pos (by omega), if_pos (by omega), h2, r4_Letter_eq]
  simp only [Option.bind_some]
  rw [tok]
  by_cases d1 : isLetter c = true
  · rw [if_pos d1, if_pos d1, word_go s hs i (c :: r) i k h (by rw [← h, hl]; omega) (Nat.le_refl _) (by omega)]
    refine ⟨_, rfl, ?_⟩
    have e : s.extract i (i + ((c :: r).takeWhile isAlnum).length) = ofL ((c :: r).takeWhile isAlnum) := by
      rw [extract_ofL, h, Nat.add_sub_cancel_left, takeWhile_take]
    unfold wordOut wordTok
    rw [e, ofL_data, Nat.add_sub_cancel_left]
    simp only
    by_cases hw : isWord ((c :: r).takeWhile isAlnum) = true
    · rw [if_pos hw, if_pos hw]
      unfold NextIs
      rw [decide_eq_true (isWord_len hw)]
    · rw [if_neg hw, if_neg hw]
      by_cases hn : ((c :: r).takeWhile isAlnum).length ≤ 16
      · rw [if_pos hn, decide_eq_true hn]
        rfl
      · rw [if_neg hn, decide_eq_false hn]
        rfl
  · rw [if_neg d1, if_neg d1, r4_Digit_eq]
    simp only [Option.bind_some]
    by_cases d2 : isDigit c = true
    · rw [if_pos d2, if_pos d2, number_eq s hs i k c r h d2 (by omega)]
      simp only [Option.bind_some]
      refine ⟨_, rfl, ?_⟩
      cases ht : numTok (c :: r) with
      | none => rfl
      | some t =>
        obtain ⟨s1, s2⟩ := numTok_shape ht
        have s3 : tok (c :: r) = some t := by rw [tok, if_neg d1, if_pos d2, ht]
        have s4 := tok_len s3
        unfold NextIs
        simp only [ofL_size, s1, s2]
        rw [w64 (by omega) (by simp at s4; omega)]
        simp
    · rw [if_neg d2, if_neg d2]
      by_cases d3 : (c.toNat : Int) = 34
      · have e34 : c = 34 := (toNat_iff c 34 (by omega)).2 d3
        rw [if_pos d3, if_pos e34, quoted_eq s hs i k c r h (by omega)]
        simp only [Option.bind_some]
        refine ⟨_, rfl, ?_⟩
        cases ht : strTok r with
        | none => rfl
        | some t =>
          obtain ⟨s1, s2⟩ := strTok_shape ht
          unfold NextIs
          simp only [s1, s2]
      · have n34 : ¬ c = 34 := fun e => d3 ((toNat_iff c 34 (by omega)).1 e)
        obtain ⟨k, rfl⟩ : ∃ m, k = m + 1 := ⟨k - 1, by omega⟩
        rw [if_neg d3, if_neg n34, sign_eq s hs i k c r h]
        simp only [Option.bind_some]
        refine ⟨_, rfl, ?_⟩
        unfold signTxt
        cases ht : signTok (c :: r) with
        | none => simp [NextIs, toList_data]
        | some t =>
          obtain ⟨s1, s2, s3, s5⟩ := signTok_shape ht
          have s6 : tok (c :: r) = some t := by rw [tok, if_neg d1, if_neg d2, if_neg n34, ht]
          have s4 := tok_len s6
          unfold NextIs
          simp only [ofL_size, s1, s2, s3, ofL_toList]
          rw [w64 (by omega) (by simp at s4; omega)]
          have : t.text.isEmpty = false := by
            cases hx : t.text with
            | nil => rw [hx] at s3; simp at s3; omega
            | cons a b => rfl
          rw [this]
          simp

/-! ### the whole lexer -/
theorem long_go (s : ByteArray) (hs : s.size ≤ 8192) : ∀ (f i k : Nat) (acc : List S31), LexAt s i acc f → f + 4 * s.size + 8 ≤ k → mortiseref4_Long.l0 k s acc (i : Int) = some (lexSpec s)
  | 0, i, k, acc, h, hk => absurd h (fun h => by have h1 := h.1; have h2 := h.2.2.1; omega)
  | f + 1, i, k, acc, h, hk => by
    obtain ⟨k, rfl⟩ : ∃ m, k = m + 1 := ⟨k - 1, by omega⟩
    have room : acc.length < 3518437208883 := Nat.lt_of_le_of_lt (Nat.le_trans h.2.1 (Nat.le_trans h.1 hs)) (by decide)
    by_cases d1 : i < s.size
    · obtain ⟨c, r, hc⟩ := h.cons d1
      obtain ⟨v, hv, hn⟩ := next_eq s hs i k c r hc (by omega)
      rw [mortiseref4_Long.l0, if_pos (by omega), hv]
      simp only [Option.bind_some]
      cases ht : tok (c :: r) with
      | none =>
        rw [ht] at hn
        simp only [NextIs] at hn
        rw [hn, if_neg (by simp), h.fault hc ht]
      | some t =>
        rw [ht] at hn
        simp only [NextIs] at hn
        subst hn
        obtain ⟨n1, n2, n3⟩ := h.next hc ht
        simp only
        rw [if_pos trivial, if_pos room, r4blank_eq s hs (i + t.len) k n2 (by omega)]
        simp only [Option.bind_some]
        exact long_go s hs f _ k _ n1 (by omega)
    · obtain ⟨e1, e2⟩ := h.ends d1
      rw [mortiseref4_Long.l0, if_neg (by omega), if_pos room, e1]
      rfl
theorem r4_Lex_eq (s : ByteArray) (k : Nat) (hk : 49152 ≤ k) : mortiseref4_Lex.f k s = some (lexSpec s) := by
  unfold mortiseref4_Lex.f
  by_cases hs : 8192 < s.size
  · rw [if_pos (by omega)]
    unfold lexSpec
    rw [if_pos hs]
  · have hs : s.size ≤ 8192 := by omega
    have h0 := r4blank_eq s hs 0 k (Nat.zero_le _) (by omega)
    rw [if_neg (by omega)]
    unfold mortiseref4_Long.f
    rw [show (0 : Int) = ((0 : Nat) : Int) from rfl, h0]
    simp only [Option.bind_some]
    have g := long_go s hs _ _ k _ (LexAt.start hs) (by omega)
    rw [g]
    rfl
theorem toks_length : ∀ (f : Nat) (l : List UInt8), (toks f l).1.length ≤ f
  | 0, l => by simp [toks]
  | f + 1, l => by
    unfold toks
    split
    · simp
    · split
      · simp
      · simp only [List.length_cons]
        have := toks_length f
        exact Nat.succ_le_succ (this _)
theorem lexSpec_length (s : ByteArray) : (lexSpec s).1.length ≤ 8194 := by
  unfold lexSpec
  split
  · simp
  · rename_i hs
    have h := toks_length (s.size + 1) s.data.toList
    split <;> rename_i hx
    · rw [hx] at h
      simp only [List.length_append, List.length_map, List.length_cons, List.length_nil] at h ⊢
      omega
    · simp
theorem same_go : ∀ (n : Nat) (l : List S31) (i k : Nat), l.length = i + n → n + 1 ≤ k → l.length ≤ 140737488355328 → mortiseref4_Same.l0 k l l (i : Int) = some true
  | 0, l, i, k, h, hk, hl => by
    obtain ⟨k, rfl⟩ : ∃ m, k = m + 1 := ⟨k - 1, by omega⟩
    rw [mortiseref4_Same.l0, if_neg (by omega)]
  | n + 1, l, i, k, h, hk, hl => by
    obtain ⟨k, rfl⟩ : ∃ m, k = m + 1 := ⟨k - 1, by omega⟩
    have hw : wrap64 ((i : Int) + 1) = ((i + 1 : Nat) : Int) := by rw [w64 (by omega) (by omega)]; omega
    rw [mortiseref4_Same.l0, if_pos (by omega), if_pos (by omega), if_pos (by omega), if_neg (by simp), hw]
    exact same_go n l (i + 1) k (by omega) (by omega) hl
theorem Same_refl (l : List S31) (k : Nat) (hk : l.length + 1 ≤ k) (hl : l.length ≤ 140737488355328) : mortiseref4_Same.f k l l = some true := by
  unfold mortiseref4_Same.f
  rw [if_pos rfl]
  exact same_go l.length l 0 k (by omega) hk hl
end Go.Proofs.Ytmmjhdhgohfioaa.Gx
