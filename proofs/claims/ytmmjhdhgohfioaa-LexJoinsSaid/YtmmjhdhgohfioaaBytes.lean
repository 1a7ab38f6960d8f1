/-
  BYTES AND PLACES: a string as a list of bytes, what stands from a place on; the small functions' answers.
-/
import Derived.Test.YtmmjhdhgohfioaaSpec
import Derived.Test.YtmmjhdhgohfioaaB2
import Derived.Test.YtmmjhdhgohfioaaB3
import Derived.Test.YtmmjhdhgohfioaaC2
import Derived.Test.YtmmjhdhgohfioaaC3
namespace Go.Proofs.Ytmmjhdhgohfioaa.Gx
open Go.RowKit Go.Proofs.YtmmjhdhgohfioaaW.PrintWords Go.Proofs.YtmmjhdhgohfioaaW.PrintLast
set_option linter.unusedVariables false
set_option linter.unusedSimpArgs false

/-- What stands from place i on. -/
def suf (s : ByteArray) (i : Nat) : List UInt8 := s.data.toList.drop i
theorem suf_length (s : ByteArray) (i : Nat) : (suf s i).length = s.size - i := by unfold suf; rw [List.length_drop, data_length]
theorem suf_cons {s : ByteArray} {i : Nat} {c : UInt8} {r : List UInt8} (h : suf s i = c :: r) : i < s.size ∧ bt s (i : Int) = (c.toNat : Int) ∧ suf s (i + 1) = r ∧ s.size = i + 1 + r.length := by
  have hl := suf_length s i
  rw [h] at hl
  simp at hl
  have hi : i < s.size := by omega
  have hd : suf s i = s[i] :: suf s (i + 1) := by
    unfold suf
    rw [List.drop_eq_getElem_cons (by rw [data_length]; exact hi)]
    rfl
  rw [h] at hd
  simp only [List.cons.injEq] at hd
  refine ⟨hi, ?_, hd.2.symm, by omega⟩
  unfold bt
  rw [dif_pos (by simpa using hi), hd.1]
  rfl
theorem suf_nil {s : ByteArray} {i : Nat} (h : suf s i = []) : s.size ≤ i := by
  have hl := suf_length s i
  rw [h] at hl
  simp at hl
  omega
theorem suf_end {s : ByteArray} {i : Nat} (h : s.size ≤ i) : suf s i = [] := List.eq_nil_of_length_eq_zero (by rw [suf_length]; omega)
theorem suf_drop (s : ByteArray) (i n : Nat) : (suf s i).drop n = suf s (i + n) := by unfold suf; rw [List.drop_drop]
theorem suf_zero (s : ByteArray) : suf s 0 = s.data.toList := rfl
theorem ba_ext {a b : ByteArray} (h : a.data.toList = b.data.toList) : a = b := by
  cases a; cases b; simp only [ByteArray.mk.injEq]; exact Array.ext' h
theorem ofL_data (l : List UInt8) : (ofL l).data.toList = l := by simp [ofL]
theorem ofL_size (l : List UInt8) : (ofL l).size = l.length := by rw [← data_length, ofL_data]
theorem toList_data (s : ByteArray) : s.toList = s.data.toList := by
  have key : ∀ (n i : Nat) (r : List UInt8), s.size - i = n → ByteArray.toList.loop s i r = r.reverse ++ s.data.toList.drop i := by
    intro n
    induction n with
    | zero =>
      intro i r h
      unfold ByteArray.toList.loop
      rw [if_neg (by omega), List.drop_eq_nil_of_le (by rw [data_length]; omega), List.append_nil]
    | succ n ih =>
      intro i r h
      unfold ByteArray.toList.loop
      have hi : i < s.size := by omega
      rw [if_pos hi, ih (i + 1) _ (by omega), List.drop_eq_getElem_cons (i := i) (by rw [data_length]; exact hi), List.reverse_cons, List.append_assoc]
      congr 2
      simp only [List.cons_append, List.nil_append, List.cons.injEq, and_true]
      show s.data[i]! = _
      rw [getElem!_pos s.data i (by exact hi)]
      simp
  have := key s.size 0 [] (by omega)
  simpa [ByteArray.toList] using this
theorem ofL_toList (l : List UInt8) : (ofL l).toList = l := by rw [toList_data, ofL_data]
theorem extract_ofL (s : ByteArray) (a b : Nat) : s.extract a b = ofL ((suf s a).take (b - a)) := by
  apply ba_ext
  rw [ofL_data, ByteArray.data_extract, Array.toList_extract, List.extract_eq_take_drop]
  rfl
theorem suf_ofL (l : List UInt8) (i : Nat) : suf (ofL l) i = l.drop i := by unfold suf; rw [ofL_data]

/-! ### numbers that don't wrap -/
theorem w64 {x : Int} (h0 : -9223372036854775808 ≤ x) (h1 : x ≤ 9223372036854775807) : wrap64 x = x := by unfold wrap64; omega

/-! ### letters and digits -/
theorem toNat_lt (c : UInt8) : c.toNat < 256 := c.toNat_lt
theorem letter_iff (c : UInt8) : isLetter c = true ↔ ((97 ≤ (c.toNat : Int) ∧ (c.toNat : Int) ≤ 122) ∨ (65 ≤ (c.toNat : Int) ∧ (c.toNat : Int) ≤ 90)) ∨ (c.toNat : Int) = 95 := by
  unfold isLetter
  rw [Bool.or_eq_true, Bool.or_eq_true, Bool.and_eq_true, Bool.and_eq_true, decide_eq_true_iff, decide_eq_true_iff, decide_eq_true_iff, decide_eq_true_iff, beq_iff_eq, UInt8.le_iff_toNat_le, UInt8.le_iff_toNat_le, UInt8.le_iff_toNat_le, UInt8.le_iff_toNat_le, ← UInt8.toNat_inj]
  simp only [UInt8.reduceToNat]
  omega
theorem digit_iff (c : UInt8) : isDigit c = true ↔ 48 ≤ (c.toNat : Int) ∧ (c.toNat : Int) ≤ 57 := by
  unfold isDigit
  rw [Bool.and_eq_true, decide_eq_true_iff, decide_eq_true_iff, UInt8.le_iff_toNat_le, UInt8.le_iff_toNat_le]
  simp only [UInt8.reduceToNat]
  omega
theorem toNat_iff (c : UInt8) (n : Nat) (h : n < 256) : c = UInt8.ofNat n ↔ (c.toNat : Int) = n := by
  rw [← UInt8.toNat_inj]
  have : (UInt8.ofNat n).toNat = n := by simp; omega
  rw [this]
  omega
theorem lex_letter_eq (c : UInt8) : lex_letter.f (c.toNat : Int) = some (isLetter c) := by
  have e := letter_iff c
  unfold lex_letter.f
  repeat' split
  all_goals (congr 1; symm; first | (rw [Bool.eq_iff_iff, e, beq_iff_eq]; omega) | (rw [e]; omega))
theorem r4_Letter_eq (c : UInt8) : mortiseref4_Letter.f (c.toNat : Int) = some (isLetter c) := lex_letter_eq c
theorem lex_digit_eq (c : UInt8) : lex_digit.f (c.toNat : Int) = some (isDigit c) := by
  have e := digit_iff c
  unfold lex_digit.f
  split
  all_goals (congr 1; symm; first | (rw [Bool.eq_iff_iff, e, decide_eq_true_iff]; omega) | (rw [Bool.eq_false_iff, ne_eq, e]; omega))
theorem r4_Digit_eq (c : UInt8) : mortiseref4_Digit.f (c.toNat : Int) = some (isDigit c) := lex_digit_eq c

/-! ### words -/
theorem ite_word {l x : List UInt8} {t : List (List UInt8)} {r : Option Bool} (h : r = some (t.contains l)) : (if l = x then some true else r) = some ((x :: t).contains l) := by
  rw [List.contains_cons, h]
  by_cases e : l = x
  · rw [if_pos e]; simp [e]
  · rw [if_neg e]; simp [e]
theorem lex_Word_eq (s : ByteArray) : lex_Word.f s = some (isWord s.data.toList) := by
  rw [← toList_data]
  unfold lex_Word.f isWord theWords
  repeat' (refine ite_word ?_)
  rfl
theorem r4_Word_eq (s : ByteArray) : mortiseref4_Word.f s = some (isWord s.data.toList) := lex_Word_eq s
theorem isWord_len {l : List UInt8} (h : isWord l = true) : l.length ≤ 16 := by
  have h4 := List.contains_iff_mem.1 h
  have : ∀ x ∈ theWords, x.length ≤ 16 := by decide
  exact this l h4

/-! ### how many letters and digits -/
theorem run_go (s : ByteArray) (hs : s.size ≤ 140737488351232) : ∀ (l : List UInt8) (i k : Nat), suf s i = l → l.length < k → i ≤ s.size →
    lex_run.l0 k s (s.size : Int) (i : Int) = some (((i + (l.takeWhile isAlnum).length : Nat)) : Int)
  | [], i, k, h, hk, hi => by
    obtain ⟨k, rfl⟩ : ∃ m, k = m + 1 := ⟨k - 1, by simp at hk; omega⟩
    have := suf_nil h
    simp only [lex_run.l0]
    rw [if_neg (by omega)]
    simp; omega
  | c :: r, i, k, h, hk, hi => by
    obtain ⟨k, rfl⟩ : ∃ m, k = m + 1 := ⟨k - 1, by simp at hk; omega⟩
    obtain ⟨h1, h2, h3, h4⟩ := suf_cons h
    simp only [lex_run.l0]
    have ih := run_go s hs r (i + 1) k h3 (by simp at hk; omega) (by omega)
    rw [if_pos (by omega), if_pos (by omega), if_pos (by omega), h2, lex_letter_eq, List.takeWhile_cons]
    simp only [Option.bind_some]
    have hw : wrap64 ((i : Int) + 1) = ((i + 1 : Nat) : Int) := by rw [w64 (by omega) (by omega)]; omega
    by_cases hc : isLetter c = true
    · rw [if_pos hc, hw, ih, if_pos (by simp [isAlnum, hc])]
      congr 2; simp; omega
    · rw [if_neg hc, lex_digit_eq]
      simp only [Option.bind_some]
      by_cases hd : isDigit c = true
      · rw [if_pos hd, hw, ih, if_pos (by simp [isAlnum, hd])]
        congr 2; simp; omega
      · rw [if_neg hd, if_neg (by simp [isAlnum, hc, hd])]
        simp
theorem lex_run_eq (s : ByteArray) (hs : s.size ≤ 140737488351232) : lex_run.f (s.size + 1) s = some (((s.data.toList.takeWhile isAlnum).length : Nat) : Int) := by
  unfold lex_run.f
  have := run_go s hs s.data.toList 0 (s.size + 1) (suf_zero s) (by rw [data_length]; omega) (Nat.zero_le _)
  simpa using this
end Go.Proofs.Ytmmjhdhgohfioaa.Gx
