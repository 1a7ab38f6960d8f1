/-
  PLAIN: the document's example; names.
-/
import Derived.Test.YtmmjhdhgohfioaaDA
namespace Go.Proofs.Ytmmjhdhgohfioaa.Gx
open Go.RowKit Go.Proofs.YtmmjhdhgohfioaaW.PrintWords Go.Proofs.YtmmjhdhgohfioaaW.PrintLast
set_option linter.unusedVariables false
set_option linter.unusedSimpArgs false

theorem awake_eq (k : Nat) : mortiselaw4_awake.f k = some true := by
  unfold mortiselaw4_awake.f lex_Lex.f mortiselaw4_num.f
  kernel_rfl

theorem head_suf {s : ByteArray} {c : UInt8} {r : List UInt8} (h : s.data.toList = c :: r) : bt s 0 = (c.toNat : Int) ∧ 0 < s.size := by
  have h0 : suf s 0 = c :: r := h
  obtain ⟨h1, h2, _⟩ := suf_cons h0
  exact ⟨h2, h1⟩
theorem takeWhile_all {l : List UInt8} : (l.takeWhile isAlnum).length = l.length ↔ l.all isAlnum = true := by
  induction l with
  | nil => simp
  | cons c r ih =>
    rw [List.takeWhile_cons, List.all_cons]
    by_cases h : isAlnum c = true
    · simp [h, ih]
    · simp [h]
/-- Is it, whole, a name? -/
def nameB (l : List UInt8) : Bool := match l with
  | [] => false
  | c :: r => decide ((c :: r).length ≤ 16) && isLetter c && (c :: r).all isAlnum && !isWord (c :: r)
theorem nameB_cons (c : UInt8) (r : List UInt8) : nameB (c :: r) = (decide ((c :: r).length ≤ 16) && isLetter c && (c :: r).all isAlnum && !isWord (c :: r)) := rfl
theorem lex_Name_eq (s : ByteArray) (hs : s.size ≤ 140737488351232) (k : Nat) (hk : s.size + 1 ≤ k) : lex_Name.f k s = some (nameB s.data.toList) := by
  unfold lex_Name.f
  rw [toList_data]
  match h : s.data.toList with
  | [] => rw [if_pos rfl]; rfl
  | c :: r =>
    obtain ⟨h1, h2⟩ := head_suf h
    have hl : s.size = (c :: r).length := by rw [← data_length, h]
    rw [if_neg (by simp)]
    rw [nameB_cons]
    by_cases h3 : (s.size : Int) ≤ 16
    · rw [if_pos h3, if_pos (by omega), h1, lex_letter_eq]
      simp only [Option.bind_some]
      rw [show decide ((c :: r).length ≤ 16) = true from decide_eq_true (by omega)]
      cases hc : isLetter c with
      | false => simp
      | true =>
        have hr := at_rounds (fun k => lex_run.mono s k) hk (lex_run_eq s hs)
        rw [h] at hr
        rw [if_pos rfl, hr]
        simp only [Option.bind_some]
        by_cases h4 : ((c :: r).takeWhile isAlnum).length = (c :: r).length
        · rw [if_pos (by omega), lex_Word_eq, h]
          rw [takeWhile_all.1 h4]
          simp
        · rw [if_neg (by omega)]
          have : (c :: r).all isAlnum = false := by rw [Bool.eq_false_iff]; exact fun h => h4 (takeWhile_all.2 h)
          rw [this]
          simp
    · rw [if_neg h3, show decide ((c :: r).length ≤ 16) = false from decide_eq_false (by omega)]
      simp
theorem name_go (s : ByteArray) (hs : s.size ≤ 140737488351232) : ∀ (l : List UInt8) (i k : Nat), suf s i = l → l.length < k → i ≤ s.size → mortiseref4_Name.l0 k s (i : Int) = some (l.all isAlnum)
  | [], i, k, h, hk, hi => by
    obtain ⟨k, rfl⟩ : ∃ m, k = m + 1 := ⟨k - 1, by simp at hk; omega⟩
    have := suf_nil h
    rw [mortiseref4_Name.l0, if_neg (by omega)]
    simp
  | c :: r, i, k, h, hk, hi => by
    obtain ⟨k, rfl⟩ : ∃ m, k = m + 1 := ⟨k - 1, by simp at hk; omega⟩
    obtain ⟨h1, h2, h3, h4⟩ := suf_cons h
    have ih := name_go s hs r (i + 1) k h3 (by simp at hk; omega) (by omega)
    have hw : wrap64 ((i : Int) + 1) = ((i + 1 : Nat) : Int) := by rw [w64 (by omega) (by omega)]; omega
    rw [mortiseref4_Name.l0, if_pos (by omega), if_pos (by omega), h2, r4_Letter_eq]
    simp only [Option.bind_some]
    rw [List.all_cons]
    by_cases hc : isLetter c = true
    · rw [if_pos hc, hw, ih]
      simp [isAlnum, hc]
    · rw [if_neg hc, r4_Digit_eq]
      simp only [Option.bind_some]
      by_cases hd : isDigit c = true
      · rw [if_pos hd, hw, ih]
        simp [isAlnum, hd]
      · rw [if_neg hd]
        simp [isAlnum, hc, hd]
theorem r4_Name_eq (s : ByteArray) (hs : s.size ≤ 140737488351232) (k : Nat) (hk : s.size + 2 ≤ k) : mortiseref4_Name.f k s = some (nameB s.data.toList) := by
  obtain ⟨k, rfl⟩ : ∃ m, k = m + 1 := ⟨k - 1, by omega⟩
  have jt : mortiseref4_Name.j0 (k + 1) s true = some false := by rw [mortiseref4_Name.j0, if_pos rfl]
  have jf : mortiseref4_Name.j0 (k + 1) s false = some (s.data.toList.all isAlnum) := by
    rw [mortiseref4_Name.j0, if_neg (by simp)]
    exact name_go s hs s.data.toList 0 k (suf_zero s) (by rw [data_length]; omega) (Nat.zero_le _)
  unfold mortiseref4_Name.f
  rw [toList_data]
  match h : s.data.toList with
  | [] => rw [if_pos rfl, jt]; rfl
  | c :: r =>
    obtain ⟨h1, h2⟩ := head_suf h
    have hl : s.size = (c :: r).length := by rw [← data_length, h]
    rw [if_neg (by simp)]
    rw [nameB_cons]
    by_cases h3 : (s.size : Int) > 16
    · rw [if_pos h3, jt, show decide ((c :: r).length ≤ 16) = false from decide_eq_false (by omega)]
      simp
    · rw [if_neg h3, if_pos (by omega), h1, r4_Letter_eq]
      simp only [Option.bind_some]
      rw [show decide ((c :: r).length ≤ 16) = true from decide_eq_true (by omega)]
      cases hc : isLetter c with
      | false => rw [if_neg (by simp), jt]; simp
      | true =>
        rw [if_pos rfl, r4_Word_eq, h]
        simp only [Option.bind_some]
        cases hw : isWord (c :: r) with
        | true => rw [jt]; simp
        | false => rw [jf, h]; simp
end Go.Proofs.Ytmmjhdhgohfioaa.Gx
namespace Go.Proofs.Ytmmjhdhgohfioaa.Pure
open Go.RowKit Go.Proofs.Ytmmjhdhgohfioaa.Gx Go.Proofs.YtmmjhdhgohfioaaW.PrintWords Go.Proofs.YtmmjhdhgohfioaaW.PrintLast
theorem LexNames : mortiselaw4_LexNames.Pure := by
  intro s hs
  refine ⟨s.size + 2, ?_⟩
  unfold mortiselaw4_LexNames.f
  rw [lex_Word_eq, r4_Word_eq, lex_Name_eq s hs _ (by omega), r4_Name_eq s hs _ (by omega), awake_eq]
  simp
end Go.Proofs.Ytmmjhdhgohfioaa.Pure
