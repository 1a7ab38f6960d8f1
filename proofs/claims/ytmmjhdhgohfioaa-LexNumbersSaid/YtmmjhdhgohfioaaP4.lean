/-
  PLAIN: the law LexNumbers.
-/
import Derived.Test.YtmmjhdhgohfioaaD7
import Derived.Test.YtmmjhdhgohfioaaPT
import Derived.Test.YtmmjhdhgohfioaaPA
namespace Go.Proofs.Ytmmjhdhgohfioaa.Gx
open Go.RowKit Go.Proofs.YtmmjhdhgohfioaaW.PrintWords Go.Proofs.YtmmjhdhgohfioaaW.PrintLast
set_option linter.unusedVariables false
set_option linter.unusedSimpArgs false
/-- A number's digits, f at most. -/
def digsF : Nat → Nat → List UInt8
  | 0, _ => []
  | f + 1, n => if n = 0 then [] else digsF f (n / 10) ++ [UInt8.ofNat (48 + n % 10)]
theorem num_byte (m : Nat) (h : m < 256) : ([(m : Int)] : List Int) = nat8 [UInt8.ofNat m] := by
  simp only [nat8, List.map_cons, List.map_nil]
  have : (UInt8.ofNat m).toNat = m := by simp; omega
  rw [this]
theorem number_go (x0 : Int) (hx : 0 ≤ x0) : ∀ (f n k : Nat) (acc : List UInt8), n < 10 ^ f → n ≤ 9223372036854775807 → f + 1 ≤ k → acc.length + f ≤ 100 →
    mortiseref2_Number.l0 k x0 (ofL acc) (n : Int) = some (ofL (digsF f n ++ acc)) := by
  intro f
  induction f with
  | zero =>
    intro n k acc h hn hk hl
    obtain ⟨k, rfl⟩ : ∃ m, k = m + 1 := ⟨k - 1, by omega⟩
    have : n = 0 := by simp at h; omega
    subst this
    rw [mortiseref2_Number.l0, if_pos (show ((0 : Nat) : Int) = 0 from rfl), if_neg (by omega)]
    rfl
  | succ f ih =>
    intro n k acc h hn hk hl
    obtain ⟨k, rfl⟩ : ∃ m, k = m + 1 := ⟨k - 1, by omega⟩
    by_cases h0 : n = 0
    · subst h0
      rw [mortiseref2_Number.l0, if_pos (show ((0 : Nat) : Int) = 0 from rfl), if_neg (by omega)]
      rfl
    · have e1 : Int.tmod (n : Int) 10 = ((n % 10 : Nat) : Int) := by rw [Int.tmod_eq_emod_of_nonneg (by omega)]; omega
      have e2 : wrap64 (Int.tdiv (n : Int) 10) = ((n / 10 : Nat) : Int) := by rw [Int.tdiv_eq_ediv_of_nonneg (by omega), w64 (by omega) (by omega)]; omega
      have e3 : wrap64 (48 + ((n % 10 : Nat) : Int)) = ((48 + n % 10 : Nat) : Int) := by rw [w64 (by omega) (by omega)]; omega
      rw [mortiseref2_Number.l0, if_neg (by omega), e1, if_neg (by omega), e2, e3]
      rw [show ((48 + n % 10 : Nat) : Int) % 256 = ((48 + n % 10 : Nat) : Int) by omega, num_byte _ (by omega)]
      simp only [Option.bind_some]
      rw [strOf_nat8, ofL_size, ofL_size, ofL_append]
      have hlen : ([UInt8.ofNat (48 + n % 10)] : List UInt8).length + acc.length ≤ 9223372036854775807 := Nat.le_trans (m := 101) (by simp; omega) (by decide)
      rw [if_pos hlen]
      rw [ih (n / 10) k _ (by rw [Nat.pow_succ] at h; omega) (by omega) (by omega) (by simp; omega)]
      rw [digsF, if_neg h0]
      simp
theorem digs_digit : ∀ (f n : Nat), ∀ c ∈ digsF f n, isDigit c = true
  | 0, n, c, h => by simp [digsF] at h
  | f + 1, n, c, h => by
    rw [digsF] at h
    split at h
    · simp at h
    · rw [List.mem_append] at h
      rcases h with h | h
      · exact digs_digit f (n / 10) c h
      · simp only [List.mem_cons, List.not_mem_nil, or_false] at h
        have hb : (UInt8.ofNat (48 + n % 10)).toNat = 48 + n % 10 := by simp; omega
        rw [h, digit_iff, hb]
        omega
theorem numVal_append : ∀ (a b : List UInt8) (v : Int), numVal v (a ++ b) = (numVal v a).bind fun u => numVal u b
  | [], b, v => by simp [numVal]
  | c :: r, b, v => by
    rw [List.cons_append, numVal, numVal]
    split
    · exact numVal_append r b _
    · rfl
theorem digs_val : ∀ (f n : Nat), n < 10 ^ f → n ≤ 9223372036854775807 → numVal 0 (digsF f n) = some (n : Int)
  | 0, n, h, hn => by
    have : n = 0 := by simp at h; omega
    subst this
    rfl
  | f + 1, n, h, hn => by
    rw [digsF]
    split
    · rename_i h0; subst h0; rfl
    · rw [numVal_append, digs_val f (n / 10) (by rw [Nat.pow_succ] at h; omega) (by omega)]
      simp only [Option.bind_some, numVal]
      have hb : (UInt8.ofNat (48 + n % 10)).toNat = 48 + n % 10 := by simp; omega
      have hd : isDigit (UInt8.ofNat (48 + n % 10)) = true := by rw [digit_iff, hb]; omega
      rw [if_pos ⟨hd, by rw [hb]; omega⟩, hb]
      congr 1
      omega
theorem digs_head : ∀ (f n : Nat), n < 10 ^ f → n ≠ 0 → ∃ c r, digsF f n = c :: r ∧ ¬ c = 48
  | 0, n, h, h0 => by simp at h; omega
  | f + 1, n, h, h0 => by
    rw [digsF, if_neg h0]
    by_cases h1 : n / 10 = 0
    · have e : digsF f (n / 10) = [] := by
        rw [h1]
        cases f <;> simp [digsF]
      rw [e]
      refine ⟨_, [], rfl, ?_⟩
      intro e2
      have := (toNat_iff _ 48 (by omega)).1 e2
      have hb : (UInt8.ofNat (48 + n % 10)).toNat = 48 + n % 10 := by simp; omega
      rw [hb] at this
      omega
    · obtain ⟨c, r, e, hc⟩ := digs_head f (n / 10) (by rw [Nat.pow_succ] at h; omega) h1
      rw [e]
      exact ⟨c, _, rfl, hc⟩
theorem digs_length : ∀ (f n : Nat), (digsF f n).length ≤ f
  | 0, n => by simp [digsF]
  | f + 1, n => by
    rw [digsF]
    split
    · simp
    · have := digs_length f (n / 10)
      simp; omega
/-- What Number says. -/
def numW (n : Nat) : List UInt8 := if n = 0 then [48] else digsF 19 n
theorem Number_eq (n k : Nat) (hn : n ≤ 9223372036854775807) (hk : 20 ≤ k) : mortiseref2_Number.f k (n : Int) = some (ofL (numW n)) := by
  unfold mortiseref2_Number.f numW
  by_cases h : n = 0
  · rw [if_pos (by omega), if_pos h]
    rfl
  · rw [if_neg (by omega), if_neg h]
    have := number_go (n : Int) (by omega) 19 n k [] (Nat.lt_of_le_of_lt hn (by decide)) hn hk (by simp)
    rw [List.append_nil] at this
    exact this
theorem numW_facts (n : Nat) (hn : n ≤ 9223372036854775807) : ∃ c r, numW n = c :: r ∧ (∀ d ∈ c :: r, isDigit d = true) ∧ numVal 0 (c :: r) = some (n : Int) ∧ ¬ (1 < (c :: r).length ∧ c = 48) ∧ (c :: r).length ≤ 19 := by
  unfold numW
  by_cases h : n = 0
  · subst h
    rw [if_pos rfl]
    refine ⟨48, [], rfl, ?_, ?_, by simp, by simp⟩
    · intro d hd
      simp only [List.mem_cons, List.not_mem_nil, or_false] at hd
      rw [hd]; decide
    · decide
  · rw [if_neg h]
    have hp : n < 10 ^ 19 := Nat.lt_of_le_of_lt hn (by decide)
    obtain ⟨c, r, e, hc⟩ := digs_head 19 n hp h
    refine ⟨c, r, e, ?_, ?_, fun h => hc h.2, ?_⟩
    · rw [← e]; exact digs_digit 19 n
    · rw [← e]; exact digs_val 19 n hp hn
    · rw [← e]; exact digs_length 19 n
/-- A word of digits alone that begins with one. -/
theorem tok_num (c : UInt8) (r : List UInt8) (hd : isDigit c = true) : tok (c :: r) = numTok (c :: r) := by
  obtain ⟨h1, h2, h3, h4⟩ := digit_facts hd
  rw [tok, if_neg (by simp [h3]), if_pos hd]
theorem num_lex (n : Nat) (hn : n ≤ 9223372036854775807) : lexSpec (ofL (numW n)) = ([⟨3, ofL (numW n), (n : Int), 0⟩, ⟨0, ofL [], 0, (((numW n).length : Nat) : Int)⟩], 0, 0) := by
  obtain ⟨c, r, e, hd, hv, hz, hl⟩ := numW_facts n hn
  rw [e]
  obtain ⟨h1, h2, h3, h4⟩ := digit_facts (hd c (List.mem_cons_self ..))
  have tw := tw_all (c :: r) (fun d h => (digit_facts (hd d h)).2.2.2)
  have ht : tok (c :: r) = some ⟨3, c :: r, (n : Int), (c :: r).length⟩ := by
    rw [tok_num c r (hd c (List.mem_cons_self ..))]
    unfold numTok
    simp only [tw, hv]
    rw [if_neg (by simpa using hz)]
    rfl
  exact lexSpec_one c r _ (by omega) (skip_stay c r h1 h2) ht rfl
theorem zero_lex (n : Nat) (hn : n ≤ 9223372036854775807) : lexSpec (ofL (48 :: numW n)) = ([], 0, 5) := by
  obtain ⟨c, r, e, hd, hv, hz, hl⟩ := numW_facts n hn
  rw [e]
  have hd2 : ∀ d ∈ 48 :: c :: r, isDigit d = true := by
    intro d h
    rw [List.mem_cons] at h
    rcases h with h | h
    · rw [h]; decide
    · exact hd d h
  have tw := tw_all (48 :: c :: r) (fun d h => (digit_facts (hd2 d h)).2.2.2)
  refine lexSpec_bad 48 (c :: r) (by simp at hl ⊢; omega) (skip_stay _ _ (by decide) (by decide)) ?_
  rw [tok_num 48 (c :: r) (by decide)]
  unfold numTok
  simp only [tw]
  rw [if_pos (by simp)]
theorem letter_lex (n : Nat) (hn : n ≤ 9223372036854775807) (b : UInt8) (hb : isLetter b = true) (hb2 : isDigit b = false) : lexSpec (ofL (numW n ++ [b])) = ([], 0, 5) := by
  obtain ⟨c, r, e, hd, hv, hz, hl⟩ := numW_facts n hn
  rw [e]
  obtain ⟨h1, h2, h3, h4⟩ := digit_facts (hd c (List.mem_cons_self ..))
  have tw := tw_all (c :: (r ++ [b])) (fun d h => by
    rw [← List.cons_append, List.mem_append] at h
    rcases h with h | h
    · exact (digit_facts (hd d h)).2.2.2
    · simp only [List.mem_cons, List.not_mem_nil, or_false] at h
      rw [h]; simp [isAlnum, hb])
  rw [List.cons_append]
  refine lexSpec_bad c (r ++ [b]) (by simp at hl ⊢; omega) (skip_stay _ _ h1 h2) ?_
  rw [tok_num c _ (hd c (List.mem_cons_self ..))]
  have hv2 : numVal 0 (c :: (r ++ [b])) = none := by
    rw [← List.cons_append, numVal_append, hv]
    simp [numVal, hb2]
  unfold numTok
  simp only [tw, hv2]
  split <;> rfl
theorem LexNumbers_eq (a b : Int) (ha : a ≤ 9223372036854775807) (hb0 : 0 ≤ b) (hb1 : b ≤ 255) (k : Nat) (hk : 20 ≤ k) : mortiselaw4_LexNumbers.f k a b = some true := by
  unfold mortiselaw4_LexNumbers.f
  by_cases h0 : a < 0
  · rw [if_pos h0, awake_eq]
    rfl
  · obtain ⟨n, rfl⟩ : ∃ n : Nat, a = (n : Int) := ⟨a.toNat, by omega⟩
    have hn : n ≤ 9223372036854775807 := by omega
    obtain ⟨c, r, e, hd, hv, hz, hl⟩ := numW_facts n hn
    have hl2 : (numW n).length ≤ 19 := by rw [e]; exact hl
    obtain ⟨m, hm, hm2⟩ : ∃ m : Nat, (97 + Int.tmod b 26) % 256 = ((97 + m : Nat) : Int) ∧ m < 26 := by
      refine ⟨(b % 26).toNat, ?_, ?_⟩
      · rw [Int.tmod_eq_emod_of_nonneg hb0]; omega
      · omega
    have hb : (UInt8.ofNat (97 + m)).toNat = 97 + m := by simp; omega
    have hle : isLetter (UInt8.ofNat (97 + m)) = true := by rw [letter_iff, hb]; omega
    have hdi : isDigit (UInt8.ofNat (97 + m)) = false := by rw [Bool.eq_false_iff, ne_eq, digit_iff, hb]; omega
    have z1 : 1 + (ofL (numW n)).size ≤ 9223372036854775807 := by rw [ofL_size]; exact Nat.le_trans (m := 20) (by omega) (by decide)
    have z2 : (ofL (numW n)).size + (ofL [UInt8.ofNat (97 + m)]).size ≤ 9223372036854775807 := by rw [ofL_size, ofL_size]; exact Nat.le_trans (m := 20) (by simp; omega) (by decide)
    rw [if_neg h0, Number_eq n k hn hk, hm, num_byte _ (by omega)]
    unfold lex_Lex.f mortiselaw4_num.f
    simp only [Option.bind_some]
    rw [strOf_nat8, if_pos z1, if_pos z2, show (⟨#[48]⟩ : ByteArray) = ofL [48] from rfl, ofL_append, ofL_append, List.cons_append, List.nil_append]
    rw [num_lex n hn, zero_lex n hn, letter_lex n hn _ hle hdi]
    simp [rd_T31]
end Go.Proofs.Ytmmjhdhgohfioaa.Gx
namespace Go.Proofs.Ytmmjhdhgohfioaa.Pure
open Go.RowKit Go.Proofs.Ytmmjhdhgohfioaa.Gx Go.Proofs.YtmmjhdhgohfioaaW.PrintWords Go.Proofs.YtmmjhdhgohfioaaW.PrintLast
theorem LexNumbers : mortiselaw4_LexNumbers.Pure := by
  intro a b ha hb
  have h1 : a ≤ 9223372036854775807 := by simp [Lit.wf, IntKind.min, IntKind.max, IntKind.signed, IntKind.bits] at ha; omega
  have h2 : 0 ≤ b ∧ b ≤ 255 := by simp [Lit.wf, IntKind.min, IntKind.max, IntKind.signed, IntKind.bits] at hb; omega
  exact ⟨20, LexNumbers_eq a b h1 h2.1 h2.2 20 (Nat.le_refl _)⟩
end Go.Proofs.Ytmmjhdhgohfioaa.Pure
