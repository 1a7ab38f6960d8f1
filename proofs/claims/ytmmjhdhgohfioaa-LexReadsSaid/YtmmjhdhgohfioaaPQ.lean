/-
  PLAIN: the document's blanks, numbers, strings and signs, as the plain lexer has them.
-/
import Derived.Test.YtmmjhdhgohfioaaC8
import Derived.Test.YtmmjhdhgohfioaaM9
import Derived.Test.YtmmjhdhgohfioaaC4
import Derived.Test.YtmmjhdhgohfioaaC5
import Derived.Test.YtmmjhdhgohfioaaM6
import Derived.Test.YtmmjhdhgohfioaaC6
import Derived.Test.YtmmjhdhgohfioaaM4
namespace Go.Proofs.Ytmmjhdhgohfioaa.Gx
open Go.RowKit Go.Proofs.YtmmjhdhgohfioaaW.PrintWords Go.Proofs.YtmmjhdhgohfioaaW.PrintLast
set_option linter.unusedVariables false
set_option linter.unusedSimpArgs false
/-! ## PB -/

/-! ### blanks -/
theorem r4blank_go (s : ByteArray) (hs : s.size ≤ 8192) : ∀ (l : List UInt8) (i k : Nat), suf s i = l → 4 * l.length + 4 ≤ k → i ≤ s.size →
    mortiseref4_blank.l0 k s (i : Int) = some ((s.size - (skipB false l).length : Nat) : Int) ∧ mortiseref4_blank.l1 k s (i : Int) = some ((s.size - (skipB true l).length : Nat) : Int)
  | [], i, k, h, hk, hi => by
    obtain ⟨k, rfl⟩ : ∃ m, k = m + 2 := ⟨k - 2, by simp at hk; omega⟩
    have h1 := suf_nil h
    have h0 : ∀ q, mortiseref4_blank.l0 (q + 1) s (i : Int) = some ((s.size - (skipB false []).length : Nat) : Int) := by
      intro q
      rw [mortiseref4_blank.l0]
      rw [if_neg (by omega)]
      simp [skipB]; omega
    refine ⟨h0 (k + 1), ?_⟩
    rw [mortiseref4_blank.l1]
    rw [if_neg (by omega)]
    exact h0 k
  | c :: r, i, k, h, hk, hi => by
    obtain ⟨k, rfl⟩ : ∃ m, k = m + 4 := ⟨k - 4, by simp at hk; omega⟩
    obtain ⟨h1, h2, h3, h4⟩ := suf_cons h
    have hk' : 4 * r.length + 4 ≤ k := by simp at hk; omega
    have hw : wrap64 ((i : Int) + 1) = ((i + 1 : Nat) : Int) := by rw [w64 (by omega) (by omega)]; omega
    have ih := fun q (hq : 4 * r.length + 4 ≤ q) => r4blank_go s hs r (i + 1) q h3 hq (by omega)
    have hl0 : ∀ q, 4 * r.length + 4 ≤ q → mortiseref4_blank.l0 (q + 4) s (i : Int) = some ((s.size - (skipB false (c :: r)).length : Nat) : Int) := by
      intro q hq
      rw [mortiseref4_blank.l0]
      rw [if_pos (by omega), if_pos (by omega), h2]
      have hyes : isBlank c = true → mortiseref4_blank.j1 (q + 3) s (i : Int) (c.toNat : Int) true = some ((s.size - (skipB false (c :: r)).length : Nat) : Int) := by
        intro hb
        rw [mortiseref4_blank.j1]
        rw [if_pos rfl, hw, (ih (q + 2) (by omega)).1]
        rw [skipB, if_pos hb]
      by_cases b1 : (c.toNat : Int) = 32
      · rw [if_pos b1]; exact hyes ((blank_iff c).2 (by omega))
      rw [if_neg b1]
      by_cases b2 : (c.toNat : Int) = 9
      · rw [if_pos b2]; exact hyes ((blank_iff c).2 (by omega))
      rw [if_neg b2]
      by_cases b3 : (c.toNat : Int) = 10
      · rw [if_pos b3]; exact hyes ((blank_iff c).2 (by omega))
      rw [if_neg b3]
      by_cases b4 : (c.toNat : Int) = 13
      · rw [show ((c.toNat : Int) == 13) = true from beq_iff_eq.2 b4]
        exact hyes ((blank_iff c).2 (by omega))
      rw [show ((c.toNat : Int) == 13) = false from beq_eq_false_iff_ne.2 b4]
      have hnb : ¬ isBlank c = true := fun hb => by have := (blank_iff c).1 hb; omega
      rw [mortiseref4_blank.j1]
      rw [if_neg (by simp)]
      have hstop : ¬ (c = 47 ∧ r.head? = some 47) → mortiseref4_blank.j2 (q + 2) s (i : Int) true = some ((s.size - (skipB false (c :: r)).length : Nat) : Int) := by
        intro hn
        rw [mortiseref4_blank.j2]
        rw [if_pos rfl, skipB, if_neg hnb, if_neg hn]
        simp; omega
      by_cases b5 : (c.toNat : Int) = 47
      · have c47 : c = 47 := (toNat_iff c 47 (by omega)).2 b5
        rw [if_pos b5, hw]
        match r, h3, h4, hstop, ih, hq with
        | [], h3, h4, hstop, ih, hq =>
          rw [if_pos (by simp at h4; omega)]
          exact hstop (by simp)
        | d :: q2, h3, h4, hstop, ih, hq =>
          obtain ⟨g1, g2, g3, g4⟩ := suf_cons h3
          rw [if_neg (by simp at h4; omega), if_pos (by omega), if_pos (by omega), g2]
          by_cases b6 : (d.toNat : Int) = 47
          · have d47 : d = 47 := (toNat_iff d 47 (by omega)).2 b6
            rw [show ((d.toNat : Int) != 47) = false from bne_eq_false_iff_eq.2 b6]
            rw [mortiseref4_blank.j2]
            rw [if_neg (by simp)]
            rw [mortiseref4_blank.l1]
            rw [if_pos (by omega), if_pos (by omega), h2, if_neg (by omega), hw, (ih q (by omega)).2]
            rw [skipB.eq_3, if_neg hnb, if_pos ⟨c47, by rw [d47]; rfl⟩]
          · rw [show ((d.toNat : Int) != 47) = true from bne_iff_ne.2 b6]
            refine hstop ?_
            rintro ⟨_, hd⟩
            rw [List.head?_cons, Option.some.injEq] at hd
            exact b6 ((toNat_iff d 47 (by omega)).1 hd)
      · rw [if_neg b5]
        exact hstop (fun hc => b5 ((toNat_iff c 47 (by omega)).1 hc.1))
    refine ⟨hl0 k hk', ?_⟩
    rw [mortiseref4_blank.l1]
    rw [if_pos (by omega), if_pos (by omega), h2]
    by_cases b3 : (c.toNat : Int) = 10
    · have c10 : c = 10 := (toNat_iff c 10 (by omega)).2 b3
      rw [if_pos b3]
      have hb : isBlank c = true := (blank_iff c).2 (by omega)
      have e : skipB true (c :: r) = skipB false (c :: r) := by rw [skipB.eq_2, if_pos c10, skipB.eq_3, if_pos hb]
      rw [e]
      rw [mortiseref4_blank.l0]
      rw [if_pos (by omega), if_pos (by omega), h2, if_neg (by omega), if_neg (by omega), if_pos b3]
      rw [mortiseref4_blank.j1]
      rw [if_pos rfl, hw, skipB.eq_3, if_pos hb]
      obtain ⟨k, rfl⟩ : ∃ m, k = m + 1 := ⟨k - 1, by omega⟩
      exact (ih _ (by omega)).1
    · rw [if_neg b3, hw, (ih (k + 3) (by omega)).2]
      rw [skipB.eq_2, if_neg (show ¬ c = 10 from fun hc => b3 ((toNat_iff c 10 (by omega)).1 hc))]
theorem r4blank_eq (s : ByteArray) (hs : s.size ≤ 8192) (i k : Nat) (hi : i ≤ s.size) (hk : 4 * s.size + 4 ≤ k) : mortiseref4_blank.f k s (i : Int) = some ((s.size - (skipB false (suf s i)).length : Nat) : Int) := by
  unfold mortiseref4_blank.f
  exact (r4blank_go s hs (suf s i) i _ rfl (by rw [suf_length]; omega) hi).1

/-! ## PN -/


def noN : Int × ByteArray × Int × Int × Bool := (0, (⟨#[]⟩ : ByteArray), 0, 0, false)
theorem num_no1 (s : ByteArray) (hs : s.size ≤ 8192) (i j : Nat) (v : Int) (k : Nat) (hi : i < s.size) (h1 : i + 1 < j) (h2 : bt s (i : Int) = 48) : mortiseref4_number.j1 (k + 1) s (i : Int) (j : Int) v false = some noN := by
  have hw : wrap64 ((i : Int) + 1) = ((i + 1 : Nat) : Int) := by rw [w64 (by omega) (by omega)]; omega
  rw [mortiseref4_number.j1, if_neg (by simp), hw, if_pos (by omega), if_pos (by omega), if_pos (by omega), if_pos h2]
  rfl
theorem num_no2 (s : ByteArray) (hs : s.size ≤ 8192) (i j : Nat) (v : Int) (k : Nat) (hi : i < s.size) (c : UInt8) (r : List UInt8) (hc : suf s j = c :: r) (hl : isLetter c = true) : mortiseref4_number.j1 (k + 1) s (i : Int) (j : Int) v false = some noN := by
  have hw : wrap64 ((i : Int) + 1) = ((i + 1 : Nat) : Int) := by rw [w64 (by omega) (by omega)]; omega
  obtain ⟨h1, h2, h3, h4⟩ := suf_cons hc
  rw [mortiseref4_number.j1, if_neg (by simp), hw]
  by_cases a1 : (j : Int) > ((i + 1 : Nat) : Int)
  · rw [if_pos a1, if_pos (by omega), if_pos (by omega)]
    by_cases a2 : bt s (i : Int) = 48
    · rw [if_pos a2]; rfl
    · rw [if_neg a2, if_pos (by omega), if_pos (by omega), h2, r4_Letter_eq]
      simp only [Option.bind_some]
      rw [if_pos hl]; rfl
  · rw [if_neg a1, if_pos (by omega), if_pos (by omega), h2, r4_Letter_eq]
    simp only [Option.bind_some]
    rw [if_pos hl]; rfl
theorem num_yes (s : ByteArray) (hs : s.size ≤ 8192) (i j : Nat) (v : Int) (k : Nat) (hij : i ≤ j) (hi : i < s.size) (hj : j ≤ s.size) (hn : ¬ (i + 1 < j ∧ bt s (i : Int) = 48)) (hl : ∀ c r, suf s j = c :: r → isLetter c = false) : mortiseref4_number.j1 (k + 1) s (i : Int) (j : Int) v false = some (3, s.extract i j, v, (i : Int), true) := by
  have hw : wrap64 ((i : Int) + 1) = ((i + 1 : Nat) : Int) := by rw [w64 (by omega) (by omega)]; omega
  have hA : ((i : Int) ≤ (j : Int)) = True := eq_true (by omega)
  have hB : ((j : Int) ≤ (s.size : Int)) = True := eq_true (by omega)
  have hC : ((0 : Int) ≤ (i : Int)) = True := eq_true (by omega)
  have hD : ((0 : Int) ≤ (j : Int)) = True := eq_true (by omega)
  have hE : ((i : Int) < (s.size : Int)) = True := eq_true (by omega)
  rw [mortiseref4_number.j1, if_neg (by simp), hw]
  have body : (if (j : Int) < (s.size : Int) then (if 0 ≤ (j : Int) then ((mortiseref4_Letter.f (bt s (j : Int))).bind fun t => (if t = true then some noN else some (3, s.extract i j, v, (i : Int), true))) else none) else some (3, s.extract i j, v, (i : Int), true)) = some (3, s.extract i j, v, (i : Int), true) := by
    by_cases a3 : (j : Int) < (s.size : Int)
    · rw [if_pos a3, if_pos (by omega)]
      match hc : suf s j with
      | [] => have := suf_nil hc; omega
      | c :: r =>
        obtain ⟨h1, h2, h3, h4⟩ := suf_cons hc
        rw [h2, r4_Letter_eq, hl c r hc]
        simp
    · rw [if_neg a3]
  simp only [hA, hB, hC, hD, hE, if_true, Int.toNat_natCast] at body ⊢
  by_cases a1 : (j : Int) > ((i + 1 : Nat) : Int)
  · rw [if_pos a1]
    have a2 : ¬ bt s (i : Int) = 48 := fun h => hn ⟨by omega, h⟩
    rw [if_neg a2]
    exact body
  · rw [if_neg a1]
    exact body
def numRes (s : ByteArray) (i j : Nat) (v : Int) (w : List UInt8) : Option (Int × ByteArray × Int × Int × Bool) :=
  if i + 1 < j + w.length ∧ bt s (i : Int) = 48 then some noN else match numVal v w with
  | none => some noN
  | some u => some (3, s.extract i (j + w.length), u, (i : Int), true)
theorem num_go (s : ByteArray) (hs : s.size ≤ 8192) (i : Nat) (hi : i < s.size) : ∀ (l : List UInt8) (j k : Nat) (v : Int), suf s j = l → 2 * l.length + 2 ≤ k → i ≤ j → j ≤ s.size → 0 ≤ v → v ≤ 9223372036854775807 →
    mortiseref4_number.l0 k s (i : Int) (j : Int) v = numRes s i j v (l.takeWhile isAlnum)
  | [], j, k, v, h, hk, hij, hj, hv0, hv1 => by
    obtain ⟨k, rfl⟩ : ∃ m, k = m + 2 := ⟨k - 2, by simp at hk; omega⟩
    have := suf_nil h
    have E : mortiseref4_number.l0 (k + 2) s (i : Int) (j : Int) v = mortiseref4_number.j1 (k + 1) s (i : Int) (j : Int) v false := by
      rw [mortiseref4_number.l0, if_neg (by omega)]
    rw [E]
    unfold numRes
    by_cases hc : i + 1 < j ∧ bt s (i : Int) = 48
    · rw [num_no1 s hs i j v k hi hc.1 hc.2, if_pos (by simpa using hc)]
    · rw [num_yes s hs i j v k hij hi hj hc (fun c r hc => by rw [h] at hc; cases hc), if_neg (by simpa using hc)]
      rfl
  | c :: r, j, k, v, h, hk, hij, hj, hv0, hv1 => by
    obtain ⟨k, rfl⟩ : ∃ m, k = m + 2 := ⟨k - 2, by simp at hk; omega⟩
    obtain ⟨h1, h2, h3, h4⟩ := suf_cons h
    have hw : wrap64 ((j : Int) + 1) = ((j + 1 : Nat) : Int) := by rw [w64 (by omega) (by omega)]; omega
    have E : mortiseref4_number.l0 (k + 2) s (i : Int) (j : Int) v = mortiseref4_number.j1 (k + 1) s (i : Int) (j : Int) v (isDigit c) := by
      rw [mortiseref4_number.l0, if_pos (by omega), if_pos (by omega), h2, r4_Digit_eq]
      rfl
    by_cases hd : isDigit c = true
    · have hd2 := (digit_iff c).1 hd
      have em : ((c.toNat : Int) - 48) % 256 = (c.toNat : Int) - 48 := by omega
      have tw : (c :: r).takeWhile isAlnum = c :: r.takeWhile isAlnum := by rw [List.takeWhile_cons, if_pos (by simp [isAlnum, hd])]
      have E2 : mortiseref4_number.l0 (k + 2) s (i : Int) (j : Int) v = if v > (9223372036854775807 - ((c.toNat : Int) - 48)) / 10 then some noN else mortiseref4_number.l0 k s (i : Int) ((j + 1 : Nat) : Int) (wrap64 (wrap64 (10 * v) + ((c.toNat : Int) - 48))) := by
        rw [E, hd, mortiseref4_number.j1, if_pos rfl, if_pos (by omega), if_pos (by omega), h2, em, hw]
        rfl
      rw [E2, tw]
      have L : j + (c :: r.takeWhile isAlnum).length = j + 1 + (r.takeWhile isAlnum).length := by simp; omega
      unfold numRes
      rw [L, numVal]
      by_cases hg : v > (9223372036854775807 - ((c.toNat : Int) - 48)) / 10
      · have n1 : ¬ (isDigit c = true ∧ v ≤ (9223372036854775807 - ((c.toNat : Int) - 48)) / 10) := by omega
        simp only [if_pos hg, if_neg n1]
        split <;> rfl
      · have n1 : isDigit c = true ∧ v ≤ (9223372036854775807 - ((c.toNat : Int) - 48)) / 10 := ⟨hd, by omega⟩
        have w1 : wrap64 (10 * v) = 10 * v := w64 (by omega) (by omega)
        have w2 : wrap64 (10 * v + ((c.toNat : Int) - 48)) = v * 10 + ((c.toNat : Int) - 48) := by rw [w64 (by omega) (by omega)]; omega
        rw [if_neg hg, if_pos n1, w1, w2]
        rw [num_go s hs i hi r (j + 1) k (v * 10 + ((c.toNat : Int) - 48)) h3 (by simp at hk; omega) (by omega) (by omega) (by omega) (by omega)]
        rfl
    · have hd' := Bool.eq_false_iff.2 hd
      rw [E, hd']
      by_cases hl : isLetter c = true
      · have tw : (c :: r).takeWhile isAlnum = c :: r.takeWhile isAlnum := by rw [List.takeWhile_cons, if_pos (by simp [isAlnum, hl])]
        rw [num_no2 s hs i j v k hi c r h hl, tw]
        unfold numRes
        rw [numVal, if_neg (fun (h : isDigit c = true ∧ _) => hd h.1)]
        split <;> rfl
      · have tw : (c :: r).takeWhile isAlnum = [] := by rw [List.takeWhile_cons, if_neg (by simp [isAlnum, hl, hd])]
        rw [tw]
        unfold numRes
        by_cases hc : i + 1 < j ∧ bt s (i : Int) = 48
        · rw [num_no1 s hs i j v k hi hc.1 hc.2, if_pos (by simpa using hc)]
        · rw [num_yes s hs i j v k hij hi hj hc (fun c' r' hc => by rw [h] at hc; simp only [List.cons.injEq] at hc; obtain ⟨rfl, rfl⟩ := hc; simpa using hl), if_neg (by simpa using hc)]
          rfl
theorem number_eq (s : ByteArray) (hs : s.size ≤ 8192) (i k : Nat) (c : UInt8) (r : List UInt8) (h : suf s i = c :: r) (hd : isDigit c = true) (hk : 2 * s.size + 2 ≤ k) :
    mortiseref4_number.f k s (i : Int) = some (match numTok (c :: r) with | none => noN | some t => (3, ofL t.text, t.num, (i : Int), true)) := by
  obtain ⟨h1, h2, h3, h4⟩ := suf_cons h
  have hl := suf_length s i
  unfold mortiseref4_number.f
  rw [num_go s hs i h1 (c :: r) i k 0 h (by rw [← h, hl]; omega) (Nat.le_refl _) (by omega) (by omega) (by omega)]
  have tw : (c :: r).takeWhile isAlnum = c :: r.takeWhile isAlnum := by rw [List.takeWhile_cons, if_pos (by simp [isAlnum, hd])]
  have e : s.extract i (i + ((c :: r).takeWhile isAlnum).length) = ofL ((c :: r).takeWhile isAlnum) := by
    rw [extract_ofL, h, Nat.add_sub_cancel_left, takeWhile_take]
  have hcc : (i + 1 < i + ((c :: r).takeWhile isAlnum).length ∧ bt s (i : Int) = 48) ↔ (1 < ((c :: r).takeWhile isAlnum).length ∧ ((c :: r).takeWhile isAlnum).head? = some 48) := by
    rw [tw, h2]
    simp only [List.head?_cons, Option.some.injEq, List.length_cons]
    have := toNat_iff c 48 (by omega)
    constructor
    · rintro ⟨a, b⟩; exact ⟨by omega, this.2 b⟩
    · rintro ⟨a, b⟩; exact ⟨by omega, this.1 b⟩
  unfold numRes numTok
  by_cases hc : i + 1 < i + ((c :: r).takeWhile isAlnum).length ∧ bt s (i : Int) = 48
  · rw [if_pos hc]
    simp only
    rw [if_pos (hcc.1 hc)]
  · rw [if_neg hc]
    simp only
    rw [if_neg (fun h => hc (hcc.2 h)), e]
    cases numVal 0 ((c :: r).takeWhile isAlnum) <;> rfl
/-! ## PS -/


def noS : Int × ByteArray × Int × Int × Int × Bool := (0, (⟨#[]⟩ : ByteArray), 0, 0, 0, false)
def strRes (i : Nat) (bs : List UInt8) (j : Nat) : Option (List UInt8 × Nat) → Option (Int × ByteArray × Int × Int × Int × Bool)
  | none => some noS
  | some (b, m) => if 100 < bs.length + b.length then some noS else some (4, ofL (bs ++ b), 0, (i : Int), ((j + m : Nat) : Int), true)
theorem wnat (a : Nat) (h : a ≤ 10000) : wrap64 ((a : Int) + 1) = ((a + 1 : Nat) : Int) := by rw [w64 (by omega) (by omega)]; omega
theorem ctl_iff {c : UInt8} : (c < 32 ∨ 126 < c) ↔ ((c.toNat : Int) < 32 ∨ (c.toNat : Int) > 126) := by rw [lt32, gt126]
theorem nat8_len (bs : List UInt8) : (nat8 bs).length = bs.length := by simp [nat8]
theorem nat8_room (bs : List UInt8) (h : bs.length ≤ 8192) : (nat8 bs).length < 140737488355328 := by
  rw [← nat8_len bs] at h
  exact Nat.lt_of_le_of_lt h (by decide)
theorem strRes_map (i : Nat) (bs : List UInt8) (j e : Nat) (d : UInt8) (x : Option (List UInt8 × Nat)) : strRes i bs j (x.map fun x => (d :: x.1, x.2 + e)) = strRes i (bs ++ [d]) (j + e) x := by
  cases x with
  | none => rfl
  | some p =>
    obtain ⟨b, m⟩ := p
    simp only [Option.map_some, strRes, List.length_append, List.length_cons, List.length_nil, List.append_assoc, List.cons_append, List.nil_append]
    rw [show j + (m + e) = j + e + m by omega]
    by_cases hb : 100 < bs.length + (b.length + 1)
    · rw [if_pos hb, if_pos (by omega)]
    · rw [if_neg hb, if_neg (by omega)]
theorem str_l0_end (s : ByteArray) (i j k : Nat) (xs : List Int) (hj : s.size ≤ j) : mortiseref4_quoted.l0 (k + 2) s (i : Int) xs (j : Int) = some noS := by
  rw [mortiseref4_quoted.l0, if_neg (by omega), mortiseref4_quoted.j1, if_neg (by simp), if_pos (by omega)]
  rfl
theorem str_l0_quote (s : ByteArray) (i j k : Nat) (xs : List Int) (hj : j < s.size) (hc : bt s (j : Int) = 34) : mortiseref4_quoted.l0 (k + 2) s (i : Int) xs (j : Int) = if (xs.length : Int) > 100 then some noS else some (4, strOfNums xs, 0, (i : Int), wrap64 ((j : Int) + 1), true) := by
  rw [mortiseref4_quoted.l0, if_pos (by omega), if_pos (by omega), hc, mortiseref4_quoted.j1]
  rw [show ((34 : Int) != 34) = false from rfl, if_neg (by simp), if_neg (by omega)]
  rfl
theorem str_l0_ctl (s : ByteArray) (i j k : Nat) (xs : List Int) (hj : j < s.size) (hc : bt s (j : Int) ≠ 34) (h : bt s (j : Int) < 32 ∨ bt s (j : Int) > 126) : mortiseref4_quoted.l0 (k + 3) s (i : Int) xs (j : Int) = some noS := by
  rw [mortiseref4_quoted.l0, if_pos (by omega), if_pos (by omega), mortiseref4_quoted.j1]
  rw [show (bt s (j : Int) != 34) = true from bne_iff_ne.2 hc, if_pos rfl, if_pos (by omega), if_pos (by omega)]
  by_cases lo : bt s (j : Int) < 32
  · rw [if_pos lo, mortiseref4_quoted.j2, if_pos rfl]; rfl
  · rw [if_neg lo, show decide (bt s (j : Int) > 126) = true from decide_eq_true (by omega), mortiseref4_quoted.j2, if_pos rfl]; rfl
theorem str_l0_j2 (s : ByteArray) (i j k : Nat) (xs : List Int) (hj : j < s.size) (hc : bt s (j : Int) ≠ 34) (h0 : ¬ bt s (j : Int) < 32) (h1 : ¬ bt s (j : Int) > 126) : mortiseref4_quoted.l0 (k + 3) s (i : Int) xs (j : Int) = mortiseref4_quoted.j2 (k + 1) s (i : Int) xs (j : Int) (bt s (j : Int)) false := by
  rw [mortiseref4_quoted.l0, if_pos (by omega), if_pos (by omega), mortiseref4_quoted.j1]
  rw [show (bt s (j : Int) != 34) = true from bne_iff_ne.2 hc, if_pos rfl, if_pos (by omega), if_pos (by omega), if_neg h0, show decide (bt s (j : Int) > 126) = false from decide_eq_false h1]
set_option maxHeartbeats 4000000 in
theorem str_go (s : ByteArray) (hs : s.size ≤ 8192) (i : Nat) : ∀ (n : Nat) (l : List UInt8) (j k : Nat) (bs : List UInt8), l.length ≤ n → suf s j = l → 3 * l.length + 3 ≤ k → j ≤ s.size → bs.length ≤ j →
    mortiseref4_quoted.l0 k s (i : Int) (nat8 bs) (j : Int) = strRes i bs j (strVal l) := by
  intro n
  induction n with
  | zero =>
    intro l j k bs hl h hk hj hb
    match l, hl with
    | [], _ =>
      obtain ⟨k, rfl⟩ : ∃ m, k = m + 2 := ⟨k - 2, by simp at hk; omega⟩
      rw [str_l0_end s i j k _ (suf_nil h)]
      rfl
  | succ n ih =>
    intro l j k bs hl h hk hj hb
    match l, hl, h, hk with
    | [], hl, h, hk =>
      obtain ⟨k, rfl⟩ : ∃ m, k = m + 2 := ⟨k - 2, by simp at hk; omega⟩
      rw [str_l0_end s i j k _ (suf_nil h)]
      rfl
    | c :: r, hl, h, hk =>
      obtain ⟨k, rfl⟩ : ∃ m, k = m + 3 := ⟨k - 3, by simp at hk; omega⟩
      obtain ⟨h1, h2, h3, h4⟩ := suf_cons h
      have jb : j ≤ 9000 := Nat.le_trans hj (Nat.le_trans hs (by decide))
      rw [strVal_cons]
      by_cases c34 : (c.toNat : Int) = 34
      · have e34 : c = 34 := (toNat_iff c 34 (by omega)).2 c34
        rw [str_l0_quote s i j (k + 1) _ h1 (by omega), if_pos e34, nat8_len]
        unfold strRes
        simp only [List.length_nil, Nat.add_zero, List.append_nil]
        by_cases hg : (bs.length : Int) > 100
        · rw [if_pos hg, if_pos (by omega)]
        · rw [if_neg hg, if_neg (by omega), wnat j (Nat.le_trans jb (by decide)), strOf_nat8]
      · rw [if_neg (fun e : c = 34 => c34 ((toNat_iff c 34 (by decide)).1 e))]
        by_cases lo : (c.toNat : Int) < 32 ∨ (c.toNat : Int) > 126
        · rw [str_l0_ctl s i j k _ h1 (by omega) (by omega), if_pos (ctl_iff.2 lo)]
          rfl
        rw [str_l0_j2 s i j k _ h1 (by omega) (by omega) (by omega), if_neg (fun h => lo (ctl_iff.1 h)), h2]
        have room : bs.length ≤ 8192 := Nat.le_trans hb (Nat.le_trans hj hs)
        have step : ∀ (d : UInt8) (q : List UInt8) (e : Nat), 1 ≤ e → suf s (j + e) = q → q.length ≤ n → 3 * q.length + 3 ≤ k → j + e ≤ s.size → mortiseref4_quoted.l0 k s (i : Int) (nat8 bs ++ [(d.toNat : Int)]) ((j + e : Nat) : Int) = strRes i bs j ((strVal q).map fun x => (d :: x.1, x.2 + e)) := by
          intro d q e he hq hqn hqk hqs
          rw [strRes_map, ← ih q (j + e) k (bs ++ [d]) hqn hq hqk hqs (by rw [List.length_append]; exact Nat.add_le_add hb he)]
          rw [show nat8 (bs ++ [d]) = nat8 bs ++ [(d.toNat : Int)] by simp [nat8]]
        by_cases c92 : (c.toNat : Int) = 92
        · rw [if_pos (show c = 92 from (toNat_iff c 92 (by decide)).2 c92), mortiseref4_quoted.j2, if_neg (by simp), if_pos c92, wnat j (Nat.le_trans jb (by decide))]
          cases r with
          | nil =>
            rw [if_pos (by simp at h4; omega)]
            rfl
          | cons d q =>
            obtain ⟨g1, g2, g3, g4⟩ := suf_cons h3
            rw [if_neg (by simp at h4; omega), if_pos (by omega), if_pos (by omega), g2, wnat (j + 1) (Nat.le_trans (Nat.succ_le_succ jb) (by decide))]
            have st := fun d' => step d' q 2 (by omega) g3 (by simp at hl; omega) (by simp at hk; omega) (by omega)
            simp only
            by_cases d110 : (d.toNat : Int) = 110
            · rw [if_pos d110, if_pos (nat8_room bs room), if_pos (show d = 110 from (toNat_iff d 110 (by decide)).2 d110)]
              exact st 10
            · rw [if_neg d110, if_neg (fun e : d = 110 => d110 ((toNat_iff d 110 (by decide)).1 e))]
              by_cases d34 : (d.toNat : Int) = 34
              · have e : d = 34 := (toNat_iff d 34 (by decide)).2 d34
                rw [if_pos d34, if_pos (nat8_room bs room), if_pos (.inl e)]
                exact st d
              · rw [if_neg d34]
                by_cases d92 : (d.toNat : Int) = 92
                · have e : d = 92 := (toNat_iff d 92 (by decide)).2 d92
                  rw [if_pos d92, if_pos (nat8_room bs room), if_pos (.inr e)]
                  exact st d
                · have nn : ¬ (d = 34 ∨ d = 92) := by
                    rintro (e | e)
                    · exact d34 ((toNat_iff d 34 (by decide)).1 e)
                    · exact d92 ((toNat_iff d 92 (by decide)).1 e)
                  rw [if_neg d92, if_neg nn]
                  rfl
        · rw [if_neg (fun e : c = 92 => c92 ((toNat_iff c 92 (by decide)).1 e)), mortiseref4_quoted.j2, if_neg (by simp), if_neg c92, if_pos (nat8_room bs room), wnat j (Nat.le_trans jb (by decide))]
          exact step c r 1 (by omega) h3 (by simp at hl; omega) (by simp at hk; omega) (by omega)
theorem quoted_eq (s : ByteArray) (hs : s.size ≤ 8192) (i k : Nat) (c : UInt8) (r : List UInt8) (h : suf s i = c :: r) (hk : 3 * s.size + 3 ≤ k) :
    mortiseref4_quoted.f k s (i : Int) = some (match strTok r with | none => noS | some t => (4, ofL t.text, 0, (i : Int), ((i + t.len : Nat) : Int), true)) := by
  obtain ⟨h1, h2, h3, h4⟩ := suf_cons h
  have hw : wrap64 ((i : Int) + 1) = ((i + 1 : Nat) : Int) := by rw [w64 (by omega) (by omega)]; omega
  unfold mortiseref4_quoted.f
  rw [hw]
  have g := str_go s hs i r.length r (i + 1) k [] (Nat.le_refl _) h3 (by omega) (by omega) (by simp)
  rw [show nat8 [] = ([] : List Int) from rfl] at g
  rw [g]
  unfold strTok
  cases strVal r with
  | none => rfl
  | some p =>
    obtain ⟨b, m⟩ := p
    simp only [strRes, Option.bind_some, List.length_nil, Nat.zero_add, List.nil_append]
    by_cases hb : 100 < b.length
    · rw [if_pos hb, if_neg (by omega)]
    · rw [if_neg hb, if_pos (by omega)]
      simp only
      rw [show i + 1 + m = i + (m + 1) by omega]
/-! ## PG -/


def signTxt (l : List UInt8) : ByteArray := match signTok l with
  | none => ⟨#[]⟩
  | some t => ofL t.text
theorem ite_mem {α : Type} {x a : Int} {l : List Int} {X Y R : α} (h : R = if x ∈ l then X else Y) : (if x = a then X else R) = if x ∈ a :: l then X else Y := by
  rw [h]; by_cases e : x = a <;> simp [e]
set_option maxRecDepth 10000 in
theorem sign_j0 (s : ByteArray) (hs : s.size ≤ 8192) (i k : Nat) (c : UInt8) (r : List UInt8) (h : suf s i = c :: r) : mortiseref4_sign.j0 (k + 1) s (i : Int) = some (if singles.contains c then ofL [c] else ⟨#[]⟩) := by
  obtain ⟨h1, h2, h3, h4⟩ := suf_cons h
  have hw : wrap64 ((i : Int) + 1) = ((i + 1 : Nat) : Int) := by rw [w64 (by omega) (by omega)]; omega
  have hA : ((i : Int) ≤ ((i + 1 : Nat) : Int)) = True := eq_true (by omega)
  have hB : (((i + 1 : Nat) : Int) ≤ (s.size : Int)) = True := eq_true (by omega)
  have e : s.extract i (i + 1) = ofL [c] := by rw [extract_ofL, h, Nat.add_sub_cancel_left]; rfl
  have hm : ((c.toNat : Int) ∈ singles.map (fun c => (c.toNat : Int))) ↔ singles.contains c = true := by
    rw [List.contains_iff_mem, List.mem_map]
    constructor
    · rintro ⟨d, hd, e⟩
      have : d = c := by rw [← UInt8.toNat_inj]; omega
      rw [← this]; exact hd
    · intro hc; exact ⟨c, hc, rfl⟩
  rw [mortiseref4_sign.j0, if_pos (by omega), if_pos (by omega), h2, hw]
  simp only [hA, hB, if_true, Int.toNat_natCast, e]
  rw [show singles.map (fun c => (c.toNat : Int)) = [40, 41, 91, 93, 123, 125, 44, 59, 46, 58, 61, 60, 62, 43, 45, 42, 47, 37, 33, 38] from rfl] at hm
  refine Eq.trans (b := if (c.toNat : Int) ∈ ([40, 41, 91, 93, 123, 125, 44, 59, 46, 58, 61, 60, 62, 43, 45, 42, 47, 37, 33, 38] : List Int) then some (ofL [c]) else some (⟨#[]⟩ : ByteArray)) ?_ ?_
  · repeat' (refine ite_mem ?_)
    simp
  · by_cases hc : singles.contains c = true
    · rw [if_pos hc, if_pos (hm.2 hc)]
    · rw [if_neg hc, if_neg (fun h => hc (hm.1 h))]
theorem sign_eq (s : ByteArray) (hs : s.size ≤ 8192) (i k : Nat) (c : UInt8) (r : List UInt8) (h : suf s i = c :: r) : mortiseref4_sign.f (k + 1) s (i : Int) = some (signTxt (c :: r)) := by
  obtain ⟨h1, h2, h3, h4⟩ := suf_cons h
  have hw : wrap64 ((i : Int) + 1) = ((i + 1 : Nat) : Int) := by rw [w64 (by omega) (by omega)]; omega
  have hw2 : wrap64 ((i : Int) + 2) = ((i + 2 : Nat) : Int) := by rw [w64 (by omega) (by omega)]; omega
  have hj := sign_j0 s hs i k c r h
  have hone : doubles.contains ((c :: r).take 2) = false → signTxt (c :: r) = (if singles.contains c then ofL [c] else ⟨#[]⟩) := by
    intro hd
    unfold signTxt signTok
    rw [hd]
    simp only [Bool.false_eq_true, if_false]
    by_cases hc : singles.contains c = true
    · simp only [hc, if_true]
    · simp only [hc, if_false]
      rfl
  unfold mortiseref4_sign.f
  rw [hw, hw2]
  by_cases hn : ((i + 1 : Nat) : Int) < (s.size : Int)
  · have e : (s.extract (i : Int).toNat ((i + 2 : Nat) : Int).toNat) = ofL ((c :: r).take 2) := by rw [Int.toNat_natCast, Int.toNat_natCast, extract_ofL, h, Nat.add_sub_cancel_left]
    rw [if_pos hn, if_pos (by omega), if_pos (by omega), if_pos (by omega), e, ofL_toList, hj]
    by_cases hd : doubles.contains ((c :: r).take 2) = true
    · have hd2 := List.contains_iff_mem.1 hd
      have es : signTxt (c :: r) = ofL ((c :: r).take 2) := by unfold signTxt signTok; rw [if_pos hd]
      rw [es]
      simp only [doubles, List.mem_cons, List.not_mem_nil, or_false] at hd2
      generalize (c :: r).take 2 = x at hd2 ⊢
      rcases hd2 with e | e | e | e | e | e | e <;> simp [e]
    · rw [hone (Bool.eq_false_iff.2 hd)]
      have hd2 : ¬ (c :: r).take 2 ∈ doubles := fun h => hd (List.contains_iff_mem.2 h)
      simp only [doubles, List.mem_cons, List.not_mem_nil, or_false, not_or] at hd2
      obtain ⟨d1, d2, d3, d4, d5, d6, d7⟩ := hd2
      rw [if_neg d1, if_neg d2, if_neg d3, if_neg d4, if_neg d5, if_neg d6, if_neg d7]
  · rw [if_neg hn, hj, hone (short_doubles (by simp; omega))]
end Go.Proofs.Ytmmjhdhgohfioaa.Gx
