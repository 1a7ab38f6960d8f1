/-
  WHAT blanks PASSES, and the whole lexer's rounds, in plain words.
-/
import Derived.Test.YtmmjhdhgohfioaaM2
namespace Go.Proofs.Ytmmjhdhgohfioaa.Gx
open Go.RowKit Go.Proofs.YtmmjhdhgohfioaaW.PrintWords Go.Proofs.YtmmjhdhgohfioaaW.PrintLast Go.Proofs.YtmmjhdhgohfioaaW.PrintMore
set_option linter.unusedVariables false
set_option linter.unusedSimpArgs false

theorem blank_iff (c : UInt8) : isBlank c = true ↔ ((c.toNat : Int) = 32 ∨ (c.toNat : Int) = 9 ∨ (c.toNat : Int) = 10 ∨ (c.toNat : Int) = 13) := by
  unfold isBlank
  simp only [Bool.or_eq_true, beq_iff_eq, ← UInt8.toNat_inj, UInt8.reduceToNat]
  omega
theorem eq_byte (c : UInt8) (m : Nat) (hm : m < 256) : ((c.toNat : Int) = (m : Int)) ↔ c = UInt8.ofNat m := ((toNat_iff c m hm)).symm
theorem skip_pos {s : ByteArray} {i : Nat} {b : Bool} (hi : i ≤ s.size) : i ≤ s.size - (skipB b (suf s i)).length ∧ s.size - (skipB b (suf s i)).length ≤ s.size := by
  have h1 := skipB_le b (suf s i)
  have h2 := suf_length s i
  omega
theorem skip_suffix : ∀ (b : Bool) (l : List UInt8), ∃ n, skipB b l = l.drop n
  | _, [] => ⟨0, by simp [skipB]⟩
  | true, c :: r => by
    obtain ⟨n1, h1⟩ := skip_suffix false r
    obtain ⟨n2, h2⟩ := skip_suffix true r
    unfold skipB
    split
    · exact ⟨n1 + 1, by simpa using h1⟩
    · exact ⟨n2 + 1, by simpa using h2⟩
  | false, c :: r => by
    obtain ⟨n1, h1⟩ := skip_suffix false r
    obtain ⟨n2, h2⟩ := skip_suffix true r
    unfold skipB
    split
    · exact ⟨n1 + 1, by simpa using h1⟩
    · split
      · exact ⟨n2 + 1, by simpa using h2⟩
      · exact ⟨0, rfl⟩
theorem suf_skip {s : ByteArray} {i : Nat} {b : Bool} (hi : i ≤ s.size) : suf s (s.size - (skipB b (suf s i)).length) = skipB b (suf s i) := by
  obtain ⟨n, hn⟩ := skip_suffix b (suf s i)
  have h2 := suf_length s i
  rw [hn, List.length_drop, suf_drop, h2]
  by_cases h : n ≤ s.size - i
  · congr 1; omega
  · rw [suf_end (i := i + n) (by omega), suf_end (by omega)]

theorem blanks_go (s : ByteArray) (tk : List S31) (hs : s.size ≤ 8192) : ∀ (l : List UInt8) (i k : Nat), suf s i = l → 4 * l.length + 4 ≤ k → i ≤ s.size →
    lex_reader_blanks.l0 k s (i : Int) tk = some (s, ((s.size - (skipB false l).length : Nat) : Int)) ∧ lex_reader_blanks.l1 k s (i : Int) tk = some (s, ((s.size - (skipB true l).length : Nat) : Int))
  | [], i, k, h, hk, hi => by
    obtain ⟨k, rfl⟩ : ∃ m, k = m + 2 := ⟨k - 2, by simp at hk; omega⟩
    have h1 := suf_nil h
    have e : (s.size : Int) = (i : Int) := by omega
    have h0 : ∀ q, lex_reader_blanks.l0 (q + 1) s (i : Int) tk = some (s, ((s.size - (skipB false []).length : Nat) : Int)) := by
      intro q
      simp only [lex_reader_blanks.l0]
      rw [if_neg (by omega)]
      simp [skipB]; omega
    refine ⟨h0 (k + 1), ?_⟩
    simp only [lex_reader_blanks.l1]
    rw [if_neg (by omega)]
    exact h0 k
  | c :: r, i, k, h, hk, hi => by
    obtain ⟨k, rfl⟩ : ∃ m, k = m + 4 := ⟨k - 4, by simp at hk; omega⟩
    obtain ⟨h1, h2, h3, h4⟩ := suf_cons h
    have hk' : 4 * r.length + 4 ≤ k := by simp at hk; omega
    have hw : wrap64 ((i : Int) + 1) = ((i + 1 : Nat) : Int) := by rw [w64 (by omega) (by omega)]; omega
    have ih := fun q (hq : 4 * r.length + 4 ≤ q) => blanks_go s tk hs r (i + 1) q h3 hq (by omega)
    have hl0 : ∀ q, 4 * r.length + 4 ≤ q → lex_reader_blanks.l0 (q + 4) s (i : Int) tk = some (s, ((s.size - (skipB false (c :: r)).length : Nat) : Int)) := by
      intro q hq
      simp only [lex_reader_blanks.l0]
      rw [if_pos (by omega), if_pos (by omega), h2]
      have hyes : isBlank c = true → lex_reader_blanks.j1 (q + 3) (c.toNat : Int) true s (i : Int) tk = some (s, ((s.size - (skipB false (c :: r)).length : Nat) : Int)) := by
        intro hb
        simp only [lex_reader_blanks.j1]
        rw [if_pos trivial, hw, (ih (q + 2) (by omega)).1]
        rw [skipB, if_pos hb]
      by_cases b1 : (c.toNat : Int) = 32
      · rw [if_pos b1]; exact hyes ((blank_iff c).2 (by omega))
      rw [if_neg b1]
      by_cases b2 : (c.toNat : Int) = 9
      · rw [if_pos b2]; exact hyes ((blank_iff c).2 (by omega))
      rw [if_neg b2]
      by_cases b3 : (c.toNat : Int) = 10
      · rw [if_pos b3]; exact hyes ((blank_iff c).2 (by omega))
      rw [if_neg b3]
      by_cases b4 : (c.toNat : Int) = 13
      · rw [show ((c.toNat : Int) == 13) = true from beq_iff_eq.2 b4]
        exact hyes ((blank_iff c).2 (by omega))
      rw [show ((c.toNat : Int) == 13) = false from beq_eq_false_iff_ne.2 b4]
      have hnb : ¬ isBlank c = true := fun hb => by have := (blank_iff c).1 hb; omega
      simp only [lex_reader_blanks.j1]
      rw [if_neg (by simp)]
      have hstop : ¬ (c = 47 ∧ r.head? = some 47) → lex_reader_blanks.j2 (q + 2) false s (i : Int) tk = some (s, ((s.size - (skipB false (c :: r)).length : Nat) : Int)) := by
        intro hn
        simp only [lex_reader_blanks.j2]
        rw [if_neg (by simp), skipB, if_neg hnb, if_neg hn]
        simp; omega
      by_cases b5 : (c.toNat : Int) = 47
      · have c47 : c = 47 := (toNat_iff c 47 (by omega)).2 b5
        rw [if_pos b5, hw]
        match r, h3, h4, hstop, ih, hq with
        | [], h3, h4, hstop, ih, hq =>
          rw [if_neg (by simp at h4; omega)]
          exact hstop (by simp)
        | d :: q2, h3, h4, hstop, ih, hq =>
          obtain ⟨g1, g2, g3, g4⟩ := suf_cons h3
          rw [if_pos (by simp at h4; omega), if_pos (by omega), g2]
          by_cases b6 : (d.toNat : Int) = 47
          · have d47 : d = 47 := (toNat_iff d 47 (by omega)).2 b6
            rw [show ((d.toNat : Int) == 47) = true from beq_iff_eq.2 b6]
            simp only [lex_reader_blanks.j2]
            rw [if_pos trivial]
            simp only [lex_reader_blanks.l1]
            rw [if_pos (by omega), if_pos (by omega), h2, if_neg (by omega), hw, (ih q (by omega)).2]
            rw [skipB.eq_3, if_neg hnb, if_pos ⟨c47, by rw [d47]; rfl⟩]
          · rw [show ((d.toNat : Int) == 47) = false from beq_eq_false_iff_ne.2 b6]
            refine hstop ?_
            rintro ⟨_, hd⟩
            rw [List.head?_cons, Option.some.injEq] at hd
            exact b6 ((toNat_iff d 47 (by omega)).1 hd)
      · rw [if_neg b5]
        exact hstop (fun hc => b5 ((toNat_iff c 47 (by omega)).1 hc.1))
    refine ⟨hl0 k hk', ?_⟩
    rw [lex_reader_blanks.l1]
    rw [if_pos (by omega), if_pos (by omega), h2]
    by_cases b3 : (c.toNat : Int) = 10
    · have c10 : c = 10 := (toNat_iff c 10 (by omega)).2 b3
      rw [if_pos b3]
      have hb : isBlank c = true := (blank_iff c).2 (by omega)
      have e : skipB true (c :: r) = skipB false (c :: r) := by rw [skipB.eq_2, if_pos c10, skipB.eq_3, if_pos hb]
      rw [e]
      simp only [lex_reader_blanks.l0]
      rw [if_pos (by omega), if_pos (by omega), h2, if_neg (by omega), if_neg (by omega), if_pos b3]
      simp only [lex_reader_blanks.j1]
      rw [if_pos trivial, hw, skipB.eq_3, if_pos hb]
      obtain ⟨k, rfl⟩ : ∃ m, k = m + 1 := ⟨k - 1, by omega⟩
      exact (ih _ (by omega)).1
    · rw [if_neg b3, hw, (ih (k + 3) (by omega)).2]
      rw [skipB.eq_2, if_neg (show ¬ c = 10 from fun hc => b3 ((toNat_iff c 10 (by omega)).1 hc))]
theorem blanks_eq (s : ByteArray) (tk : List S31) (hs : s.size ≤ 8192) (i : Nat) (hi : i ≤ s.size) : lex_reader_blanks.f (4 * s.size + 4) s (i : Int) tk = some (s, ((s.size - (skipB false (suf s i)).length : Nat) : Int)) := by
  unfold lex_reader_blanks.f
  exact (blanks_go s tk hs (suf s i) i _ rfl (by rw [suf_length]; omega) hi).1

/-! ### rounds -/
theorem skip_idem (l : List UInt8) : skipB false (skipB false l) = skipB false l := by
  match h : skipB false l with
  | [] => rfl
  | c :: r =>
    obtain ⟨h1, h2⟩ := skipB_head false l c r h
    rw [skipB, if_neg (by simp [h1]), if_neg h2]
theorem toks_skip (f : Nat) (l : List UInt8) : toks (f + 1) (skipB false l) = toks (f + 1) l := by
  simp only [toks, skip_idem]
def fin (N : Nat) (acc : List S31) (x : List (Tk × Nat) × Option Nat) : List S31 × Int × Int := match x with
  | (l, none) => (acc ++ l.map (place N) ++ [⟨0, ofL [], 0, N⟩], 0, 0)
  | (_, some m) => ([], (N : Int) - m, 5)
theorem lexSpec_fin {s : ByteArray} (hs : s.size ≤ 8192) : lexSpec s = fin s.size [] (toks (s.size + 1) (suf s 0)) := by
  unfold lexSpec fin
  rw [if_neg (by omega), suf_zero]
  split <;> rename_i h <;> rw [h] <;> simp
/-- Where the lexer stands at a round's head: place i, tokens acc; no blank stands there; f: rounds that are left. -/
def LexAt (s : ByteArray) (i : Nat) (acc : List S31) (f : Nat) : Prop := i ≤ s.size ∧ acc.length ≤ i ∧ s.size < f + i ∧ skipB false (suf s i) = suf s i ∧ lexSpec s = fin s.size acc (toks f (suf s i))
theorem LexAt.start {s : ByteArray} (hs : s.size ≤ 8192) : LexAt s (s.size - (skipB false (suf s 0)).length) [] (s.size + 1) := by
  obtain ⟨h1, h2⟩ := skip_pos (s := s) (i := 0) (b := false) (Nat.zero_le _)
  refine ⟨h2, by simp, by omega, ?_, ?_⟩
  · rw [suf_skip (Nat.zero_le _), skip_idem]
  · rw [suf_skip (Nat.zero_le _), toks_skip, lexSpec_fin hs]
theorem LexAt.ends {s : ByteArray} {i f : Nat} {acc : List S31} (h : LexAt s i acc f) (hi : ¬ i < s.size) : lexSpec s = (acc ++ [⟨0, ofL [], 0, s.size⟩], 0, 0) ∧ i = s.size := by
  obtain ⟨h1, h2, h3, h4, h5⟩ := h
  obtain ⟨f, rfl⟩ : ∃ m, f = m + 1 := ⟨f - 1, by omega⟩
  rw [suf_end (by omega)] at h5
  refine ⟨?_, by omega⟩
  rw [h5]
  simp [toks, skipB, fin]
theorem LexAt.cons {s : ByteArray} {i f : Nat} {acc : List S31} (h : LexAt s i acc f) (hi : i < s.size) : ∃ c r, suf s i = c :: r := by
  match hs : suf s i with
  | [] => have := suf_nil hs; omega
  | c :: r => exact ⟨c, r, rfl⟩
theorem LexAt.fault {s : ByteArray} {i f : Nat} {acc : List S31} {c : UInt8} {r : List UInt8} (h : LexAt s i acc (f + 1)) (hc : suf s i = c :: r) (ht : tok (c :: r) = none) : lexSpec s = ([], (i : Int), 5) := by
  obtain ⟨h1, h2, h3, h4, h5⟩ := h
  obtain ⟨a1, a2, a3, a4⟩ := suf_cons hc
  rw [h5, toks, h4, hc]
  simp only [ht, fin]
  congr 2
  omega
theorem LexAt.next {s : ByteArray} {i f : Nat} {acc : List S31} {c : UInt8} {r : List UInt8} {t : Tk} (h : LexAt s i acc (f + 1)) (hc : suf s i = c :: r) (ht : tok (c :: r) = some t) :
    LexAt s (s.size - (skipB false (suf s (i + t.len))).length) (acc ++ [⟨t.kind, ofL t.text, t.num, (i : Int)⟩]) f ∧ i + t.len ≤ s.size ∧ i < i + t.len := by
  obtain ⟨h1, h2, h3, h4, h5⟩ := h
  obtain ⟨a1, a2, a3, a4⟩ := suf_cons hc
  obtain ⟨b1, b2⟩ := tok_len ht
  have b3 : i + t.len ≤ s.size := by simp at b2; omega
  obtain ⟨g1, g2⟩ := skip_pos (s := s) (i := i + t.len) (b := false) b3
  obtain ⟨f, rfl⟩ : ∃ m, f = m + 1 := ⟨f - 1, by omega⟩
  refine ⟨⟨g2, by rw [List.length_append]; simp; omega, by omega, ?_, ?_⟩, b3, by omega⟩
  · rw [suf_skip b3, skip_idem]
  · rw [h5, suf_skip b3, toks_skip, toks, h4, hc]
    simp only [ht]
    rw [← hc, suf_drop]
    have e : place s.size (t, r.length + 1) = ⟨t.kind, ofL t.text, t.num, (i : Int)⟩ := by
      unfold place
      simp only
      congr 1
      omega
    cases hx : toks (f + 1) (suf s (i + t.len)) with
    | mk l m => cases m with
      | none => simp [fin, e]
      | some m => simp [fin]
end Go.Proofs.Ytmmjhdhgohfioaa.Gx
