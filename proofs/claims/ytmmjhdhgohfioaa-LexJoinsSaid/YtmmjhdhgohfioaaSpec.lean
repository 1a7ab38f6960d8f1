/-
  THE PLAIN LEXER: what a text's tokens are, over lists of bytes, with no program in sight.
-/
import Derived.Test.YtmmjhdhgohfioaaA0
namespace Go.Proofs.Ytmmjhdhgohfioaa.Gx
open Go.RowKit Go.Proofs.YtmmjhdhgohfioaaW.PrintWords Go.Proofs.YtmmjhdhgohfioaaW.PrintLast

/-! ### letters, digits, words -/
def isLetter (c : UInt8) : Bool := (97 ≤ c && c ≤ 122) || (65 ≤ c && c ≤ 90) || c == 95
def isDigit (c : UInt8) : Bool := 48 ≤ c && c ≤ 57
def isAlnum (c : UInt8) : Bool := isLetter c || isDigit c
def isBlank (c : UInt8) : Bool := c == 32 || c == 9 || c == 10 || c == 13
def theWords : List (List UInt8) := [[112, 97, 99, 107, 97, 103, 101], [105, 109, 112, 111, 114, 116], [99, 111, 110, 115, 116], [118, 97, 114], [116, 121, 112, 101], [115, 116, 114, 117, 99, 116], [105, 110, 116, 101, 114, 102, 97, 99, 101], [102, 117, 110, 99], [105, 102], [101, 108, 115, 101], [102, 111, 114], [98, 114, 101, 97, 107], [99, 111, 110, 116, 105, 110, 117, 101], [114, 101, 116, 117, 114, 110], [105, 110, 116], [98, 111, 111, 108], [115, 116, 114, 105, 110, 103], [116, 114, 117, 101], [102, 97, 108, 115, 101], [110, 105, 108], [97, 110, 121], [99, 111, 109, 112, 97, 114, 97, 98, 108, 101], [108, 101, 110], [97, 112, 112, 101, 110, 100], [109, 97, 107, 101], [112, 97, 110, 105, 99], [112, 117, 116], [103, 101, 116]]
def isWord (l : List UInt8) : Bool := theWords.contains l
def doubles : List (List UInt8) := [[58, 61], [61, 61], [33, 61], [60, 61], [62, 61], [38, 38], [124, 124]]
def singles : List UInt8 := [40, 41, 91, 93, 123, 125, 44, 59, 46, 58, 61, 60, 62, 43, 45, 42, 47, 37, 33, 38]

/-! ### blanks and remarks (true: inside a remark) -/
def skipB : Bool → List UInt8 → List UInt8
  | _, [] => []
  | true, c :: r => if c = 10 then skipB false r else skipB true r
  | false, c :: r => if isBlank c then skipB false r else if c = 47 ∧ r.head? = some 47 then skipB true r else c :: r

/-! ### one token: its kind, its text, its number, its bytes -/
structure Tk where
  kind : Int
  text : List UInt8
  num : Int
  len : Nat
def wordTok (l : List UInt8) : Option Tk :=
  let w := l.takeWhile isAlnum
  if isWord w then some ⟨2, w, 0, w.length⟩ else if w.length ≤ 16 then some ⟨1, w, 0, w.length⟩ else none
def numVal : Int → List UInt8 → Option Int
  | v, [] => some v
  | v, c :: r => if isDigit c = true ∧ v ≤ (9223372036854775807 - ((c.toNat : Int) - 48)) / 10 then numVal (v * 10 + ((c.toNat : Int) - 48)) r else none
def numTok (l : List UInt8) : Option Tk :=
  let w := l.takeWhile isAlnum
  if 1 < w.length ∧ w.head? = some 48 then none else (numVal 0 w).map fun v => ⟨3, w, v, w.length⟩
/-- What stands in a string, behind its opening sign, and how many bytes that is, the closing one with it. -/
def strVal : List UInt8 → Option (List UInt8 × Nat)
  | [] => none
  | c :: r =>
    if c = 34 then some ([], 1)
    else if c < 32 ∨ 126 < c then none
    else if c = 92 then match r with
      | [] => none
      | d :: q => if d = 110 then (strVal q).map fun x => (10 :: x.1, x.2 + 2) else if d = 34 ∨ d = 92 then (strVal q).map fun x => (d :: x.1, x.2 + 2) else none
    else (strVal r).map fun x => (c :: x.1, x.2 + 1)
def strTok (r : List UInt8) : Option Tk := (strVal r).bind fun x => if x.1.length ≤ 100 then some ⟨4, x.1, 0, x.2 + 1⟩ else none
def signTok (l : List UInt8) : Option Tk :=
  if doubles.contains (l.take 2) then some ⟨5, l.take 2, 0, 2⟩ else match l with
  | [] => none
  | c :: _ => if singles.contains c then some ⟨5, [c], 0, 1⟩ else none
def tok : List UInt8 → Option Tk
  | [] => none
  | c :: r => if isLetter c then wordTok (c :: r) else if isDigit c then numTok (c :: r) else if c = 34 then strTok r else signTok (c :: r)

/-! ### a whole text: tokens, each with how many bytes are left where it begins; what is left where a fault is -/
def toks : Nat → List UInt8 → List (Tk × Nat) × Option Nat
  | 0, _ => ([], some 0)
  | f + 1, l => match skipB false l with
    | [] => ([], none)
    | c :: r => match tok (c :: r) with
      | none => ([], some (r.length + 1))
      | some t => let x := toks f ((c :: r).drop t.len); ((t, r.length + 1) :: x.1, x.2)
def ofL (l : List UInt8) : ByteArray := ⟨l.toArray⟩
def place (N : Nat) (x : Tk × Nat) : S31 := ⟨x.1.kind, ofL x.1.text, x.1.num, (N : Int) - x.2⟩
def lexSpec (s : ByteArray) : List S31 × Int × Int :=
  if 8192 < s.size then ([], 0, 2) else match toks (s.size + 1) s.data.toList with
  | (l, none) => (l.map (place s.size) ++ [⟨0, ofL [], 0, s.size⟩], 0, 0)
  | (_, some m) => ([], (s.size : Int) - m, 5)

/-! ### plain facts -/
theorem skipB_le : ∀ (b : Bool) (l : List UInt8), (skipB b l).length ≤ l.length
  | _, [] => by simp [skipB]
  | true, c :: r => by
    have h1 := skipB_le false r
    have h2 := skipB_le true r
    unfold skipB
    split <;> simp <;> omega
  | false, c :: r => by
    have h1 := skipB_le false r
    have h2 := skipB_le true r
    unfold skipB
    split
    · simp; omega
    · split <;> simp; omega
theorem skipB_head : ∀ (b : Bool) (l : List UInt8) (c : UInt8) (r : List UInt8), skipB b l = c :: r → isBlank c = false ∧ ¬ (c = 47 ∧ r.head? = some 47)
  | _, [], c, r, h => by simp [skipB] at h
  | true, d :: q, c, r, h => by
    unfold skipB at h
    split at h
    · exact skipB_head false q c r h
    · exact skipB_head true q c r h
  | false, d :: q, c, r, h => by
    unfold skipB at h
    split at h
    · exact skipB_head false q c r h
    · split at h
      · exact skipB_head true q c r h
      · rename_i h1 h2
        simp only [List.cons.injEq] at h
        obtain ⟨rfl, rfl⟩ := h
        exact ⟨by simpa using h1, h2⟩
theorem takeWhile_len {p : UInt8 → Bool} (l : List UInt8) : (l.takeWhile p).length ≤ l.length := by
  induction l with
  | nil => simp
  | cons c r ih => rw [List.takeWhile_cons]; split <;> simp; exact ih
theorem takeWhile_take {p : UInt8 → Bool} (l : List UInt8) : l.take (l.takeWhile p).length = l.takeWhile p := by
  induction l with
  | nil => simp
  | cons c r ih => rw [List.takeWhile_cons]; split <;> simp [ih]
theorem strVal_len : ∀ (n : Nat) (l : List UInt8), l.length ≤ n → ∀ b m, strVal l = some (b, m) → 1 ≤ m ∧ m ≤ l.length ∧ b.length < m := by
  intro n
  induction n with
  | zero => intro l hl b m h; match l, hl with | [], _ => simp [strVal] at h
  | succ n ih =>
    intro l hl b m h
    match l with
    | [] => simp [strVal] at h
    | c :: r =>
      unfold strVal at h
      split at h
      · simp only [Option.some.injEq, Prod.mk.injEq] at h
        obtain ⟨rfl, rfl⟩ := h
        simp
      · split at h
        · simp at h
        · split at h
          · match r with
            | [] => simp at h
            | d :: q =>
              simp only at h
              have hq : q.length ≤ n := by simp at hl; omega
              split at h
              · rw [Option.map_eq_some_iff] at h
                obtain ⟨⟨b1, m1⟩, h1, h2⟩ := h
                simp only [Prod.mk.injEq] at h2
                obtain ⟨rfl, rfl⟩ := h2
                have := ih q hq b1 m1 h1
                simp; omega
              · split at h
                · rw [Option.map_eq_some_iff] at h
                  obtain ⟨⟨b1, m1⟩, h1, h2⟩ := h
                  simp only [Prod.mk.injEq] at h2
                  obtain ⟨rfl, rfl⟩ := h2
                  have := ih q hq b1 m1 h1
                  simp; omega
                · simp at h
          · rw [Option.map_eq_some_iff] at h
            obtain ⟨⟨b1, m1⟩, h1, h2⟩ := h
            simp only [Prod.mk.injEq] at h2
            obtain ⟨rfl, rfl⟩ := h2
            have := ih r (by simp at hl; omega) b1 m1 h1
            simp; omega
theorem tok_len {l : List UInt8} {t : Tk} (h : tok l = some t) : 1 ≤ t.len ∧ t.len ≤ l.length := by
  match l with
  | [] => simp [tok] at h
  | c :: r =>
    rw [tok] at h
    have hw := takeWhile_len (p := isAlnum) (c :: r)
    split at h
    · rename_i hc
      have h1 : 1 ≤ ((c :: r).takeWhile isAlnum).length := by rw [List.takeWhile_cons, if_pos (by simp [isAlnum, hc])]; simp
      unfold wordTok at h
      simp only at h
      split at h
      · simp only [Option.some.injEq] at h; subst h; exact ⟨h1, hw⟩
      · split at h
        · simp only [Option.some.injEq] at h; subst h; exact ⟨h1, hw⟩
        · simp at h
    · split at h
      · rename_i hc
        have h1 : 1 ≤ ((c :: r).takeWhile isAlnum).length := by rw [List.takeWhile_cons, if_pos (by simp [isAlnum, hc])]; simp
        unfold numTok at h
        simp only at h
        split at h
        · simp at h
        · rw [Option.map_eq_some_iff] at h
          obtain ⟨v, _, rfl⟩ := h
          exact ⟨h1, hw⟩
      · split at h
        · unfold strTok at h
          rw [Option.bind_eq_some_iff] at h
          obtain ⟨⟨b, m⟩, h1, h2⟩ := h
          have := strVal_len r.length r (Nat.le_refl _) b m h1
          simp only at h2
          split at h2
          · simp only [Option.some.injEq] at h2; subst h2; simp; omega
          · simp at h2
        · unfold signTok at h
          split at h
          · rename_i h2
            have h3 : ((c :: r).take 2).length = 2 := by
              have h4 := List.contains_iff_mem.1 h2
              generalize (c :: r).take 2 = x at h4
              simp only [doubles, List.mem_cons, List.not_mem_nil, or_false] at h4
              rcases h4 with rfl | rfl | rfl | rfl | rfl | rfl | rfl <;> rfl
            simp only [Option.some.injEq] at h; subst h
            simp only [List.length_take] at h3
            simp only; omega
          · simp only at h
            split at h
            · simp only [Option.some.injEq] at h; subst h; simp
            · simp at h
end Go.Proofs.Ytmmjhdhgohfioaa.Gx
