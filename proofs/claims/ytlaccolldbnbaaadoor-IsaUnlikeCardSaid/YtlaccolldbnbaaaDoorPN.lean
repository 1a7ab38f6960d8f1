/-
  PLAIN: a number in digits: the document's loop is the library's numeral.
-/
import Derived.Test.YtlaccolldbnbaaaDoorPE
import Derived.Test.YtlaccolldbnbaaaDoorR3
import Derived.Test.YtlaccolldbnbaaaDoorSH
namespace Go.Proofs.YtlaccolldbnbaaaDoor.Gx
open Go.RowKit Go.Proofs.YtlaccolldbnbaaaDoorW.PrintWords Go.Proofs.YtlaccolldbnbaaaDoorW.PrintLast
set_option linter.unusedVariables false
set_option linter.unusedSimpArgs false
/-- The string of these bytes. -/
def B (l : List UInt8) : ByteArray := ⟨l.toArray⟩
theorem B_app (a b : List UInt8) : B a ++ B b = B (a ++ b) := by
  apply ByteArray.ext
  simp [B]
theorem B_size (l : List UInt8) : (B l).size = l.length := by simp [B, ByteArray.size]
theorem B_of (s : ByteArray) : s = B s.data.toList := by
  apply ByteArray.ext
  simp [B]
theorem B_data (l : List UInt8) : (B l).data.toList = l := by simp [B]
theorem B_inj {a b : List UInt8} (h : B a = B b) : a = b := by rw [← B_data a, ← B_data b, h]
theorem len_digits : ∀ (d u : Nat), u < 10 ^ (d + 1) → (Lib.decDigits u).length ≤ d + 1
  | 0, u, h => by rw [Lib.decDigits, dif_pos (by simpa using h)]; simp
  | d + 1, u, h => by
    rw [Lib.decDigits]
    split
    · simp
    · have := len_digits d (u / 10) (by rw [Nat.pow_succ] at h; omega)
      simp
      omega
theorem len_itoa {n : Int} (h0 : -9223372036854775808 ≤ n) (h1 : n ≤ 9223372036854775807) : (Lib.itoa n).length ≤ 20 := by
  unfold Lib.itoa
  split
  · have := len_digits 18 n.natAbs (by omega)
    simp
    omega
  · have := len_digits 18 n.toNat (by omega)
    omega
/-- The digits; none for 0. -/
def dd (n : Nat) : List UInt8 := if n = 0 then [] else Lib.decDigits n
theorem dd_step {n : Nat} (h : n ≠ 0) : dd n = dd (n / 10) ++ [UInt8.ofNat (48 + n % 10)] := by
  unfold dd
  rw [if_neg h, Lib.decDigits]
  by_cases h10 : n < 10
  · rw [dif_pos h10, if_pos (by omega), Nat.mod_eq_of_lt h10]
    rfl
  · rw [dif_neg h10, if_neg (by omega)]
theorem strOf_digit (x : Int) (n : Nat) (h : x = ((48 + n % 10 : Nat) : Int)) : strOfNums [x % 256] = B [UInt8.ofNat (48 + n % 10)] := by
  have e : (x % 256).toNat = 48 + n % 10 := by omega
  unfold strOfNums B
  rw [List.map_cons, List.map_nil, e]
theorem num_l0 : ∀ (d k : Nat) (x0 m : Int) (l : List UInt8), m.natAbs < 10 ^ d → d < k → l.length + d ≤ 100 → -9223372036854775808 ≤ m → m ≤ 9223372036854775807 →
    mortiseref2_Number.l0 k x0 (B l) m = some (B ((if x0 < 0 then [45] else []) ++ (dd m.natAbs ++ l))) := by
  intro d
  induction d with
  | zero =>
    intro k x0 m l h hk hl _ _
    obtain ⟨k, rfl⟩ : ∃ j, k = j + 1 := ⟨k - 1, by omega⟩
    obtain rfl : m = 0 := by have : m.natAbs < 1 := by simpa using h
                             omega
    rw [mortiseref2_Number.l0, if_pos rfl]
    by_cases hx : x0 < 0
    · rw [if_pos hx, if_pos (by rw [B_size]; omega), if_pos hx, show (⟨#[45]⟩ : ByteArray) = B [45] from rfl, B_app]
      rfl
    · rw [if_neg hx, if_neg hx]
      rfl
  | succ d ih =>
    intro k x0 m l h hk hl hm0 hm1
    obtain ⟨k, rfl⟩ : ∃ j, k = j + 1 := ⟨k - 1, by omega⟩
    rw [mortiseref2_Number.l0]
    by_cases hz : m = 0
    · subst hz
      rw [if_pos rfl]
      by_cases hx : x0 < 0
      · rw [if_pos hx, if_pos (by rw [B_size]; omega), if_pos hx, show (⟨#[45]⟩ : ByteArray) = B [45] from rfl, B_app]
        rfl
      · rw [if_neg hx, if_neg hx]
        rfl
    · rw [if_neg hz]
      have step : ∀ (x y : Int), x = ((48 + m.natAbs % 10 : Nat) : Int) → y.natAbs = m.natAbs / 10 → -9223372036854775808 ≤ y → y ≤ 9223372036854775807 →
          ((some ([x % 256] : List Int)).bind fun y173 => (if (strOfNums y173).size + (B l).size ≤ 9223372036854775807 then (mortiseref2_Number.l0 k x0 ((strOfNums y173) ++ B l) y) else (none))) = some (B ((if x0 < 0 then [45] else []) ++ (dd m.natAbs ++ l))) := by
        intro x y hx hy hy0 hy1
        rw [Option.bind_some, strOf_digit x m.natAbs hx, if_pos (by rw [B_size, B_size]; simp; omega), B_app, ih k x0 y _ (by rw [hy]; rw [Nat.pow_succ] at h; omega) (by omega) (by simp; omega) hy0 hy1, hy, dd_step (n := m.natAbs) (by omega), List.append_assoc]
      have td : ∀ z : Int, 0 ≤ z → Int.tdiv z 10 = z / 10 := fun z hz => Int.tdiv_eq_ediv_of_nonneg hz
      have tm : ∀ z : Int, 0 ≤ z → Int.tmod z 10 = z % 10 := fun z hz => Int.tmod_eq_emod_of_nonneg hz
      by_cases hp : 0 ≤ m
      · rw [tm m hp, td m hp, if_neg (by omega)]
        refine step _ _ ?_ ?_ ?_ ?_
        · rw [w64 (by omega) (by omega)]; omega
        · rw [w64 (by omega) (by omega)]; omega
        · rw [w64 (by omega) (by omega)]; omega
        · rw [w64 (by omega) (by omega)]; omega
      · obtain ⟨z, rfl⟩ : ∃ z, m = -z := ⟨-m, by omega⟩
        rw [Int.neg_tmod, Int.neg_tdiv, tm z (by omega), td z (by omega)]
        by_cases h0 : -(z % 10) < 0
        · rw [if_pos h0]
          refine step _ _ ?_ ?_ ?_ ?_
          · rw [w64 (x := - -(z % 10)) (by omega) (by omega), w64 (by omega) (by omega)]; omega
          · rw [w64 (by omega) (by omega)]; omega
          · rw [w64 (by omega) (by omega)]; omega
          · rw [w64 (by omega) (by omega)]; omega
        · rw [if_neg h0]
          refine step _ _ ?_ ?_ ?_ ?_
          · rw [w64 (by omega) (by omega)]; omega
          · rw [w64 (by omega) (by omega)]; omega
          · rw [w64 (by omega) (by omega)]; omega
          · rw [w64 (by omega) (by omega)]; omega
theorem r2_number (k : Nat) (a : Int) (h0 : -9223372036854775808 ≤ a) (h1 : a ≤ 9223372036854775807) : mortiseref2_Number.f (k + 20) a = some (B (Lib.itoa a)) := by
  unfold mortiseref2_Number.f
  by_cases hz : a = 0
  · subst hz
    rw [if_pos rfl]
    unfold Lib.itoa
    rw [if_neg (by omega), show (0 : Int).toNat = 0 from rfl, Lib.decDigits_one (by omega)]
    rfl
  · rw [if_neg hz, show (⟨#[]⟩ : ByteArray) = B [] from rfl, num_l0 19 (k + 20) a a [] (by omega) (by omega) (by simp) h0 h1]
    unfold Lib.itoa dd
    rw [List.append_nil]
    have hz' : ¬ a.natAbs = 0 := by omega
    by_cases hn : a < 0
    · rw [if_pos hn, if_pos hn, if_neg hz']; rfl
    · rw [if_neg hn, if_neg hn, if_neg hz', show a.natAbs = a.toNat by omega]; rfl
theorem itoa_23 (a : Int) (h0 : 0 ≤ a) (h1 : a < 16) : strconv_Itoa_23.f a = some (B (Lib.itoa a)) := by
  unfold strconv_Itoa_23.f Lib.itoa
  rw [if_pos (by omega), if_neg (by omega)]
  rfl
theorem format_24 (a : Int) (h0 : -9223372036854775808 ≤ a) (h1 : a ≤ 9223372036854775807) : strconv_FormatInt_24.f a 10 = some (B (Lib.itoa a)) := by
  unfold strconv_FormatInt_24.f
  rw [if_pos ⟨⟨h0, h1⟩, rfl⟩]
  rfl
end Go.Proofs.YtlaccolldbnbaaaDoor.Gx
