/-
  PLAIN: the instruction of a word, as the document's text has it.
-/
import Derived.Test.YtlaccolldbnbaaaDoorPE
import Derived.Test.YtlaccolldbnbaaaDoorDE
import Derived.Test.YtlaccolldbnbaaaDoorR5
namespace Go.Proofs.YtlaccolldbnbaaaDoor.Gx
open Go.RowKit Go.Proofs.YtlaccolldbnbaaaDoorW.PrintWords Go.Proofs.YtlaccolldbnbaaaDoorW.PrintLast
set_option linter.unusedVariables false
set_option linter.unusedSimpArgs false
/-- The low 32 bits as a number with a sign. -/
def lowS (v : Int) : Int := (v + 2147483648) % 4294967296 - 2147483648
/-- What Decode says. -/
def decS (v : Int) : Int × Int × Int × Int × Int × Int :=
  if 0 ≤ v ∧ encS (v / 72057594037927936) (v / 4503599627370496 % 16) (v / 281474976710656 % 16) (v / 17592186044416 % 16) (lowS v) = (v, 0) then
    (v / 72057594037927936, v / 4503599627370496 % 16, v / 281474976710656 % 16, v / 17592186044416 % 16, lowS v, 0) else (0, 0, 0, 0, 0, 4)
theorem encS_two (op a b c m : Int) : (encS op a b c m).2 = 0 ∨ (encS op a b c m).2 = 4 := by
  unfold encS
  split
  · split
    · exact Or.inl rfl
    · exact Or.inr rfl
  · exact Or.inr rfl
theorem wraps_u64' (n : Int) (h₀ : 0 ≤ n) (h₁ : n < 2 ^ 64) : IntKind.u64.wrap n = n := by
  rw [show IntKind.u64.wrap n = n % 18446744073709551616 by simp [IntKind.wrap, IntKind.bits, IntKind.signed]]
  omega
theorem u64_and15 {x : Int} (h₀ : 0 ≤ x) (h₁ : x < 18446744073709551616) : Go.bits .and .u64 x 15 = x % 16 :=
  bits_mask .u64 64 (by decide) wraps_u64' 4 (by decide) x h₀ (by simpa using h₁)
theorem isa_dec (k : Nat) (v : Int) (hv0 : -9223372036854775808 ≤ v) (hv1 : v ≤ 9223372036854775807) : isa_Decode.f (k + 1) v = some (decS v) := by
  have hu : IntKind.u64.wrap v = v % 18446744073709551616 := by simp [IntKind.wrap, IntKind.bits, IntKind.signed]
  unfold isa_Decode.f decS
  rw [hu]
  obtain ⟨u, hu1, hu2, hu3, hu4⟩ : ∃ u, v % 18446744073709551616 = u ∧ 0 ≤ u ∧ u < 18446744073709551616 ∧ (0 ≤ v → u = v) ∧ True := ⟨_, rfl, by omega, by omega, by omega, trivial⟩
  rw [hu1, u64_and15 (by omega) (by omega), u64_and15 (by omega) (by omega), u64_and15 (by omega) (by omega)]
  rw [w64 (x := u / 72057594037927936) (by omega) (by omega), w64 (x := u / 4503599627370496 % 16) (by omega) (by omega), w64 (x := u / 281474976710656 % 16) (by omega) (by omega), w64 (x := u / 17592186044416 % 16) (by omega) (by omega)]
  have e5 : wrap64 (wrap32 u) = lowS u := by
    unfold Go.RowKit.wrap32 lowS
    rw [w64 (by omega) (by omega)]
  rw [e5, isa_enc, Option.bind_some]
  by_cases hv : 0 ≤ v
  · obtain rfl := hu4.1 hv
    rcases h : encS (u / 72057594037927936) (u / 4503599627370496 % 16) (u / 281474976710656 % 16) (u / 17592186044416 % 16) (lowS u) with ⟨x, y⟩
    simp only [Prod.mk.injEq]
    by_cases hy : y = 0
    · by_cases hx : x = u
      · rw [if_pos hy, if_pos hx, if_pos ⟨hv, hx, hy⟩]
      · rw [if_pos hy, if_neg hx, if_neg (fun q => hx q.2.1)]
    · rw [if_neg hy, if_neg (fun q => hy q.2.2)]
  · rw [if_neg (show ¬ (0 ≤ v ∧ encS (v / 72057594037927936) (v / 4503599627370496 % 16) (v / 281474976710656 % 16) (v / 17592186044416 % 16) (lowS v) = (v, 0)) from fun q => hv q.1)]
    have hno : encS (u / 72057594037927936) (u / 4503599627370496 % 16) (u / 281474976710656 % 16) (u / 17592186044416 % 16) (lowS u) = (0, 4) := by
      unfold encS
      rw [of_none (by unfold OpIs; omega)]
    rw [hno]
    rfl
theorem r2_dec (k : Nat) (v : Int) (hv0 : -9223372036854775808 ≤ v) (hv1 : v ≤ 9223372036854775807) : mortiseref2_Decode.f (k + 6) v = some (decS v) := by
  unfold mortiseref2_Decode.f decS
  by_cases hv : v < 0
  · rw [if_pos hv, if_neg (fun q => absurd q.1 (by omega))]
  · rw [if_neg hv]
    have d1 : Int.tdiv v 17592186044416 = v / 17592186044416 := Int.tdiv_eq_ediv_of_nonneg (by omega)
    have m1 : Int.tmod v 4294967296 = v % 4294967296 := Int.tmod_eq_emod_of_nonneg (by omega)
    rw [d1, m1, w64 (x := v / 17592186044416) (by omega) (by omega)]
    have d2 : Int.tdiv (v / 17592186044416) 4096 = v / 72057594037927936 := by rw [Int.tdiv_eq_ediv_of_nonneg (by omega)]; omega
    have d3 : Int.tdiv (v / 17592186044416) 256 = v / 4503599627370496 := by rw [Int.tdiv_eq_ediv_of_nonneg (by omega)]; omega
    have d4 : Int.tdiv (v / 17592186044416) 16 = v / 281474976710656 := by rw [Int.tdiv_eq_ediv_of_nonneg (by omega)]; omega
    have m5 : Int.tmod (v / 17592186044416) 16 = v / 17592186044416 % 16 := Int.tmod_eq_emod_of_nonneg (by omega)
    rw [d2, d3, d4, m5, w64 (x := v / 72057594037927936) (by omega) (by omega), w64 (x := v / 4503599627370496) (by omega) (by omega), w64 (x := v / 281474976710656) (by omega) (by omega)]
    have m3 : Int.tmod (v / 4503599627370496) 16 = v / 4503599627370496 % 16 := Int.tmod_eq_emod_of_nonneg (by omega)
    have m4 : Int.tmod (v / 281474976710656) 16 = v / 281474976710656 % 16 := Int.tmod_eq_emod_of_nonneg (by omega)
    rw [m3, m4]
    have fin : ∀ m, m = lowS v → ((mortiseref2_Encode.f (k + 6) (v / 72057594037927936) (v / 4503599627370496 % 16) (v / 281474976710656 % 16) (v / 17592186044416 % 16) m).bind fun bt225 => (if bt225.2 = 0 then (if bt225.1 = v then (some (v / 72057594037927936, v / 4503599627370496 % 16, v / 281474976710656 % 16, v / 17592186044416 % 16, m, (0 : Int))) else (some (0, 0, 0, 0, 0, 4))) else (some (0, 0, 0, 0, 0, 4)))) =
        some (if 0 ≤ v ∧ encS (v / 72057594037927936) (v / 4503599627370496 % 16) (v / 281474976710656 % 16) (v / 17592186044416 % 16) (lowS v) = (v, 0) then
          (v / 72057594037927936, v / 4503599627370496 % 16, v / 281474976710656 % 16, v / 17592186044416 % 16, lowS v, 0) else (0, 0, 0, 0, 0, 4)) := by
      rintro m rfl
      rw [r2_enc, Option.bind_some]
      rcases h : encS (v / 72057594037927936) (v / 4503599627370496 % 16) (v / 281474976710656 % 16) (v / 17592186044416 % 16) (lowS v) with ⟨x, y⟩
      simp only [Prod.mk.injEq]
      by_cases hy : y = 0
      · by_cases hx : x = v
        · rw [if_pos hy, if_pos hx, if_pos ⟨by omega, hx, hy⟩]
        · rw [if_pos hy, if_neg hx, if_neg (fun q => hx q.2.1)]
      · rw [if_neg hy, if_neg (fun q => hy q.2.2)]
    by_cases hl : v % 4294967296 > 2147483647
    · rw [if_pos hl, w64 (x := v % 4294967296 - 4294967296) (by omega) (by omega)]
      exact fin _ (by unfold lowS; omega)
    · rw [if_neg hl]
      exact fin _ (by unfold lowS; omega)
end Go.Proofs.YtlaccolldbnbaaaDoor.Gx
