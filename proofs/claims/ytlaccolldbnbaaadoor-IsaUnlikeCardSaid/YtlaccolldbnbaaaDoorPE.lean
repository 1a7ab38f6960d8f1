/-
  PLAIN: an instruction's word, as the document's text has it.
-/
import Derived.Test.YtlaccolldbnbaaaDoorPU
import Derived.Test.YtlaccolldbnbaaaDoorE1
import Derived.Test.YtlaccolldbnbaaaDoorR2
namespace Go.Proofs.YtlaccolldbnbaaaDoor.Gx
open Go.RowKit Go.Proofs.YtlaccolldbnbaaaDoorW.PrintWords Go.Proofs.YtlaccolldbnbaaaDoorW.PrintLast
set_option linter.unusedVariables false
set_option linter.unusedSimpArgs false
theorem w64 {x : Int} (h0 : -9223372036854775808 ≤ x) (h1 : x ≤ 9223372036854775807) : wrap64 x = x := by unfold wrap64; omega
/-- May register a stand there? -/
def regOK (has : Bool) (a : Int) : Bool := a == 0 || (has && (decide (0 < a) && decide (a < 16)))
theorem may_eq (a : Int) (has : Bool) : isa_may.f a has = some (regOK has a) := by
  unfold isa_may.f regOK
  by_cases h : a = 0
  · rw [if_pos h]; simp [h]
  · rw [if_neg h]
    cases has with
    | false => simp [h]
    | true =>
      by_cases h2 : a > 0
      · simp [h, h2]
      · simp [h, h2]
theorem reg_eq (a : Int) (has : Bool) : mortiseref2_reg.f has a = some (regOK has a) := by
  unfold mortiseref2_reg.f regOK
  cases has with
  | false => simp
  | true =>
    by_cases h1 : a ≥ 0
    · by_cases h2 : a ≤ 15
      · simp [h1, h2]; omega
      · simp [h1, h2]; omega
    · simp [h1]; omega
theorem regOK_bound {has : Bool} {a : Int} (h : regOK has a = true) : 0 ≤ a ∧ a < 16 := by
  unfold regOK at h
  simp only [Bool.or_eq_true, beq_iff_eq, Bool.and_eq_true, decide_eq_true_iff] at h
  omega
def immOK (i : Bool) (m : Int) : Bool := if i then decide (-2147483648 ≤ m) && decide (m ≤ 2147483647) else m == 0
theorem immOK_bound {i : Bool} {m : Int} (h : immOK i m = true) : -2147483648 ≤ m ∧ m ≤ 2147483647 := by
  unfold immOK at h
  cases i with
  | false => simp at h; omega
  | true => simpa using h
def word (op a b c m : Int) : Int := op * 72057594037927936 + a * 4503599627370496 + b * 281474976710656 + c * 17592186044416 + m % 4294967296
/-- What Encode says. -/
def encS (op a b c m : Int) : Int × Int := match isa_of.f op with
  | some (_, u, i, true) => if regOK (u % 2 == 1) a && (regOK (u / 2 % 2 == 1) b && (regOK (decide (4 ≤ u)) c && immOK i m)) then (word op a b c m, 0) else (0, 4)
  | _ => (0, 4)
theorem of_yes {op : Int} (h : OpIs op) : ∃ n u i, isa_of.f op = some (n, u, i, true) ∧ (u = 0 ∨ u = 1 ∨ u = 3 ∨ u = 7) ∧ 0 ≤ op ∧ op ≤ 43 := by
  have hm := h.cases
  simp only [List.mem_cons, List.not_mem_nil, or_false] at hm
  rcases hm with rfl | rfl | rfl | rfl | rfl | rfl | rfl | rfl | rfl | rfl | rfl | rfl | rfl | rfl | rfl | rfl | rfl | rfl | rfl | rfl | rfl | rfl | rfl | rfl | rfl | rfl | rfl | rfl | rfl | rfl | rfl | rfl | rfl | rfl | rfl <;>
    exact ⟨_, _, _, rfl, by decide, by decide, by decide⟩
theorem wraps_i64 (n : Int) (h₀ : 0 ≤ n) (h₁ : n < 2 ^ 63) : IntKind.i64.wrap n = n := by rw [IntKind.wrap_i64]; omega
theorem isa_word (op a b c m : Int) (h0 : 0 ≤ op) (h1 : op ≤ 43) (ha : 0 ≤ a ∧ a < 16) (hb : 0 ≤ b ∧ b < 16) (hc : 0 ≤ c ∧ c < 16) :
    Go.bits .or .i64 (Go.bits .or .i64 (Go.bits .or .i64 (Go.bits .or .i64 (wrap64 (op * 72057594037927936)) (wrap64 (a * 4503599627370496))) (wrap64 (b * 281474976710656))) (wrap64 (c * 17592186044416))) (m % 4294967296) = word op a b c m := by
  rw [w64 (x := op * 72057594037927936) (by omega) (by omega), w64 (x := a * 4503599627370496) (by omega) (by omega), w64 (x := b * 281474976710656) (by omega) (by omega), w64 (x := c * 17592186044416) (by omega) (by omega)]
  rw [bits_join .i64 63 (by decide) wraps_i64 56 (op * 72057594037927936) (a * 4503599627370496) (by omega) (by omega) (by omega) (by omega) (by omega) (by omega)]
  rw [bits_join .i64 63 (by decide) wraps_i64 52 (op * 72057594037927936 + a * 4503599627370496) (b * 281474976710656) (by omega) (by omega) (by omega) (by omega) (by omega) (by omega)]
  rw [bits_join .i64 63 (by decide) wraps_i64 48 (op * 72057594037927936 + a * 4503599627370496 + b * 281474976710656) (c * 17592186044416) (by omega) (by omega) (by omega) (by omega) (by omega) (by omega)]
  rw [bits_join .i64 63 (by decide) wraps_i64 44 (op * 72057594037927936 + a * 4503599627370496 + b * 281474976710656 + c * 17592186044416) (m % 4294967296) (by omega) (by omega) (by omega) (by omega) (by omega) (by omega)]
  rfl
theorem isa_enc (op a b c m : Int) (k : Nat) : isa_Encode.f (k + 1) op a b c m = some (encS op a b c m) := by
  have jt : ∀ n u i, isa_Encode.j0 (k + 1) true op a b c m n u i = some (0, 4) := fun n u i => by rw [isa_Encode.j0, if_pos rfl]
  unfold isa_Encode.f encS
  by_cases h : OpIs op
  · obtain ⟨n, u, i, e, hu, h0, h1⟩ := of_yes h
    rw [e]
    simp only [Option.bind_some, if_true]
    have q1 : (Go.bits .and .i64 u 1 != 0) = (u % 2 == 1) := by rcases hu with rfl | rfl | rfl | rfl <;> kernel_rfl
    have q2 : (Go.bits .and .i64 u 2 != 0) = (u / 2 % 2 == 1) := by rcases hu with rfl | rfl | rfl | rfl <;> kernel_rfl
    have q4 : (Go.bits .and .i64 u 4 != 0) = decide (4 ≤ u) := by rcases hu with rfl | rfl | rfl | rfl <;> kernel_rfl
    rw [q1, q2, q4, may_eq, may_eq, may_eq]
    simp only [Option.bind_some]
    cases ra : regOK (u % 2 == 1) a with
    | false => simp [jt]
    | true =>
      cases rb : regOK (u / 2 % 2 == 1) b with
      | false => simp [jt]
      | true =>
        cases rc : regOK (decide (4 ≤ u)) c with
        | false => simp [jt]
        | true =>
          simp only [Bool.not_true, if_true, Bool.true_and]
          rw [isa_Encode.j0, if_neg (by simp), isa_word op a b c m h0 h1 (regOK_bound ra) (regOK_bound rb) (regOK_bound rc)]
          unfold immOK
          cases i with
          | true =>
            rw [if_pos rfl, if_pos rfl]
            by_cases m1 : m < -2147483648
            · rw [if_pos m1, if_neg (by simp; omega)]
            · rw [if_neg m1]
              by_cases m2 : m > 2147483647
              · rw [if_pos m2, if_neg (by simp; omega)]
              · rw [if_neg m2, if_pos (by simp; omega)]
          | false =>
            rw [if_neg (by simp)]
            by_cases m0 : m = 0
            · rw [if_pos m0, if_neg (by omega), if_neg (by omega), if_pos (by simp [m0])]
            · rw [if_neg m0, if_neg (by simp [m0])]
  · rw [of_none h]
    simp [jt]
theorem r2_word (op a b c l : Int) (h0 : 0 ≤ op) (h1 : op ≤ 43) (ha : 0 ≤ a ∧ a < 16) (hb : 0 ≤ b ∧ b < 16) (hc : 0 ≤ c ∧ c < 16) (hl : 0 ≤ l ∧ l < 4294967296) :
    wrap64 ((wrap64 ((wrap64 ((wrap64 ((wrap64 ((wrap64 (op * 16)) + a)) * 16)) + b)) * 16)) * 17592186044416) = op * 72057594037927936 + a * 4503599627370496 + b * 281474976710656 ∧
    wrap64 (wrap64 ((op * 72057594037927936 + a * 4503599627370496 + b * 281474976710656) + (wrap64 (c * 17592186044416))) + l) = op * 72057594037927936 + a * 4503599627370496 + b * 281474976710656 + c * 17592186044416 + l := by
  constructor
  · rw [w64 (x := op * 16) (by omega) (by omega), w64 (x := op * 16 + a) (by omega) (by omega), w64 (x := (op * 16 + a) * 16) (by omega) (by omega), w64 (x := (op * 16 + a) * 16 + b) (by omega) (by omega), w64 (x := ((op * 16 + a) * 16 + b) * 16) (by omega) (by omega), w64 (by omega) (by omega)]
    omega
  · rw [w64 (x := c * 17592186044416) (by omega) (by omega), w64 (x := op * 72057594037927936 + a * 4503599627370496 + b * 281474976710656 + c * 17592186044416) (by omega) (by omega), w64 (by omega) (by omega)]
theorem r2_enc (op a b c m : Int) (k : Nat) : mortiseref2_Encode.f (k + 6) op a b c m = some (encS op a b c m) := by
  have jt : ∀ i, mortiseref2_Encode.j0 (k + 6) i true op a b c m = some (0, 4) := fun i => by rw [mortiseref2_Encode.j0, if_pos rfl]
  have kt : mortiseref2_Encode.j1 (k + 5) true op a b c m = some (0, 4) := by rw [mortiseref2_Encode.j1, if_pos rfl]
  unfold mortiseref2_Encode.f encS
  rw [uses_eq]
  unfold isa_Uses.f
  by_cases h : OpIs op
  · obtain ⟨n, u, i, e, hu, h0, h1⟩ := of_yes h
    rw [e]
    simp only [Option.bind_some, if_true]
    have q1 : (Int.tmod u 2 == 1) = (u % 2 == 1) := by rcases hu with rfl | rfl | rfl | rfl <;> kernel_rfl
    have q2 : (Int.tmod (wrap64 (Int.tdiv u 2)) 2 == 1) = (u / 2 % 2 == 1) := by rcases hu with rfl | rfl | rfl | rfl <;> kernel_rfl
    have q4 : decide (u ≥ 4) = decide (4 ≤ u) := rfl
    rw [q1, q2, q4, reg_eq, reg_eq, reg_eq]
    simp only [Option.bind_some]
    cases ra : regOK (u % 2 == 1) a with
    | false => simp [jt]
    | true =>
      cases rb : regOK (u / 2 % 2 == 1) b with
      | false => simp [jt]
      | true =>
        cases rc : regOK (decide (4 ≤ u)) c with
        | false => simp [jt]
        | true =>
          simp only [Bool.not_true, if_true, Bool.true_and]
          have fin : immOK i m = true → mortiseref2_Encode.j1 (k + 5) false op a b c m = some (word op a b c m, 0) := by
            intro hi
            have hb := immOK_bound hi
            rw [mortiseref2_Encode.j1, if_neg (by simp)]
            obtain ⟨g1, _⟩ := r2_word op a b c 0 h0 h1 (regOK_bound ra) (regOK_bound rb) (regOK_bound rc) (by omega)
            rw [g1]
            clear g1
            unfold word
            by_cases hm : m < 0
            · have e1 : m % 4294967296 = m + 4294967296 := by omega
              rw [if_pos hm, w64 (x := m + 4294967296) (by omega) (by omega), (r2_word op a b c (m + 4294967296) h0 h1 (regOK_bound ra) (regOK_bound rb) (regOK_bound rc) (by omega)).2, e1]
            · have e1 : m % 4294967296 = m := by omega
              rw [if_neg hm, (r2_word op a b c m h0 h1 (regOK_bound ra) (regOK_bound rb) (regOK_bound rc) (by omega)).2, e1]
          rw [mortiseref2_Encode.j0, if_neg (by simp)]
          cases hi : immOK i m with
          | true =>
            rw [if_pos rfl]
            have hb := immOK_bound hi
            cases i with
            | true => rw [if_pos rfl, if_neg (by omega), if_neg (by omega), fin hi]
            | false =>
              have hm : m = 0 := by simpa [immOK] using hi
              rw [if_neg (by simp), show (m != 0) = false from by simp [hm], fin hi]
          | false =>
            rw [if_neg (show ¬ (false = true) by simp)]
            cases i with
            | true =>
              have hm : m < -2147483648 ∨ m > 2147483647 := by
                simp [immOK] at hi
                omega
              rw [if_pos rfl]
              by_cases m1 : m < -2147483648
              · rw [if_pos m1, kt]
              · rw [if_neg m1, if_pos (by omega), kt]
            | false =>
              have hm : ¬ m = 0 := by simpa [immOK] using hi
              rw [if_neg (by simp), show (m != 0) = true from by simp [hm], kt]
  · rw [of_none h]
    simp [jt]
end Go.Proofs.YtlaccolldbnbaaaDoor.Gx
