/-
  Written by a program for this claim: Go functions as plain functions, and that the machine's calls do just what these say.
-/
import Derived.Test.YtmmjhdhgohfioaaA0
namespace Go.Proofs.Ytmmjhdhgohfioaa.Gx
open Go.RowKit Go.Proofs.YtmmjhdhgohfioaaW.PrintWords Go.Proofs.YtmmjhdhgohfioaaW.PrintLast Go.Proofs.YtmmjhdhgohfioaaW.PrintMore
attribute [local go_sem] max2_int min2_int max_two min_two max_three min_three max_four min_four
set_option linter.unusedVariables false
set_option linter.unusedSimpArgs false

/-! ### mortiseref4_sign: function 37 -/
def mortiseref4_sign.j0 : Nat → ByteArray → Int → Option (ByteArray)
  | 0, _, _ => none
  | k + 1, x0, x1 => if 0 ≤ x1 then (if x1 < (x0.size : Int) then (if (bt x0 x1) = 40 then (if x1 ≤ (wrap64 (x1 + 1)) then (if (wrap64 (x1 + 1)) ≤ (x0.size : Int) then (some (x0.extract (x1 : Int).toNat ((wrap64 (x1 + 1)) : Int).toNat)) else (none)) else (none)) else (if (bt x0 x1) = 41 then (if x1 ≤ (wrap64 (x1 + 1)) then (if (wrap64 (x1 + 1)) ≤ (x0.size : Int) then (some (x0.extract (x1 : Int).toNat ((wrap64 (x1 + 1)) : Int).toNat)) else (none)) else (none)) else (if (bt x0 x1) = 91 then (if x1 ≤ (wrap64 (x1 + 1)) then (if (wrap64 (x1 + 1)) ≤ (x0.size : Int) then (some (x0.extract (x1 : Int).toNat ((wrap64 (x1 + 1)) : Int).toNat)) else (none)) else (none)) else (if (bt x0 x1) = 93 then (if x1 ≤ (wrap64 (x1 + 1)) then (if (wrap64 (x1 + 1)) ≤ (x0.size : Int) then (some (x0.extract (x1 : Int).toNat ((wrap64 (x1 + 1)) : Int).toNat)) else (none)) else (none)) else (if (bt x0 x1) = 123 then (if x1 ≤ (wrap64 (x1 + 1)) then (if (wrap64 (x1 + 1)) ≤ (x0.size : Int) then (some (x0.extract (x1 : Int).toNat ((wrap64 (x1 + 1)) : Int).toNat)) else (none)) else (none)) else (if (bt x0 x1) = 125 then (if x1 ≤ (wrap64 (x1 + 1)) then (if (wrap64 (x1 + 1)) ≤ (x0.size : Int) then (some (x0.extract (x1 : Int).toNat ((wrap64 (x1 + 1)) : Int).toNat)) else (none)) else (none)) else (if (bt x0 x1) = 44 then (if x1 ≤ (wrap64 (x1 + 1)) then (if (wrap64 (x1 + 1)) ≤ (x0.size : Int) then (some (x0.extract (x1 : Int).toNat ((wrap64 (x1 + 1)) : Int).toNat)) else (none)) else (none)) else (if (bt x0 x1) = 59 then (if x1 ≤ (wrap64 (x1 + 1)) then (if (wrap64 (x1 + 1)) ≤ (x0.size : Int) then (some (x0.extract (x1 : Int).toNat ((wrap64 (x1 + 1)) : Int).toNat)) else (none)) else (none)) else (if (bt x0 x1) = 46 then (if x1 ≤ (wrap64 (x1 + 1)) then (if (wrap64 (x1 + 1)) ≤ (x0.size : Int) then (some (x0.extract (x1 : Int).toNat ((wrap64 (x1 + 1)) : Int).toNat)) else (none)) else (none)) else (if (bt x0 x1) = 58 then (if x1 ≤ (wrap64 (x1 + 1)) then (if (wrap64 (x1 + 1)) ≤ (x0.size : Int) then (some (x0.extract (x1 : Int).toNat ((wrap64 (x1 + 1)) : Int).toNat)) else (none)) else (none)) else (if (bt x0 x1) = 61 then (if x1 ≤ (wrap64 (x1 + 1)) then (if (wrap64 (x1 + 1)) ≤ (x0.size : Int) then (some (x0.extract (x1 : Int).toNat ((wrap64 (x1 + 1)) : Int).toNat)) else (none)) else (none)) else (if (bt x0 x1) = 60 then (if x1 ≤ (wrap64 (x1 + 1)) then (if (wrap64 (x1 + 1)) ≤ (x0.size : Int) then (some (x0.extract (x1 : Int).toNat ((wrap64 (x1 + 1)) : Int).toNat)) else (none)) else (none)) else (if (bt x0 x1) = 62 then (if x1 ≤ (wrap64 (x1 + 1)) then (if (wrap64 (x1 + 1)) ≤ (x0.size : Int) then (some (x0.extract (x1 : Int).toNat ((wrap64 (x1 + 1)) : Int).toNat)) else (none)) else (none)) else (if (bt x0 x1) = 43 then (if x1 ≤ (wrap64 (x1 + 1)) then (if (wrap64 (x1 + 1)) ≤ (x0.size : Int) then (some (x0.extract (x1 : Int).toNat ((wrap64 (x1 + 1)) : Int).toNat)) else (none)) else (none)) else (if (bt x0 x1) = 45 then (if x1 ≤ (wrap64 (x1 + 1)) then (if (wrap64 (x1 + 1)) ≤ (x0.size : Int) then (some (x0.extract (x1 : Int).toNat ((wrap64 (x1 + 1)) : Int).toNat)) else (none)) else (none)) else (if (bt x0 x1) = 42 then (if x1 ≤ (wrap64 (x1 + 1)) then (if (wrap64 (x1 + 1)) ≤ (x0.size : Int) then (some (x0.extract (x1 : Int).toNat ((wrap64 (x1 + 1)) : Int).toNat)) else (none)) else (none)) else (if (bt x0 x1) = 47 then (if x1 ≤ (wrap64 (x1 + 1)) then (if (wrap64 (x1 + 1)) ≤ (x0.size : Int) then (some (x0.extract (x1 : Int).toNat ((wrap64 (x1 + 1)) : Int).toNat)) else (none)) else (none)) else (if (bt x0 x1) = 37 then (if x1 ≤ (wrap64 (x1 + 1)) then (if (wrap64 (x1 + 1)) ≤ (x0.size : Int) then (some (x0.extract (x1 : Int).toNat ((wrap64 (x1 + 1)) : Int).toNat)) else (none)) else (none)) else (if (bt x0 x1) = 33 then (if x1 ≤ (wrap64 (x1 + 1)) then (if (wrap64 (x1 + 1)) ≤ (x0.size : Int) then (some (x0.extract (x1 : Int).toNat ((wrap64 (x1 + 1)) : Int).toNat)) else (none)) else (none)) else (if (bt x0 x1) = 38 then (if x1 ≤ (wrap64 (x1 + 1)) then (if (wrap64 (x1 + 1)) ≤ (x0.size : Int) then (some (x0.extract (x1 : Int).toNat ((wrap64 (x1 + 1)) : Int).toNat)) else (none)) else (none)) else (some (⟨#[]⟩ : ByteArray)))))))))))))))))))))) else (none)) else (none)
def mortiseref4_sign.f (k : Nat) (a0 : ByteArray) (a1 : Int) : Option (ByteArray) := if (wrap64 (a1 + 1)) < (a0.size : Int) then (if 0 ≤ a1 then (if a1 ≤ (wrap64 (a1 + 2)) then (if (wrap64 (a1 + 2)) ≤ (a0.size : Int) then (if (a0.extract (a1 : Int).toNat ((wrap64 (a1 + 2)) : Int).toNat).toList = ([58, 61] : List UInt8) then (some (a0.extract (a1 : Int).toNat ((wrap64 (a1 + 2)) : Int).toNat)) else (if (a0.extract (a1 : Int).toNat ((wrap64 (a1 + 2)) : Int).toNat).toList = ([61, 61] : List UInt8) then (some (a0.extract (a1 : Int).toNat ((wrap64 (a1 + 2)) : Int).toNat)) else (if (a0.extract (a1 : Int).toNat ((wrap64 (a1 + 2)) : Int).toNat).toList = ([33, 61] : List UInt8) then (some (a0.extract (a1 : Int).toNat ((wrap64 (a1 + 2)) : Int).toNat)) else (if (a0.extract (a1 : Int).toNat ((wrap64 (a1 + 2)) : Int).toNat).toList = ([60, 61] : List UInt8) then (some (a0.extract (a1 : Int).toNat ((wrap64 (a1 + 2)) : Int).toNat)) else (if (a0.extract (a1 : Int).toNat ((wrap64 (a1 + 2)) : Int).toNat).toList = ([62, 61] : List UInt8) then (some (a0.extract (a1 : Int).toNat ((wrap64 (a1 + 2)) : Int).toNat)) else (if (a0.extract (a1 : Int).toNat ((wrap64 (a1 + 2)) : Int).toNat).toList = ([38, 38] : List UInt8) then (some (a0.extract (a1 : Int).toNat ((wrap64 (a1 + 2)) : Int).toNat)) else (if (a0.extract (a1 : Int).toNat ((wrap64 (a1 + 2)) : Int).toNat).toList = ([124, 124] : List UInt8) then (some (a0.extract (a1 : Int).toNat ((wrap64 (a1 + 2)) : Int).toNat)) else (mortiseref4_sign.j0 k a0 a1)))))))) else (none)) else (none)) else (none)) else (mortiseref4_sign.j0 k a0 a1)
theorem mortiseref4_sign.mono_l : ∀ k, (∀ y0 y1, LeO (mortiseref4_sign.j0 k y0 y1) (mortiseref4_sign.j0 (k + 1) y0 y1))
  | 0 => fun _ _ r h => by simp [mortiseref4_sign.j0] at h
  | k + 1 => by
    have ih0 := mortiseref4_sign.mono_l k
    · intro y0 y1
      unfold mortiseref4_sign.j0
      repeat' first
      | (with_reducible exact ih0 _ _)
      | (with_reducible exact LeO.refl _)
      | (with_reducible exact LeO.none _)
      | (with_reducible refine LeO.ite ?_ ?_)
      | (with_reducible refine LeO.bind ?_ (fun _ => ?_))
      | exact ih0 _ _
      | exact LeO.none _
      | refine LeO.ite ?_ ?_
      | refine LeO.bind ?_ (fun _ => ?_)
theorem mortiseref4_sign.mono : ∀ a0 a1 k, LeO (mortiseref4_sign.f k a0 a1) (mortiseref4_sign.f (k + 1) a0 a1) := by
  intro a0 a1 k
  have ih0 := mortiseref4_sign.mono_l k
  unfold mortiseref4_sign.f
  repeat' first
      | (with_reducible exact ih0 _ _)
      | (with_reducible exact LeO.refl _)
      | (with_reducible exact LeO.none _)
      | (with_reducible refine LeO.ite ?_ ?_)
      | (with_reducible refine LeO.bind ?_ (fun _ => ?_))
      | exact ih0 _ _
      | exact LeO.none _
      | refine LeO.ite ?_ ?_
      | refine LeO.bind ?_ (fun _ => ?_)
set_option maxHeartbeats 8000000 in
set_option maxRecDepth 100000 in
theorem mortiseref4_sign.calls (k : Nat) (a0 : ByteArray) (a1 : Int) (r : ByteArray) (w : World) (h : mortiseref4_sign.f k a0 a1 = some r) :
    Calls Try.prog 37 #[.string a0, .int .i64 a1] w fun e w' => e = .returned (.string r) ∧ Drawn0 w w' := by
  have H : (if (wrap64 (a1 + 1)) < (a0.size : Int) then (if 0 ≤ a1 then (if a1 ≤ (wrap64 (a1 + 2)) then (if (wrap64 (a1 + 2)) ≤ (a0.size : Int) then (if (a0.extract (a1 : Int).toNat ((wrap64 (a1 + 2)) : Int).toNat).toList = ([58, 61] : List UInt8) then (some (a0.extract (a1 : Int).toNat ((wrap64 (a1 + 2)) : Int).toNat)) else (if (a0.extract (a1 : Int).toNat ((wrap64 (a1 + 2)) : Int).toNat).toList = ([61, 61] : List UInt8) then (some (a0.extract (a1 : Int).toNat ((wrap64 (a1 + 2)) : Int).toNat)) else (if (a0.extract (a1 : Int).toNat ((wrap64 (a1 + 2)) : Int).toNat).toList = ([33, 61] : List UInt8) then (some (a0.extract (a1 : Int).toNat ((wrap64 (a1 + 2)) : Int).toNat)) else (if (a0.extract (a1 : Int).toNat ((wrap64 (a1 + 2)) : Int).toNat).toList = ([60, 61] : List UInt8) then (some (a0.extract (a1 : Int).toNat ((wrap64 (a1 + 2)) : Int).toNat)) else (if (a0.extract (a1 : Int).toNat ((wrap64 (a1 + 2)) : Int).toNat).toList = ([62, 61] : List UInt8) then (some (a0.extract (a1 : Int).toNat ((wrap64 (a1 + 2)) : Int).toNat)) else (if (a0.extract (a1 : Int).toNat ((wrap64 (a1 + 2)) : Int).toNat).toList = ([38, 38] : List UInt8) then (some (a0.extract (a1 : Int).toNat ((wrap64 (a1 + 2)) : Int).toNat)) else (if (a0.extract (a1 : Int).toNat ((wrap64 (a1 + 2)) : Int).toNat).toList = ([124, 124] : List UInt8) then (some (a0.extract (a1 : Int).toNat ((wrap64 (a1 + 2)) : Int).toNat)) else (mortiseref4_sign.j0 k a0 a1)))))))) else (none)) else (none)) else (none)) else (mortiseref4_sign.j0 k a0 a1)) = some r := h
  clear h
  have HC3 := Aside0.mk H
  clear H
  go_enter Try.func37, Try.ntmps37
  go_upto_if 9 with (fail)
  go_cut [] (fun wc => ∃ (kq : Nat), Aside0 (mortiseref4_sign.j0 kq a0 a1 = some r) ∧ Aside0 (kq ≤ k) ∧ Drawn0 w wc)
  case first =>
    have H := HC3.out
    clear HC3
    by_cases c4 : (wrap64 (a1 + 1)) < (a0.size : Int)
    · rw [if_pos c4] at H
      have c4b0 : decide ((wrap64 (a1 + 1)) < (a0.size : Int)) = true := decide_eq_true c4
      clear c4
      (first | rw [c4b0] | (simp only [i64_w, i32_w]; rw [c4b0]) | skip)
      by_cases c5 : 0 ≤ a1
      · rw [if_pos c5] at H
        have c5b0 := eq_true c5
        have c5b1 : decide (0 ≤ a1) = true := decide_eq_true c5
        clear c5
        by_cases c6 : a1 ≤ (wrap64 (a1 + 2))
        · rw [if_pos c6] at H
          have c6b0 := eq_true c6
          have c6b1 : decide (a1 ≤ (wrap64 (a1 + 2))) = true := decide_eq_true c6
          by_cases c7 : (wrap64 (a1 + 2)) ≤ (a0.size : Int)
          · rw [if_pos c7] at H
            have c7b0 := eq_true c7
            have c7b1 : decide ((wrap64 (a1 + 2)) ≤ (a0.size : Int)) = true := decide_eq_true c7
            by_cases c8 : (a0.extract (a1 : Int).toNat ((wrap64 (a1 + 2)) : Int).toNat).toList = ([58, 61] : List UInt8)
            · rw [if_pos c8] at H
              have c8b0 : ((a0.extract (a1 : Int).toNat ((wrap64 (a1 + 2)) : Int).toNat).toList == ([58, 61] : List UInt8)) = true := beq_iff_eq.mpr c8
              have c8b1 : ((a0.extract (a1 : Int).toNat ((wrap64 (a1 + 2)) : Int).toNat).toList != ([58, 61] : List UInt8)) = false := bne_eq_false_iff_eq.mpr c8
              clear c8
              have c9b0 := eq_true (of_decide_eq_true (by first | (with_reducible assumption) | assumption) : 0 ≤ a1)
              have c10b0 := eq_true (of_decide_eq_true (by first | (with_reducible assumption) | assumption) : a1 ≤ (wrap64 (a1 + 2)))
              have c11b0 := eq_true (of_decide_eq_true (by first | (with_reducible assumption) | assumption) : (wrap64 (a1 + 2)) ≤ (a0.size : Int))
              obtain rfl := Option.some.inj H
              go_wp2
              go_ret
              exact ⟨by first | rfl | (simp; done) | (simp [*]; done), by repeat (first | exact Drawn0.refl _ | apply Drawn0.step)⟩
            · rw [if_neg c8] at H
              have c8b0 : ((a0.extract (a1 : Int).toNat ((wrap64 (a1 + 2)) : Int).toNat).toList == ([58, 61] : List UInt8)) = false := beq_eq_false_iff_ne.mpr c8
              have c8b1 : ((a0.extract (a1 : Int).toNat ((wrap64 (a1 + 2)) : Int).toNat).toList != ([58, 61] : List UInt8)) = true := bne_iff_ne.mpr c8
              by_cases c12 : (a0.extract (a1 : Int).toNat ((wrap64 (a1 + 2)) : Int).toNat).toList = ([61, 61] : List UInt8)
              · rw [if_pos c12] at H
                have c12b0 : ((a0.extract (a1 : Int).toNat ((wrap64 (a1 + 2)) : Int).toNat).toList == ([61, 61] : List UInt8)) = true := beq_iff_eq.mpr c12
                have c12b1 : ((a0.extract (a1 : Int).toNat ((wrap64 (a1 + 2)) : Int).toNat).toList != ([61, 61] : List UInt8)) = false := bne_eq_false_iff_eq.mpr c12
                clear c12
                have c13b0 := eq_true (of_decide_eq_true (by first | (with_reducible assumption) | assumption) : 0 ≤ a1)
                have c14b0 := eq_true (of_decide_eq_true (by first | (with_reducible assumption) | assumption) : a1 ≤ (wrap64 (a1 + 2)))
                have c15b0 := eq_true (of_decide_eq_true (by first | (with_reducible assumption) | assumption) : (wrap64 (a1 + 2)) ≤ (a0.size : Int))
                obtain rfl := Option.some.inj H
                go_wp2
                go_ret
                exact ⟨by first | rfl | (simp; done) | (simp [*]; done), by repeat (first | exact Drawn0.refl _ | apply Drawn0.step)⟩
              · rw [if_neg c12] at H
                have c12b0 : ((a0.extract (a1 : Int).toNat ((wrap64 (a1 + 2)) : Int).toNat).toList == ([61, 61] : List UInt8)) = false := beq_eq_false_iff_ne.mpr c12
                have c12b1 : ((a0.extract (a1 : Int).toNat ((wrap64 (a1 + 2)) : Int).toNat).toList != ([61, 61] : List UInt8)) = true := bne_iff_ne.mpr c12
                by_cases c16 : (a0.extract (a1 : Int).toNat ((wrap64 (a1 + 2)) : Int).toNat).toList = ([33, 61] : List UInt8)
                · rw [if_pos c16] at H
                  have c16b0 : ((a0.extract (a1 : Int).toNat ((wrap64 (a1 + 2)) : Int).toNat).toList == ([33, 61] : List UInt8)) = true := beq_iff_eq.mpr c16
                  have c16b1 : ((a0.extract (a1 : Int).toNat ((wrap64 (a1 + 2)) : Int).toNat).toList != ([33, 61] : List UInt8)) = false := bne_eq_false_iff_eq.mpr c16
                  clear c16
                  have c17b0 := eq_true (of_decide_eq_true (by first | (with_reducible assumption) | assumption) : 0 ≤ a1)
                  have c18b0 := eq_true (of_decide_eq_true (by first | (with_reducible assumption) | assumption) : a1 ≤ (wrap64 (a1 + 2)))
                  have c19b0 := eq_true (of_decide_eq_true (by first | (with_reducible assumption) | assumption) : (wrap64 (a1 + 2)) ≤ (a0.size : Int))
                  obtain rfl := Option.some.inj H
                  go_wp2
                  go_ret
                  exact ⟨by first | rfl | (simp; done) | (simp [*]; done), by repeat (first | exact Drawn0.refl _ | apply Drawn0.step)⟩
                · rw [if_neg c16] at H
                  have c16b0 : ((a0.extract (a1 : Int).toNat ((wrap64 (a1 + 2)) : Int).toNat).toList == ([33, 61] : List UInt8)) = false := beq_eq_false_iff_ne.mpr c16
                  have c16b1 : ((a0.extract (a1 : Int).toNat ((wrap64 (a1 + 2)) : Int).toNat).toList != ([33, 61] : List UInt8)) = true := bne_iff_ne.mpr c16
                  by_cases c20 : (a0.extract (a1 : Int).toNat ((wrap64 (a1 + 2)) : Int).toNat).toList = ([60, 61] : List UInt8)
                  · rw [if_pos c20] at H
                    have c20b0 : ((a0.extract (a1 : Int).toNat ((wrap64 (a1 + 2)) : Int).toNat).toList == ([60, 61] : List UInt8)) = true := beq_iff_eq.mpr c20
                    have c20b1 : ((a0.extract (a1 : Int).toNat ((wrap64 (a1 + 2)) : Int).toNat).toList != ([60, 61] : List UInt8)) = false := bne_eq_false_iff_eq.mpr c20
                    clear c20
                    have c21b0 := eq_true (of_decide_eq_true (by first | (with_reducible assumption) | assumption) : 0 ≤ a1)
                    have c22b0 := eq_true (of_decide_eq_true (by first | (with_reducible assumption) | assumption) : a1 ≤ (wrap64 (a1 + 2)))
                    have c23b0 := eq_true (of_decide_eq_true (by first | (with_reducible assumption) | assumption) : (wrap64 (a1 + 2)) ≤ (a0.size : Int))
                    obtain rfl := Option.some.inj H
                    go_wp2
                    go_ret
                    exact ⟨by first | rfl | (simp; done) | (simp [*]; done), by repeat (first | exact Drawn0.refl _ | apply Drawn0.step)⟩
                  · rw [if_neg c20] at H
                    have c20b0 : ((a0.extract (a1 : Int).toNat ((wrap64 (a1 + 2)) : Int).toNat).toList == ([60, 61] : List UInt8)) = false := beq_eq_false_iff_ne.mpr c20
                    have c20b1 : ((a0.extract (a1 : Int).toNat ((wrap64 (a1 + 2)) : Int).toNat).toList != ([60, 61] : List UInt8)) = true := bne_iff_ne.mpr c20
                    by_cases c24 : (a0.extract (a1 : Int).toNat ((wrap64 (a1 + 2)) : Int).toNat).toList = ([62, 61] : List UInt8)
                    · rw [if_pos c24] at H
                      have c24b0 : ((a0.extract (a1 : Int).toNat ((wrap64 (a1 + 2)) : Int).toNat).toList == ([62, 61] : List UInt8)) = true := beq_iff_eq.mpr c24
                      have c24b1 : ((a0.extract (a1 : Int).toNat ((wrap64 (a1 + 2)) : Int).toNat).toList != ([62, 61] : List UInt8)) = false := bne_eq_false_iff_eq.mpr c24
                      clear c24
                      have c25b0 := eq_true (of_decide_eq_true (by first | (with_reducible assumption) | assumption) : 0 ≤ a1)
                      have c26b0 := eq_true (of_decide_eq_true (by first | (with_reducible assumption) | assumption) : a1 ≤ (wrap64 (a1 + 2)))
                      have c27b0 := eq_true (of_decide_eq_true (by first | (with_reducible assumption) | assumption) : (wrap64 (a1 + 2)) ≤ (a0.size : Int))
                      obtain rfl := Option.some.inj H
                      go_wp2
                      go_ret
                      exact ⟨by first | rfl | (simp; done) | (simp [*]; done), by repeat (first | exact Drawn0.refl _ | apply Drawn0.step)⟩
                    · rw [if_neg c24] at H
                      have c24b0 : ((a0.extract (a1 : Int).toNat ((wrap64 (a1 + 2)) : Int).toNat).toList == ([62, 61] : List UInt8)) = false := beq_eq_false_iff_ne.mpr c24
                      have c24b1 : ((a0.extract (a1 : Int).toNat ((wrap64 (a1 + 2)) : Int).toNat).toList != ([62, 61] : List UInt8)) = true := bne_iff_ne.mpr c24
                      by_cases c28 : (a0.extract (a1 : Int).toNat ((wrap64 (a1 + 2)) : Int).toNat).toList = ([38, 38] : List UInt8)
                      · rw [if_pos c28] at H
                        have c28b0 : ((a0.extract (a1 : Int).toNat ((wrap64 (a1 + 2)) : Int).toNat).toList == ([38, 38] : List UInt8)) = true := beq_iff_eq.mpr c28
                        have c28b1 : ((a0.extract (a1 : Int).toNat ((wrap64 (a1 + 2)) : Int).toNat).toList != ([38, 38] : List UInt8)) = false := bne_eq_false_iff_eq.mpr c28
                        clear c28
                        have c29b0 := eq_true (of_decide_eq_true (by first | (with_reducible assumption) | assumption) : 0 ≤ a1)
                        have c30b0 := eq_true (of_decide_eq_true (by first | (with_reducible assumption) | assumption) : a1 ≤ (wrap64 (a1 + 2)))
                        have c31b0 := eq_true (of_decide_eq_true (by first | (with_reducible assumption) | assumption) : (wrap64 (a1 + 2)) ≤ (a0.size : Int))
                        obtain rfl := Option.some.inj H
                        go_wp2
                        go_ret
                        exact ⟨by first | rfl | (simp; done) | (simp [*]; done), by repeat (first | exact Drawn0.refl _ | apply Drawn0.step)⟩
                      · rw [if_neg c28] at H
                        have c28b0 : ((a0.extract (a1 : Int).toNat ((wrap64 (a1 + 2)) : Int).toNat).toList == ([38, 38] : List UInt8)) = false := beq_eq_false_iff_ne.mpr c28
                        have c28b1 : ((a0.extract (a1 : Int).toNat ((wrap64 (a1 + 2)) : Int).toNat).toList != ([38, 38] : List UInt8)) = true := bne_iff_ne.mpr c28
                        by_cases c32 : (a0.extract (a1 : Int).toNat ((wrap64 (a1 + 2)) : Int).toNat).toList = ([124, 124] : List UInt8)
                        · rw [if_pos c32] at H
                          have c32b0 : ((a0.extract (a1 : Int).toNat ((wrap64 (a1 + 2)) : Int).toNat).toList == ([124, 124] : List UInt8)) = true := beq_iff_eq.mpr c32
                          have c32b1 : ((a0.extract (a1 : Int).toNat ((wrap64 (a1 + 2)) : Int).toNat).toList != ([124, 124] : List UInt8)) = false := bne_eq_false_iff_eq.mpr c32
                          clear c32
                          have c33b0 := eq_true (of_decide_eq_true (by first | (with_reducible assumption) | assumption) : 0 ≤ a1)
                          have c34b0 := eq_true (of_decide_eq_true (by first | (with_reducible assumption) | assumption) : a1 ≤ (wrap64 (a1 + 2)))
                          have c35b0 := eq_true (of_decide_eq_true (by first | (with_reducible assumption) | assumption) : (wrap64 (a1 + 2)) ≤ (a0.size : Int))
                          obtain rfl := Option.some.inj H
                          go_wp2
                          go_ret
                          exact ⟨by first | rfl | (simp; done) | (simp [*]; done), by repeat (first | exact Drawn0.refl _ | apply Drawn0.step)⟩
                        · rw [if_neg c32] at H
                          have c32b0 : ((a0.extract (a1 : Int).toNat ((wrap64 (a1 + 2)) : Int).toNat).toList == ([124, 124] : List UInt8)) = false := beq_eq_false_iff_ne.mpr c32
                          have c32b1 : ((a0.extract (a1 : Int).toNat ((wrap64 (a1 + 2)) : Int).toNat).toList != ([124, 124] : List UInt8)) = true := bne_iff_ne.mpr c32
                          have H' := Aside0.mk H
                          clear H
                          go_wp2
                          go_meet
                          case rel => exact ⟨_, H', ⟨by first | omega | exact Nat.le_refl _⟩, by repeat (first | exact Drawn0.refl _ | apply Drawn0.step)⟩
          · rw [if_neg c7] at H
            exact absurd H (by simp)
        · rw [if_neg c6] at H
          exact absurd H (by simp)
      · rw [if_neg c5] at H
        exact absurd H (by simp)
    · rw [if_neg c4] at H
      have c4b0 : decide ((wrap64 (a1 + 1)) < (a0.size : Int)) = false := decide_eq_false c4
      clear c4
      (first | rw [c4b0] | (simp only [i64_w, i32_w]; rw [c4b0]) | skip)
      have H' := Aside0.mk H
      clear H
      go_wp2
      go_meet
      case rel => exact ⟨_, H', ⟨by first | omega | exact Nat.le_refl _⟩, by repeat (first | exact Drawn0.refl _ | apply Drawn0.step)⟩
  case rest =>
    clear HC3
    try clear c1
    try clear c2
    try clear p2
    try clear c3
    try clear c4
    try clear c4b0
    try clear c5
    try clear c5b0
    try clear c5b1
    try clear c6
    try clear c6b0
    try clear c6b1
    try clear p6
    try clear c7
    try clear c7b0
    try clear c7b1
    try clear c8
    try clear c8b0
    try clear c8b1
    try clear c9
    try clear c9b0
    try clear c10
    try clear c10b0
    try clear c11
    try clear c11b0
    try clear c12
    try clear c12b0
    try clear c12b1
    try clear c13
    try clear c13b0
    try clear c14
    try clear c14b0
    try clear c15
    try clear c15b0
    try clear c16
    try clear c16b0
    try clear c16b1
    try clear c17
    try clear c17b0
    try clear c18
    try clear c18b0
    try clear c19
    try clear c19b0
    try clear c20
    try clear c20b0
    try clear c20b1
    try clear c21
    try clear c21b0
    try clear c22
    try clear c22b0
    try clear c23
    try clear c23b0
    try clear c24
    try clear c24b0
    try clear c24b1
    try clear c25
    try clear c25b0
    try clear c26
    try clear c26b0
    try clear c27
    try clear c27b0
    try clear c28
    try clear c28b0
    try clear c28b1
    try clear c29
    try clear c29b0
    try clear c30
    try clear c30b0
    try clear c31
    try clear c31b0
    try clear c32
    try clear c32b0
    try clear c32b1
    try clear c33
    try clear c33b0
    try clear c34
    try clear c34b0
    try clear c35
    try clear c35b0
    obtain ⟨kq, HA, HJ2, ⟨mc2, rfl⟩⟩ := hcut
    cases kq with
    | zero => exact absurd HA.out (by simp [mortiseref4_sign.j0])
    | succ kj2 =>
      have H := HA.out
      clear HA
      simp only [mortiseref4_sign.j0] at H
      by_cases c36 : 0 ≤ a1
      · rw [if_pos c36] at H
        have c36b0 : decide (0 ≤ a1) = true := decide_eq_true c36
        clear c36
        by_cases c37 : a1 < (a0.size : Int)
        · rw [if_pos c37] at H
          have c37b0 : decide (a1 < (a0.size : Int)) = true := decide_eq_true c37
          clear c37
          by_cases c39 : (bt a0 a1) = 40
          · rw [if_pos c39] at H
            have c39b0 : ((bt a0 a1) == 40) = true := beq_iff_eq.mpr c39
            have c39b1 : ((bt a0 a1) != 40) = false := bne_eq_false_iff_eq.mpr c39
            clear c39
            have c40b0 := eq_true (of_decide_eq_true (by first | (with_reducible assumption) | assumption) : 0 ≤ a1)
            by_cases c41 : a1 ≤ (wrap64 (a1 + 1))
            · rw [if_pos c41] at H
              have c41b0 := eq_true c41
              have c41b1 : decide (a1 ≤ (wrap64 (a1 + 1))) = true := decide_eq_true c41
              by_cases c42 : (wrap64 (a1 + 1)) ≤ (a0.size : Int)
              · rw [if_pos c42] at H
                have c42b0 := eq_true c42
                have c42b1 : decide ((wrap64 (a1 + 1)) ≤ (a0.size : Int)) = true := decide_eq_true c42
                obtain rfl := Option.some.inj H
                have p38 : 0 ≤ (a1 : Int) := of_decide_eq_true (by first | (with_reducible assumption) | assumption)
                have q38 : a1 < (a0.size : Int) := of_decide_eq_true (by first | (with_reducible assumption) | assumption)
                have hx38 := bt_at a0 a1
                replace p38 := eq_true p38
                replace q38 := eq_true q38
                go_wp2
                go_ret
                exact ⟨by first | rfl | (simp; done) | (simp [*]; done), by repeat (first | exact Drawn0.refl _ | apply Drawn0.step)⟩
              · rw [if_neg c42] at H
                exact absurd H (by simp)
            · rw [if_neg c41] at H
              exact absurd H (by simp)
          · rw [if_neg c39] at H
            have c39b0 : ((bt a0 a1) == 40) = false := beq_eq_false_iff_ne.mpr c39
            have c39b1 : ((bt a0 a1) != 40) = true := bne_iff_ne.mpr c39
            by_cases c43 : (bt a0 a1) = 41
            · rw [if_pos c43] at H
              have c43b0 : ((bt a0 a1) == 41) = true := beq_iff_eq.mpr c43
              have c43b1 : ((bt a0 a1) != 41) = false := bne_eq_false_iff_eq.mpr c43
              clear c43
              have c44b0 := eq_true (of_decide_eq_true (by first | (with_reducible assumption) | assumption) : 0 ≤ a1)
              by_cases c45 : a1 ≤ (wrap64 (a1 + 1))
              · rw [if_pos c45] at H
                have c45b0 := eq_true c45
                have c45b1 : decide (a1 ≤ (wrap64 (a1 + 1))) = true := decide_eq_true c45
                by_cases c46 : (wrap64 (a1 + 1)) ≤ (a0.size : Int)
                · rw [if_pos c46] at H
                  have c46b0 := eq_true c46
                  have c46b1 : decide ((wrap64 (a1 + 1)) ≤ (a0.size : Int)) = true := decide_eq_true c46
                  obtain rfl := Option.some.inj H
                  have p38 : 0 ≤ (a1 : Int) := of_decide_eq_true (by first | (with_reducible assumption) | assumption)
                  have q38 : a1 < (a0.size : Int) := of_decide_eq_true (by first | (with_reducible assumption) | assumption)
                  have hx38 := bt_at a0 a1
                  replace p38 := eq_true p38
                  replace q38 := eq_true q38
                  go_wp2
                  go_ret
                  exact ⟨by first | rfl | (simp; done) | (simp [*]; done), by repeat (first | exact Drawn0.refl _ | apply Drawn0.step)⟩
                · rw [if_neg c46] at H
                  exact absurd H (by simp)
              · rw [if_neg c45] at H
                exact absurd H (by simp)
            · rw [if_neg c43] at H
              have c43b0 : ((bt a0 a1) == 41) = false := beq_eq_false_iff_ne.mpr c43
              have c43b1 : ((bt a0 a1) != 41) = true := bne_iff_ne.mpr c43
              by_cases c47 : (bt a0 a1) = 91
              · rw [if_pos c47] at H
                have c47b0 : ((bt a0 a1) == 91) = true := beq_iff_eq.mpr c47
                have c47b1 : ((bt a0 a1) != 91) = false := bne_eq_false_iff_eq.mpr c47
                clear c47
                have c48b0 := eq_true (of_decide_eq_true (by first | (with_reducible assumption) | assumption) : 0 ≤ a1)
                by_cases c49 : a1 ≤ (wrap64 (a1 + 1))
                · rw [if_pos c49] at H
                  have c49b0 := eq_true c49
                  have c49b1 : decide (a1 ≤ (wrap64 (a1 + 1))) = true := decide_eq_true c49
                  by_cases c50 : (wrap64 (a1 + 1)) ≤ (a0.size : Int)
                  · rw [if_pos c50] at H
                    have c50b0 := eq_true c50
                    have c50b1 : decide ((wrap64 (a1 + 1)) ≤ (a0.size : Int)) = true := decide_eq_true c50
                    obtain rfl := Option.some.inj H
                    have p38 : 0 ≤ (a1 : Int) := of_decide_eq_true (by first | (with_reducible assumption) | assumption)
                    have q38 : a1 < (a0.size : Int) := of_decide_eq_true (by first | (with_reducible assumption) | assumption)
                    have hx38 := bt_at a0 a1
                    replace p38 := eq_true p38
                    replace q38 := eq_true q38
                    go_wp2
                    go_ret
                    exact ⟨by first | rfl | (simp; done) | (simp [*]; done), by repeat (first | exact Drawn0.refl _ | apply Drawn0.step)⟩
                  · rw [if_neg c50] at H
                    exact absurd H (by simp)
                · rw [if_neg c49] at H
                  exact absurd H (by simp)
              · rw [if_neg c47] at H
                have c47b0 : ((bt a0 a1) == 91) = false := beq_eq_false_iff_ne.mpr c47
                have c47b1 : ((bt a0 a1) != 91) = true := bne_iff_ne.mpr c47
                by_cases c51 : (bt a0 a1) = 93
                · rw [if_pos c51] at H
                  have c51b0 : ((bt a0 a1) == 93) = true := beq_iff_eq.mpr c51
                  have c51b1 : ((bt a0 a1) != 93) = false := bne_eq_false_iff_eq.mpr c51
                  clear c51
                  have c52b0 := eq_true (of_decide_eq_true (by first | (with_reducible assumption) | assumption) : 0 ≤ a1)
                  by_cases c53 : a1 ≤ (wrap64 (a1 + 1))
                  · rw [if_pos c53] at H
                    have c53b0 := eq_true c53
                    have c53b1 : decide (a1 ≤ (wrap64 (a1 + 1))) = true := decide_eq_true c53
                    by_cases c54 : (wrap64 (a1 + 1)) ≤ (a0.size : Int)
                    · rw [if_pos c54] at H
                      have c54b0 := eq_true c54
                      have c54b1 : decide ((wrap64 (a1 + 1)) ≤ (a0.size : Int)) = true := decide_eq_true c54
                      obtain rfl := Option.some.inj H
                      have p38 : 0 ≤ (a1 : Int) := of_decide_eq_true (by first | (with_reducible assumption) | assumption)
                      have q38 : a1 < (a0.size : Int) := of_decide_eq_true (by first | (with_reducible assumption) | assumption)
                      have hx38 := bt_at a0 a1
                      replace p38 := eq_true p38
                      replace q38 := eq_true q38
                      go_wp2
                      go_ret
                      exact ⟨by first | rfl | (simp; done) | (simp [*]; done), by repeat (first | exact Drawn0.refl _ | apply Drawn0.step)⟩
                    · rw [if_neg c54] at H
                      exact absurd H (by simp)
                  · rw [if_neg c53] at H
                    exact absurd H (by simp)
                · rw [if_neg c51] at H
                  have c51b0 : ((bt a0 a1) == 93) = false := beq_eq_false_iff_ne.mpr c51
                  have c51b1 : ((bt a0 a1) != 93) = true := bne_iff_ne.mpr c51
                  by_cases c55 : (bt a0 a1) = 123
                  · rw [if_pos c55] at H
                    have c55b0 : ((bt a0 a1) == 123) = true := beq_iff_eq.mpr c55
                    have c55b1 : ((bt a0 a1) != 123) = false := bne_eq_false_iff_eq.mpr c55
                    clear c55
                    have c56b0 := eq_true (of_decide_eq_true (by first | (with_reducible assumption) | assumption) : 0 ≤ a1)
                    by_cases c57 : a1 ≤ (wrap64 (a1 + 1))
                    · rw [if_pos c57] at H
                      have c57b0 := eq_true c57
                      have c57b1 : decide (a1 ≤ (wrap64 (a1 + 1))) = true := decide_eq_true c57
                      by_cases c58 : (wrap64 (a1 + 1)) ≤ (a0.size : Int)
                      · rw [if_pos c58] at H
                        have c58b0 := eq_true c58
                        have c58b1 : decide ((wrap64 (a1 + 1)) ≤ (a0.size : Int)) = true := decide_eq_true c58
                        obtain rfl := Option.some.inj H
                        have p38 : 0 ≤ (a1 : Int) := of_decide_eq_true (by first | (with_reducible assumption) | assumption)
                        have q38 : a1 < (a0.size : Int) := of_decide_eq_true (by first | (with_reducible assumption) | assumption)
                        have hx38 := bt_at a0 a1
                        replace p38 := eq_true p38
                        replace q38 := eq_true q38
                        go_wp2
                        go_ret
                        exact ⟨by first | rfl | (simp; done) | (simp [*]; done), by repeat (first | exact Drawn0.refl _ | apply Drawn0.step)⟩
                      · rw [if_neg c58] at H
                        exact absurd H (by simp)
                    · rw [if_neg c57] at H
                      exact absurd H (by simp)
                  · rw [if_neg c55] at H
                    have c55b0 : ((bt a0 a1) == 123) = false := beq_eq_false_iff_ne.mpr c55
                    have c55b1 : ((bt a0 a1) != 123) = true := bne_iff_ne.mpr c55
                    by_cases c59 : (bt a0 a1) = 125
                    · rw [if_pos c59] at H
                      have c59b0 : ((bt a0 a1) == 125) = true := beq_iff_eq.mpr c59
                      have c59b1 : ((bt a0 a1) != 125) = false := bne_eq_false_iff_eq.mpr c59
                      clear c59
                      have c60b0 := eq_true (of_decide_eq_true (by first | (with_reducible assumption) | assumption) : 0 ≤ a1)
                      by_cases c61 : a1 ≤ (wrap64 (a1 + 1))
                      · rw [if_pos c61] at H
                        have c61b0 := eq_true c61
                        have c61b1 : decide (a1 ≤ (wrap64 (a1 + 1))) = true := decide_eq_true c61
                        by_cases c62 : (wrap64 (a1 + 1)) ≤ (a0.size : Int)
                        · rw [if_pos c62] at H
                          have c62b0 := eq_true c62
                          have c62b1 : decide ((wrap64 (a1 + 1)) ≤ (a0.size : Int)) = true := decide_eq_true c62
                          obtain rfl := Option.some.inj H
                          have p38 : 0 ≤ (a1 : Int) := of_decide_eq_true (by first | (with_reducible assumption) | assumption)
                          have q38 : a1 < (a0.size : Int) := of_decide_eq_true (by first | (with_reducible assumption) | assumption)
                          have hx38 := bt_at a0 a1
                          replace p38 := eq_true p38
                          replace q38 := eq_true q38
                          go_wp2
                          go_ret
                          exact ⟨by first | rfl | (simp; done) | (simp [*]; done), by repeat (first | exact Drawn0.refl _ | apply Drawn0.step)⟩
                        · rw [if_neg c62] at H
                          exact absurd H (by simp)
                      · rw [if_neg c61] at H
                        exact absurd H (by simp)
                    · rw [if_neg c59] at H
                      have c59b0 : ((bt a0 a1) == 125) = false := beq_eq_false_iff_ne.mpr c59
                      have c59b1 : ((bt a0 a1) != 125) = true := bne_iff_ne.mpr c59
                      by_cases c63 : (bt a0 a1) = 44
                      · rw [if_pos c63] at H
                        have c63b0 : ((bt a0 a1) == 44) = true := beq_iff_eq.mpr c63
                        have c63b1 : ((bt a0 a1) != 44) = false := bne_eq_false_iff_eq.mpr c63
                        clear c63
                        have c64b0 := eq_true (of_decide_eq_true (by first | (with_reducible assumption) | assumption) : 0 ≤ a1)
                        by_cases c65 : a1 ≤ (wrap64 (a1 + 1))
                        · rw [if_pos c65] at H
                          have c65b0 := eq_true c65
                          have c65b1 : decide (a1 ≤ (wrap64 (a1 + 1))) = true := decide_eq_true c65
                          by_cases c66 : (wrap64 (a1 + 1)) ≤ (a0.size : Int)
                          · rw [if_pos c66] at H
                            have c66b0 := eq_true c66
                            have c66b1 : decide ((wrap64 (a1 + 1)) ≤ (a0.size : Int)) = true := decide_eq_true c66
                            obtain rfl := Option.some.inj H
                            have p38 : 0 ≤ (a1 : Int) := of_decide_eq_true (by first | (with_reducible assumption) | assumption)
                            have q38 : a1 < (a0.size : Int) := of_decide_eq_true (by first | (with_reducible assumption) | assumption)
                            have hx38 := bt_at a0 a1
                            replace p38 := eq_true p38
                            replace q38 := eq_true q38
                            go_wp2
                            go_ret
                            exact ⟨by first | rfl | (simp; done) | (simp [*]; done), by repeat (first | exact Drawn0.refl _ | apply Drawn0.step)⟩
                          · rw [if_neg c66] at H
                            exact absurd H (by simp)
                        · rw [if_neg c65] at H
                          exact absurd H (by simp)
                      · rw [if_neg c63] at H
                        have c63b0 : ((bt a0 a1) == 44) = false := beq_eq_false_iff_ne.mpr c63
                        have c63b1 : ((bt a0 a1) != 44) = true := bne_iff_ne.mpr c63
                        by_cases c67 : (bt a0 a1) = 59
                        · rw [if_pos c67] at H
                          have c67b0 : ((bt a0 a1) == 59) = true := beq_iff_eq.mpr c67
                          have c67b1 : ((bt a0 a1) != 59) = false := bne_eq_false_iff_eq.mpr c67
                          clear c67
                          have c68b0 := eq_true (of_decide_eq_true (by first | (with_reducible assumption) | assumption) : 0 ≤ a1)
                          by_cases c69 : a1 ≤ (wrap64 (a1 + 1))
                          · rw [if_pos c69] at H
                            have c69b0 := eq_true c69
                            have c69b1 : decide (a1 ≤ (wrap64 (a1 + 1))) = true := decide_eq_true c69
                            by_cases c70 : (wrap64 (a1 + 1)) ≤ (a0.size : Int)
                            · rw [if_pos c70] at H
                              have c70b0 := eq_true c70
                              have c70b1 : decide ((wrap64 (a1 + 1)) ≤ (a0.size : Int)) = true := decide_eq_true c70
                              obtain rfl := Option.some.inj H
                              have p38 : 0 ≤ (a1 : Int) := of_decide_eq_true (by first | (with_reducible assumption) | assumption)
                              have q38 : a1 < (a0.size : Int) := of_decide_eq_true (by first | (with_reducible assumption) | assumption)
                              have hx38 := bt_at a0 a1
                              replace p38 := eq_true p38
                              replace q38 := eq_true q38
                              go_wp2
                              go_ret
                              exact ⟨by first | rfl | (simp; done) | (simp [*]; done), by repeat (first | exact Drawn0.refl _ | apply Drawn0.step)⟩
                            · rw [if_neg c70] at H
                              exact absurd H (by simp)
                          · rw [if_neg c69] at H
                            exact absurd H (by simp)
                        · rw [if_neg c67] at H
                          have c67b0 : ((bt a0 a1) == 59) = false := beq_eq_false_iff_ne.mpr c67
                          have c67b1 : ((bt a0 a1) != 59) = true := bne_iff_ne.mpr c67
                          by_cases c71 : (bt a0 a1) = 46
                          · rw [if_pos c71] at H
                            have c71b0 : ((bt a0 a1) == 46) = true := beq_iff_eq.mpr c71
                            have c71b1 : ((bt a0 a1) != 46) = false := bne_eq_false_iff_eq.mpr c71
                            clear c71
                            have c72b0 := eq_true (of_decide_eq_true (by first | (with_reducible assumption) | assumption) : 0 ≤ a1)
                            by_cases c73 : a1 ≤ (wrap64 (a1 + 1))
                            · rw [if_pos c73] at H
                              have c73b0 := eq_true c73
                              have c73b1 : decide (a1 ≤ (wrap64 (a1 + 1))) = true := decide_eq_true c73
                              by_cases c74 : (wrap64 (a1 + 1)) ≤ (a0.size : Int)
                              · rw [if_pos c74] at H
                                have c74b0 := eq_true c74
                                have c74b1 : decide ((wrap64 (a1 + 1)) ≤ (a0.size : Int)) = true := decide_eq_true c74
                                obtain rfl := Option.some.inj H
                                have p38 : 0 ≤ (a1 : Int) := of_decide_eq_true (by first | (with_reducible assumption) | assumption)
                                have q38 : a1 < (a0.size : Int) := of_decide_eq_true (by first | (with_reducible assumption) | assumption)
                                have hx38 := bt_at a0 a1
                                replace p38 := eq_true p38
                                replace q38 := eq_true q38
                                go_wp2
                                go_ret
                                exact ⟨by first | rfl | (simp; done) | (simp [*]; done), by repeat (first | exact Drawn0.refl _ | apply Drawn0.step)⟩
                              · rw [if_neg c74] at H
                                exact absurd H (by simp)
                            · rw [if_neg c73] at H
                              exact absurd H (by simp)
                          · rw [if_neg c71] at H
                            have c71b0 : ((bt a0 a1) == 46) = false := beq_eq_false_iff_ne.mpr c71
                            have c71b1 : ((bt a0 a1) != 46) = true := bne_iff_ne.mpr c71
                            by_cases c75 : (bt a0 a1) = 58
                            · rw [if_pos c75] at H
                              have c75b0 : ((bt a0 a1) == 58) = true := beq_iff_eq.mpr c75
                              have c75b1 : ((bt a0 a1) != 58) = false := bne_eq_false_iff_eq.mpr c75
                              clear c75
                              have c76b0 := eq_true (of_decide_eq_true (by first | (with_reducible assumption) | assumption) : 0 ≤ a1)
                              by_cases c77 : a1 ≤ (wrap64 (a1 + 1))
                              · rw [if_pos c77] at H
                                have c77b0 := eq_true c77
                                have c77b1 : decide (a1 ≤ (wrap64 (a1 + 1))) = true := decide_eq_true c77
                                by_cases c78 : (wrap64 (a1 + 1)) ≤ (a0.size : Int)
                                · rw [if_pos c78] at H
                                  have c78b0 := eq_true c78
                                  have c78b1 : decide ((wrap64 (a1 + 1)) ≤ (a0.size : Int)) = true := decide_eq_true c78
                                  obtain rfl := Option.some.inj H
                                  have p38 : 0 ≤ (a1 : Int) := of_decide_eq_true (by first | (with_reducible assumption) | assumption)
                                  have q38 : a1 < (a0.size : Int) := of_decide_eq_true (by first | (with_reducible assumption) | assumption)
                                  have hx38 := bt_at a0 a1
                                  replace p38 := eq_true p38
                                  replace q38 := eq_true q38
                                  go_wp2
                                  go_ret
                                  exact ⟨by first | rfl | (simp; done) | (simp [*]; done), by repeat (first | exact Drawn0.refl _ | apply Drawn0.step)⟩
                                · rw [if_neg c78] at H
                                  exact absurd H (by simp)
                              · rw [if_neg c77] at H
                                exact absurd H (by simp)
                            · rw [if_neg c75] at H
                              have c75b0 : ((bt a0 a1) == 58) = false := beq_eq_false_iff_ne.mpr c75
                              have c75b1 : ((bt a0 a1) != 58) = true := bne_iff_ne.mpr c75
                              by_cases c79 : (bt a0 a1) = 61
                              · rw [if_pos c79] at H
                                have c79b0 : ((bt a0 a1) == 61) = true := beq_iff_eq.mpr c79
                                have c79b1 : ((bt a0 a1) != 61) = false := bne_eq_false_iff_eq.mpr c79
                                clear c79
                                have c80b0 := eq_true (of_decide_eq_true (by first | (with_reducible assumption) | assumption) : 0 ≤ a1)
                                by_cases c81 : a1 ≤ (wrap64 (a1 + 1))
                                · rw [if_pos c81] at H
                                  have c81b0 := eq_true c81
                                  have c81b1 : decide (a1 ≤ (wrap64 (a1 + 1))) = true := decide_eq_true c81
                                  by_cases c82 : (wrap64 (a1 + 1)) ≤ (a0.size : Int)
                                  · rw [if_pos c82] at H
                                    have c82b0 := eq_true c82
                                    have c82b1 : decide ((wrap64 (a1 + 1)) ≤ (a0.size : Int)) = true := decide_eq_true c82
                                    obtain rfl := Option.some.inj H
                                    have p38 : 0 ≤ (a1 : Int) := of_decide_eq_true (by first | (with_reducible assumption) | assumption)
                                    have q38 : a1 < (a0.size : Int) := of_decide_eq_true (by first | (with_reducible assumption) | assumption)
                                    have hx38 := bt_at a0 a1
                                    replace p38 := eq_true p38
                                    replace q38 := eq_true q38
                                    go_wp2
                                    go_ret
                                    exact ⟨by first | rfl | (simp; done) | (simp [*]; done), by repeat (first | exact Drawn0.refl _ | apply Drawn0.step)⟩
                                  · rw [if_neg c82] at H
                                    exact absurd H (by simp)
                                · rw [if_neg c81] at H
                                  exact absurd H (by simp)
                              · rw [if_neg c79] at H
                                have c79b0 : ((bt a0 a1) == 61) = false := beq_eq_false_iff_ne.mpr c79
                                have c79b1 : ((bt a0 a1) != 61) = true := bne_iff_ne.mpr c79
                                by_cases c83 : (bt a0 a1) = 60
                                · rw [if_pos c83] at H
                                  have c83b0 : ((bt a0 a1) == 60) = true := beq_iff_eq.mpr c83
                                  have c83b1 : ((bt a0 a1) != 60) = false := bne_eq_false_iff_eq.mpr c83
                                  clear c83
                                  have c84b0 := eq_true (of_decide_eq_true (by first | (with_reducible assumption) | assumption) : 0 ≤ a1)
                                  by_cases c85 : a1 ≤ (wrap64 (a1 + 1))
                                  · rw [if_pos c85] at H
                                    have c85b0 := eq_true c85
                                    have c85b1 : decide (a1 ≤ (wrap64 (a1 + 1))) = true := decide_eq_true c85
                                    by_cases c86 : (wrap64 (a1 + 1)) ≤ (a0.size : Int)
                                    · rw [if_pos c86] at H
                                      have c86b0 := eq_true c86
                                      have c86b1 : decide ((wrap64 (a1 + 1)) ≤ (a0.size : Int)) = true := decide_eq_true c86
                                      obtain rfl := Option.some.inj H
                                      have p38 : 0 ≤ (a1 : Int) := of_decide_eq_true (by first | (with_reducible assumption) | assumption)
                                      have q38 : a1 < (a0.size : Int) := of_decide_eq_true (by first | (with_reducible assumption) | assumption)
                                      have hx38 := bt_at a0 a1
                                      replace p38 := eq_true p38
                                      replace q38 := eq_true q38
                                      go_wp2
                                      go_ret
                                      exact ⟨by first | rfl | (simp; done) | (simp [*]; done), by repeat (first | exact Drawn0.refl _ | apply Drawn0.step)⟩
                                    · rw [if_neg c86] at H
                                      exact absurd H (by simp)
                                  · rw [if_neg c85] at H
                                    exact absurd H (by simp)
                                · rw [if_neg c83] at H
                                  have c83b0 : ((bt a0 a1) == 60) = false := beq_eq_false_iff_ne.mpr c83
                                  have c83b1 : ((bt a0 a1) != 60) = true := bne_iff_ne.mpr c83
                                  by_cases c87 : (bt a0 a1) = 62
                                  · rw [if_pos c87] at H
                                    have c87b0 : ((bt a0 a1) == 62) = true := beq_iff_eq.mpr c87
                                    have c87b1 : ((bt a0 a1) != 62) = false := bne_eq_false_iff_eq.mpr c87
                                    clear c87
                                    have c88b0 := eq_true (of_decide_eq_true (by first | (with_reducible assumption) | assumption) : 0 ≤ a1)
                                    by_cases c89 : a1 ≤ (wrap64 (a1 + 1))
                                    · rw [if_pos c89] at H
                                      have c89b0 := eq_true c89
                                      have c89b1 : decide (a1 ≤ (wrap64 (a1 + 1))) = true := decide_eq_true c89
                                      by_cases c90 : (wrap64 (a1 + 1)) ≤ (a0.size : Int)
                                      · rw [if_pos c90] at H
                                        have c90b0 := eq_true c90
                                        have c90b1 : decide ((wrap64 (a1 + 1)) ≤ (a0.size : Int)) = true := decide_eq_true c90
                                        obtain rfl := Option.some.inj H
                                        have p38 : 0 ≤ (a1 : Int) := of_decide_eq_true (by first | (with_reducible assumption) | assumption)
                                        have q38 : a1 < (a0.size : Int) := of_decide_eq_true (by first | (with_reducible assumption) | assumption)
                                        have hx38 := bt_at a0 a1
                                        replace p38 := eq_true p38
                                        replace q38 := eq_true q38
                                        go_wp2
                                        go_ret
                                        exact ⟨by first | rfl | (simp; done) | (simp [*]; done), by repeat (first | exact Drawn0.refl _ | apply Drawn0.step)⟩
                                      · rw [if_neg c90] at H
                                        exact absurd H (by simp)
                                    · rw [if_neg c89] at H
                                      exact absurd H (by simp)
                                  · rw [if_neg c87] at H
                                    have c87b0 : ((bt a0 a1) == 62) = false := beq_eq_false_iff_ne.mpr c87
                                    have c87b1 : ((bt a0 a1) != 62) = true := bne_iff_ne.mpr c87
                                    by_cases c91 : (bt a0 a1) = 43
                                    · rw [if_pos c91] at H
                                      have c91b0 : ((bt a0 a1) == 43) = true := beq_iff_eq.mpr c91
                                      have c91b1 : ((bt a0 a1) != 43) = false := bne_eq_false_iff_eq.mpr c91
                                      clear c91
                                      have c92b0 := eq_true (of_decide_eq_true (by first | (with_reducible assumption) | assumption) : 0 ≤ a1)
                                      by_cases c93 : a1 ≤ (wrap64 (a1 + 1))
                                      · rw [if_pos c93] at H
                                        have c93b0 := eq_true c93
                                        have c93b1 : decide (a1 ≤ (wrap64 (a1 + 1))) = true := decide_eq_true c93
                                        by_cases c94 : (wrap64 (a1 + 1)) ≤ (a0.size : Int)
                                        · rw [if_pos c94] at H
                                          have c94b0 := eq_true c94
                                          have c94b1 : decide ((wrap64 (a1 + 1)) ≤ (a0.size : Int)) = true := decide_eq_true c94
                                          obtain rfl := Option.some.inj H
                                          have p38 : 0 ≤ (a1 : Int) := of_decide_eq_true (by first | (with_reducible assumption) | assumption)
                                          have q38 : a1 < (a0.size : Int) := of_decide_eq_true (by first | (with_reducible assumption) | assumption)
                                          have hx38 := bt_at a0 a1
                                          replace p38 := eq_true p38
                                          replace q38 := eq_true q38
                                          go_wp2
                                          go_ret
                                          exact ⟨by first | rfl | (simp; done) | (simp [*]; done), by repeat (first | exact Drawn0.refl _ | apply Drawn0.step)⟩
                                        · rw [if_neg c94] at H
                                          exact absurd H (by simp)
                                      · rw [if_neg c93] at H
                                        exact absurd H (by simp)
                                    · rw [if_neg c91] at H
                                      have c91b0 : ((bt a0 a1) == 43) = false := beq_eq_false_iff_ne.mpr c91
                                      have c91b1 : ((bt a0 a1) != 43) = true := bne_iff_ne.mpr c91
                                      by_cases c95 : (bt a0 a1) = 45
                                      · rw [if_pos c95] at H
                                        have c95b0 : ((bt a0 a1) == 45) = true := beq_iff_eq.mpr c95
                                        have c95b1 : ((bt a0 a1) != 45) = false := bne_eq_false_iff_eq.mpr c95
                                        clear c95
                                        have c96b0 := eq_true (of_decide_eq_true (by first | (with_reducible assumption) | assumption) : 0 ≤ a1)
                                        by_cases c97 : a1 ≤ (wrap64 (a1 + 1))
                                        · rw [if_pos c97] at H
                                          have c97b0 := eq_true c97
                                          have c97b1 : decide (a1 ≤ (wrap64 (a1 + 1))) = true := decide_eq_true c97
                                          by_cases c98 : (wrap64 (a1 + 1)) ≤ (a0.size : Int)
                                          · rw [if_pos c98] at H
                                            have c98b0 := eq_true c98
                                            have c98b1 : decide ((wrap64 (a1 + 1)) ≤ (a0.size : Int)) = true := decide_eq_true c98
                                            obtain rfl := Option.some.inj H
                                            have p38 : 0 ≤ (a1 : Int) := of_decide_eq_true (by first | (with_reducible assumption) | assumption)
                                            have q38 : a1 < (a0.size : Int) := of_decide_eq_true (by first | (with_reducible assumption) | assumption)
                                            have hx38 := bt_at a0 a1
                                            replace p38 := eq_true p38
                                            replace q38 := eq_true q38
                                            go_wp2
                                            go_ret
                                            exact ⟨by first | rfl | (simp; done) | (simp [*]; done), by repeat (first | exact Drawn0.refl _ | apply Drawn0.step)⟩
                                          · rw [if_neg c98] at H
                                            exact absurd H (by simp)
                                        · rw [if_neg c97] at H
                                          exact absurd H (by simp)
                                      · rw [if_neg c95] at H
                                        have c95b0 : ((bt a0 a1) == 45) = false := beq_eq_false_iff_ne.mpr c95
                                        have c95b1 : ((bt a0 a1) != 45) = true := bne_iff_ne.mpr c95
                                        by_cases c99 : (bt a0 a1) = 42
                                        · rw [if_pos c99] at H
                                          have c99b0 : ((bt a0 a1) == 42) = true := beq_iff_eq.mpr c99
                                          have c99b1 : ((bt a0 a1) != 42) = false := bne_eq_false_iff_eq.mpr c99
                                          clear c99
                                          have c100b0 := eq_true (of_decide_eq_true (by first | (with_reducible assumption) | assumption) : 0 ≤ a1)
                                          by_cases c101 : a1 ≤ (wrap64 (a1 + 1))
                                          · rw [if_pos c101] at H
                                            have c101b0 := eq_true c101
                                            have c101b1 : decide (a1 ≤ (wrap64 (a1 + 1))) = true := decide_eq_true c101
                                            by_cases c102 : (wrap64 (a1 + 1)) ≤ (a0.size : Int)
                                            · rw [if_pos c102] at H
                                              have c102b0 := eq_true c102
                                              have c102b1 : decide ((wrap64 (a1 + 1)) ≤ (a0.size : Int)) = true := decide_eq_true c102
                                              obtain rfl := Option.some.inj H
                                              have p38 : 0 ≤ (a1 : Int) := of_decide_eq_true (by first | (with_reducible assumption) | assumption)
                                              have q38 : a1 < (a0.size : Int) := of_decide_eq_true (by first | (with_reducible assumption) | assumption)
                                              have hx38 := bt_at a0 a1
                                              replace p38 := eq_true p38
                                              replace q38 := eq_true q38
                                              go_wp2
                                              go_ret
                                              exact ⟨by first | rfl | (simp; done) | (simp [*]; done), by repeat (first | exact Drawn0.refl _ | apply Drawn0.step)⟩
                                            · rw [if_neg c102] at H
                                              exact absurd H (by simp)
                                          · rw [if_neg c101] at H
                                            exact absurd H (by simp)
                                        · rw [if_neg c99] at H
                                          have c99b0 : ((bt a0 a1) == 42) = false := beq_eq_false_iff_ne.mpr c99
                                          have c99b1 : ((bt a0 a1) != 42) = true := bne_iff_ne.mpr c99
                                          by_cases c103 : (bt a0 a1) = 47
                                          · rw [if_pos c103] at H
                                            have c103b0 : ((bt a0 a1) == 47) = true := beq_iff_eq.mpr c103
                                            have c103b1 : ((bt a0 a1) != 47) = false := bne_eq_false_iff_eq.mpr c103
                                            clear c103
                                            have c104b0 := eq_true (of_decide_eq_true (by first | (with_reducible assumption) | assumption) : 0 ≤ a1)
                                            by_cases c105 : a1 ≤ (wrap64 (a1 + 1))
                                            · rw [if_pos c105] at H
                                              have c105b0 := eq_true c105
                                              have c105b1 : decide (a1 ≤ (wrap64 (a1 + 1))) = true := decide_eq_true c105
                                              by_cases c106 : (wrap64 (a1 + 1)) ≤ (a0.size : Int)
                                              · rw [if_pos c106] at H
                                                have c106b0 := eq_true c106
                                                have c106b1 : decide ((wrap64 (a1 + 1)) ≤ (a0.size : Int)) = true := decide_eq_true c106
                                                obtain rfl := Option.some.inj H
                                                have p38 : 0 ≤ (a1 : Int) := of_decide_eq_true (by first | (with_reducible assumption) | assumption)
                                                have q38 : a1 < (a0.size : Int) := of_decide_eq_true (by first | (with_reducible assumption) | assumption)
                                                have hx38 := bt_at a0 a1
                                                replace p38 := eq_true p38
                                                replace q38 := eq_true q38
                                                go_wp2
                                                go_ret
                                                exact ⟨by first | rfl | (simp; done) | (simp [*]; done), by repeat (first | exact Drawn0.refl _ | apply Drawn0.step)⟩
                                              · rw [if_neg c106] at H
                                                exact absurd H (by simp)
                                            · rw [if_neg c105] at H
                                              exact absurd H (by simp)
                                          · rw [if_neg c103] at H
                                            have c103b0 : ((bt a0 a1) == 47) = false := beq_eq_false_iff_ne.mpr c103
                                            have c103b1 : ((bt a0 a1) != 47) = true := bne_iff_ne.mpr c103
                                            by_cases c107 : (bt a0 a1) = 37
                                            · rw [if_pos c107] at H
                                              have c107b0 : ((bt a0 a1) == 37) = true := beq_iff_eq.mpr c107
                                              have c107b1 : ((bt a0 a1) != 37) = false := bne_eq_false_iff_eq.mpr c107
                                              clear c107
                                              have c108b0 := eq_true (of_decide_eq_true (by first | (with_reducible assumption) | assumption) : 0 ≤ a1)
                                              by_cases c109 : a1 ≤ (wrap64 (a1 + 1))
                                              · rw [if_pos c109] at H
                                                have c109b0 := eq_true c109
                                                have c109b1 : decide (a1 ≤ (wrap64 (a1 + 1))) = true := decide_eq_true c109
                                                by_cases c110 : (wrap64 (a1 + 1)) ≤ (a0.size : Int)
                                                · rw [if_pos c110] at H
                                                  have c110b0 := eq_true c110
                                                  have c110b1 : decide ((wrap64 (a1 + 1)) ≤ (a0.size : Int)) = true := decide_eq_true c110
                                                  obtain rfl := Option.some.inj H
                                                  have p38 : 0 ≤ (a1 : Int) := of_decide_eq_true (by first | (with_reducible assumption) | assumption)
                                                  have q38 : a1 < (a0.size : Int) := of_decide_eq_true (by first | (with_reducible assumption) | assumption)
                                                  have hx38 := bt_at a0 a1
                                                  replace p38 := eq_true p38
                                                  replace q38 := eq_true q38
                                                  go_wp2
                                                  go_ret
                                                  exact ⟨by first | rfl | (simp; done) | (simp [*]; done), by repeat (first | exact Drawn0.refl _ | apply Drawn0.step)⟩
                                                · rw [if_neg c110] at H
                                                  exact absurd H (by simp)
                                              · rw [if_neg c109] at H
                                                exact absurd H (by simp)
                                            · rw [if_neg c107] at H
                                              have c107b0 : ((bt a0 a1) == 37) = false := beq_eq_false_iff_ne.mpr c107
                                              have c107b1 : ((bt a0 a1) != 37) = true := bne_iff_ne.mpr c107
                                              by_cases c111 : (bt a0 a1) = 33
                                              · rw [if_pos c111] at H
                                                have c111b0 : ((bt a0 a1) == 33) = true := beq_iff_eq.mpr c111
                                                have c111b1 : ((bt a0 a1) != 33) = false := bne_eq_false_iff_eq.mpr c111
                                                clear c111
                                                have c112b0 := eq_true (of_decide_eq_true (by first | (with_reducible assumption) | assumption) : 0 ≤ a1)
                                                by_cases c113 : a1 ≤ (wrap64 (a1 + 1))
                                                · rw [if_pos c113] at H
                                                  have c113b0 := eq_true c113
                                                  have c113b1 : decide (a1 ≤ (wrap64 (a1 + 1))) = true := decide_eq_true c113
                                                  by_cases c114 : (wrap64 (a1 + 1)) ≤ (a0.size : Int)
                                                  · rw [if_pos c114] at H
                                                    have c114b0 := eq_true c114
                                                    have c114b1 : decide ((wrap64 (a1 + 1)) ≤ (a0.size : Int)) = true := decide_eq_true c114
                                                    obtain rfl := Option.some.inj H
                                                    have p38 : 0 ≤ (a1 : Int) := of_decide_eq_true (by first | (with_reducible assumption) | assumption)
                                                    have q38 : a1 < (a0.size : Int) := of_decide_eq_true (by first | (with_reducible assumption) | assumption)
                                                    have hx38 := bt_at a0 a1
                                                    replace p38 := eq_true p38
                                                    replace q38 := eq_true q38
                                                    go_wp2
                                                    go_ret
                                                    exact ⟨by first | rfl | (simp; done) | (simp [*]; done), by repeat (first | exact Drawn0.refl _ | apply Drawn0.step)⟩
                                                  · rw [if_neg c114] at H
                                                    exact absurd H (by simp)
                                                · rw [if_neg c113] at H
                                                  exact absurd H (by simp)
                                              · rw [if_neg c111] at H
                                                have c111b0 : ((bt a0 a1) == 33) = false := beq_eq_false_iff_ne.mpr c111
                                                have c111b1 : ((bt a0 a1) != 33) = true := bne_iff_ne.mpr c111
                                                by_cases c115 : (bt a0 a1) = 38
                                                · rw [if_pos c115] at H
                                                  have c115b0 : ((bt a0 a1) == 38) = true := beq_iff_eq.mpr c115
                                                  have c115b1 : ((bt a0 a1) != 38) = false := bne_eq_false_iff_eq.mpr c115
                                                  clear c115
                                                  have c116b0 := eq_true (of_decide_eq_true (by first | (with_reducible assumption) | assumption) : 0 ≤ a1)
                                                  by_cases c117 : a1 ≤ (wrap64 (a1 + 1))
                                                  · rw [if_pos c117] at H
                                                    have c117b0 := eq_true c117
                                                    have c117b1 : decide (a1 ≤ (wrap64 (a1 + 1))) = true := decide_eq_true c117
                                                    by_cases c118 : (wrap64 (a1 + 1)) ≤ (a0.size : Int)
                                                    · rw [if_pos c118] at H
                                                      have c118b0 := eq_true c118
                                                      have c118b1 : decide ((wrap64 (a1 + 1)) ≤ (a0.size : Int)) = true := decide_eq_true c118
                                                      obtain rfl := Option.some.inj H
                                                      have p38 : 0 ≤ (a1 : Int) := of_decide_eq_true (by first | (with_reducible assumption) | assumption)
                                                      have q38 : a1 < (a0.size : Int) := of_decide_eq_true (by first | (with_reducible assumption) | assumption)
                                                      have hx38 := bt_at a0 a1
                                                      replace p38 := eq_true p38
                                                      replace q38 := eq_true q38
                                                      go_wp2
                                                      go_ret
                                                      exact ⟨by first | rfl | (simp; done) | (simp [*]; done), by repeat (first | exact Drawn0.refl _ | apply Drawn0.step)⟩
                                                    · rw [if_neg c118] at H
                                                      exact absurd H (by simp)
                                                  · rw [if_neg c117] at H
                                                    exact absurd H (by simp)
                                                · rw [if_neg c115] at H
                                                  have c115b0 : ((bt a0 a1) == 38) = false := beq_eq_false_iff_ne.mpr c115
                                                  have c115b1 : ((bt a0 a1) != 38) = true := bne_iff_ne.mpr c115
                                                  obtain rfl := Option.some.inj H
                                                  have p38 : 0 ≤ (a1 : Int) := of_decide_eq_true (by first | (with_reducible assumption) | assumption)
                                                  have q38 : a1 < (a0.size : Int) := of_decide_eq_true (by first | (with_reducible assumption) | assumption)
                                                  have hx38 := bt_at a0 a1
                                                  replace p38 := eq_true p38
                                                  replace q38 := eq_true q38
                                                  go_wp2
                                                  go_ret
                                                  exact ⟨by first | rfl | (simp; done) | (simp [*]; done), by repeat (first | exact Drawn0.refl _ | apply Drawn0.step)⟩
        · rw [if_neg c37] at H
          exact absurd H (by simp)
      · rw [if_neg c36] at H
        exact absurd H (by simp)

end Go.Proofs.Ytmmjhdhgohfioaa.Gx
