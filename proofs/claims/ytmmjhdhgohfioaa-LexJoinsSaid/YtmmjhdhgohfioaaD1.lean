/-
  Written by a program for this claim: Go functions as plain functions, and that the machine's calls do just what these say.
-/
import Derived.Test.YtmmjhdhgohfioaaMX
import Derived.Test.YtmmjhdhgohfioaaC9
namespace Go.Proofs.Ytmmjhdhgohfioaa.Gx
open Go.RowKit Go.Proofs.YtmmjhdhgohfioaaW.PrintWords Go.Proofs.YtmmjhdhgohfioaaW.PrintLast Go.Proofs.YtmmjhdhgohfioaaW.PrintMore
attribute [local go_sem] max2_int min2_int max_two min_two max_three min_three max_four min_four
set_option linter.unusedVariables false
set_option linter.unusedSimpArgs false

attribute [local go_sem high] eqA31
/-! ### mortiselaw4_awake: function 13 -/
def mortiselaw4_awake.f (k : Nat)  : Option (Bool) := (lex_Lex.f k (⟨#[120, 32, 58, 61, 32, 53, 59]⟩ : ByteArray)).bind fun bt261 => ((mortiselaw4_num.f bt261.2.2).bind fun t266 => (if t266 = 0 then (if (bt261.1.length : Int) = 5 then (if 1 < (bt261.1.length : Int) then (if (((rd_T31 bt261.1 1).f0) == 5 && ((((rd_T31 bt261.1 1).f1).toList) == ([58, 61] : List UInt8) && (((rd_T31 bt261.1 1).f2) == 0 && (((rd_T31 bt261.1 1).f3) == 2)))) = true then (if 2 < (bt261.1.length : Int) then (if ((rd_T31 bt261.1 2).f2) = 5 then (if 4 < (bt261.1.length : Int) then (some (((rd_T31 bt261.1 4).f3) == 7)) else (none)) else (some false)) else (none)) else (some false)) else (none)) else (some false)) else (some false)))
theorem mortiselaw4_awake.mono : ∀ k, LeO (mortiselaw4_awake.f k ) (mortiselaw4_awake.f (k + 1) ) := by
  intro  k
  unfold mortiselaw4_awake.f
  repeat' first
      | (with_reducible exact lex_Lex.mono _ _)
      | (with_reducible exact LeO.refl _)
      | (with_reducible exact LeO.none _)
      | (with_reducible refine LeO.ite ?_ ?_)
      | (with_reducible refine LeO.bind ?_ (fun _ => ?_))
      | exact lex_Lex.mono _ _
      | exact LeO.none _
      | refine LeO.ite ?_ ?_
      | refine LeO.bind ?_ (fun _ => ?_)
set_option maxHeartbeats 8000000 in
set_option maxRecDepth 100000 in
theorem mortiselaw4_awake.calls (k : Nat)  (r : Bool) (w : World) (h : mortiselaw4_awake.f k  = some r) :
    Calls Try.prog 13 #[] w fun e w' => e = .returned (.bool r) ∧ Below w.heap.size w w' := by
  have hu31 := Try.underlying31
  have HB := Aside0.mk (Below.refl w.heap.size w)
  have H : ((lex_Lex.f k (⟨#[120, 32, 58, 61, 32, 53, 59]⟩ : ByteArray)).bind fun bt261 => ((mortiselaw4_num.f bt261.2.2).bind fun t266 => (if t266 = 0 then (if (bt261.1.length : Int) = 5 then (if 1 < (bt261.1.length : Int) then (if (((rd_T31 bt261.1 1).f0) == 5 && ((((rd_T31 bt261.1 1).f1).toList) == ([58, 61] : List UInt8) && (((rd_T31 bt261.1 1).f2) == 0 && (((rd_T31 bt261.1 1).f3) == 2)))) = true then (if 2 < (bt261.1.length : Int) then (if ((rd_T31 bt261.1 2).f2) = 5 then (if 4 < (bt261.1.length : Int) then (some (((rd_T31 bt261.1 4).f3) == 7)) else (none)) else (some false)) else (none)) else (some false)) else (none)) else (some false)) else (some false)))) = some r := h
  clear h
  replace H := Option.bind_eq_some_iff.mp H
  obtain ⟨⟨t261, t262, t263⟩, A10, H⟩ := H
  replace H : ((mortiselaw4_num.f t263).bind fun t266 => (if t266 = 0 then (if (t261.length : Int) = 5 then (if 1 < (t261.length : Int) then (if (((rd_T31 t261 1).f0) == 5 && ((((rd_T31 t261 1).f1).toList) == ([58, 61] : List UInt8) && (((rd_T31 t261 1).f2) == 0 && (((rd_T31 t261 1).f3) == 2)))) = true then (if 2 < (t261.length : Int) then (if ((rd_T31 t261 2).f2) = 5 then (if 4 < (t261.length : Int) then (some (((rd_T31 t261 4).f3) == 7)) else (none)) else (some false)) else (none)) else (some false)) else (none)) else (some false)) else (some false))) = some r := H
  have A1 := Aside0.mk A10
  clear A10
  replace H := Option.bind_eq_some_iff.mp H
  obtain ⟨t266, A20, H⟩ := H
  replace H : (if t266 = 0 then (if (t261.length : Int) = 5 then (if 1 < (t261.length : Int) then (if (((rd_T31 t261 1).f0) == 5 && ((((rd_T31 t261 1).f1).toList) == ([58, 61] : List UInt8) && (((rd_T31 t261 1).f2) == 0 && (((rd_T31 t261 1).f3) == 2)))) = true then (if 2 < (t261.length : Int) then (if ((rd_T31 t261 2).f2) = 5 then (if 4 < (t261.length : Int) then (some (((rd_T31 t261 4).f3) == 7)) else (none)) else (some false)) else (none)) else (some false)) else (none)) else (some false)) else (some false)) = some r := H
  have A2 := Aside0.mk A20
  clear A20
  by_cases c3 : t266 = 0
  · rw [if_pos c3] at H
    have c3b0 : (t266 == 0) = true := beq_iff_eq.mpr c3
    have c3b1 : (t266 != 0) = false := bne_eq_false_iff_eq.mpr c3
    clear c3
    by_cases c4 : (t261.length : Int) = 5
    · rw [if_pos c4] at H
      have c4b0 : ((t261.length : Int) == 5) = true := beq_iff_eq.mpr c4
      have c4b1 : ((t261.length : Int) != 5) = false := bne_eq_false_iff_eq.mpr c4
      clear c4
      by_cases c5 : 1 < (t261.length : Int)
      · rw [if_pos c5] at H
        have c5b0 : decide (1 < (t261.length : Int)) = true := decide_eq_true c5
        have c5b1 : decide (1 < t261.length) = true := decide_eq_true (by omega)
        clear c5
        by_cases c6 : (((rd_T31 t261 1).f0) == 5 && ((((rd_T31 t261 1).f1).toList) == ([58, 61] : List UInt8) && (((rd_T31 t261 1).f2) == 0 && (((rd_T31 t261 1).f3) == 2)))) = true
        · rw [if_pos c6] at H
          have c6b0 : (((rd_T31 t261 1).f0) == 5 && ((((rd_T31 t261 1).f1).toList) == ([58, 61] : List UInt8) && (((rd_T31 t261 1).f2) == 0 && (((rd_T31 t261 1).f3) == 2)))) = true := c6
          (try (have c6b1 : decide (((rd_T31 t261 1).f0) = 5 && ((((rd_T31 t261 1).f1).toList) == ([58, 61] : List UInt8) && (((rd_T31 t261 1).f2) == 0 && (((rd_T31 t261 1).f3) == 2)))) = true := by simpa using c6))
          (try (have c6b2 : (((rd_T31 t261 1).f0) == 5 && ((((rd_T31 t261 1).f1).toList) == ([58, 61] : List UInt8) && (((rd_T31 t261 1).f2) == 0 && (((rd_T31 t261 1).f3) == 2)))) = true := by simpa using c6))
          clear c6
          by_cases c7 : 2 < (t261.length : Int)
          · rw [if_pos c7] at H
            have c7b0 : decide (2 < (t261.length : Int)) = true := decide_eq_true c7
            have c7b1 : decide (2 < t261.length) = true := decide_eq_true (by omega)
            clear c7
            by_cases c8 : ((rd_T31 t261 2).f2) = 5
            · rw [if_pos c8] at H
              have c8b0 : (((rd_T31 t261 2).f2) == 5) = true := beq_iff_eq.mpr c8
              have c8b1 : (((rd_T31 t261 2).f2) != 5) = false := bne_eq_false_iff_eq.mpr c8
              clear c8
              by_cases c9 : 4 < (t261.length : Int)
              · rw [if_pos c9] at H
                have c9b0 : decide (4 < (t261.length : Int)) = true := decide_eq_true c9
                have c9b1 : decide (4 < t261.length) = true := decide_eq_true (by omega)
                clear c9
                obtain rfl := Option.some.inj H
                go_enter Try.func13, Try.ntmps13
                go_wp2_with (first | ((with_reducible refine gate_callee (f := 9) rfl ?_); refine goesL_ (some 5) rfl rfl Try.func9 (by kernel_rfl) rfl #[.string (⟨#[120, 32, 58, 61, 32, 53, 59]⟩ : ByteArray)] rfl (by (try simp only [List.map_toArray, List.map_cons, List.map_nil]); first | done | rfl | (simp only [List.length_drop, List.length_take]; rfl)) ?_; (with_reducible refine (lex_Lex.calls k (⟨#[120, 32, 58, 61, 32, 53, 59]⟩ : ByteArray) t261 t262 t263 _ A1.out).mono ?_); rintro e w10 ⟨v264, rfl, ho0, hb⟩; refine ⟨_, rfl, ?_⟩; have n0_ := Aside0.mk (Kd.R_lower ho0 (below_size (by repeat (first | (with_reducible first | exact HB.out | apply below_alloc | apply pw_below_drewN | apply below_drew1) | exact HB.out)))); have n1_ := Aside0.mk (below_step (by repeat (first | (with_reducible first | exact HB.out | apply below_alloc | apply pw_below_drewN | apply below_drew1) | exact HB.out)) hb); clear HB; have HO265 := n0_; have HB := n1_; clear n0_ n1_; (try clear hb); (try clear hb2); (try clear hk); (try clear hi); (try clear ho0)) | ((with_reducible refine gate_callee (f := 12) rfl ?_); refine goesL_ (some 10) rfl rfl Try.func12 (by kernel_rfl) rfl #[.int .i64 t263] rfl (by (try simp only [List.map_toArray, List.map_cons, List.map_nil]); first | done | rfl | (simp only [List.length_drop, List.length_take]; rfl)) ?_; (with_reducible refine (mortiselaw4_num.calls t263 t266 _ A2.out).mono ?_); rintro e w' ⟨rfl, ⟨nd, rfl⟩⟩; refine ⟨_, rfl, ?_⟩; obtain ⟨Ao11, co11, eo11⟩ := Kd.R_slice HO265.out; subst eo11; have p267 : 0 ≤ (1 : Int) := (by omega); have q267 : 1 < (t261.length : Int) := of_decide_eq_true (by first | (with_reducible assumption) | assumption); obtain ⟨ad267, e267, hx267_0, hx267_1, hx267_2, hx267_3⟩ := at_T31 (Kd.R_reads' HO265.out).2.2 1 p267 q267; cases e267; (try simp only [show (1 : Int).toNat = 1 from rfl, Nat.reduceMul, Nat.reduceEqDiff, Go.Addr.add, ↓reduceIte] at hx267_0); (try simp only [show (1 : Int).toNat = 1 from rfl, Nat.reduceMul, Nat.reduceEqDiff, Go.Addr.add, ↓reduceIte] at hx267_1); (try simp only [show (1 : Int).toNat = 1 from rfl, Nat.reduceMul, Nat.reduceEqDiff, Go.Addr.add, ↓reduceIte] at hx267_2); (try simp only [show (1 : Int).toNat = 1 from rfl, Nat.reduceMul, Nat.reduceEqDiff, Go.Addr.add, ↓reduceIte] at hx267_3); have qi267 : (1 < t261.length) = True := eq_true (by omega); (try rw [show ((1 : Int)).toNat = 1 from rfl] at hx267_0); (try rw [show 1 * 4 = 4 from rfl] at hx267_0); (try rw [show ((1 : Int)).toNat = 1 from rfl] at hx267_1); (try rw [show 1 * 4 = 4 from rfl] at hx267_1); (try rw [show ((1 : Int)).toNat = 1 from rfl] at hx267_2); (try rw [show 1 * 4 = 4 from rfl] at hx267_2); (try rw [show ((1 : Int)).toNat = 1 from rfl] at hx267_3); (try rw [show 1 * 4 = 4 from rfl] at hx267_3); replace p267 := eq_true p267; replace q267 := eq_true q267; have p268 : 0 ≤ (2 : Int) := (by omega); have q268 : 2 < (t261.length : Int) := of_decide_eq_true (by first | (with_reducible assumption) | assumption); obtain ⟨ad268, e268, hx268_0, hx268_1, hx268_2, hx268_3⟩ := at_T31 (Kd.R_reads' HO265.out).2.2 2 p268 q268; obtain rfl : ad267 = ad268 := (by injection e268); (try simp only [show (2 : Int).toNat = 2 from rfl, Nat.reduceMul, Nat.reduceEqDiff, Go.Addr.add, ↓reduceIte] at hx268_0); (try simp only [show (2 : Int).toNat = 2 from rfl, Nat.reduceMul, Nat.reduceEqDiff, Go.Addr.add, ↓reduceIte] at hx268_1); (try simp only [show (2 : Int).toNat = 2 from rfl, Nat.reduceMul, Nat.reduceEqDiff, Go.Addr.add, ↓reduceIte] at hx268_2); (try simp only [show (2 : Int).toNat = 2 from rfl, Nat.reduceMul, Nat.reduceEqDiff, Go.Addr.add, ↓reduceIte] at hx268_3); have qi268 : (2 < t261.length) = True := eq_true (by omega); (try rw [show ((2 : Int)).toNat = 2 from rfl] at hx268_0); (try rw [show 2 * 4 = 8 from rfl] at hx268_0); (try rw [show ((2 : Int)).toNat = 2 from rfl] at hx268_1); (try rw [show 2 * 4 = 8 from rfl] at hx268_1); (try rw [show ((2 : Int)).toNat = 2 from rfl] at hx268_2); (try rw [show 2 * 4 = 8 from rfl] at hx268_2); (try rw [show ((2 : Int)).toNat = 2 from rfl] at hx268_3); (try rw [show 2 * 4 = 8 from rfl] at hx268_3); replace p268 := eq_true p268; replace q268 := eq_true q268; have p269 : 0 ≤ (4 : Int) := (by omega); have q269 : 4 < (t261.length : Int) := of_decide_eq_true (by first | (with_reducible assumption) | assumption); obtain ⟨ad269, e269, hx269_0, hx269_1, hx269_2, hx269_3⟩ := at_T31 (Kd.R_reads' HO265.out).2.2 4 p269 q269; obtain rfl : ad267 = ad269 := (by injection e269); (try simp only [show (4 : Int).toNat = 4 from rfl, Nat.reduceMul, Nat.reduceEqDiff, Go.Addr.add, ↓reduceIte] at hx269_0); (try simp only [show (4 : Int).toNat = 4 from rfl, Nat.reduceMul, Nat.reduceEqDiff, Go.Addr.add, ↓reduceIte] at hx269_1); (try simp only [show (4 : Int).toNat = 4 from rfl, Nat.reduceMul, Nat.reduceEqDiff, Go.Addr.add, ↓reduceIte] at hx269_2); (try simp only [show (4 : Int).toNat = 4 from rfl, Nat.reduceMul, Nat.reduceEqDiff, Go.Addr.add, ↓reduceIte] at hx269_3); have qi269 : (4 < t261.length) = True := eq_true (by omega); (try rw [show ((4 : Int)).toNat = 4 from rfl] at hx269_0); (try rw [show 4 * 4 = 16 from rfl] at hx269_0); (try rw [show ((4 : Int)).toNat = 4 from rfl] at hx269_1); (try rw [show 4 * 4 = 16 from rfl] at hx269_1); (try rw [show ((4 : Int)).toNat = 4 from rfl] at hx269_2); (try rw [show 4 * 4 = 16 from rfl] at hx269_2); (try rw [show ((4 : Int)).toNat = 4 from rfl] at hx269_3); (try rw [show 4 * 4 = 16 from rfl] at hx269_3); replace p269 := eq_true p269; replace q269 := eq_true q269))
                go_ret
                exact ⟨by first | rfl | (simp [errW_none, errW_some] <;> rfl) | (simp [*, errW_none, errW_some] <;> rfl), by repeat (first | (with_reducible first | exact HB.out | apply below_alloc | apply pw_below_drewN | apply below_drew1) | exact HB.out)⟩
              · rw [if_neg c9] at H
                exact absurd H (by simp)
            · rw [if_neg c8] at H
              have c8b0 : (((rd_T31 t261 2).f2) == 5) = false := beq_eq_false_iff_ne.mpr c8
              have c8b1 : (((rd_T31 t261 2).f2) != 5) = true := bne_iff_ne.mpr c8
              obtain rfl := Option.some.inj H
              go_enter Try.func13, Try.ntmps13
              go_wp2_with (first | ((with_reducible refine gate_callee (f := 9) rfl ?_); refine goesL_ (some 5) rfl rfl Try.func9 (by kernel_rfl) rfl #[.string (⟨#[120, 32, 58, 61, 32, 53, 59]⟩ : ByteArray)] rfl (by (try simp only [List.map_toArray, List.map_cons, List.map_nil]); first | done | rfl | (simp only [List.length_drop, List.length_take]; rfl)) ?_; (with_reducible refine (lex_Lex.calls k (⟨#[120, 32, 58, 61, 32, 53, 59]⟩ : ByteArray) t261 t262 t263 _ A1.out).mono ?_); rintro e w12 ⟨v264, rfl, ho0, hb⟩; refine ⟨_, rfl, ?_⟩; have n0_ := Aside0.mk (Kd.R_lower ho0 (below_size (by repeat (first | (with_reducible first | exact HB.out | apply below_alloc | apply pw_below_drewN | apply below_drew1) | exact HB.out)))); have n1_ := Aside0.mk (below_step (by repeat (first | (with_reducible first | exact HB.out | apply below_alloc | apply pw_below_drewN | apply below_drew1) | exact HB.out)) hb); clear HB; have HO265 := n0_; have HB := n1_; clear n0_ n1_; (try clear hb); (try clear hb2); (try clear hk); (try clear hi); (try clear ho0)) | ((with_reducible refine gate_callee (f := 12) rfl ?_); refine goesL_ (some 10) rfl rfl Try.func12 (by kernel_rfl) rfl #[.int .i64 t263] rfl (by (try simp only [List.map_toArray, List.map_cons, List.map_nil]); first | done | rfl | (simp only [List.length_drop, List.length_take]; rfl)) ?_; (with_reducible refine (mortiselaw4_num.calls t263 t266 _ A2.out).mono ?_); rintro e w' ⟨rfl, ⟨nd, rfl⟩⟩; refine ⟨_, rfl, ?_⟩; obtain ⟨Ao13, co13, eo13⟩ := Kd.R_slice HO265.out; subst eo13; have p267 : 0 ≤ (1 : Int) := (by omega); have q267 : 1 < (t261.length : Int) := of_decide_eq_true (by first | (with_reducible assumption) | assumption); obtain ⟨ad267, e267, hx267_0, hx267_1, hx267_2, hx267_3⟩ := at_T31 (Kd.R_reads' HO265.out).2.2 1 p267 q267; cases e267; (try simp only [show (1 : Int).toNat = 1 from rfl, Nat.reduceMul, Nat.reduceEqDiff, Go.Addr.add, ↓reduceIte] at hx267_0); (try simp only [show (1 : Int).toNat = 1 from rfl, Nat.reduceMul, Nat.reduceEqDiff, Go.Addr.add, ↓reduceIte] at hx267_1); (try simp only [show (1 : Int).toNat = 1 from rfl, Nat.reduceMul, Nat.reduceEqDiff, Go.Addr.add, ↓reduceIte] at hx267_2); (try simp only [show (1 : Int).toNat = 1 from rfl, Nat.reduceMul, Nat.reduceEqDiff, Go.Addr.add, ↓reduceIte] at hx267_3); have qi267 : (1 < t261.length) = True := eq_true (by omega); (try rw [show ((1 : Int)).toNat = 1 from rfl] at hx267_0); (try rw [show 1 * 4 = 4 from rfl] at hx267_0); (try rw [show ((1 : Int)).toNat = 1 from rfl] at hx267_1); (try rw [show 1 * 4 = 4 from rfl] at hx267_1); (try rw [show ((1 : Int)).toNat = 1 from rfl] at hx267_2); (try rw [show 1 * 4 = 4 from rfl] at hx267_2); (try rw [show ((1 : Int)).toNat = 1 from rfl] at hx267_3); (try rw [show 1 * 4 = 4 from rfl] at hx267_3); replace p267 := eq_true p267; replace q267 := eq_true q267; have p268 : 0 ≤ (2 : Int) := (by omega); have q268 : 2 < (t261.length : Int) := of_decide_eq_true (by first | (with_reducible assumption) | assumption); obtain ⟨ad268, e268, hx268_0, hx268_1, hx268_2, hx268_3⟩ := at_T31 (Kd.R_reads' HO265.out).2.2 2 p268 q268; obtain rfl : ad267 = ad268 := (by injection e268); (try simp only [show (2 : Int).toNat = 2 from rfl, Nat.reduceMul, Nat.reduceEqDiff, Go.Addr.add, ↓reduceIte] at hx268_0); (try simp only [show (2 : Int).toNat = 2 from rfl, Nat.reduceMul, Nat.reduceEqDiff, Go.Addr.add, ↓reduceIte] at hx268_1); (try simp only [show (2 : Int).toNat = 2 from rfl, Nat.reduceMul, Nat.reduceEqDiff, Go.Addr.add, ↓reduceIte] at hx268_2); (try simp only [show (2 : Int).toNat = 2 from rfl, Nat.reduceMul, Nat.reduceEqDiff, Go.Addr.add, ↓reduceIte] at hx268_3); have qi268 : (2 < t261.length) = True := eq_true (by omega); (try rw [show ((2 : Int)).toNat = 2 from rfl] at hx268_0); (try rw [show 2 * 4 = 8 from rfl] at hx268_0); (try rw [show ((2 : Int)).toNat = 2 from rfl] at hx268_1); (try rw [show 2 * 4 = 8 from rfl] at hx268_1); (try rw [show ((2 : Int)).toNat = 2 from rfl] at hx268_2); (try rw [show 2 * 4 = 8 from rfl] at hx268_2); (try rw [show ((2 : Int)).toNat = 2 from rfl] at hx268_3); (try rw [show 2 * 4 = 8 from rfl] at hx268_3); replace p268 := eq_true p268; replace q268 := eq_true q268))
              go_ret
              exact ⟨by first | rfl | (simp [errW_none, errW_some] <;> rfl) | (simp [*, errW_none, errW_some] <;> rfl), by repeat (first | (with_reducible first | exact HB.out | apply below_alloc | apply pw_below_drewN | apply below_drew1) | exact HB.out)⟩
          · rw [if_neg c7] at H
            exact absurd H (by simp)
        · rw [if_neg c6] at H
          have c6b0 : (((rd_T31 t261 1).f0) == 5 && ((((rd_T31 t261 1).f1).toList) == ([58, 61] : List UInt8) && (((rd_T31 t261 1).f2) == 0 && (((rd_T31 t261 1).f3) == 2)))) = false := by simpa using c6
          (try (have c6b1 : decide (((rd_T31 t261 1).f0) = 5 && ((((rd_T31 t261 1).f1).toList) == ([58, 61] : List UInt8) && (((rd_T31 t261 1).f2) == 0 && (((rd_T31 t261 1).f3) == 2)))) = false := by simpa using c6))
          (try (have c6b2 : (((rd_T31 t261 1).f0) == 5 && ((((rd_T31 t261 1).f1).toList) == ([58, 61] : List UInt8) && (((rd_T31 t261 1).f2) == 0 && (((rd_T31 t261 1).f3) == 2)))) = false := by simpa using c6))
          (try (have c6b3 : ¬ (((rd_T31 t261 1).f0) = 5 && ((((rd_T31 t261 1).f1).toList) == ([58, 61] : List UInt8) && (((rd_T31 t261 1).f2) == 0 && (((rd_T31 t261 1).f3) == 2)))) := by simpa using c6))
          clear c6
          obtain rfl := Option.some.inj H
          go_enter Try.func13, Try.ntmps13
          go_wp2_with (first | ((with_reducible refine gate_callee (f := 9) rfl ?_); refine goesL_ (some 5) rfl rfl Try.func9 (by kernel_rfl) rfl #[.string (⟨#[120, 32, 58, 61, 32, 53, 59]⟩ : ByteArray)] rfl (by (try simp only [List.map_toArray, List.map_cons, List.map_nil]); first | done | rfl | (simp only [List.length_drop, List.length_take]; rfl)) ?_; (with_reducible refine (lex_Lex.calls k (⟨#[120, 32, 58, 61, 32, 53, 59]⟩ : ByteArray) t261 t262 t263 _ A1.out).mono ?_); rintro e w14 ⟨v264, rfl, ho0, hb⟩; refine ⟨_, rfl, ?_⟩; have n0_ := Aside0.mk (Kd.R_lower ho0 (below_size (by repeat (first | (with_reducible first | exact HB.out | apply below_alloc | apply pw_below_drewN | apply below_drew1) | exact HB.out)))); have n1_ := Aside0.mk (below_step (by repeat (first | (with_reducible first | exact HB.out | apply below_alloc | apply pw_below_drewN | apply below_drew1) | exact HB.out)) hb); clear HB; have HO265 := n0_; have HB := n1_; clear n0_ n1_; (try clear hb); (try clear hb2); (try clear hk); (try clear hi); (try clear ho0)) | ((with_reducible refine gate_callee (f := 12) rfl ?_); refine goesL_ (some 10) rfl rfl Try.func12 (by kernel_rfl) rfl #[.int .i64 t263] rfl (by (try simp only [List.map_toArray, List.map_cons, List.map_nil]); first | done | rfl | (simp only [List.length_drop, List.length_take]; rfl)) ?_; (with_reducible refine (mortiselaw4_num.calls t263 t266 _ A2.out).mono ?_); rintro e w' ⟨rfl, ⟨nd, rfl⟩⟩; refine ⟨_, rfl, ?_⟩; obtain ⟨Ao15, co15, eo15⟩ := Kd.R_slice HO265.out; subst eo15; have p267 : 0 ≤ (1 : Int) := (by omega); have q267 : 1 < (t261.length : Int) := of_decide_eq_true (by first | (with_reducible assumption) | assumption); obtain ⟨ad267, e267, hx267_0, hx267_1, hx267_2, hx267_3⟩ := at_T31 (Kd.R_reads' HO265.out).2.2 1 p267 q267; cases e267; (try simp only [show (1 : Int).toNat = 1 from rfl, Nat.reduceMul, Nat.reduceEqDiff, Go.Addr.add, ↓reduceIte] at hx267_0); (try simp only [show (1 : Int).toNat = 1 from rfl, Nat.reduceMul, Nat.reduceEqDiff, Go.Addr.add, ↓reduceIte] at hx267_1); (try simp only [show (1 : Int).toNat = 1 from rfl, Nat.reduceMul, Nat.reduceEqDiff, Go.Addr.add, ↓reduceIte] at hx267_2); (try simp only [show (1 : Int).toNat = 1 from rfl, Nat.reduceMul, Nat.reduceEqDiff, Go.Addr.add, ↓reduceIte] at hx267_3); have qi267 : (1 < t261.length) = True := eq_true (by omega); (try rw [show ((1 : Int)).toNat = 1 from rfl] at hx267_0); (try rw [show 1 * 4 = 4 from rfl] at hx267_0); (try rw [show ((1 : Int)).toNat = 1 from rfl] at hx267_1); (try rw [show 1 * 4 = 4 from rfl] at hx267_1); (try rw [show ((1 : Int)).toNat = 1 from rfl] at hx267_2); (try rw [show 1 * 4 = 4 from rfl] at hx267_2); (try rw [show ((1 : Int)).toNat = 1 from rfl] at hx267_3); (try rw [show 1 * 4 = 4 from rfl] at hx267_3); replace p267 := eq_true p267; replace q267 := eq_true q267))
          go_ret
          exact ⟨by first | rfl | (simp [errW_none, errW_some] <;> rfl) | (simp [*, errW_none, errW_some] <;> rfl), by repeat (first | (with_reducible first | exact HB.out | apply below_alloc | apply pw_below_drewN | apply below_drew1) | exact HB.out)⟩
      · rw [if_neg c5] at H
        exact absurd H (by simp)
    · rw [if_neg c4] at H
      have c4b0 : ((t261.length : Int) == 5) = false := beq_eq_false_iff_ne.mpr c4
      have c4b1 : ((t261.length : Int) != 5) = true := bne_iff_ne.mpr c4
      obtain rfl := Option.some.inj H
      go_enter Try.func13, Try.ntmps13
      go_wp2_with (first | ((with_reducible refine gate_callee (f := 9) rfl ?_); refine goesL_ (some 5) rfl rfl Try.func9 (by kernel_rfl) rfl #[.string (⟨#[120, 32, 58, 61, 32, 53, 59]⟩ : ByteArray)] rfl (by (try simp only [List.map_toArray, List.map_cons, List.map_nil]); first | done | rfl | (simp only [List.length_drop, List.length_take]; rfl)) ?_; (with_reducible refine (lex_Lex.calls k (⟨#[120, 32, 58, 61, 32, 53, 59]⟩ : ByteArray) t261 t262 t263 _ A1.out).mono ?_); rintro e w16 ⟨v264, rfl, ho0, hb⟩; refine ⟨_, rfl, ?_⟩; have n0_ := Aside0.mk (Kd.R_lower ho0 (below_size (by repeat (first | (with_reducible first | exact HB.out | apply below_alloc | apply pw_below_drewN | apply below_drew1) | exact HB.out)))); have n1_ := Aside0.mk (below_step (by repeat (first | (with_reducible first | exact HB.out | apply below_alloc | apply pw_below_drewN | apply below_drew1) | exact HB.out)) hb); clear HB; have HO265 := n0_; have HB := n1_; clear n0_ n1_; (try clear hb); (try clear hb2); (try clear hk); (try clear hi); (try clear ho0)) | ((with_reducible refine gate_callee (f := 12) rfl ?_); refine goesL_ (some 10) rfl rfl Try.func12 (by kernel_rfl) rfl #[.int .i64 t263] rfl (by (try simp only [List.map_toArray, List.map_cons, List.map_nil]); first | done | rfl | (simp only [List.length_drop, List.length_take]; rfl)) ?_; (with_reducible refine (mortiselaw4_num.calls t263 t266 _ A2.out).mono ?_); rintro e w' ⟨rfl, ⟨nd, rfl⟩⟩; refine ⟨_, rfl, ?_⟩; obtain ⟨Ao17, co17, eo17⟩ := Kd.R_slice HO265.out; subst eo17))
      go_ret
      exact ⟨by first | rfl | (simp [errW_none, errW_some] <;> rfl) | (simp [*, errW_none, errW_some] <;> rfl), by repeat (first | (with_reducible first | exact HB.out | apply below_alloc | apply pw_below_drewN | apply below_drew1) | exact HB.out)⟩
  · rw [if_neg c3] at H
    have c3b0 : (t266 == 0) = false := beq_eq_false_iff_ne.mpr c3
    have c3b1 : (t266 != 0) = true := bne_iff_ne.mpr c3
    obtain rfl := Option.some.inj H
    go_enter Try.func13, Try.ntmps13
    go_wp2_with (first | ((with_reducible refine gate_callee (f := 9) rfl ?_); refine goesL_ (some 5) rfl rfl Try.func9 (by kernel_rfl) rfl #[.string (⟨#[120, 32, 58, 61, 32, 53, 59]⟩ : ByteArray)] rfl (by (try simp only [List.map_toArray, List.map_cons, List.map_nil]); first | done | rfl | (simp only [List.length_drop, List.length_take]; rfl)) ?_; (with_reducible refine (lex_Lex.calls k (⟨#[120, 32, 58, 61, 32, 53, 59]⟩ : ByteArray) t261 t262 t263 _ A1.out).mono ?_); rintro e w18 ⟨v264, rfl, ho0, hb⟩; refine ⟨_, rfl, ?_⟩; have n0_ := Aside0.mk (Kd.R_lower ho0 (below_size (by repeat (first | (with_reducible first | exact HB.out | apply below_alloc | apply pw_below_drewN | apply below_drew1) | exact HB.out)))); have n1_ := Aside0.mk (below_step (by repeat (first | (with_reducible first | exact HB.out | apply below_alloc | apply pw_below_drewN | apply below_drew1) | exact HB.out)) hb); clear HB; have HO265 := n0_; have HB := n1_; clear n0_ n1_; (try clear hb); (try clear hb2); (try clear hk); (try clear hi); (try clear ho0)) | ((with_reducible refine gate_callee (f := 12) rfl ?_); refine goesL_ (some 10) rfl rfl Try.func12 (by kernel_rfl) rfl #[.int .i64 t263] rfl (by (try simp only [List.map_toArray, List.map_cons, List.map_nil]); first | done | rfl | (simp only [List.length_drop, List.length_take]; rfl)) ?_; (with_reducible refine (mortiselaw4_num.calls t263 t266 _ A2.out).mono ?_); rintro e w' ⟨rfl, ⟨nd, rfl⟩⟩; refine ⟨_, rfl, ?_⟩))
    go_ret
    exact ⟨by first | rfl | (simp [errW_none, errW_some] <;> rfl) | (simp [*, errW_none, errW_some] <;> rfl), by repeat (first | (with_reducible first | exact HB.out | apply below_alloc | apply pw_below_drewN | apply below_drew1) | exact HB.out)⟩

end Go.Proofs.Ytmmjhdhgohfioaa.Gx
