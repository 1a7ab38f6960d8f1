/-
  Written by a program for this claim: Go functions as plain functions, and that the machine's calls do just what these say.
-/
import Derived.Test.YtlaccolldbnbaaaDoorE1
import Derived.Test.YtlaccolldbnbaaaDoorTX
import Derived.Test.YtlaccolldbnbaaaDoorN1
namespace Go.Proofs.YtlaccolldbnbaaaDoor.Gx
open Go.RowKit Go.Proofs.YtlaccolldbnbaaaDoorW.PrintWords Go.Proofs.YtlaccolldbnbaaaDoorW.PrintLast Go.Proofs.YtlaccolldbnbaaaDoorW.PrintMore
attribute [local go_sem] max2_int min2_int max_two min_two max_three min_three max_four min_four
set_option linter.unusedVariables false
set_option linter.unusedSimpArgs false

/-! ### mortiselaw2_awake: function 13 -/
def mortiselaw2_awake.f (k : Nat)  : Option (Bool) := (isa_Encode.f k 3 3 0 0 (-1)).bind fun bt162 => ((mortiselaw2_num.f bt162.2).bind fun t164 => (if t164 = 0 then (if bt162.1 = 229683585290862591 then ((isa_Text.f k 3 3 0 0 (-1)).bind fun t165 => (some (t165.toList == ([99, 111, 110, 115, 116, 32, 114, 51, 32, 45, 49] : List UInt8)))) else (some false)) else (some false)))
theorem mortiselaw2_awake.mono : ∀ k, LeO (mortiselaw2_awake.f k ) (mortiselaw2_awake.f (k + 1) ) := by
  intro  k
  unfold mortiselaw2_awake.f
  repeat' first
      | (with_reducible exact isa_Encode.mono _ _ _ _ _ _)
      | (with_reducible exact isa_Text.mono _ _ _ _ _ _)
      | (with_reducible exact LeO.refl _)
      | (with_reducible exact LeO.none _)
      | (with_reducible refine LeO.ite ?_ ?_)
      | (with_reducible refine LeO.bind ?_ (fun _ => ?_))
      | exact isa_Encode.mono _ _ _ _ _ _
      | exact isa_Text.mono _ _ _ _ _ _
      | exact LeO.none _
      | refine LeO.ite ?_ ?_
      | refine LeO.bind ?_ (fun _ => ?_)
set_option maxHeartbeats 8000000 in
set_option maxRecDepth 100000 in
theorem mortiselaw2_awake.calls (k : Nat)  (r : Bool) (w : World) (ht : TabW w) (h : mortiselaw2_awake.f k  = some r) :
    Calls Tryd.prog 13 #[] w fun e w' => e = .returned (.bool r) ∧ Below w.heap.size w w' := by
  have hu23 := Tryd.underlying23
  have HB := Aside0.mk (Below.refl w.heap.size w)
  have HT := Aside0.mk ht
  clear ht
  have H : ((isa_Encode.f k 3 3 0 0 (-1)).bind fun bt162 => ((mortiselaw2_num.f bt162.2).bind fun t164 => (if t164 = 0 then (if bt162.1 = 229683585290862591 then ((isa_Text.f k 3 3 0 0 (-1)).bind fun t165 => (some (t165.toList == ([99, 111, 110, 115, 116, 32, 114, 51, 32, 45, 49] : List UInt8)))) else (some false)) else (some false)))) = some r := h
  clear h
  replace H := Option.bind_eq_some_iff.mp H
  obtain ⟨⟨t162, t163⟩, A10, H⟩ := H
  replace H : ((mortiselaw2_num.f t163).bind fun t164 => (if t164 = 0 then (if t162 = 229683585290862591 then ((isa_Text.f k 3 3 0 0 (-1)).bind fun t165 => (some (t165.toList == ([99, 111, 110, 115, 116, 32, 114, 51, 32, 45, 49] : List UInt8)))) else (some false)) else (some false))) = some r := H
  have A1 := Aside0.mk A10
  clear A10
  replace H := Option.bind_eq_some_iff.mp H
  obtain ⟨t164, A20, H⟩ := H
  replace H : (if t164 = 0 then (if t162 = 229683585290862591 then ((isa_Text.f k 3 3 0 0 (-1)).bind fun t165 => (some (t165.toList == ([99, 111, 110, 115, 116, 32, 114, 51, 32, 45, 49] : List UInt8)))) else (some false)) else (some false)) = some r := H
  have A2 := Aside0.mk A20
  clear A20
  by_cases c3 : t164 = 0
  · rw [if_pos c3] at H
    have c3b0 : (t164 == 0) = true := beq_iff_eq.mpr c3
    have c3b1 : (t164 != 0) = false := bne_eq_false_iff_eq.mpr c3
    clear c3
    by_cases c4 : t162 = 229683585290862591
    · rw [if_pos c4] at H
      have c4b0 : (t162 == 229683585290862591) = true := beq_iff_eq.mpr c4
      have c4b1 : (t162 != 229683585290862591) = false := bne_eq_false_iff_eq.mpr c4
      clear c4
      replace H := Option.bind_eq_some_iff.mp H
      obtain ⟨t165, A50, H⟩ := H
      replace H : (some (t165.toList == ([99, 111, 110, 115, 116, 32, 114, 51, 32, 45, 49] : List UInt8))) = some r := H
      have A5 := Aside0.mk A50
      clear A50
      obtain rfl := Option.some.inj H
      go_enter Tryd.func13, Tryd.ntmps13
      go_wp2_with (first | ((with_reducible refine gate_callee (f := 10) rfl ?_); refine goesL_ (some 5) rfl rfl Tryd.func10 (by kernel_rfl) rfl #[.agg #[.int .i64 3, .int .i64 3, .int .i64 0, .int .i64 0, .int .i64 (-1)]] rfl (by (try simp only [List.map_toArray, List.map_cons, List.map_nil]); first | done | rfl | (simp only [List.length_drop, List.length_take]; rfl)) ?_; (with_reducible refine (isa_Encode.calls k 3 3 0 0 (-1) t162 t163 _ A1.out).mono ?_); rintro e w6 ⟨rfl, hb⟩; refine ⟨_, rfl, ?_⟩; have n0_ := Aside0.mk (below_step (by repeat (first | (with_reducible first | exact HB.out | apply below_alloc | apply pw_below_drewN | apply below_drew1) | exact HB.out)) hb); clear HB; have HB := n0_; clear n0_; (try clear hb); (try clear hb2); (try clear hk); (try clear hi)) | ((with_reducible refine gate_callee (f := 12) rfl ?_); refine goesL_ (some 9) rfl rfl Tryd.func12 (by kernel_rfl) rfl #[.int .i64 t163] rfl (by (try simp only [List.map_toArray, List.map_cons, List.map_nil]); first | done | rfl | (simp only [List.length_drop, List.length_take]; rfl)) ?_; (with_reducible refine (mortiselaw2_num.calls t163 t164 _ A2.out).mono ?_); rintro e w' ⟨rfl, ⟨nd, rfl⟩⟩; refine ⟨_, rfl, ?_⟩) | (go_at_call 14; (with_reducible refine (isa_Text.calls k 3 3 0 0 (-1) t165 _ (HT.out.low (by repeat (first | (with_reducible first | exact HB.out | apply below_alloc | apply pw_below_drewN | apply below_drew1 | refine below_set ?_ (Nat.le_refl _)) | exact HB.out))) A5.out).mono ?_); rintro e w7 ⟨rfl, hb⟩; have n0_ := Aside0.mk (below_step (by repeat (first | (with_reducible first | exact HB.out | apply below_alloc | apply pw_below_drewN | apply below_drew1) | exact HB.out)) hb); clear HB; have HB := n0_; clear n0_; (try clear hb); (try clear hb2); (try clear hk); (try clear hi)))
      go_ret
      exact ⟨by first | rfl | (simp [errW_none, errW_some] <;> rfl) | (simp [*, errW_none, errW_some] <;> rfl), by repeat (first | (with_reducible first | exact HB.out | apply below_alloc | apply pw_below_drewN | apply below_drew1) | exact HB.out)⟩
    · rw [if_neg c4] at H
      have c4b0 : (t162 == 229683585290862591) = false := beq_eq_false_iff_ne.mpr c4
      have c4b1 : (t162 != 229683585290862591) = true := bne_iff_ne.mpr c4
      obtain rfl := Option.some.inj H
      go_enter Tryd.func13, Tryd.ntmps13
      go_wp2_with (first | ((with_reducible refine gate_callee (f := 10) rfl ?_); refine goesL_ (some 5) rfl rfl Tryd.func10 (by kernel_rfl) rfl #[.agg #[.int .i64 3, .int .i64 3, .int .i64 0, .int .i64 0, .int .i64 (-1)]] rfl (by (try simp only [List.map_toArray, List.map_cons, List.map_nil]); first | done | rfl | (simp only [List.length_drop, List.length_take]; rfl)) ?_; (with_reducible refine (isa_Encode.calls k 3 3 0 0 (-1) t162 t163 _ A1.out).mono ?_); rintro e w8 ⟨rfl, hb⟩; refine ⟨_, rfl, ?_⟩; have n0_ := Aside0.mk (below_step (by repeat (first | (with_reducible first | exact HB.out | apply below_alloc | apply pw_below_drewN | apply below_drew1) | exact HB.out)) hb); clear HB; have HB := n0_; clear n0_; (try clear hb); (try clear hb2); (try clear hk); (try clear hi)) | ((with_reducible refine gate_callee (f := 12) rfl ?_); refine goesL_ (some 9) rfl rfl Tryd.func12 (by kernel_rfl) rfl #[.int .i64 t163] rfl (by (try simp only [List.map_toArray, List.map_cons, List.map_nil]); first | done | rfl | (simp only [List.length_drop, List.length_take]; rfl)) ?_; (with_reducible refine (mortiselaw2_num.calls t163 t164 _ A2.out).mono ?_); rintro e w' ⟨rfl, ⟨nd, rfl⟩⟩; refine ⟨_, rfl, ?_⟩))
      go_ret
      exact ⟨by first | rfl | (simp [errW_none, errW_some] <;> rfl) | (simp [*, errW_none, errW_some] <;> rfl), by repeat (first | (with_reducible first | exact HB.out | apply below_alloc | apply pw_below_drewN | apply below_drew1) | exact HB.out)⟩
  · rw [if_neg c3] at H
    have c3b0 : (t164 == 0) = false := beq_eq_false_iff_ne.mpr c3
    have c3b1 : (t164 != 0) = true := bne_iff_ne.mpr c3
    obtain rfl := Option.some.inj H
    go_enter Tryd.func13, Tryd.ntmps13
    go_wp2_with (first | ((with_reducible refine gate_callee (f := 10) rfl ?_); refine goesL_ (some 5) rfl rfl Tryd.func10 (by kernel_rfl) rfl #[.agg #[.int .i64 3, .int .i64 3, .int .i64 0, .int .i64 0, .int .i64 (-1)]] rfl (by (try simp only [List.map_toArray, List.map_cons, List.map_nil]); first | done | rfl | (simp only [List.length_drop, List.length_take]; rfl)) ?_; (with_reducible refine (isa_Encode.calls k 3 3 0 0 (-1) t162 t163 _ A1.out).mono ?_); rintro e w9 ⟨rfl, hb⟩; refine ⟨_, rfl, ?_⟩; have n0_ := Aside0.mk (below_step (by repeat (first | (with_reducible first | exact HB.out | apply below_alloc | apply pw_below_drewN | apply below_drew1) | exact HB.out)) hb); clear HB; have HB := n0_; clear n0_; (try clear hb); (try clear hb2); (try clear hk); (try clear hi)) | ((with_reducible refine gate_callee (f := 12) rfl ?_); refine goesL_ (some 9) rfl rfl Tryd.func12 (by kernel_rfl) rfl #[.int .i64 t163] rfl (by (try simp only [List.map_toArray, List.map_cons, List.map_nil]); first | done | rfl | (simp only [List.length_drop, List.length_take]; rfl)) ?_; (with_reducible refine (mortiselaw2_num.calls t163 t164 _ A2.out).mono ?_); rintro e w' ⟨rfl, ⟨nd, rfl⟩⟩; refine ⟨_, rfl, ?_⟩))
    go_ret
    exact ⟨by first | rfl | (simp [errW_none, errW_some] <;> rfl) | (simp [*, errW_none, errW_some] <;> rfl), by repeat (first | (with_reducible first | exact HB.out | apply below_alloc | apply pw_below_drewN | apply below_drew1) | exact HB.out)⟩

end Go.Proofs.YtlaccolldbnbaaaDoor.Gx
