/-
  Written by a program for this claim: Go functions as plain functions, and that the machine's calls do just what these say.
-/
import Derived.Test.YtmmjhdhgohfioaaD1
import Derived.Test.YtmmjhdhgohfioaaD9
namespace Go.Proofs.Ytmmjhdhgohfioaa.Gx
open Go.RowKit Go.Proofs.YtmmjhdhgohfioaaW.PrintWords Go.Proofs.YtmmjhdhgohfioaaW.PrintLast Go.Proofs.YtmmjhdhgohfioaaW.PrintMore
attribute [local go_sem] max2_int min2_int max_two min_two max_three min_three max_four min_four
set_option linter.unusedVariables false
set_option linter.unusedSimpArgs false

attribute [local go_sem high] eqA31
/-! ### mortiselaw4_LexNames: function 8 -/
def mortiselaw4_LexNames.f (k : Nat) (a0 : ByteArray) : Option (Bool) := (lex_Word.f a0).bind fun t404 => ((mortiseref4_Word.f a0).bind fun t405 => (if (t404 == t405) = true then ((lex_Name.f k a0).bind fun t406 => ((mortiseref4_Name.f k a0).bind fun t407 => (if (t406 == t407) = true then ((mortiselaw4_awake.f k).bind fun t408 => (some t408)) else (some false)))) else (some false)))
theorem mortiselaw4_LexNames.mono : ∀ a0 k, LeO (mortiselaw4_LexNames.f k a0) (mortiselaw4_LexNames.f (k + 1) a0) := by
  intro a0 k
  unfold mortiselaw4_LexNames.f
  repeat' first
      | (with_reducible exact lex_Name.mono _ _)
      | (with_reducible exact mortiselaw4_awake.mono _)
      | (with_reducible exact mortiseref4_Name.mono _ _)
      | (with_reducible exact LeO.refl _)
      | (with_reducible exact LeO.none _)
      | (with_reducible refine LeO.ite ?_ ?_)
      | (with_reducible refine LeO.bind ?_ (fun _ => ?_))
      | exact lex_Name.mono _ _
      | exact mortiselaw4_awake.mono _
      | exact mortiseref4_Name.mono _ _
      | exact LeO.none _
      | refine LeO.ite ?_ ?_
      | refine LeO.bind ?_ (fun _ => ?_)
set_option maxHeartbeats 8000000 in
set_option maxRecDepth 100000 in
theorem mortiselaw4_LexNames.calls (k : Nat) (a0 : ByteArray) (r : Bool) (w : World) (h : mortiselaw4_LexNames.f k a0 = some r) :
    Calls Try.prog 8 #[.string a0] w fun e w' => e = .returned (.bool r) ∧ Below w.heap.size w w' := by
  have HB := Aside0.mk (Below.refl w.heap.size w)
  have H : ((lex_Word.f a0).bind fun t404 => ((mortiseref4_Word.f a0).bind fun t405 => (if (t404 == t405) = true then ((lex_Name.f k a0).bind fun t406 => ((mortiseref4_Name.f k a0).bind fun t407 => (if (t406 == t407) = true then ((mortiselaw4_awake.f k).bind fun t408 => (some t408)) else (some false)))) else (some false)))) = some r := h
  clear h
  replace H := Option.bind_eq_some_iff.mp H
  obtain ⟨t404, A20, H⟩ := H
  replace H : ((mortiseref4_Word.f a0).bind fun t405 => (if (t404 == t405) = true then ((lex_Name.f k a0).bind fun t406 => ((mortiseref4_Name.f k a0).bind fun t407 => (if (t406 == t407) = true then ((mortiselaw4_awake.f k).bind fun t408 => (some t408)) else (some false)))) else (some false))) = some r := H
  have A2 := Aside0.mk A20
  clear A20
  replace H := Option.bind_eq_some_iff.mp H
  obtain ⟨t405, A30, H⟩ := H
  replace H : (if (t404 == t405) = true then ((lex_Name.f k a0).bind fun t406 => ((mortiseref4_Name.f k a0).bind fun t407 => (if (t406 == t407) = true then ((mortiselaw4_awake.f k).bind fun t408 => (some t408)) else (some false)))) else (some false)) = some r := H
  have A3 := Aside0.mk A30
  clear A30
  by_cases c4 : (t404 == t405) = true
  · rw [if_pos c4] at H
    have c4b0 : (t404 == t405) = true := c4
    (try (have c4b1 : decide (t404 = t405) = true := by simpa using c4))
    (try (have c4b2 : (t404 == t405) = true := by simpa using c4))
    clear c4
    replace H := Option.bind_eq_some_iff.mp H
    obtain ⟨t406, A50, H⟩ := H
    replace H : ((mortiseref4_Name.f k a0).bind fun t407 => (if (t406 == t407) = true then ((mortiselaw4_awake.f k).bind fun t408 => (some t408)) else (some false))) = some r := H
    have A5 := Aside0.mk A50
    clear A50
    replace H := Option.bind_eq_some_iff.mp H
    obtain ⟨t407, A60, H⟩ := H
    replace H : (if (t406 == t407) = true then ((mortiselaw4_awake.f k).bind fun t408 => (some t408)) else (some false)) = some r := H
    have A6 := Aside0.mk A60
    clear A60
    by_cases c7 : (t406 == t407) = true
    · rw [if_pos c7] at H
      have c7b0 : (t406 == t407) = true := c7
      (try (have c7b1 : decide (t406 = t407) = true := by simpa using c7))
      (try (have c7b2 : (t406 == t407) = true := by simpa using c7))
      clear c7
      replace H := Option.bind_eq_some_iff.mp H
      obtain ⟨t408, A80, H⟩ := H
      replace H : (some t408) = some r := H
      have A8 := Aside0.mk A80
      clear A80
      obtain rfl := Option.some.inj H
      go_enter Try.func8, Try.ntmps8
      go_wp2_with (first | ((with_reducible refine gate_callee (f := 16) rfl ?_); refine goesL_ (some 4) rfl rfl Try.func16 (by kernel_rfl) rfl #[.string a0] rfl (by (try simp only [List.map_toArray, List.map_cons, List.map_nil]); first | done | rfl | (simp only [List.length_drop, List.length_take]; rfl)) ?_; (with_reducible refine (lex_Word.calls a0 t404 _ A2.out).mono ?_); rintro e w' ⟨rfl, ⟨nd, rfl⟩⟩; refine ⟨_, rfl, ?_⟩) | ((with_reducible refine gate_callee (f := 17) rfl ?_); refine goesL_ (some 6) rfl rfl Try.func17 (by kernel_rfl) rfl #[.string a0] rfl (by (try simp only [List.map_toArray, List.map_cons, List.map_nil]); first | done | rfl | (simp only [List.length_drop, List.length_take]; rfl)) ?_; (with_reducible refine (mortiseref4_Word.calls a0 t405 _ A3.out).mono ?_); rintro e w' ⟨rfl, ⟨nd, rfl⟩⟩; refine ⟨_, rfl, ?_⟩) | (go_at_call 18; (with_reducible refine (lex_Name.calls k a0 t406 _ A5.out).mono ?_); rintro e w' ⟨rfl, ⟨nd, rfl⟩⟩) | (go_at_call 19; (with_reducible refine (mortiseref4_Name.calls k a0 t407 _ A6.out).mono ?_); rintro e w' ⟨rfl, ⟨nd, rfl⟩⟩) | (go_at_call 13; (with_reducible refine (mortiselaw4_awake.calls k  t408 _ A8.out).mono ?_); rintro e w9 ⟨rfl, hb⟩; have n0_ := Aside0.mk (below_step (by repeat (first | (with_reducible first | exact HB.out | apply below_alloc | apply pw_below_drewN | apply below_drew1) | exact HB.out)) hb); clear HB; have HB := n0_; clear n0_; (try clear hb); (try clear hb2); (try clear hk); (try clear hi)))
      go_ret
      exact ⟨by first | rfl | (simp [errW_none, errW_some] <;> rfl) | (simp [*, errW_none, errW_some] <;> rfl), by repeat (first | (with_reducible first | exact HB.out | apply below_alloc | apply pw_below_drewN | apply below_drew1) | exact HB.out)⟩
    · rw [if_neg c7] at H
      have c7b0 : (t406 == t407) = false := by simpa using c7
      (try (have c7b1 : decide (t406 = t407) = false := by simpa using c7))
      (try (have c7b2 : (t406 == t407) = false := by simpa using c7))
      (try (have c7b3 : ¬ (t406 = t407) := by simpa using c7))
      clear c7
      obtain rfl := Option.some.inj H
      go_enter Try.func8, Try.ntmps8
      go_wp2_with (first | ((with_reducible refine gate_callee (f := 16) rfl ?_); refine goesL_ (some 4) rfl rfl Try.func16 (by kernel_rfl) rfl #[.string a0] rfl (by (try simp only [List.map_toArray, List.map_cons, List.map_nil]); first | done | rfl | (simp only [List.length_drop, List.length_take]; rfl)) ?_; (with_reducible refine (lex_Word.calls a0 t404 _ A2.out).mono ?_); rintro e w' ⟨rfl, ⟨nd, rfl⟩⟩; refine ⟨_, rfl, ?_⟩) | ((with_reducible refine gate_callee (f := 17) rfl ?_); refine goesL_ (some 6) rfl rfl Try.func17 (by kernel_rfl) rfl #[.string a0] rfl (by (try simp only [List.map_toArray, List.map_cons, List.map_nil]); first | done | rfl | (simp only [List.length_drop, List.length_take]; rfl)) ?_; (with_reducible refine (mortiseref4_Word.calls a0 t405 _ A3.out).mono ?_); rintro e w' ⟨rfl, ⟨nd, rfl⟩⟩; refine ⟨_, rfl, ?_⟩) | (go_at_call 18; (with_reducible refine (lex_Name.calls k a0 t406 _ A5.out).mono ?_); rintro e w' ⟨rfl, ⟨nd, rfl⟩⟩) | (go_at_call 19; (with_reducible refine (mortiseref4_Name.calls k a0 t407 _ A6.out).mono ?_); rintro e w' ⟨rfl, ⟨nd, rfl⟩⟩))
      go_ret
      exact ⟨by first | rfl | (simp [errW_none, errW_some] <;> rfl) | (simp [*, errW_none, errW_some] <;> rfl), by repeat (first | (with_reducible first | exact HB.out | apply below_alloc | apply pw_below_drewN | apply below_drew1) | exact HB.out)⟩
  · rw [if_neg c4] at H
    have c4b0 : (t404 == t405) = false := by simpa using c4
    (try (have c4b1 : decide (t404 = t405) = false := by simpa using c4))
    (try (have c4b2 : (t404 == t405) = false := by simpa using c4))
    (try (have c4b3 : ¬ (t404 = t405) := by simpa using c4))
    clear c4
    obtain rfl := Option.some.inj H
    go_enter Try.func8, Try.ntmps8
    go_wp2_with (first | ((with_reducible refine gate_callee (f := 16) rfl ?_); refine goesL_ (some 4) rfl rfl Try.func16 (by kernel_rfl) rfl #[.string a0] rfl (by (try simp only [List.map_toArray, List.map_cons, List.map_nil]); first | done | rfl | (simp only [List.length_drop, List.length_take]; rfl)) ?_; (with_reducible refine (lex_Word.calls a0 t404 _ A2.out).mono ?_); rintro e w' ⟨rfl, ⟨nd, rfl⟩⟩; refine ⟨_, rfl, ?_⟩) | ((with_reducible refine gate_callee (f := 17) rfl ?_); refine goesL_ (some 6) rfl rfl Try.func17 (by kernel_rfl) rfl #[.string a0] rfl (by (try simp only [List.map_toArray, List.map_cons, List.map_nil]); first | done | rfl | (simp only [List.length_drop, List.length_take]; rfl)) ?_; (with_reducible refine (mortiseref4_Word.calls a0 t405 _ A3.out).mono ?_); rintro e w' ⟨rfl, ⟨nd, rfl⟩⟩; refine ⟨_, rfl, ?_⟩))
    go_ret
    exact ⟨by first | rfl | (simp [errW_none, errW_some] <;> rfl) | (simp [*, errW_none, errW_some] <;> rfl), by repeat (first | (with_reducible first | exact HB.out | apply below_alloc | apply pw_below_drewN | apply below_drew1) | exact HB.out)⟩

/-- THE ONE PURE STATEMENT of mortiselaw4_LexNames: yours. -/
def mortiselaw4_LexNames.Pure : Prop := ∀ (a0 : ByteArray), a0.size ≤ 140737488351232 → ∃ k, mortiselaw4_LexNames.f k a0 = some true
theorem mortiselaw4_LexNames.walk (P : mortiselaw4_LexNames.Pure) (a0 : ByteArray) (w : World) (w0 : a0.size ≤ 140737488351232) :
    Calls Try.prog 8 #[.string a0] w fun e w' => e = .returned (.bool true) ∧ Below w.heap.size w w' := by
  obtain ⟨k, h⟩ := P a0 w0
  refine (mortiselaw4_LexNames.calls k a0 true w h).mono ?_
  rintro e w' ⟨rfl, hd⟩
  exact ⟨rfl, hd⟩

end Go.Proofs.Ytmmjhdhgohfioaa.Gx
