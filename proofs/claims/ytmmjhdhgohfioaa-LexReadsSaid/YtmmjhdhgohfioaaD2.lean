/-
  Written by a program for this claim: Go functions as plain functions, and that the machine's calls do just what these say.
-/
import Derived.Test.YtmmjhdhgohfioaaD1
import Derived.Test.YtmmjhdhgohfioaaC8
namespace Go.Proofs.Ytmmjhdhgohfioaa.Gx
open Go.RowKit Go.Proofs.YtmmjhdhgohfioaaW.PrintWords Go.Proofs.YtmmjhdhgohfioaaW.PrintLast Go.Proofs.YtmmjhdhgohfioaaW.PrintMore
attribute [local go_sem] max2_int min2_int max_two min_two max_three min_three max_four min_four
set_option linter.unusedVariables false
set_option linter.unusedSimpArgs false

attribute [local go_sem high] eqA31
/-! ### mortiselaw4_LexReads: function 3 -/
mutual
def mortiselaw4_LexReads.j0 : Nat → ByteArray → List (S31) → List (S31) → Bool → Option (Bool)
  | 0, _, _, _, _ => none
  | k + 1, x0, x3, x6, x39 => if x39 = true then (some false) else (mortiselaw4_LexReads.l0 k x0 x3 x6 0)
def mortiselaw4_LexReads.l0 : Nat → ByteArray → List (S31) → List (S31) → Int → Option (Bool)
  | 0, _, _, _, _ => none
  | k + 1, x0, x3, x6, x9 => if x9 < (x3.length : Int) then (if 0 ≤ x9 then (mortiselaw4_LexReads.l0 k x0 (x3.set (x9 : Int).toNat (⟨9, (⟨#[]⟩ : ByteArray), 0, 0⟩ : S31)) x6 (wrap64 (x9 + 1))) else (none)) else ((lex_Lex.f k x0).bind fun bt283 => ((mortiseref4_Same.f k bt283.1 x6).bind fun t288 => (if t288 = true then ((mortiselaw4_awake.f k).bind fun t289 => (some t289)) else (some false))))
end
def mortiselaw4_LexReads.f (k : Nat) (a0 : ByteArray) : Option (Bool) := (lex_Lex.f k a0).bind fun bt270 => ((mortiseref4_Lex.f k a0).bind fun bt275 => ((mortiseref4_Same.f k bt270.1 bt275.1).bind fun t280 => (if t280 = true then (if bt270.2.1 = bt275.2.1 then ((mortiselaw4_num.f bt270.2.2).bind fun t281 => (mortiselaw4_LexReads.j0 k a0 bt270.1 bt275.1 (t281 != bt275.2.2))) else (mortiselaw4_LexReads.j0 k a0 bt270.1 bt275.1 true)) else (mortiselaw4_LexReads.j0 k a0 bt270.1 bt275.1 true))))
theorem mortiselaw4_LexReads.mono_l : ∀ k, (∀ y0 y1 y2 y3, LeO (mortiselaw4_LexReads.j0 k y0 y1 y2 y3) (mortiselaw4_LexReads.j0 (k + 1) y0 y1 y2 y3)) ∧ (∀ y0 y1 y2 y3, LeO (mortiselaw4_LexReads.l0 k y0 y1 y2 y3) (mortiselaw4_LexReads.l0 (k + 1) y0 y1 y2 y3))
  | 0 => ⟨fun _ _ _ _ r h => by simp [mortiselaw4_LexReads.j0] at h, fun _ _ _ _ r h => by simp [mortiselaw4_LexReads.l0] at h⟩
  | k + 1 => by
    obtain ⟨ih0, ih1⟩ := mortiselaw4_LexReads.mono_l k
    refine ⟨?_, ?_⟩
    · intro y0 y1 y2 y3
      unfold mortiselaw4_LexReads.j0
      repeat' first
      | (with_reducible exact ih0 _ _ _ _)
      | (with_reducible exact ih1 _ _ _ _)
      | (with_reducible exact lex_Lex.mono _ _)
      | (with_reducible exact mortiselaw4_awake.mono _)
      | (with_reducible exact mortiseref4_Lex.mono _ _)
      | (with_reducible exact mortiseref4_Same.mono _ _ _)
      | (with_reducible exact LeO.refl _)
      | (with_reducible exact LeO.none _)
      | (with_reducible refine LeO.ite ?_ ?_)
      | (with_reducible refine LeO.bind ?_ (fun _ => ?_))
      | exact ih0 _ _ _ _
      | exact ih1 _ _ _ _
      | exact lex_Lex.mono _ _
      | exact mortiselaw4_awake.mono _
      | exact mortiseref4_Lex.mono _ _
      | exact mortiseref4_Same.mono _ _ _
      | exact LeO.none _
      | refine LeO.ite ?_ ?_
      | refine LeO.bind ?_ (fun _ => ?_)
    · intro y0 y1 y2 y3
      unfold mortiselaw4_LexReads.l0
      repeat' first
      | (with_reducible exact ih0 _ _ _ _)
      | (with_reducible exact ih1 _ _ _ _)
      | (with_reducible exact lex_Lex.mono _ _)
      | (with_reducible exact mortiselaw4_awake.mono _)
      | (with_reducible exact mortiseref4_Lex.mono _ _)
      | (with_reducible exact mortiseref4_Same.mono _ _ _)
      | (with_reducible exact LeO.refl _)
      | (with_reducible exact LeO.none _)
      | (with_reducible refine LeO.ite ?_ ?_)
      | (with_reducible refine LeO.bind ?_ (fun _ => ?_))
      | exact ih0 _ _ _ _
      | exact ih1 _ _ _ _
      | exact lex_Lex.mono _ _
      | exact mortiselaw4_awake.mono _
      | exact mortiseref4_Lex.mono _ _
      | exact mortiseref4_Same.mono _ _ _
      | exact LeO.none _
      | refine LeO.ite ?_ ?_
      | refine LeO.bind ?_ (fun _ => ?_)
theorem mortiselaw4_LexReads.mono : ∀ a0 k, LeO (mortiselaw4_LexReads.f k a0) (mortiselaw4_LexReads.f (k + 1) a0) := by
  intro a0 k
  obtain ⟨ih0, ih1⟩ := mortiselaw4_LexReads.mono_l k
  unfold mortiselaw4_LexReads.f
  repeat' first
      | (with_reducible exact ih0 _ _ _ _)
      | (with_reducible exact ih1 _ _ _ _)
      | (with_reducible exact lex_Lex.mono _ _)
      | (with_reducible exact mortiselaw4_awake.mono _)
      | (with_reducible exact mortiseref4_Lex.mono _ _)
      | (with_reducible exact mortiseref4_Same.mono _ _ _)
      | (with_reducible exact LeO.refl _)
      | (with_reducible exact LeO.none _)
      | (with_reducible refine LeO.ite ?_ ?_)
      | (with_reducible refine LeO.bind ?_ (fun _ => ?_))
      | exact ih0 _ _ _ _
      | exact ih1 _ _ _ _
      | exact lex_Lex.mono _ _
      | exact mortiselaw4_awake.mono _
      | exact mortiseref4_Lex.mono _ _
      | exact mortiseref4_Same.mono _ _ _
      | exact LeO.none _
      | refine LeO.ite ?_ ?_
      | refine LeO.bind ?_ (fun _ => ?_)
set_option maxHeartbeats 8000000 in
set_option maxRecDepth 100000 in
theorem mortiselaw4_LexReads.calls (k : Nat) (a0 : ByteArray) (r : Bool) (w : World) (h : mortiselaw4_LexReads.f k a0 = some r) :
    Calls Try.prog 3 #[.string a0] w fun e w' => e = .returned (.bool r) ∧ Below w.heap.size w w' := by
  have hu31 := Try.underlying31
  have HB := Aside0.mk (Below.refl w.heap.size w)
  have H : ((lex_Lex.f k a0).bind fun bt270 => ((mortiseref4_Lex.f k a0).bind fun bt275 => ((mortiseref4_Same.f k bt270.1 bt275.1).bind fun t280 => (if t280 = true then (if bt270.2.1 = bt275.2.1 then ((mortiselaw4_num.f bt270.2.2).bind fun t281 => (mortiselaw4_LexReads.j0 k a0 bt270.1 bt275.1 (t281 != bt275.2.2))) else (mortiselaw4_LexReads.j0 k a0 bt270.1 bt275.1 true)) else (mortiselaw4_LexReads.j0 k a0 bt270.1 bt275.1 true))))) = some r := h
  clear h
  replace H := Option.bind_eq_some_iff.mp H
  obtain ⟨⟨t270, t271, t272⟩, A20, H⟩ := H
  replace H : ((mortiseref4_Lex.f k a0).bind fun bt275 => ((mortiseref4_Same.f k t270 bt275.1).bind fun t280 => (if t280 = true then (if t271 = bt275.2.1 then ((mortiselaw4_num.f t272).bind fun t281 => (mortiselaw4_LexReads.j0 k a0 t270 bt275.1 (t281 != bt275.2.2))) else (mortiselaw4_LexReads.j0 k a0 t270 bt275.1 true)) else (mortiselaw4_LexReads.j0 k a0 t270 bt275.1 true)))) = some r := H
  have A2 := Aside0.mk A20
  clear A20
  replace H := Option.bind_eq_some_iff.mp H
  obtain ⟨⟨t275, t276, t277⟩, A30, H⟩ := H
  replace H : ((mortiseref4_Same.f k t270 t275).bind fun t280 => (if t280 = true then (if t271 = t276 then ((mortiselaw4_num.f t272).bind fun t281 => (mortiselaw4_LexReads.j0 k a0 t270 t275 (t281 != t277))) else (mortiselaw4_LexReads.j0 k a0 t270 t275 true)) else (mortiselaw4_LexReads.j0 k a0 t270 t275 true))) = some r := H
  have A3 := Aside0.mk A30
  clear A30
  have HC4 := Aside0.mk H
  clear H
  go_enter Try.func3, Try.ntmps3
  go_upto_region 3 with (first | ((with_reducible refine gate_callee (f := 9) rfl ?_); refine goesL_ (some 15) rfl rfl Try.func9 (by kernel_rfl) rfl #[.string a0] rfl (by (try simp only [List.map_toArray, List.map_cons, List.map_nil]); first | done | rfl | (simp only [List.length_drop, List.length_take]; rfl)) ?_; (with_reducible refine (lex_Lex.calls k a0 t270 t271 t272 _ A2.out).mono ?_); rintro e w5 ⟨v273, rfl, ho0, hb⟩; refine ⟨_, rfl, ?_⟩; have n0_ := Aside0.mk (Kd.R_lower ho0 (below_size (by repeat (first | (with_reducible first | exact HB.out | apply below_alloc | apply pw_below_drewN | apply below_drew1) | exact HB.out)))); have n1_ := Aside0.mk (below_step (by repeat (first | (with_reducible first | exact HB.out | apply below_alloc | apply pw_below_drewN | apply below_drew1) | exact HB.out)) hb); clear HB; have HO274 := n0_; have HB := n1_; clear n0_ n1_; (try clear hb); (try clear hb2); (try clear hk); (try clear hi); (try clear ho0)) | ((with_reducible refine gate_callee (f := 10) rfl ?_); refine goesL_ (some 21) rfl rfl Try.func10 (by kernel_rfl) rfl #[.string a0] rfl (by (try simp only [List.map_toArray, List.map_cons, List.map_nil]); first | done | rfl | (simp only [List.length_drop, List.length_take]; rfl)) ?_; (with_reducible refine (mortiseref4_Lex.calls k a0 t275 t276 t277 _ A3.out).mono ?_); rintro e w6 ⟨v278, rfl, ho0, hb⟩; refine ⟨_, rfl, ?_⟩; have n0_ := Aside0.mk (Kd.R_elder' (by (with_reducible repeat (first | apply Kd.R_alloc | apply Kd.R_drewN | apply Kd.R_drew)); exact HO274.out) (Kd.R_base ho0) hb); have n1_ := Aside0.mk (Kd.R_lower (Kd.R_new' ho0 (Kd.R_lt (by (with_reducible repeat (first | apply Kd.R_alloc | apply Kd.R_drewN | apply Kd.R_drew)); exact HO274.out))) (below_size (by repeat (first | (with_reducible first | exact HB.out | apply below_alloc | apply pw_below_drewN | apply below_drew1) | exact HB.out)))); have n2_ := Aside0.mk (below_step (by repeat (first | (with_reducible first | exact HB.out | apply below_alloc | apply pw_below_drewN | apply below_drew1) | exact HB.out)) hb); clear HO274; clear HB; have HO274 := n0_; have HO279 := n1_; have HB := n2_; clear n0_ n1_ n2_; (try clear hb); (try clear hb2); (try clear hk); (try clear hi); (try clear ho0)))
  (try simp only [Act.put, List.setIfInBounds_toArray, List.set_cons_zero, List.set_cons_succ])
  go_cut [39] (fun v39 wc => ∃ (kq : Nat) (x39_3 : Bool), v39 = .bool x39_3 ∧ Aside0 (mortiselaw4_LexReads.j0 kq a0 t270 t275 x39_3 = some r) ∧ Aside0 (kq ≤ k) ∧ Aside0 (Kd.R k31 31 wc w.heap.size (fun k_ => some k_ ≠ (v278 : Value).ownBlock) v273 t270) ∧ Aside0 (Kd.R k31 31 wc w.heap.size (fun k_ => some k_ ≠ (v273 : Value).ownBlock) v278 t275) ∧ Aside0 (Below w.heap.size w wc))
  case first =>
    have H := HC4.out
    clear HC4
    replace H := Option.bind_eq_some_iff.mp H
    obtain ⟨t280, A70, H⟩ := H
    replace H : (if t280 = true then (if t271 = t276 then ((mortiselaw4_num.f t272).bind fun t281 => (mortiselaw4_LexReads.j0 k a0 t270 t275 (t281 != t277))) else (mortiselaw4_LexReads.j0 k a0 t270 t275 true)) else (mortiselaw4_LexReads.j0 k a0 t270 t275 true)) = some r := H
    have A7 := Aside0.mk A70
    clear A70
    by_cases c8 : t280 = true
    · subst c8
      have H1 : (if t271 = t276 then ((mortiselaw4_num.f t272).bind fun t281 => (mortiselaw4_LexReads.j0 k a0 t270 t275 (t281 != t277))) else (mortiselaw4_LexReads.j0 k a0 t270 t275 true)) = some r := by rw [if_pos rfl] at H; exact H
      clear H
      have H := H1
      clear H1
      by_cases c9 : t271 = t276
      · rw [if_pos c9] at H
        have c9b0 : (t271 == t276) = true := beq_iff_eq.mpr c9
        have c9b1 : (t271 != t276) = false := bne_eq_false_iff_eq.mpr c9
        clear c9
        (first | rw [c9b0] | (simp only [i64_w, i32_w]; rw [c9b0]) | skip)
        replace H := Option.bind_eq_some_iff.mp H
        obtain ⟨t281, A100, H⟩ := H
        replace H : (mortiselaw4_LexReads.j0 k a0 t270 t275 (t281 != t277)) = some r := H
        have A10 := Aside0.mk A100
        clear A100
        have H' := Aside0.mk H
        clear H
        obtain ⟨Ao11, co11, eo11⟩ := Kd.R_slice HO274.out
        subst eo11
        obtain ⟨Ao12, co12, eo12⟩ := Kd.R_slice HO279.out
        subst eo12
        go_wp2_with (first | ((with_reducible refine gate_callee (f := 11) rfl ?_); refine goesL_ (some 27) rfl rfl Try.func11 (by kernel_rfl) rfl #[.slice Ao11 t270.length co11, .slice Ao12 t275.length co12] rfl (by (try simp only [List.map_toArray, List.map_cons, List.map_nil]); first | done | rfl | (simp only [List.length_drop, List.length_take]; rfl)) ?_; (with_reducible refine (mortiseref4_Same.calls k _ _ t270 _ _ t275 true _ ?side1 ?side2 ?side3 ?side4 A7.out).mono ?_); (case side1 => repeat (first | exact (Kd.R_reads' HO274.out).2.2 | (with_reducible refine Kd.C_alloc ?_ _) | (with_reducible refine Kd.C_drewN ?_ _) | (with_reducible refine Kd.C_drew ?_))); (case side2 => exact (Kd.R_reads' HO274.out).2.1); (case side3 => repeat (first | exact (Kd.R_reads' HO279.out).2.2 | (with_reducible refine Kd.C_alloc ?_ _) | (with_reducible refine Kd.C_drewN ?_ _) | (with_reducible refine Kd.C_drew ?_))); (case side4 => exact (Kd.R_reads' HO279.out).2.1); rintro e w' ⟨rfl, ⟨nd, rfl⟩⟩; refine ⟨_, rfl, ?_⟩) | (go_at_call 12; (with_reducible refine (mortiselaw4_num.calls t272 t281 _ A10.out).mono ?_); rintro e w' ⟨rfl, ⟨nd, rfl⟩⟩))
        go_meet
        case rel => exact ⟨_, ((t281 != t277)), (by first | rfl | (simp; done) | (simp [*]; done)), H', ⟨by first | omega | exact Nat.le_refl _⟩, ⟨by (with_reducible repeat (first | apply Kd.R_alloc | apply Kd.R_drewN | apply Kd.R_drew)); exact Kd.R_mono HO274.out (fun _ hk => hk.2)⟩, ⟨by (with_reducible repeat (first | apply Kd.R_alloc | apply Kd.R_drewN | apply Kd.R_drew)); exact Kd.R_mono HO279.out (fun _ hk => hk.2)⟩, ⟨by repeat (first | (with_reducible first | exact HB.out | apply below_alloc | apply pw_below_drewN | apply below_drew1) | exact HB.out)⟩⟩
      · rw [if_neg c9] at H
        have c9b0 : (t271 == t276) = false := beq_eq_false_iff_ne.mpr c9
        have c9b1 : (t271 != t276) = true := bne_iff_ne.mpr c9
        (first | rw [c9b0] | (simp only [i64_w, i32_w]; rw [c9b0]) | skip)
        have H' := Aside0.mk H
        clear H
        obtain ⟨Ao13, co13, eo13⟩ := Kd.R_slice HO274.out
        subst eo13
        obtain ⟨Ao14, co14, eo14⟩ := Kd.R_slice HO279.out
        subst eo14
        go_wp2_with (first | ((with_reducible refine gate_callee (f := 11) rfl ?_); refine goesL_ (some 27) rfl rfl Try.func11 (by kernel_rfl) rfl #[.slice Ao13 t270.length co13, .slice Ao14 t275.length co14] rfl (by (try simp only [List.map_toArray, List.map_cons, List.map_nil]); first | done | rfl | (simp only [List.length_drop, List.length_take]; rfl)) ?_; (with_reducible refine (mortiseref4_Same.calls k _ _ t270 _ _ t275 true _ ?side1 ?side2 ?side3 ?side4 A7.out).mono ?_); (case side1 => repeat (first | exact (Kd.R_reads' HO274.out).2.2 | (with_reducible refine Kd.C_alloc ?_ _) | (with_reducible refine Kd.C_drewN ?_ _) | (with_reducible refine Kd.C_drew ?_))); (case side2 => exact (Kd.R_reads' HO274.out).2.1); (case side3 => repeat (first | exact (Kd.R_reads' HO279.out).2.2 | (with_reducible refine Kd.C_alloc ?_ _) | (with_reducible refine Kd.C_drewN ?_ _) | (with_reducible refine Kd.C_drew ?_))); (case side4 => exact (Kd.R_reads' HO279.out).2.1); rintro e w' ⟨rfl, ⟨nd, rfl⟩⟩; refine ⟨_, rfl, ?_⟩))
        go_meet
        case rel => exact ⟨_, (true), (by first | rfl | (simp; done) | (simp [*]; done)), H', ⟨by first | omega | exact Nat.le_refl _⟩, ⟨by (with_reducible repeat (first | apply Kd.R_alloc | apply Kd.R_drewN | apply Kd.R_drew)); exact Kd.R_mono HO274.out (fun _ hk => hk.2)⟩, ⟨by (with_reducible repeat (first | apply Kd.R_alloc | apply Kd.R_drewN | apply Kd.R_drew)); exact Kd.R_mono HO279.out (fun _ hk => hk.2)⟩, ⟨by repeat (first | (with_reducible first | exact HB.out | apply below_alloc | apply pw_below_drewN | apply below_drew1) | exact HB.out)⟩⟩
    · replace c8 := Bool.eq_false_iff.mpr c8
      subst c8
      have H1 : (mortiselaw4_LexReads.j0 k a0 t270 t275 true) = some r := by rw [if_neg (show ¬ (false = true) by decide)] at H; exact H
      clear H
      have H := H1
      clear H1
      have H' := Aside0.mk H
      clear H
      obtain ⟨Ao15, co15, eo15⟩ := Kd.R_slice HO274.out
      subst eo15
      obtain ⟨Ao16, co16, eo16⟩ := Kd.R_slice HO279.out
      subst eo16
      go_wp2_with (first | ((with_reducible refine gate_callee (f := 11) rfl ?_); refine goesL_ (some 27) rfl rfl Try.func11 (by kernel_rfl) rfl #[.slice Ao15 t270.length co15, .slice Ao16 t275.length co16] rfl (by (try simp only [List.map_toArray, List.map_cons, List.map_nil]); first | done | rfl | (simp only [List.length_drop, List.length_take]; rfl)) ?_; (with_reducible refine (mortiseref4_Same.calls k _ _ t270 _ _ t275 false _ ?side1 ?side2 ?side3 ?side4 A7.out).mono ?_); (case side1 => repeat (first | exact (Kd.R_reads' HO274.out).2.2 | (with_reducible refine Kd.C_alloc ?_ _) | (with_reducible refine Kd.C_drewN ?_ _) | (with_reducible refine Kd.C_drew ?_))); (case side2 => exact (Kd.R_reads' HO274.out).2.1); (case side3 => repeat (first | exact (Kd.R_reads' HO279.out).2.2 | (with_reducible refine Kd.C_alloc ?_ _) | (with_reducible refine Kd.C_drewN ?_ _) | (with_reducible refine Kd.C_drew ?_))); (case side4 => exact (Kd.R_reads' HO279.out).2.1); rintro e w' ⟨rfl, ⟨nd, rfl⟩⟩; refine ⟨_, rfl, ?_⟩))
      go_meet
      case rel => exact ⟨_, (true), (by first | rfl | (simp; done) | (simp [*]; done)), H', ⟨by first | omega | exact Nat.le_refl _⟩, ⟨by (with_reducible repeat (first | apply Kd.R_alloc | apply Kd.R_drewN | apply Kd.R_drew)); exact Kd.R_mono HO274.out (fun _ hk => hk.2)⟩, ⟨by (with_reducible repeat (first | apply Kd.R_alloc | apply Kd.R_drewN | apply Kd.R_drew)); exact Kd.R_mono HO279.out (fun _ hk => hk.2)⟩, ⟨by repeat (first | (with_reducible first | exact HB.out | apply below_alloc | apply pw_below_drewN | apply below_drew1) | exact HB.out)⟩⟩
  case rest =>
    clear HC4
    try clear c1
    try clear p2
    try clear c3
    try clear c8
    try clear c9
    try clear c9b0
    try clear c9b1
    try clear c10
    try clear c11
    obtain ⟨kq, x39_3, rfl, HA, HJ3, HO_3, HO_6, HB⟩ := hcut
    cases kq with
    | zero => exact absurd HA.out (by simp [mortiselaw4_LexReads.j0])
    | succ kj3 =>
      have H := HA.out
      clear HA
      simp only [mortiselaw4_LexReads.j0] at H
      by_cases c17 : x39_3 = true
      · subst c17
        have H1 : (some false) = some r := by rw [if_pos rfl] at H; exact H
        clear H
        have H := H1
        clear H1
        obtain rfl := Option.some.inj H
        go_wp2
        go_ret
        exact ⟨by first | rfl | (simp [errW_none, errW_some] <;> rfl) | (simp [*, errW_none, errW_some] <;> rfl), by repeat (first | (with_reducible first | exact HB.out | apply below_alloc | apply pw_below_drewN | apply below_drew1) | exact HB.out)⟩
      · replace c17 := Bool.eq_false_iff.mpr c17
        subst c17
        have H1 : (mortiselaw4_LexReads.l0 kj3 a0 t270 t275 0) = some r := by rw [if_neg (show ¬ (false = true) by decide)] at H; exact H
        clear H
        have H := H1
        clear H1
        have H' := Aside0.mk H
        clear H
        go_wp2
        go_loopg [9] kj3 (fun kq v9 w' => ∃ (x3_2 : List (S31)) (x9_2 : Int), v9 = .int .i64 x9_2 ∧ Aside0 (mortiselaw4_LexReads.l0 kq a0 x3_2 t275 x9_2 = some r) ∧ Aside0 (kq ≤ kj3) ∧ Aside0 (Kd.R k31 31 w' w.heap.size (fun k_ => some k_ ≠ (v278 : Value).ownBlock) v273 x3_2) ∧ Aside0 (Kd.R k31 31 w' w.heap.size (fun k_ => some k_ ≠ (v273 : Value).ownBlock) v278 t275) ∧ Aside0 (Below w.heap.size w w'))
        case atStart => exact ⟨(t270), (0), (by first | rfl | (simp; done) | (simp [*]; done)), H', ⟨Nat.le_refl _⟩, ⟨by (with_reducible repeat (first | apply Kd.R_alloc | apply Kd.R_drewN | apply Kd.R_drew)); exact HO_3.out⟩, ⟨by (with_reducible repeat (first | apply Kd.R_alloc | apply Kd.R_drewN | apply Kd.R_drew)); exact HO_6.out⟩, ⟨by repeat (first | (with_reducible first | exact HB.out | apply below_alloc | apply pw_below_drewN | apply below_drew1) | exact HB.out)⟩⟩
        case round =>
          clear H'
          try clear c1
          try clear p2
          try clear c3
          try clear c8
          try clear c9
          try clear c9b0
          try clear c9b1
          try clear c10
          try clear c11
          try clear c17
          try clear p2
          obtain ⟨x3_2, x9_2, rfl, HA, HK2, HO_3, HO_6, HB⟩ := hrel
          cases gk with
          | zero => exact absurd HA.out (by simp [mortiselaw4_LexReads.l0])
          | succ k2 =>
            have H := HA.out
            clear HA
            simp only [mortiselaw4_LexReads.l0] at H
            by_cases c18 : x9_2 < (x3_2.length : Int)
            · rw [if_pos c18] at H
              have c18b0 : decide (x9_2 < (x3_2.length : Int)) = true := decide_eq_true c18
              clear c18
              by_cases c19 : 0 ≤ x9_2
              · rw [if_pos c19] at H
                have c19b0 : decide (0 ≤ x9_2) = true := decide_eq_true c19
                clear c19
                obtain ⟨y282, hy282⟩ : ∃ y_ : List (S31), y_ = (x3_2.set (x9_2 : Int).toNat (⟨9, (⟨#[]⟩ : ByteArray), 0, 0⟩ : S31)) := ⟨_, rfl⟩
                replace H : (mortiselaw4_LexReads.l0 k2 a0 y282 t275 (wrap64 (x9_2 + 1))) = some r := by first | (rw [hy282]; with_reducible exact H) | (have H2_ := (Option.bind_some _ _).symm.trans H; rw [hy282]; with_reducible exact H2_) | (have H2_ := (Option.bind_some _ _).symm.trans H; with_reducible exact H2_) | with_reducible exact H | (rw [hy282]; exact H) | exact H
                have Ny282 := Aside0.mk hy282
                clear hy282
                have H' := Aside0.mk H
                clear H
                obtain ⟨Ao21, co21, eo21⟩ := Kd.R_slice HO_3.out
                subst eo21
                have p20 : 0 ≤ (x9_2 : Int) := of_decide_eq_true (by first | (with_reducible assumption) | assumption)
                have q20 : (x9_2 : Int) < ((x3_2.length : Int) : Int) := of_decide_eq_true (by first | (with_reducible assumption) | assumption)
                obtain ⟨go20, co20, eo20, gb20, gl20, cl20, HG20⟩ := Kd.R_form HO_3.out (by omega)
                (first | cases eo20 | (injection eo20 with ea_ en_ ec_; (first | subst ea_ | (injection ea_ with ea_; subst ea_)); subst ec_; clear en_))
                have GB20 := Aside0.mk gb20
                have GG20 := Aside0.mk HG20
                clear gb20 gl20 HG20
                obtain ⟨ce20, hcl20, hM20, hcc20, hfr20⟩ := Kd.R_elem HO_3.out z31 (x9_2 : Int) p20 q20
                obtain rfl := k31_openM hM20
                have hx20_0 : wr.cell? ⟨go20, (x9_2 : Int).toNat * 4, none⟩ = some (.int .i64 ((rd_T31 x3_2 x9_2).f0)) := hcc20 0 _ rfl
                have hx20_1 : wr.cell? ⟨go20, (x9_2 : Int).toNat * 4 + 1, none⟩ = some (.string ((rd_T31 x3_2 x9_2).f1)) := hcc20 1 _ rfl
                have hx20_2 : wr.cell? ⟨go20, (x9_2 : Int).toNat * 4 + 2, none⟩ = some (.int .i64 ((rd_T31 x3_2 x9_2).f2)) := hcc20 2 _ rfl
                have hx20_3 : wr.cell? ⟨go20, (x9_2 : Int).toNat * 4 + 3, none⟩ = some (.int .i64 ((rd_T31 x3_2 x9_2).f3)) := hcc20 3 _ rfl
                have hf20_0 : wr.frozen? ⟨go20, (x9_2 : Int).toNat * 4, none⟩ = false := hfr20 0
                have hf20_1 : wr.frozen? ⟨go20, (x9_2 : Int).toNat * 4 + 1, none⟩ = false := hfr20 1
                have hf20_2 : wr.frozen? ⟨go20, (x9_2 : Int).toNat * 4 + 2, none⟩ = false := hfr20 2
                have hf20_3 : wr.frozen? ⟨go20, (x9_2 : Int).toNat * 4 + 3, none⟩ = false := hfr20 3
                clear hcl20 hcc20 hfr20 hM20
                replace p20 := eq_true p20
                replace q20 := eq_true q20
                have HX22 := Aside0.mk (show Kd.R k31 31 wr w.heap.size (fun k_ => some k_ ≠ (v278 : Value).ownBlock) (.slice (some ⟨go20, 0, none⟩) x3_2.length co21) x3_2 from (by (with_reducible repeat (first | apply Kd.R_alloc | apply Kd.R_drewN | apply Kd.R_drew)); exact HO_3.out))
                obtain ⟨ce22, hcl22, hM22, hcc22, hfr22⟩ := Kd.R_elem HX22.out z31 (x9_2 : Int) (of_decide_eq_true (by first | (with_reducible assumption) | assumption)) (by have h_ : (x9_2 : Int) < ((x3_2.length : Int) : Int) := of_decide_eq_true (by first | (with_reducible assumption) | assumption); first | exact h_ | (have e_ := (Kd.R_reads' HO_3.out).1; omega) | simpa using h_)
                obtain rfl := k31_openM hM22
                have HP22 := Kd.R_seg HX22.out (x9_2 : Int) (of_decide_eq_true (by first | (with_reducible assumption) | assumption)) (by have h_ : (x9_2 : Int) < ((x3_2.length : Int) : Int) := of_decide_eq_true (by first | (with_reducible assumption) | assumption); first | exact h_ | (have e_ := (Kd.R_reads' HO_3.out).1; omega) | simpa using h_) (seg := [.int .i64 9, .string (⟨#[]⟩ : ByteArray), .int .i64 0, .int .i64 0]) (j := 0) hcl22 hcc22 (show 4 ≤ 4 from by decide) (x' := (⟨9, (⟨#[]⟩ : ByteArray), 0, 0⟩ : S31)) (k31_mkM _ _ _ (⟨9, (⟨#[]⟩ : ByteArray), 0, 0⟩ : S31) ) (fun _ hk => hk)
                have hx22_0 := hcc22 0 _ rfl
                (try simp only [show (k31).sz = 4 from rfl, Nat.mul_one, Nat.add_zero] at hx22_0)
                have hf22_0 := hfr22 0
                (try simp only [show (k31).sz = 4 from rfl, Nat.mul_one, Nat.add_zero] at hf22_0)
                have hx22_1 := hcc22 1 _ rfl
                (try simp only [show (k31).sz = 4 from rfl, Nat.mul_one, Nat.add_zero] at hx22_1)
                have hf22_1 := hfr22 1
                (try simp only [show (k31).sz = 4 from rfl, Nat.mul_one, Nat.add_zero] at hf22_1)
                have hx22_2 := hcc22 2 _ rfl
                (try simp only [show (k31).sz = 4 from rfl, Nat.mul_one, Nat.add_zero] at hx22_2)
                have hf22_2 := hfr22 2
                (try simp only [show (k31).sz = 4 from rfl, Nat.mul_one, Nat.add_zero] at hf22_2)
                have hx22_3 := hcc22 3 _ rfl
                (try simp only [show (k31).sz = 4 from rfl, Nat.mul_one, Nat.add_zero] at hx22_3)
                have hf22_3 := hfr22 3
                (try simp only [show (k31).sz = 4 from rfl, Nat.mul_one, Nat.add_zero] at hf22_3)
                clear hcl22 hcc22 hfr22 hM22
                go_wp2_with (first | ((with_reducible refine gate_store (t := 31) (p := 49) rfl ?_); refine store_event (t := 31) (p := 49) (v := ?vo_w23) (w1 := ((((wr.setCell ⟨go20, (x9_2 : Int).toNat * 4, none⟩ (.int .i64 9)).setCell ⟨go20, (x9_2 : Int).toNat * 4 + 1, none⟩ (.string (⟨#[]⟩ : ByteArray))).setCell ⟨go20, (x9_2 : Int).toNat * 4 + 2, none⟩ (.int .i64 0)).setCell ⟨go20, (x9_2 : Int).toNat * 4 + 3, none⟩ (.int .i64 0))) ?hg ?ho ?hn ?hr ?_; (case ho => rfl); (case hg => rfl); (case hn => rfl); (case hr => first | (go_simp; done) | (go_simp; rfl)); intro w23 hw; have hg : wr.grownBy w23 (some go20) := (by rw [hw]; exact HP22.2); have hp_ : Kd.R k31 31 w23 w.heap.size (fun k_ => some k_ ≠ (v278 : Value).ownBlock) (.slice (some ⟨go20, 0, none⟩) x3_2.length co21) y282 := (by rw [hw, Ny282.out]; exact HP22.1); clear HP22; have n0_ := Aside0.mk (hp_); have n1_ := Aside0.mk (Kd.R_after (v := (.slice (some ⟨go20, 0, none⟩) x3_2.length co21)) (v1 := (.slice (some ⟨go20, 0, none⟩) x3_2.length co21)) (ok := (fun _ => True)) (by (with_reducible repeat (first | apply Kd.R_alloc | apply Kd.R_drewN | apply Kd.R_drew)); exact Kd.R_mono HO_6.out (fun _ hk => ⟨trivial, hk⟩)) hg (.inl rfl)); have n2_ := Aside0.mk ((by rw [hw]; exact below_set (below_set (below_set (below_set (HB.out) GB20.out) GB20.out) GB20.out) GB20.out : Below w.heap.size w w23)); clear HO_3; clear HO_6; clear HB; have HO_3 := n0_; have HO_6 := n1_; have HB := n2_; clear n0_ n1_ n2_; clear hg hw hp_))
                go_roundg k2
                case measure => have := HJ3.out; have := HK2.out; omega
                case rel => exact ⟨(y282), (wrap64 (x9_2 + 1)), (by first | rfl | (simp; done) | (simp [*]; done)), H', ⟨by have := HJ3.out; have := HK2.out; omega⟩, ⟨by (with_reducible repeat (first | apply Kd.R_alloc | apply Kd.R_drewN | apply Kd.R_drew)); exact HO_3.out⟩, ⟨by (with_reducible repeat (first | apply Kd.R_alloc | apply Kd.R_drewN | apply Kd.R_drew)); exact Kd.R_mono HO_6.out (fun _ hk => hk.2)⟩, ⟨by repeat (first | (with_reducible first | exact HB.out | apply below_alloc | apply pw_below_drewN | apply below_drew1) | exact HB.out)⟩⟩
              · rw [if_neg c19] at H
                exact absurd H (by simp)
            · rw [if_neg c18] at H
              have c18b0 : decide (x9_2 < (x3_2.length : Int)) = false := decide_eq_false c18
              clear c18
              replace H := Option.bind_eq_some_iff.mp H
              obtain ⟨⟨t283, t284, t285⟩, A240, H⟩ := H
              replace H : ((mortiseref4_Same.f k2 t283 t275).bind fun t288 => (if t288 = true then ((mortiselaw4_awake.f k2).bind fun t289 => (some t289)) else (some false))) = some r := H
              have A24 := Aside0.mk A240
              clear A240
              replace H := Option.bind_eq_some_iff.mp H
              obtain ⟨t288, A250, H⟩ := H
              replace H : (if t288 = true then ((mortiselaw4_awake.f k2).bind fun t289 => (some t289)) else (some false)) = some r := H
              have A25 := Aside0.mk A250
              clear A250
              by_cases c26 : t288 = true
              · subst c26
                have H1 : ((mortiselaw4_awake.f k2).bind fun t289 => (some t289)) = some r := by rw [if_pos rfl] at H; exact H
                clear H
                have H := H1
                clear H1
                replace H := Option.bind_eq_some_iff.mp H
                obtain ⟨t289, A270, H⟩ := H
                replace H : (some t289) = some r := H
                have A27 := Aside0.mk A270
                clear A270
                obtain rfl := Option.some.inj H
                obtain ⟨Ao28, co28, eo28⟩ := Kd.R_slice HO_3.out
                subst eo28
                go_wp2_with (first | ((with_reducible refine gate_callee (f := 9) rfl ?_); refine goesL_ (some 52) rfl rfl Try.func9 (by kernel_rfl) rfl #[.string a0] rfl (by (try simp only [List.map_toArray, List.map_cons, List.map_nil]); first | done | rfl | (simp only [List.length_drop, List.length_take]; rfl)) ?_; (with_reducible refine (lex_Lex.calls k2 a0 t283 t284 t285 _ A24.out).mono ?_); rintro e w29 ⟨v286, rfl, ho0, hb⟩; refine ⟨_, rfl, ?_⟩; have n0_ := Aside0.mk (Kd.R_elder' (by (with_reducible repeat (first | apply Kd.R_alloc | apply Kd.R_drewN | apply Kd.R_drew)); exact HO_3.out) (Kd.R_base ho0) hb); have n1_ := Aside0.mk (Kd.R_elder' (by (with_reducible repeat (first | apply Kd.R_alloc | apply Kd.R_drewN | apply Kd.R_drew)); exact HO_6.out) (Kd.R_base ho0) hb); have n2_ := Aside0.mk (Kd.R_lower (Kd.R_new' (Kd.R_new' ho0 (Kd.R_lt (by (with_reducible repeat (first | apply Kd.R_alloc | apply Kd.R_drewN | apply Kd.R_drew)); exact HO_3.out))) (Kd.R_lt (by (with_reducible repeat (first | apply Kd.R_alloc | apply Kd.R_drewN | apply Kd.R_drew)); exact HO_6.out))) (below_size (by repeat (first | (with_reducible first | exact HB.out | apply below_alloc | apply pw_below_drewN | apply below_drew1) | exact HB.out)))); have n3_ := Aside0.mk (below_step (by repeat (first | (with_reducible first | exact HB.out | apply below_alloc | apply pw_below_drewN | apply below_drew1) | exact HB.out)) hb); clear HO_3; clear HO_6; clear HB; have HO_3 := n0_; have HO_6 := n1_; have HO287 := n2_; have HB := n3_; clear n0_ n1_ n2_ n3_; (try clear hb); (try clear hb2); (try clear hk); (try clear hi); (try clear ho0); obtain ⟨Ao30, co30, eo30⟩ := Kd.R_slice HO287.out; subst eo30; obtain ⟨Ao31, co31, eo31⟩ := Kd.R_slice HO_6.out; subst eo31) | ((with_reducible refine gate_callee (f := 11) rfl ?_); refine goesL_ (some 58) rfl rfl Try.func11 (by kernel_rfl) rfl #[.slice Ao30 t283.length co30, .slice Ao31 t275.length co31] rfl (by (try simp only [List.map_toArray, List.map_cons, List.map_nil]); first | done | rfl | (simp only [List.length_drop, List.length_take]; rfl)) ?_; (with_reducible refine (mortiseref4_Same.calls k2 _ _ t283 _ _ t275 true _ ?side1 ?side2 ?side3 ?side4 A25.out).mono ?_); (case side1 => repeat (first | exact (Kd.R_reads' HO287.out).2.2 | (with_reducible refine Kd.C_alloc ?_ _) | (with_reducible refine Kd.C_drewN ?_ _) | (with_reducible refine Kd.C_drew ?_))); (case side2 => exact (Kd.R_reads' HO287.out).2.1); (case side3 => repeat (first | exact (Kd.R_reads' HO_6.out).2.2 | (with_reducible refine Kd.C_alloc ?_ _) | (with_reducible refine Kd.C_drewN ?_ _) | (with_reducible refine Kd.C_drew ?_))); (case side4 => exact (Kd.R_reads' HO_6.out).2.1); rintro e w' ⟨rfl, ⟨nd, rfl⟩⟩; refine ⟨_, rfl, ?_⟩) | (go_at_call 13; (with_reducible refine (mortiselaw4_awake.calls k2  t289 _ A27.out).mono ?_); rintro e w32 ⟨rfl, hb⟩; have n0_ := Aside0.mk (Kd.R_below (by (with_reducible repeat (first | apply Kd.R_alloc | apply Kd.R_drewN | apply Kd.R_drew)); exact HO_3.out) hb); have n1_ := Aside0.mk (Kd.R_below (by (with_reducible repeat (first | apply Kd.R_alloc | apply Kd.R_drewN | apply Kd.R_drew)); exact HO_6.out) hb); have n2_ := Aside0.mk (Kd.R_below (by (with_reducible repeat (first | apply Kd.R_alloc | apply Kd.R_drewN | apply Kd.R_drew)); exact HO287.out) hb); have n3_ := Aside0.mk (below_step (by repeat (first | (with_reducible first | exact HB.out | apply below_alloc | apply pw_below_drewN | apply below_drew1) | exact HB.out)) hb); clear HO_3; clear HO_6; clear HO287; clear HB; have HO_3 := n0_; have HO_6 := n1_; have HO287 := n2_; have HB := n3_; clear n0_ n1_ n2_ n3_; (try clear hb); (try clear hb2); (try clear hk); (try clear hi)))
                go_ret
                exact ⟨by first | rfl | (simp [errW_none, errW_some] <;> rfl) | (simp [*, errW_none, errW_some] <;> rfl), by repeat (first | (with_reducible first | exact HB.out | apply below_alloc | apply pw_below_drewN | apply below_drew1) | exact HB.out)⟩
              · replace c26 := Bool.eq_false_iff.mpr c26
                subst c26
                have H1 : (some false) = some r := by rw [if_neg (show ¬ (false = true) by decide)] at H; exact H
                clear H
                have H := H1
                clear H1
                obtain rfl := Option.some.inj H
                obtain ⟨Ao33, co33, eo33⟩ := Kd.R_slice HO_3.out
                subst eo33
                go_wp2_with (first | ((with_reducible refine gate_callee (f := 9) rfl ?_); refine goesL_ (some 52) rfl rfl Try.func9 (by kernel_rfl) rfl #[.string a0] rfl (by (try simp only [List.map_toArray, List.map_cons, List.map_nil]); first | done | rfl | (simp only [List.length_drop, List.length_take]; rfl)) ?_; (with_reducible refine (lex_Lex.calls k2 a0 t283 t284 t285 _ A24.out).mono ?_); rintro e w34 ⟨v286, rfl, ho0, hb⟩; refine ⟨_, rfl, ?_⟩; have n0_ := Aside0.mk (Kd.R_elder' (by (with_reducible repeat (first | apply Kd.R_alloc | apply Kd.R_drewN | apply Kd.R_drew)); exact HO_3.out) (Kd.R_base ho0) hb); have n1_ := Aside0.mk (Kd.R_elder' (by (with_reducible repeat (first | apply Kd.R_alloc | apply Kd.R_drewN | apply Kd.R_drew)); exact HO_6.out) (Kd.R_base ho0) hb); have n2_ := Aside0.mk (Kd.R_lower (Kd.R_new' (Kd.R_new' ho0 (Kd.R_lt (by (with_reducible repeat (first | apply Kd.R_alloc | apply Kd.R_drewN | apply Kd.R_drew)); exact HO_3.out))) (Kd.R_lt (by (with_reducible repeat (first | apply Kd.R_alloc | apply Kd.R_drewN | apply Kd.R_drew)); exact HO_6.out))) (below_size (by repeat (first | (with_reducible first | exact HB.out | apply below_alloc | apply pw_below_drewN | apply below_drew1) | exact HB.out)))); have n3_ := Aside0.mk (below_step (by repeat (first | (with_reducible first | exact HB.out | apply below_alloc | apply pw_below_drewN | apply below_drew1) | exact HB.out)) hb); clear HO_3; clear HO_6; clear HB; have HO_3 := n0_; have HO_6 := n1_; have HO287 := n2_; have HB := n3_; clear n0_ n1_ n2_ n3_; (try clear hb); (try clear hb2); (try clear hk); (try clear hi); (try clear ho0); obtain ⟨Ao35, co35, eo35⟩ := Kd.R_slice HO287.out; subst eo35; obtain ⟨Ao36, co36, eo36⟩ := Kd.R_slice HO_6.out; subst eo36) | ((with_reducible refine gate_callee (f := 11) rfl ?_); refine goesL_ (some 58) rfl rfl Try.func11 (by kernel_rfl) rfl #[.slice Ao35 t283.length co35, .slice Ao36 t275.length co36] rfl (by (try simp only [List.map_toArray, List.map_cons, List.map_nil]); first | done | rfl | (simp only [List.length_drop, List.length_take]; rfl)) ?_; (with_reducible refine (mortiseref4_Same.calls k2 _ _ t283 _ _ t275 false _ ?side1 ?side2 ?side3 ?side4 A25.out).mono ?_); (case side1 => repeat (first | exact (Kd.R_reads' HO287.out).2.2 | (with_reducible refine Kd.C_alloc ?_ _) | (with_reducible refine Kd.C_drewN ?_ _) | (with_reducible refine Kd.C_drew ?_))); (case side2 => exact (Kd.R_reads' HO287.out).2.1); (case side3 => repeat (first | exact (Kd.R_reads' HO_6.out).2.2 | (with_reducible refine Kd.C_alloc ?_ _) | (with_reducible refine Kd.C_drewN ?_ _) | (with_reducible refine Kd.C_drew ?_))); (case side4 => exact (Kd.R_reads' HO_6.out).2.1); rintro e w' ⟨rfl, ⟨nd, rfl⟩⟩; refine ⟨_, rfl, ?_⟩))
                go_ret
                exact ⟨by first | rfl | (simp [errW_none, errW_some] <;> rfl) | (simp [*, errW_none, errW_some] <;> rfl), by repeat (first | (with_reducible first | exact HB.out | apply below_alloc | apply pw_below_drewN | apply below_drew1) | exact HB.out)⟩

/-- THE ONE PURE STATEMENT of mortiselaw4_LexReads: yours. -/
def mortiselaw4_LexReads.Pure : Prop := ∀ (a0 : ByteArray), a0.size ≤ 140737488351232 → ∃ k, mortiselaw4_LexReads.f k a0 = some true
theorem mortiselaw4_LexReads.walk (P : mortiselaw4_LexReads.Pure) (a0 : ByteArray) (w : World) (w0 : a0.size ≤ 140737488351232) :
    Calls Try.prog 3 #[.string a0] w fun e w' => e = .returned (.bool true) ∧ Below w.heap.size w w' := by
  obtain ⟨k, h⟩ := P a0 w0
  refine (mortiselaw4_LexReads.calls k a0 true w h).mono ?_
  rintro e w' ⟨rfl, hd⟩
  exact ⟨rfl, hd⟩

end Go.Proofs.Ytmmjhdhgohfioaa.Gx
