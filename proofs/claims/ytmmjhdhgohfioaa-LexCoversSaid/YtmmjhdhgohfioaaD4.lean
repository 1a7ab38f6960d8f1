/-
  Written by a program for this claim: Go functions as plain functions, and that the machine's calls do just what these say.
-/
import Derived.Test.YtmmjhdhgohfioaaD1
import Derived.Test.YtmmjhdhgohfioaaD3
namespace Go.Proofs.Ytmmjhdhgohfioaa.Gx
open Go.RowKit Go.Proofs.YtmmjhdhgohfioaaW.PrintWords Go.Proofs.YtmmjhdhgohfioaaW.PrintLast Go.Proofs.YtmmjhdhgohfioaaW.PrintMore
attribute [local go_sem] max2_int min2_int max_two min_two max_three min_three max_four min_four
set_option linter.unusedVariables false
set_option linter.unusedSimpArgs false

attribute [local go_sem high] eqA31
/-! ### mortiselaw4_LexCovers: function 4 -/
mutual
def mortiselaw4_LexCovers.l0 : Nat → ByteArray → List (S31) → Int → Int → Option (Bool)
  | 0, _, _, _, _ => none
  | k + 1, x0, x3, x6, x7 => if x7 < (x3.length : Int) then (if 0 ≤ x7 then (if ((rd_T31 x3 x7).f3) < x6 then (mortiselaw4_LexCovers.j1 k x0 x3 x7 true ((rd_T31 x3 x7).f0) ((rd_T31 x3 x7).f1) ((rd_T31 x3 x7).f2) ((rd_T31 x3 x7).f3)) else (if ((rd_T31 x3 x7).f3) > (x0.size : Int) then (mortiselaw4_LexCovers.j1 k x0 x3 x7 true ((rd_T31 x3 x7).f0) ((rd_T31 x3 x7).f1) ((rd_T31 x3 x7).f2) ((rd_T31 x3 x7).f3)) else (if ((((rd_T31 x3 x7).f0) == 0) != (x7 == (wrap64 ((x3.length : Int) - 1)))) = true then (mortiselaw4_LexCovers.j1 k x0 x3 x7 true ((rd_T31 x3 x7).f0) ((rd_T31 x3 x7).f1) ((rd_T31 x3 x7).f2) ((rd_T31 x3 x7).f3)) else (if 0 ≤ x6 then (if x6 ≤ ((rd_T31 x3 x7).f3) then (if ((rd_T31 x3 x7).f3) ≤ (x0.size : Int) then ((mortiselaw4_between.f k (x0.extract (x6 : Int).toNat (((rd_T31 x3 x7).f3) : Int).toNat)).bind fun t300 => (mortiselaw4_LexCovers.j1 k x0 x3 x7 (!t300) ((rd_T31 x3 x7).f0) ((rd_T31 x3 x7).f1) ((rd_T31 x3 x7).f2) ((rd_T31 x3 x7).f3))) else (none)) else (none)) else (none))))) else (none)) else (if x6 = (x0.size : Int) then ((mortiselaw4_awake.f k).bind fun t297 => (some t297)) else (some false))
def mortiselaw4_LexCovers.j1 : Nat → ByteArray → List (S31) → Int → Bool → Int → ByteArray → Int → Int → Option (Bool)
  | 0, _, _, _, _, _, _, _, _ => none
  | k + 1, x0, x3, x7, x74, x300000, x300001, x300002, x300003 => if x74 = true then (some false) else (if x300000 = 4 then (mortiselaw4_LexCovers.l1 k x0 x3 (wrap64 (x300003 + 1)) x7) else (if x300000 = 0 then (mortiselaw4_LexCovers.l0 k x0 x3 (wrap64 (x300003 + (x300001.size : Int))) (wrap64 (x7 + 1))) else (if (x300001.size : Int) > (wrap64 ((x0.size : Int) - x300003)) then (some false) else (if 0 ≤ x300003 then (if x300003 ≤ (wrap64 (x300003 + (x300001.size : Int))) then (if (wrap64 (x300003 + (x300001.size : Int))) ≤ (x0.size : Int) then (if (x0.extract (x300003 : Int).toNat ((wrap64 (x300003 + (x300001.size : Int))) : Int).toNat).toList = x300001.toList then (mortiselaw4_LexCovers.l0 k x0 x3 (wrap64 (x300003 + (x300001.size : Int))) (wrap64 (x7 + 1))) else (some false)) else (none)) else (none)) else (none)))))
def mortiselaw4_LexCovers.l1 : Nat → ByteArray → List (S31) → Int → Int → Option (Bool)
  | 0, _, _, _, _ => none
  | k + 1, x0, x3, x6, x7 => if x6 < (x0.size : Int) then (if 0 ≤ x6 then (mortiselaw4_LexCovers.j3 k x0 x3 x6 x7 ((bt x0 x6) != 34)) else (none)) else (mortiselaw4_LexCovers.j3 k x0 x3 x6 x7 false)
def mortiselaw4_LexCovers.j3 : Nat → ByteArray → List (S31) → Int → Int → Bool → Option (Bool)
  | 0, _, _, _, _, _ => none
  | k + 1, x0, x3, x6, x7, x96 => if x96 = true then (if 0 ≤ x6 then (if x6 < (x0.size : Int) then (if (bt x0 x6) = 92 then (mortiselaw4_LexCovers.l1 k x0 x3 (wrap64 ((wrap64 (x6 + 1)) + 1)) x7) else (mortiselaw4_LexCovers.l1 k x0 x3 (wrap64 (x6 + 1)) x7)) else (none)) else (none)) else (mortiselaw4_LexCovers.l0 k x0 x3 (wrap64 (x6 + 1)) (wrap64 (x7 + 1)))
end
def mortiselaw4_LexCovers.f (k : Nat) (a0 : ByteArray) : Option (Bool) := (lex_Lex.f k a0).bind fun bt290 => ((mortiselaw4_num.f bt290.2.2).bind fun t295 => (if t295 = 0 then (mortiselaw4_LexCovers.l0 k a0 bt290.1 0 0) else (if (bt290.1.length : Int) = 0 then (if bt290.2.1 ≥ 0 then (if bt290.2.1 ≤ (a0.size : Int) then ((mortiselaw4_awake.f k).bind fun t296 => (some t296)) else (some false)) else (some false)) else (some false))))
theorem mortiselaw4_LexCovers.mono_l : ∀ k, (∀ y0 y1 y2 y3, LeO (mortiselaw4_LexCovers.l0 k y0 y1 y2 y3) (mortiselaw4_LexCovers.l0 (k + 1) y0 y1 y2 y3)) ∧ (∀ y0 y1 y2 y3 y4 y5 y6 y7, LeO (mortiselaw4_LexCovers.j1 k y0 y1 y2 y3 y4 y5 y6 y7) (mortiselaw4_LexCovers.j1 (k + 1) y0 y1 y2 y3 y4 y5 y6 y7)) ∧ (∀ y0 y1 y2 y3, LeO (mortiselaw4_LexCovers.l1 k y0 y1 y2 y3) (mortiselaw4_LexCovers.l1 (k + 1) y0 y1 y2 y3)) ∧ (∀ y0 y1 y2 y3 y4, LeO (mortiselaw4_LexCovers.j3 k y0 y1 y2 y3 y4) (mortiselaw4_LexCovers.j3 (k + 1) y0 y1 y2 y3 y4))
  | 0 => ⟨fun _ _ _ _ r h => by simp [mortiselaw4_LexCovers.l0] at h, fun _ _ _ _ _ _ _ _ r h => by simp [mortiselaw4_LexCovers.j1] at h, fun _ _ _ _ r h => by simp [mortiselaw4_LexCovers.l1] at h, fun _ _ _ _ _ r h => by simp [mortiselaw4_LexCovers.j3] at h⟩
  | k + 1 => by
    obtain ⟨ih0, ih1, ih2, ih3⟩ := mortiselaw4_LexCovers.mono_l k
    refine ⟨?_, ?_, ?_, ?_⟩
    · intro y0 y1 y2 y3
      unfold mortiselaw4_LexCovers.l0
      repeat' first
      | (with_reducible exact ih0 _ _ _ _)
      | (with_reducible exact ih1 _ _ _ _ _ _ _ _)
      | (with_reducible exact ih2 _ _ _ _)
      | (with_reducible exact ih3 _ _ _ _ _)
      | (with_reducible exact lex_Lex.mono _ _)
      | (with_reducible exact mortiselaw4_awake.mono _)
      | (with_reducible exact mortiselaw4_between.mono _ _)
      | (with_reducible exact LeO.refl _)
      | (with_reducible exact LeO.none _)
      | (with_reducible refine LeO.ite ?_ ?_)
      | (with_reducible refine LeO.bind ?_ (fun _ => ?_))
      | exact ih0 _ _ _ _
      | exact ih1 _ _ _ _ _ _ _ _
      | exact ih2 _ _ _ _
      | exact ih3 _ _ _ _ _
      | exact lex_Lex.mono _ _
      | exact mortiselaw4_awake.mono _
      | exact mortiselaw4_between.mono _ _
      | exact LeO.none _
      | refine LeO.ite ?_ ?_
      | refine LeO.bind ?_ (fun _ => ?_)
    · intro y0 y1 y2 y3 y4 y5 y6 y7
      unfold mortiselaw4_LexCovers.j1
      repeat' first
      | (with_reducible exact ih0 _ _ _ _)
      | (with_reducible exact ih1 _ _ _ _ _ _ _ _)
      | (with_reducible exact ih2 _ _ _ _)
      | (with_reducible exact ih3 _ _ _ _ _)
      | (with_reducible exact lex_Lex.mono _ _)
      | (with_reducible exact mortiselaw4_awake.mono _)
      | (with_reducible exact mortiselaw4_between.mono _ _)
      | (with_reducible exact LeO.refl _)
      | (with_reducible exact LeO.none _)
      | (with_reducible refine LeO.ite ?_ ?_)
      | (with_reducible refine LeO.bind ?_ (fun _ => ?_))
      | exact ih0 _ _ _ _
      | exact ih1 _ _ _ _ _ _ _ _
      | exact ih2 _ _ _ _
      | exact ih3 _ _ _ _ _
      | exact lex_Lex.mono _ _
      | exact mortiselaw4_awake.mono _
      | exact mortiselaw4_between.mono _ _
      | exact LeO.none _
      | refine LeO.ite ?_ ?_
      | refine LeO.bind ?_ (fun _ => ?_)
    · intro y0 y1 y2 y3
      unfold mortiselaw4_LexCovers.l1
      repeat' first
      | (with_reducible exact ih0 _ _ _ _)
      | (with_reducible exact ih1 _ _ _ _ _ _ _ _)
      | (with_reducible exact ih2 _ _ _ _)
      | (with_reducible exact ih3 _ _ _ _ _)
      | (with_reducible exact lex_Lex.mono _ _)
      | (with_reducible exact mortiselaw4_awake.mono _)
      | (with_reducible exact mortiselaw4_between.mono _ _)
      | (with_reducible exact LeO.refl _)
      | (with_reducible exact LeO.none _)
      | (with_reducible refine LeO.ite ?_ ?_)
      | (with_reducible refine LeO.bind ?_ (fun _ => ?_))
      | exact ih0 _ _ _ _
      | exact ih1 _ _ _ _ _ _ _ _
      | exact ih2 _ _ _ _
      | exact ih3 _ _ _ _ _
      | exact lex_Lex.mono _ _
      | exact mortiselaw4_awake.mono _
      | exact mortiselaw4_between.mono _ _
      | exact LeO.none _
      | refine LeO.ite ?_ ?_
      | refine LeO.bind ?_ (fun _ => ?_)
    · intro y0 y1 y2 y3 y4
      unfold mortiselaw4_LexCovers.j3
      repeat' first
      | (with_reducible exact ih0 _ _ _ _)
      | (with_reducible exact ih1 _ _ _ _ _ _ _ _)
      | (with_reducible exact ih2 _ _ _ _)
      | (with_reducible exact ih3 _ _ _ _ _)
      | (with_reducible exact lex_Lex.mono _ _)
      | (with_reducible exact mortiselaw4_awake.mono _)
      | (with_reducible exact mortiselaw4_between.mono _ _)
      | (with_reducible exact LeO.refl _)
      | (with_reducible exact LeO.none _)
      | (with_reducible refine LeO.ite ?_ ?_)
      | (with_reducible refine LeO.bind ?_ (fun _ => ?_))
      | exact ih0 _ _ _ _
      | exact ih1 _ _ _ _ _ _ _ _
      | exact ih2 _ _ _ _
      | exact ih3 _ _ _ _ _
      | exact lex_Lex.mono _ _
      | exact mortiselaw4_awake.mono _
      | exact mortiselaw4_between.mono _ _
      | exact LeO.none _
      | refine LeO.ite ?_ ?_
      | refine LeO.bind ?_ (fun _ => ?_)
theorem mortiselaw4_LexCovers.mono : ∀ a0 k, LeO (mortiselaw4_LexCovers.f k a0) (mortiselaw4_LexCovers.f (k + 1) a0) := by
  intro a0 k
  obtain ⟨ih0, ih1, ih2, ih3⟩ := mortiselaw4_LexCovers.mono_l k
  unfold mortiselaw4_LexCovers.f
  repeat' first
      | (with_reducible exact ih0 _ _ _ _)
      | (with_reducible exact ih1 _ _ _ _ _ _ _ _)
      | (with_reducible exact ih2 _ _ _ _)
      | (with_reducible exact ih3 _ _ _ _ _)
      | (with_reducible exact lex_Lex.mono _ _)
      | (with_reducible exact mortiselaw4_awake.mono _)
      | (with_reducible exact mortiselaw4_between.mono _ _)
      | (with_reducible exact LeO.refl _)
      | (with_reducible exact LeO.none _)
      | (with_reducible refine LeO.ite ?_ ?_)
      | (with_reducible refine LeO.bind ?_ (fun _ => ?_))
      | exact ih0 _ _ _ _
      | exact ih1 _ _ _ _ _ _ _ _
      | exact ih2 _ _ _ _
      | exact ih3 _ _ _ _ _
      | exact lex_Lex.mono _ _
      | exact mortiselaw4_awake.mono _
      | exact mortiselaw4_between.mono _ _
      | exact LeO.none _
      | refine LeO.ite ?_ ?_
      | refine LeO.bind ?_ (fun _ => ?_)
set_option maxHeartbeats 8000000 in
set_option maxRecDepth 100000 in
theorem mortiselaw4_LexCovers.calls (k : Nat) (a0 : ByteArray) (r : Bool) (w : World) (h : mortiselaw4_LexCovers.f k a0 = some r) :
    Calls Try.prog 4 #[.string a0] w fun e w' => e = .returned (.bool r) ∧ Below w.heap.size w w' := by
  have hu31 := Try.underlying31
  have HB := Aside0.mk (Below.refl w.heap.size w)
  have H : ((lex_Lex.f k a0).bind fun bt290 => ((mortiselaw4_num.f bt290.2.2).bind fun t295 => (if t295 = 0 then (mortiselaw4_LexCovers.l0 k a0 bt290.1 0 0) else (if (bt290.1.length : Int) = 0 then (if bt290.2.1 ≥ 0 then (if bt290.2.1 ≤ (a0.size : Int) then ((mortiselaw4_awake.f k).bind fun t296 => (some t296)) else (some false)) else (some false)) else (some false))))) = some r := h
  clear h
  replace H := Option.bind_eq_some_iff.mp H
  obtain ⟨⟨t290, t291, t292⟩, A20, H⟩ := H
  replace H : ((mortiselaw4_num.f t292).bind fun t295 => (if t295 = 0 then (mortiselaw4_LexCovers.l0 k a0 t290 0 0) else (if (t290.length : Int) = 0 then (if t291 ≥ 0 then (if t291 ≤ (a0.size : Int) then ((mortiselaw4_awake.f k).bind fun t296 => (some t296)) else (some false)) else (some false)) else (some false)))) = some r := H
  have A2 := Aside0.mk A20
  clear A20
  replace H := Option.bind_eq_some_iff.mp H
  obtain ⟨t295, A30, H⟩ := H
  replace H : (if t295 = 0 then (mortiselaw4_LexCovers.l0 k a0 t290 0 0) else (if (t290.length : Int) = 0 then (if t291 ≥ 0 then (if t291 ≤ (a0.size : Int) then ((mortiselaw4_awake.f k).bind fun t296 => (some t296)) else (some false)) else (some false)) else (some false))) = some r := H
  have A3 := Aside0.mk A30
  clear A30
  by_cases c4 : t295 = 0
  · rw [if_pos c4] at H
    have c4b0 : (t295 == 0) = true := beq_iff_eq.mpr c4
    have c4b1 : (t295 != 0) = false := bne_eq_false_iff_eq.mpr c4
    clear c4
    have H' := Aside0.mk H
    clear H
    go_enter Try.func4, Try.ntmps4
    go_wp2_with (first | (go_at_call 9; (with_reducible refine (lex_Lex.calls k a0 t290 t291 t292 _ A2.out).mono ?_); rintro e w5 ⟨v293, rfl, ho0, hb⟩; have n0_ := Aside0.mk (Kd.R_lower ho0 (below_size (by repeat (first | (with_reducible first | exact HB.out | apply below_alloc | apply pw_below_drewN | apply below_drew1) | exact HB.out)))); have n1_ := Aside0.mk (below_step (by repeat (first | (with_reducible first | exact HB.out | apply below_alloc | apply pw_below_drewN | apply below_drew1) | exact HB.out)) hb); clear HB; have HO294 := n0_; have HB := n1_; clear n0_ n1_; (try clear hb); (try clear hb2); (try clear hk); (try clear hi); (try clear ho0)) | (go_at_call 12; (with_reducible refine (mortiselaw4_num.calls t292 t295 _ A3.out).mono ?_); rintro e w' ⟨rfl, ⟨nd, rfl⟩⟩; (try first | exact ⟨rfl, _, World.drewN_drewN _ _ _⟩ | exact ⟨rfl, _, Eq.trans (World.drewN_drewN _ _ _) (congrArg (World.drewN _) (Nat.add_assoc _ _ _))⟩)))
    repeat (go_quiet (first | (go_at_call 9; (with_reducible refine (lex_Lex.calls k a0 t290 t291 t292 _ A2.out).mono ?_); rintro e w5 ⟨v293, rfl, ho0, hb⟩; have n0_ := Aside0.mk (Kd.R_lower ho0 (below_size (by repeat (first | (with_reducible first | exact HB.out | apply below_alloc | apply pw_below_drewN | apply below_drew1) | exact HB.out)))); have n1_ := Aside0.mk (below_step (by repeat (first | (with_reducible first | exact HB.out | apply below_alloc | apply pw_below_drewN | apply below_drew1) | exact HB.out)) hb); clear HB; have HO294 := n0_; have HB := n1_; clear n0_ n1_; (try clear hb); (try clear hb2); (try clear hk); (try clear hi); (try clear ho0)) | (go_at_call 12; (with_reducible refine (mortiselaw4_num.calls t292 t295 _ A3.out).mono ?_); rintro e w' ⟨rfl, ⟨nd, rfl⟩⟩; (try first | exact ⟨rfl, _, World.drewN_drewN _ _ _⟩ | exact ⟨rfl, _, Eq.trans (World.drewN_drewN _ _ _) (congrArg (World.drewN _) (Nat.add_assoc _ _ _))⟩))); try go_wp2_with (first | (go_at_call 9; (with_reducible refine (lex_Lex.calls k a0 t290 t291 t292 _ A2.out).mono ?_); rintro e w5 ⟨v293, rfl, ho0, hb⟩; have n0_ := Aside0.mk (Kd.R_lower ho0 (below_size (by repeat (first | (with_reducible first | exact HB.out | apply below_alloc | apply pw_below_drewN | apply below_drew1) | exact HB.out)))); have n1_ := Aside0.mk (below_step (by repeat (first | (with_reducible first | exact HB.out | apply below_alloc | apply pw_below_drewN | apply below_drew1) | exact HB.out)) hb); clear HB; have HO294 := n0_; have HB := n1_; clear n0_ n1_; (try clear hb); (try clear hb2); (try clear hk); (try clear hi); (try clear ho0)) | (go_at_call 12; (with_reducible refine (mortiselaw4_num.calls t292 t295 _ A3.out).mono ?_); rintro e w' ⟨rfl, ⟨nd, rfl⟩⟩; (try first | exact ⟨rfl, _, World.drewN_drewN _ _ _⟩ | exact ⟨rfl, _, Eq.trans (World.drewN_drewN _ _ _) (congrArg (World.drewN _) (Nat.add_assoc _ _ _))⟩))))
    go_loopg [6, 7] k (fun kq v6 v7 w' => ∃ (x6_1 : Int) (x7_1 : Int), v6 = .int .i64 x6_1 ∧ v7 = .int .i64 x7_1 ∧ Aside0 (mortiselaw4_LexCovers.l0 kq a0 t290 x6_1 x7_1 = some r) ∧ Aside0 (kq ≤ k) ∧ Aside0 (Kd.R k31 31 w' w.heap.size (fun _ => True) v293 t290) ∧ Aside0 (Below w.heap.size w w'))
    case atStart => exact ⟨(0), (0), (by first | rfl | (simp; done) | (simp [*]; done)), (by first | rfl | (simp; done) | (simp [*]; done)), H', ⟨Nat.le_refl _⟩, ⟨by (with_reducible repeat (first | apply Kd.R_alloc | apply Kd.R_drewN | apply Kd.R_drew)); exact HO294.out⟩, ⟨by repeat (first | (with_reducible first | exact HB.out | apply below_alloc | apply pw_below_drewN | apply below_drew1) | exact HB.out)⟩⟩
    case round =>
      clear H'
      try clear p2
      try clear c4
      try clear c4b0
      try clear c4b1
      obtain ⟨x6_1, x7_1, rfl, rfl, HA, HK1, HO_3, HB⟩ := hrel
      cases gk with
      | zero => exact absurd HA.out (by simp [mortiselaw4_LexCovers.l0])
      | succ k1 =>
        have H := HA.out
        clear HA
        simp only [mortiselaw4_LexCovers.l0] at H
        by_cases c6 : x7_1 < (t290.length : Int)
        · rw [if_pos c6] at H
          have c6b0 : decide (x7_1 < (t290.length : Int)) = true := decide_eq_true c6
          clear c6
          by_cases c7 : 0 ≤ x7_1
          · rw [if_pos c7] at H
            have c7b0 : decide (0 ≤ x7_1) = true := decide_eq_true c7
            clear c7
            have HC8 := Aside0.mk H
            clear H
            obtain ⟨Ao9, co9, eo9⟩ := Kd.R_slice HO_3.out
            subst eo9
            have p298 : 0 ≤ (x7_1 : Int) := of_decide_eq_true (by first | (with_reducible assumption) | assumption)
            have q298 : x7_1 < (t290.length : Int) := of_decide_eq_true (by first | (with_reducible assumption) | assumption)
            obtain ⟨ad298, e298, hx298_0, hx298_1, hx298_2, hx298_3⟩ := at_T31 (Kd.R_reads' HO_3.out).2.2 x7_1 p298 q298
            cases e298
            replace p298 := eq_true p298
            replace q298 := eq_true q298
            go_upto_region 9 with (first | ((with_reducible refine gate_dst (N := 8) rfl ?_); (try (refine gate_guard (by rfl) ?_; dsimp only)); refine box_event ?hg (N := 8) ?hd (cs := #[.int .i64 0, .string (⟨#[]⟩ : ByteArray), .int .i64 0, .int .i64 0]) (t := 31) ?hr ?_; (case hd => rfl); (case hg => rfl); (case hr => first | (go_simp; done) | (go_simp; rfl)); intro gb299 hg w10 hbox hb; have n0_ := Aside0.mk (Kd.R_below (Kd.R_elderB (by (with_reducible repeat (first | apply Kd.R_alloc | apply Kd.R_drewN | apply Kd.R_drew)); exact HO_3.out) gb299 (Nat.le_of_eq hg.symm)) hb); have n1_ := Aside0.mk (below_step (by repeat (first | (with_reducible first | exact HB.out | apply below_alloc | apply pw_below_drewN | apply below_drew1) | exact HB.out)) hb); have n2_ := Aside0.mk (hbox); have n3_ := Aside0.mk ((by rw [hg]; exact (below_size (by repeat (first | (with_reducible first | exact HB.out | apply below_alloc | apply pw_below_drewN | apply below_drew1) | exact HB.out))) : w.heap.size ≤ gb299)); have n4_ := Aside0.mk ((by rw [hg]; exact (below_size (by repeat (first | (with_reducible first | exact HB.out | apply below_alloc | apply pw_below_drewN | apply below_drew1) | exact HB.out))) : w.heap.size ≤ gb299)); clear HO_3; clear HB; have HO_3 := n0_; have HB := n1_; have BK299 := n2_; have GW299 := n3_; have GE299 := n4_; clear n0_ n1_ n2_ n3_ n4_; clear hb hbox hg; have hcz11_0 : w10.cell? ⟨gb299, 0, none⟩ = some (.int .i64 0) := (blk_cell BK299.out 0).trans rfl; have hcz11_1 : w10.cell? ⟨gb299, 1, none⟩ = some (.string (⟨#[]⟩ : ByteArray)) := (blk_cell BK299.out 1).trans rfl; have hcz11_2 : w10.cell? ⟨gb299, 2, none⟩ = some (.int .i64 0) := (blk_cell BK299.out 2).trans rfl; have hcz11_3 : w10.cell? ⟨gb299, 3, none⟩ = some (.int .i64 0) := (blk_cell BK299.out 3).trans rfl; have hfz11_0 := blk_frozen BK299.out 0; have hfz11_1 := blk_frozen BK299.out 1; have hfz11_2 := blk_frozen BK299.out 2; have hfz11_3 := blk_frozen BK299.out 3))
            repeat (go_quiet (first | ((with_reducible refine gate_dst (N := 8) rfl ?_); (try (refine gate_guard (by rfl) ?_; dsimp only)); refine box_event ?hg (N := 8) ?hd (cs := #[.int .i64 0, .string (⟨#[]⟩ : ByteArray), .int .i64 0, .int .i64 0]) (t := 31) ?hr ?_; (case hd => rfl); (case hg => rfl); (case hr => first | (go_simp; done) | (go_simp; rfl)); intro gb299 hg w10 hbox hb; have n0_ := Aside0.mk (Kd.R_below (Kd.R_elderB (by (with_reducible repeat (first | apply Kd.R_alloc | apply Kd.R_drewN | apply Kd.R_drew)); exact HO_3.out) gb299 (Nat.le_of_eq hg.symm)) hb); have n1_ := Aside0.mk (below_step (by repeat (first | (with_reducible first | exact HB.out | apply below_alloc | apply pw_below_drewN | apply below_drew1) | exact HB.out)) hb); have n2_ := Aside0.mk (hbox); have n3_ := Aside0.mk ((by rw [hg]; exact (below_size (by repeat (first | (with_reducible first | exact HB.out | apply below_alloc | apply pw_below_drewN | apply below_drew1) | exact HB.out))) : w.heap.size ≤ gb299)); have n4_ := Aside0.mk ((by rw [hg]; exact (below_size (by repeat (first | (with_reducible first | exact HB.out | apply below_alloc | apply pw_below_drewN | apply below_drew1) | exact HB.out))) : w.heap.size ≤ gb299)); clear HO_3; clear HB; have HO_3 := n0_; have HB := n1_; have BK299 := n2_; have GW299 := n3_; have GE299 := n4_; clear n0_ n1_ n2_ n3_ n4_; clear hb hbox hg; have hcz11_0 : w10.cell? ⟨gb299, 0, none⟩ = some (.int .i64 0) := (blk_cell BK299.out 0).trans rfl; have hcz11_1 : w10.cell? ⟨gb299, 1, none⟩ = some (.string (⟨#[]⟩ : ByteArray)) := (blk_cell BK299.out 1).trans rfl; have hcz11_2 : w10.cell? ⟨gb299, 2, none⟩ = some (.int .i64 0) := (blk_cell BK299.out 2).trans rfl; have hcz11_3 : w10.cell? ⟨gb299, 3, none⟩ = some (.int .i64 0) := (blk_cell BK299.out 3).trans rfl; have hfz11_0 := blk_frozen BK299.out 0; have hfz11_1 := blk_frozen BK299.out 1; have hfz11_2 := blk_frozen BK299.out 2; have hfz11_3 := blk_frozen BK299.out 3)); go_upto_region 9 with (first | ((with_reducible refine gate_dst (N := 8) rfl ?_); (try (refine gate_guard (by rfl) ?_; dsimp only)); refine box_event ?hg (N := 8) ?hd (cs := #[.int .i64 0, .string (⟨#[]⟩ : ByteArray), .int .i64 0, .int .i64 0]) (t := 31) ?hr ?_; (case hd => rfl); (case hg => rfl); (case hr => first | (go_simp; done) | (go_simp; rfl)); intro gb299 hg w10 hbox hb; have n0_ := Aside0.mk (Kd.R_below (Kd.R_elderB (by (with_reducible repeat (first | apply Kd.R_alloc | apply Kd.R_drewN | apply Kd.R_drew)); exact HO_3.out) gb299 (Nat.le_of_eq hg.symm)) hb); have n1_ := Aside0.mk (below_step (by repeat (first | (with_reducible first | exact HB.out | apply below_alloc | apply pw_below_drewN | apply below_drew1) | exact HB.out)) hb); have n2_ := Aside0.mk (hbox); have n3_ := Aside0.mk ((by rw [hg]; exact (below_size (by repeat (first | (with_reducible first | exact HB.out | apply below_alloc | apply pw_below_drewN | apply below_drew1) | exact HB.out))) : w.heap.size ≤ gb299)); have n4_ := Aside0.mk ((by rw [hg]; exact (below_size (by repeat (first | (with_reducible first | exact HB.out | apply below_alloc | apply pw_below_drewN | apply below_drew1) | exact HB.out))) : w.heap.size ≤ gb299)); clear HO_3; clear HB; have HO_3 := n0_; have HB := n1_; have BK299 := n2_; have GW299 := n3_; have GE299 := n4_; clear n0_ n1_ n2_ n3_ n4_; clear hb hbox hg; have hcz11_0 : w10.cell? ⟨gb299, 0, none⟩ = some (.int .i64 0) := (blk_cell BK299.out 0).trans rfl; have hcz11_1 : w10.cell? ⟨gb299, 1, none⟩ = some (.string (⟨#[]⟩ : ByteArray)) := (blk_cell BK299.out 1).trans rfl; have hcz11_2 : w10.cell? ⟨gb299, 2, none⟩ = some (.int .i64 0) := (blk_cell BK299.out 2).trans rfl; have hcz11_3 : w10.cell? ⟨gb299, 3, none⟩ = some (.int .i64 0) := (blk_cell BK299.out 3).trans rfl; have hfz11_0 := blk_frozen BK299.out 0; have hfz11_1 := blk_frozen BK299.out 1; have hfz11_2 := blk_frozen BK299.out 2; have hfz11_3 := blk_frozen BK299.out 3)))
            (try simp only [Act.put, List.setIfInBounds_toArray, List.set_cons_zero, List.set_cons_succ])
            go_cut [74] (fun v74 wc => ∃ (kq : Nat) (x74_7 : Bool), v74 = .bool x74_7 ∧ Aside0 (mortiselaw4_LexCovers.j1 kq a0 t290 x7_1 x74_7 ((rd_T31 t290 x7_1).f0) ((rd_T31 t290 x7_1).f1) ((rd_T31 t290 x7_1).f2) ((rd_T31 t290 x7_1).f3) = some r) ∧ Aside0 (kq ≤ k1) ∧ Aside0 (Kd.R k31 31 wc w.heap.size (fun k_ => k_ ≠ gb299) (.slice (some ad298) t290.length co9) t290) ∧ Aside0 (wc.heap[gb299]? = some (.cells #[.int .i64 ((rd_T31 t290 x7_1).f0), .string ((rd_T31 t290 x7_1).f1), .int .i64 ((rd_T31 t290 x7_1).f2), .int .i64 ((rd_T31 t290 x7_1).f3)] 31 (0, 0))) ∧ Aside0 (Below w.heap.size w wc))
            case first =>
              have H := HC8.out
              clear HC8
              by_cases c12 : ((rd_T31 t290 x7_1).f3) < x6_1
              · rw [if_pos c12] at H
                have c12b0 : decide (((rd_T31 t290 x7_1).f3) < x6_1) = true := decide_eq_true c12
                clear c12
                (first | rw [c12b0] | (simp only [i64_w, i32_w]; rw [c12b0]) | skip)
                have H' := Aside0.mk H
                clear H
                have hcz13_0 : w10.cell? ⟨gb299, 0, none⟩ = some (.int .i64 0) := (blk_cell BK299.out 0).trans rfl
                have hcz13_1 : w10.cell? ⟨gb299, 1, none⟩ = some (.string (⟨#[]⟩ : ByteArray)) := (blk_cell BK299.out 1).trans rfl
                have hcz13_2 : w10.cell? ⟨gb299, 2, none⟩ = some (.int .i64 0) := (blk_cell BK299.out 2).trans rfl
                have hcz13_3 : w10.cell? ⟨gb299, 3, none⟩ = some (.int .i64 0) := (blk_cell BK299.out 3).trans rfl
                have hfz13_0 := blk_frozen BK299.out 0
                have hfz13_1 := blk_frozen BK299.out 1
                have hfz13_2 := blk_frozen BK299.out 2
                have hfz13_3 := blk_frozen BK299.out 3
                go_wp2
                repeat (go_quiet (fail); try go_wp2)
                go_meet
                case rel => exact ⟨_, (true), (by first | rfl | (simp; done) | (simp [*]; done)), H', ⟨by have := HK1.out; first | omega | exact Nat.le_refl _⟩, ⟨by (with_reducible repeat (first | apply Kd.R_alloc | apply Kd.R_drewN | apply Kd.R_drew)); exact Kd.R_mono (Kd.R_far (p := ⟨gb299, 3, none⟩) (Kd.R_far (p := ⟨gb299, 2, none⟩) (Kd.R_far (p := ⟨gb299, 1, none⟩) (Kd.R_far (p := ⟨gb299, 0, none⟩) (Kd.R_mono HO_3.out (fun k_ hk => (⟨hk, hk.2⟩ : _ ∧ k_ ≠ gb299))) (fun _ hk => hk.2) (.int .i64 ((rd_T31 t290 x7_1).f0))) (fun _ hk => hk.2) (.string ((rd_T31 t290 x7_1).f1))) (fun _ hk => hk.2) (.int .i64 ((rd_T31 t290 x7_1).f2))) (fun _ hk => hk.2) (.int .i64 ((rd_T31 t290 x7_1).f3))) (fun _ hk => hk.1.2)⟩, ⟨by (with_reducible repeat (first | refine blk_drewN ?_ _ | refine blk_drew ?_ | refine blk_alloc ?_ _)); refine blk_put (cs := #[.int .i64 ((rd_T31 t290 x7_1).f0), .string ((rd_T31 t290 x7_1).f1), .int .i64 ((rd_T31 t290 x7_1).f2), .int .i64 0]) ?_ 3 _ rfl; (with_reducible repeat (first | refine blk_drewN ?_ _ | refine blk_drew ?_ | refine blk_alloc ?_ _)); refine blk_put (cs := #[.int .i64 ((rd_T31 t290 x7_1).f0), .string ((rd_T31 t290 x7_1).f1), .int .i64 0, .int .i64 0]) ?_ 2 _ rfl; (with_reducible repeat (first | refine blk_drewN ?_ _ | refine blk_drew ?_ | refine blk_alloc ?_ _)); refine blk_put (cs := #[.int .i64 ((rd_T31 t290 x7_1).f0), .string (⟨#[]⟩ : ByteArray), .int .i64 0, .int .i64 0]) ?_ 1 _ rfl; (with_reducible repeat (first | refine blk_drewN ?_ _ | refine blk_drew ?_ | refine blk_alloc ?_ _)); refine blk_put (cs := #[.int .i64 0, .string (⟨#[]⟩ : ByteArray), .int .i64 0, .int .i64 0]) ?_ 0 _ rfl; (with_reducible repeat (first | refine blk_drewN ?_ _ | refine blk_drew ?_ | refine blk_alloc ?_ _)); exact BK299.out⟩, ⟨by repeat (first | (with_reducible first | exact HB.out | apply below_alloc | apply pw_below_drewN | apply below_drew1 | refine below_set ?_ GE299.out) | exact HB.out)⟩⟩
              · rw [if_neg c12] at H
                have c12b0 : decide (((rd_T31 t290 x7_1).f3) < x6_1) = false := decide_eq_false c12
                clear c12
                (first | rw [c12b0] | (simp only [i64_w, i32_w]; rw [c12b0]) | skip)
                by_cases c14 : ((rd_T31 t290 x7_1).f3) > (a0.size : Int)
                · rw [if_pos c14] at H
                  have c14b0 : decide ((a0.size : Int) < ((rd_T31 t290 x7_1).f3)) = true := decide_eq_true c14
                  clear c14
                  have H' := Aside0.mk H
                  clear H
                  have hcz15_0 : w10.cell? ⟨gb299, 0, none⟩ = some (.int .i64 0) := (blk_cell BK299.out 0).trans rfl
                  have hcz15_1 : w10.cell? ⟨gb299, 1, none⟩ = some (.string (⟨#[]⟩ : ByteArray)) := (blk_cell BK299.out 1).trans rfl
                  have hcz15_2 : w10.cell? ⟨gb299, 2, none⟩ = some (.int .i64 0) := (blk_cell BK299.out 2).trans rfl
                  have hcz15_3 : w10.cell? ⟨gb299, 3, none⟩ = some (.int .i64 0) := (blk_cell BK299.out 3).trans rfl
                  have hfz15_0 := blk_frozen BK299.out 0
                  have hfz15_1 := blk_frozen BK299.out 1
                  have hfz15_2 := blk_frozen BK299.out 2
                  have hfz15_3 := blk_frozen BK299.out 3
                  go_wp2
                  repeat (go_quiet (fail); try go_wp2)
                  go_meet
                  case rel => exact ⟨_, (true), (by first | rfl | (simp; done) | (simp [*]; done)), H', ⟨by have := HK1.out; first | omega | exact Nat.le_refl _⟩, ⟨by (with_reducible repeat (first | apply Kd.R_alloc | apply Kd.R_drewN | apply Kd.R_drew)); exact Kd.R_mono (Kd.R_far (p := ⟨gb299, 3, none⟩) (Kd.R_far (p := ⟨gb299, 2, none⟩) (Kd.R_far (p := ⟨gb299, 1, none⟩) (Kd.R_far (p := ⟨gb299, 0, none⟩) (Kd.R_mono HO_3.out (fun k_ hk => (⟨hk, hk.2⟩ : _ ∧ k_ ≠ gb299))) (fun _ hk => hk.2) (.int .i64 ((rd_T31 t290 x7_1).f0))) (fun _ hk => hk.2) (.string ((rd_T31 t290 x7_1).f1))) (fun _ hk => hk.2) (.int .i64 ((rd_T31 t290 x7_1).f2))) (fun _ hk => hk.2) (.int .i64 ((rd_T31 t290 x7_1).f3))) (fun _ hk => hk.1.2)⟩, ⟨by (with_reducible repeat (first | refine blk_drewN ?_ _ | refine blk_drew ?_ | refine blk_alloc ?_ _)); refine blk_put (cs := #[.int .i64 ((rd_T31 t290 x7_1).f0), .string ((rd_T31 t290 x7_1).f1), .int .i64 ((rd_T31 t290 x7_1).f2), .int .i64 0]) ?_ 3 _ rfl; (with_reducible repeat (first | refine blk_drewN ?_ _ | refine blk_drew ?_ | refine blk_alloc ?_ _)); refine blk_put (cs := #[.int .i64 ((rd_T31 t290 x7_1).f0), .string ((rd_T31 t290 x7_1).f1), .int .i64 0, .int .i64 0]) ?_ 2 _ rfl; (with_reducible repeat (first | refine blk_drewN ?_ _ | refine blk_drew ?_ | refine blk_alloc ?_ _)); refine blk_put (cs := #[.int .i64 ((rd_T31 t290 x7_1).f0), .string (⟨#[]⟩ : ByteArray), .int .i64 0, .int .i64 0]) ?_ 1 _ rfl; (with_reducible repeat (first | refine blk_drewN ?_ _ | refine blk_drew ?_ | refine blk_alloc ?_ _)); refine blk_put (cs := #[.int .i64 0, .string (⟨#[]⟩ : ByteArray), .int .i64 0, .int .i64 0]) ?_ 0 _ rfl; (with_reducible repeat (first | refine blk_drewN ?_ _ | refine blk_drew ?_ | refine blk_alloc ?_ _)); exact BK299.out⟩, ⟨by repeat (first | (with_reducible first | exact HB.out | apply below_alloc | apply pw_below_drewN | apply below_drew1 | refine below_set ?_ GE299.out) | exact HB.out)⟩⟩
                · rw [if_neg c14] at H
                  have c14b0 : decide ((a0.size : Int) < ((rd_T31 t290 x7_1).f3)) = false := decide_eq_false c14
                  clear c14
                  by_cases c16 : ((((rd_T31 t290 x7_1).f0) == 0) != (x7_1 == (wrap64 ((t290.length : Int) - 1)))) = true
                  · rw [if_pos c16] at H
                    have c16b0 : ((((rd_T31 t290 x7_1).f0) == 0) != (x7_1 == (wrap64 ((t290.length : Int) - 1)))) = true := c16
                    (try (have c16b1 : decide ((((rd_T31 t290 x7_1).f0) == 0) = (x7_1 == (wrap64 ((t290.length : Int) - 1)))) = false := by simpa using c16))
                    (try (have c16b2 : ((((rd_T31 t290 x7_1).f0) == 0) == (x7_1 == (wrap64 ((t290.length : Int) - 1)))) = false := by simpa using c16))
                    (try (have c16b3 : ¬ ((((rd_T31 t290 x7_1).f0) == 0) = (x7_1 == (wrap64 ((t290.length : Int) - 1)))) := by simpa using c16))
                    clear c16
                    have H' := Aside0.mk H
                    clear H
                    have hcz17_0 : w10.cell? ⟨gb299, 0, none⟩ = some (.int .i64 0) := (blk_cell BK299.out 0).trans rfl
                    have hcz17_1 : w10.cell? ⟨gb299, 1, none⟩ = some (.string (⟨#[]⟩ : ByteArray)) := (blk_cell BK299.out 1).trans rfl
                    have hcz17_2 : w10.cell? ⟨gb299, 2, none⟩ = some (.int .i64 0) := (blk_cell BK299.out 2).trans rfl
                    have hcz17_3 : w10.cell? ⟨gb299, 3, none⟩ = some (.int .i64 0) := (blk_cell BK299.out 3).trans rfl
                    have hfz17_0 := blk_frozen BK299.out 0
                    have hfz17_1 := blk_frozen BK299.out 1
                    have hfz17_2 := blk_frozen BK299.out 2
                    have hfz17_3 := blk_frozen BK299.out 3
                    go_wp2
                    repeat (go_quiet (fail); try go_wp2)
                    go_meet
                    case rel => exact ⟨_, (true), (by first | rfl | (simp; done) | (simp [*]; done)), H', ⟨by have := HK1.out; first | omega | exact Nat.le_refl _⟩, ⟨by (with_reducible repeat (first | apply Kd.R_alloc | apply Kd.R_drewN | apply Kd.R_drew)); exact Kd.R_mono (Kd.R_far (p := ⟨gb299, 3, none⟩) (Kd.R_far (p := ⟨gb299, 2, none⟩) (Kd.R_far (p := ⟨gb299, 1, none⟩) (Kd.R_far (p := ⟨gb299, 0, none⟩) (Kd.R_mono HO_3.out (fun k_ hk => (⟨hk, hk.2⟩ : _ ∧ k_ ≠ gb299))) (fun _ hk => hk.2) (.int .i64 ((rd_T31 t290 x7_1).f0))) (fun _ hk => hk.2) (.string ((rd_T31 t290 x7_1).f1))) (fun _ hk => hk.2) (.int .i64 ((rd_T31 t290 x7_1).f2))) (fun _ hk => hk.2) (.int .i64 ((rd_T31 t290 x7_1).f3))) (fun _ hk => hk.1.2)⟩, ⟨by (with_reducible repeat (first | refine blk_drewN ?_ _ | refine blk_drew ?_ | refine blk_alloc ?_ _)); refine blk_put (cs := #[.int .i64 ((rd_T31 t290 x7_1).f0), .string ((rd_T31 t290 x7_1).f1), .int .i64 ((rd_T31 t290 x7_1).f2), .int .i64 0]) ?_ 3 _ rfl; (with_reducible repeat (first | refine blk_drewN ?_ _ | refine blk_drew ?_ | refine blk_alloc ?_ _)); refine blk_put (cs := #[.int .i64 ((rd_T31 t290 x7_1).f0), .string ((rd_T31 t290 x7_1).f1), .int .i64 0, .int .i64 0]) ?_ 2 _ rfl; (with_reducible repeat (first | refine blk_drewN ?_ _ | refine blk_drew ?_ | refine blk_alloc ?_ _)); refine blk_put (cs := #[.int .i64 ((rd_T31 t290 x7_1).f0), .string (⟨#[]⟩ : ByteArray), .int .i64 0, .int .i64 0]) ?_ 1 _ rfl; (with_reducible repeat (first | refine blk_drewN ?_ _ | refine blk_drew ?_ | refine blk_alloc ?_ _)); refine blk_put (cs := #[.int .i64 0, .string (⟨#[]⟩ : ByteArray), .int .i64 0, .int .i64 0]) ?_ 0 _ rfl; (with_reducible repeat (first | refine blk_drewN ?_ _ | refine blk_drew ?_ | refine blk_alloc ?_ _)); exact BK299.out⟩, ⟨by repeat (first | (with_reducible first | exact HB.out | apply below_alloc | apply pw_below_drewN | apply below_drew1 | refine below_set ?_ GE299.out) | exact HB.out)⟩⟩
                  · rw [if_neg c16] at H
                    have c16b0 : ((((rd_T31 t290 x7_1).f0) == 0) != (x7_1 == (wrap64 ((t290.length : Int) - 1)))) = false := by simpa using c16
                    (try (have c16b1 : decide ((((rd_T31 t290 x7_1).f0) == 0) = (x7_1 == (wrap64 ((t290.length : Int) - 1)))) = true := by simpa using c16))
                    (try (have c16b2 : ((((rd_T31 t290 x7_1).f0) == 0) == (x7_1 == (wrap64 ((t290.length : Int) - 1)))) = true := by simpa using c16))
                    clear c16
                    by_cases c18 : 0 ≤ x6_1
                    · rw [if_pos c18] at H
                      have c18b0 := eq_true c18
                      have c18b1 : decide (0 ≤ x6_1) = true := decide_eq_true c18
                      clear c18
                      by_cases c19 : x6_1 ≤ ((rd_T31 t290 x7_1).f3)
                      · rw [if_pos c19] at H
                        have c19b0 := eq_true c19
                        have c19b1 : decide (x6_1 ≤ ((rd_T31 t290 x7_1).f3)) = true := decide_eq_true c19
                        clear c19
                        by_cases c20 : ((rd_T31 t290 x7_1).f3) ≤ (a0.size : Int)
                        · rw [if_pos c20] at H
                          have c20b0 := eq_true c20
                          have c20b1 : decide (((rd_T31 t290 x7_1).f3) ≤ (a0.size : Int)) = true := decide_eq_true c20
                          clear c20
                          replace H := Option.bind_eq_some_iff.mp H
                          obtain ⟨t300, A210, H⟩ := H
                          replace H : (mortiselaw4_LexCovers.j1 k1 a0 t290 x7_1 (!t300) ((rd_T31 t290 x7_1).f0) ((rd_T31 t290 x7_1).f1) ((rd_T31 t290 x7_1).f2) ((rd_T31 t290 x7_1).f3)) = some r := H
                          have A21 := Aside0.mk A210
                          clear A210
                          have H' := Aside0.mk H
                          clear H
                          have hcz22_0 : w10.cell? ⟨gb299, 0, none⟩ = some (.int .i64 0) := (blk_cell BK299.out 0).trans rfl
                          have hcz22_1 : w10.cell? ⟨gb299, 1, none⟩ = some (.string (⟨#[]⟩ : ByteArray)) := (blk_cell BK299.out 1).trans rfl
                          have hcz22_2 : w10.cell? ⟨gb299, 2, none⟩ = some (.int .i64 0) := (blk_cell BK299.out 2).trans rfl
                          have hcz22_3 : w10.cell? ⟨gb299, 3, none⟩ = some (.int .i64 0) := (blk_cell BK299.out 3).trans rfl
                          have hfz22_0 := blk_frozen BK299.out 0
                          have hfz22_1 := blk_frozen BK299.out 1
                          have hfz22_2 := blk_frozen BK299.out 2
                          have hfz22_3 := blk_frozen BK299.out 3
                          go_wp2_with (first | (go_at_call 14; (with_reducible refine (mortiselaw4_between.calls k1 (a0.extract (x6_1 : Int).toNat (((rd_T31 t290 x7_1).f3) : Int).toNat) t300 _ A21.out).mono ?_); rintro e w' ⟨rfl, ⟨nd, rfl⟩⟩; (try first | exact ⟨rfl, _, World.drewN_drewN _ _ _⟩ | exact ⟨rfl, _, Eq.trans (World.drewN_drewN _ _ _) (congrArg (World.drewN _) (Nat.add_assoc _ _ _))⟩)))
                          repeat (go_quiet (first | (go_at_call 14; (with_reducible refine (mortiselaw4_between.calls k1 (a0.extract (x6_1 : Int).toNat (((rd_T31 t290 x7_1).f3) : Int).toNat) t300 _ A21.out).mono ?_); rintro e w' ⟨rfl, ⟨nd, rfl⟩⟩; (try first | exact ⟨rfl, _, World.drewN_drewN _ _ _⟩ | exact ⟨rfl, _, Eq.trans (World.drewN_drewN _ _ _) (congrArg (World.drewN _) (Nat.add_assoc _ _ _))⟩))); try go_wp2_with (first | (go_at_call 14; (with_reducible refine (mortiselaw4_between.calls k1 (a0.extract (x6_1 : Int).toNat (((rd_T31 t290 x7_1).f3) : Int).toNat) t300 _ A21.out).mono ?_); rintro e w' ⟨rfl, ⟨nd, rfl⟩⟩; (try first | exact ⟨rfl, _, World.drewN_drewN _ _ _⟩ | exact ⟨rfl, _, Eq.trans (World.drewN_drewN _ _ _) (congrArg (World.drewN _) (Nat.add_assoc _ _ _))⟩))))
                          go_meet
                          case rel => exact ⟨_, (!t300), (by first | rfl | (simp; done) | (simp [*]; done)), H', ⟨by have := HK1.out; first | omega | exact Nat.le_refl _⟩, ⟨by (with_reducible repeat (first | apply Kd.R_alloc | apply Kd.R_drewN | apply Kd.R_drew)); exact Kd.R_mono (Kd.R_far (p := ⟨gb299, 3, none⟩) (Kd.R_far (p := ⟨gb299, 2, none⟩) (Kd.R_far (p := ⟨gb299, 1, none⟩) (Kd.R_far (p := ⟨gb299, 0, none⟩) (Kd.R_mono HO_3.out (fun k_ hk => (⟨hk, hk.2⟩ : _ ∧ k_ ≠ gb299))) (fun _ hk => hk.2) (.int .i64 ((rd_T31 t290 x7_1).f0))) (fun _ hk => hk.2) (.string ((rd_T31 t290 x7_1).f1))) (fun _ hk => hk.2) (.int .i64 ((rd_T31 t290 x7_1).f2))) (fun _ hk => hk.2) (.int .i64 ((rd_T31 t290 x7_1).f3))) (fun _ hk => hk.1.2)⟩, ⟨by (with_reducible repeat (first | refine blk_drewN ?_ _ | refine blk_drew ?_ | refine blk_alloc ?_ _)); refine blk_put (cs := #[.int .i64 ((rd_T31 t290 x7_1).f0), .string ((rd_T31 t290 x7_1).f1), .int .i64 ((rd_T31 t290 x7_1).f2), .int .i64 0]) ?_ 3 _ rfl; (with_reducible repeat (first | refine blk_drewN ?_ _ | refine blk_drew ?_ | refine blk_alloc ?_ _)); refine blk_put (cs := #[.int .i64 ((rd_T31 t290 x7_1).f0), .string ((rd_T31 t290 x7_1).f1), .int .i64 0, .int .i64 0]) ?_ 2 _ rfl; (with_reducible repeat (first | refine blk_drewN ?_ _ | refine blk_drew ?_ | refine blk_alloc ?_ _)); refine blk_put (cs := #[.int .i64 ((rd_T31 t290 x7_1).f0), .string (⟨#[]⟩ : ByteArray), .int .i64 0, .int .i64 0]) ?_ 1 _ rfl; (with_reducible repeat (first | refine blk_drewN ?_ _ | refine blk_drew ?_ | refine blk_alloc ?_ _)); refine blk_put (cs := #[.int .i64 0, .string (⟨#[]⟩ : ByteArray), .int .i64 0, .int .i64 0]) ?_ 0 _ rfl; (with_reducible repeat (first | refine blk_drewN ?_ _ | refine blk_drew ?_ | refine blk_alloc ?_ _)); exact BK299.out⟩, ⟨by repeat (first | (with_reducible first | exact HB.out | apply below_alloc | apply pw_below_drewN | apply below_drew1 | refine below_set ?_ GE299.out) | exact HB.out)⟩⟩
                        · rw [if_neg c20] at H
                          exact absurd H (by simp)
                      · rw [if_neg c19] at H
                        exact absurd H (by simp)
                    · rw [if_neg c18] at H
                      exact absurd H (by simp)
            case rest =>
              clear HC8
              try clear c1
              try clear c2
              try clear p2
              try clear q2
              try clear hx2
              try clear c4
              try clear c4b0
              try clear c4b1
              try clear c6
              try clear c6b0
              try clear p6
              try clear c7
              try clear c7b0
              try clear c12
              try clear c12b0
              try clear c14
              try clear c14b0
              try clear c16
              try clear c16b0
              try clear c16b1
              try clear c16b2
              try clear c18
              try clear c18b0
              try clear c18b1
              try clear c19
              try clear c19b0
              try clear c19b1
              try clear c20
              try clear c20b0
              try clear c20b1
              try clear hcz11_0
              try clear hcz11_1
              try clear hcz11_2
              try clear hcz11_3
              try clear hcz13_0
              try clear hcz13_1
              try clear hcz13_2
              try clear hcz13_3
              try clear hcz15_0
              try clear hcz15_1
              try clear hcz15_2
              try clear hcz15_3
              try clear hcz17_0
              try clear hcz17_1
              try clear hcz17_2
              try clear hcz17_3
              try clear hcz22_0
              try clear hcz22_1
              try clear hcz22_2
              try clear hcz22_3
              try clear hfz11_0
              try clear hfz11_1
              try clear hfz11_2
              try clear hfz11_3
              try clear hfz13_0
              try clear hfz13_1
              try clear hfz13_2
              try clear hfz13_3
              try clear hfz15_0
              try clear hfz15_1
              try clear hfz15_2
              try clear hfz15_3
              try clear hfz17_0
              try clear hfz17_1
              try clear hfz17_2
              try clear hfz17_3
              try clear hfz22_0
              try clear hfz22_1
              try clear hfz22_2
              try clear hfz22_3
              try clear hx298_0
              try clear hx298_1
              try clear hx298_2
              try clear hx298_3
              try clear p2
              try clear p298
              try clear q298
              obtain ⟨kq, x74_7, rfl, HA, HJ7, HO_3, BK299, HB⟩ := hcut
              cases kq with
              | zero => exact absurd HA.out (by simp [mortiselaw4_LexCovers.j1])
              | succ kj7 =>
                have H := HA.out
                clear HA
                simp only [mortiselaw4_LexCovers.j1] at H
                by_cases c23 : x74_7 = true
                · subst c23
                  have H1 : (some false) = some r := by rw [if_pos rfl] at H; exact H
                  clear H
                  have H := H1
                  clear H1
                  obtain rfl := Option.some.inj H
                  go_wp2
                  repeat (go_quiet (fail); try go_wp2)
                  go_ret
                  exact ⟨by first | rfl | (simp [errW_none, errW_some] <;> rfl) | (simp [*, errW_none, errW_some] <;> rfl), by repeat (first | (with_reducible first | exact HB.out | apply below_alloc | apply pw_below_drewN | apply below_drew1 | refine below_set ?_ GE299.out) | exact HB.out)⟩
                · replace c23 := Bool.eq_false_iff.mpr c23
                  subst c23
                  have H1 : (if ((rd_T31 t290 x7_1).f0) = 4 then (mortiselaw4_LexCovers.l1 kj7 a0 t290 (wrap64 (((rd_T31 t290 x7_1).f3) + 1)) x7_1) else (if ((rd_T31 t290 x7_1).f0) = 0 then (mortiselaw4_LexCovers.l0 kj7 a0 t290 (wrap64 (((rd_T31 t290 x7_1).f3) + (((rd_T31 t290 x7_1).f1).size : Int))) (wrap64 (x7_1 + 1))) else (if (((rd_T31 t290 x7_1).f1).size : Int) > (wrap64 ((a0.size : Int) - ((rd_T31 t290 x7_1).f3))) then (some false) else (if 0 ≤ ((rd_T31 t290 x7_1).f3) then (if ((rd_T31 t290 x7_1).f3) ≤ (wrap64 (((rd_T31 t290 x7_1).f3) + (((rd_T31 t290 x7_1).f1).size : Int))) then (if (wrap64 (((rd_T31 t290 x7_1).f3) + (((rd_T31 t290 x7_1).f1).size : Int))) ≤ (a0.size : Int) then (if (a0.extract (((rd_T31 t290 x7_1).f3) : Int).toNat ((wrap64 (((rd_T31 t290 x7_1).f3) + (((rd_T31 t290 x7_1).f1).size : Int))) : Int).toNat).toList = ((rd_T31 t290 x7_1).f1).toList then (mortiselaw4_LexCovers.l0 kj7 a0 t290 (wrap64 (((rd_T31 t290 x7_1).f3) + (((rd_T31 t290 x7_1).f1).size : Int))) (wrap64 (x7_1 + 1))) else (some false)) else (none)) else (none)) else (none))))) = some r := by rw [if_neg (show ¬ (false = true) by decide)] at H; exact H
                  clear H
                  have H := H1
                  clear H1
                  by_cases c24 : ((rd_T31 t290 x7_1).f0) = 4
                  · rw [if_pos c24] at H
                    have c24b0 : (((rd_T31 t290 x7_1).f0) == 4) = true := beq_iff_eq.mpr c24
                    have c24b1 : (((rd_T31 t290 x7_1).f0) != 4) = false := bne_eq_false_iff_eq.mpr c24
                    clear c24
                    have H' := Aside0.mk H
                    clear H
                    have hcz25_0 : wc.cell? ⟨gb299, 0, none⟩ = some (.int .i64 ((rd_T31 t290 x7_1).f0)) := (blk_cell BK299.out 0).trans rfl
                    have hcz25_1 : wc.cell? ⟨gb299, 1, none⟩ = some (.string ((rd_T31 t290 x7_1).f1)) := (blk_cell BK299.out 1).trans rfl
                    have hcz25_2 : wc.cell? ⟨gb299, 2, none⟩ = some (.int .i64 ((rd_T31 t290 x7_1).f2)) := (blk_cell BK299.out 2).trans rfl
                    have hcz25_3 : wc.cell? ⟨gb299, 3, none⟩ = some (.int .i64 ((rd_T31 t290 x7_1).f3)) := (blk_cell BK299.out 3).trans rfl
                    have hfz25_0 := blk_frozen BK299.out 0
                    have hfz25_1 := blk_frozen BK299.out 1
                    have hfz25_2 := blk_frozen BK299.out 2
                    have hfz25_3 := blk_frozen BK299.out 3
                    go_wp2
                    repeat (go_quiet (fail); try go_wp2)
                    go_loopg [6] kj7 (fun kq v6 w' => ∃ (x6_3 : Int), v6 = .int .i64 x6_3 ∧ Aside0 (mortiselaw4_LexCovers.l1 kq a0 t290 x6_3 x7_1 = some r) ∧ Aside0 (kq ≤ kj7) ∧ Aside0 (Kd.R k31 31 w' w.heap.size (fun k_ => k_ ≠ gb299) (.slice (some ad298) t290.length co9) t290) ∧ Aside0 (w'.heap[gb299]? = some (.cells #[.int .i64 ((rd_T31 t290 x7_1).f0), .string ((rd_T31 t290 x7_1).f1), .int .i64 ((rd_T31 t290 x7_1).f2), .int .i64 ((rd_T31 t290 x7_1).f3)] 31 (0, 0))) ∧ Aside0 (Below w.heap.size w w'))
                    case atStart => exact ⟨(wrap64 (((rd_T31 t290 x7_1).f3) + 1)), (by first | rfl | (simp; done) | (simp [*]; done)), H', ⟨Nat.le_refl _⟩, ⟨by (with_reducible repeat (first | apply Kd.R_alloc | apply Kd.R_drewN | apply Kd.R_drew)); exact HO_3.out⟩, ⟨by (with_reducible repeat (first | refine blk_drewN ?_ _ | refine blk_drew ?_ | refine blk_alloc ?_ _)); exact BK299.out⟩, ⟨by repeat (first | (with_reducible first | exact HB.out | apply below_alloc | apply pw_below_drewN | apply below_drew1 | refine below_set ?_ GE299.out) | exact HB.out)⟩⟩
                    case round =>
                      clear H'
                      try clear c1
                      try clear c2
                      try clear p2
                      try clear q2
                      try clear hx2
                      try clear c4
                      try clear c4b0
                      try clear c4b1
                      try clear c6
                      try clear c6b0
                      try clear p6
                      try clear c7
                      try clear c7b0
                      try clear c12
                      try clear c12b0
                      try clear c14
                      try clear c14b0
                      try clear c16
                      try clear c16b0
                      try clear c16b1
                      try clear c16b2
                      try clear c18
                      try clear c18b0
                      try clear c18b1
                      try clear c19
                      try clear c19b0
                      try clear c19b1
                      try clear c20
                      try clear c20b0
                      try clear c20b1
                      try clear c23
                      try clear c24
                      try clear c24b0
                      try clear c24b1
                      try clear hcz11_0
                      try clear hcz11_1
                      try clear hcz11_2
                      try clear hcz11_3
                      try clear hcz13_0
                      try clear hcz13_1
                      try clear hcz13_2
                      try clear hcz13_3
                      try clear hcz15_0
                      try clear hcz15_1
                      try clear hcz15_2
                      try clear hcz15_3
                      try clear hcz17_0
                      try clear hcz17_1
                      try clear hcz17_2
                      try clear hcz17_3
                      try clear hcz22_0
                      try clear hcz22_1
                      try clear hcz22_2
                      try clear hcz22_3
                      try clear hcz25_0
                      try clear hcz25_1
                      try clear hcz25_2
                      try clear hcz25_3
                      try clear hfz11_0
                      try clear hfz11_1
                      try clear hfz11_2
                      try clear hfz11_3
                      try clear hfz13_0
                      try clear hfz13_1
                      try clear hfz13_2
                      try clear hfz13_3
                      try clear hfz15_0
                      try clear hfz15_1
                      try clear hfz15_2
                      try clear hfz15_3
                      try clear hfz17_0
                      try clear hfz17_1
                      try clear hfz17_2
                      try clear hfz17_3
                      try clear hfz22_0
                      try clear hfz22_1
                      try clear hfz22_2
                      try clear hfz22_3
                      try clear hfz25_0
                      try clear hfz25_1
                      try clear hfz25_2
                      try clear hfz25_3
                      try clear hx298_0
                      try clear hx298_1
                      try clear hx298_2
                      try clear hx298_3
                      try clear p2
                      try clear p298
                      try clear p6
                      try clear q2
                      try clear q298
                      obtain ⟨x6_3, rfl, HA, HK3, HO_3, BK299, HB⟩ := hrel
                      cases gk with
                      | zero => exact absurd HA.out (by simp [mortiselaw4_LexCovers.l1])
                      | succ k3 =>
                        have H := HA.out
                        clear HA
                        simp only [mortiselaw4_LexCovers.l1] at H
                        have HC26 := Aside0.mk H
                        clear H
                        go_upto_region 14 with (fail)
                        repeat (go_quiet (fail); go_upto_region 14 with (fail))
                        go_cut [96] (fun v96 wc => ∃ (kq : Nat) (x96_25 : Bool), v96 = .bool x96_25 ∧ Aside0 (mortiselaw4_LexCovers.j3 kq a0 t290 x6_3 x7_1 x96_25 = some r) ∧ Aside0 (kq ≤ k3) ∧ Aside0 (Kd.R k31 31 wc w.heap.size (fun k_ => k_ ≠ gb299) (.slice (some ad298) t290.length co9) t290) ∧ Aside0 (wc.heap[gb299]? = some (.cells #[.int .i64 ((rd_T31 t290 x7_1).f0), .string ((rd_T31 t290 x7_1).f1), .int .i64 ((rd_T31 t290 x7_1).f2), .int .i64 ((rd_T31 t290 x7_1).f3)] 31 (0, 0))) ∧ Aside0 (Below w.heap.size w wc))
                        case first =>
                          have H := HC26.out
                          clear HC26
                          by_cases c27 : x6_3 < (a0.size : Int)
                          · rw [if_pos c27] at H
                            have c27b0 : decide (x6_3 < (a0.size : Int)) = true := decide_eq_true c27
                            clear c27
                            (first | rw [c27b0] | (simp only [i64_w, i32_w]; rw [c27b0]) | skip)
                            by_cases c28 : 0 ≤ x6_3
                            · rw [if_pos c28] at H
                              have c28b0 : decide (0 ≤ x6_3) = true := decide_eq_true c28
                              clear c28
                              have H' := Aside0.mk H
                              clear H
                              have p29 : 0 ≤ (x6_3 : Int) := of_decide_eq_true (by first | (with_reducible assumption) | assumption)
                              have q29 : x6_3 < (a0.size : Int) := of_decide_eq_true (by first | (with_reducible assumption) | assumption)
                              have hx29 := bt_at a0 x6_3
                              replace p29 := eq_true p29
                              replace q29 := eq_true q29
                              go_wp2
                              repeat (go_quiet (fail); try go_wp2)
                              go_meet
                              case rel => exact ⟨_, (((bt a0 x6_3) != 34)), (by first | rfl | (simp; done) | (simp [*]; done)), H', ⟨by have := HK1.out; have := HJ7.out; have := HK3.out; first | omega | exact Nat.le_refl _⟩, ⟨by (with_reducible repeat (first | apply Kd.R_alloc | apply Kd.R_drewN | apply Kd.R_drew)); exact HO_3.out⟩, ⟨by (with_reducible repeat (first | refine blk_drewN ?_ _ | refine blk_drew ?_ | refine blk_alloc ?_ _)); exact BK299.out⟩, ⟨by repeat (first | (with_reducible first | exact HB.out | apply below_alloc | apply pw_below_drewN | apply below_drew1 | refine below_set ?_ GE299.out) | exact HB.out)⟩⟩
                            · rw [if_neg c28] at H
                              exact absurd H (by simp)
                          · rw [if_neg c27] at H
                            have c27b0 : decide (x6_3 < (a0.size : Int)) = false := decide_eq_false c27
                            clear c27
                            (first | rw [c27b0] | (simp only [i64_w, i32_w]; rw [c27b0]) | skip)
                            have H' := Aside0.mk H
                            clear H
                            go_wp2
                            repeat (go_quiet (fail); try go_wp2)
                            go_meet
                            case rel => exact ⟨_, (false), (by first | rfl | (simp; done) | (simp [*]; done)), H', ⟨by have := HK1.out; have := HJ7.out; have := HK3.out; first | omega | exact Nat.le_refl _⟩, ⟨by (with_reducible repeat (first | apply Kd.R_alloc | apply Kd.R_drewN | apply Kd.R_drew)); exact HO_3.out⟩, ⟨by (with_reducible repeat (first | refine blk_drewN ?_ _ | refine blk_drew ?_ | refine blk_alloc ?_ _)); exact BK299.out⟩, ⟨by repeat (first | (with_reducible first | exact HB.out | apply below_alloc | apply pw_below_drewN | apply below_drew1 | refine below_set ?_ GE299.out) | exact HB.out)⟩⟩
                        case rest =>
                          clear HC26
                          try clear c1
                          try clear c2
                          try clear p2
                          try clear q2
                          try clear hx2
                          try clear c4
                          try clear c4b0
                          try clear c4b1
                          try clear c6
                          try clear c6b0
                          try clear p6
                          try clear c7
                          try clear c7b0
                          try clear c12
                          try clear c12b0
                          try clear c14
                          try clear c14b0
                          try clear c16
                          try clear c16b0
                          try clear c16b1
                          try clear c16b2
                          try clear c18
                          try clear c18b0
                          try clear c18b1
                          try clear c19
                          try clear c19b0
                          try clear c19b1
                          try clear c20
                          try clear c20b0
                          try clear c20b1
                          try clear c23
                          try clear c24
                          try clear c24b0
                          try clear c24b1
                          try clear c27
                          try clear c27b0
                          try clear c28
                          try clear c28b0
                          try clear p29
                          try clear q29
                          try clear hx29
                          try clear hcz11_0
                          try clear hcz11_1
                          try clear hcz11_2
                          try clear hcz11_3
                          try clear hcz13_0
                          try clear hcz13_1
                          try clear hcz13_2
                          try clear hcz13_3
                          try clear hcz15_0
                          try clear hcz15_1
                          try clear hcz15_2
                          try clear hcz15_3
                          try clear hcz17_0
                          try clear hcz17_1
                          try clear hcz17_2
                          try clear hcz17_3
                          try clear hcz22_0
                          try clear hcz22_1
                          try clear hcz22_2
                          try clear hcz22_3
                          try clear hcz25_0
                          try clear hcz25_1
                          try clear hcz25_2
                          try clear hcz25_3
                          try clear hfz11_0
                          try clear hfz11_1
                          try clear hfz11_2
                          try clear hfz11_3
                          try clear hfz13_0
                          try clear hfz13_1
                          try clear hfz13_2
                          try clear hfz13_3
                          try clear hfz15_0
                          try clear hfz15_1
                          try clear hfz15_2
                          try clear hfz15_3
                          try clear hfz17_0
                          try clear hfz17_1
                          try clear hfz17_2
                          try clear hfz17_3
                          try clear hfz22_0
                          try clear hfz22_1
                          try clear hfz22_2
                          try clear hfz22_3
                          try clear hfz25_0
                          try clear hfz25_1
                          try clear hfz25_2
                          try clear hfz25_3
                          try clear hx298_0
                          try clear hx298_1
                          try clear hx298_2
                          try clear hx298_3
                          try clear p2
                          try clear p29
                          try clear p298
                          try clear p6
                          try clear q2
                          try clear q29
                          try clear q298
                          obtain ⟨kq, x96_25, rfl, HA, HJ25, HO_3, BK299, HB⟩ := hcut
                          cases kq with
                          | zero => exact absurd HA.out (by simp [mortiselaw4_LexCovers.j3])
                          | succ kj25 =>
                            have H := HA.out
                            clear HA
                            simp only [mortiselaw4_LexCovers.j3] at H
                            by_cases c30 : x96_25 = true
                            · subst c30
                              have H1 : (if 0 ≤ x6_3 then (if x6_3 < (a0.size : Int) then (if (bt a0 x6_3) = 92 then (mortiselaw4_LexCovers.l1 kj25 a0 t290 (wrap64 ((wrap64 (x6_3 + 1)) + 1)) x7_1) else (mortiselaw4_LexCovers.l1 kj25 a0 t290 (wrap64 (x6_3 + 1)) x7_1)) else (none)) else (none)) = some r := by rw [if_pos rfl] at H; exact H
                              clear H
                              have H := H1
                              clear H1
                              by_cases c31 : 0 ≤ x6_3
                              · rw [if_pos c31] at H
                                have c31b0 : decide (0 ≤ x6_3) = true := decide_eq_true c31
                                clear c31
                                by_cases c32 : x6_3 < (a0.size : Int)
                                · rw [if_pos c32] at H
                                  have c32b0 : decide (x6_3 < (a0.size : Int)) = true := decide_eq_true c32
                                  clear c32
                                  by_cases c34 : (bt a0 x6_3) = 92
                                  · rw [if_pos c34] at H
                                    have c34b0 : ((bt a0 x6_3) == 92) = true := beq_iff_eq.mpr c34
                                    have c34b1 : ((bt a0 x6_3) != 92) = false := bne_eq_false_iff_eq.mpr c34
                                    clear c34
                                    have H' := Aside0.mk H
                                    clear H
                                    have p33 : 0 ≤ (x6_3 : Int) := of_decide_eq_true (by first | (with_reducible assumption) | assumption)
                                    have q33 : x6_3 < (a0.size : Int) := of_decide_eq_true (by first | (with_reducible assumption) | assumption)
                                    have hx33 := bt_at a0 x6_3
                                    replace p33 := eq_true p33
                                    replace q33 := eq_true q33
                                    go_wp2
                                    repeat (go_quiet (fail); try go_wp2)
                                    go_roundg kj25
                                    case measure => have := HK1.out; have := HJ7.out; have := HK3.out; have := HJ25.out; omega
                                    case rel => exact ⟨(wrap64 ((wrap64 (x6_3 + 1)) + 1)), (by first | rfl | (simp; done) | (simp [*]; done)), H', ⟨by have := HK1.out; have := HJ7.out; have := HK3.out; have := HJ25.out; omega⟩, ⟨by (with_reducible repeat (first | apply Kd.R_alloc | apply Kd.R_drewN | apply Kd.R_drew)); exact HO_3.out⟩, ⟨by (with_reducible repeat (first | refine blk_drewN ?_ _ | refine blk_drew ?_ | refine blk_alloc ?_ _)); exact BK299.out⟩, ⟨by repeat (first | (with_reducible first | exact HB.out | apply below_alloc | apply pw_below_drewN | apply below_drew1 | refine below_set ?_ GE299.out) | exact HB.out)⟩⟩
                                  · rw [if_neg c34] at H
                                    have c34b0 : ((bt a0 x6_3) == 92) = false := beq_eq_false_iff_ne.mpr c34
                                    have c34b1 : ((bt a0 x6_3) != 92) = true := bne_iff_ne.mpr c34
                                    have H' := Aside0.mk H
                                    clear H
                                    have p33 : 0 ≤ (x6_3 : Int) := of_decide_eq_true (by first | (with_reducible assumption) | assumption)
                                    have q33 : x6_3 < (a0.size : Int) := of_decide_eq_true (by first | (with_reducible assumption) | assumption)
                                    have hx33 := bt_at a0 x6_3
                                    replace p33 := eq_true p33
                                    replace q33 := eq_true q33
                                    go_wp2
                                    repeat (go_quiet (fail); try go_wp2)
                                    go_roundg kj25
                                    case measure => have := HK1.out; have := HJ7.out; have := HK3.out; have := HJ25.out; omega
                                    case rel => exact ⟨(wrap64 (x6_3 + 1)), (by first | rfl | (simp; done) | (simp [*]; done)), H', ⟨by have := HK1.out; have := HJ7.out; have := HK3.out; have := HJ25.out; omega⟩, ⟨by (with_reducible repeat (first | apply Kd.R_alloc | apply Kd.R_drewN | apply Kd.R_drew)); exact HO_3.out⟩, ⟨by (with_reducible repeat (first | refine blk_drewN ?_ _ | refine blk_drew ?_ | refine blk_alloc ?_ _)); exact BK299.out⟩, ⟨by repeat (first | (with_reducible first | exact HB.out | apply below_alloc | apply pw_below_drewN | apply below_drew1 | refine below_set ?_ GE299.out) | exact HB.out)⟩⟩
                                · rw [if_neg c32] at H
                                  exact absurd H (by simp)
                              · rw [if_neg c31] at H
                                exact absurd H (by simp)
                            · replace c30 := Bool.eq_false_iff.mpr c30
                              subst c30
                              have H1 : (mortiselaw4_LexCovers.l0 kj25 a0 t290 (wrap64 (x6_3 + 1)) (wrap64 (x7_1 + 1))) = some r := by rw [if_neg (show ¬ (false = true) by decide)] at H; exact H
                              clear H
                              have H := H1
                              clear H1
                              have H' := Aside0.mk H
                              clear H
                              go_wp2
                              repeat (go_quiet (fail); try go_wp2)
                              go_roundg kj25
                              case measure => have := HK1.out; have := HJ7.out; have := HK3.out; have := HJ25.out; omega
                              case rel => exact ⟨(wrap64 (x6_3 + 1)), (wrap64 (x7_1 + 1)), (by first | rfl | (simp; done) | (simp [*]; done)), (by first | rfl | (simp; done) | (simp [*]; done)), H', ⟨by have := HK1.out; have := HJ7.out; have := HK3.out; have := HJ25.out; omega⟩, ⟨by (with_reducible repeat (first | apply Kd.R_alloc | apply Kd.R_drewN | apply Kd.R_drew)); exact Kd.R_mono HO_3.out (fun _ hk => trivial)⟩, ⟨by repeat (first | (with_reducible first | exact HB.out | apply below_alloc | apply pw_below_drewN | apply below_drew1 | refine below_set ?_ GE299.out) | exact HB.out)⟩⟩
                  · rw [if_neg c24] at H
                    have c24b0 : (((rd_T31 t290 x7_1).f0) == 4) = false := beq_eq_false_iff_ne.mpr c24
                    have c24b1 : (((rd_T31 t290 x7_1).f0) != 4) = true := bne_iff_ne.mpr c24
                    by_cases c35 : ((rd_T31 t290 x7_1).f0) = 0
                    · rw [if_pos c35] at H
                      have c35b0 : (((rd_T31 t290 x7_1).f0) == 0) = true := beq_iff_eq.mpr c35
                      have c35b1 : (((rd_T31 t290 x7_1).f0) != 0) = false := bne_eq_false_iff_eq.mpr c35
                      clear c35
                      have H' := Aside0.mk H
                      clear H
                      have hcz36_0 : wc.cell? ⟨gb299, 0, none⟩ = some (.int .i64 ((rd_T31 t290 x7_1).f0)) := (blk_cell BK299.out 0).trans rfl
                      have hcz36_1 : wc.cell? ⟨gb299, 1, none⟩ = some (.string ((rd_T31 t290 x7_1).f1)) := (blk_cell BK299.out 1).trans rfl
                      have hcz36_2 : wc.cell? ⟨gb299, 2, none⟩ = some (.int .i64 ((rd_T31 t290 x7_1).f2)) := (blk_cell BK299.out 2).trans rfl
                      have hcz36_3 : wc.cell? ⟨gb299, 3, none⟩ = some (.int .i64 ((rd_T31 t290 x7_1).f3)) := (blk_cell BK299.out 3).trans rfl
                      have hfz36_0 := blk_frozen BK299.out 0
                      have hfz36_1 := blk_frozen BK299.out 1
                      have hfz36_2 := blk_frozen BK299.out 2
                      have hfz36_3 := blk_frozen BK299.out 3
                      go_wp2
                      repeat (go_quiet (fail); try go_wp2)
                      go_roundg kj7
                      case measure => have := HK1.out; have := HJ7.out; omega
                      case rel => exact ⟨(wrap64 (((rd_T31 t290 x7_1).f3) + (((rd_T31 t290 x7_1).f1).size : Int))), (wrap64 (x7_1 + 1)), (by first | rfl | (simp; done) | (simp [*]; done)), (by first | rfl | (simp; done) | (simp [*]; done)), H', ⟨by have := HK1.out; have := HJ7.out; omega⟩, ⟨by (with_reducible repeat (first | apply Kd.R_alloc | apply Kd.R_drewN | apply Kd.R_drew)); exact Kd.R_mono HO_3.out (fun _ hk => trivial)⟩, ⟨by repeat (first | (with_reducible first | exact HB.out | apply below_alloc | apply pw_below_drewN | apply below_drew1 | refine below_set ?_ GE299.out) | exact HB.out)⟩⟩
                    · rw [if_neg c35] at H
                      have c35b0 : (((rd_T31 t290 x7_1).f0) == 0) = false := beq_eq_false_iff_ne.mpr c35
                      have c35b1 : (((rd_T31 t290 x7_1).f0) != 0) = true := bne_iff_ne.mpr c35
                      by_cases c37 : (((rd_T31 t290 x7_1).f1).size : Int) > (wrap64 ((a0.size : Int) - ((rd_T31 t290 x7_1).f3)))
                      · rw [if_pos c37] at H
                        have c37b0 : decide ((wrap64 ((a0.size : Int) - ((rd_T31 t290 x7_1).f3))) < (((rd_T31 t290 x7_1).f1).size : Int)) = true := decide_eq_true c37
                        clear c37
                        obtain rfl := Option.some.inj H
                        have hcz38_0 : wc.cell? ⟨gb299, 0, none⟩ = some (.int .i64 ((rd_T31 t290 x7_1).f0)) := (blk_cell BK299.out 0).trans rfl
                        have hcz38_1 : wc.cell? ⟨gb299, 1, none⟩ = some (.string ((rd_T31 t290 x7_1).f1)) := (blk_cell BK299.out 1).trans rfl
                        have hcz38_2 : wc.cell? ⟨gb299, 2, none⟩ = some (.int .i64 ((rd_T31 t290 x7_1).f2)) := (blk_cell BK299.out 2).trans rfl
                        have hcz38_3 : wc.cell? ⟨gb299, 3, none⟩ = some (.int .i64 ((rd_T31 t290 x7_1).f3)) := (blk_cell BK299.out 3).trans rfl
                        have hfz38_0 := blk_frozen BK299.out 0
                        have hfz38_1 := blk_frozen BK299.out 1
                        have hfz38_2 := blk_frozen BK299.out 2
                        have hfz38_3 := blk_frozen BK299.out 3
                        go_wp2
                        repeat (go_quiet (fail); try go_wp2)
                        go_ret
                        exact ⟨by first | rfl | (simp [errW_none, errW_some] <;> rfl) | (simp [*, errW_none, errW_some] <;> rfl), by repeat (first | (with_reducible first | exact HB.out | apply below_alloc | apply pw_below_drewN | apply below_drew1 | refine below_set ?_ GE299.out) | exact HB.out)⟩
                      · rw [if_neg c37] at H
                        have c37b0 : decide ((wrap64 ((a0.size : Int) - ((rd_T31 t290 x7_1).f3))) < (((rd_T31 t290 x7_1).f1).size : Int)) = false := decide_eq_false c37
                        clear c37
                        by_cases c39 : 0 ≤ ((rd_T31 t290 x7_1).f3)
                        · rw [if_pos c39] at H
                          have c39b0 := eq_true c39
                          have c39b1 : decide (0 ≤ ((rd_T31 t290 x7_1).f3)) = true := decide_eq_true c39
                          clear c39
                          by_cases c40 : ((rd_T31 t290 x7_1).f3) ≤ (wrap64 (((rd_T31 t290 x7_1).f3) + (((rd_T31 t290 x7_1).f1).size : Int)))
                          · rw [if_pos c40] at H
                            have c40b0 := eq_true c40
                            have c40b1 : decide (((rd_T31 t290 x7_1).f3) ≤ (wrap64 (((rd_T31 t290 x7_1).f3) + (((rd_T31 t290 x7_1).f1).size : Int)))) = true := decide_eq_true c40
                            by_cases c41 : (wrap64 (((rd_T31 t290 x7_1).f3) + (((rd_T31 t290 x7_1).f1).size : Int))) ≤ (a0.size : Int)
                            · rw [if_pos c41] at H
                              have c41b0 := eq_true c41
                              have c41b1 : decide ((wrap64 (((rd_T31 t290 x7_1).f3) + (((rd_T31 t290 x7_1).f1).size : Int))) ≤ (a0.size : Int)) = true := decide_eq_true c41
                              by_cases c42 : (a0.extract (((rd_T31 t290 x7_1).f3) : Int).toNat ((wrap64 (((rd_T31 t290 x7_1).f3) + (((rd_T31 t290 x7_1).f1).size : Int))) : Int).toNat).toList = ((rd_T31 t290 x7_1).f1).toList
                              · rw [if_pos c42] at H
                                have c42b0 : ((a0.extract (((rd_T31 t290 x7_1).f3) : Int).toNat ((wrap64 (((rd_T31 t290 x7_1).f3) + (((rd_T31 t290 x7_1).f1).size : Int))) : Int).toNat).toList == ((rd_T31 t290 x7_1).f1).toList) = true := beq_iff_eq.mpr c42
                                have c42b1 : ((a0.extract (((rd_T31 t290 x7_1).f3) : Int).toNat ((wrap64 (((rd_T31 t290 x7_1).f3) + (((rd_T31 t290 x7_1).f1).size : Int))) : Int).toNat).toList != ((rd_T31 t290 x7_1).f1).toList) = false := bne_eq_false_iff_eq.mpr c42
                                clear c42
                                have H' := Aside0.mk H
                                clear H
                                have hcz43_0 : wc.cell? ⟨gb299, 0, none⟩ = some (.int .i64 ((rd_T31 t290 x7_1).f0)) := (blk_cell BK299.out 0).trans rfl
                                have hcz43_1 : wc.cell? ⟨gb299, 1, none⟩ = some (.string ((rd_T31 t290 x7_1).f1)) := (blk_cell BK299.out 1).trans rfl
                                have hcz43_2 : wc.cell? ⟨gb299, 2, none⟩ = some (.int .i64 ((rd_T31 t290 x7_1).f2)) := (blk_cell BK299.out 2).trans rfl
                                have hcz43_3 : wc.cell? ⟨gb299, 3, none⟩ = some (.int .i64 ((rd_T31 t290 x7_1).f3)) := (blk_cell BK299.out 3).trans rfl
                                have hfz43_0 := blk_frozen BK299.out 0
                                have hfz43_1 := blk_frozen BK299.out 1
                                have hfz43_2 := blk_frozen BK299.out 2
                                have hfz43_3 := blk_frozen BK299.out 3
                                go_wp2
                                repeat (go_quiet (fail); try go_wp2)
                                go_roundg kj7
                                case measure => have := HK1.out; have := HJ7.out; omega
                                case rel => exact ⟨(wrap64 (((rd_T31 t290 x7_1).f3) + (((rd_T31 t290 x7_1).f1).size : Int))), (wrap64 (x7_1 + 1)), (by first | rfl | (simp; done) | (simp [*]; done)), (by first | rfl | (simp; done) | (simp [*]; done)), H', ⟨by have := HK1.out; have := HJ7.out; omega⟩, ⟨by (with_reducible repeat (first | apply Kd.R_alloc | apply Kd.R_drewN | apply Kd.R_drew)); exact Kd.R_mono HO_3.out (fun _ hk => trivial)⟩, ⟨by repeat (first | (with_reducible first | exact HB.out | apply below_alloc | apply pw_below_drewN | apply below_drew1 | refine below_set ?_ GE299.out) | exact HB.out)⟩⟩
                              · rw [if_neg c42] at H
                                have c42b0 : ((a0.extract (((rd_T31 t290 x7_1).f3) : Int).toNat ((wrap64 (((rd_T31 t290 x7_1).f3) + (((rd_T31 t290 x7_1).f1).size : Int))) : Int).toNat).toList == ((rd_T31 t290 x7_1).f1).toList) = false := beq_eq_false_iff_ne.mpr c42
                                have c42b1 : ((a0.extract (((rd_T31 t290 x7_1).f3) : Int).toNat ((wrap64 (((rd_T31 t290 x7_1).f3) + (((rd_T31 t290 x7_1).f1).size : Int))) : Int).toNat).toList != ((rd_T31 t290 x7_1).f1).toList) = true := bne_iff_ne.mpr c42
                                obtain rfl := Option.some.inj H
                                have hcz44_0 : wc.cell? ⟨gb299, 0, none⟩ = some (.int .i64 ((rd_T31 t290 x7_1).f0)) := (blk_cell BK299.out 0).trans rfl
                                have hcz44_1 : wc.cell? ⟨gb299, 1, none⟩ = some (.string ((rd_T31 t290 x7_1).f1)) := (blk_cell BK299.out 1).trans rfl
                                have hcz44_2 : wc.cell? ⟨gb299, 2, none⟩ = some (.int .i64 ((rd_T31 t290 x7_1).f2)) := (blk_cell BK299.out 2).trans rfl
                                have hcz44_3 : wc.cell? ⟨gb299, 3, none⟩ = some (.int .i64 ((rd_T31 t290 x7_1).f3)) := (blk_cell BK299.out 3).trans rfl
                                have hfz44_0 := blk_frozen BK299.out 0
                                have hfz44_1 := blk_frozen BK299.out 1
                                have hfz44_2 := blk_frozen BK299.out 2
                                have hfz44_3 := blk_frozen BK299.out 3
                                go_wp2
                                repeat (go_quiet (fail); try go_wp2)
                                go_ret
                                exact ⟨by first | rfl | (simp [errW_none, errW_some] <;> rfl) | (simp [*, errW_none, errW_some] <;> rfl), by repeat (first | (with_reducible first | exact HB.out | apply below_alloc | apply pw_below_drewN | apply below_drew1 | refine below_set ?_ GE299.out) | exact HB.out)⟩
                            · rw [if_neg c41] at H
                              exact absurd H (by simp)
                          · rw [if_neg c40] at H
                            exact absurd H (by simp)
                        · rw [if_neg c39] at H
                          exact absurd H (by simp)
          · rw [if_neg c7] at H
            exact absurd H (by simp)
        · rw [if_neg c6] at H
          have c6b0 : decide (x7_1 < (t290.length : Int)) = false := decide_eq_false c6
          clear c6
          by_cases c45 : x6_1 = (a0.size : Int)
          · rw [if_pos c45] at H
            have c45b0 : (x6_1 == (a0.size : Int)) = true := beq_iff_eq.mpr c45
            have c45b1 : (x6_1 != (a0.size : Int)) = false := bne_eq_false_iff_eq.mpr c45
            clear c45
            replace H := Option.bind_eq_some_iff.mp H
            obtain ⟨t297, A460, H⟩ := H
            replace H : (some t297) = some r := H
            have A46 := Aside0.mk A460
            clear A460
            obtain rfl := Option.some.inj H
            obtain ⟨Ao47, co47, eo47⟩ := Kd.R_slice HO_3.out
            subst eo47
            go_wp2_with (first | (go_at_call 13; (with_reducible refine (mortiselaw4_awake.calls k1  t297 _ A46.out).mono ?_); rintro e w48 ⟨rfl, hb⟩; have n0_ := Aside0.mk (Kd.R_below (by (with_reducible repeat (first | apply Kd.R_alloc | apply Kd.R_drewN | apply Kd.R_drew)); exact HO_3.out) hb); have n1_ := Aside0.mk (below_step (by repeat (first | (with_reducible first | exact HB.out | apply below_alloc | apply pw_below_drewN | apply below_drew1) | exact HB.out)) hb); clear HO_3; clear HB; have HO_3 := n0_; have HB := n1_; clear n0_ n1_; (try clear hb); (try clear hb2); (try clear hk); (try clear hi)))
            repeat (go_quiet (first | (go_at_call 13; (with_reducible refine (mortiselaw4_awake.calls k1  t297 _ A46.out).mono ?_); rintro e w48 ⟨rfl, hb⟩; have n0_ := Aside0.mk (Kd.R_below (by (with_reducible repeat (first | apply Kd.R_alloc | apply Kd.R_drewN | apply Kd.R_drew)); exact HO_3.out) hb); have n1_ := Aside0.mk (below_step (by repeat (first | (with_reducible first | exact HB.out | apply below_alloc | apply pw_below_drewN | apply below_drew1) | exact HB.out)) hb); clear HO_3; clear HB; have HO_3 := n0_; have HB := n1_; clear n0_ n1_; (try clear hb); (try clear hb2); (try clear hk); (try clear hi))); try go_wp2_with (first | (go_at_call 13; (with_reducible refine (mortiselaw4_awake.calls k1  t297 _ A46.out).mono ?_); rintro e w48 ⟨rfl, hb⟩; have n0_ := Aside0.mk (Kd.R_below (by (with_reducible repeat (first | apply Kd.R_alloc | apply Kd.R_drewN | apply Kd.R_drew)); exact HO_3.out) hb); have n1_ := Aside0.mk (below_step (by repeat (first | (with_reducible first | exact HB.out | apply below_alloc | apply pw_below_drewN | apply below_drew1) | exact HB.out)) hb); clear HO_3; clear HB; have HO_3 := n0_; have HB := n1_; clear n0_ n1_; (try clear hb); (try clear hb2); (try clear hk); (try clear hi))))
            go_ret
            exact ⟨by first | rfl | (simp [errW_none, errW_some] <;> rfl) | (simp [*, errW_none, errW_some] <;> rfl), by repeat (first | (with_reducible first | exact HB.out | apply below_alloc | apply pw_below_drewN | apply below_drew1) | exact HB.out)⟩
          · rw [if_neg c45] at H
            have c45b0 : (x6_1 == (a0.size : Int)) = false := beq_eq_false_iff_ne.mpr c45
            have c45b1 : (x6_1 != (a0.size : Int)) = true := bne_iff_ne.mpr c45
            obtain rfl := Option.some.inj H
            obtain ⟨Ao49, co49, eo49⟩ := Kd.R_slice HO_3.out
            subst eo49
            go_wp2
            repeat (go_quiet (fail); try go_wp2)
            go_ret
            exact ⟨by first | rfl | (simp [errW_none, errW_some] <;> rfl) | (simp [*, errW_none, errW_some] <;> rfl), by repeat (first | (with_reducible first | exact HB.out | apply below_alloc | apply pw_below_drewN | apply below_drew1) | exact HB.out)⟩
  · rw [if_neg c4] at H
    have c4b0 : (t295 == 0) = false := beq_eq_false_iff_ne.mpr c4
    have c4b1 : (t295 != 0) = true := bne_iff_ne.mpr c4
    by_cases c50 : (t290.length : Int) = 0
    · rw [if_pos c50] at H
      have c50b0 : ((t290.length : Int) == 0) = true := beq_iff_eq.mpr c50
      have c50b1 : ((t290.length : Int) != 0) = false := bne_eq_false_iff_eq.mpr c50
      clear c50
      by_cases c51 : t291 ≥ 0
      · rw [if_pos c51] at H
        have c51b0 : decide (0 ≤ t291) = true := decide_eq_true c51
        clear c51
        by_cases c52 : t291 ≤ (a0.size : Int)
        · rw [if_pos c52] at H
          have c52b0 : decide (t291 ≤ (a0.size : Int)) = true := decide_eq_true c52
          clear c52
          replace H := Option.bind_eq_some_iff.mp H
          obtain ⟨t296, A530, H⟩ := H
          replace H : (some t296) = some r := H
          have A53 := Aside0.mk A530
          clear A530
          obtain rfl := Option.some.inj H
          go_enter Try.func4, Try.ntmps4
          go_wp2_with (first | (go_at_call 9; (with_reducible refine (lex_Lex.calls k a0 t290 t291 t292 _ A2.out).mono ?_); rintro e w54 ⟨v293, rfl, ho0, hb⟩; have n0_ := Aside0.mk (Kd.R_lower ho0 (below_size (by repeat (first | (with_reducible first | exact HB.out | apply below_alloc | apply pw_below_drewN | apply below_drew1) | exact HB.out)))); have n1_ := Aside0.mk (below_step (by repeat (first | (with_reducible first | exact HB.out | apply below_alloc | apply pw_below_drewN | apply below_drew1) | exact HB.out)) hb); clear HB; have HO294 := n0_; have HB := n1_; clear n0_ n1_; (try clear hb); (try clear hb2); (try clear hk); (try clear hi); (try clear ho0)) | (go_at_call 12; (with_reducible refine (mortiselaw4_num.calls t292 t295 _ A3.out).mono ?_); rintro e w' ⟨rfl, ⟨nd, rfl⟩⟩; (try first | exact ⟨rfl, _, World.drewN_drewN _ _ _⟩ | exact ⟨rfl, _, Eq.trans (World.drewN_drewN _ _ _) (congrArg (World.drewN _) (Nat.add_assoc _ _ _))⟩); obtain ⟨Ao55, co55, eo55⟩ := Kd.R_slice HO294.out; subst eo55) | (go_at_call 13; (with_reducible refine (mortiselaw4_awake.calls k  t296 _ A53.out).mono ?_); rintro e w56 ⟨rfl, hb⟩; have n0_ := Aside0.mk (Kd.R_below (by (with_reducible repeat (first | apply Kd.R_alloc | apply Kd.R_drewN | apply Kd.R_drew)); exact HO294.out) hb); have n1_ := Aside0.mk (below_step (by repeat (first | (with_reducible first | exact HB.out | apply below_alloc | apply pw_below_drewN | apply below_drew1) | exact HB.out)) hb); clear HO294; clear HB; have HO294 := n0_; have HB := n1_; clear n0_ n1_; (try clear hb); (try clear hb2); (try clear hk); (try clear hi)))
          repeat (go_quiet (first | (go_at_call 9; (with_reducible refine (lex_Lex.calls k a0 t290 t291 t292 _ A2.out).mono ?_); rintro e w54 ⟨v293, rfl, ho0, hb⟩; have n0_ := Aside0.mk (Kd.R_lower ho0 (below_size (by repeat (first | (with_reducible first | exact HB.out | apply below_alloc | apply pw_below_drewN | apply below_drew1) | exact HB.out)))); have n1_ := Aside0.mk (below_step (by repeat (first | (with_reducible first | exact HB.out | apply below_alloc | apply pw_below_drewN | apply below_drew1) | exact HB.out)) hb); clear HB; have HO294 := n0_; have HB := n1_; clear n0_ n1_; (try clear hb); (try clear hb2); (try clear hk); (try clear hi); (try clear ho0)) | (go_at_call 12; (with_reducible refine (mortiselaw4_num.calls t292 t295 _ A3.out).mono ?_); rintro e w' ⟨rfl, ⟨nd, rfl⟩⟩; (try first | exact ⟨rfl, _, World.drewN_drewN _ _ _⟩ | exact ⟨rfl, _, Eq.trans (World.drewN_drewN _ _ _) (congrArg (World.drewN _) (Nat.add_assoc _ _ _))⟩); obtain ⟨Ao55, co55, eo55⟩ := Kd.R_slice HO294.out; subst eo55) | (go_at_call 13; (with_reducible refine (mortiselaw4_awake.calls k  t296 _ A53.out).mono ?_); rintro e w56 ⟨rfl, hb⟩; have n0_ := Aside0.mk (Kd.R_below (by (with_reducible repeat (first | apply Kd.R_alloc | apply Kd.R_drewN | apply Kd.R_drew)); exact HO294.out) hb); have n1_ := Aside0.mk (below_step (by repeat (first | (with_reducible first | exact HB.out | apply below_alloc | apply pw_below_drewN | apply below_drew1) | exact HB.out)) hb); clear HO294; clear HB; have HO294 := n0_; have HB := n1_; clear n0_ n1_; (try clear hb); (try clear hb2); (try clear hk); (try clear hi))); try go_wp2_with (first | (go_at_call 9; (with_reducible refine (lex_Lex.calls k a0 t290 t291 t292 _ A2.out).mono ?_); rintro e w54 ⟨v293, rfl, ho0, hb⟩; have n0_ := Aside0.mk (Kd.R_lower ho0 (below_size (by repeat (first | (with_reducible first | exact HB.out | apply below_alloc | apply pw_below_drewN | apply below_drew1) | exact HB.out)))); have n1_ := Aside0.mk (below_step (by repeat (first | (with_reducible first | exact HB.out | apply below_alloc | apply pw_below_drewN | apply below_drew1) | exact HB.out)) hb); clear HB; have HO294 := n0_; have HB := n1_; clear n0_ n1_; (try clear hb); (try clear hb2); (try clear hk); (try clear hi); (try clear ho0)) | (go_at_call 12; (with_reducible refine (mortiselaw4_num.calls t292 t295 _ A3.out).mono ?_); rintro e w' ⟨rfl, ⟨nd, rfl⟩⟩; (try first | exact ⟨rfl, _, World.drewN_drewN _ _ _⟩ | exact ⟨rfl, _, Eq.trans (World.drewN_drewN _ _ _) (congrArg (World.drewN _) (Nat.add_assoc _ _ _))⟩); obtain ⟨Ao55, co55, eo55⟩ := Kd.R_slice HO294.out; subst eo55) | (go_at_call 13; (with_reducible refine (mortiselaw4_awake.calls k  t296 _ A53.out).mono ?_); rintro e w56 ⟨rfl, hb⟩; have n0_ := Aside0.mk (Kd.R_below (by (with_reducible repeat (first | apply Kd.R_alloc | apply Kd.R_drewN | apply Kd.R_drew)); exact HO294.out) hb); have n1_ := Aside0.mk (below_step (by repeat (first | (with_reducible first | exact HB.out | apply below_alloc | apply pw_below_drewN | apply below_drew1) | exact HB.out)) hb); clear HO294; clear HB; have HO294 := n0_; have HB := n1_; clear n0_ n1_; (try clear hb); (try clear hb2); (try clear hk); (try clear hi))))
          go_ret
          exact ⟨by first | rfl | (simp [errW_none, errW_some] <;> rfl) | (simp [*, errW_none, errW_some] <;> rfl), by repeat (first | (with_reducible first | exact HB.out | apply below_alloc | apply pw_below_drewN | apply below_drew1) | exact HB.out)⟩
        · rw [if_neg c52] at H
          have c52b0 : decide (t291 ≤ (a0.size : Int)) = false := decide_eq_false c52
          clear c52
          obtain rfl := Option.some.inj H
          go_enter Try.func4, Try.ntmps4
          go_wp2_with (first | (go_at_call 9; (with_reducible refine (lex_Lex.calls k a0 t290 t291 t292 _ A2.out).mono ?_); rintro e w57 ⟨v293, rfl, ho0, hb⟩; have n0_ := Aside0.mk (Kd.R_lower ho0 (below_size (by repeat (first | (with_reducible first | exact HB.out | apply below_alloc | apply pw_below_drewN | apply below_drew1) | exact HB.out)))); have n1_ := Aside0.mk (below_step (by repeat (first | (with_reducible first | exact HB.out | apply below_alloc | apply pw_below_drewN | apply below_drew1) | exact HB.out)) hb); clear HB; have HO294 := n0_; have HB := n1_; clear n0_ n1_; (try clear hb); (try clear hb2); (try clear hk); (try clear hi); (try clear ho0)) | (go_at_call 12; (with_reducible refine (mortiselaw4_num.calls t292 t295 _ A3.out).mono ?_); rintro e w' ⟨rfl, ⟨nd, rfl⟩⟩; (try first | exact ⟨rfl, _, World.drewN_drewN _ _ _⟩ | exact ⟨rfl, _, Eq.trans (World.drewN_drewN _ _ _) (congrArg (World.drewN _) (Nat.add_assoc _ _ _))⟩); obtain ⟨Ao58, co58, eo58⟩ := Kd.R_slice HO294.out; subst eo58))
          repeat (go_quiet (first | (go_at_call 9; (with_reducible refine (lex_Lex.calls k a0 t290 t291 t292 _ A2.out).mono ?_); rintro e w57 ⟨v293, rfl, ho0, hb⟩; have n0_ := Aside0.mk (Kd.R_lower ho0 (below_size (by repeat (first | (with_reducible first | exact HB.out | apply below_alloc | apply pw_below_drewN | apply below_drew1) | exact HB.out)))); have n1_ := Aside0.mk (below_step (by repeat (first | (with_reducible first | exact HB.out | apply below_alloc | apply pw_below_drewN | apply below_drew1) | exact HB.out)) hb); clear HB; have HO294 := n0_; have HB := n1_; clear n0_ n1_; (try clear hb); (try clear hb2); (try clear hk); (try clear hi); (try clear ho0)) | (go_at_call 12; (with_reducible refine (mortiselaw4_num.calls t292 t295 _ A3.out).mono ?_); rintro e w' ⟨rfl, ⟨nd, rfl⟩⟩; (try first | exact ⟨rfl, _, World.drewN_drewN _ _ _⟩ | exact ⟨rfl, _, Eq.trans (World.drewN_drewN _ _ _) (congrArg (World.drewN _) (Nat.add_assoc _ _ _))⟩); obtain ⟨Ao58, co58, eo58⟩ := Kd.R_slice HO294.out; subst eo58)); try go_wp2_with (first | (go_at_call 9; (with_reducible refine (lex_Lex.calls k a0 t290 t291 t292 _ A2.out).mono ?_); rintro e w57 ⟨v293, rfl, ho0, hb⟩; have n0_ := Aside0.mk (Kd.R_lower ho0 (below_size (by repeat (first | (with_reducible first | exact HB.out | apply below_alloc | apply pw_below_drewN | apply below_drew1) | exact HB.out)))); have n1_ := Aside0.mk (below_step (by repeat (first | (with_reducible first | exact HB.out | apply below_alloc | apply pw_below_drewN | apply below_drew1) | exact HB.out)) hb); clear HB; have HO294 := n0_; have HB := n1_; clear n0_ n1_; (try clear hb); (try clear hb2); (try clear hk); (try clear hi); (try clear ho0)) | (go_at_call 12; (with_reducible refine (mortiselaw4_num.calls t292 t295 _ A3.out).mono ?_); rintro e w' ⟨rfl, ⟨nd, rfl⟩⟩; (try first | exact ⟨rfl, _, World.drewN_drewN _ _ _⟩ | exact ⟨rfl, _, Eq.trans (World.drewN_drewN _ _ _) (congrArg (World.drewN _) (Nat.add_assoc _ _ _))⟩); obtain ⟨Ao58, co58, eo58⟩ := Kd.R_slice HO294.out; subst eo58)))
          go_ret
          exact ⟨by first | rfl | (simp [errW_none, errW_some] <;> rfl) | (simp [*, errW_none, errW_some] <;> rfl), by repeat (first | (with_reducible first | exact HB.out | apply below_alloc | apply pw_below_drewN | apply below_drew1) | exact HB.out)⟩
      · rw [if_neg c51] at H
        have c51b0 : decide (0 ≤ t291) = false := decide_eq_false c51
        clear c51
        obtain rfl := Option.some.inj H
        go_enter Try.func4, Try.ntmps4
        go_wp2_with (first | (go_at_call 9; (with_reducible refine (lex_Lex.calls k a0 t290 t291 t292 _ A2.out).mono ?_); rintro e w59 ⟨v293, rfl, ho0, hb⟩; have n0_ := Aside0.mk (Kd.R_lower ho0 (below_size (by repeat (first | (with_reducible first | exact HB.out | apply below_alloc | apply pw_below_drewN | apply below_drew1) | exact HB.out)))); have n1_ := Aside0.mk (below_step (by repeat (first | (with_reducible first | exact HB.out | apply below_alloc | apply pw_below_drewN | apply below_drew1) | exact HB.out)) hb); clear HB; have HO294 := n0_; have HB := n1_; clear n0_ n1_; (try clear hb); (try clear hb2); (try clear hk); (try clear hi); (try clear ho0)) | (go_at_call 12; (with_reducible refine (mortiselaw4_num.calls t292 t295 _ A3.out).mono ?_); rintro e w' ⟨rfl, ⟨nd, rfl⟩⟩; (try first | exact ⟨rfl, _, World.drewN_drewN _ _ _⟩ | exact ⟨rfl, _, Eq.trans (World.drewN_drewN _ _ _) (congrArg (World.drewN _) (Nat.add_assoc _ _ _))⟩); obtain ⟨Ao60, co60, eo60⟩ := Kd.R_slice HO294.out; subst eo60))
        repeat (go_quiet (first | (go_at_call 9; (with_reducible refine (lex_Lex.calls k a0 t290 t291 t292 _ A2.out).mono ?_); rintro e w59 ⟨v293, rfl, ho0, hb⟩; have n0_ := Aside0.mk (Kd.R_lower ho0 (below_size (by repeat (first | (with_reducible first | exact HB.out | apply below_alloc | apply pw_below_drewN | apply below_drew1) | exact HB.out)))); have n1_ := Aside0.mk (below_step (by repeat (first | (with_reducible first | exact HB.out | apply below_alloc | apply pw_below_drewN | apply below_drew1) | exact HB.out)) hb); clear HB; have HO294 := n0_; have HB := n1_; clear n0_ n1_; (try clear hb); (try clear hb2); (try clear hk); (try clear hi); (try clear ho0)) | (go_at_call 12; (with_reducible refine (mortiselaw4_num.calls t292 t295 _ A3.out).mono ?_); rintro e w' ⟨rfl, ⟨nd, rfl⟩⟩; (try first | exact ⟨rfl, _, World.drewN_drewN _ _ _⟩ | exact ⟨rfl, _, Eq.trans (World.drewN_drewN _ _ _) (congrArg (World.drewN _) (Nat.add_assoc _ _ _))⟩); obtain ⟨Ao60, co60, eo60⟩ := Kd.R_slice HO294.out; subst eo60)); try go_wp2_with (first | (go_at_call 9; (with_reducible refine (lex_Lex.calls k a0 t290 t291 t292 _ A2.out).mono ?_); rintro e w59 ⟨v293, rfl, ho0, hb⟩; have n0_ := Aside0.mk (Kd.R_lower ho0 (below_size (by repeat (first | (with_reducible first | exact HB.out | apply below_alloc | apply pw_below_drewN | apply below_drew1) | exact HB.out)))); have n1_ := Aside0.mk (below_step (by repeat (first | (with_reducible first | exact HB.out | apply below_alloc | apply pw_below_drewN | apply below_drew1) | exact HB.out)) hb); clear HB; have HO294 := n0_; have HB := n1_; clear n0_ n1_; (try clear hb); (try clear hb2); (try clear hk); (try clear hi); (try clear ho0)) | (go_at_call 12; (with_reducible refine (mortiselaw4_num.calls t292 t295 _ A3.out).mono ?_); rintro e w' ⟨rfl, ⟨nd, rfl⟩⟩; (try first | exact ⟨rfl, _, World.drewN_drewN _ _ _⟩ | exact ⟨rfl, _, Eq.trans (World.drewN_drewN _ _ _) (congrArg (World.drewN _) (Nat.add_assoc _ _ _))⟩); obtain ⟨Ao60, co60, eo60⟩ := Kd.R_slice HO294.out; subst eo60)))
        go_ret
        exact ⟨by first | rfl | (simp [errW_none, errW_some] <;> rfl) | (simp [*, errW_none, errW_some] <;> rfl), by repeat (first | (with_reducible first | exact HB.out | apply below_alloc | apply pw_below_drewN | apply below_drew1) | exact HB.out)⟩
    · rw [if_neg c50] at H
      have c50b0 : ((t290.length : Int) == 0) = false := beq_eq_false_iff_ne.mpr c50
      have c50b1 : ((t290.length : Int) != 0) = true := bne_iff_ne.mpr c50
      have c50b2 : ¬ (t290 = []) := fun h_ => c50 (by rw [h_]; rfl)
      obtain rfl := Option.some.inj H
      go_enter Try.func4, Try.ntmps4
      go_wp2_with (first | (go_at_call 9; (with_reducible refine (lex_Lex.calls k a0 t290 t291 t292 _ A2.out).mono ?_); rintro e w61 ⟨v293, rfl, ho0, hb⟩; have n0_ := Aside0.mk (Kd.R_lower ho0 (below_size (by repeat (first | (with_reducible first | exact HB.out | apply below_alloc | apply pw_below_drewN | apply below_drew1) | exact HB.out)))); have n1_ := Aside0.mk (below_step (by repeat (first | (with_reducible first | exact HB.out | apply below_alloc | apply pw_below_drewN | apply below_drew1) | exact HB.out)) hb); clear HB; have HO294 := n0_; have HB := n1_; clear n0_ n1_; (try clear hb); (try clear hb2); (try clear hk); (try clear hi); (try clear ho0)) | (go_at_call 12; (with_reducible refine (mortiselaw4_num.calls t292 t295 _ A3.out).mono ?_); rintro e w' ⟨rfl, ⟨nd, rfl⟩⟩; (try first | exact ⟨rfl, _, World.drewN_drewN _ _ _⟩ | exact ⟨rfl, _, Eq.trans (World.drewN_drewN _ _ _) (congrArg (World.drewN _) (Nat.add_assoc _ _ _))⟩); obtain ⟨Ao62, co62, eo62⟩ := Kd.R_slice HO294.out; subst eo62))
      repeat (go_quiet (first | (go_at_call 9; (with_reducible refine (lex_Lex.calls k a0 t290 t291 t292 _ A2.out).mono ?_); rintro e w61 ⟨v293, rfl, ho0, hb⟩; have n0_ := Aside0.mk (Kd.R_lower ho0 (below_size (by repeat (first | (with_reducible first | exact HB.out | apply below_alloc | apply pw_below_drewN | apply below_drew1) | exact HB.out)))); have n1_ := Aside0.mk (below_step (by repeat (first | (with_reducible first | exact HB.out | apply below_alloc | apply pw_below_drewN | apply below_drew1) | exact HB.out)) hb); clear HB; have HO294 := n0_; have HB := n1_; clear n0_ n1_; (try clear hb); (try clear hb2); (try clear hk); (try clear hi); (try clear ho0)) | (go_at_call 12; (with_reducible refine (mortiselaw4_num.calls t292 t295 _ A3.out).mono ?_); rintro e w' ⟨rfl, ⟨nd, rfl⟩⟩; (try first | exact ⟨rfl, _, World.drewN_drewN _ _ _⟩ | exact ⟨rfl, _, Eq.trans (World.drewN_drewN _ _ _) (congrArg (World.drewN _) (Nat.add_assoc _ _ _))⟩); obtain ⟨Ao62, co62, eo62⟩ := Kd.R_slice HO294.out; subst eo62)); try go_wp2_with (first | (go_at_call 9; (with_reducible refine (lex_Lex.calls k a0 t290 t291 t292 _ A2.out).mono ?_); rintro e w61 ⟨v293, rfl, ho0, hb⟩; have n0_ := Aside0.mk (Kd.R_lower ho0 (below_size (by repeat (first | (with_reducible first | exact HB.out | apply below_alloc | apply pw_below_drewN | apply below_drew1) | exact HB.out)))); have n1_ := Aside0.mk (below_step (by repeat (first | (with_reducible first | exact HB.out | apply below_alloc | apply pw_below_drewN | apply below_drew1) | exact HB.out)) hb); clear HB; have HO294 := n0_; have HB := n1_; clear n0_ n1_; (try clear hb); (try clear hb2); (try clear hk); (try clear hi); (try clear ho0)) | (go_at_call 12; (with_reducible refine (mortiselaw4_num.calls t292 t295 _ A3.out).mono ?_); rintro e w' ⟨rfl, ⟨nd, rfl⟩⟩; (try first | exact ⟨rfl, _, World.drewN_drewN _ _ _⟩ | exact ⟨rfl, _, Eq.trans (World.drewN_drewN _ _ _) (congrArg (World.drewN _) (Nat.add_assoc _ _ _))⟩); obtain ⟨Ao62, co62, eo62⟩ := Kd.R_slice HO294.out; subst eo62)))
      go_ret
      exact ⟨by first | rfl | (simp [errW_none, errW_some] <;> rfl) | (simp [*, errW_none, errW_some] <;> rfl), by repeat (first | (with_reducible first | exact HB.out | apply below_alloc | apply pw_below_drewN | apply below_drew1) | exact HB.out)⟩

/-- THE ONE PURE STATEMENT of mortiselaw4_LexCovers: yours. -/
def mortiselaw4_LexCovers.Pure : Prop := ∀ (a0 : ByteArray), a0.size ≤ 140737488351232 → ∃ k, mortiselaw4_LexCovers.f k a0 = some true
theorem mortiselaw4_LexCovers.walk (P : mortiselaw4_LexCovers.Pure) (a0 : ByteArray) (w : World) (w0 : a0.size ≤ 140737488351232) :
    Calls Try.prog 4 #[.string a0] w fun e w' => e = .returned (.bool true) ∧ Below w.heap.size w w' := by
  obtain ⟨k, h⟩ := P a0 w0
  refine (mortiselaw4_LexCovers.calls k a0 true w h).mono ?_
  rintro e w' ⟨rfl, hd⟩
  exact ⟨rfl, hd⟩

end Go.Proofs.Ytmmjhdhgohfioaa.Gx
