/-
  Written by a program for this claim: Go functions as plain functions, and that the machine's calls do just what these say.
-/
import Derived.Test.YtlaccolldbnbaaaDoorR2
import Derived.Test.YtlaccolldbnbaaaDoorR3
namespace Go.Proofs.YtlaccolldbnbaaaDoor.Gx
open Go.RowKit Go.Proofs.YtlaccolldbnbaaaDoorW.PrintWords Go.Proofs.YtlaccolldbnbaaaDoorW.PrintLast Go.Proofs.YtlaccolldbnbaaaDoorW.PrintMore
attribute [local go_sem] max2_int min2_int max_two min_two max_three min_three max_four min_four
set_option linter.unusedVariables false
set_option linter.unusedSimpArgs false

/-! ### mortiseref2_Text: function 15 -/
mutual
def mortiseref2_Text.j0 : Nat → Int → Bool → ByteArray → Int → Int → Int → Int → Int → Option (ByteArray)
  | 0, _, _, _, _, _, _, _, _ => none
  | k + 1, x5, x6, x8, x180000, x180001, x180002, x180003, x180004 => if (Int.tmod (wrap64 (Int.tdiv x5 2)) 2) = 1 then (if x8.size + 2 ≤ 9223372036854775807 then ((mortiseref2_Number.f k x180002).bind fun t187 => (if (x8 ++ (⟨#[32, 114]⟩ : ByteArray)).size + t187.size ≤ 9223372036854775807 then (mortiseref2_Text.j1 k x5 x6 ((x8 ++ (⟨#[32, 114]⟩ : ByteArray)) ++ t187) x180000 x180001 x180002 x180003 x180004) else (none))) else (none)) else (mortiseref2_Text.j1 k x5 x6 x8 x180000 x180001 x180002 x180003 x180004)
def mortiseref2_Text.j1 : Nat → Int → Bool → ByteArray → Int → Int → Int → Int → Int → Option (ByteArray)
  | 0, _, _, _, _, _, _, _, _ => none
  | k + 1, x5, x6, x8, x180000, x180001, x180002, x180003, x180004 => if x5 ≥ 4 then (if x8.size + 2 ≤ 9223372036854775807 then ((mortiseref2_Number.f k x180003).bind fun t188 => (if (x8 ++ (⟨#[32, 114]⟩ : ByteArray)).size + t188.size ≤ 9223372036854775807 then (if x6 = true then (if ((x8 ++ (⟨#[32, 114]⟩ : ByteArray)) ++ t188).size + 1 ≤ 9223372036854775807 then ((mortiseref2_Number.f k x180004).bind fun t189 => (if (((x8 ++ (⟨#[32, 114]⟩ : ByteArray)) ++ t188) ++ (⟨#[32]⟩ : ByteArray)).size + t189.size ≤ 9223372036854775807 then (some ((((x8 ++ (⟨#[32, 114]⟩ : ByteArray)) ++ t188) ++ (⟨#[32]⟩ : ByteArray)) ++ t189)) else (none))) else (none)) else (some ((x8 ++ (⟨#[32, 114]⟩ : ByteArray)) ++ t188))) else (none))) else (none)) else (if x6 = true then (if x8.size + 1 ≤ 9223372036854775807 then ((mortiseref2_Number.f k x180004).bind fun t190 => (if (x8 ++ (⟨#[32]⟩ : ByteArray)).size + t190.size ≤ 9223372036854775807 then (some ((x8 ++ (⟨#[32]⟩ : ByteArray)) ++ t190)) else (none))) else (none)) else (some x8))
end
def mortiseref2_Text.f (k : Nat) (a0_0 : Int) (a0_1 : Int) (a0_2 : Int) (a0_3 : Int) (a0_4 : Int) : Option (ByteArray) := (mortiseref2_Encode.f k a0_0 a0_1 a0_2 a0_3 a0_4).bind fun bt180 => (if bt180.2 = 0 then ((mortiseref2_Uses.f k a0_0).bind fun bt182 => ((mortiseref2_Name.f a0_0).bind fun t185 => (if (Int.tmod bt182.1 2) = 1 then (if t185.size + 2 ≤ 9223372036854775807 then ((mortiseref2_Number.f k a0_1).bind fun t186 => (if (t185 ++ (⟨#[32, 114]⟩ : ByteArray)).size + t186.size ≤ 9223372036854775807 then (mortiseref2_Text.j0 k bt182.1 bt182.2.1 ((t185 ++ (⟨#[32, 114]⟩ : ByteArray)) ++ t186) a0_0 a0_1 a0_2 a0_3 a0_4) else (none))) else (none)) else (mortiseref2_Text.j0 k bt182.1 bt182.2.1 t185 a0_0 a0_1 a0_2 a0_3 a0_4)))) else (some (⟨#[]⟩ : ByteArray)))
theorem mortiseref2_Text.mono_l : ∀ k, (∀ y0 y1 y2 y3 y4 y5 y6 y7, LeO (mortiseref2_Text.j0 k y0 y1 y2 y3 y4 y5 y6 y7) (mortiseref2_Text.j0 (k + 1) y0 y1 y2 y3 y4 y5 y6 y7)) ∧ (∀ y0 y1 y2 y3 y4 y5 y6 y7, LeO (mortiseref2_Text.j1 k y0 y1 y2 y3 y4 y5 y6 y7) (mortiseref2_Text.j1 (k + 1) y0 y1 y2 y3 y4 y5 y6 y7))
  | 0 => ⟨fun _ _ _ _ _ _ _ _ r h => by simp [mortiseref2_Text.j0] at h, fun _ _ _ _ _ _ _ _ r h => by simp [mortiseref2_Text.j1] at h⟩
  | k + 1 => by
    obtain ⟨ih0, ih1⟩ := mortiseref2_Text.mono_l k
    refine ⟨?_, ?_⟩
    · intro y0 y1 y2 y3 y4 y5 y6 y7
      unfold mortiseref2_Text.j0
      repeat' first
      | (with_reducible exact ih0 _ _ _ _ _ _ _ _)
      | (with_reducible exact ih1 _ _ _ _ _ _ _ _)
      | (with_reducible exact mortiseref2_Encode.mono _ _ _ _ _ _)
      | (with_reducible exact mortiseref2_Number.mono _ _)
      | (with_reducible exact mortiseref2_Uses.mono _ _)
      | (with_reducible exact LeO.refl _)
      | (with_reducible exact LeO.none _)
      | (with_reducible refine LeO.ite ?_ ?_)
      | (with_reducible refine LeO.bind ?_ (fun _ => ?_))
      | exact ih0 _ _ _ _ _ _ _ _
      | exact ih1 _ _ _ _ _ _ _ _
      | exact mortiseref2_Encode.mono _ _ _ _ _ _
      | exact mortiseref2_Number.mono _ _
      | exact mortiseref2_Uses.mono _ _
      | exact LeO.none _
      | refine LeO.ite ?_ ?_
      | refine LeO.bind ?_ (fun _ => ?_)
    · intro y0 y1 y2 y3 y4 y5 y6 y7
      unfold mortiseref2_Text.j1
      repeat' first
      | (with_reducible exact ih0 _ _ _ _ _ _ _ _)
      | (with_reducible exact ih1 _ _ _ _ _ _ _ _)
      | (with_reducible exact mortiseref2_Encode.mono _ _ _ _ _ _)
      | (with_reducible exact mortiseref2_Number.mono _ _)
      | (with_reducible exact mortiseref2_Uses.mono _ _)
      | (with_reducible exact LeO.refl _)
      | (with_reducible exact LeO.none _)
      | (with_reducible refine LeO.ite ?_ ?_)
      | (with_reducible refine LeO.bind ?_ (fun _ => ?_))
      | exact ih0 _ _ _ _ _ _ _ _
      | exact ih1 _ _ _ _ _ _ _ _
      | exact mortiseref2_Encode.mono _ _ _ _ _ _
      | exact mortiseref2_Number.mono _ _
      | exact mortiseref2_Uses.mono _ _
      | exact LeO.none _
      | refine LeO.ite ?_ ?_
      | refine LeO.bind ?_ (fun _ => ?_)
theorem mortiseref2_Text.mono : ∀ a0 a1 a2 a3 a4 k, LeO (mortiseref2_Text.f k a0 a1 a2 a3 a4) (mortiseref2_Text.f (k + 1) a0 a1 a2 a3 a4) := by
  intro a0 a1 a2 a3 a4 k
  obtain ⟨ih0, ih1⟩ := mortiseref2_Text.mono_l k
  unfold mortiseref2_Text.f
  repeat' first
      | (with_reducible exact ih0 _ _ _ _ _ _ _ _)
      | (with_reducible exact ih1 _ _ _ _ _ _ _ _)
      | (with_reducible exact mortiseref2_Encode.mono _ _ _ _ _ _)
      | (with_reducible exact mortiseref2_Number.mono _ _)
      | (with_reducible exact mortiseref2_Uses.mono _ _)
      | (with_reducible exact LeO.refl _)
      | (with_reducible exact LeO.none _)
      | (with_reducible refine LeO.ite ?_ ?_)
      | (with_reducible refine LeO.bind ?_ (fun _ => ?_))
      | exact ih0 _ _ _ _ _ _ _ _
      | exact ih1 _ _ _ _ _ _ _ _
      | exact mortiseref2_Encode.mono _ _ _ _ _ _
      | exact mortiseref2_Number.mono _ _
      | exact mortiseref2_Uses.mono _ _
      | exact LeO.none _
      | refine LeO.ite ?_ ?_
      | refine LeO.bind ?_ (fun _ => ?_)
set_option maxHeartbeats 8000000 in
set_option maxRecDepth 100000 in
theorem mortiseref2_Text.calls (k : Nat) (a0_0 : Int) (a0_1 : Int) (a0_2 : Int) (a0_3 : Int) (a0_4 : Int) (r : ByteArray) (w : World) (h : mortiseref2_Text.f k a0_0 a0_1 a0_2 a0_3 a0_4 = some r) :
    Calls Tryd.prog 15 #[.agg #[.int .i64 a0_0, .int .i64 a0_1, .int .i64 a0_2, .int .i64 a0_3, .int .i64 a0_4]] w fun e w' => e = .returned (.string r) ∧ Below w.heap.size w w' := by
  have hu23 := Tryd.underlying23
  have HB := Aside0.mk (Below.refl w.heap.size w)
  have H : ((mortiseref2_Encode.f k a0_0 a0_1 a0_2 a0_3 a0_4).bind fun bt180 => (if bt180.2 = 0 then ((mortiseref2_Uses.f k a0_0).bind fun bt182 => ((mortiseref2_Name.f a0_0).bind fun t185 => (if (Int.tmod bt182.1 2) = 1 then (if t185.size + 2 ≤ 9223372036854775807 then ((mortiseref2_Number.f k a0_1).bind fun t186 => (if (t185 ++ (⟨#[32, 114]⟩ : ByteArray)).size + t186.size ≤ 9223372036854775807 then (mortiseref2_Text.j0 k bt182.1 bt182.2.1 ((t185 ++ (⟨#[32, 114]⟩ : ByteArray)) ++ t186) a0_0 a0_1 a0_2 a0_3 a0_4) else (none))) else (none)) else (mortiseref2_Text.j0 k bt182.1 bt182.2.1 t185 a0_0 a0_1 a0_2 a0_3 a0_4)))) else (some (⟨#[]⟩ : ByteArray)))) = some r := h
  clear h
  replace H := Option.bind_eq_some_iff.mp H
  obtain ⟨⟨t180, t181⟩, A20, H⟩ := H
  replace H : (if t181 = 0 then ((mortiseref2_Uses.f k a0_0).bind fun bt182 => ((mortiseref2_Name.f a0_0).bind fun t185 => (if (Int.tmod bt182.1 2) = 1 then (if t185.size + 2 ≤ 9223372036854775807 then ((mortiseref2_Number.f k a0_1).bind fun t186 => (if (t185 ++ (⟨#[32, 114]⟩ : ByteArray)).size + t186.size ≤ 9223372036854775807 then (mortiseref2_Text.j0 k bt182.1 bt182.2.1 ((t185 ++ (⟨#[32, 114]⟩ : ByteArray)) ++ t186) a0_0 a0_1 a0_2 a0_3 a0_4) else (none))) else (none)) else (mortiseref2_Text.j0 k bt182.1 bt182.2.1 t185 a0_0 a0_1 a0_2 a0_3 a0_4)))) else (some (⟨#[]⟩ : ByteArray))) = some r := H
  have A2 := Aside0.mk A20
  clear A20
  by_cases c3 : t181 = 0
  · rw [if_pos c3] at H
    have c3b0 : (t181 == 0) = true := beq_iff_eq.mpr c3
    have c3b1 : (t181 != 0) = false := bne_eq_false_iff_eq.mpr c3
    clear c3
    replace H := Option.bind_eq_some_iff.mp H
    obtain ⟨⟨t182, t183, t184⟩, A40, H⟩ := H
    replace H : ((mortiseref2_Name.f a0_0).bind fun t185 => (if (Int.tmod t182 2) = 1 then (if t185.size + 2 ≤ 9223372036854775807 then ((mortiseref2_Number.f k a0_1).bind fun t186 => (if (t185 ++ (⟨#[32, 114]⟩ : ByteArray)).size + t186.size ≤ 9223372036854775807 then (mortiseref2_Text.j0 k t182 t183 ((t185 ++ (⟨#[32, 114]⟩ : ByteArray)) ++ t186) a0_0 a0_1 a0_2 a0_3 a0_4) else (none))) else (none)) else (mortiseref2_Text.j0 k t182 t183 t185 a0_0 a0_1 a0_2 a0_3 a0_4))) = some r := H
    have A4 := Aside0.mk A40
    clear A40
    replace H := Option.bind_eq_some_iff.mp H
    obtain ⟨t185, A50, H⟩ := H
    replace H : (if (Int.tmod t182 2) = 1 then (if t185.size + 2 ≤ 9223372036854775807 then ((mortiseref2_Number.f k a0_1).bind fun t186 => (if (t185 ++ (⟨#[32, 114]⟩ : ByteArray)).size + t186.size ≤ 9223372036854775807 then (mortiseref2_Text.j0 k t182 t183 ((t185 ++ (⟨#[32, 114]⟩ : ByteArray)) ++ t186) a0_0 a0_1 a0_2 a0_3 a0_4) else (none))) else (none)) else (mortiseref2_Text.j0 k t182 t183 t185 a0_0 a0_1 a0_2 a0_3 a0_4)) = some r := H
    have A5 := Aside0.mk A50
    clear A50
    have HC6 := Aside0.mk H
    clear H
    go_enter Tryd.func15, Tryd.ntmps15
    go_upto_if 28 with (first | ((with_reducible refine gate_dst (N := 1) rfl ?_); refine box_event ?hg (N := 1) ?hd (cs := #[.int .i64 a0_0, .int .i64 a0_1, .int .i64 a0_2, .int .i64 a0_3, .int .i64 a0_4]) (t := 23) ?hr ?_; (case hd => rfl); (case hg => rfl); (case hr => first | (go_simp; done) | (go_simp; rfl)); intro gb179 hg w7 hbox hb; have n0_ := Aside0.mk (below_step (by repeat (first | (with_reducible first | exact HB.out | apply below_alloc | apply pw_below_drewN | apply below_drew1) | exact HB.out)) hb); have n1_ := Aside0.mk (hbox); have n2_ := Aside0.mk ((by rw [hg]; exact (below_size (by repeat (first | (with_reducible first | exact HB.out | apply below_alloc | apply pw_below_drewN | apply below_drew1) | exact HB.out))) : w.heap.size ≤ gb179)); have n3_ := Aside0.mk ((by rw [hg]; exact (below_size (by repeat (first | (with_reducible first | exact HB.out | apply below_alloc | apply pw_below_drewN | apply below_drew1) | exact HB.out))) : w.heap.size ≤ gb179)); clear HB; have HB := n0_; have BK179 := n1_; have GW179 := n2_; have GE179 := n3_; clear n0_ n1_ n2_ n3_; clear hb hbox hg; have hcz8_0 : w7.cell? ⟨gb179, 0, none⟩ = some (.int .i64 a0_0) := (blk_cell BK179.out 0).trans rfl; have hcz8_1 : w7.cell? ⟨gb179, 1, none⟩ = some (.int .i64 a0_1) := (blk_cell BK179.out 1).trans rfl; have hcz8_2 : w7.cell? ⟨gb179, 2, none⟩ = some (.int .i64 a0_2) := (blk_cell BK179.out 2).trans rfl; have hcz8_3 : w7.cell? ⟨gb179, 3, none⟩ = some (.int .i64 a0_3) := (blk_cell BK179.out 3).trans rfl; have hcz8_4 : w7.cell? ⟨gb179, 4, none⟩ = some (.int .i64 a0_4) := (blk_cell BK179.out 4).trans rfl; have hfz8_0 := blk_frozen BK179.out 0; have hfz8_1 := blk_frozen BK179.out 1; have hfz8_2 := blk_frozen BK179.out 2; have hfz8_3 := blk_frozen BK179.out 3; have hfz8_4 := blk_frozen BK179.out 4) | ((with_reducible refine gate_callee (f := 11) rfl ?_); refine goesL_ (some 11) rfl rfl Tryd.func11 (by kernel_rfl) rfl #[.agg #[.int .i64 a0_0, .int .i64 a0_1, .int .i64 a0_2, .int .i64 a0_3, .int .i64 a0_4]] rfl (by (try simp only [List.map_toArray, List.map_cons, List.map_nil]); first | done | rfl | (simp only [List.length_drop, List.length_take]; rfl)) ?_; (with_reducible refine (mortiseref2_Encode.calls k a0_0 a0_1 a0_2 a0_3 a0_4 t180 t181 _ A2.out).mono ?_); rintro e w9 ⟨rfl, hb⟩; refine ⟨_, rfl, ?_⟩; have n0_ := Aside0.mk (blk_below (g := gb179) (o := .cells #[.int .i64 a0_0, .int .i64 a0_1, .int .i64 a0_2, .int .i64 a0_3, .int .i64 a0_4] 23 (0, 0)) (by (with_reducible repeat (first | refine blk_drewN ?_ _ | refine blk_drew ?_ | refine blk_alloc ?_ _)); exact BK179.out) hb); have n1_ := Aside0.mk (below_step (by repeat (first | (with_reducible first | exact HB.out | apply below_alloc | apply pw_below_drewN | apply below_drew1 | refine below_set ?_ GE179.out) | exact HB.out)) hb); clear BK179; clear HB; have BK179 := n0_; have HB := n1_; clear n0_ n1_; (try clear hb); (try clear hb2); (try clear hk); (try clear hi); have hcz10_0 : w9.cell? ⟨gb179, 0, none⟩ = some (.int .i64 a0_0) := (blk_cell BK179.out 0).trans rfl; have hcz10_1 : w9.cell? ⟨gb179, 1, none⟩ = some (.int .i64 a0_1) := (blk_cell BK179.out 1).trans rfl; have hcz10_2 : w9.cell? ⟨gb179, 2, none⟩ = some (.int .i64 a0_2) := (blk_cell BK179.out 2).trans rfl; have hcz10_3 : w9.cell? ⟨gb179, 3, none⟩ = some (.int .i64 a0_3) := (blk_cell BK179.out 3).trans rfl; have hcz10_4 : w9.cell? ⟨gb179, 4, none⟩ = some (.int .i64 a0_4) := (blk_cell BK179.out 4).trans rfl; have hfz10_0 := blk_frozen BK179.out 0; have hfz10_1 := blk_frozen BK179.out 1; have hfz10_2 := blk_frozen BK179.out 2; have hfz10_3 := blk_frozen BK179.out 3; have hfz10_4 := blk_frozen BK179.out 4) | ((with_reducible refine gate_callee (f := 17) rfl ?_); refine goesL_ (some 19) rfl rfl Tryd.func17 (by kernel_rfl) rfl #[.int .i64 a0_0] rfl (by (try simp only [List.map_toArray, List.map_cons, List.map_nil]); first | done | rfl | (simp only [List.length_drop, List.length_take]; rfl)) ?_; (with_reducible refine (mortiseref2_Uses.calls k a0_0 t182 t183 t184 _ A4.out).mono ?_); rintro e w' ⟨rfl, ⟨nd, rfl⟩⟩; refine ⟨_, rfl, ?_⟩) | ((with_reducible refine gate_callee (f := 26) rfl ?_); refine goesL_ (some 25) rfl rfl Tryd.func26 (by kernel_rfl) rfl #[.int .i64 a0_0] rfl (by (try simp only [List.map_toArray, List.map_cons, List.map_nil]); first | done | rfl | (simp only [List.length_drop, List.length_take]; rfl)) ?_; (with_reducible refine (mortiseref2_Name.calls a0_0 t185 _ A5.out).mono ?_); rintro e w' ⟨rfl, ⟨nd, rfl⟩⟩; refine ⟨_, rfl, ?_⟩))
    (try simp only [Act.put, List.setIfInBounds_toArray, List.set_cons_zero, List.set_cons_succ])
    go_cut [8] (fun v8 wc => ∃ (kq : Nat) (x8_5 : ByteArray), v8 = .string x8_5 ∧ Aside0 (mortiseref2_Text.j0 kq t182 t183 x8_5 a0_0 a0_1 a0_2 a0_3 a0_4 = some r) ∧ Aside0 (kq ≤ k) ∧ Aside0 (wc.heap[gb179]? = some (.cells #[.int .i64 a0_0, .int .i64 a0_1, .int .i64 a0_2, .int .i64 a0_3, .int .i64 a0_4] 23 (0, 0))) ∧ Aside0 (Below w.heap.size w wc))
    case first =>
      have H := HC6.out
      clear HC6
      by_cases c11 : (Int.tmod t182 2) = 1
      · rw [if_pos c11] at H
        have c11b0 : ((Int.tmod t182 2) == 1) = true := beq_iff_eq.mpr c11
        have c11b1 : ((Int.tmod t182 2) != 1) = false := bne_eq_false_iff_eq.mpr c11
        clear c11
        (first | rw [c11b0] | (simp only [i64_w, i32_w]; rw [c11b0]) | skip)
        by_cases c12 : t185.size + 2 ≤ 9223372036854775807
        · rw [if_pos c12] at H
          have c12b0 := eq_true c12
          have c12b1 : decide (t185.size + 2 ≤ 9223372036854775807) = true := decide_eq_true c12
          try have c12b2 : (9223372036854775807 < t185.size + 2) = False := eq_false (Nat.not_lt.2 c12)
          replace H := Option.bind_eq_some_iff.mp H
          obtain ⟨t186, A130, H⟩ := H
          replace H : (if (t185 ++ (⟨#[32, 114]⟩ : ByteArray)).size + t186.size ≤ 9223372036854775807 then (mortiseref2_Text.j0 k t182 t183 ((t185 ++ (⟨#[32, 114]⟩ : ByteArray)) ++ t186) a0_0 a0_1 a0_2 a0_3 a0_4) else (none)) = some r := H
          have A13 := Aside0.mk A130
          clear A130
          by_cases c14 : (t185 ++ (⟨#[32, 114]⟩ : ByteArray)).size + t186.size ≤ 9223372036854775807
          · rw [if_pos c14] at H
            have c14b0 := eq_true c14
            have c14b1 : decide ((t185 ++ (⟨#[32, 114]⟩ : ByteArray)).size + t186.size ≤ 9223372036854775807) = true := decide_eq_true c14
            try have c14b2 : (9223372036854775807 < (t185 ++ (⟨#[32, 114]⟩ : ByteArray)).size + t186.size) = False := eq_false (Nat.not_lt.2 c14)
            have c14b5 : (9223372036854775807 < t185.size + 2 + t186.size) = False := eq_false (by have h_ := c14; simp only [ByteArray.size_append, show (⟨#[32, 114]⟩ : ByteArray).size = 2 from rfl, show (⟨#[32]⟩ : ByteArray).size = 1 from rfl] at h_; omega)
            have H' := Aside0.mk H
            clear H
            have hcz15_0 : w9.cell? ⟨gb179, 0, none⟩ = some (.int .i64 a0_0) := (blk_cell BK179.out 0).trans rfl
            have hcz15_1 : w9.cell? ⟨gb179, 1, none⟩ = some (.int .i64 a0_1) := (blk_cell BK179.out 1).trans rfl
            have hcz15_2 : w9.cell? ⟨gb179, 2, none⟩ = some (.int .i64 a0_2) := (blk_cell BK179.out 2).trans rfl
            have hcz15_3 : w9.cell? ⟨gb179, 3, none⟩ = some (.int .i64 a0_3) := (blk_cell BK179.out 3).trans rfl
            have hcz15_4 : w9.cell? ⟨gb179, 4, none⟩ = some (.int .i64 a0_4) := (blk_cell BK179.out 4).trans rfl
            have hfz15_0 := blk_frozen BK179.out 0
            have hfz15_1 := blk_frozen BK179.out 1
            have hfz15_2 := blk_frozen BK179.out 2
            have hfz15_3 := blk_frozen BK179.out 3
            have hfz15_4 := blk_frozen BK179.out 4
            go_wp2_with (first | ((with_reducible refine gate_callee (f := 27) rfl ?_); refine goesL_ (some 33) rfl rfl Tryd.func27 (by kernel_rfl) rfl #[.int .i64 a0_1] rfl (by (try simp only [List.map_toArray, List.map_cons, List.map_nil]); first | done | rfl | (simp only [List.length_drop, List.length_take]; rfl)) ?_; (with_reducible refine (mortiseref2_Number.calls k a0_1 t186 _ A13.out).mono ?_); rintro e w16 ⟨rfl, hb⟩; refine ⟨_, rfl, ?_⟩; have n0_ := Aside0.mk (blk_below (g := gb179) (o := .cells #[.int .i64 a0_0, .int .i64 a0_1, .int .i64 a0_2, .int .i64 a0_3, .int .i64 a0_4] 23 (0, 0)) (by (with_reducible repeat (first | refine blk_drewN ?_ _ | refine blk_drew ?_ | refine blk_alloc ?_ _)); exact BK179.out) hb); have n1_ := Aside0.mk (below_step (by repeat (first | (with_reducible first | exact HB.out | apply below_alloc | apply pw_below_drewN | apply below_drew1 | refine below_set ?_ GE179.out) | exact HB.out)) hb); clear BK179; clear HB; have BK179 := n0_; have HB := n1_; clear n0_ n1_; (try clear hb); (try clear hb2); (try clear hk); (try clear hi)))
            go_meet
            case rel => exact ⟨_, ((t185 ++ (⟨#[32, 114]⟩ : ByteArray)) ++ t186), (by first | rfl | (simp; done) | (simp [*]; done)), H', ⟨by first | omega | exact Nat.le_refl _⟩, ⟨by (with_reducible repeat (first | refine blk_drewN ?_ _ | refine blk_drew ?_ | refine blk_alloc ?_ _)); exact BK179.out⟩, ⟨by repeat (first | (with_reducible first | exact HB.out | apply below_alloc | apply pw_below_drewN | apply below_drew1 | refine below_set ?_ GE179.out) | exact HB.out)⟩⟩
          · rw [if_neg c14] at H
            exact absurd H (by simp)
        · rw [if_neg c12] at H
          exact absurd H (by simp)
      · rw [if_neg c11] at H
        have c11b0 : ((Int.tmod t182 2) == 1) = false := beq_eq_false_iff_ne.mpr c11
        have c11b1 : ((Int.tmod t182 2) != 1) = true := bne_iff_ne.mpr c11
        (first | rw [c11b0] | (simp only [i64_w, i32_w]; rw [c11b0]) | skip)
        have H' := Aside0.mk H
        clear H
        go_wp2
        go_meet
        case rel => exact ⟨_, (t185), (by first | rfl | (simp; done) | (simp [*]; done)), H', ⟨by first | omega | exact Nat.le_refl _⟩, ⟨by (with_reducible repeat (first | refine blk_drewN ?_ _ | refine blk_drew ?_ | refine blk_alloc ?_ _)); exact BK179.out⟩, ⟨by repeat (first | (with_reducible first | exact HB.out | apply below_alloc | apply pw_below_drewN | apply below_drew1 | refine below_set ?_ GE179.out) | exact HB.out)⟩⟩
    case rest =>
      clear HC6
      try clear c1
      try clear c2
      try clear p2
      try clear c3
      try clear c3b0
      try clear c3b1
      try clear c11
      try clear c11b0
      try clear c11b1
      try clear c12
      try clear c12b0
      try clear c12b1
      try clear c12b2
      try clear c14
      try clear c14b0
      try clear c14b1
      try clear c14b2
      try clear c15
      try clear hcz10_0
      try clear hcz10_1
      try clear hcz10_2
      try clear hcz10_3
      try clear hcz10_4
      try clear hcz15_0
      try clear hcz15_1
      try clear hcz15_2
      try clear hcz15_3
      try clear hcz15_4
      try clear hcz8_0
      try clear hcz8_1
      try clear hcz8_2
      try clear hcz8_3
      try clear hcz8_4
      try clear hfz10_0
      try clear hfz10_1
      try clear hfz10_2
      try clear hfz10_3
      try clear hfz10_4
      try clear hfz15_0
      try clear hfz15_1
      try clear hfz15_2
      try clear hfz15_3
      try clear hfz15_4
      try clear hfz8_0
      try clear hfz8_1
      try clear hfz8_2
      try clear hfz8_3
      try clear hfz8_4
      obtain ⟨kq, x8_5, rfl, HA, HJ5, BK179, HB⟩ := hcut
      cases kq with
      | zero => exact absurd HA.out (by simp [mortiseref2_Text.j0])
      | succ kj5 =>
        have H := HA.out
        clear HA
        simp only [mortiseref2_Text.j0] at H
        have HC17 := Aside0.mk H
        clear H
        go_upto_if 38 with (fail)
        go_cut [8] (fun v8 wc => ∃ (kq : Nat) (x8_16 : ByteArray), v8 = .string x8_16 ∧ Aside0 (mortiseref2_Text.j1 kq t182 t183 x8_16 a0_0 a0_1 a0_2 a0_3 a0_4 = some r) ∧ Aside0 (kq ≤ kj5) ∧ Aside0 (wc.heap[gb179]? = some (.cells #[.int .i64 a0_0, .int .i64 a0_1, .int .i64 a0_2, .int .i64 a0_3, .int .i64 a0_4] 23 (0, 0))) ∧ Aside0 (Below w.heap.size w wc))
        case first =>
          have H := HC17.out
          clear HC17
          by_cases c18 : (Int.tmod (wrap64 (Int.tdiv t182 2)) 2) = 1
          · rw [if_pos c18] at H
            have c18b0 : ((Int.tmod (wrap64 (Int.tdiv t182 2)) 2) == 1) = true := beq_iff_eq.mpr c18
            have c18b1 : ((Int.tmod (wrap64 (Int.tdiv t182 2)) 2) != 1) = false := bne_eq_false_iff_eq.mpr c18
            clear c18
            (first | rw [c18b0] | (simp only [i64_w, i32_w]; rw [c18b0]) | skip)
            by_cases c19 : x8_5.size + 2 ≤ 9223372036854775807
            · rw [if_pos c19] at H
              have c19b0 := eq_true c19
              have c19b1 : decide (x8_5.size + 2 ≤ 9223372036854775807) = true := decide_eq_true c19
              try have c19b2 : (9223372036854775807 < x8_5.size + 2) = False := eq_false (Nat.not_lt.2 c19)
              replace H := Option.bind_eq_some_iff.mp H
              obtain ⟨t187, A200, H⟩ := H
              replace H : (if (x8_5 ++ (⟨#[32, 114]⟩ : ByteArray)).size + t187.size ≤ 9223372036854775807 then (mortiseref2_Text.j1 kj5 t182 t183 ((x8_5 ++ (⟨#[32, 114]⟩ : ByteArray)) ++ t187) a0_0 a0_1 a0_2 a0_3 a0_4) else (none)) = some r := H
              have A20 := Aside0.mk A200
              clear A200
              by_cases c21 : (x8_5 ++ (⟨#[32, 114]⟩ : ByteArray)).size + t187.size ≤ 9223372036854775807
              · rw [if_pos c21] at H
                have c21b0 := eq_true c21
                have c21b1 : decide ((x8_5 ++ (⟨#[32, 114]⟩ : ByteArray)).size + t187.size ≤ 9223372036854775807) = true := decide_eq_true c21
                try have c21b2 : (9223372036854775807 < (x8_5 ++ (⟨#[32, 114]⟩ : ByteArray)).size + t187.size) = False := eq_false (Nat.not_lt.2 c21)
                have c21b5 : (9223372036854775807 < x8_5.size + 2 + t187.size) = False := eq_false (by have h_ := c21; simp only [ByteArray.size_append, show (⟨#[32, 114]⟩ : ByteArray).size = 2 from rfl, show (⟨#[32]⟩ : ByteArray).size = 1 from rfl] at h_; omega)
                have H' := Aside0.mk H
                clear H
                have hcz22_0 : wc.cell? ⟨gb179, 0, none⟩ = some (.int .i64 a0_0) := (blk_cell BK179.out 0).trans rfl
                have hcz22_1 : wc.cell? ⟨gb179, 1, none⟩ = some (.int .i64 a0_1) := (blk_cell BK179.out 1).trans rfl
                have hcz22_2 : wc.cell? ⟨gb179, 2, none⟩ = some (.int .i64 a0_2) := (blk_cell BK179.out 2).trans rfl
                have hcz22_3 : wc.cell? ⟨gb179, 3, none⟩ = some (.int .i64 a0_3) := (blk_cell BK179.out 3).trans rfl
                have hcz22_4 : wc.cell? ⟨gb179, 4, none⟩ = some (.int .i64 a0_4) := (blk_cell BK179.out 4).trans rfl
                have hfz22_0 := blk_frozen BK179.out 0
                have hfz22_1 := blk_frozen BK179.out 1
                have hfz22_2 := blk_frozen BK179.out 2
                have hfz22_3 := blk_frozen BK179.out 3
                have hfz22_4 := blk_frozen BK179.out 4
                go_wp2_with (first | ((with_reducible refine gate_callee (f := 27) rfl ?_); refine goesL_ (some 43) rfl rfl Tryd.func27 (by kernel_rfl) rfl #[.int .i64 a0_2] rfl (by (try simp only [List.map_toArray, List.map_cons, List.map_nil]); first | done | rfl | (simp only [List.length_drop, List.length_take]; rfl)) ?_; (with_reducible refine (mortiseref2_Number.calls kj5 a0_2 t187 _ A20.out).mono ?_); rintro e w23 ⟨rfl, hb⟩; refine ⟨_, rfl, ?_⟩; have n0_ := Aside0.mk (blk_below (g := gb179) (o := .cells #[.int .i64 a0_0, .int .i64 a0_1, .int .i64 a0_2, .int .i64 a0_3, .int .i64 a0_4] 23 (0, 0)) (by (with_reducible repeat (first | refine blk_drewN ?_ _ | refine blk_drew ?_ | refine blk_alloc ?_ _)); exact BK179.out) hb); have n1_ := Aside0.mk (below_step (by repeat (first | (with_reducible first | exact HB.out | apply below_alloc | apply pw_below_drewN | apply below_drew1 | refine below_set ?_ GE179.out) | exact HB.out)) hb); clear BK179; clear HB; have BK179 := n0_; have HB := n1_; clear n0_ n1_; (try clear hb); (try clear hb2); (try clear hk); (try clear hi)))
                go_meet
                case rel => exact ⟨_, ((x8_5 ++ (⟨#[32, 114]⟩ : ByteArray)) ++ t187), (by first | rfl | (simp; done) | (simp [*]; done)), H', ⟨by have := HJ5.out; first | omega | exact Nat.le_refl _⟩, ⟨by (with_reducible repeat (first | refine blk_drewN ?_ _ | refine blk_drew ?_ | refine blk_alloc ?_ _)); exact BK179.out⟩, ⟨by repeat (first | (with_reducible first | exact HB.out | apply below_alloc | apply pw_below_drewN | apply below_drew1 | refine below_set ?_ GE179.out) | exact HB.out)⟩⟩
              · rw [if_neg c21] at H
                exact absurd H (by simp)
            · rw [if_neg c19] at H
              exact absurd H (by simp)
          · rw [if_neg c18] at H
            have c18b0 : ((Int.tmod (wrap64 (Int.tdiv t182 2)) 2) == 1) = false := beq_eq_false_iff_ne.mpr c18
            have c18b1 : ((Int.tmod (wrap64 (Int.tdiv t182 2)) 2) != 1) = true := bne_iff_ne.mpr c18
            (first | rw [c18b0] | (simp only [i64_w, i32_w]; rw [c18b0]) | skip)
            have H' := Aside0.mk H
            clear H
            go_wp2
            go_meet
            case rel => exact ⟨_, (x8_5), (by first | rfl | (simp; done) | (simp [*]; done)), H', ⟨by have := HJ5.out; first | omega | exact Nat.le_refl _⟩, ⟨by (with_reducible repeat (first | refine blk_drewN ?_ _ | refine blk_drew ?_ | refine blk_alloc ?_ _)); exact BK179.out⟩, ⟨by repeat (first | (with_reducible first | exact HB.out | apply below_alloc | apply pw_below_drewN | apply below_drew1 | refine below_set ?_ GE179.out) | exact HB.out)⟩⟩
        case rest =>
          clear HC17
          try clear c1
          try clear c2
          try clear p2
          try clear c3
          try clear c3b0
          try clear c3b1
          try clear p6
          try clear c11
          try clear c11b0
          try clear c11b1
          try clear c12
          try clear c12b0
          try clear c12b1
          try clear c12b2
          try clear c14
          try clear c14b0
          try clear c14b1
          try clear c14b2
          try clear c15
          try clear c17
          try clear c18
          try clear c18b0
          try clear c18b1
          try clear c19
          try clear c19b0
          try clear c19b1
          try clear c19b2
          try clear c21
          try clear c21b0
          try clear c21b1
          try clear c21b2
          try clear hcz10_0
          try clear hcz10_1
          try clear hcz10_2
          try clear hcz10_3
          try clear hcz10_4
          try clear hcz15_0
          try clear hcz15_1
          try clear hcz15_2
          try clear hcz15_3
          try clear hcz15_4
          try clear hcz22_0
          try clear hcz22_1
          try clear hcz22_2
          try clear hcz22_3
          try clear hcz22_4
          try clear hcz8_0
          try clear hcz8_1
          try clear hcz8_2
          try clear hcz8_3
          try clear hcz8_4
          try clear hfz10_0
          try clear hfz10_1
          try clear hfz10_2
          try clear hfz10_3
          try clear hfz10_4
          try clear hfz15_0
          try clear hfz15_1
          try clear hfz15_2
          try clear hfz15_3
          try clear hfz15_4
          try clear hfz22_0
          try clear hfz22_1
          try clear hfz22_2
          try clear hfz22_3
          try clear hfz22_4
          try clear hfz8_0
          try clear hfz8_1
          try clear hfz8_2
          try clear hfz8_3
          try clear hfz8_4
          try clear p2
          obtain ⟨kq, x8_16, rfl, HA, HJ16, BK179, HB⟩ := hcut
          cases kq with
          | zero => exact absurd HA.out (by simp [mortiseref2_Text.j1])
          | succ kj16 =>
            have H := HA.out
            clear HA
            simp only [mortiseref2_Text.j1] at H
            by_cases c24 : t182 ≥ 4
            · rw [if_pos c24] at H
              have c24b0 : decide (4 ≤ t182) = true := decide_eq_true c24
              clear c24
              by_cases c25 : x8_16.size + 2 ≤ 9223372036854775807
              · rw [if_pos c25] at H
                have c25b0 := eq_true c25
                have c25b1 : decide (x8_16.size + 2 ≤ 9223372036854775807) = true := decide_eq_true c25
                try have c25b2 : (9223372036854775807 < x8_16.size + 2) = False := eq_false (Nat.not_lt.2 c25)
                replace H := Option.bind_eq_some_iff.mp H
                obtain ⟨t188, A260, H⟩ := H
                replace H : (if (x8_16 ++ (⟨#[32, 114]⟩ : ByteArray)).size + t188.size ≤ 9223372036854775807 then (if t183 = true then (if ((x8_16 ++ (⟨#[32, 114]⟩ : ByteArray)) ++ t188).size + 1 ≤ 9223372036854775807 then ((mortiseref2_Number.f kj16 a0_4).bind fun t189 => (if (((x8_16 ++ (⟨#[32, 114]⟩ : ByteArray)) ++ t188) ++ (⟨#[32]⟩ : ByteArray)).size + t189.size ≤ 9223372036854775807 then (some ((((x8_16 ++ (⟨#[32, 114]⟩ : ByteArray)) ++ t188) ++ (⟨#[32]⟩ : ByteArray)) ++ t189)) else (none))) else (none)) else (some ((x8_16 ++ (⟨#[32, 114]⟩ : ByteArray)) ++ t188))) else (none)) = some r := H
                have A26 := Aside0.mk A260
                clear A260
                by_cases c27 : (x8_16 ++ (⟨#[32, 114]⟩ : ByteArray)).size + t188.size ≤ 9223372036854775807
                · rw [if_pos c27] at H
                  have c27b0 := eq_true c27
                  have c27b1 : decide ((x8_16 ++ (⟨#[32, 114]⟩ : ByteArray)).size + t188.size ≤ 9223372036854775807) = true := decide_eq_true c27
                  try have c27b2 : (9223372036854775807 < (x8_16 ++ (⟨#[32, 114]⟩ : ByteArray)).size + t188.size) = False := eq_false (Nat.not_lt.2 c27)
                  have c27b5 : (9223372036854775807 < x8_16.size + 2 + t188.size) = False := eq_false (by have h_ := c27; simp only [ByteArray.size_append, show (⟨#[32, 114]⟩ : ByteArray).size = 2 from rfl, show (⟨#[32]⟩ : ByteArray).size = 1 from rfl] at h_; omega)
                  by_cases c28 : t183 = true
                  · subst c28
                    have H1 : (if ((x8_16 ++ (⟨#[32, 114]⟩ : ByteArray)) ++ t188).size + 1 ≤ 9223372036854775807 then ((mortiseref2_Number.f kj16 a0_4).bind fun t189 => (if (((x8_16 ++ (⟨#[32, 114]⟩ : ByteArray)) ++ t188) ++ (⟨#[32]⟩ : ByteArray)).size + t189.size ≤ 9223372036854775807 then (some ((((x8_16 ++ (⟨#[32, 114]⟩ : ByteArray)) ++ t188) ++ (⟨#[32]⟩ : ByteArray)) ++ t189)) else (none))) else (none)) = some r := by rw [if_pos rfl] at H; exact H
                    clear H
                    have H := H1
                    clear H1
                    by_cases c29 : ((x8_16 ++ (⟨#[32, 114]⟩ : ByteArray)) ++ t188).size + 1 ≤ 9223372036854775807
                    · rw [if_pos c29] at H
                      have c29b0 := eq_true c29
                      have c29b1 : decide (((x8_16 ++ (⟨#[32, 114]⟩ : ByteArray)) ++ t188).size + 1 ≤ 9223372036854775807) = true := decide_eq_true c29
                      try have c29b2 : (9223372036854775807 < ((x8_16 ++ (⟨#[32, 114]⟩ : ByteArray)) ++ t188).size + 1) = False := eq_false (Nat.not_lt.2 c29)
                      have c29b5 : (9223372036854775807 < x8_16.size + 2 + t188.size + 1) = False := eq_false (by have h_ := c29; simp only [ByteArray.size_append, show (⟨#[32, 114]⟩ : ByteArray).size = 2 from rfl, show (⟨#[32]⟩ : ByteArray).size = 1 from rfl] at h_; omega)
                      replace H := Option.bind_eq_some_iff.mp H
                      obtain ⟨t189, A300, H⟩ := H
                      replace H : (if (((x8_16 ++ (⟨#[32, 114]⟩ : ByteArray)) ++ t188) ++ (⟨#[32]⟩ : ByteArray)).size + t189.size ≤ 9223372036854775807 then (some ((((x8_16 ++ (⟨#[32, 114]⟩ : ByteArray)) ++ t188) ++ (⟨#[32]⟩ : ByteArray)) ++ t189)) else (none)) = some r := H
                      have A30 := Aside0.mk A300
                      clear A300
                      by_cases c31 : (((x8_16 ++ (⟨#[32, 114]⟩ : ByteArray)) ++ t188) ++ (⟨#[32]⟩ : ByteArray)).size + t189.size ≤ 9223372036854775807
                      · rw [if_pos c31] at H
                        have c31b0 := eq_true c31
                        have c31b1 : decide ((((x8_16 ++ (⟨#[32, 114]⟩ : ByteArray)) ++ t188) ++ (⟨#[32]⟩ : ByteArray)).size + t189.size ≤ 9223372036854775807) = true := decide_eq_true c31
                        try have c31b2 : (9223372036854775807 < (((x8_16 ++ (⟨#[32, 114]⟩ : ByteArray)) ++ t188) ++ (⟨#[32]⟩ : ByteArray)).size + t189.size) = False := eq_false (Nat.not_lt.2 c31)
                        have c31b5 : (9223372036854775807 < x8_16.size + 2 + t188.size + 1 + t189.size) = False := eq_false (by have h_ := c31; simp only [ByteArray.size_append, show (⟨#[32, 114]⟩ : ByteArray).size = 2 from rfl, show (⟨#[32]⟩ : ByteArray).size = 1 from rfl] at h_; omega)
                        obtain rfl := Option.some.inj H
                        have hcz32_0 : wc.cell? ⟨gb179, 0, none⟩ = some (.int .i64 a0_0) := (blk_cell BK179.out 0).trans rfl
                        have hcz32_1 : wc.cell? ⟨gb179, 1, none⟩ = some (.int .i64 a0_1) := (blk_cell BK179.out 1).trans rfl
                        have hcz32_2 : wc.cell? ⟨gb179, 2, none⟩ = some (.int .i64 a0_2) := (blk_cell BK179.out 2).trans rfl
                        have hcz32_3 : wc.cell? ⟨gb179, 3, none⟩ = some (.int .i64 a0_3) := (blk_cell BK179.out 3).trans rfl
                        have hcz32_4 : wc.cell? ⟨gb179, 4, none⟩ = some (.int .i64 a0_4) := (blk_cell BK179.out 4).trans rfl
                        have hfz32_0 := blk_frozen BK179.out 0
                        have hfz32_1 := blk_frozen BK179.out 1
                        have hfz32_2 := blk_frozen BK179.out 2
                        have hfz32_3 := blk_frozen BK179.out 3
                        have hfz32_4 := blk_frozen BK179.out 4
                        go_wp2_with (first | ((with_reducible refine gate_callee (f := 27) rfl ?_); refine goesL_ (some 51) rfl rfl Tryd.func27 (by kernel_rfl) rfl #[.int .i64 a0_3] rfl (by (try simp only [List.map_toArray, List.map_cons, List.map_nil]); first | done | rfl | (simp only [List.length_drop, List.length_take]; rfl)) ?_; (with_reducible refine (mortiseref2_Number.calls kj16 a0_3 t188 _ A26.out).mono ?_); rintro e w33 ⟨rfl, hb⟩; refine ⟨_, rfl, ?_⟩; have n0_ := Aside0.mk (blk_below (g := gb179) (o := .cells #[.int .i64 a0_0, .int .i64 a0_1, .int .i64 a0_2, .int .i64 a0_3, .int .i64 a0_4] 23 (0, 0)) (by (with_reducible repeat (first | refine blk_drewN ?_ _ | refine blk_drew ?_ | refine blk_alloc ?_ _)); exact BK179.out) hb); have n1_ := Aside0.mk (below_step (by repeat (first | (with_reducible first | exact HB.out | apply below_alloc | apply pw_below_drewN | apply below_drew1 | refine below_set ?_ GE179.out) | exact HB.out)) hb); clear BK179; clear HB; have BK179 := n0_; have HB := n1_; clear n0_ n1_; (try clear hb); (try clear hb2); (try clear hk); (try clear hi); have hcz34_0 : w33.cell? ⟨gb179, 0, none⟩ = some (.int .i64 a0_0) := (blk_cell BK179.out 0).trans rfl; have hcz34_1 : w33.cell? ⟨gb179, 1, none⟩ = some (.int .i64 a0_1) := (blk_cell BK179.out 1).trans rfl; have hcz34_2 : w33.cell? ⟨gb179, 2, none⟩ = some (.int .i64 a0_2) := (blk_cell BK179.out 2).trans rfl; have hcz34_3 : w33.cell? ⟨gb179, 3, none⟩ = some (.int .i64 a0_3) := (blk_cell BK179.out 3).trans rfl; have hcz34_4 : w33.cell? ⟨gb179, 4, none⟩ = some (.int .i64 a0_4) := (blk_cell BK179.out 4).trans rfl; have hfz34_0 := blk_frozen BK179.out 0; have hfz34_1 := blk_frozen BK179.out 1; have hfz34_2 := blk_frozen BK179.out 2; have hfz34_3 := blk_frozen BK179.out 3; have hfz34_4 := blk_frozen BK179.out 4) | ((with_reducible refine gate_callee (f := 27) rfl ?_); refine goesL_ (some 58) rfl rfl Tryd.func27 (by kernel_rfl) rfl #[.int .i64 a0_4] rfl (by (try simp only [List.map_toArray, List.map_cons, List.map_nil]); first | done | rfl | (simp only [List.length_drop, List.length_take]; rfl)) ?_; (with_reducible refine (mortiseref2_Number.calls kj16 a0_4 t189 _ A30.out).mono ?_); rintro e w35 ⟨rfl, hb⟩; refine ⟨_, rfl, ?_⟩; have n0_ := Aside0.mk (blk_below (g := gb179) (o := .cells #[.int .i64 a0_0, .int .i64 a0_1, .int .i64 a0_2, .int .i64 a0_3, .int .i64 a0_4] 23 (0, 0)) (by (with_reducible repeat (first | refine blk_drewN ?_ _ | refine blk_drew ?_ | refine blk_alloc ?_ _)); exact BK179.out) hb); have n1_ := Aside0.mk (below_step (by repeat (first | (with_reducible first | exact HB.out | apply below_alloc | apply pw_below_drewN | apply below_drew1 | refine below_set ?_ GE179.out) | exact HB.out)) hb); clear BK179; clear HB; have BK179 := n0_; have HB := n1_; clear n0_ n1_; (try clear hb); (try clear hb2); (try clear hk); (try clear hi)))
                        go_ret
                        exact ⟨by first | rfl | (simp [errW_none, errW_some] <;> rfl) | (simp [*, errW_none, errW_some] <;> rfl), by repeat (first | (with_reducible first | exact HB.out | apply below_alloc | apply pw_below_drewN | apply below_drew1 | refine below_set ?_ GE179.out) | exact HB.out)⟩
                      · rw [if_neg c31] at H
                        exact absurd H (by simp)
                    · rw [if_neg c29] at H
                      exact absurd H (by simp)
                  · replace c28 := Bool.eq_false_iff.mpr c28
                    subst c28
                    have H1 : (some ((x8_16 ++ (⟨#[32, 114]⟩ : ByteArray)) ++ t188)) = some r := by rw [if_neg (show ¬ (false = true) by decide)] at H; exact H
                    clear H
                    have H := H1
                    clear H1
                    obtain rfl := Option.some.inj H
                    have hcz36_0 : wc.cell? ⟨gb179, 0, none⟩ = some (.int .i64 a0_0) := (blk_cell BK179.out 0).trans rfl
                    have hcz36_1 : wc.cell? ⟨gb179, 1, none⟩ = some (.int .i64 a0_1) := (blk_cell BK179.out 1).trans rfl
                    have hcz36_2 : wc.cell? ⟨gb179, 2, none⟩ = some (.int .i64 a0_2) := (blk_cell BK179.out 2).trans rfl
                    have hcz36_3 : wc.cell? ⟨gb179, 3, none⟩ = some (.int .i64 a0_3) := (blk_cell BK179.out 3).trans rfl
                    have hcz36_4 : wc.cell? ⟨gb179, 4, none⟩ = some (.int .i64 a0_4) := (blk_cell BK179.out 4).trans rfl
                    have hfz36_0 := blk_frozen BK179.out 0
                    have hfz36_1 := blk_frozen BK179.out 1
                    have hfz36_2 := blk_frozen BK179.out 2
                    have hfz36_3 := blk_frozen BK179.out 3
                    have hfz36_4 := blk_frozen BK179.out 4
                    go_wp2_with (first | ((with_reducible refine gate_callee (f := 27) rfl ?_); refine goesL_ (some 51) rfl rfl Tryd.func27 (by kernel_rfl) rfl #[.int .i64 a0_3] rfl (by (try simp only [List.map_toArray, List.map_cons, List.map_nil]); first | done | rfl | (simp only [List.length_drop, List.length_take]; rfl)) ?_; (with_reducible refine (mortiseref2_Number.calls kj16 a0_3 t188 _ A26.out).mono ?_); rintro e w37 ⟨rfl, hb⟩; refine ⟨_, rfl, ?_⟩; have n0_ := Aside0.mk (blk_below (g := gb179) (o := .cells #[.int .i64 a0_0, .int .i64 a0_1, .int .i64 a0_2, .int .i64 a0_3, .int .i64 a0_4] 23 (0, 0)) (by (with_reducible repeat (first | refine blk_drewN ?_ _ | refine blk_drew ?_ | refine blk_alloc ?_ _)); exact BK179.out) hb); have n1_ := Aside0.mk (below_step (by repeat (first | (with_reducible first | exact HB.out | apply below_alloc | apply pw_below_drewN | apply below_drew1 | refine below_set ?_ GE179.out) | exact HB.out)) hb); clear BK179; clear HB; have BK179 := n0_; have HB := n1_; clear n0_ n1_; (try clear hb); (try clear hb2); (try clear hk); (try clear hi)))
                    go_ret
                    exact ⟨by first | rfl | (simp [errW_none, errW_some] <;> rfl) | (simp [*, errW_none, errW_some] <;> rfl), by repeat (first | (with_reducible first | exact HB.out | apply below_alloc | apply pw_below_drewN | apply below_drew1 | refine below_set ?_ GE179.out) | exact HB.out)⟩
                · rw [if_neg c27] at H
                  exact absurd H (by simp)
              · rw [if_neg c25] at H
                exact absurd H (by simp)
            · rw [if_neg c24] at H
              have c24b0 : decide (4 ≤ t182) = false := decide_eq_false c24
              clear c24
              by_cases c38 : t183 = true
              · subst c38
                have H1 : (if x8_16.size + 1 ≤ 9223372036854775807 then ((mortiseref2_Number.f kj16 a0_4).bind fun t190 => (if (x8_16 ++ (⟨#[32]⟩ : ByteArray)).size + t190.size ≤ 9223372036854775807 then (some ((x8_16 ++ (⟨#[32]⟩ : ByteArray)) ++ t190)) else (none))) else (none)) = some r := by rw [if_pos rfl] at H; exact H
                clear H
                have H := H1
                clear H1
                by_cases c39 : x8_16.size + 1 ≤ 9223372036854775807
                · rw [if_pos c39] at H
                  have c39b0 := eq_true c39
                  have c39b1 : decide (x8_16.size + 1 ≤ 9223372036854775807) = true := decide_eq_true c39
                  try have c39b2 : (9223372036854775807 < x8_16.size + 1) = False := eq_false (Nat.not_lt.2 c39)
                  replace H := Option.bind_eq_some_iff.mp H
                  obtain ⟨t190, A400, H⟩ := H
                  replace H : (if (x8_16 ++ (⟨#[32]⟩ : ByteArray)).size + t190.size ≤ 9223372036854775807 then (some ((x8_16 ++ (⟨#[32]⟩ : ByteArray)) ++ t190)) else (none)) = some r := H
                  have A40 := Aside0.mk A400
                  clear A400
                  by_cases c41 : (x8_16 ++ (⟨#[32]⟩ : ByteArray)).size + t190.size ≤ 9223372036854775807
                  · rw [if_pos c41] at H
                    have c41b0 := eq_true c41
                    have c41b1 : decide ((x8_16 ++ (⟨#[32]⟩ : ByteArray)).size + t190.size ≤ 9223372036854775807) = true := decide_eq_true c41
                    try have c41b2 : (9223372036854775807 < (x8_16 ++ (⟨#[32]⟩ : ByteArray)).size + t190.size) = False := eq_false (Nat.not_lt.2 c41)
                    have c41b5 : (9223372036854775807 < x8_16.size + 1 + t190.size) = False := eq_false (by have h_ := c41; simp only [ByteArray.size_append, show (⟨#[32, 114]⟩ : ByteArray).size = 2 from rfl, show (⟨#[32]⟩ : ByteArray).size = 1 from rfl] at h_; omega)
                    obtain rfl := Option.some.inj H
                    have hcz42_0 : wc.cell? ⟨gb179, 0, none⟩ = some (.int .i64 a0_0) := (blk_cell BK179.out 0).trans rfl
                    have hcz42_1 : wc.cell? ⟨gb179, 1, none⟩ = some (.int .i64 a0_1) := (blk_cell BK179.out 1).trans rfl
                    have hcz42_2 : wc.cell? ⟨gb179, 2, none⟩ = some (.int .i64 a0_2) := (blk_cell BK179.out 2).trans rfl
                    have hcz42_3 : wc.cell? ⟨gb179, 3, none⟩ = some (.int .i64 a0_3) := (blk_cell BK179.out 3).trans rfl
                    have hcz42_4 : wc.cell? ⟨gb179, 4, none⟩ = some (.int .i64 a0_4) := (blk_cell BK179.out 4).trans rfl
                    have hfz42_0 := blk_frozen BK179.out 0
                    have hfz42_1 := blk_frozen BK179.out 1
                    have hfz42_2 := blk_frozen BK179.out 2
                    have hfz42_3 := blk_frozen BK179.out 3
                    have hfz42_4 := blk_frozen BK179.out 4
                    go_wp2_with (first | ((with_reducible refine gate_callee (f := 27) rfl ?_); refine goesL_ (some 58) rfl rfl Tryd.func27 (by kernel_rfl) rfl #[.int .i64 a0_4] rfl (by (try simp only [List.map_toArray, List.map_cons, List.map_nil]); first | done | rfl | (simp only [List.length_drop, List.length_take]; rfl)) ?_; (with_reducible refine (mortiseref2_Number.calls kj16 a0_4 t190 _ A40.out).mono ?_); rintro e w43 ⟨rfl, hb⟩; refine ⟨_, rfl, ?_⟩; have n0_ := Aside0.mk (blk_below (g := gb179) (o := .cells #[.int .i64 a0_0, .int .i64 a0_1, .int .i64 a0_2, .int .i64 a0_3, .int .i64 a0_4] 23 (0, 0)) (by (with_reducible repeat (first | refine blk_drewN ?_ _ | refine blk_drew ?_ | refine blk_alloc ?_ _)); exact BK179.out) hb); have n1_ := Aside0.mk (below_step (by repeat (first | (with_reducible first | exact HB.out | apply below_alloc | apply pw_below_drewN | apply below_drew1 | refine below_set ?_ GE179.out) | exact HB.out)) hb); clear BK179; clear HB; have BK179 := n0_; have HB := n1_; clear n0_ n1_; (try clear hb); (try clear hb2); (try clear hk); (try clear hi)))
                    go_ret
                    exact ⟨by first | rfl | (simp [errW_none, errW_some] <;> rfl) | (simp [*, errW_none, errW_some] <;> rfl), by repeat (first | (with_reducible first | exact HB.out | apply below_alloc | apply pw_below_drewN | apply below_drew1 | refine below_set ?_ GE179.out) | exact HB.out)⟩
                  · rw [if_neg c41] at H
                    exact absurd H (by simp)
                · rw [if_neg c39] at H
                  exact absurd H (by simp)
              · replace c38 := Bool.eq_false_iff.mpr c38
                subst c38
                have H1 : (some x8_16) = some r := by rw [if_neg (show ¬ (false = true) by decide)] at H; exact H
                clear H
                have H := H1
                clear H1
                obtain rfl := Option.some.inj H
                go_wp2
                go_ret
                exact ⟨by first | rfl | (simp [errW_none, errW_some] <;> rfl) | (simp [*, errW_none, errW_some] <;> rfl), by repeat (first | (with_reducible first | exact HB.out | apply below_alloc | apply pw_below_drewN | apply below_drew1 | refine below_set ?_ GE179.out) | exact HB.out)⟩
  · rw [if_neg c3] at H
    have c3b0 : (t181 == 0) = false := beq_eq_false_iff_ne.mpr c3
    have c3b1 : (t181 != 0) = true := bne_iff_ne.mpr c3
    obtain rfl := Option.some.inj H
    go_enter Tryd.func15, Tryd.ntmps15
    go_wp2_with (first | ((with_reducible refine gate_dst (N := 1) rfl ?_); refine box_event ?hg (N := 1) ?hd (cs := #[.int .i64 a0_0, .int .i64 a0_1, .int .i64 a0_2, .int .i64 a0_3, .int .i64 a0_4]) (t := 23) ?hr ?_; (case hd => rfl); (case hg => rfl); (case hr => first | (go_simp; done) | (go_simp; rfl)); intro gb179 hg w44 hbox hb; have n0_ := Aside0.mk (below_step (by repeat (first | (with_reducible first | exact HB.out | apply below_alloc | apply pw_below_drewN | apply below_drew1) | exact HB.out)) hb); have n1_ := Aside0.mk (hbox); have n2_ := Aside0.mk ((by rw [hg]; exact (below_size (by repeat (first | (with_reducible first | exact HB.out | apply below_alloc | apply pw_below_drewN | apply below_drew1) | exact HB.out))) : w.heap.size ≤ gb179)); have n3_ := Aside0.mk ((by rw [hg]; exact (below_size (by repeat (first | (with_reducible first | exact HB.out | apply below_alloc | apply pw_below_drewN | apply below_drew1) | exact HB.out))) : w.heap.size ≤ gb179)); clear HB; have HB := n0_; have BK179 := n1_; have GW179 := n2_; have GE179 := n3_; clear n0_ n1_ n2_ n3_; clear hb hbox hg; have hcz45_0 : w44.cell? ⟨gb179, 0, none⟩ = some (.int .i64 a0_0) := (blk_cell BK179.out 0).trans rfl; have hcz45_1 : w44.cell? ⟨gb179, 1, none⟩ = some (.int .i64 a0_1) := (blk_cell BK179.out 1).trans rfl; have hcz45_2 : w44.cell? ⟨gb179, 2, none⟩ = some (.int .i64 a0_2) := (blk_cell BK179.out 2).trans rfl; have hcz45_3 : w44.cell? ⟨gb179, 3, none⟩ = some (.int .i64 a0_3) := (blk_cell BK179.out 3).trans rfl; have hcz45_4 : w44.cell? ⟨gb179, 4, none⟩ = some (.int .i64 a0_4) := (blk_cell BK179.out 4).trans rfl; have hfz45_0 := blk_frozen BK179.out 0; have hfz45_1 := blk_frozen BK179.out 1; have hfz45_2 := blk_frozen BK179.out 2; have hfz45_3 := blk_frozen BK179.out 3; have hfz45_4 := blk_frozen BK179.out 4) | ((with_reducible refine gate_callee (f := 11) rfl ?_); refine goesL_ (some 11) rfl rfl Tryd.func11 (by kernel_rfl) rfl #[.agg #[.int .i64 a0_0, .int .i64 a0_1, .int .i64 a0_2, .int .i64 a0_3, .int .i64 a0_4]] rfl (by (try simp only [List.map_toArray, List.map_cons, List.map_nil]); first | done | rfl | (simp only [List.length_drop, List.length_take]; rfl)) ?_; (with_reducible refine (mortiseref2_Encode.calls k a0_0 a0_1 a0_2 a0_3 a0_4 t180 t181 _ A2.out).mono ?_); rintro e w46 ⟨rfl, hb⟩; refine ⟨_, rfl, ?_⟩; have n0_ := Aside0.mk (blk_below (g := gb179) (o := .cells #[.int .i64 a0_0, .int .i64 a0_1, .int .i64 a0_2, .int .i64 a0_3, .int .i64 a0_4] 23 (0, 0)) (by (with_reducible repeat (first | refine blk_drewN ?_ _ | refine blk_drew ?_ | refine blk_alloc ?_ _)); exact BK179.out) hb); have n1_ := Aside0.mk (below_step (by repeat (first | (with_reducible first | exact HB.out | apply below_alloc | apply pw_below_drewN | apply below_drew1 | refine below_set ?_ GE179.out) | exact HB.out)) hb); clear BK179; clear HB; have BK179 := n0_; have HB := n1_; clear n0_ n1_; (try clear hb); (try clear hb2); (try clear hk); (try clear hi)))
    go_ret
    exact ⟨by first | rfl | (simp [errW_none, errW_some] <;> rfl) | (simp [*, errW_none, errW_some] <;> rfl), by repeat (first | (with_reducible first | exact HB.out | apply below_alloc | apply pw_below_drewN | apply below_drew1 | refine below_set ?_ GE179.out) | exact HB.out)⟩

end Go.Proofs.YtlaccolldbnbaaaDoor.Gx
