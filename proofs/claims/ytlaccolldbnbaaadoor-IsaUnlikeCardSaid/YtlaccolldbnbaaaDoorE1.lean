/-
  Written by a program for this claim: Go functions as plain functions, and that the machine's calls do just what these say.
-/
import Derived.Test.YtlaccolldbnbaaaDoorOF
namespace Go.Proofs.YtlaccolldbnbaaaDoor.Gx
open Go.RowKit Go.Proofs.YtlaccolldbnbaaaDoorW.PrintWords Go.Proofs.YtlaccolldbnbaaaDoorW.PrintLast Go.Proofs.YtlaccolldbnbaaaDoorW.PrintMore
attribute [local go_sem] max2_int min2_int max_two min_two max_three min_three max_four min_four
set_option linter.unusedVariables false
set_option linter.unusedSimpArgs false

/-! ### isa_may: function 21 -/
def isa_may.f (a0 : Int) (a1 : Bool) : Option (Bool) := if a0 = 0 then (some true) else (if a1 = true then (if a0 > 0 then (some (decide (a0 < 16))) else (some false)) else (some false))
set_option maxHeartbeats 8000000 in
set_option maxRecDepth 100000 in
theorem isa_may.calls (a0 : Int) (a1 : Bool) (r : Bool) (w : World) (h : isa_may.f a0 a1 = some r) :
    Calls Tryd.prog 21 #[.int .i64 a0, .bool a1] w fun e w' => e = .returned (.bool r) ∧ Drawn0 w w' := by
  have H : (if a0 = 0 then (some true) else (if a1 = true then (if a0 > 0 then (some (decide (a0 < 16))) else (some false)) else (some false))) = some r := h
  clear h
  by_cases c3 : a0 = 0
  · rw [if_pos c3] at H
    have c3b0 : (a0 == 0) = true := beq_iff_eq.mpr c3
    have c3b1 : (a0 != 0) = false := bne_eq_false_iff_eq.mpr c3
    clear c3
    obtain rfl := Option.some.inj H
    go_enter Tryd.func21, Tryd.ntmps21
    go_wp2
    go_ret
    exact ⟨by first | rfl | (simp; done) | (simp [*]; done), by repeat (first | exact Drawn0.refl _ | apply Drawn0.step)⟩
  · rw [if_neg c3] at H
    have c3b0 : (a0 == 0) = false := beq_eq_false_iff_ne.mpr c3
    have c3b1 : (a0 != 0) = true := bne_iff_ne.mpr c3
    by_cases c4 : a1 = true
    · subst c4
      have H1 : (if a0 > 0 then (some (decide (a0 < 16))) else (some false)) = some r := by rw [if_pos rfl] at H; exact H
      clear H
      have H := H1
      clear H1
      by_cases c5 : a0 > 0
      · rw [if_pos c5] at H
        have c5b0 : decide (0 < a0) = true := decide_eq_true c5
        clear c5
        obtain rfl := Option.some.inj H
        go_enter Tryd.func21, Tryd.ntmps21
        go_wp2
        go_ret
        exact ⟨by first | rfl | (simp; done) | (simp [*]; done), by repeat (first | exact Drawn0.refl _ | apply Drawn0.step)⟩
      · rw [if_neg c5] at H
        have c5b0 : decide (0 < a0) = false := decide_eq_false c5
        clear c5
        obtain rfl := Option.some.inj H
        go_enter Tryd.func21, Tryd.ntmps21
        go_wp2
        go_ret
        exact ⟨by first | rfl | (simp; done) | (simp [*]; done), by repeat (first | exact Drawn0.refl _ | apply Drawn0.step)⟩
    · replace c4 := Bool.eq_false_iff.mpr c4
      subst c4
      have H1 : (some false) = some r := by rw [if_neg (show ¬ (false = true) by decide)] at H; exact H
      clear H
      have H := H1
      clear H1
      obtain rfl := Option.some.inj H
      go_enter Tryd.func21, Tryd.ntmps21
      go_wp2
      go_ret
      exact ⟨by first | rfl | (simp; done) | (simp [*]; done), by repeat (first | exact Drawn0.refl _ | apply Drawn0.step)⟩

/-! ### isa_Encode: function 10 -/
def isa_Encode.j0 : Nat → Bool → Int → Int → Int → Int → Int → ByteArray → Int → Bool → Option (Int × Int)
  | 0, _, _, _, _, _, _, _, _, _ => none
  | k + 1, x43, x103000, x103001, x103002, x103003, x103004, x108000, x108001, x108002 => if x43 = true then (some (0, 4)) else (if x108002 = true then (if x103004 < (-2147483648) then (some (0, 4)) else (if x103004 > 2147483647 then (some (0, 4)) else (some (Go.bits .or .i64 (Go.bits .or .i64 (Go.bits .or .i64 (Go.bits .or .i64 (wrap64 (x103000 * 72057594037927936)) (wrap64 (x103001 * 4503599627370496))) (wrap64 (x103002 * 281474976710656))) (wrap64 (x103003 * 17592186044416))) ((x103004) % 4294967296), 0)))) else (if x103004 = 0 then (if x103004 < (-2147483648) then (some (0, 4)) else (if x103004 > 2147483647 then (some (0, 4)) else (some (Go.bits .or .i64 (Go.bits .or .i64 (Go.bits .or .i64 (Go.bits .or .i64 (wrap64 (x103000 * 72057594037927936)) (wrap64 (x103001 * 4503599627370496))) (wrap64 (x103002 * 281474976710656))) (wrap64 (x103003 * 17592186044416))) ((x103004) % 4294967296), 0)))) else (some (0, 4))))
def isa_Encode.f (k : Nat) (a0_0 : Int) (a0_1 : Int) (a0_2 : Int) (a0_3 : Int) (a0_4 : Int) : Option (Int × Int) := (isa_of.f a0_0).bind fun bt103 => (if bt103.2.2.2 = true then ((isa_may.f a0_1 ((Go.bits .and .i64 bt103.2.1 1) != 0)).bind fun t108 => (if t108 = true then ((isa_may.f a0_2 ((Go.bits .and .i64 bt103.2.1 2) != 0)).bind fun t109 => (if t109 = true then ((isa_may.f a0_3 ((Go.bits .and .i64 bt103.2.1 4) != 0)).bind fun t110 => (isa_Encode.j0 k (!t110) a0_0 a0_1 a0_2 a0_3 a0_4 bt103.1 bt103.2.1 bt103.2.2.1)) else (isa_Encode.j0 k true a0_0 a0_1 a0_2 a0_3 a0_4 bt103.1 bt103.2.1 bt103.2.2.1))) else (isa_Encode.j0 k true a0_0 a0_1 a0_2 a0_3 a0_4 bt103.1 bt103.2.1 bt103.2.2.1))) else (isa_Encode.j0 k true a0_0 a0_1 a0_2 a0_3 a0_4 bt103.1 bt103.2.1 bt103.2.2.1))
theorem isa_Encode.mono_l : ∀ k, (∀ y0 y1 y2 y3 y4 y5 y6 y7 y8, LeO (isa_Encode.j0 k y0 y1 y2 y3 y4 y5 y6 y7 y8) (isa_Encode.j0 (k + 1) y0 y1 y2 y3 y4 y5 y6 y7 y8))
  | 0 => fun _ _ _ _ _ _ _ _ _ r h => by simp [isa_Encode.j0] at h
  | k + 1 => by
    have ih0 := isa_Encode.mono_l k
    · intro y0 y1 y2 y3 y4 y5 y6 y7 y8
      unfold isa_Encode.j0
      repeat' first
      | (with_reducible exact ih0 _ _ _ _ _ _ _ _ _)
      | (with_reducible exact LeO.refl _)
      | (with_reducible exact LeO.none _)
      | (with_reducible refine LeO.ite ?_ ?_)
      | (with_reducible refine LeO.bind ?_ (fun _ => ?_))
      | exact ih0 _ _ _ _ _ _ _ _ _
      | exact LeO.none _
      | refine LeO.ite ?_ ?_
      | refine LeO.bind ?_ (fun _ => ?_)
theorem isa_Encode.mono : ∀ a0 a1 a2 a3 a4 k, LeO (isa_Encode.f k a0 a1 a2 a3 a4) (isa_Encode.f (k + 1) a0 a1 a2 a3 a4) := by
  intro a0 a1 a2 a3 a4 k
  have ih0 := isa_Encode.mono_l k
  unfold isa_Encode.f
  repeat' first
      | (with_reducible exact ih0 _ _ _ _ _ _ _ _ _)
      | (with_reducible exact LeO.refl _)
      | (with_reducible exact LeO.none _)
      | (with_reducible refine LeO.ite ?_ ?_)
      | (with_reducible refine LeO.bind ?_ (fun _ => ?_))
      | exact ih0 _ _ _ _ _ _ _ _ _
      | exact LeO.none _
      | refine LeO.ite ?_ ?_
      | refine LeO.bind ?_ (fun _ => ?_)
set_option maxHeartbeats 8000000 in
set_option maxRecDepth 100000 in
theorem isa_Encode.calls (k : Nat) (a0_0 : Int) (a0_1 : Int) (a0_2 : Int) (a0_3 : Int) (a0_4 : Int) (r1 : Int) (r2 : Int) (w : World) (h : isa_Encode.f k a0_0 a0_1 a0_2 a0_3 a0_4 = some (r1, r2)) :
    Calls Tryd.prog 10 #[.agg #[.int .i64 a0_0, .int .i64 a0_1, .int .i64 a0_2, .int .i64 a0_3, .int .i64 a0_4]] w fun e w' => e = .returned (.tuple #[.int .i64 r1, .int .i64 r2]) ∧ Below w.heap.size w w' := by
  have hu23 := Tryd.underlying23
  have hu43 := Tryd.underlying43
  have HB := Aside0.mk (Below.refl w.heap.size w)
  have H : ((isa_of.f a0_0).bind fun bt103 => (if bt103.2.2.2 = true then ((isa_may.f a0_1 ((Go.bits .and .i64 bt103.2.1 1) != 0)).bind fun t108 => (if t108 = true then ((isa_may.f a0_2 ((Go.bits .and .i64 bt103.2.1 2) != 0)).bind fun t109 => (if t109 = true then ((isa_may.f a0_3 ((Go.bits .and .i64 bt103.2.1 4) != 0)).bind fun t110 => (isa_Encode.j0 k (!t110) a0_0 a0_1 a0_2 a0_3 a0_4 bt103.1 bt103.2.1 bt103.2.2.1)) else (isa_Encode.j0 k true a0_0 a0_1 a0_2 a0_3 a0_4 bt103.1 bt103.2.1 bt103.2.2.1))) else (isa_Encode.j0 k true a0_0 a0_1 a0_2 a0_3 a0_4 bt103.1 bt103.2.1 bt103.2.2.1))) else (isa_Encode.j0 k true a0_0 a0_1 a0_2 a0_3 a0_4 bt103.1 bt103.2.1 bt103.2.2.1))) = some (r1, r2) := h
  clear h
  replace H := Option.bind_eq_some_iff.mp H
  obtain ⟨⟨t103, t104, t105, t106⟩, A20, H⟩ := H
  replace H : (if t106 = true then ((isa_may.f a0_1 ((Go.bits .and .i64 t104 1) != 0)).bind fun t108 => (if t108 = true then ((isa_may.f a0_2 ((Go.bits .and .i64 t104 2) != 0)).bind fun t109 => (if t109 = true then ((isa_may.f a0_3 ((Go.bits .and .i64 t104 4) != 0)).bind fun t110 => (isa_Encode.j0 k (!t110) a0_0 a0_1 a0_2 a0_3 a0_4 t103 t104 t105)) else (isa_Encode.j0 k true a0_0 a0_1 a0_2 a0_3 a0_4 t103 t104 t105))) else (isa_Encode.j0 k true a0_0 a0_1 a0_2 a0_3 a0_4 t103 t104 t105))) else (isa_Encode.j0 k true a0_0 a0_1 a0_2 a0_3 a0_4 t103 t104 t105)) = some (r1, r2) := H
  have A2 := Aside0.mk A20
  clear A20
  have HC3 := Aside0.mk H
  clear H
  go_enter Tryd.func10, Tryd.ntmps10
  go_upto_region 2 with (first | ((with_reducible refine gate_dst (N := 1) rfl ?_); refine box_event ?hg (N := 1) ?hd (cs := #[.int .i64 a0_0, .int .i64 a0_1, .int .i64 a0_2, .int .i64 a0_3, .int .i64 a0_4]) (t := 23) ?hr ?_; (case hd => rfl); (case hg => rfl); (case hr => first | (go_simp; done) | (go_simp; rfl)); intro gb102 hg w4 hbox hb; have n0_ := Aside0.mk (below_step (by repeat (first | (with_reducible first | exact HB.out | apply below_alloc | apply pw_below_drewN | apply below_drew1) | exact HB.out)) hb); have n1_ := Aside0.mk (hbox); have n2_ := Aside0.mk ((by rw [hg]; exact (below_size (by repeat (first | (with_reducible first | exact HB.out | apply below_alloc | apply pw_below_drewN | apply below_drew1) | exact HB.out))) : w.heap.size ≤ gb102)); have n3_ := Aside0.mk ((by rw [hg]; exact (below_size (by repeat (first | (with_reducible first | exact HB.out | apply below_alloc | apply pw_below_drewN | apply below_drew1) | exact HB.out))) : w.heap.size ≤ gb102)); clear HB; have HB := n0_; have BK102 := n1_; have GW102 := n2_; have GE102 := n3_; clear n0_ n1_ n2_ n3_; clear hb hbox hg; have hcz5_0 : w4.cell? ⟨gb102, 0, none⟩ = some (.int .i64 a0_0) := (blk_cell BK102.out 0).trans rfl; have hcz5_1 : w4.cell? ⟨gb102, 1, none⟩ = some (.int .i64 a0_1) := (blk_cell BK102.out 1).trans rfl; have hcz5_2 : w4.cell? ⟨gb102, 2, none⟩ = some (.int .i64 a0_2) := (blk_cell BK102.out 2).trans rfl; have hcz5_3 : w4.cell? ⟨gb102, 3, none⟩ = some (.int .i64 a0_3) := (blk_cell BK102.out 3).trans rfl; have hcz5_4 : w4.cell? ⟨gb102, 4, none⟩ = some (.int .i64 a0_4) := (blk_cell BK102.out 4).trans rfl; have hfz5_0 := blk_frozen BK102.out 0; have hfz5_1 := blk_frozen BK102.out 1; have hfz5_2 := blk_frozen BK102.out 2; have hfz5_3 := blk_frozen BK102.out 3; have hfz5_4 := blk_frozen BK102.out 4) | ((with_reducible refine gate_callee (f := 20) rfl ?_); refine goesL_ (some 9) rfl rfl Tryd.func20 (by kernel_rfl) rfl #[.int .i64 a0_0] rfl (by (try simp only [List.map_toArray, List.map_cons, List.map_nil]); first | done | rfl | (simp only [List.length_drop, List.length_take]; rfl)) ?_; (with_reducible refine (isa_of.calls a0_0 t103 t104 t105 t106 _ A2.out).mono ?_); rintro e w6 ⟨rfl, hb⟩; refine ⟨_, rfl, ?_⟩; have n0_ := Aside0.mk (blk_below (g := gb102) (o := .cells #[.int .i64 a0_0, .int .i64 a0_1, .int .i64 a0_2, .int .i64 a0_3, .int .i64 a0_4] 23 (0, 0)) (by (with_reducible repeat (first | refine blk_drewN ?_ _ | refine blk_drew ?_ | refine blk_alloc ?_ _)); exact BK102.out) hb); have n1_ := Aside0.mk (below_step (by repeat (first | (with_reducible first | exact HB.out | apply below_alloc | apply pw_below_drewN | apply below_drew1 | refine below_set ?_ GE102.out) | exact HB.out)) hb); clear BK102; clear HB; have BK102 := n0_; have HB := n1_; clear n0_ n1_; (try clear hb); (try clear hb2); (try clear hk); (try clear hi)) | ((with_reducible refine gate_dst (N := 4) rfl ?_); refine box_event ?hg (N := 4) ?hd (cs := #[.string (⟨#[]⟩ : ByteArray), .int .i64 0, .bool false]) (t := 43) ?hr ?_; (case hd => rfl); (case hg => rfl); (case hr => first | (go_simp; done) | (go_simp; rfl)); intro gb107 hg w7 hbox hb; have n0_ := Aside0.mk (blk_below (g := gb102) (o := .cells #[.int .i64 a0_0, .int .i64 a0_1, .int .i64 a0_2, .int .i64 a0_3, .int .i64 a0_4] 23 (0, 0)) (by (with_reducible repeat (first | refine blk_drewN ?_ _ | refine blk_drew ?_ | refine blk_alloc ?_ _)); exact BK102.out) hb); have n1_ := Aside0.mk (below_step (by repeat (first | (with_reducible first | exact HB.out | apply below_alloc | apply pw_below_drewN | apply below_drew1 | refine below_set ?_ GE102.out) | exact HB.out)) hb); have n2_ := Aside0.mk (hbox); have n3_ := Aside0.mk ((by rw [hg]; exact (below_size (by repeat (first | (with_reducible first | exact HB.out | apply below_alloc | apply pw_below_drewN | apply below_drew1 | refine below_set ?_ GE102.out) | exact HB.out))) : w.heap.size ≤ gb107)); have n4_ := Aside0.mk ((by rw [hg]; exact (below_size (by repeat (first | (with_reducible first | exact HB.out | apply below_alloc | apply pw_below_drewN | apply below_drew1 | refine below_set ?_ GE102.out) | exact HB.out))) : w.heap.size ≤ gb107)); have n5_ := Aside0.mk ((by rw [hg]; exact Nat.ne_of_lt (blk_lt (g := gb102) (o := .cells #[.int .i64 a0_0, .int .i64 a0_1, .int .i64 a0_2, .int .i64 a0_3, .int .i64 a0_4] 23 (0, 0)) (by (with_reducible repeat (first | refine blk_drewN ?_ _ | refine blk_drew ?_ | refine blk_alloc ?_ _)); exact BK102.out)) : gb102 ≠ gb107)); have n6_ := Aside0.mk ((by rw [hg]; exact Nat.ne_of_gt (blk_lt (g := gb102) (o := .cells #[.int .i64 a0_0, .int .i64 a0_1, .int .i64 a0_2, .int .i64 a0_3, .int .i64 a0_4] 23 (0, 0)) (by (with_reducible repeat (first | refine blk_drewN ?_ _ | refine blk_drew ?_ | refine blk_alloc ?_ _)); exact BK102.out)) : gb107 ≠ gb102)); clear BK102; clear HB; have BK102 := n0_; have HB := n1_; have BK107 := n2_; have GW107 := n3_; have GE107 := n4_; have NB102_107 := n5_; have NB107_102 := n6_; clear n0_ n1_ n2_ n3_ n4_ n5_ n6_; clear hb hbox hg; have hnb8 := NB107_102.out; have hnc8 := NB102_107.out; have hcz9_0 : w7.cell? ⟨gb107, 0, none⟩ = some (.string (⟨#[]⟩ : ByteArray)) := (blk_cell BK107.out 0).trans rfl; have hcz9_1 : w7.cell? ⟨gb107, 1, none⟩ = some (.int .i64 0) := (blk_cell BK107.out 1).trans rfl; have hcz9_2 : w7.cell? ⟨gb107, 2, none⟩ = some (.bool false) := (blk_cell BK107.out 2).trans rfl; have hfz9_0 := blk_frozen BK107.out 0; have hfz9_1 := blk_frozen BK107.out 1; have hfz9_2 := blk_frozen BK107.out 2))
  (try simp only [Act.put, List.setIfInBounds_toArray, List.set_cons_zero, List.set_cons_succ])
  go_cut [43] (fun v43 wc => ∃ (kq : Nat) (x43_2 : Bool), v43 = .bool x43_2 ∧ Aside0 (isa_Encode.j0 kq x43_2 a0_0 a0_1 a0_2 a0_3 a0_4 t103 t104 t105 = some (r1, r2)) ∧ Aside0 (kq ≤ k) ∧ Aside0 (wc.heap[gb102]? = some (.cells #[.int .i64 a0_0, .int .i64 a0_1, .int .i64 a0_2, .int .i64 a0_3, .int .i64 a0_4] 23 (0, 0))) ∧ Aside0 (wc.heap[gb107]? = some (.cells #[.string t103, .int .i64 t104, .bool t105] 43 (0, 0))) ∧ Aside0 (Below w.heap.size w wc))
  case first =>
    have H := HC3.out
    clear HC3
    by_cases c10 : t106 = true
    · subst c10
      have H1 : ((isa_may.f a0_1 ((Go.bits .and .i64 t104 1) != 0)).bind fun t108 => (if t108 = true then ((isa_may.f a0_2 ((Go.bits .and .i64 t104 2) != 0)).bind fun t109 => (if t109 = true then ((isa_may.f a0_3 ((Go.bits .and .i64 t104 4) != 0)).bind fun t110 => (isa_Encode.j0 k (!t110) a0_0 a0_1 a0_2 a0_3 a0_4 t103 t104 t105)) else (isa_Encode.j0 k true a0_0 a0_1 a0_2 a0_3 a0_4 t103 t104 t105))) else (isa_Encode.j0 k true a0_0 a0_1 a0_2 a0_3 a0_4 t103 t104 t105))) = some (r1, r2) := by rw [if_pos rfl] at H; exact H
      clear H
      have H := H1
      clear H1
      replace H := Option.bind_eq_some_iff.mp H
      obtain ⟨t108, A110, H⟩ := H
      replace H : (if t108 = true then ((isa_may.f a0_2 ((Go.bits .and .i64 t104 2) != 0)).bind fun t109 => (if t109 = true then ((isa_may.f a0_3 ((Go.bits .and .i64 t104 4) != 0)).bind fun t110 => (isa_Encode.j0 k (!t110) a0_0 a0_1 a0_2 a0_3 a0_4 t103 t104 t105)) else (isa_Encode.j0 k true a0_0 a0_1 a0_2 a0_3 a0_4 t103 t104 t105))) else (isa_Encode.j0 k true a0_0 a0_1 a0_2 a0_3 a0_4 t103 t104 t105)) = some (r1, r2) := H
      have A11 := Aside0.mk A110
      clear A110
      by_cases c12 : t108 = true
      · subst c12
        have H1 : ((isa_may.f a0_2 ((Go.bits .and .i64 t104 2) != 0)).bind fun t109 => (if t109 = true then ((isa_may.f a0_3 ((Go.bits .and .i64 t104 4) != 0)).bind fun t110 => (isa_Encode.j0 k (!t110) a0_0 a0_1 a0_2 a0_3 a0_4 t103 t104 t105)) else (isa_Encode.j0 k true a0_0 a0_1 a0_2 a0_3 a0_4 t103 t104 t105))) = some (r1, r2) := by rw [if_pos rfl] at H; exact H
        clear H
        have H := H1
        clear H1
        replace H := Option.bind_eq_some_iff.mp H
        obtain ⟨t109, A130, H⟩ := H
        replace H : (if t109 = true then ((isa_may.f a0_3 ((Go.bits .and .i64 t104 4) != 0)).bind fun t110 => (isa_Encode.j0 k (!t110) a0_0 a0_1 a0_2 a0_3 a0_4 t103 t104 t105)) else (isa_Encode.j0 k true a0_0 a0_1 a0_2 a0_3 a0_4 t103 t104 t105)) = some (r1, r2) := H
        have A13 := Aside0.mk A130
        clear A130
        by_cases c14 : t109 = true
        · subst c14
          have H1 : ((isa_may.f a0_3 ((Go.bits .and .i64 t104 4) != 0)).bind fun t110 => (isa_Encode.j0 k (!t110) a0_0 a0_1 a0_2 a0_3 a0_4 t103 t104 t105)) = some (r1, r2) := by rw [if_pos rfl] at H; exact H
          clear H
          have H := H1
          clear H1
          replace H := Option.bind_eq_some_iff.mp H
          obtain ⟨t110, A150, H⟩ := H
          replace H : (isa_Encode.j0 k (!t110) a0_0 a0_1 a0_2 a0_3 a0_4 t103 t104 t105) = some (r1, r2) := H
          have A15 := Aside0.mk A150
          clear A150
          have H' := Aside0.mk H
          clear H
          have hnb16 := NB102_107.out
          have hnc16 := NB107_102.out
          have hcz17_0 : w7.cell? ⟨gb102, 0, none⟩ = some (.int .i64 a0_0) := (blk_cell BK102.out 0).trans rfl
          have hcz17_1 : w7.cell? ⟨gb102, 1, none⟩ = some (.int .i64 a0_1) := (blk_cell BK102.out 1).trans rfl
          have hcz17_2 : w7.cell? ⟨gb102, 2, none⟩ = some (.int .i64 a0_2) := (blk_cell BK102.out 2).trans rfl
          have hcz17_3 : w7.cell? ⟨gb102, 3, none⟩ = some (.int .i64 a0_3) := (blk_cell BK102.out 3).trans rfl
          have hcz17_4 : w7.cell? ⟨gb102, 4, none⟩ = some (.int .i64 a0_4) := (blk_cell BK102.out 4).trans rfl
          have hfz17_0 := blk_frozen BK102.out 0
          have hfz17_1 := blk_frozen BK102.out 1
          have hfz17_2 := blk_frozen BK102.out 2
          have hfz17_3 := blk_frozen BK102.out 3
          have hfz17_4 := blk_frozen BK102.out 4
          have hcz18_0 : w7.cell? ⟨gb107, 0, none⟩ = some (.string (⟨#[]⟩ : ByteArray)) := (blk_cell BK107.out 0).trans rfl
          have hcz18_1 : w7.cell? ⟨gb107, 1, none⟩ = some (.int .i64 0) := (blk_cell BK107.out 1).trans rfl
          have hcz18_2 : w7.cell? ⟨gb107, 2, none⟩ = some (.bool false) := (blk_cell BK107.out 2).trans rfl
          have hfz18_0 := blk_frozen BK107.out 0
          have hfz18_1 := blk_frozen BK107.out 1
          have hfz18_2 := blk_frozen BK107.out 2
          go_wp2_with (first | (go_at_call 21; (with_reducible refine (isa_may.calls a0_1 ((Go.bits .and .i64 t104 1) != 0) true _ A11.out).mono ?_); rintro e w' ⟨rfl, ⟨nd, rfl⟩⟩) | (go_at_call 21; (with_reducible refine (isa_may.calls a0_2 ((Go.bits .and .i64 t104 2) != 0) true _ A13.out).mono ?_); rintro e w' ⟨rfl, ⟨nd, rfl⟩⟩) | (go_at_call 21; (with_reducible refine (isa_may.calls a0_3 ((Go.bits .and .i64 t104 4) != 0) t110 _ A15.out).mono ?_); rintro e w' ⟨rfl, ⟨nd, rfl⟩⟩))
          go_meet
          case rel => exact ⟨_, (!t110), (by first | rfl | (simp; done) | (simp [*]; done)), H', ⟨by first | omega | exact Nat.le_refl _⟩, ⟨by (with_reducible repeat (first | refine blk_drewN ?_ _ | refine blk_drew ?_ | refine blk_alloc ?_ _)); refine blk_far ?_ NB102_107.out _; (with_reducible repeat (first | refine blk_drewN ?_ _ | refine blk_drew ?_ | refine blk_alloc ?_ _)); refine blk_far ?_ NB102_107.out _; (with_reducible repeat (first | refine blk_drewN ?_ _ | refine blk_drew ?_ | refine blk_alloc ?_ _)); refine blk_far ?_ NB102_107.out _; (with_reducible repeat (first | refine blk_drewN ?_ _ | refine blk_drew ?_ | refine blk_alloc ?_ _)); exact BK102.out⟩, ⟨by (with_reducible repeat (first | refine blk_drewN ?_ _ | refine blk_drew ?_ | refine blk_alloc ?_ _)); refine blk_put (cs := #[.string t103, .int .i64 t104, .bool false]) ?_ 2 _ rfl; (with_reducible repeat (first | refine blk_drewN ?_ _ | refine blk_drew ?_ | refine blk_alloc ?_ _)); refine blk_put (cs := #[.string t103, .int .i64 0, .bool false]) ?_ 1 _ rfl; (with_reducible repeat (first | refine blk_drewN ?_ _ | refine blk_drew ?_ | refine blk_alloc ?_ _)); refine blk_put (cs := #[.string (⟨#[]⟩ : ByteArray), .int .i64 0, .bool false]) ?_ 0 _ rfl; (with_reducible repeat (first | refine blk_drewN ?_ _ | refine blk_drew ?_ | refine blk_alloc ?_ _)); exact BK107.out⟩, ⟨by repeat (first | (with_reducible first | exact HB.out | apply below_alloc | apply pw_below_drewN | apply below_drew1 | refine below_set ?_ GE102.out | refine below_set ?_ GE107.out) | exact HB.out)⟩⟩
        · replace c14 := Bool.eq_false_iff.mpr c14
          subst c14
          have H1 : (isa_Encode.j0 k true a0_0 a0_1 a0_2 a0_3 a0_4 t103 t104 t105) = some (r1, r2) := by rw [if_neg (show ¬ (false = true) by decide)] at H; exact H
          clear H
          have H := H1
          clear H1
          have H' := Aside0.mk H
          clear H
          have hnb19 := NB102_107.out
          have hnc19 := NB107_102.out
          have hcz20_0 : w7.cell? ⟨gb102, 0, none⟩ = some (.int .i64 a0_0) := (blk_cell BK102.out 0).trans rfl
          have hcz20_1 : w7.cell? ⟨gb102, 1, none⟩ = some (.int .i64 a0_1) := (blk_cell BK102.out 1).trans rfl
          have hcz20_2 : w7.cell? ⟨gb102, 2, none⟩ = some (.int .i64 a0_2) := (blk_cell BK102.out 2).trans rfl
          have hcz20_3 : w7.cell? ⟨gb102, 3, none⟩ = some (.int .i64 a0_3) := (blk_cell BK102.out 3).trans rfl
          have hcz20_4 : w7.cell? ⟨gb102, 4, none⟩ = some (.int .i64 a0_4) := (blk_cell BK102.out 4).trans rfl
          have hfz20_0 := blk_frozen BK102.out 0
          have hfz20_1 := blk_frozen BK102.out 1
          have hfz20_2 := blk_frozen BK102.out 2
          have hfz20_3 := blk_frozen BK102.out 3
          have hfz20_4 := blk_frozen BK102.out 4
          have hcz21_0 : w7.cell? ⟨gb107, 0, none⟩ = some (.string (⟨#[]⟩ : ByteArray)) := (blk_cell BK107.out 0).trans rfl
          have hcz21_1 : w7.cell? ⟨gb107, 1, none⟩ = some (.int .i64 0) := (blk_cell BK107.out 1).trans rfl
          have hcz21_2 : w7.cell? ⟨gb107, 2, none⟩ = some (.bool false) := (blk_cell BK107.out 2).trans rfl
          have hfz21_0 := blk_frozen BK107.out 0
          have hfz21_1 := blk_frozen BK107.out 1
          have hfz21_2 := blk_frozen BK107.out 2
          go_wp2_with (first | (go_at_call 21; (with_reducible refine (isa_may.calls a0_1 ((Go.bits .and .i64 t104 1) != 0) true _ A11.out).mono ?_); rintro e w' ⟨rfl, ⟨nd, rfl⟩⟩) | (go_at_call 21; (with_reducible refine (isa_may.calls a0_2 ((Go.bits .and .i64 t104 2) != 0) false _ A13.out).mono ?_); rintro e w' ⟨rfl, ⟨nd, rfl⟩⟩))
          go_meet
          case rel => exact ⟨_, (true), (by first | rfl | (simp; done) | (simp [*]; done)), H', ⟨by first | omega | exact Nat.le_refl _⟩, ⟨by (with_reducible repeat (first | refine blk_drewN ?_ _ | refine blk_drew ?_ | refine blk_alloc ?_ _)); refine blk_far ?_ NB102_107.out _; (with_reducible repeat (first | refine blk_drewN ?_ _ | refine blk_drew ?_ | refine blk_alloc ?_ _)); refine blk_far ?_ NB102_107.out _; (with_reducible repeat (first | refine blk_drewN ?_ _ | refine blk_drew ?_ | refine blk_alloc ?_ _)); refine blk_far ?_ NB102_107.out _; (with_reducible repeat (first | refine blk_drewN ?_ _ | refine blk_drew ?_ | refine blk_alloc ?_ _)); exact BK102.out⟩, ⟨by (with_reducible repeat (first | refine blk_drewN ?_ _ | refine blk_drew ?_ | refine blk_alloc ?_ _)); refine blk_put (cs := #[.string t103, .int .i64 t104, .bool false]) ?_ 2 _ rfl; (with_reducible repeat (first | refine blk_drewN ?_ _ | refine blk_drew ?_ | refine blk_alloc ?_ _)); refine blk_put (cs := #[.string t103, .int .i64 0, .bool false]) ?_ 1 _ rfl; (with_reducible repeat (first | refine blk_drewN ?_ _ | refine blk_drew ?_ | refine blk_alloc ?_ _)); refine blk_put (cs := #[.string (⟨#[]⟩ : ByteArray), .int .i64 0, .bool false]) ?_ 0 _ rfl; (with_reducible repeat (first | refine blk_drewN ?_ _ | refine blk_drew ?_ | refine blk_alloc ?_ _)); exact BK107.out⟩, ⟨by repeat (first | (with_reducible first | exact HB.out | apply below_alloc | apply pw_below_drewN | apply below_drew1 | refine below_set ?_ GE102.out | refine below_set ?_ GE107.out) | exact HB.out)⟩⟩
      · replace c12 := Bool.eq_false_iff.mpr c12
        subst c12
        have H1 : (isa_Encode.j0 k true a0_0 a0_1 a0_2 a0_3 a0_4 t103 t104 t105) = some (r1, r2) := by rw [if_neg (show ¬ (false = true) by decide)] at H; exact H
        clear H
        have H := H1
        clear H1
        have H' := Aside0.mk H
        clear H
        have hnb22 := NB102_107.out
        have hnc22 := NB107_102.out
        have hcz23_0 : w7.cell? ⟨gb102, 0, none⟩ = some (.int .i64 a0_0) := (blk_cell BK102.out 0).trans rfl
        have hcz23_1 : w7.cell? ⟨gb102, 1, none⟩ = some (.int .i64 a0_1) := (blk_cell BK102.out 1).trans rfl
        have hcz23_2 : w7.cell? ⟨gb102, 2, none⟩ = some (.int .i64 a0_2) := (blk_cell BK102.out 2).trans rfl
        have hcz23_3 : w7.cell? ⟨gb102, 3, none⟩ = some (.int .i64 a0_3) := (blk_cell BK102.out 3).trans rfl
        have hcz23_4 : w7.cell? ⟨gb102, 4, none⟩ = some (.int .i64 a0_4) := (blk_cell BK102.out 4).trans rfl
        have hfz23_0 := blk_frozen BK102.out 0
        have hfz23_1 := blk_frozen BK102.out 1
        have hfz23_2 := blk_frozen BK102.out 2
        have hfz23_3 := blk_frozen BK102.out 3
        have hfz23_4 := blk_frozen BK102.out 4
        have hcz24_0 : w7.cell? ⟨gb107, 0, none⟩ = some (.string (⟨#[]⟩ : ByteArray)) := (blk_cell BK107.out 0).trans rfl
        have hcz24_1 : w7.cell? ⟨gb107, 1, none⟩ = some (.int .i64 0) := (blk_cell BK107.out 1).trans rfl
        have hcz24_2 : w7.cell? ⟨gb107, 2, none⟩ = some (.bool false) := (blk_cell BK107.out 2).trans rfl
        have hfz24_0 := blk_frozen BK107.out 0
        have hfz24_1 := blk_frozen BK107.out 1
        have hfz24_2 := blk_frozen BK107.out 2
        go_wp2_with (first | (go_at_call 21; (with_reducible refine (isa_may.calls a0_1 ((Go.bits .and .i64 t104 1) != 0) false _ A11.out).mono ?_); rintro e w' ⟨rfl, ⟨nd, rfl⟩⟩))
        go_meet
        case rel => exact ⟨_, (true), (by first | rfl | (simp; done) | (simp [*]; done)), H', ⟨by first | omega | exact Nat.le_refl _⟩, ⟨by (with_reducible repeat (first | refine blk_drewN ?_ _ | refine blk_drew ?_ | refine blk_alloc ?_ _)); refine blk_far ?_ NB102_107.out _; (with_reducible repeat (first | refine blk_drewN ?_ _ | refine blk_drew ?_ | refine blk_alloc ?_ _)); refine blk_far ?_ NB102_107.out _; (with_reducible repeat (first | refine blk_drewN ?_ _ | refine blk_drew ?_ | refine blk_alloc ?_ _)); refine blk_far ?_ NB102_107.out _; (with_reducible repeat (first | refine blk_drewN ?_ _ | refine blk_drew ?_ | refine blk_alloc ?_ _)); exact BK102.out⟩, ⟨by (with_reducible repeat (first | refine blk_drewN ?_ _ | refine blk_drew ?_ | refine blk_alloc ?_ _)); refine blk_put (cs := #[.string t103, .int .i64 t104, .bool false]) ?_ 2 _ rfl; (with_reducible repeat (first | refine blk_drewN ?_ _ | refine blk_drew ?_ | refine blk_alloc ?_ _)); refine blk_put (cs := #[.string t103, .int .i64 0, .bool false]) ?_ 1 _ rfl; (with_reducible repeat (first | refine blk_drewN ?_ _ | refine blk_drew ?_ | refine blk_alloc ?_ _)); refine blk_put (cs := #[.string (⟨#[]⟩ : ByteArray), .int .i64 0, .bool false]) ?_ 0 _ rfl; (with_reducible repeat (first | refine blk_drewN ?_ _ | refine blk_drew ?_ | refine blk_alloc ?_ _)); exact BK107.out⟩, ⟨by repeat (first | (with_reducible first | exact HB.out | apply below_alloc | apply pw_below_drewN | apply below_drew1 | refine below_set ?_ GE102.out | refine below_set ?_ GE107.out) | exact HB.out)⟩⟩
    · replace c10 := Bool.eq_false_iff.mpr c10
      subst c10
      have H1 : (isa_Encode.j0 k true a0_0 a0_1 a0_2 a0_3 a0_4 t103 t104 t105) = some (r1, r2) := by rw [if_neg (show ¬ (false = true) by decide)] at H; exact H
      clear H
      have H := H1
      clear H1
      have H' := Aside0.mk H
      clear H
      go_wp2
      go_meet
      case rel => exact ⟨_, (true), (by first | rfl | (simp; done) | (simp [*]; done)), H', ⟨by first | omega | exact Nat.le_refl _⟩, ⟨by (with_reducible repeat (first | refine blk_drewN ?_ _ | refine blk_drew ?_ | refine blk_alloc ?_ _)); refine blk_far ?_ NB102_107.out _; (with_reducible repeat (first | refine blk_drewN ?_ _ | refine blk_drew ?_ | refine blk_alloc ?_ _)); refine blk_far ?_ NB102_107.out _; (with_reducible repeat (first | refine blk_drewN ?_ _ | refine blk_drew ?_ | refine blk_alloc ?_ _)); refine blk_far ?_ NB102_107.out _; (with_reducible repeat (first | refine blk_drewN ?_ _ | refine blk_drew ?_ | refine blk_alloc ?_ _)); exact BK102.out⟩, ⟨by (with_reducible repeat (first | refine blk_drewN ?_ _ | refine blk_drew ?_ | refine blk_alloc ?_ _)); refine blk_put (cs := #[.string t103, .int .i64 t104, .bool false]) ?_ 2 _ rfl; (with_reducible repeat (first | refine blk_drewN ?_ _ | refine blk_drew ?_ | refine blk_alloc ?_ _)); refine blk_put (cs := #[.string t103, .int .i64 0, .bool false]) ?_ 1 _ rfl; (with_reducible repeat (first | refine blk_drewN ?_ _ | refine blk_drew ?_ | refine blk_alloc ?_ _)); refine blk_put (cs := #[.string (⟨#[]⟩ : ByteArray), .int .i64 0, .bool false]) ?_ 0 _ rfl; (with_reducible repeat (first | refine blk_drewN ?_ _ | refine blk_drew ?_ | refine blk_alloc ?_ _)); exact BK107.out⟩, ⟨by repeat (first | (with_reducible first | exact HB.out | apply below_alloc | apply pw_below_drewN | apply below_drew1 | refine below_set ?_ GE102.out | refine below_set ?_ GE107.out) | exact HB.out)⟩⟩
  case rest =>
    clear HC3
    try clear c1
    try clear c2
    try clear p2
    try clear c8
    try clear c10
    try clear c12
    try clear c14
    try clear c16
    try clear c19
    try clear c20
    try clear c22
    try clear hcz17_0
    try clear hcz17_1
    try clear hcz17_2
    try clear hcz17_3
    try clear hcz17_4
    try clear hcz18_0
    try clear hcz18_1
    try clear hcz18_2
    try clear hcz20_0
    try clear hcz20_1
    try clear hcz20_2
    try clear hcz20_3
    try clear hcz20_4
    try clear hcz21_0
    try clear hcz21_1
    try clear hcz21_2
    try clear hcz23_0
    try clear hcz23_1
    try clear hcz23_2
    try clear hcz23_3
    try clear hcz23_4
    try clear hcz24_0
    try clear hcz24_1
    try clear hcz24_2
    try clear hcz5_0
    try clear hcz5_1
    try clear hcz5_2
    try clear hcz5_3
    try clear hcz5_4
    try clear hcz9_0
    try clear hcz9_1
    try clear hcz9_2
    try clear hfz17_0
    try clear hfz17_1
    try clear hfz17_2
    try clear hfz17_3
    try clear hfz17_4
    try clear hfz18_0
    try clear hfz18_1
    try clear hfz18_2
    try clear hfz20_0
    try clear hfz20_1
    try clear hfz20_2
    try clear hfz20_3
    try clear hfz20_4
    try clear hfz21_0
    try clear hfz21_1
    try clear hfz21_2
    try clear hfz23_0
    try clear hfz23_1
    try clear hfz23_2
    try clear hfz23_3
    try clear hfz23_4
    try clear hfz24_0
    try clear hfz24_1
    try clear hfz24_2
    try clear hfz5_0
    try clear hfz5_1
    try clear hfz5_2
    try clear hfz5_3
    try clear hfz5_4
    try clear hfz9_0
    try clear hfz9_1
    try clear hfz9_2
    obtain ⟨kq, x43_2, rfl, HA, HJ2, BK102, BK107, HB⟩ := hcut
    cases kq with
    | zero => exact absurd HA.out (by simp [isa_Encode.j0])
    | succ kj2 =>
      have H := HA.out
      clear HA
      simp only [isa_Encode.j0] at H
      by_cases c25 : x43_2 = true
      · subst c25
        have H1 : (some (0, 4)) = some (r1, r2) := by rw [if_pos rfl] at H; exact H
        clear H
        have H := H1
        clear H1
        simp only [Option.some.injEq, Prod.mk.injEq] at H
        obtain ⟨rfl, rfl⟩ := H
        go_wp2
        go_ret2
        exact ⟨by first | rfl | (simp [errW_none, errW_some] <;> rfl) | (simp [*, errW_none, errW_some] <;> rfl), by repeat (first | (with_reducible first | exact HB.out | apply below_alloc | apply pw_below_drewN | apply below_drew1 | refine below_set ?_ GE102.out | refine below_set ?_ GE107.out) | exact HB.out)⟩
      · replace c25 := Bool.eq_false_iff.mpr c25
        subst c25
        have H1 : (if t105 = true then (if a0_4 < (-2147483648) then (some (0, 4)) else (if a0_4 > 2147483647 then (some (0, 4)) else (some (Go.bits .or .i64 (Go.bits .or .i64 (Go.bits .or .i64 (Go.bits .or .i64 (wrap64 (a0_0 * 72057594037927936)) (wrap64 (a0_1 * 4503599627370496))) (wrap64 (a0_2 * 281474976710656))) (wrap64 (a0_3 * 17592186044416))) ((a0_4) % 4294967296), 0)))) else (if a0_4 = 0 then (if a0_4 < (-2147483648) then (some (0, 4)) else (if a0_4 > 2147483647 then (some (0, 4)) else (some (Go.bits .or .i64 (Go.bits .or .i64 (Go.bits .or .i64 (Go.bits .or .i64 (wrap64 (a0_0 * 72057594037927936)) (wrap64 (a0_1 * 4503599627370496))) (wrap64 (a0_2 * 281474976710656))) (wrap64 (a0_3 * 17592186044416))) ((a0_4) % 4294967296), 0)))) else (some (0, 4)))) = some (r1, r2) := by rw [if_neg (show ¬ (false = true) by decide)] at H; exact H
        clear H
        have H := H1
        clear H1
        by_cases c26 : t105 = true
        · subst c26
          have H1 : (if a0_4 < (-2147483648) then (some (0, 4)) else (if a0_4 > 2147483647 then (some (0, 4)) else (some (Go.bits .or .i64 (Go.bits .or .i64 (Go.bits .or .i64 (Go.bits .or .i64 (wrap64 (a0_0 * 72057594037927936)) (wrap64 (a0_1 * 4503599627370496))) (wrap64 (a0_2 * 281474976710656))) (wrap64 (a0_3 * 17592186044416))) ((a0_4) % 4294967296), 0)))) = some (r1, r2) := by rw [if_pos rfl] at H; exact H
          clear H
          have H := H1
          clear H1
          by_cases c27 : a0_4 < (-2147483648)
          · rw [if_pos c27] at H
            have c27b0 : decide (a0_4 < (-2147483648)) = true := decide_eq_true c27
            clear c27
            simp only [Option.some.injEq, Prod.mk.injEq] at H
            obtain ⟨rfl, rfl⟩ := H
            have hnb28 := NB107_102.out
            have hnc28 := NB102_107.out
            have hcz29_0 : wc.cell? ⟨gb107, 0, none⟩ = some (.string t103) := (blk_cell BK107.out 0).trans rfl
            have hcz29_1 : wc.cell? ⟨gb107, 1, none⟩ = some (.int .i64 t104) := (blk_cell BK107.out 1).trans rfl
            have hcz29_2 : wc.cell? ⟨gb107, 2, none⟩ = some (.bool true) := (blk_cell BK107.out 2).trans rfl
            have hfz29_0 := blk_frozen BK107.out 0
            have hfz29_1 := blk_frozen BK107.out 1
            have hfz29_2 := blk_frozen BK107.out 2
            have hcz30_0 : wc.cell? ⟨gb102, 0, none⟩ = some (.int .i64 a0_0) := (blk_cell BK102.out 0).trans rfl
            have hcz30_1 : wc.cell? ⟨gb102, 1, none⟩ = some (.int .i64 a0_1) := (blk_cell BK102.out 1).trans rfl
            have hcz30_2 : wc.cell? ⟨gb102, 2, none⟩ = some (.int .i64 a0_2) := (blk_cell BK102.out 2).trans rfl
            have hcz30_3 : wc.cell? ⟨gb102, 3, none⟩ = some (.int .i64 a0_3) := (blk_cell BK102.out 3).trans rfl
            have hcz30_4 : wc.cell? ⟨gb102, 4, none⟩ = some (.int .i64 a0_4) := (blk_cell BK102.out 4).trans rfl
            have hfz30_0 := blk_frozen BK102.out 0
            have hfz30_1 := blk_frozen BK102.out 1
            have hfz30_2 := blk_frozen BK102.out 2
            have hfz30_3 := blk_frozen BK102.out 3
            have hfz30_4 := blk_frozen BK102.out 4
            go_wp2
            go_ret2
            exact ⟨by first | rfl | (simp [errW_none, errW_some] <;> rfl) | (simp [*, errW_none, errW_some] <;> rfl), by repeat (first | (with_reducible first | exact HB.out | apply below_alloc | apply pw_below_drewN | apply below_drew1 | refine below_set ?_ GE102.out | refine below_set ?_ GE107.out) | exact HB.out)⟩
          · rw [if_neg c27] at H
            have c27b0 : decide (a0_4 < (-2147483648)) = false := decide_eq_false c27
            clear c27
            by_cases c31 : a0_4 > 2147483647
            · rw [if_pos c31] at H
              have c31b0 : decide (2147483647 < a0_4) = true := decide_eq_true c31
              clear c31
              simp only [Option.some.injEq, Prod.mk.injEq] at H
              obtain ⟨rfl, rfl⟩ := H
              have hnb32 := NB107_102.out
              have hnc32 := NB102_107.out
              have hcz33_0 : wc.cell? ⟨gb107, 0, none⟩ = some (.string t103) := (blk_cell BK107.out 0).trans rfl
              have hcz33_1 : wc.cell? ⟨gb107, 1, none⟩ = some (.int .i64 t104) := (blk_cell BK107.out 1).trans rfl
              have hcz33_2 : wc.cell? ⟨gb107, 2, none⟩ = some (.bool true) := (blk_cell BK107.out 2).trans rfl
              have hfz33_0 := blk_frozen BK107.out 0
              have hfz33_1 := blk_frozen BK107.out 1
              have hfz33_2 := blk_frozen BK107.out 2
              have hcz34_0 : wc.cell? ⟨gb102, 0, none⟩ = some (.int .i64 a0_0) := (blk_cell BK102.out 0).trans rfl
              have hcz34_1 : wc.cell? ⟨gb102, 1, none⟩ = some (.int .i64 a0_1) := (blk_cell BK102.out 1).trans rfl
              have hcz34_2 : wc.cell? ⟨gb102, 2, none⟩ = some (.int .i64 a0_2) := (blk_cell BK102.out 2).trans rfl
              have hcz34_3 : wc.cell? ⟨gb102, 3, none⟩ = some (.int .i64 a0_3) := (blk_cell BK102.out 3).trans rfl
              have hcz34_4 : wc.cell? ⟨gb102, 4, none⟩ = some (.int .i64 a0_4) := (blk_cell BK102.out 4).trans rfl
              have hfz34_0 := blk_frozen BK102.out 0
              have hfz34_1 := blk_frozen BK102.out 1
              have hfz34_2 := blk_frozen BK102.out 2
              have hfz34_3 := blk_frozen BK102.out 3
              have hfz34_4 := blk_frozen BK102.out 4
              go_wp2
              go_ret2
              exact ⟨by first | rfl | (simp [errW_none, errW_some] <;> rfl) | (simp [*, errW_none, errW_some] <;> rfl), by repeat (first | (with_reducible first | exact HB.out | apply below_alloc | apply pw_below_drewN | apply below_drew1 | refine below_set ?_ GE102.out | refine below_set ?_ GE107.out) | exact HB.out)⟩
            · rw [if_neg c31] at H
              have c31b0 : decide (2147483647 < a0_4) = false := decide_eq_false c31
              clear c31
              simp only [Option.some.injEq, Prod.mk.injEq] at H
              obtain ⟨rfl, rfl⟩ := H
              have hnb35 := NB107_102.out
              have hnc35 := NB102_107.out
              have hcz36_0 : wc.cell? ⟨gb107, 0, none⟩ = some (.string t103) := (blk_cell BK107.out 0).trans rfl
              have hcz36_1 : wc.cell? ⟨gb107, 1, none⟩ = some (.int .i64 t104) := (blk_cell BK107.out 1).trans rfl
              have hcz36_2 : wc.cell? ⟨gb107, 2, none⟩ = some (.bool true) := (blk_cell BK107.out 2).trans rfl
              have hfz36_0 := blk_frozen BK107.out 0
              have hfz36_1 := blk_frozen BK107.out 1
              have hfz36_2 := blk_frozen BK107.out 2
              have hcz37_0 : wc.cell? ⟨gb102, 0, none⟩ = some (.int .i64 a0_0) := (blk_cell BK102.out 0).trans rfl
              have hcz37_1 : wc.cell? ⟨gb102, 1, none⟩ = some (.int .i64 a0_1) := (blk_cell BK102.out 1).trans rfl
              have hcz37_2 : wc.cell? ⟨gb102, 2, none⟩ = some (.int .i64 a0_2) := (blk_cell BK102.out 2).trans rfl
              have hcz37_3 : wc.cell? ⟨gb102, 3, none⟩ = some (.int .i64 a0_3) := (blk_cell BK102.out 3).trans rfl
              have hcz37_4 : wc.cell? ⟨gb102, 4, none⟩ = some (.int .i64 a0_4) := (blk_cell BK102.out 4).trans rfl
              have hfz37_0 := blk_frozen BK102.out 0
              have hfz37_1 := blk_frozen BK102.out 1
              have hfz37_2 := blk_frozen BK102.out 2
              have hfz37_3 := blk_frozen BK102.out 3
              have hfz37_4 := blk_frozen BK102.out 4
              go_wp2
              go_ret2
              exact ⟨by first | rfl | (simp [errW_none, errW_some] <;> rfl) | (simp [*, errW_none, errW_some] <;> rfl), by repeat (first | (with_reducible first | exact HB.out | apply below_alloc | apply pw_below_drewN | apply below_drew1 | refine below_set ?_ GE102.out | refine below_set ?_ GE107.out) | exact HB.out)⟩
        · replace c26 := Bool.eq_false_iff.mpr c26
          subst c26
          have H1 : (if a0_4 = 0 then (if a0_4 < (-2147483648) then (some (0, 4)) else (if a0_4 > 2147483647 then (some (0, 4)) else (some (Go.bits .or .i64 (Go.bits .or .i64 (Go.bits .or .i64 (Go.bits .or .i64 (wrap64 (a0_0 * 72057594037927936)) (wrap64 (a0_1 * 4503599627370496))) (wrap64 (a0_2 * 281474976710656))) (wrap64 (a0_3 * 17592186044416))) ((a0_4) % 4294967296), 0)))) else (some (0, 4))) = some (r1, r2) := by rw [if_neg (show ¬ (false = true) by decide)] at H; exact H
          clear H
          have H := H1
          clear H1
          by_cases c38 : a0_4 = 0
          · rw [if_pos c38] at H
            have c38b0 : (a0_4 == 0) = true := beq_iff_eq.mpr c38
            have c38b1 : (a0_4 != 0) = false := bne_eq_false_iff_eq.mpr c38
            clear c38
            by_cases c39 : a0_4 < (-2147483648)
            · rw [if_pos c39] at H
              have c39b0 : decide (a0_4 < (-2147483648)) = true := decide_eq_true c39
              clear c39
              simp only [Option.some.injEq, Prod.mk.injEq] at H
              obtain ⟨rfl, rfl⟩ := H
              have hnb40 := NB107_102.out
              have hnc40 := NB102_107.out
              have hcz41_0 : wc.cell? ⟨gb107, 0, none⟩ = some (.string t103) := (blk_cell BK107.out 0).trans rfl
              have hcz41_1 : wc.cell? ⟨gb107, 1, none⟩ = some (.int .i64 t104) := (blk_cell BK107.out 1).trans rfl
              have hcz41_2 : wc.cell? ⟨gb107, 2, none⟩ = some (.bool false) := (blk_cell BK107.out 2).trans rfl
              have hfz41_0 := blk_frozen BK107.out 0
              have hfz41_1 := blk_frozen BK107.out 1
              have hfz41_2 := blk_frozen BK107.out 2
              have hcz42_0 : wc.cell? ⟨gb102, 0, none⟩ = some (.int .i64 a0_0) := (blk_cell BK102.out 0).trans rfl
              have hcz42_1 : wc.cell? ⟨gb102, 1, none⟩ = some (.int .i64 a0_1) := (blk_cell BK102.out 1).trans rfl
              have hcz42_2 : wc.cell? ⟨gb102, 2, none⟩ = some (.int .i64 a0_2) := (blk_cell BK102.out 2).trans rfl
              have hcz42_3 : wc.cell? ⟨gb102, 3, none⟩ = some (.int .i64 a0_3) := (blk_cell BK102.out 3).trans rfl
              have hcz42_4 : wc.cell? ⟨gb102, 4, none⟩ = some (.int .i64 a0_4) := (blk_cell BK102.out 4).trans rfl
              have hfz42_0 := blk_frozen BK102.out 0
              have hfz42_1 := blk_frozen BK102.out 1
              have hfz42_2 := blk_frozen BK102.out 2
              have hfz42_3 := blk_frozen BK102.out 3
              have hfz42_4 := blk_frozen BK102.out 4
              go_wp2
              go_ret2
              exact ⟨by first | rfl | (simp [errW_none, errW_some] <;> rfl) | (simp [*, errW_none, errW_some] <;> rfl), by repeat (first | (with_reducible first | exact HB.out | apply below_alloc | apply pw_below_drewN | apply below_drew1 | refine below_set ?_ GE102.out | refine below_set ?_ GE107.out) | exact HB.out)⟩
            · rw [if_neg c39] at H
              have c39b0 : decide (a0_4 < (-2147483648)) = false := decide_eq_false c39
              clear c39
              by_cases c43 : a0_4 > 2147483647
              · rw [if_pos c43] at H
                have c43b0 : decide (2147483647 < a0_4) = true := decide_eq_true c43
                clear c43
                simp only [Option.some.injEq, Prod.mk.injEq] at H
                obtain ⟨rfl, rfl⟩ := H
                have hnb44 := NB107_102.out
                have hnc44 := NB102_107.out
                have hcz45_0 : wc.cell? ⟨gb107, 0, none⟩ = some (.string t103) := (blk_cell BK107.out 0).trans rfl
                have hcz45_1 : wc.cell? ⟨gb107, 1, none⟩ = some (.int .i64 t104) := (blk_cell BK107.out 1).trans rfl
                have hcz45_2 : wc.cell? ⟨gb107, 2, none⟩ = some (.bool false) := (blk_cell BK107.out 2).trans rfl
                have hfz45_0 := blk_frozen BK107.out 0
                have hfz45_1 := blk_frozen BK107.out 1
                have hfz45_2 := blk_frozen BK107.out 2
                have hcz46_0 : wc.cell? ⟨gb102, 0, none⟩ = some (.int .i64 a0_0) := (blk_cell BK102.out 0).trans rfl
                have hcz46_1 : wc.cell? ⟨gb102, 1, none⟩ = some (.int .i64 a0_1) := (blk_cell BK102.out 1).trans rfl
                have hcz46_2 : wc.cell? ⟨gb102, 2, none⟩ = some (.int .i64 a0_2) := (blk_cell BK102.out 2).trans rfl
                have hcz46_3 : wc.cell? ⟨gb102, 3, none⟩ = some (.int .i64 a0_3) := (blk_cell BK102.out 3).trans rfl
                have hcz46_4 : wc.cell? ⟨gb102, 4, none⟩ = some (.int .i64 a0_4) := (blk_cell BK102.out 4).trans rfl
                have hfz46_0 := blk_frozen BK102.out 0
                have hfz46_1 := blk_frozen BK102.out 1
                have hfz46_2 := blk_frozen BK102.out 2
                have hfz46_3 := blk_frozen BK102.out 3
                have hfz46_4 := blk_frozen BK102.out 4
                go_wp2
                go_ret2
                exact ⟨by first | rfl | (simp [errW_none, errW_some] <;> rfl) | (simp [*, errW_none, errW_some] <;> rfl), by repeat (first | (with_reducible first | exact HB.out | apply below_alloc | apply pw_below_drewN | apply below_drew1 | refine below_set ?_ GE102.out | refine below_set ?_ GE107.out) | exact HB.out)⟩
              · rw [if_neg c43] at H
                have c43b0 : decide (2147483647 < a0_4) = false := decide_eq_false c43
                clear c43
                simp only [Option.some.injEq, Prod.mk.injEq] at H
                obtain ⟨rfl, rfl⟩ := H
                have hnb47 := NB107_102.out
                have hnc47 := NB102_107.out
                have hcz48_0 : wc.cell? ⟨gb107, 0, none⟩ = some (.string t103) := (blk_cell BK107.out 0).trans rfl
                have hcz48_1 : wc.cell? ⟨gb107, 1, none⟩ = some (.int .i64 t104) := (blk_cell BK107.out 1).trans rfl
                have hcz48_2 : wc.cell? ⟨gb107, 2, none⟩ = some (.bool false) := (blk_cell BK107.out 2).trans rfl
                have hfz48_0 := blk_frozen BK107.out 0
                have hfz48_1 := blk_frozen BK107.out 1
                have hfz48_2 := blk_frozen BK107.out 2
                have hcz49_0 : wc.cell? ⟨gb102, 0, none⟩ = some (.int .i64 a0_0) := (blk_cell BK102.out 0).trans rfl
                have hcz49_1 : wc.cell? ⟨gb102, 1, none⟩ = some (.int .i64 a0_1) := (blk_cell BK102.out 1).trans rfl
                have hcz49_2 : wc.cell? ⟨gb102, 2, none⟩ = some (.int .i64 a0_2) := (blk_cell BK102.out 2).trans rfl
                have hcz49_3 : wc.cell? ⟨gb102, 3, none⟩ = some (.int .i64 a0_3) := (blk_cell BK102.out 3).trans rfl
                have hcz49_4 : wc.cell? ⟨gb102, 4, none⟩ = some (.int .i64 a0_4) := (blk_cell BK102.out 4).trans rfl
                have hfz49_0 := blk_frozen BK102.out 0
                have hfz49_1 := blk_frozen BK102.out 1
                have hfz49_2 := blk_frozen BK102.out 2
                have hfz49_3 := blk_frozen BK102.out 3
                have hfz49_4 := blk_frozen BK102.out 4
                go_wp2
                go_ret2
                exact ⟨by first | rfl | (simp [errW_none, errW_some] <;> rfl) | (simp [*, errW_none, errW_some] <;> rfl), by repeat (first | (with_reducible first | exact HB.out | apply below_alloc | apply pw_below_drewN | apply below_drew1 | refine below_set ?_ GE102.out | refine below_set ?_ GE107.out) | exact HB.out)⟩
          · rw [if_neg c38] at H
            have c38b0 : (a0_4 == 0) = false := beq_eq_false_iff_ne.mpr c38
            have c38b1 : (a0_4 != 0) = true := bne_iff_ne.mpr c38
            simp only [Option.some.injEq, Prod.mk.injEq] at H
            obtain ⟨rfl, rfl⟩ := H
            have hnb50 := NB107_102.out
            have hnc50 := NB102_107.out
            have hcz51_0 : wc.cell? ⟨gb107, 0, none⟩ = some (.string t103) := (blk_cell BK107.out 0).trans rfl
            have hcz51_1 : wc.cell? ⟨gb107, 1, none⟩ = some (.int .i64 t104) := (blk_cell BK107.out 1).trans rfl
            have hcz51_2 : wc.cell? ⟨gb107, 2, none⟩ = some (.bool false) := (blk_cell BK107.out 2).trans rfl
            have hfz51_0 := blk_frozen BK107.out 0
            have hfz51_1 := blk_frozen BK107.out 1
            have hfz51_2 := blk_frozen BK107.out 2
            have hcz52_0 : wc.cell? ⟨gb102, 0, none⟩ = some (.int .i64 a0_0) := (blk_cell BK102.out 0).trans rfl
            have hcz52_1 : wc.cell? ⟨gb102, 1, none⟩ = some (.int .i64 a0_1) := (blk_cell BK102.out 1).trans rfl
            have hcz52_2 : wc.cell? ⟨gb102, 2, none⟩ = some (.int .i64 a0_2) := (blk_cell BK102.out 2).trans rfl
            have hcz52_3 : wc.cell? ⟨gb102, 3, none⟩ = some (.int .i64 a0_3) := (blk_cell BK102.out 3).trans rfl
            have hcz52_4 : wc.cell? ⟨gb102, 4, none⟩ = some (.int .i64 a0_4) := (blk_cell BK102.out 4).trans rfl
            have hfz52_0 := blk_frozen BK102.out 0
            have hfz52_1 := blk_frozen BK102.out 1
            have hfz52_2 := blk_frozen BK102.out 2
            have hfz52_3 := blk_frozen BK102.out 3
            have hfz52_4 := blk_frozen BK102.out 4
            go_wp2
            go_ret2
            exact ⟨by first | rfl | (simp [errW_none, errW_some] <;> rfl) | (simp [*, errW_none, errW_some] <;> rfl), by repeat (first | (with_reducible first | exact HB.out | apply below_alloc | apply pw_below_drewN | apply below_drew1 | refine below_set ?_ GE102.out | refine below_set ?_ GE107.out) | exact HB.out)⟩

end Go.Proofs.YtlaccolldbnbaaaDoor.Gx
