/-
  Written by a program for this claim: Go functions as plain functions, and that the machine's calls do just what these say.
-/
import Derived.Test.YtmmjhdhgohfioaaC3
namespace Go.Proofs.Ytmmjhdhgohfioaa.Gx
open Go.RowKit Go.Proofs.YtmmjhdhgohfioaaW.PrintWords Go.Proofs.YtmmjhdhgohfioaaW.PrintLast Go.Proofs.YtmmjhdhgohfioaaW.PrintMore
attribute [local go_sem] max2_int min2_int max_two min_two max_three min_three max_four min_four
set_option linter.unusedVariables false
set_option linter.unusedSimpArgs false

/-! ### mortiseref4_number: function 35 -/
mutual
def mortiseref4_number.l0 : Nat → ByteArray → Int → Int → Int → Option (Int × ByteArray × Int × Int × Bool)
  | 0, _, _, _, _ => none
  | k + 1, x0, x1, x6, x7 => if x6 < (x0.size : Int) then (if 0 ≤ x6 then ((mortiseref4_Digit.f (bt x0 x6)).bind fun t196 => (mortiseref4_number.j1 k x0 x1 x6 x7 t196)) else (none)) else (mortiseref4_number.j1 k x0 x1 x6 x7 false)
def mortiseref4_number.j1 : Nat → ByteArray → Int → Int → Int → Bool → Option (Int × ByteArray × Int × Int × Bool)
  | 0, _, _, _, _, _ => none
  | k + 1, x0, x1, x6, x7, x19 => if x19 = true then (if 0 ≤ x6 then (if x6 < (x0.size : Int) then (if x7 > ((9223372036854775807 - (((bt x0 x6) - 48) % 256)) / 10) then (some (0, (⟨#[]⟩ : ByteArray), 0, 0, false)) else (mortiseref4_number.l0 k x0 x1 (wrap64 (x6 + 1)) (wrap64 ((wrap64 (10 * x7)) + (((bt x0 x6) - 48) % 256))))) else (none)) else (none)) else (if x6 > (wrap64 (x1 + 1)) then (if 0 ≤ x1 then (if x1 < (x0.size : Int) then (if (bt x0 x1) = 48 then (some (0, (⟨#[]⟩ : ByteArray), 0, 0, false)) else (if x6 < (x0.size : Int) then (if 0 ≤ x6 then ((mortiseref4_Letter.f (bt x0 x6)).bind fun t197 => (if t197 = true then (some (0, (⟨#[]⟩ : ByteArray), 0, 0, false)) else (if x1 ≤ x6 then (if x6 ≤ (x0.size : Int) then (some (3, x0.extract (x1 : Int).toNat (x6 : Int).toNat, x7, x1, true)) else (none)) else (none)))) else (none)) else (if x1 ≤ x6 then (if x6 ≤ (x0.size : Int) then (some (3, x0.extract (x1 : Int).toNat (x6 : Int).toNat, x7, x1, true)) else (none)) else (none)))) else (none)) else (none)) else (if x6 < (x0.size : Int) then (if 0 ≤ x6 then ((mortiseref4_Letter.f (bt x0 x6)).bind fun t198 => (if t198 = true then (some (0, (⟨#[]⟩ : ByteArray), 0, 0, false)) else (if 0 ≤ x1 then (if x1 ≤ x6 then (if x6 ≤ (x0.size : Int) then (some (3, x0.extract (x1 : Int).toNat (x6 : Int).toNat, x7, x1, true)) else (none)) else (none)) else (none)))) else (none)) else (if 0 ≤ x1 then (if x1 ≤ x6 then (if x6 ≤ (x0.size : Int) then (some (3, x0.extract (x1 : Int).toNat (x6 : Int).toNat, x7, x1, true)) else (none)) else (none)) else (none))))
end
def mortiseref4_number.f (k : Nat) (a0 : ByteArray) (a1 : Int) : Option (Int × ByteArray × Int × Int × Bool) := mortiseref4_number.l0 k a0 a1 a1 0
theorem mortiseref4_number.mono_l : ∀ k, (∀ y0 y1 y2 y3, LeO (mortiseref4_number.l0 k y0 y1 y2 y3) (mortiseref4_number.l0 (k + 1) y0 y1 y2 y3)) ∧ (∀ y0 y1 y2 y3 y4, LeO (mortiseref4_number.j1 k y0 y1 y2 y3 y4) (mortiseref4_number.j1 (k + 1) y0 y1 y2 y3 y4))
  | 0 => ⟨fun _ _ _ _ r h => by simp [mortiseref4_number.l0] at h, fun _ _ _ _ _ r h => by simp [mortiseref4_number.j1] at h⟩
  | k + 1 => by
    obtain ⟨ih0, ih1⟩ := mortiseref4_number.mono_l k
    refine ⟨?_, ?_⟩
    · intro y0 y1 y2 y3
      unfold mortiseref4_number.l0
      repeat' first
      | (with_reducible exact ih0 _ _ _ _)
      | (with_reducible exact ih1 _ _ _ _ _)
      | (with_reducible exact LeO.refl _)
      | (with_reducible exact LeO.none _)
      | (with_reducible refine LeO.ite ?_ ?_)
      | (with_reducible refine LeO.bind ?_ (fun _ => ?_))
      | exact ih0 _ _ _ _
      | exact ih1 _ _ _ _ _
      | exact LeO.none _
      | refine LeO.ite ?_ ?_
      | refine LeO.bind ?_ (fun _ => ?_)
    · intro y0 y1 y2 y3 y4
      unfold mortiseref4_number.j1
      repeat' first
      | (with_reducible exact ih0 _ _ _ _)
      | (with_reducible exact ih1 _ _ _ _ _)
      | (with_reducible exact LeO.refl _)
      | (with_reducible exact LeO.none _)
      | (with_reducible refine LeO.ite ?_ ?_)
      | (with_reducible refine LeO.bind ?_ (fun _ => ?_))
      | exact ih0 _ _ _ _
      | exact ih1 _ _ _ _ _
      | exact LeO.none _
      | refine LeO.ite ?_ ?_
      | refine LeO.bind ?_ (fun _ => ?_)
theorem mortiseref4_number.mono : ∀ a0 a1 k, LeO (mortiseref4_number.f k a0 a1) (mortiseref4_number.f (k + 1) a0 a1) := by
  intro a0 a1 k
  obtain ⟨ih0, ih1⟩ := mortiseref4_number.mono_l k
  unfold mortiseref4_number.f
  repeat' first
      | (with_reducible exact ih0 _ _ _ _)
      | (with_reducible exact ih1 _ _ _ _ _)
      | (with_reducible exact LeO.refl _)
      | (with_reducible exact LeO.none _)
      | (with_reducible refine LeO.ite ?_ ?_)
      | (with_reducible refine LeO.bind ?_ (fun _ => ?_))
      | exact ih0 _ _ _ _
      | exact ih1 _ _ _ _ _
      | exact LeO.none _
      | refine LeO.ite ?_ ?_
      | refine LeO.bind ?_ (fun _ => ?_)
set_option maxHeartbeats 8000000 in
set_option maxRecDepth 100000 in
theorem mortiseref4_number.calls (k : Nat) (a0 : ByteArray) (a1 : Int) (r1 : Int) (r2 : ByteArray) (r3 : Int) (r4 : Int) (r5 : Bool) (w : World) (h : mortiseref4_number.f k a0 a1 = some (r1, r2, r3, r4, r5)) :
    Calls Try.prog 35 #[.string a0, .int .i64 a1] w fun e w' => e = .returned (.tuple #[.agg #[.int .i64 r1, .string r2, .int .i64 r3, .int .i64 r4], .bool r5]) ∧ Below w.heap.size w w' := by
  have hu31 := Try.underlying31
  have HB := Aside0.mk (Below.refl w.heap.size w)
  have H : (mortiseref4_number.l0 k a0 a1 a1 0) = some (r1, r2, r3, r4, r5) := h
  clear h
  have H' := Aside0.mk H
  clear H
  go_enter Try.func35, Try.ntmps35
  go_wp2_with (first | ((with_reducible refine gate_dst (N := 4) rfl ?_); (try (refine gate_guard (by rfl) ?_; dsimp only)); refine box_event ?hg (N := 4) ?hd (cs := #[.int .i64 0, .string (⟨#[]⟩ : ByteArray), .int .i64 0, .int .i64 0]) (t := 31) ?hr ?_; (case hd => rfl); (case hg => rfl); (case hr => first | (go_simp; done) | (go_simp; rfl)); intro gb195 hg w3 hbox hb; have n0_ := Aside0.mk (below_step (by repeat (first | (with_reducible first | exact HB.out | apply below_alloc | apply pw_below_drewN | apply below_drew1) | exact HB.out)) hb); have n1_ := Aside0.mk (hbox); have n2_ := Aside0.mk ((by rw [hg]; exact (below_size (by repeat (first | (with_reducible first | exact HB.out | apply below_alloc | apply pw_below_drewN | apply below_drew1) | exact HB.out))) : w.heap.size ≤ gb195)); have n3_ := Aside0.mk ((by rw [hg]; exact (below_size (by repeat (first | (with_reducible first | exact HB.out | apply below_alloc | apply pw_below_drewN | apply below_drew1) | exact HB.out))) : w.heap.size ≤ gb195)); clear HB; have HB := n0_; have BK195 := n1_; have GW195 := n2_; have GE195 := n3_; clear n0_ n1_ n2_ n3_; clear hb hbox hg))
  go_loopg [6, 7] k (fun kq v6 v7 w' => ∃ (x6_1 : Int) (x7_1 : Int) (x196000_1 : Int) (x196001_1 : ByteArray) (x196002_1 : Int) (x196003_1 : Int), v6 = .int .i64 x6_1 ∧ v7 = .int .i64 x7_1 ∧ Aside0 (mortiseref4_number.l0 kq a0 a1 x6_1 x7_1 = some (r1, r2, r3, r4, r5)) ∧ Aside0 (kq ≤ k) ∧ Aside0 (w'.heap[gb195]? = some (.cells #[.int .i64 x196000_1, .string x196001_1, .int .i64 x196002_1, .int .i64 x196003_1] 31 (0, 0))) ∧ Aside0 (Below w.heap.size w w'))
  case atStart => exact ⟨(a1), (0), (0), ((⟨#[]⟩ : ByteArray)), (0), (0), (by first | rfl | (simp; done) | (simp [*]; done)), (by first | rfl | (simp; done) | (simp [*]; done)), H', ⟨Nat.le_refl _⟩, ⟨by (with_reducible repeat (first | refine blk_drewN ?_ _ | refine blk_drew ?_ | refine blk_alloc ?_ _)); exact BK195.out⟩, ⟨by repeat (first | (with_reducible first | exact HB.out | apply below_alloc | apply pw_below_drewN | apply below_drew1 | refine below_set ?_ GE195.out) | exact HB.out)⟩⟩
  case round =>
    clear H'
    try clear p2
    try clear c3
    obtain ⟨x6_1, x7_1, x196000_1, x196001_1, x196002_1, x196003_1, rfl, rfl, HA, HK1, BK195, HB⟩ := hrel
    cases gk with
    | zero => exact absurd HA.out (by simp [mortiseref4_number.l0])
    | succ k1 =>
      have H := HA.out
      clear HA
      simp only [mortiseref4_number.l0] at H
      have HC4 := Aside0.mk H
      clear H
      go_upto_region 3 with (fail)
      go_cut [19] (fun v19 wc => ∃ (kq : Nat) (x19_3 : Bool), v19 = .bool x19_3 ∧ Aside0 (mortiseref4_number.j1 kq a0 a1 x6_1 x7_1 x19_3 = some (r1, r2, r3, r4, r5)) ∧ Aside0 (kq ≤ k1) ∧ Aside0 (wc.heap[gb195]? = some (.cells #[.int .i64 x196000_1, .string x196001_1, .int .i64 x196002_1, .int .i64 x196003_1] 31 (0, 0))) ∧ Aside0 (Below w.heap.size w wc))
      case first =>
        have H := HC4.out
        clear HC4
        by_cases c5 : x6_1 < (a0.size : Int)
        · rw [if_pos c5] at H
          have c5b0 : decide (x6_1 < (a0.size : Int)) = true := decide_eq_true c5
          clear c5
          (first | rw [c5b0] | (simp only [i64_w, i32_w]; rw [c5b0]) | skip)
          by_cases c6 : 0 ≤ x6_1
          · rw [if_pos c6] at H
            have c6b0 : decide (0 ≤ x6_1) = true := decide_eq_true c6
            clear c6
            replace H := Option.bind_eq_some_iff.mp H
            obtain ⟨t196, A80, H⟩ := H
            replace H : (mortiseref4_number.j1 k1 a0 a1 x6_1 x7_1 t196) = some (r1, r2, r3, r4, r5) := H
            have A8 := Aside0.mk A80
            clear A80
            have H' := Aside0.mk H
            clear H
            have p7 : 0 ≤ (x6_1 : Int) := of_decide_eq_true (by first | (with_reducible assumption) | assumption)
            have q7 : x6_1 < (a0.size : Int) := of_decide_eq_true (by first | (with_reducible assumption) | assumption)
            have hx7 := bt_at a0 x6_1
            replace p7 := eq_true p7
            replace q7 := eq_true q7
            go_wp2_with (first | (go_at_call 27; (with_reducible refine (mortiseref4_Digit.calls (bt a0 x6_1) t196 _ A8.out).mono ?_); rintro e w' ⟨rfl, ⟨nd, rfl⟩⟩))
            go_meet
            case rel => exact ⟨_, (t196), (by first | rfl | (simp; done) | (simp [*]; done)), H', ⟨by have := HK1.out; first | omega | exact Nat.le_refl _⟩, ⟨by (with_reducible repeat (first | refine blk_drewN ?_ _ | refine blk_drew ?_ | refine blk_alloc ?_ _)); exact BK195.out⟩, ⟨by repeat (first | (with_reducible first | exact HB.out | apply below_alloc | apply pw_below_drewN | apply below_drew1 | refine below_set ?_ GE195.out) | exact HB.out)⟩⟩
          · rw [if_neg c6] at H
            exact absurd H (by simp)
        · rw [if_neg c5] at H
          have c5b0 : decide (x6_1 < (a0.size : Int)) = false := decide_eq_false c5
          clear c5
          (first | rw [c5b0] | (simp only [i64_w, i32_w]; rw [c5b0]) | skip)
          have H' := Aside0.mk H
          clear H
          go_wp2
          go_meet
          case rel => exact ⟨_, (false), (by first | rfl | (simp; done) | (simp [*]; done)), H', ⟨by have := HK1.out; first | omega | exact Nat.le_refl _⟩, ⟨by (with_reducible repeat (first | refine blk_drewN ?_ _ | refine blk_drew ?_ | refine blk_alloc ?_ _)); exact BK195.out⟩, ⟨by repeat (first | (with_reducible first | exact HB.out | apply below_alloc | apply pw_below_drewN | apply below_drew1 | refine below_set ?_ GE195.out) | exact HB.out)⟩⟩
      case rest =>
        clear HC4
        try clear p2
        try clear c3
        try clear c5
        try clear c5b0
        try clear c6
        try clear c6b0
        try clear p7
        try clear q7
        try clear hx7
        try clear p2
        try clear p7
        try clear q7
        obtain ⟨kq, x19_3, rfl, HA, HJ3, BK195, HB⟩ := hcut
        cases kq with
        | zero => exact absurd HA.out (by simp [mortiseref4_number.j1])
        | succ kj3 =>
          have H := HA.out
          clear HA
          simp only [mortiseref4_number.j1] at H
          by_cases c9 : x19_3 = true
          · subst c9
            have H1 : (if 0 ≤ x6_1 then (if x6_1 < (a0.size : Int) then (if x7_1 > ((9223372036854775807 - (((bt a0 x6_1) - 48) % 256)) / 10) then (some (0, (⟨#[]⟩ : ByteArray), 0, 0, false)) else (mortiseref4_number.l0 kj3 a0 a1 (wrap64 (x6_1 + 1)) (wrap64 ((wrap64 (10 * x7_1)) + (((bt a0 x6_1) - 48) % 256))))) else (none)) else (none)) = some (r1, r2, r3, r4, r5) := by rw [if_pos rfl] at H; exact H
            clear H
            have H := H1
            clear H1
            by_cases c10 : 0 ≤ x6_1
            · rw [if_pos c10] at H
              have c10b0 : decide (0 ≤ x6_1) = true := decide_eq_true c10
              clear c10
              by_cases c11 : x6_1 < (a0.size : Int)
              · rw [if_pos c11] at H
                have c11b0 : decide (x6_1 < (a0.size : Int)) = true := decide_eq_true c11
                clear c11
                by_cases c13 : x7_1 > ((9223372036854775807 - (((bt a0 x6_1) - 48) % 256)) / 10)
                · rw [if_pos c13] at H
                  have c13b0 : decide (((9223372036854775807 - (((bt a0 x6_1) - 48) % 256)) / 10) < x7_1) = true := decide_eq_true c13
                  clear c13
                  simp only [Option.some.injEq, Prod.mk.injEq] at H
                  obtain ⟨rfl, rfl, rfl, rfl, rfl⟩ := H
                  have p12 : 0 ≤ (x6_1 : Int) := of_decide_eq_true (by first | (with_reducible assumption) | assumption)
                  have q12 : x6_1 < (a0.size : Int) := of_decide_eq_true (by first | (with_reducible assumption) | assumption)
                  have hx12 := bt_at a0 x6_1
                  replace p12 := eq_true p12
                  replace q12 := eq_true q12
                  have hcz14_0 : wc.cell? ⟨gb195, 0, none⟩ = some (.int .i64 x196000_1) := (blk_cell BK195.out 0).trans rfl
                  have hcz14_1 : wc.cell? ⟨gb195, 1, none⟩ = some (.string x196001_1) := (blk_cell BK195.out 1).trans rfl
                  have hcz14_2 : wc.cell? ⟨gb195, 2, none⟩ = some (.int .i64 x196002_1) := (blk_cell BK195.out 2).trans rfl
                  have hcz14_3 : wc.cell? ⟨gb195, 3, none⟩ = some (.int .i64 x196003_1) := (blk_cell BK195.out 3).trans rfl
                  have hfz14_0 := blk_frozen BK195.out 0
                  have hfz14_1 := blk_frozen BK195.out 1
                  have hfz14_2 := blk_frozen BK195.out 2
                  have hfz14_3 := blk_frozen BK195.out 3
                  go_wp2
                  refine bodyPost_ret (results_ct rfl _ _ gb195 31 #[.int .i64 0, .string (⟨#[]⟩ : ByteArray), .int .i64 0, .int .i64 0] (0, 0) _ rfl (by (with_reducible repeat (first | refine blk_drewN ?_ _ | refine blk_drew ?_ | refine blk_alloc ?_ _)); refine blk_put (cs := #[.int .i64 0, .string (⟨#[]⟩ : ByteArray), .int .i64 0, .int .i64 x196003_1]) ?_ 3 _ rfl; (with_reducible repeat (first | refine blk_drewN ?_ _ | refine blk_drew ?_ | refine blk_alloc ?_ _)); refine blk_put (cs := #[.int .i64 0, .string (⟨#[]⟩ : ByteArray), .int .i64 x196002_1, .int .i64 x196003_1]) ?_ 2 _ rfl; (with_reducible repeat (first | refine blk_drewN ?_ _ | refine blk_drew ?_ | refine blk_alloc ?_ _)); refine blk_put (cs := #[.int .i64 0, .string x196001_1, .int .i64 x196002_1, .int .i64 x196003_1]) ?_ 1 _ rfl; (with_reducible repeat (first | refine blk_drewN ?_ _ | refine blk_drew ?_ | refine blk_alloc ?_ _)); refine blk_put (cs := #[.int .i64 x196000_1, .string x196001_1, .int .i64 x196002_1, .int .i64 x196003_1]) ?_ 0 _ rfl; (with_reducible repeat (first | refine blk_drewN ?_ _ | refine blk_drew ?_ | refine blk_alloc ?_ _)); exact BK195.out) Try.underlying31 rfl (by kernel_rfl)) rfl ?_
                  exact ⟨by first | rfl | (simp [errW_none, errW_some] <;> rfl) | (simp [*, errW_none, errW_some] <;> rfl), by repeat (first | (with_reducible first | exact HB.out | apply below_alloc | apply pw_below_drewN | apply below_drew1 | refine below_set ?_ GE195.out) | exact HB.out)⟩
                · rw [if_neg c13] at H
                  have c13b0 : decide (((9223372036854775807 - (((bt a0 x6_1) - 48) % 256)) / 10) < x7_1) = false := decide_eq_false c13
                  clear c13
                  have H' := Aside0.mk H
                  clear H
                  have p12 : 0 ≤ (x6_1 : Int) := of_decide_eq_true (by first | (with_reducible assumption) | assumption)
                  have q12 : x6_1 < (a0.size : Int) := of_decide_eq_true (by first | (with_reducible assumption) | assumption)
                  have hx12 := bt_at a0 x6_1
                  replace p12 := eq_true p12
                  replace q12 := eq_true q12
                  go_wp2
                  go_roundg kj3
                  case measure => have := HK1.out; have := HJ3.out; omega
                  case rel => exact ⟨(wrap64 (x6_1 + 1)), (wrap64 ((wrap64 (10 * x7_1)) + (((bt a0 x6_1) - 48) % 256))), (x196000_1), (x196001_1), (x196002_1), (x196003_1), (by first | rfl | (simp; done) | (simp [*]; done)), (by first | rfl | (simp; done) | (simp [*]; done)), H', ⟨by have := HK1.out; have := HJ3.out; omega⟩, ⟨by (with_reducible repeat (first | refine blk_drewN ?_ _ | refine blk_drew ?_ | refine blk_alloc ?_ _)); exact BK195.out⟩, ⟨by repeat (first | (with_reducible first | exact HB.out | apply below_alloc | apply pw_below_drewN | apply below_drew1 | refine below_set ?_ GE195.out) | exact HB.out)⟩⟩
              · rw [if_neg c11] at H
                exact absurd H (by simp)
            · rw [if_neg c10] at H
              exact absurd H (by simp)
          · replace c9 := Bool.eq_false_iff.mpr c9
            subst c9
            have H1 : (if x6_1 > (wrap64 (a1 + 1)) then (if 0 ≤ a1 then (if a1 < (a0.size : Int) then (if (bt a0 a1) = 48 then (some (0, (⟨#[]⟩ : ByteArray), 0, 0, false)) else (if x6_1 < (a0.size : Int) then (if 0 ≤ x6_1 then ((mortiseref4_Letter.f (bt a0 x6_1)).bind fun t197 => (if t197 = true then (some (0, (⟨#[]⟩ : ByteArray), 0, 0, false)) else (if a1 ≤ x6_1 then (if x6_1 ≤ (a0.size : Int) then (some (3, a0.extract (a1 : Int).toNat (x6_1 : Int).toNat, x7_1, a1, true)) else (none)) else (none)))) else (none)) else (if a1 ≤ x6_1 then (if x6_1 ≤ (a0.size : Int) then (some (3, a0.extract (a1 : Int).toNat (x6_1 : Int).toNat, x7_1, a1, true)) else (none)) else (none)))) else (none)) else (none)) else (if x6_1 < (a0.size : Int) then (if 0 ≤ x6_1 then ((mortiseref4_Letter.f (bt a0 x6_1)).bind fun t198 => (if t198 = true then (some (0, (⟨#[]⟩ : ByteArray), 0, 0, false)) else (if 0 ≤ a1 then (if a1 ≤ x6_1 then (if x6_1 ≤ (a0.size : Int) then (some (3, a0.extract (a1 : Int).toNat (x6_1 : Int).toNat, x7_1, a1, true)) else (none)) else (none)) else (none)))) else (none)) else (if 0 ≤ a1 then (if a1 ≤ x6_1 then (if x6_1 ≤ (a0.size : Int) then (some (3, a0.extract (a1 : Int).toNat (x6_1 : Int).toNat, x7_1, a1, true)) else (none)) else (none)) else (none)))) = some (r1, r2, r3, r4, r5) := by rw [if_neg (show ¬ (false = true) by decide)] at H; exact H
            clear H
            have H := H1
            clear H1
            by_cases c15 : x6_1 > (wrap64 (a1 + 1))
            · rw [if_pos c15] at H
              have c15b0 : decide ((wrap64 (a1 + 1)) < x6_1) = true := decide_eq_true c15
              clear c15
              by_cases c16 : 0 ≤ a1
              · rw [if_pos c16] at H
                have c16b0 : decide (0 ≤ a1) = true := decide_eq_true c16
                clear c16
                by_cases c17 : a1 < (a0.size : Int)
                · rw [if_pos c17] at H
                  have c17b0 : decide (a1 < (a0.size : Int)) = true := decide_eq_true c17
                  clear c17
                  by_cases c19 : (bt a0 a1) = 48
                  · rw [if_pos c19] at H
                    have c19b0 : ((bt a0 a1) == 48) = true := beq_iff_eq.mpr c19
                    have c19b1 : ((bt a0 a1) != 48) = false := bne_eq_false_iff_eq.mpr c19
                    clear c19
                    simp only [Option.some.injEq, Prod.mk.injEq] at H
                    obtain ⟨rfl, rfl, rfl, rfl, rfl⟩ := H
                    have p18 : 0 ≤ (a1 : Int) := of_decide_eq_true (by first | (with_reducible assumption) | assumption)
                    have q18 : a1 < (a0.size : Int) := of_decide_eq_true (by first | (with_reducible assumption) | assumption)
                    have hx18 := bt_at a0 a1
                    replace p18 := eq_true p18
                    replace q18 := eq_true q18
                    have hcz20_0 : wc.cell? ⟨gb195, 0, none⟩ = some (.int .i64 x196000_1) := (blk_cell BK195.out 0).trans rfl
                    have hcz20_1 : wc.cell? ⟨gb195, 1, none⟩ = some (.string x196001_1) := (blk_cell BK195.out 1).trans rfl
                    have hcz20_2 : wc.cell? ⟨gb195, 2, none⟩ = some (.int .i64 x196002_1) := (blk_cell BK195.out 2).trans rfl
                    have hcz20_3 : wc.cell? ⟨gb195, 3, none⟩ = some (.int .i64 x196003_1) := (blk_cell BK195.out 3).trans rfl
                    have hfz20_0 := blk_frozen BK195.out 0
                    have hfz20_1 := blk_frozen BK195.out 1
                    have hfz20_2 := blk_frozen BK195.out 2
                    have hfz20_3 := blk_frozen BK195.out 3
                    go_wp2
                    refine bodyPost_ret (results_ct rfl _ _ gb195 31 #[.int .i64 0, .string (⟨#[]⟩ : ByteArray), .int .i64 0, .int .i64 0] (0, 0) _ rfl (by (with_reducible repeat (first | refine blk_drewN ?_ _ | refine blk_drew ?_ | refine blk_alloc ?_ _)); refine blk_put (cs := #[.int .i64 0, .string (⟨#[]⟩ : ByteArray), .int .i64 0, .int .i64 x196003_1]) ?_ 3 _ rfl; (with_reducible repeat (first | refine blk_drewN ?_ _ | refine blk_drew ?_ | refine blk_alloc ?_ _)); refine blk_put (cs := #[.int .i64 0, .string (⟨#[]⟩ : ByteArray), .int .i64 x196002_1, .int .i64 x196003_1]) ?_ 2 _ rfl; (with_reducible repeat (first | refine blk_drewN ?_ _ | refine blk_drew ?_ | refine blk_alloc ?_ _)); refine blk_put (cs := #[.int .i64 0, .string x196001_1, .int .i64 x196002_1, .int .i64 x196003_1]) ?_ 1 _ rfl; (with_reducible repeat (first | refine blk_drewN ?_ _ | refine blk_drew ?_ | refine blk_alloc ?_ _)); refine blk_put (cs := #[.int .i64 x196000_1, .string x196001_1, .int .i64 x196002_1, .int .i64 x196003_1]) ?_ 0 _ rfl; (with_reducible repeat (first | refine blk_drewN ?_ _ | refine blk_drew ?_ | refine blk_alloc ?_ _)); exact BK195.out) Try.underlying31 rfl (by kernel_rfl)) rfl ?_
                    exact ⟨by first | rfl | (simp [errW_none, errW_some] <;> rfl) | (simp [*, errW_none, errW_some] <;> rfl), by repeat (first | (with_reducible first | exact HB.out | apply below_alloc | apply pw_below_drewN | apply below_drew1 | refine below_set ?_ GE195.out) | exact HB.out)⟩
                  · rw [if_neg c19] at H
                    have c19b0 : ((bt a0 a1) == 48) = false := beq_eq_false_iff_ne.mpr c19
                    have c19b1 : ((bt a0 a1) != 48) = true := bne_iff_ne.mpr c19
                    by_cases c21 : x6_1 < (a0.size : Int)
                    · rw [if_pos c21] at H
                      have c21b0 : decide (x6_1 < (a0.size : Int)) = true := decide_eq_true c21
                      clear c21
                      by_cases c22 : 0 ≤ x6_1
                      · rw [if_pos c22] at H
                        have c22b0 : decide (0 ≤ x6_1) = true := decide_eq_true c22
                        clear c22
                        replace H := Option.bind_eq_some_iff.mp H
                        obtain ⟨t197, A240, H⟩ := H
                        replace H : (if t197 = true then (some (0, (⟨#[]⟩ : ByteArray), 0, 0, false)) else (if a1 ≤ x6_1 then (if x6_1 ≤ (a0.size : Int) then (some (3, a0.extract (a1 : Int).toNat (x6_1 : Int).toNat, x7_1, a1, true)) else (none)) else (none))) = some (r1, r2, r3, r4, r5) := H
                        have A24 := Aside0.mk A240
                        clear A240
                        by_cases c25 : t197 = true
                        · subst c25
                          have H1 : (some (0, (⟨#[]⟩ : ByteArray), 0, 0, false)) = some (r1, r2, r3, r4, r5) := by rw [if_pos rfl] at H; exact H
                          clear H
                          have H := H1
                          clear H1
                          simp only [Option.some.injEq, Prod.mk.injEq] at H
                          obtain ⟨rfl, rfl, rfl, rfl, rfl⟩ := H
                          have p18 : 0 ≤ (a1 : Int) := of_decide_eq_true (by first | (with_reducible assumption) | assumption)
                          have q18 : a1 < (a0.size : Int) := of_decide_eq_true (by first | (with_reducible assumption) | assumption)
                          have hx18 := bt_at a0 a1
                          replace p18 := eq_true p18
                          replace q18 := eq_true q18
                          have p23 : 0 ≤ (x6_1 : Int) := of_decide_eq_true (by first | (with_reducible assumption) | assumption)
                          have q23 : x6_1 < (a0.size : Int) := of_decide_eq_true (by first | (with_reducible assumption) | assumption)
                          have hx23 := bt_at a0 x6_1
                          replace p23 := eq_true p23
                          replace q23 := eq_true q23
                          go_wp2_with (first | (go_at_call 26; (with_reducible refine (mortiseref4_Letter.calls (bt a0 x6_1) true _ A24.out).mono ?_); rintro e w' ⟨rfl, ⟨nd, rfl⟩⟩; (try (rw [drewN_self wc]; generalize hq_ : World.drewN wc _ = wc; have n0_ : Aside0 (wc.heap[gb195]? = some (.cells #[.int .i64 x196000_1, .string x196001_1, .int .i64 x196002_1, .int .i64 x196003_1] 31 (0, 0))) := ⟨by rw [← hq_]; exact (by (with_reducible repeat (first | refine blk_drewN ?_ _ | refine blk_drew ?_ | refine blk_alloc ?_ _)); exact BK195.out)⟩; have n1_ : Aside0 (Below w.heap.size w wc) := ⟨by rw [← hq_]; exact (by repeat (first | (with_reducible first | exact HB.out | apply below_alloc | apply pw_below_drewN | apply below_drew1 | refine below_set ?_ GE195.out) | exact HB.out))⟩; clear BK195 HB hq_; have BK195 := n0_; have HB := n1_; clear n0_ n1_)); have hcz26_0 : wc.cell? ⟨gb195, 0, none⟩ = some (.int .i64 x196000_1) := (blk_cell BK195.out 0).trans rfl; have hcz26_1 : wc.cell? ⟨gb195, 1, none⟩ = some (.string x196001_1) := (blk_cell BK195.out 1).trans rfl; have hcz26_2 : wc.cell? ⟨gb195, 2, none⟩ = some (.int .i64 x196002_1) := (blk_cell BK195.out 2).trans rfl; have hcz26_3 : wc.cell? ⟨gb195, 3, none⟩ = some (.int .i64 x196003_1) := (blk_cell BK195.out 3).trans rfl; have hfz26_0 := blk_frozen BK195.out 0; have hfz26_1 := blk_frozen BK195.out 1; have hfz26_2 := blk_frozen BK195.out 2; have hfz26_3 := blk_frozen BK195.out 3))
                          refine bodyPost_ret (results_ct rfl _ _ gb195 31 #[.int .i64 0, .string (⟨#[]⟩ : ByteArray), .int .i64 0, .int .i64 0] (0, 0) _ rfl (by (with_reducible repeat (first | refine blk_drewN ?_ _ | refine blk_drew ?_ | refine blk_alloc ?_ _)); refine blk_put (cs := #[.int .i64 0, .string (⟨#[]⟩ : ByteArray), .int .i64 0, .int .i64 x196003_1]) ?_ 3 _ rfl; (with_reducible repeat (first | refine blk_drewN ?_ _ | refine blk_drew ?_ | refine blk_alloc ?_ _)); refine blk_put (cs := #[.int .i64 0, .string (⟨#[]⟩ : ByteArray), .int .i64 x196002_1, .int .i64 x196003_1]) ?_ 2 _ rfl; (with_reducible repeat (first | refine blk_drewN ?_ _ | refine blk_drew ?_ | refine blk_alloc ?_ _)); refine blk_put (cs := #[.int .i64 0, .string x196001_1, .int .i64 x196002_1, .int .i64 x196003_1]) ?_ 1 _ rfl; (with_reducible repeat (first | refine blk_drewN ?_ _ | refine blk_drew ?_ | refine blk_alloc ?_ _)); refine blk_put (cs := #[.int .i64 x196000_1, .string x196001_1, .int .i64 x196002_1, .int .i64 x196003_1]) ?_ 0 _ rfl; (with_reducible repeat (first | refine blk_drewN ?_ _ | refine blk_drew ?_ | refine blk_alloc ?_ _)); exact BK195.out) Try.underlying31 rfl (by kernel_rfl)) rfl ?_
                          exact ⟨by first | rfl | (simp [errW_none, errW_some] <;> rfl) | (simp [*, errW_none, errW_some] <;> rfl), by repeat (first | (with_reducible first | exact HB.out | apply below_alloc | apply pw_below_drewN | apply below_drew1 | refine below_set ?_ GE195.out) | exact HB.out)⟩
                        · replace c25 := Bool.eq_false_iff.mpr c25
                          subst c25
                          have H1 : (if a1 ≤ x6_1 then (if x6_1 ≤ (a0.size : Int) then (some (3, a0.extract (a1 : Int).toNat (x6_1 : Int).toNat, x7_1, a1, true)) else (none)) else (none)) = some (r1, r2, r3, r4, r5) := by rw [if_neg (show ¬ (false = true) by decide)] at H; exact H
                          clear H
                          have H := H1
                          clear H1
                          have c27b0 := eq_true (of_decide_eq_true (by first | (with_reducible assumption) | assumption) : 0 ≤ a1)
                          by_cases c28 : a1 ≤ x6_1
                          · rw [if_pos c28] at H
                            have c28b0 := eq_true c28
                            have c28b1 : decide (a1 ≤ x6_1) = true := decide_eq_true c28
                            clear c28
                            by_cases c29 : x6_1 ≤ (a0.size : Int)
                            · rw [if_pos c29] at H
                              have c29b0 := eq_true c29
                              have c29b1 : decide (x6_1 ≤ (a0.size : Int)) = true := decide_eq_true c29
                              clear c29
                              simp only [Option.some.injEq, Prod.mk.injEq] at H
                              obtain ⟨rfl, rfl, rfl, rfl, rfl⟩ := H
                              have p18 : 0 ≤ (a1 : Int) := of_decide_eq_true (by first | (with_reducible assumption) | assumption)
                              have q18 : a1 < (a0.size : Int) := of_decide_eq_true (by first | (with_reducible assumption) | assumption)
                              have hx18 := bt_at a0 a1
                              replace p18 := eq_true p18
                              replace q18 := eq_true q18
                              have p23 : 0 ≤ (x6_1 : Int) := of_decide_eq_true (by first | (with_reducible assumption) | assumption)
                              have q23 : x6_1 < (a0.size : Int) := of_decide_eq_true (by first | (with_reducible assumption) | assumption)
                              have hx23 := bt_at a0 x6_1
                              replace p23 := eq_true p23
                              replace q23 := eq_true q23
                              go_wp2_with (first | (go_at_call 26; (with_reducible refine (mortiseref4_Letter.calls (bt a0 x6_1) false _ A24.out).mono ?_); rintro e w' ⟨rfl, ⟨nd, rfl⟩⟩; (try (rw [drewN_self wc]; generalize hq_ : World.drewN wc _ = wc; have n0_ : Aside0 (wc.heap[gb195]? = some (.cells #[.int .i64 x196000_1, .string x196001_1, .int .i64 x196002_1, .int .i64 x196003_1] 31 (0, 0))) := ⟨by rw [← hq_]; exact (by (with_reducible repeat (first | refine blk_drewN ?_ _ | refine blk_drew ?_ | refine blk_alloc ?_ _)); exact BK195.out)⟩; have n1_ : Aside0 (Below w.heap.size w wc) := ⟨by rw [← hq_]; exact (by repeat (first | (with_reducible first | exact HB.out | apply below_alloc | apply pw_below_drewN | apply below_drew1 | refine below_set ?_ GE195.out) | exact HB.out))⟩; clear BK195 HB hq_; have BK195 := n0_; have HB := n1_; clear n0_ n1_)); have hcz30_0 : wc.cell? ⟨gb195, 0, none⟩ = some (.int .i64 x196000_1) := (blk_cell BK195.out 0).trans rfl; have hcz30_1 : wc.cell? ⟨gb195, 1, none⟩ = some (.string x196001_1) := (blk_cell BK195.out 1).trans rfl; have hcz30_2 : wc.cell? ⟨gb195, 2, none⟩ = some (.int .i64 x196002_1) := (blk_cell BK195.out 2).trans rfl; have hcz30_3 : wc.cell? ⟨gb195, 3, none⟩ = some (.int .i64 x196003_1) := (blk_cell BK195.out 3).trans rfl; have hfz30_0 := blk_frozen BK195.out 0; have hfz30_1 := blk_frozen BK195.out 1; have hfz30_2 := blk_frozen BK195.out 2; have hfz30_3 := blk_frozen BK195.out 3))
                              refine bodyPost_ret (results_ct rfl _ _ gb195 31 #[.int .i64 3, .string (a0.extract (a1 : Int).toNat (x6_1 : Int).toNat), .int .i64 x7_1, .int .i64 a1] (0, 0) _ rfl (by (with_reducible repeat (first | refine blk_drewN ?_ _ | refine blk_drew ?_ | refine blk_alloc ?_ _)); refine blk_put (cs := #[.int .i64 3, .string (a0.extract (a1 : Int).toNat (x6_1 : Int).toNat), .int .i64 x7_1, .int .i64 x196003_1]) ?_ 3 _ rfl; (with_reducible repeat (first | refine blk_drewN ?_ _ | refine blk_drew ?_ | refine blk_alloc ?_ _)); refine blk_put (cs := #[.int .i64 3, .string (a0.extract (a1 : Int).toNat (x6_1 : Int).toNat), .int .i64 x196002_1, .int .i64 x196003_1]) ?_ 2 _ rfl; (with_reducible repeat (first | refine blk_drewN ?_ _ | refine blk_drew ?_ | refine blk_alloc ?_ _)); refine blk_put (cs := #[.int .i64 3, .string x196001_1, .int .i64 x196002_1, .int .i64 x196003_1]) ?_ 1 _ rfl; (with_reducible repeat (first | refine blk_drewN ?_ _ | refine blk_drew ?_ | refine blk_alloc ?_ _)); refine blk_put (cs := #[.int .i64 x196000_1, .string x196001_1, .int .i64 x196002_1, .int .i64 x196003_1]) ?_ 0 _ rfl; (with_reducible repeat (first | refine blk_drewN ?_ _ | refine blk_drew ?_ | refine blk_alloc ?_ _)); exact BK195.out) Try.underlying31 rfl (by kernel_rfl)) rfl ?_
                              exact ⟨by first | rfl | (simp [errW_none, errW_some] <;> rfl) | (simp [*, errW_none, errW_some] <;> rfl), by repeat (first | (with_reducible first | exact HB.out | apply below_alloc | apply pw_below_drewN | apply below_drew1 | refine below_set ?_ GE195.out) | exact HB.out)⟩
                            · rw [if_neg c29] at H
                              exact absurd H (by simp)
                          · rw [if_neg c28] at H
                            exact absurd H (by simp)
                      · rw [if_neg c22] at H
                        exact absurd H (by simp)
                    · rw [if_neg c21] at H
                      have c21b0 : decide (x6_1 < (a0.size : Int)) = false := decide_eq_false c21
                      clear c21
                      have c31b0 := eq_true (of_decide_eq_true (by first | (with_reducible assumption) | assumption) : 0 ≤ a1)
                      by_cases c32 : a1 ≤ x6_1
                      · rw [if_pos c32] at H
                        have c32b0 := eq_true c32
                        have c32b1 : decide (a1 ≤ x6_1) = true := decide_eq_true c32
                        clear c32
                        by_cases c33 : x6_1 ≤ (a0.size : Int)
                        · rw [if_pos c33] at H
                          have c33b0 := eq_true c33
                          have c33b1 : decide (x6_1 ≤ (a0.size : Int)) = true := decide_eq_true c33
                          clear c33
                          simp only [Option.some.injEq, Prod.mk.injEq] at H
                          obtain ⟨rfl, rfl, rfl, rfl, rfl⟩ := H
                          have p18 : 0 ≤ (a1 : Int) := of_decide_eq_true (by first | (with_reducible assumption) | assumption)
                          have q18 : a1 < (a0.size : Int) := of_decide_eq_true (by first | (with_reducible assumption) | assumption)
                          have hx18 := bt_at a0 a1
                          replace p18 := eq_true p18
                          replace q18 := eq_true q18
                          have hcz34_0 : wc.cell? ⟨gb195, 0, none⟩ = some (.int .i64 x196000_1) := (blk_cell BK195.out 0).trans rfl
                          have hcz34_1 : wc.cell? ⟨gb195, 1, none⟩ = some (.string x196001_1) := (blk_cell BK195.out 1).trans rfl
                          have hcz34_2 : wc.cell? ⟨gb195, 2, none⟩ = some (.int .i64 x196002_1) := (blk_cell BK195.out 2).trans rfl
                          have hcz34_3 : wc.cell? ⟨gb195, 3, none⟩ = some (.int .i64 x196003_1) := (blk_cell BK195.out 3).trans rfl
                          have hfz34_0 := blk_frozen BK195.out 0
                          have hfz34_1 := blk_frozen BK195.out 1
                          have hfz34_2 := blk_frozen BK195.out 2
                          have hfz34_3 := blk_frozen BK195.out 3
                          go_wp2
                          refine bodyPost_ret (results_ct rfl _ _ gb195 31 #[.int .i64 3, .string (a0.extract (a1 : Int).toNat (x6_1 : Int).toNat), .int .i64 x7_1, .int .i64 a1] (0, 0) _ rfl (by (with_reducible repeat (first | refine blk_drewN ?_ _ | refine blk_drew ?_ | refine blk_alloc ?_ _)); refine blk_put (cs := #[.int .i64 3, .string (a0.extract (a1 : Int).toNat (x6_1 : Int).toNat), .int .i64 x7_1, .int .i64 x196003_1]) ?_ 3 _ rfl; (with_reducible repeat (first | refine blk_drewN ?_ _ | refine blk_drew ?_ | refine blk_alloc ?_ _)); refine blk_put (cs := #[.int .i64 3, .string (a0.extract (a1 : Int).toNat (x6_1 : Int).toNat), .int .i64 x196002_1, .int .i64 x196003_1]) ?_ 2 _ rfl; (with_reducible repeat (first | refine blk_drewN ?_ _ | refine blk_drew ?_ | refine blk_alloc ?_ _)); refine blk_put (cs := #[.int .i64 3, .string x196001_1, .int .i64 x196002_1, .int .i64 x196003_1]) ?_ 1 _ rfl; (with_reducible repeat (first | refine blk_drewN ?_ _ | refine blk_drew ?_ | refine blk_alloc ?_ _)); refine blk_put (cs := #[.int .i64 x196000_1, .string x196001_1, .int .i64 x196002_1, .int .i64 x196003_1]) ?_ 0 _ rfl; (with_reducible repeat (first | refine blk_drewN ?_ _ | refine blk_drew ?_ | refine blk_alloc ?_ _)); exact BK195.out) Try.underlying31 rfl (by kernel_rfl)) rfl ?_
                          exact ⟨by first | rfl | (simp [errW_none, errW_some] <;> rfl) | (simp [*, errW_none, errW_some] <;> rfl), by repeat (first | (with_reducible first | exact HB.out | apply below_alloc | apply pw_below_drewN | apply below_drew1 | refine below_set ?_ GE195.out) | exact HB.out)⟩
                        · rw [if_neg c33] at H
                          exact absurd H (by simp)
                      · rw [if_neg c32] at H
                        exact absurd H (by simp)
                · rw [if_neg c17] at H
                  exact absurd H (by simp)
              · rw [if_neg c16] at H
                exact absurd H (by simp)
            · rw [if_neg c15] at H
              have c15b0 : decide ((wrap64 (a1 + 1)) < x6_1) = false := decide_eq_false c15
              clear c15
              by_cases c35 : x6_1 < (a0.size : Int)
              · rw [if_pos c35] at H
                have c35b0 : decide (x6_1 < (a0.size : Int)) = true := decide_eq_true c35
                clear c35
                by_cases c36 : 0 ≤ x6_1
                · rw [if_pos c36] at H
                  have c36b0 : decide (0 ≤ x6_1) = true := decide_eq_true c36
                  clear c36
                  replace H := Option.bind_eq_some_iff.mp H
                  obtain ⟨t198, A380, H⟩ := H
                  replace H : (if t198 = true then (some (0, (⟨#[]⟩ : ByteArray), 0, 0, false)) else (if 0 ≤ a1 then (if a1 ≤ x6_1 then (if x6_1 ≤ (a0.size : Int) then (some (3, a0.extract (a1 : Int).toNat (x6_1 : Int).toNat, x7_1, a1, true)) else (none)) else (none)) else (none))) = some (r1, r2, r3, r4, r5) := H
                  have A38 := Aside0.mk A380
                  clear A380
                  by_cases c39 : t198 = true
                  · subst c39
                    have H1 : (some (0, (⟨#[]⟩ : ByteArray), 0, 0, false)) = some (r1, r2, r3, r4, r5) := by rw [if_pos rfl] at H; exact H
                    clear H
                    have H := H1
                    clear H1
                    simp only [Option.some.injEq, Prod.mk.injEq] at H
                    obtain ⟨rfl, rfl, rfl, rfl, rfl⟩ := H
                    have p37 : 0 ≤ (x6_1 : Int) := of_decide_eq_true (by first | (with_reducible assumption) | assumption)
                    have q37 : x6_1 < (a0.size : Int) := of_decide_eq_true (by first | (with_reducible assumption) | assumption)
                    have hx37 := bt_at a0 x6_1
                    replace p37 := eq_true p37
                    replace q37 := eq_true q37
                    go_wp2_with (first | (go_at_call 26; (with_reducible refine (mortiseref4_Letter.calls (bt a0 x6_1) true _ A38.out).mono ?_); rintro e w' ⟨rfl, ⟨nd, rfl⟩⟩; (try (rw [drewN_self wc]; generalize hq_ : World.drewN wc _ = wc; have n0_ : Aside0 (wc.heap[gb195]? = some (.cells #[.int .i64 x196000_1, .string x196001_1, .int .i64 x196002_1, .int .i64 x196003_1] 31 (0, 0))) := ⟨by rw [← hq_]; exact (by (with_reducible repeat (first | refine blk_drewN ?_ _ | refine blk_drew ?_ | refine blk_alloc ?_ _)); exact BK195.out)⟩; have n1_ : Aside0 (Below w.heap.size w wc) := ⟨by rw [← hq_]; exact (by repeat (first | (with_reducible first | exact HB.out | apply below_alloc | apply pw_below_drewN | apply below_drew1 | refine below_set ?_ GE195.out) | exact HB.out))⟩; clear BK195 HB hq_; have BK195 := n0_; have HB := n1_; clear n0_ n1_)); have hcz40_0 : wc.cell? ⟨gb195, 0, none⟩ = some (.int .i64 x196000_1) := (blk_cell BK195.out 0).trans rfl; have hcz40_1 : wc.cell? ⟨gb195, 1, none⟩ = some (.string x196001_1) := (blk_cell BK195.out 1).trans rfl; have hcz40_2 : wc.cell? ⟨gb195, 2, none⟩ = some (.int .i64 x196002_1) := (blk_cell BK195.out 2).trans rfl; have hcz40_3 : wc.cell? ⟨gb195, 3, none⟩ = some (.int .i64 x196003_1) := (blk_cell BK195.out 3).trans rfl; have hfz40_0 := blk_frozen BK195.out 0; have hfz40_1 := blk_frozen BK195.out 1; have hfz40_2 := blk_frozen BK195.out 2; have hfz40_3 := blk_frozen BK195.out 3))
                    refine bodyPost_ret (results_ct rfl _ _ gb195 31 #[.int .i64 0, .string (⟨#[]⟩ : ByteArray), .int .i64 0, .int .i64 0] (0, 0) _ rfl (by (with_reducible repeat (first | refine blk_drewN ?_ _ | refine blk_drew ?_ | refine blk_alloc ?_ _)); refine blk_put (cs := #[.int .i64 0, .string (⟨#[]⟩ : ByteArray), .int .i64 0, .int .i64 x196003_1]) ?_ 3 _ rfl; (with_reducible repeat (first | refine blk_drewN ?_ _ | refine blk_drew ?_ | refine blk_alloc ?_ _)); refine blk_put (cs := #[.int .i64 0, .string (⟨#[]⟩ : ByteArray), .int .i64 x196002_1, .int .i64 x196003_1]) ?_ 2 _ rfl; (with_reducible repeat (first | refine blk_drewN ?_ _ | refine blk_drew ?_ | refine blk_alloc ?_ _)); refine blk_put (cs := #[.int .i64 0, .string x196001_1, .int .i64 x196002_1, .int .i64 x196003_1]) ?_ 1 _ rfl; (with_reducible repeat (first | refine blk_drewN ?_ _ | refine blk_drew ?_ | refine blk_alloc ?_ _)); refine blk_put (cs := #[.int .i64 x196000_1, .string x196001_1, .int .i64 x196002_1, .int .i64 x196003_1]) ?_ 0 _ rfl; (with_reducible repeat (first | refine blk_drewN ?_ _ | refine blk_drew ?_ | refine blk_alloc ?_ _)); exact BK195.out) Try.underlying31 rfl (by kernel_rfl)) rfl ?_
                    exact ⟨by first | rfl | (simp [errW_none, errW_some] <;> rfl) | (simp [*, errW_none, errW_some] <;> rfl), by repeat (first | (with_reducible first | exact HB.out | apply below_alloc | apply pw_below_drewN | apply below_drew1 | refine below_set ?_ GE195.out) | exact HB.out)⟩
                  · replace c39 := Bool.eq_false_iff.mpr c39
                    subst c39
                    have H1 : (if 0 ≤ a1 then (if a1 ≤ x6_1 then (if x6_1 ≤ (a0.size : Int) then (some (3, a0.extract (a1 : Int).toNat (x6_1 : Int).toNat, x7_1, a1, true)) else (none)) else (none)) else (none)) = some (r1, r2, r3, r4, r5) := by rw [if_neg (show ¬ (false = true) by decide)] at H; exact H
                    clear H
                    have H := H1
                    clear H1
                    by_cases c41 : 0 ≤ a1
                    · rw [if_pos c41] at H
                      have c41b0 := eq_true c41
                      have c41b1 : decide (0 ≤ a1) = true := decide_eq_true c41
                      clear c41
                      by_cases c42 : a1 ≤ x6_1
                      · rw [if_pos c42] at H
                        have c42b0 := eq_true c42
                        have c42b1 : decide (a1 ≤ x6_1) = true := decide_eq_true c42
                        clear c42
                        by_cases c43 : x6_1 ≤ (a0.size : Int)
                        · rw [if_pos c43] at H
                          have c43b0 := eq_true c43
                          have c43b1 : decide (x6_1 ≤ (a0.size : Int)) = true := decide_eq_true c43
                          clear c43
                          simp only [Option.some.injEq, Prod.mk.injEq] at H
                          obtain ⟨rfl, rfl, rfl, rfl, rfl⟩ := H
                          have p37 : 0 ≤ (x6_1 : Int) := of_decide_eq_true (by first | (with_reducible assumption) | assumption)
                          have q37 : x6_1 < (a0.size : Int) := of_decide_eq_true (by first | (with_reducible assumption) | assumption)
                          have hx37 := bt_at a0 x6_1
                          replace p37 := eq_true p37
                          replace q37 := eq_true q37
                          go_wp2_with (first | (go_at_call 26; (with_reducible refine (mortiseref4_Letter.calls (bt a0 x6_1) false _ A38.out).mono ?_); rintro e w' ⟨rfl, ⟨nd, rfl⟩⟩; (try (rw [drewN_self wc]; generalize hq_ : World.drewN wc _ = wc; have n0_ : Aside0 (wc.heap[gb195]? = some (.cells #[.int .i64 x196000_1, .string x196001_1, .int .i64 x196002_1, .int .i64 x196003_1] 31 (0, 0))) := ⟨by rw [← hq_]; exact (by (with_reducible repeat (first | refine blk_drewN ?_ _ | refine blk_drew ?_ | refine blk_alloc ?_ _)); exact BK195.out)⟩; have n1_ : Aside0 (Below w.heap.size w wc) := ⟨by rw [← hq_]; exact (by repeat (first | (with_reducible first | exact HB.out | apply below_alloc | apply pw_below_drewN | apply below_drew1 | refine below_set ?_ GE195.out) | exact HB.out))⟩; clear BK195 HB hq_; have BK195 := n0_; have HB := n1_; clear n0_ n1_)); have hcz44_0 : wc.cell? ⟨gb195, 0, none⟩ = some (.int .i64 x196000_1) := (blk_cell BK195.out 0).trans rfl; have hcz44_1 : wc.cell? ⟨gb195, 1, none⟩ = some (.string x196001_1) := (blk_cell BK195.out 1).trans rfl; have hcz44_2 : wc.cell? ⟨gb195, 2, none⟩ = some (.int .i64 x196002_1) := (blk_cell BK195.out 2).trans rfl; have hcz44_3 : wc.cell? ⟨gb195, 3, none⟩ = some (.int .i64 x196003_1) := (blk_cell BK195.out 3).trans rfl; have hfz44_0 := blk_frozen BK195.out 0; have hfz44_1 := blk_frozen BK195.out 1; have hfz44_2 := blk_frozen BK195.out 2; have hfz44_3 := blk_frozen BK195.out 3))
                          refine bodyPost_ret (results_ct rfl _ _ gb195 31 #[.int .i64 3, .string (a0.extract (a1 : Int).toNat (x6_1 : Int).toNat), .int .i64 x7_1, .int .i64 a1] (0, 0) _ rfl (by (with_reducible repeat (first | refine blk_drewN ?_ _ | refine blk_drew ?_ | refine blk_alloc ?_ _)); refine blk_put (cs := #[.int .i64 3, .string (a0.extract (a1 : Int).toNat (x6_1 : Int).toNat), .int .i64 x7_1, .int .i64 x196003_1]) ?_ 3 _ rfl; (with_reducible repeat (first | refine blk_drewN ?_ _ | refine blk_drew ?_ | refine blk_alloc ?_ _)); refine blk_put (cs := #[.int .i64 3, .string (a0.extract (a1 : Int).toNat (x6_1 : Int).toNat), .int .i64 x196002_1, .int .i64 x196003_1]) ?_ 2 _ rfl; (with_reducible repeat (first | refine blk_drewN ?_ _ | refine blk_drew ?_ | refine blk_alloc ?_ _)); refine blk_put (cs := #[.int .i64 3, .string x196001_1, .int .i64 x196002_1, .int .i64 x196003_1]) ?_ 1 _ rfl; (with_reducible repeat (first | refine blk_drewN ?_ _ | refine blk_drew ?_ | refine blk_alloc ?_ _)); refine blk_put (cs := #[.int .i64 x196000_1, .string x196001_1, .int .i64 x196002_1, .int .i64 x196003_1]) ?_ 0 _ rfl; (with_reducible repeat (first | refine blk_drewN ?_ _ | refine blk_drew ?_ | refine blk_alloc ?_ _)); exact BK195.out) Try.underlying31 rfl (by kernel_rfl)) rfl ?_
                          exact ⟨by first | rfl | (simp [errW_none, errW_some] <;> rfl) | (simp [*, errW_none, errW_some] <;> rfl), by repeat (first | (with_reducible first | exact HB.out | apply below_alloc | apply pw_below_drewN | apply below_drew1 | refine below_set ?_ GE195.out) | exact HB.out)⟩
                        · rw [if_neg c43] at H
                          exact absurd H (by simp)
                      · rw [if_neg c42] at H
                        exact absurd H (by simp)
                    · rw [if_neg c41] at H
                      exact absurd H (by simp)
                · rw [if_neg c36] at H
                  exact absurd H (by simp)
              · rw [if_neg c35] at H
                have c35b0 : decide (x6_1 < (a0.size : Int)) = false := decide_eq_false c35
                clear c35
                by_cases c45 : 0 ≤ a1
                · rw [if_pos c45] at H
                  have c45b0 := eq_true c45
                  have c45b1 : decide (0 ≤ a1) = true := decide_eq_true c45
                  clear c45
                  by_cases c46 : a1 ≤ x6_1
                  · rw [if_pos c46] at H
                    have c46b0 := eq_true c46
                    have c46b1 : decide (a1 ≤ x6_1) = true := decide_eq_true c46
                    clear c46
                    by_cases c47 : x6_1 ≤ (a0.size : Int)
                    · rw [if_pos c47] at H
                      have c47b0 := eq_true c47
                      have c47b1 : decide (x6_1 ≤ (a0.size : Int)) = true := decide_eq_true c47
                      clear c47
                      simp only [Option.some.injEq, Prod.mk.injEq] at H
                      obtain ⟨rfl, rfl, rfl, rfl, rfl⟩ := H
                      have hcz48_0 : wc.cell? ⟨gb195, 0, none⟩ = some (.int .i64 x196000_1) := (blk_cell BK195.out 0).trans rfl
                      have hcz48_1 : wc.cell? ⟨gb195, 1, none⟩ = some (.string x196001_1) := (blk_cell BK195.out 1).trans rfl
                      have hcz48_2 : wc.cell? ⟨gb195, 2, none⟩ = some (.int .i64 x196002_1) := (blk_cell BK195.out 2).trans rfl
                      have hcz48_3 : wc.cell? ⟨gb195, 3, none⟩ = some (.int .i64 x196003_1) := (blk_cell BK195.out 3).trans rfl
                      have hfz48_0 := blk_frozen BK195.out 0
                      have hfz48_1 := blk_frozen BK195.out 1
                      have hfz48_2 := blk_frozen BK195.out 2
                      have hfz48_3 := blk_frozen BK195.out 3
                      go_wp2
                      refine bodyPost_ret (results_ct rfl _ _ gb195 31 #[.int .i64 3, .string (a0.extract (a1 : Int).toNat (x6_1 : Int).toNat), .int .i64 x7_1, .int .i64 a1] (0, 0) _ rfl (by (with_reducible repeat (first | refine blk_drewN ?_ _ | refine blk_drew ?_ | refine blk_alloc ?_ _)); refine blk_put (cs := #[.int .i64 3, .string (a0.extract (a1 : Int).toNat (x6_1 : Int).toNat), .int .i64 x7_1, .int .i64 x196003_1]) ?_ 3 _ rfl; (with_reducible repeat (first | refine blk_drewN ?_ _ | refine blk_drew ?_ | refine blk_alloc ?_ _)); refine blk_put (cs := #[.int .i64 3, .string (a0.extract (a1 : Int).toNat (x6_1 : Int).toNat), .int .i64 x196002_1, .int .i64 x196003_1]) ?_ 2 _ rfl; (with_reducible repeat (first | refine blk_drewN ?_ _ | refine blk_drew ?_ | refine blk_alloc ?_ _)); refine blk_put (cs := #[.int .i64 3, .string x196001_1, .int .i64 x196002_1, .int .i64 x196003_1]) ?_ 1 _ rfl; (with_reducible repeat (first | refine blk_drewN ?_ _ | refine blk_drew ?_ | refine blk_alloc ?_ _)); refine blk_put (cs := #[.int .i64 x196000_1, .string x196001_1, .int .i64 x196002_1, .int .i64 x196003_1]) ?_ 0 _ rfl; (with_reducible repeat (first | refine blk_drewN ?_ _ | refine blk_drew ?_ | refine blk_alloc ?_ _)); exact BK195.out) Try.underlying31 rfl (by kernel_rfl)) rfl ?_
                      exact ⟨by first | rfl | (simp [errW_none, errW_some] <;> rfl) | (simp [*, errW_none, errW_some] <;> rfl), by repeat (first | (with_reducible first | exact HB.out | apply below_alloc | apply pw_below_drewN | apply below_drew1 | refine below_set ?_ GE195.out) | exact HB.out)⟩
                    · rw [if_neg c47] at H
                      exact absurd H (by simp)
                  · rw [if_neg c46] at H
                    exact absurd H (by simp)
                · rw [if_neg c45] at H
                  exact absurd H (by simp)

end Go.Proofs.Ytmmjhdhgohfioaa.Gx
