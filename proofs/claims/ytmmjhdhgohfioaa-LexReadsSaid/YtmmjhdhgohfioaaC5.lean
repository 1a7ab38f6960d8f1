/-
  Written by a program for this claim: Go functions as plain functions, and that the machine's calls do just what these say.
-/
import Derived.Test.YtmmjhdhgohfioaaA0
namespace Go.Proofs.Ytmmjhdhgohfioaa.Gx
open Go.RowKit Go.Proofs.YtmmjhdhgohfioaaW.PrintWords Go.Proofs.YtmmjhdhgohfioaaW.PrintLast Go.Proofs.YtmmjhdhgohfioaaW.PrintMore
attribute [local go_sem] max2_int min2_int max_two min_two max_three min_three max_four min_four
set_option linter.unusedVariables false
set_option linter.unusedSimpArgs false

/-! ### mortiseref4_quoted: function 36 -/
mutual
def mortiseref4_quoted.l0 : Nat → ByteArray → Int → List Int → Int → Option (Int × ByteArray × Int × Int × Int × Bool)
  | 0, _, _, _, _ => none
  | k + 1, x0, x1, x7, x8 => if x8 < (x0.size : Int) then (if 0 ≤ x8 then (mortiseref4_quoted.j1 k x0 x1 x7 x8 ((bt x0 x8) != 34)) else (none)) else (mortiseref4_quoted.j1 k x0 x1 x7 x8 false)
def mortiseref4_quoted.j1 : Nat → ByteArray → Int → List Int → Int → Bool → Option (Int × ByteArray × Int × Int × Int × Bool)
  | 0, _, _, _, _, _ => none
  | k + 1, x0, x1, x7, x8, x21 => if x21 = true then (if 0 ≤ x8 then (if x8 < (x0.size : Int) then (if (bt x0 x8) < 32 then (mortiseref4_quoted.j2 k x0 x1 x7 x8 (bt x0 x8) true) else (mortiseref4_quoted.j2 k x0 x1 x7 x8 (bt x0 x8) (decide ((bt x0 x8) > 126)))) else (none)) else (none)) else (if x8 ≥ (x0.size : Int) then (some (0, (⟨#[]⟩ : ByteArray), 0, 0, 0, false)) else (if (x7.length : Int) > 100 then (some (0, (⟨#[]⟩ : ByteArray), 0, 0, 0, false)) else (some (4, strOfNums x7, 0, x1, wrap64 (x8 + 1), true))))
def mortiseref4_quoted.j2 : Nat → ByteArray → Int → List Int → Int → Int → Bool → Option (Int × ByteArray × Int × Int × Int × Bool)
  | 0, _, _, _, _, _, _ => none
  | k + 1, x0, x1, x7, x8, x9, x30 => if x30 = true then (some (0, (⟨#[]⟩ : ByteArray), 0, 0, 0, false)) else (if x9 = 92 then (if (wrap64 (x8 + 1)) ≥ (x0.size : Int) then (some (0, (⟨#[]⟩ : ByteArray), 0, 0, 0, false)) else (if 0 ≤ (wrap64 (x8 + 1)) then (if (wrap64 (x8 + 1)) < (x0.size : Int) then (if (bt x0 (wrap64 (x8 + 1))) = 110 then (if x7.length < 140737488355328 then (mortiseref4_quoted.l0 k x0 x1 (x7 ++ [10]) (wrap64 ((wrap64 (x8 + 1)) + 1))) else (none)) else (if (bt x0 (wrap64 (x8 + 1))) = 34 then (if x7.length < 140737488355328 then (mortiseref4_quoted.l0 k x0 x1 (x7 ++ [bt x0 (wrap64 (x8 + 1))]) (wrap64 ((wrap64 (x8 + 1)) + 1))) else (none)) else (if (bt x0 (wrap64 (x8 + 1))) = 92 then (if x7.length < 140737488355328 then (mortiseref4_quoted.l0 k x0 x1 (x7 ++ [bt x0 (wrap64 (x8 + 1))]) (wrap64 ((wrap64 (x8 + 1)) + 1))) else (none)) else (some (0, (⟨#[]⟩ : ByteArray), 0, 0, 0, false))))) else (none)) else (none))) else (if x7.length < 140737488355328 then (mortiseref4_quoted.l0 k x0 x1 (x7 ++ [x9]) (wrap64 (x8 + 1))) else (none)))
end
def mortiseref4_quoted.f (k : Nat) (a0 : ByteArray) (a1 : Int) : Option (Int × ByteArray × Int × Int × Int × Bool) := mortiseref4_quoted.l0 k a0 a1 ([] : List Int) (wrap64 (a1 + 1))
theorem mortiseref4_quoted.mono_l : ∀ k, (∀ y0 y1 y2 y3, LeO (mortiseref4_quoted.l0 k y0 y1 y2 y3) (mortiseref4_quoted.l0 (k + 1) y0 y1 y2 y3)) ∧ (∀ y0 y1 y2 y3 y4, LeO (mortiseref4_quoted.j1 k y0 y1 y2 y3 y4) (mortiseref4_quoted.j1 (k + 1) y0 y1 y2 y3 y4)) ∧ (∀ y0 y1 y2 y3 y4 y5, LeO (mortiseref4_quoted.j2 k y0 y1 y2 y3 y4 y5) (mortiseref4_quoted.j2 (k + 1) y0 y1 y2 y3 y4 y5))
  | 0 => ⟨fun _ _ _ _ r h => by simp [mortiseref4_quoted.l0] at h, fun _ _ _ _ _ r h => by simp [mortiseref4_quoted.j1] at h, fun _ _ _ _ _ _ r h => by simp [mortiseref4_quoted.j2] at h⟩
  | k + 1 => by
    obtain ⟨ih0, ih1, ih2⟩ := mortiseref4_quoted.mono_l k
    refine ⟨?_, ?_, ?_⟩
    · intro y0 y1 y2 y3
      unfold mortiseref4_quoted.l0
      repeat' first
      | (with_reducible exact ih0 _ _ _ _)
      | (with_reducible exact ih1 _ _ _ _ _)
      | (with_reducible exact ih2 _ _ _ _ _ _)
      | (with_reducible exact LeO.refl _)
      | (with_reducible exact LeO.none _)
      | (with_reducible refine LeO.ite ?_ ?_)
      | (with_reducible refine LeO.bind ?_ (fun _ => ?_))
      | exact ih0 _ _ _ _
      | exact ih1 _ _ _ _ _
      | exact ih2 _ _ _ _ _ _
      | exact LeO.none _
      | refine LeO.ite ?_ ?_
      | refine LeO.bind ?_ (fun _ => ?_)
    · intro y0 y1 y2 y3 y4
      unfold mortiseref4_quoted.j1
      repeat' first
      | (with_reducible exact ih0 _ _ _ _)
      | (with_reducible exact ih1 _ _ _ _ _)
      | (with_reducible exact ih2 _ _ _ _ _ _)
      | (with_reducible exact LeO.refl _)
      | (with_reducible exact LeO.none _)
      | (with_reducible refine LeO.ite ?_ ?_)
      | (with_reducible refine LeO.bind ?_ (fun _ => ?_))
      | exact ih0 _ _ _ _
      | exact ih1 _ _ _ _ _
      | exact ih2 _ _ _ _ _ _
      | exact LeO.none _
      | refine LeO.ite ?_ ?_
      | refine LeO.bind ?_ (fun _ => ?_)
    · intro y0 y1 y2 y3 y4 y5
      unfold mortiseref4_quoted.j2
      repeat' first
      | (with_reducible exact ih0 _ _ _ _)
      | (with_reducible exact ih1 _ _ _ _ _)
      | (with_reducible exact ih2 _ _ _ _ _ _)
      | (with_reducible exact LeO.refl _)
      | (with_reducible exact LeO.none _)
      | (with_reducible refine LeO.ite ?_ ?_)
      | (with_reducible refine LeO.bind ?_ (fun _ => ?_))
      | exact ih0 _ _ _ _
      | exact ih1 _ _ _ _ _
      | exact ih2 _ _ _ _ _ _
      | exact LeO.none _
      | refine LeO.ite ?_ ?_
      | refine LeO.bind ?_ (fun _ => ?_)
theorem mortiseref4_quoted.mono : ∀ a0 a1 k, LeO (mortiseref4_quoted.f k a0 a1) (mortiseref4_quoted.f (k + 1) a0 a1) := by
  intro a0 a1 k
  obtain ⟨ih0, ih1, ih2⟩ := mortiseref4_quoted.mono_l k
  unfold mortiseref4_quoted.f
  repeat' first
      | (with_reducible exact ih0 _ _ _ _)
      | (with_reducible exact ih1 _ _ _ _ _)
      | (with_reducible exact ih2 _ _ _ _ _ _)
      | (with_reducible exact LeO.refl _)
      | (with_reducible exact LeO.none _)
      | (with_reducible refine LeO.ite ?_ ?_)
      | (with_reducible refine LeO.bind ?_ (fun _ => ?_))
      | exact ih0 _ _ _ _
      | exact ih1 _ _ _ _ _
      | exact ih2 _ _ _ _ _ _
      | exact LeO.none _
      | refine LeO.ite ?_ ?_
      | refine LeO.bind ?_ (fun _ => ?_)
set_option maxHeartbeats 8000000 in
set_option maxRecDepth 100000 in
theorem mortiseref4_quoted.calls (k : Nat) (a0 : ByteArray) (a1 : Int) (r1 : Int) (r2 : ByteArray) (r3 : Int) (r4 : Int) (r5 : Int) (r6 : Bool) (w : World) (h : mortiseref4_quoted.f k a0 a1 = some (r1, r2, r3, r4, r5, r6)) :
    Calls Try.prog 36 #[.string a0, .int .i64 a1] w fun e w' => e = .returned (.tuple #[.agg #[.int .i64 r1, .string r2, .int .i64 r3, .int .i64 r4], .int .i64 r5, .bool r6]) ∧ Below w.heap.size w w' := by
  have hu31 := Try.underlying31
  have HB := Aside0.mk (Below.refl w.heap.size w)
  have H : (mortiseref4_quoted.l0 k a0 a1 ([] : List Int) (wrap64 (a1 + 1))) = some (r1, r2, r3, r4, r5, r6) := h
  clear h
  have H' := Aside0.mk H
  clear H
  go_enter Try.func36, Try.ntmps36
  go_wp2_with (first | ((with_reducible refine gate_dst (N := 4) rfl ?_); (try (refine gate_guard (by rfl) ?_; dsimp only)); refine box_event ?hg (N := 4) ?hd (cs := #[.int .i64 0, .string (⟨#[]⟩ : ByteArray), .int .i64 0, .int .i64 0]) (t := 31) ?hr ?_; (case hd => rfl); (case hg => rfl); (case hr => first | (go_simp; done) | (go_simp; rfl)); intro gb199 hg w3 hbox hb; have n0_ := Aside0.mk (below_step (by repeat (first | (with_reducible first | exact HB.out | apply below_alloc | apply pw_below_drewN | apply below_drew1) | exact HB.out)) hb); have n1_ := Aside0.mk (hbox); have n2_ := Aside0.mk ((by rw [hg]; exact (below_size (by repeat (first | (with_reducible first | exact HB.out | apply below_alloc | apply pw_below_drewN | apply below_drew1) | exact HB.out))) : w.heap.size ≤ gb199)); have n3_ := Aside0.mk ((by rw [hg]; exact (below_size (by repeat (first | (with_reducible first | exact HB.out | apply below_alloc | apply pw_below_drewN | apply below_drew1) | exact HB.out))) : w.heap.size ≤ gb199)); clear HB; have HB := n0_; have BK199 := n1_; have GW199 := n2_; have GE199 := n3_; clear n0_ n1_ n2_ n3_; clear hb hbox hg))
  go_loopg [7, 8] k (fun kq v7 v8 w' => ∃ (x7_1 : List Int) (x8_1 : Int) (x200000_1 : Int) (x200001_1 : ByteArray) (x200002_1 : Int) (x200003_1 : Int), v8 = .int .i64 x8_1 ∧ Aside0 (mortiseref4_quoted.l0 kq a0 a1 x7_1 x8_1 = some (r1, r2, r3, r4, r5, r6)) ∧ Aside0 (kq ≤ k) ∧ Aside0 (Kd.R (Kd.int .u8) 5 w' w.heap.size (fun _ => True) v7 x7_1) ∧ Aside0 (w'.heap[gb199]? = some (.cells #[.int .i64 x200000_1, .string x200001_1, .int .i64 x200002_1, .int .i64 x200003_1] 31 (0, 0))) ∧ Aside0 (Below w.heap.size w w'))
  case atStart => exact ⟨(([] : List Int)), (wrap64 (a1 + 1)), (0), ((⟨#[]⟩ : ByteArray)), (0), (0), (by first | rfl | (simp; done) | (simp [*]; done)), H', ⟨Nat.le_refl _⟩, ⟨by first | exact Kd.R_nil _ _ _ _ _ | exact Kd.N_nil _ _ _ _ _ | exact Kd.V_nil _ _ _ _ _ | exact Kd.Q_nil _ _ _ _ _ | exact Kd.S_nil _ _ _ _ _⟩, ⟨by (with_reducible repeat (first | refine blk_drewN ?_ _ | refine blk_drew ?_ | refine blk_alloc ?_ _)); exact BK199.out⟩, ⟨by repeat (first | (with_reducible first | exact HB.out | apply below_alloc | apply pw_below_drewN | apply below_drew1 | refine below_set ?_ GE199.out) | exact HB.out)⟩⟩
  case round =>
    clear H'
    try clear p2
    try clear c3
    obtain ⟨x7_1, x8_1, x200000_1, x200001_1, x200002_1, x200003_1, rfl, HA, HK1, HO_7, BK199, HB⟩ := hrel
    cases gk with
    | zero => exact absurd HA.out (by simp [mortiseref4_quoted.l0])
    | succ k1 =>
      have H := HA.out
      clear HA
      simp only [mortiseref4_quoted.l0] at H
      have HC4 := Aside0.mk H
      clear H
      go_upto_region 3 with (fail)
      go_cut [21] (fun v21 wc => ∃ (kq : Nat) (x21_3 : Bool), v21 = .bool x21_3 ∧ Aside0 (mortiseref4_quoted.j1 kq a0 a1 x7_1 x8_1 x21_3 = some (r1, r2, r3, r4, r5, r6)) ∧ Aside0 (kq ≤ k1) ∧ Aside0 (Kd.R (Kd.int .u8) 5 wc w.heap.size (fun _ => True) u7 x7_1) ∧ Aside0 (wc.heap[gb199]? = some (.cells #[.int .i64 x200000_1, .string x200001_1, .int .i64 x200002_1, .int .i64 x200003_1] 31 (0, 0))) ∧ Aside0 (Below w.heap.size w wc))
      case first =>
        have H := HC4.out
        clear HC4
        by_cases c5 : x8_1 < (a0.size : Int)
        · rw [if_pos c5] at H
          have c5b0 : decide (x8_1 < (a0.size : Int)) = true := decide_eq_true c5
          clear c5
          (first | rw [c5b0] | (simp only [i64_w, i32_w]; rw [c5b0]) | skip)
          by_cases c6 : 0 ≤ x8_1
          · rw [if_pos c6] at H
            have c6b0 : decide (0 ≤ x8_1) = true := decide_eq_true c6
            clear c6
            have H' := Aside0.mk H
            clear H
            have p7 : 0 ≤ (x8_1 : Int) := of_decide_eq_true (by first | (with_reducible assumption) | assumption)
            have q7 : x8_1 < (a0.size : Int) := of_decide_eq_true (by first | (with_reducible assumption) | assumption)
            have hx7 := bt_at a0 x8_1
            replace p7 := eq_true p7
            replace q7 := eq_true q7
            go_wp2
            go_meet
            case rel => exact ⟨_, (((bt a0 x8_1) != 34)), (by first | rfl | (simp; done) | (simp [*]; done)), H', ⟨by have := HK1.out; first | omega | exact Nat.le_refl _⟩, ⟨by (with_reducible repeat (first | apply Kd.R_alloc | apply Kd.R_drewN | apply Kd.R_drew)); exact HO_7.out⟩, ⟨by (with_reducible repeat (first | refine blk_drewN ?_ _ | refine blk_drew ?_ | refine blk_alloc ?_ _)); exact BK199.out⟩, ⟨by repeat (first | (with_reducible first | exact HB.out | apply below_alloc | apply pw_below_drewN | apply below_drew1 | refine below_set ?_ GE199.out) | exact HB.out)⟩⟩
          · rw [if_neg c6] at H
            exact absurd H (by simp)
        · rw [if_neg c5] at H
          have c5b0 : decide (x8_1 < (a0.size : Int)) = false := decide_eq_false c5
          clear c5
          (first | rw [c5b0] | (simp only [i64_w, i32_w]; rw [c5b0]) | skip)
          have H' := Aside0.mk H
          clear H
          go_wp2
          go_meet
          case rel => exact ⟨_, (false), (by first | rfl | (simp; done) | (simp [*]; done)), H', ⟨by have := HK1.out; first | omega | exact Nat.le_refl _⟩, ⟨by (with_reducible repeat (first | apply Kd.R_alloc | apply Kd.R_drewN | apply Kd.R_drew)); exact HO_7.out⟩, ⟨by (with_reducible repeat (first | refine blk_drewN ?_ _ | refine blk_drew ?_ | refine blk_alloc ?_ _)); exact BK199.out⟩, ⟨by repeat (first | (with_reducible first | exact HB.out | apply below_alloc | apply pw_below_drewN | apply below_drew1 | refine below_set ?_ GE199.out) | exact HB.out)⟩⟩
      case rest =>
        clear HC4
        try clear p2
        try clear c3
        try clear c5
        try clear c5b0
        try clear c6
        try clear c6b0
        try clear p6
        try clear p7
        try clear q7
        try clear hx7
        try clear p2
        try clear p7
        try clear q7
        obtain ⟨kq, x21_3, rfl, HA, HJ3, HO_7, BK199, HB⟩ := hcut
        cases kq with
        | zero => exact absurd HA.out (by simp [mortiseref4_quoted.j1])
        | succ kj3 =>
          have H := HA.out
          clear HA
          simp only [mortiseref4_quoted.j1] at H
          by_cases c8 : x21_3 = true
          · subst c8
            have H1 : (if 0 ≤ x8_1 then (if x8_1 < (a0.size : Int) then (if (bt a0 x8_1) < 32 then (mortiseref4_quoted.j2 kj3 a0 a1 x7_1 x8_1 (bt a0 x8_1) true) else (mortiseref4_quoted.j2 kj3 a0 a1 x7_1 x8_1 (bt a0 x8_1) (decide ((bt a0 x8_1) > 126)))) else (none)) else (none)) = some (r1, r2, r3, r4, r5, r6) := by rw [if_pos rfl] at H; exact H
            clear H
            have H := H1
            clear H1
            by_cases c9 : 0 ≤ x8_1
            · rw [if_pos c9] at H
              have c9b0 : decide (0 ≤ x8_1) = true := decide_eq_true c9
              clear c9
              by_cases c10 : x8_1 < (a0.size : Int)
              · rw [if_pos c10] at H
                have c10b0 : decide (x8_1 < (a0.size : Int)) = true := decide_eq_true c10
                clear c10
                have HC12 := Aside0.mk H
                clear H
                have p11 : 0 ≤ (x8_1 : Int) := of_decide_eq_true (by first | (with_reducible assumption) | assumption)
                have q11 : x8_1 < (a0.size : Int) := of_decide_eq_true (by first | (with_reducible assumption) | assumption)
                have hx11 := bt_at a0 x8_1
                replace p11 := eq_true p11
                replace q11 := eq_true q11
                go_upto_region 5 with (fail)
                go_cut [30] (fun v30 wc => ∃ (kq : Nat) (x30_11 : Bool), v30 = .bool x30_11 ∧ Aside0 (mortiseref4_quoted.j2 kq a0 a1 x7_1 x8_1 (bt a0 x8_1) x30_11 = some (r1, r2, r3, r4, r5, r6)) ∧ Aside0 (kq ≤ kj3) ∧ Aside0 (Kd.R (Kd.int .u8) 5 wc w.heap.size (fun _ => True) u7 x7_1) ∧ Aside0 (wc.heap[gb199]? = some (.cells #[.int .i64 x200000_1, .string x200001_1, .int .i64 x200002_1, .int .i64 x200003_1] 31 (0, 0))) ∧ Aside0 (Below w.heap.size w wc))
                case first =>
                  have H := HC12.out
                  clear HC12
                  by_cases c13 : (bt a0 x8_1) < 32
                  · rw [if_pos c13] at H
                    have c13b0 : decide ((bt a0 x8_1) < 32) = true := decide_eq_true c13
                    clear c13
                    (first | rw [c13b0] | (simp only [i64_w, i32_w]; rw [c13b0]) | skip)
                    have H' := Aside0.mk H
                    clear H
                    go_wp2
                    go_meet
                    case rel => exact ⟨_, (true), (by first | rfl | (simp; done) | (simp [*]; done)), H', ⟨by have := HK1.out; have := HJ3.out; first | omega | exact Nat.le_refl _⟩, ⟨by (with_reducible repeat (first | apply Kd.R_alloc | apply Kd.R_drewN | apply Kd.R_drew)); exact HO_7.out⟩, ⟨by (with_reducible repeat (first | refine blk_drewN ?_ _ | refine blk_drew ?_ | refine blk_alloc ?_ _)); exact BK199.out⟩, ⟨by repeat (first | (with_reducible first | exact HB.out | apply below_alloc | apply pw_below_drewN | apply below_drew1 | refine below_set ?_ GE199.out) | exact HB.out)⟩⟩
                  · rw [if_neg c13] at H
                    have c13b0 : decide ((bt a0 x8_1) < 32) = false := decide_eq_false c13
                    clear c13
                    (first | rw [c13b0] | (simp only [i64_w, i32_w]; rw [c13b0]) | skip)
                    have H' := Aside0.mk H
                    clear H
                    go_wp2
                    go_meet
                    case rel => exact ⟨_, (decide ((bt a0 x8_1) > 126)), (by first | rfl | (simp; done) | (simp [*]; done)), H', ⟨by have := HK1.out; have := HJ3.out; first | omega | exact Nat.le_refl _⟩, ⟨by (with_reducible repeat (first | apply Kd.R_alloc | apply Kd.R_drewN | apply Kd.R_drew)); exact HO_7.out⟩, ⟨by (with_reducible repeat (first | refine blk_drewN ?_ _ | refine blk_drew ?_ | refine blk_alloc ?_ _)); exact BK199.out⟩, ⟨by repeat (first | (with_reducible first | exact HB.out | apply below_alloc | apply pw_below_drewN | apply below_drew1 | refine below_set ?_ GE199.out) | exact HB.out)⟩⟩
                case rest =>
                  clear HC12
                  try clear c1
                  try clear p1
                  try clear q1
                  try clear hx1
                  try clear p2
                  try clear c3
                  try clear c5
                  try clear c5b0
                  try clear c6
                  try clear c6b0
                  try clear p6
                  try clear p7
                  try clear q7
                  try clear hx7
                  try clear c8
                  try clear c9
                  try clear c9b0
                  try clear c10
                  try clear c10b0
                  try clear p11
                  try clear q11
                  try clear hx11
                  try clear c13
                  try clear c13b0
                  try clear p11
                  try clear p2
                  try clear p6
                  try clear p7
                  try clear q11
                  try clear q7
                  obtain ⟨kq, x30_11, rfl, HA, HJ11, HO_7, BK199, HB⟩ := hcut
                  cases kq with
                  | zero => exact absurd HA.out (by simp [mortiseref4_quoted.j2])
                  | succ kj11 =>
                    have H := HA.out
                    clear HA
                    simp only [mortiseref4_quoted.j2] at H
                    by_cases c14 : x30_11 = true
                    · subst c14
                      have H1 : (some (0, (⟨#[]⟩ : ByteArray), 0, 0, 0, false)) = some (r1, r2, r3, r4, r5, r6) := by rw [if_pos rfl] at H; exact H
                      clear H
                      have H := H1
                      clear H1
                      simp only [Option.some.injEq, Prod.mk.injEq] at H
                      obtain ⟨rfl, rfl, rfl, rfl, rfl, rfl⟩ := H
                      have hcz15_0 : wc.cell? ⟨gb199, 0, none⟩ = some (.int .i64 x200000_1) := (blk_cell BK199.out 0).trans rfl
                      have hcz15_1 : wc.cell? ⟨gb199, 1, none⟩ = some (.string x200001_1) := (blk_cell BK199.out 1).trans rfl
                      have hcz15_2 : wc.cell? ⟨gb199, 2, none⟩ = some (.int .i64 x200002_1) := (blk_cell BK199.out 2).trans rfl
                      have hcz15_3 : wc.cell? ⟨gb199, 3, none⟩ = some (.int .i64 x200003_1) := (blk_cell BK199.out 3).trans rfl
                      have hfz15_0 := blk_frozen BK199.out 0
                      have hfz15_1 := blk_frozen BK199.out 1
                      have hfz15_2 := blk_frozen BK199.out 2
                      have hfz15_3 := blk_frozen BK199.out 3
                      go_wp2
                      refine bodyPost_ret (results_ctt rfl _ _ gb199 31 #[.int .i64 0, .string (⟨#[]⟩ : ByteArray), .int .i64 0, .int .i64 0] (0, 0) _ rfl (by (with_reducible repeat (first | refine blk_drewN ?_ _ | refine blk_drew ?_ | refine blk_alloc ?_ _)); refine blk_put (cs := #[.int .i64 0, .string (⟨#[]⟩ : ByteArray), .int .i64 0, .int .i64 x200003_1]) ?_ 3 _ rfl; (with_reducible repeat (first | refine blk_drewN ?_ _ | refine blk_drew ?_ | refine blk_alloc ?_ _)); refine blk_put (cs := #[.int .i64 0, .string (⟨#[]⟩ : ByteArray), .int .i64 x200002_1, .int .i64 x200003_1]) ?_ 2 _ rfl; (with_reducible repeat (first | refine blk_drewN ?_ _ | refine blk_drew ?_ | refine blk_alloc ?_ _)); refine blk_put (cs := #[.int .i64 0, .string x200001_1, .int .i64 x200002_1, .int .i64 x200003_1]) ?_ 1 _ rfl; (with_reducible repeat (first | refine blk_drewN ?_ _ | refine blk_drew ?_ | refine blk_alloc ?_ _)); refine blk_put (cs := #[.int .i64 x200000_1, .string x200001_1, .int .i64 x200002_1, .int .i64 x200003_1]) ?_ 0 _ rfl; (with_reducible repeat (first | refine blk_drewN ?_ _ | refine blk_drew ?_ | refine blk_alloc ?_ _)); exact BK199.out) Try.underlying31 rfl (by kernel_rfl)) rfl ?_
                      exact ⟨by first | rfl | (simp [errW_none, errW_some] <;> rfl) | (simp [*, errW_none, errW_some] <;> rfl), by repeat (first | (with_reducible first | exact HB.out | apply below_alloc | apply pw_below_drewN | apply below_drew1 | refine below_set ?_ GE199.out) | exact HB.out)⟩
                    · replace c14 := Bool.eq_false_iff.mpr c14
                      subst c14
                      have H1 : (if (bt a0 x8_1) = 92 then (if (wrap64 (x8_1 + 1)) ≥ (a0.size : Int) then (some (0, (⟨#[]⟩ : ByteArray), 0, 0, 0, false)) else (if 0 ≤ (wrap64 (x8_1 + 1)) then (if (wrap64 (x8_1 + 1)) < (a0.size : Int) then (if (bt a0 (wrap64 (x8_1 + 1))) = 110 then (if x7_1.length < 140737488355328 then (mortiseref4_quoted.l0 kj11 a0 a1 (x7_1 ++ [10]) (wrap64 ((wrap64 (x8_1 + 1)) + 1))) else (none)) else (if (bt a0 (wrap64 (x8_1 + 1))) = 34 then (if x7_1.length < 140737488355328 then (mortiseref4_quoted.l0 kj11 a0 a1 (x7_1 ++ [bt a0 (wrap64 (x8_1 + 1))]) (wrap64 ((wrap64 (x8_1 + 1)) + 1))) else (none)) else (if (bt a0 (wrap64 (x8_1 + 1))) = 92 then (if x7_1.length < 140737488355328 then (mortiseref4_quoted.l0 kj11 a0 a1 (x7_1 ++ [bt a0 (wrap64 (x8_1 + 1))]) (wrap64 ((wrap64 (x8_1 + 1)) + 1))) else (none)) else (some (0, (⟨#[]⟩ : ByteArray), 0, 0, 0, false))))) else (none)) else (none))) else (if x7_1.length < 140737488355328 then (mortiseref4_quoted.l0 kj11 a0 a1 (x7_1 ++ [(bt a0 x8_1)]) (wrap64 (x8_1 + 1))) else (none))) = some (r1, r2, r3, r4, r5, r6) := by rw [if_neg (show ¬ (false = true) by decide)] at H; exact H
                      clear H
                      have H := H1
                      clear H1
                      by_cases c16 : (bt a0 x8_1) = 92
                      · rw [if_pos c16] at H
                        have c16b0 : ((bt a0 x8_1) == 92) = true := beq_iff_eq.mpr c16
                        have c16b1 : ((bt a0 x8_1) != 92) = false := bne_eq_false_iff_eq.mpr c16
                        clear c16
                        by_cases c17 : (wrap64 (x8_1 + 1)) ≥ (a0.size : Int)
                        · rw [if_pos c17] at H
                          have c17b0 : decide ((a0.size : Int) ≤ (wrap64 (x8_1 + 1))) = true := decide_eq_true c17
                          clear c17
                          simp only [Option.some.injEq, Prod.mk.injEq] at H
                          obtain ⟨rfl, rfl, rfl, rfl, rfl, rfl⟩ := H
                          have hcz18_0 : wc.cell? ⟨gb199, 0, none⟩ = some (.int .i64 x200000_1) := (blk_cell BK199.out 0).trans rfl
                          have hcz18_1 : wc.cell? ⟨gb199, 1, none⟩ = some (.string x200001_1) := (blk_cell BK199.out 1).trans rfl
                          have hcz18_2 : wc.cell? ⟨gb199, 2, none⟩ = some (.int .i64 x200002_1) := (blk_cell BK199.out 2).trans rfl
                          have hcz18_3 : wc.cell? ⟨gb199, 3, none⟩ = some (.int .i64 x200003_1) := (blk_cell BK199.out 3).trans rfl
                          have hfz18_0 := blk_frozen BK199.out 0
                          have hfz18_1 := blk_frozen BK199.out 1
                          have hfz18_2 := blk_frozen BK199.out 2
                          have hfz18_3 := blk_frozen BK199.out 3
                          go_wp2
                          refine bodyPost_ret (results_ctt rfl _ _ gb199 31 #[.int .i64 0, .string (⟨#[]⟩ : ByteArray), .int .i64 0, .int .i64 0] (0, 0) _ rfl (by (with_reducible repeat (first | refine blk_drewN ?_ _ | refine blk_drew ?_ | refine blk_alloc ?_ _)); refine blk_put (cs := #[.int .i64 0, .string (⟨#[]⟩ : ByteArray), .int .i64 0, .int .i64 x200003_1]) ?_ 3 _ rfl; (with_reducible repeat (first | refine blk_drewN ?_ _ | refine blk_drew ?_ | refine blk_alloc ?_ _)); refine blk_put (cs := #[.int .i64 0, .string (⟨#[]⟩ : ByteArray), .int .i64 x200002_1, .int .i64 x200003_1]) ?_ 2 _ rfl; (with_reducible repeat (first | refine blk_drewN ?_ _ | refine blk_drew ?_ | refine blk_alloc ?_ _)); refine blk_put (cs := #[.int .i64 0, .string x200001_1, .int .i64 x200002_1, .int .i64 x200003_1]) ?_ 1 _ rfl; (with_reducible repeat (first | refine blk_drewN ?_ _ | refine blk_drew ?_ | refine blk_alloc ?_ _)); refine blk_put (cs := #[.int .i64 x200000_1, .string x200001_1, .int .i64 x200002_1, .int .i64 x200003_1]) ?_ 0 _ rfl; (with_reducible repeat (first | refine blk_drewN ?_ _ | refine blk_drew ?_ | refine blk_alloc ?_ _)); exact BK199.out) Try.underlying31 rfl (by kernel_rfl)) rfl ?_
                          exact ⟨by first | rfl | (simp [errW_none, errW_some] <;> rfl) | (simp [*, errW_none, errW_some] <;> rfl), by repeat (first | (with_reducible first | exact HB.out | apply below_alloc | apply pw_below_drewN | apply below_drew1 | refine below_set ?_ GE199.out) | exact HB.out)⟩
                        · rw [if_neg c17] at H
                          have c17b0 : decide ((a0.size : Int) ≤ (wrap64 (x8_1 + 1))) = false := decide_eq_false c17
                          clear c17
                          obtain ⟨ji19, hji19⟩ : ∃ j_ : Int, (wrap64 (x8_1 + 1)) = j_ := ⟨_, rfl⟩
                          replace H : (if 0 ≤ (ji19) then (if (ji19) < (a0.size : Int) then (if (bt a0 (ji19)) = 110 then (if x7_1.length < 140737488355328 then (mortiseref4_quoted.l0 kj11 a0 a1 (x7_1 ++ [10]) (wrap64 ((ji19) + 1))) else (none)) else (if (bt a0 (ji19)) = 34 then (if x7_1.length < 140737488355328 then (mortiseref4_quoted.l0 kj11 a0 a1 (x7_1 ++ [bt a0 (ji19)]) (wrap64 ((ji19) + 1))) else (none)) else (if (bt a0 (ji19)) = 92 then (if x7_1.length < 140737488355328 then (mortiseref4_quoted.l0 kj11 a0 a1 (x7_1 ++ [bt a0 (ji19)]) (wrap64 ((ji19) + 1))) else (none)) else (some (0, (⟨#[]⟩ : ByteArray), 0, 0, 0, false))))) else (none)) else (none)) = some (r1, r2, r3, r4, r5, r6) := by first | (rw [hji19] at H; exact H) | (simp only [hji19] at H ⊢; exact H)
                          (try rw [hji19] at c17b0)
                          have hji19w : (IntKind.i64.wrap (x8_1 + 1)) = ji19 := (i64_w _).trans hji19
                          by_cases c20 : 0 ≤ (ji19)
                          · rw [if_pos c20] at H
                            have c20b0 : decide (0 ≤ (ji19)) = true := decide_eq_true c20
                            clear c20
                            by_cases c21 : (ji19) < (a0.size : Int)
                            · rw [if_pos c21] at H
                              have c21b0 : decide ((ji19) < (a0.size : Int)) = true := decide_eq_true c21
                              clear c21
                              by_cases c23 : (bt a0 (ji19)) = 110
                              · rw [if_pos c23] at H
                                have c23b0 : ((bt a0 (ji19)) == 110) = true := beq_iff_eq.mpr c23
                                have c23b1 : ((bt a0 (ji19)) != 110) = false := bne_eq_false_iff_eq.mpr c23
                                clear c23
                                by_cases c24 : x7_1.length < 140737488355328
                                · rw [if_pos c24] at H
                                  have LMc24 := Aside0.mk c24
                                  clear c24
                                  obtain ⟨y200, hy200⟩ : ∃ y_ : List Int, y_ = (x7_1 ++ [10]) := ⟨_, rfl⟩
                                  replace H : (mortiseref4_quoted.l0 kj11 a0 a1 y200 (wrap64 ((ji19) + 1))) = some (r1, r2, r3, r4, r5, r6) := by first | (rw [hy200]; with_reducible exact H) | (have H2_ := (Option.bind_some _ _).symm.trans H; rw [hy200]; with_reducible exact H2_) | (have H2_ := (Option.bind_some _ _).symm.trans H; with_reducible exact H2_) | with_reducible exact H | (rw [hy200]; exact H) | exact H
                                  have Ny200 := Aside0.mk hy200
                                  clear hy200
                                  have H' := Aside0.mk H
                                  clear H
                                  have p22 : 0 ≤ ((ji19) : Int) := of_decide_eq_true (by first | (with_reducible assumption) | assumption)
                                  have q22 : (ji19) < (a0.size : Int) := of_decide_eq_true (by first | (with_reducible assumption) | assumption)
                                  have hx22 := bt_at a0 (ji19)
                                  replace p22 := eq_true p22
                                  replace q22 := eq_true q22
                                  go_wp2_with (first | ((with_reducible refine gate_builtin (b := .append) (xs := #[.tmp 53, .tmp 55]) rfl ?_); (try (refine gate_guard (by rfl) ?_; dsimp only)); at_builtin; refine Kd.R_append (Kd.int .u8) (w0 := w) w.heap.size rfl (.tmp 53) (.tmp 55) 36 5 (.int .u8 0) 1 rfl Try.underlying36 info5 rfl (by decide) (by omega) u7 x7_1 10 [.int .u8 10] (fun _ => True) (fun _ => False) rfl rfl ?aP (fun _ hk => hk.elim) ?aF ?aO ?aB ?aS ?aL ?_; (case aP => exact rfl); (case aB => exact (by repeat (first | (with_reducible first | exact HB.out | apply below_alloc | apply pw_below_drewN | apply below_drew1 | refine below_set ?_ GE199.out) | exact HB.out))); (case aF => exact (fun _ _ => trivial)); (case aO => exact (by (with_reducible repeat (first | apply Kd.R_alloc | apply Kd.R_drewN | apply Kd.R_drew)); exact HO_7.out)); (case aS => exact (below_size (by repeat (first | (with_reducible first | exact HB.out | apply below_alloc | apply pw_below_drewN | apply below_drew1 | refine below_set ?_ GE199.out) | exact HB.out)))); (case aL => have := LMc24.out; omega); intro v201 w25 ho hb hg hat; rw [← Ny200.out] at ho; have n0_ := Aside0.mk (blk_grown (g := gb199) (o := .cells #[.int .i64 x200000_1, .string x200001_1, .int .i64 x200002_1, .int .i64 x200003_1] 31 (0, 0)) (by (with_reducible repeat (first | refine blk_drewN ?_ _ | refine blk_drew ?_ | refine blk_alloc ?_ _)); exact BK199.out) hg (Kd.R_ne HO_7.out BK199.out (by decide))); have n1_ := Aside0.mk (hb); have n2_ := Aside0.mk (ho); clear BK199; clear HB; clear HO_7; have BK199 := n0_; have HB := n1_; have HO202 := n2_; clear n0_ n1_ n2_; clear ho hb hg hat))
                                  go_roundg kj11
                                  case measure => have := HK1.out; have := HJ3.out; have := HJ11.out; omega
                                  case rel => exact ⟨(y200), (wrap64 ((ji19) + 1)), (x200000_1), (x200001_1), (x200002_1), (x200003_1), (by first | rfl | (simp; done) | (simp only [← hji19] <;> (first | rfl | simp)) | (simp [*]; done)), H', ⟨by have := HK1.out; have := HJ3.out; have := HJ11.out; omega⟩, ⟨by (with_reducible repeat (first | apply Kd.R_alloc | apply Kd.R_drewN | apply Kd.R_drew)); exact HO202.out⟩, ⟨by (with_reducible repeat (first | refine blk_drewN ?_ _ | refine blk_drew ?_ | refine blk_alloc ?_ _)); exact BK199.out⟩, ⟨by repeat (first | (with_reducible first | exact HB.out | apply below_alloc | apply pw_below_drewN | apply below_drew1 | refine below_set ?_ GE199.out) | exact HB.out)⟩⟩
                                · rw [if_neg c24] at H
                                  exact absurd H (by simp)
                              · rw [if_neg c23] at H
                                have c23b0 : ((bt a0 (ji19)) == 110) = false := beq_eq_false_iff_ne.mpr c23
                                have c23b1 : ((bt a0 (ji19)) != 110) = true := bne_iff_ne.mpr c23
                                by_cases c26 : (bt a0 (ji19)) = 34
                                · rw [if_pos c26] at H
                                  have c26b0 : ((bt a0 (ji19)) == 34) = true := beq_iff_eq.mpr c26
                                  have c26b1 : ((bt a0 (ji19)) != 34) = false := bne_eq_false_iff_eq.mpr c26
                                  clear c26
                                  by_cases c28 : x7_1.length < 140737488355328
                                  · rw [if_pos c28] at H
                                    have LMc28 := Aside0.mk c28
                                    clear c28
                                    obtain ⟨y203, hy203⟩ : ∃ y_ : List Int, y_ = (x7_1 ++ [bt a0 (ji19)]) := ⟨_, rfl⟩
                                    replace H : (mortiseref4_quoted.l0 kj11 a0 a1 y203 (wrap64 ((ji19) + 1))) = some (r1, r2, r3, r4, r5, r6) := by first | (rw [hy203]; with_reducible exact H) | (have H2_ := (Option.bind_some _ _).symm.trans H; rw [hy203]; with_reducible exact H2_) | (have H2_ := (Option.bind_some _ _).symm.trans H; with_reducible exact H2_) | with_reducible exact H | (rw [hy203]; exact H) | exact H
                                    have Ny203 := Aside0.mk hy203
                                    clear hy203
                                    have H' := Aside0.mk H
                                    clear H
                                    have p22 : 0 ≤ ((ji19) : Int) := of_decide_eq_true (by first | (with_reducible assumption) | assumption)
                                    have q22 : (ji19) < (a0.size : Int) := of_decide_eq_true (by first | (with_reducible assumption) | assumption)
                                    have hx22 := bt_at a0 (ji19)
                                    replace p22 := eq_true p22
                                    replace q22 := eq_true q22
                                    have p27 : 0 ≤ ((ji19) : Int) := of_decide_eq_true (by first | (with_reducible assumption) | assumption)
                                    have q27 : (ji19) < (a0.size : Int) := of_decide_eq_true (by first | (with_reducible assumption) | assumption)
                                    have hx27 := bt_at a0 (ji19)
                                    replace p27 := eq_true p27
                                    replace q27 := eq_true q27
                                    go_wp2_with (first | ((with_reducible refine gate_builtin (b := .append) (xs := #[.tmp 53, .tmp 55]) rfl ?_); (try (refine gate_guard (by rfl) ?_; dsimp only)); at_builtin; refine Kd.R_append (Kd.int .u8) (w0 := w) w.heap.size rfl (.tmp 53) (.tmp 55) 36 5 (.int .u8 0) 1 rfl Try.underlying36 info5 rfl (by decide) (by omega) u7 x7_1 (bt a0 (ji19)) [.int .u8 (bt a0 (ji19))] (fun _ => True) (fun _ => False) rfl rfl ?aP (fun _ hk => hk.elim) ?aF ?aO ?aB ?aS ?aL ?_; (case aP => exact rfl); (case aB => exact (by repeat (first | (with_reducible first | exact HB.out | apply below_alloc | apply pw_below_drewN | apply below_drew1 | refine below_set ?_ GE199.out) | exact HB.out))); (case aF => exact (fun _ _ => trivial)); (case aO => exact (by (with_reducible repeat (first | apply Kd.R_alloc | apply Kd.R_drewN | apply Kd.R_drew)); exact HO_7.out)); (case aS => exact (below_size (by repeat (first | (with_reducible first | exact HB.out | apply below_alloc | apply pw_below_drewN | apply below_drew1 | refine below_set ?_ GE199.out) | exact HB.out)))); (case aL => have := LMc28.out; omega); intro v204 w29 ho hb hg hat; rw [← Ny203.out] at ho; have n0_ := Aside0.mk (blk_grown (g := gb199) (o := .cells #[.int .i64 x200000_1, .string x200001_1, .int .i64 x200002_1, .int .i64 x200003_1] 31 (0, 0)) (by (with_reducible repeat (first | refine blk_drewN ?_ _ | refine blk_drew ?_ | refine blk_alloc ?_ _)); exact BK199.out) hg (Kd.R_ne HO_7.out BK199.out (by decide))); have n1_ := Aside0.mk (hb); have n2_ := Aside0.mk (ho); clear BK199; clear HB; clear HO_7; have BK199 := n0_; have HB := n1_; have HO205 := n2_; clear n0_ n1_ n2_; clear ho hb hg hat))
                                    go_roundg kj11
                                    case measure => have := HK1.out; have := HJ3.out; have := HJ11.out; omega
                                    case rel => exact ⟨(y203), (wrap64 ((ji19) + 1)), (x200000_1), (x200001_1), (x200002_1), (x200003_1), (by first | rfl | (simp; done) | (simp only [← hji19] <;> (first | rfl | simp)) | (simp [*]; done)), H', ⟨by have := HK1.out; have := HJ3.out; have := HJ11.out; omega⟩, ⟨by (with_reducible repeat (first | apply Kd.R_alloc | apply Kd.R_drewN | apply Kd.R_drew)); exact HO205.out⟩, ⟨by (with_reducible repeat (first | refine blk_drewN ?_ _ | refine blk_drew ?_ | refine blk_alloc ?_ _)); exact BK199.out⟩, ⟨by repeat (first | (with_reducible first | exact HB.out | apply below_alloc | apply pw_below_drewN | apply below_drew1 | refine below_set ?_ GE199.out) | exact HB.out)⟩⟩
                                  · rw [if_neg c28] at H
                                    exact absurd H (by simp)
                                · rw [if_neg c26] at H
                                  have c26b0 : ((bt a0 (ji19)) == 34) = false := beq_eq_false_iff_ne.mpr c26
                                  have c26b1 : ((bt a0 (ji19)) != 34) = true := bne_iff_ne.mpr c26
                                  by_cases c30 : (bt a0 (ji19)) = 92
                                  · rw [if_pos c30] at H
                                    have c30b0 : ((bt a0 (ji19)) == 92) = true := beq_iff_eq.mpr c30
                                    have c30b1 : ((bt a0 (ji19)) != 92) = false := bne_eq_false_iff_eq.mpr c30
                                    clear c30
                                    by_cases c32 : x7_1.length < 140737488355328
                                    · rw [if_pos c32] at H
                                      have LMc32 := Aside0.mk c32
                                      clear c32
                                      obtain ⟨y206, hy206⟩ : ∃ y_ : List Int, y_ = (x7_1 ++ [bt a0 (ji19)]) := ⟨_, rfl⟩
                                      replace H : (mortiseref4_quoted.l0 kj11 a0 a1 y206 (wrap64 ((ji19) + 1))) = some (r1, r2, r3, r4, r5, r6) := by first | (rw [hy206]; with_reducible exact H) | (have H2_ := (Option.bind_some _ _).symm.trans H; rw [hy206]; with_reducible exact H2_) | (have H2_ := (Option.bind_some _ _).symm.trans H; with_reducible exact H2_) | with_reducible exact H | (rw [hy206]; exact H) | exact H
                                      have Ny206 := Aside0.mk hy206
                                      clear hy206
                                      have H' := Aside0.mk H
                                      clear H
                                      have p22 : 0 ≤ ((ji19) : Int) := of_decide_eq_true (by first | (with_reducible assumption) | assumption)
                                      have q22 : (ji19) < (a0.size : Int) := of_decide_eq_true (by first | (with_reducible assumption) | assumption)
                                      have hx22 := bt_at a0 (ji19)
                                      replace p22 := eq_true p22
                                      replace q22 := eq_true q22
                                      have p31 : 0 ≤ ((ji19) : Int) := of_decide_eq_true (by first | (with_reducible assumption) | assumption)
                                      have q31 : (ji19) < (a0.size : Int) := of_decide_eq_true (by first | (with_reducible assumption) | assumption)
                                      have hx31 := bt_at a0 (ji19)
                                      replace p31 := eq_true p31
                                      replace q31 := eq_true q31
                                      go_wp2_with (first | ((with_reducible refine gate_builtin (b := .append) (xs := #[.tmp 53, .tmp 55]) rfl ?_); (try (refine gate_guard (by rfl) ?_; dsimp only)); at_builtin; refine Kd.R_append (Kd.int .u8) (w0 := w) w.heap.size rfl (.tmp 53) (.tmp 55) 36 5 (.int .u8 0) 1 rfl Try.underlying36 info5 rfl (by decide) (by omega) u7 x7_1 (bt a0 (ji19)) [.int .u8 (bt a0 (ji19))] (fun _ => True) (fun _ => False) rfl rfl ?aP (fun _ hk => hk.elim) ?aF ?aO ?aB ?aS ?aL ?_; (case aP => exact rfl); (case aB => exact (by repeat (first | (with_reducible first | exact HB.out | apply below_alloc | apply pw_below_drewN | apply below_drew1 | refine below_set ?_ GE199.out) | exact HB.out))); (case aF => exact (fun _ _ => trivial)); (case aO => exact (by (with_reducible repeat (first | apply Kd.R_alloc | apply Kd.R_drewN | apply Kd.R_drew)); exact HO_7.out)); (case aS => exact (below_size (by repeat (first | (with_reducible first | exact HB.out | apply below_alloc | apply pw_below_drewN | apply below_drew1 | refine below_set ?_ GE199.out) | exact HB.out)))); (case aL => have := LMc32.out; omega); intro v207 w33 ho hb hg hat; rw [← Ny206.out] at ho; have n0_ := Aside0.mk (blk_grown (g := gb199) (o := .cells #[.int .i64 x200000_1, .string x200001_1, .int .i64 x200002_1, .int .i64 x200003_1] 31 (0, 0)) (by (with_reducible repeat (first | refine blk_drewN ?_ _ | refine blk_drew ?_ | refine blk_alloc ?_ _)); exact BK199.out) hg (Kd.R_ne HO_7.out BK199.out (by decide))); have n1_ := Aside0.mk (hb); have n2_ := Aside0.mk (ho); clear BK199; clear HB; clear HO_7; have BK199 := n0_; have HB := n1_; have HO208 := n2_; clear n0_ n1_ n2_; clear ho hb hg hat))
                                      go_roundg kj11
                                      case measure => have := HK1.out; have := HJ3.out; have := HJ11.out; omega
                                      case rel => exact ⟨(y206), (wrap64 ((ji19) + 1)), (x200000_1), (x200001_1), (x200002_1), (x200003_1), (by first | rfl | (simp; done) | (simp only [← hji19] <;> (first | rfl | simp)) | (simp [*]; done)), H', ⟨by have := HK1.out; have := HJ3.out; have := HJ11.out; omega⟩, ⟨by (with_reducible repeat (first | apply Kd.R_alloc | apply Kd.R_drewN | apply Kd.R_drew)); exact HO208.out⟩, ⟨by (with_reducible repeat (first | refine blk_drewN ?_ _ | refine blk_drew ?_ | refine blk_alloc ?_ _)); exact BK199.out⟩, ⟨by repeat (first | (with_reducible first | exact HB.out | apply below_alloc | apply pw_below_drewN | apply below_drew1 | refine below_set ?_ GE199.out) | exact HB.out)⟩⟩
                                    · rw [if_neg c32] at H
                                      exact absurd H (by simp)
                                  · rw [if_neg c30] at H
                                    have c30b0 : ((bt a0 (ji19)) == 92) = false := beq_eq_false_iff_ne.mpr c30
                                    have c30b1 : ((bt a0 (ji19)) != 92) = true := bne_iff_ne.mpr c30
                                    simp only [Option.some.injEq, Prod.mk.injEq] at H
                                    obtain ⟨rfl, rfl, rfl, rfl, rfl, rfl⟩ := H
                                    have p22 : 0 ≤ ((ji19) : Int) := of_decide_eq_true (by first | (with_reducible assumption) | assumption)
                                    have q22 : (ji19) < (a0.size : Int) := of_decide_eq_true (by first | (with_reducible assumption) | assumption)
                                    have hx22 := bt_at a0 (ji19)
                                    replace p22 := eq_true p22
                                    replace q22 := eq_true q22
                                    have hcz34_0 : wc.cell? ⟨gb199, 0, none⟩ = some (.int .i64 x200000_1) := (blk_cell BK199.out 0).trans rfl
                                    have hcz34_1 : wc.cell? ⟨gb199, 1, none⟩ = some (.string x200001_1) := (blk_cell BK199.out 1).trans rfl
                                    have hcz34_2 : wc.cell? ⟨gb199, 2, none⟩ = some (.int .i64 x200002_1) := (blk_cell BK199.out 2).trans rfl
                                    have hcz34_3 : wc.cell? ⟨gb199, 3, none⟩ = some (.int .i64 x200003_1) := (blk_cell BK199.out 3).trans rfl
                                    have hfz34_0 := blk_frozen BK199.out 0
                                    have hfz34_1 := blk_frozen BK199.out 1
                                    have hfz34_2 := blk_frozen BK199.out 2
                                    have hfz34_3 := blk_frozen BK199.out 3
                                    go_wp2
                                    refine bodyPost_ret (results_ctt rfl _ _ gb199 31 #[.int .i64 0, .string (⟨#[]⟩ : ByteArray), .int .i64 0, .int .i64 0] (0, 0) _ rfl (by (with_reducible repeat (first | refine blk_drewN ?_ _ | refine blk_drew ?_ | refine blk_alloc ?_ _)); refine blk_put (cs := #[.int .i64 0, .string (⟨#[]⟩ : ByteArray), .int .i64 0, .int .i64 x200003_1]) ?_ 3 _ rfl; (with_reducible repeat (first | refine blk_drewN ?_ _ | refine blk_drew ?_ | refine blk_alloc ?_ _)); refine blk_put (cs := #[.int .i64 0, .string (⟨#[]⟩ : ByteArray), .int .i64 x200002_1, .int .i64 x200003_1]) ?_ 2 _ rfl; (with_reducible repeat (first | refine blk_drewN ?_ _ | refine blk_drew ?_ | refine blk_alloc ?_ _)); refine blk_put (cs := #[.int .i64 0, .string x200001_1, .int .i64 x200002_1, .int .i64 x200003_1]) ?_ 1 _ rfl; (with_reducible repeat (first | refine blk_drewN ?_ _ | refine blk_drew ?_ | refine blk_alloc ?_ _)); refine blk_put (cs := #[.int .i64 x200000_1, .string x200001_1, .int .i64 x200002_1, .int .i64 x200003_1]) ?_ 0 _ rfl; (with_reducible repeat (first | refine blk_drewN ?_ _ | refine blk_drew ?_ | refine blk_alloc ?_ _)); exact BK199.out) Try.underlying31 rfl (by kernel_rfl)) rfl ?_
                                    exact ⟨by first | rfl | (simp [errW_none, errW_some] <;> rfl) | (simp only [← hji19]; first | rfl | (simp [errW_none, errW_some] <;> rfl)) | (simp [*, errW_none, errW_some] <;> rfl), by repeat (first | (with_reducible first | exact HB.out | apply below_alloc | apply pw_below_drewN | apply below_drew1 | refine below_set ?_ GE199.out) | exact HB.out)⟩
                            · rw [if_neg c21] at H
                              exact absurd H (by simp)
                          · rw [if_neg c20] at H
                            exact absurd H (by simp)
                      · rw [if_neg c16] at H
                        have c16b0 : ((bt a0 x8_1) == 92) = false := beq_eq_false_iff_ne.mpr c16
                        have c16b1 : ((bt a0 x8_1) != 92) = true := bne_iff_ne.mpr c16
                        by_cases c35 : x7_1.length < 140737488355328
                        · rw [if_pos c35] at H
                          have LMc35 := Aside0.mk c35
                          clear c35
                          obtain ⟨y209, hy209⟩ : ∃ y_ : List Int, y_ = (x7_1 ++ [(bt a0 x8_1)]) := ⟨_, rfl⟩
                          replace H : (mortiseref4_quoted.l0 kj11 a0 a1 y209 (wrap64 (x8_1 + 1))) = some (r1, r2, r3, r4, r5, r6) := by first | (rw [hy209]; with_reducible exact H) | (have H2_ := (Option.bind_some _ _).symm.trans H; rw [hy209]; with_reducible exact H2_) | (have H2_ := (Option.bind_some _ _).symm.trans H; with_reducible exact H2_) | with_reducible exact H | (rw [hy209]; exact H) | exact H
                          have Ny209 := Aside0.mk hy209
                          clear hy209
                          have H' := Aside0.mk H
                          clear H
                          go_wp2_with (first | ((with_reducible refine gate_builtin (b := .append) (xs := #[.tmp 53, .tmp 55]) rfl ?_); (try (refine gate_guard (by rfl) ?_; dsimp only)); at_builtin; refine Kd.R_append (Kd.int .u8) (w0 := w) w.heap.size rfl (.tmp 53) (.tmp 55) 36 5 (.int .u8 0) 1 rfl Try.underlying36 info5 rfl (by decide) (by omega) u7 x7_1 (bt a0 x8_1) [.int .u8 (bt a0 x8_1)] (fun _ => True) (fun _ => False) rfl rfl ?aP (fun _ hk => hk.elim) ?aF ?aO ?aB ?aS ?aL ?_; (case aP => exact rfl); (case aB => exact (by repeat (first | (with_reducible first | exact HB.out | apply below_alloc | apply pw_below_drewN | apply below_drew1 | refine below_set ?_ GE199.out) | exact HB.out))); (case aF => exact (fun _ _ => trivial)); (case aO => exact (by (with_reducible repeat (first | apply Kd.R_alloc | apply Kd.R_drewN | apply Kd.R_drew)); exact HO_7.out)); (case aS => exact (below_size (by repeat (first | (with_reducible first | exact HB.out | apply below_alloc | apply pw_below_drewN | apply below_drew1 | refine below_set ?_ GE199.out) | exact HB.out)))); (case aL => have := LMc35.out; omega); intro v210 w36 ho hb hg hat; rw [← Ny209.out] at ho; have n0_ := Aside0.mk (blk_grown (g := gb199) (o := .cells #[.int .i64 x200000_1, .string x200001_1, .int .i64 x200002_1, .int .i64 x200003_1] 31 (0, 0)) (by (with_reducible repeat (first | refine blk_drewN ?_ _ | refine blk_drew ?_ | refine blk_alloc ?_ _)); exact BK199.out) hg (Kd.R_ne HO_7.out BK199.out (by decide))); have n1_ := Aside0.mk (hb); have n2_ := Aside0.mk (ho); clear BK199; clear HB; clear HO_7; have BK199 := n0_; have HB := n1_; have HO211 := n2_; clear n0_ n1_ n2_; clear ho hb hg hat))
                          go_roundg kj11
                          case measure => have := HK1.out; have := HJ3.out; have := HJ11.out; omega
                          case rel => exact ⟨(y209), (wrap64 (x8_1 + 1)), (x200000_1), (x200001_1), (x200002_1), (x200003_1), (by first | rfl | (simp; done) | (simp [*]; done)), H', ⟨by have := HK1.out; have := HJ3.out; have := HJ11.out; omega⟩, ⟨by (with_reducible repeat (first | apply Kd.R_alloc | apply Kd.R_drewN | apply Kd.R_drew)); exact HO211.out⟩, ⟨by (with_reducible repeat (first | refine blk_drewN ?_ _ | refine blk_drew ?_ | refine blk_alloc ?_ _)); exact BK199.out⟩, ⟨by repeat (first | (with_reducible first | exact HB.out | apply below_alloc | apply pw_below_drewN | apply below_drew1 | refine below_set ?_ GE199.out) | exact HB.out)⟩⟩
                        · rw [if_neg c35] at H
                          exact absurd H (by simp)
              · rw [if_neg c10] at H
                exact absurd H (by simp)
            · rw [if_neg c9] at H
              exact absurd H (by simp)
          · replace c8 := Bool.eq_false_iff.mpr c8
            subst c8
            have H1 : (if x8_1 ≥ (a0.size : Int) then (some (0, (⟨#[]⟩ : ByteArray), 0, 0, 0, false)) else (if (x7_1.length : Int) > 100 then (some (0, (⟨#[]⟩ : ByteArray), 0, 0, 0, false)) else (some (4, strOfNums x7_1, 0, a1, wrap64 (x8_1 + 1), true)))) = some (r1, r2, r3, r4, r5, r6) := by rw [if_neg (show ¬ (false = true) by decide)] at H; exact H
            clear H
            have H := H1
            clear H1
            by_cases c37 : x8_1 ≥ (a0.size : Int)
            · rw [if_pos c37] at H
              have c37b0 : decide ((a0.size : Int) ≤ x8_1) = true := decide_eq_true c37
              clear c37
              simp only [Option.some.injEq, Prod.mk.injEq] at H
              obtain ⟨rfl, rfl, rfl, rfl, rfl, rfl⟩ := H
              have hcz38_0 : wc.cell? ⟨gb199, 0, none⟩ = some (.int .i64 x200000_1) := (blk_cell BK199.out 0).trans rfl
              have hcz38_1 : wc.cell? ⟨gb199, 1, none⟩ = some (.string x200001_1) := (blk_cell BK199.out 1).trans rfl
              have hcz38_2 : wc.cell? ⟨gb199, 2, none⟩ = some (.int .i64 x200002_1) := (blk_cell BK199.out 2).trans rfl
              have hcz38_3 : wc.cell? ⟨gb199, 3, none⟩ = some (.int .i64 x200003_1) := (blk_cell BK199.out 3).trans rfl
              have hfz38_0 := blk_frozen BK199.out 0
              have hfz38_1 := blk_frozen BK199.out 1
              have hfz38_2 := blk_frozen BK199.out 2
              have hfz38_3 := blk_frozen BK199.out 3
              go_wp2
              refine bodyPost_ret (results_ctt rfl _ _ gb199 31 #[.int .i64 0, .string (⟨#[]⟩ : ByteArray), .int .i64 0, .int .i64 0] (0, 0) _ rfl (by (with_reducible repeat (first | refine blk_drewN ?_ _ | refine blk_drew ?_ | refine blk_alloc ?_ _)); refine blk_put (cs := #[.int .i64 0, .string (⟨#[]⟩ : ByteArray), .int .i64 0, .int .i64 x200003_1]) ?_ 3 _ rfl; (with_reducible repeat (first | refine blk_drewN ?_ _ | refine blk_drew ?_ | refine blk_alloc ?_ _)); refine blk_put (cs := #[.int .i64 0, .string (⟨#[]⟩ : ByteArray), .int .i64 x200002_1, .int .i64 x200003_1]) ?_ 2 _ rfl; (with_reducible repeat (first | refine blk_drewN ?_ _ | refine blk_drew ?_ | refine blk_alloc ?_ _)); refine blk_put (cs := #[.int .i64 0, .string x200001_1, .int .i64 x200002_1, .int .i64 x200003_1]) ?_ 1 _ rfl; (with_reducible repeat (first | refine blk_drewN ?_ _ | refine blk_drew ?_ | refine blk_alloc ?_ _)); refine blk_put (cs := #[.int .i64 x200000_1, .string x200001_1, .int .i64 x200002_1, .int .i64 x200003_1]) ?_ 0 _ rfl; (with_reducible repeat (first | refine blk_drewN ?_ _ | refine blk_drew ?_ | refine blk_alloc ?_ _)); exact BK199.out) Try.underlying31 rfl (by kernel_rfl)) rfl ?_
              exact ⟨by first | rfl | (simp [errW_none, errW_some] <;> rfl) | (simp [*, errW_none, errW_some] <;> rfl), by repeat (first | (with_reducible first | exact HB.out | apply below_alloc | apply pw_below_drewN | apply below_drew1 | refine below_set ?_ GE199.out) | exact HB.out)⟩
            · rw [if_neg c37] at H
              have c37b0 : decide ((a0.size : Int) ≤ x8_1) = false := decide_eq_false c37
              clear c37
              by_cases c39 : (x7_1.length : Int) > 100
              · rw [if_pos c39] at H
                have c39b0 : decide (100 < (x7_1.length : Int)) = true := decide_eq_true c39
                have c39b1 : decide (100 < x7_1.length) = true := decide_eq_true (by omega)
                clear c39
                simp only [Option.some.injEq, Prod.mk.injEq] at H
                obtain ⟨rfl, rfl, rfl, rfl, rfl, rfl⟩ := H
                obtain ⟨Ao40, co40, eo40⟩ := Kd.R_slice HO_7.out
                subst eo40
                have hcz41_0 : wc.cell? ⟨gb199, 0, none⟩ = some (.int .i64 x200000_1) := (blk_cell BK199.out 0).trans rfl
                have hcz41_1 : wc.cell? ⟨gb199, 1, none⟩ = some (.string x200001_1) := (blk_cell BK199.out 1).trans rfl
                have hcz41_2 : wc.cell? ⟨gb199, 2, none⟩ = some (.int .i64 x200002_1) := (blk_cell BK199.out 2).trans rfl
                have hcz41_3 : wc.cell? ⟨gb199, 3, none⟩ = some (.int .i64 x200003_1) := (blk_cell BK199.out 3).trans rfl
                have hfz41_0 := blk_frozen BK199.out 0
                have hfz41_1 := blk_frozen BK199.out 1
                have hfz41_2 := blk_frozen BK199.out 2
                have hfz41_3 := blk_frozen BK199.out 3
                go_wp2
                refine bodyPost_ret (results_ctt rfl _ _ gb199 31 #[.int .i64 0, .string (⟨#[]⟩ : ByteArray), .int .i64 0, .int .i64 0] (0, 0) _ rfl (by (with_reducible repeat (first | refine blk_drewN ?_ _ | refine blk_drew ?_ | refine blk_alloc ?_ _)); refine blk_put (cs := #[.int .i64 0, .string (⟨#[]⟩ : ByteArray), .int .i64 0, .int .i64 x200003_1]) ?_ 3 _ rfl; (with_reducible repeat (first | refine blk_drewN ?_ _ | refine blk_drew ?_ | refine blk_alloc ?_ _)); refine blk_put (cs := #[.int .i64 0, .string (⟨#[]⟩ : ByteArray), .int .i64 x200002_1, .int .i64 x200003_1]) ?_ 2 _ rfl; (with_reducible repeat (first | refine blk_drewN ?_ _ | refine blk_drew ?_ | refine blk_alloc ?_ _)); refine blk_put (cs := #[.int .i64 0, .string x200001_1, .int .i64 x200002_1, .int .i64 x200003_1]) ?_ 1 _ rfl; (with_reducible repeat (first | refine blk_drewN ?_ _ | refine blk_drew ?_ | refine blk_alloc ?_ _)); refine blk_put (cs := #[.int .i64 x200000_1, .string x200001_1, .int .i64 x200002_1, .int .i64 x200003_1]) ?_ 0 _ rfl; (with_reducible repeat (first | refine blk_drewN ?_ _ | refine blk_drew ?_ | refine blk_alloc ?_ _)); exact BK199.out) Try.underlying31 rfl (by kernel_rfl)) rfl ?_
                exact ⟨by first | rfl | (simp [errW_none, errW_some] <;> rfl) | (simp [*, errW_none, errW_some] <;> rfl), by repeat (first | (with_reducible first | exact HB.out | apply below_alloc | apply pw_below_drewN | apply below_drew1 | refine below_set ?_ GE199.out) | exact HB.out)⟩
              · rw [if_neg c39] at H
                have c39b0 : decide (100 < (x7_1.length : Int)) = false := decide_eq_false c39
                have c39b1 : decide (100 < x7_1.length) = false := decide_eq_false (by omega)
                clear c39
                simp only [Option.some.injEq, Prod.mk.injEq] at H
                obtain ⟨rfl, rfl, rfl, rfl, rfl, rfl⟩ := H
                obtain ⟨Ao42, co42, eo42⟩ := Kd.R_slice HO_7.out
                subst eo42
                have hcv43 := own_string (P := Try.prog) Try.underlying36 Try.underlying5 Try.underlying9 (Kd.own_of_R HO_7.out)
                have hcz44_0 : wc.cell? ⟨gb199, 0, none⟩ = some (.int .i64 x200000_1) := (blk_cell BK199.out 0).trans rfl
                have hcz44_1 : wc.cell? ⟨gb199, 1, none⟩ = some (.string x200001_1) := (blk_cell BK199.out 1).trans rfl
                have hcz44_2 : wc.cell? ⟨gb199, 2, none⟩ = some (.int .i64 x200002_1) := (blk_cell BK199.out 2).trans rfl
                have hcz44_3 : wc.cell? ⟨gb199, 3, none⟩ = some (.int .i64 x200003_1) := (blk_cell BK199.out 3).trans rfl
                have hfz44_0 := blk_frozen BK199.out 0
                have hfz44_1 := blk_frozen BK199.out 1
                have hfz44_2 := blk_frozen BK199.out 2
                have hfz44_3 := blk_frozen BK199.out 3
                go_wp2
                refine bodyPost_ret (results_ctt rfl _ _ gb199 31 #[.int .i64 4, .string (strOfNums x7_1), .int .i64 0, .int .i64 a1] (0, 0) _ rfl (by (with_reducible repeat (first | refine blk_drewN ?_ _ | refine blk_drew ?_ | refine blk_alloc ?_ _)); refine blk_put (cs := #[.int .i64 4, .string (strOfNums x7_1), .int .i64 0, .int .i64 x200003_1]) ?_ 3 _ rfl; (with_reducible repeat (first | refine blk_drewN ?_ _ | refine blk_drew ?_ | refine blk_alloc ?_ _)); refine blk_put (cs := #[.int .i64 4, .string (strOfNums x7_1), .int .i64 x200002_1, .int .i64 x200003_1]) ?_ 2 _ rfl; (with_reducible repeat (first | refine blk_drewN ?_ _ | refine blk_drew ?_ | refine blk_alloc ?_ _)); refine blk_put (cs := #[.int .i64 4, .string x200001_1, .int .i64 x200002_1, .int .i64 x200003_1]) ?_ 1 _ rfl; (with_reducible repeat (first | refine blk_drewN ?_ _ | refine blk_drew ?_ | refine blk_alloc ?_ _)); refine blk_put (cs := #[.int .i64 x200000_1, .string x200001_1, .int .i64 x200002_1, .int .i64 x200003_1]) ?_ 0 _ rfl; (with_reducible repeat (first | refine blk_drewN ?_ _ | refine blk_drew ?_ | refine blk_alloc ?_ _)); exact BK199.out) Try.underlying31 rfl (by kernel_rfl)) rfl ?_
                exact ⟨by first | rfl | (simp [errW_none, errW_some] <;> rfl) | (simp [*, errW_none, errW_some] <;> rfl), by repeat (first | (with_reducible first | exact HB.out | apply below_alloc | apply pw_below_drewN | apply below_drew1 | refine below_set ?_ GE199.out) | exact HB.out)⟩

end Go.Proofs.Ytmmjhdhgohfioaa.Gx
