/-
  THE METHOD text: its walk.
-/
import Derived.Test.YtmmjhdhgohfioaaM6
namespace Go.Proofs.Ytmmjhdhgohfioaa.Gx
open Go.RowKit Go.Proofs.YtmmjhdhgohfioaaW.PrintWords Go.Proofs.YtmmjhdhgohfioaaW.PrintLast Go.Proofs.YtmmjhdhgohfioaaW.PrintMore
attribute [local go_sem] max2_int min2_int max_two min_two max_three min_three max_four min_four
set_option linter.unusedVariables false
set_option linter.unusedSimpArgs false

set_option maxHeartbeats 16000000 in
set_option maxRecDepth 100000 in
theorem text_calls (g : Nat) (s : ByteArray) (a : Int) (i0 : Nat) (toks : List S31) (w0 w : World) (hI : Rdr w0 w g s a toks) (hB : Below w0.heap.size w0 w) (hl : toks.length ≤ 8192) (hsz : s.size ≤ 8192) (h0 : a + 1 = (i0 : Int)) (h1 : i0 ≤ s.size) :
    Calls Try.prog 31 #[.pointer (some ⟨g, 0, none⟩)] w (TextEnd w0 g s a toks (suf s i0)) := by
    have HI0 := Aside0.mk hI
    have HB := Aside0.mk hB
    have HT := Aside0.mk (show toks.length < 3518437208883 by omega)
    have HZ := Aside0.mk hsz
    have H0 := Aside0.mk h0
    have HW := Aside0.mk (show wrap64 (a + 1) = (i0 : Int) by rw [w64 (by omega) (by omega)]; exact h0)
    have H1 := Aside0.mk h1
    clear hI hB hl hsz h0 h1
    obtain ⟨P, HP⟩ : ∃ P : Ending → World → Prop, P = TextEnd w0 g s a toks (suf s i0) := ⟨_, rfl⟩
    rw [← HP]
    have HP0 := Aside0.mk HP
    clear HP
    obtain ⟨AS, cS, HG, hg, HS⟩ := HI0.out
    have hcz0 := cellR_0 HG
    have hcz1 := cellR_1 HG
    have hcz2 := cellR_2 HG
    have hfz0 := blk_frozen HG 0
    have hfz1 := blk_frozen HG 1
    clear HG hg HS

    go_enter Try.func31, Try.ntmps31
    go_wp2
    clear hcz0 hcz1 hcz2 hfz0 hfz1
    go_loopg [3, 4] (s.size + 1) (fun kq v3 v4 w' => ∃ (xs : List Int) (x : Int), v4 = .int .i64 x ∧ Aside0 (StrAt s i0 x xs kq) ∧ Aside0 (Kd.R (Kd.int .u8) 5 w' w0.heap.size (fun _ => True) v3 xs) ∧ Aside0 (Rdr w0 w' g s a toks) ∧ Aside0 (Below w0.heap.size w0 w'))
    case atStart => exact ⟨[], _, rfl, ⟨by rw [HW.out]; exact StrAt.start H1.out⟩, ⟨Kd.R_nil _ _ _ _ _⟩, ⟨by repeat (first | (with_reducible first | exact HI0.out | apply Rdr.alloc | apply Rdr.drewN | apply Rdr.drew | apply Rdr.set_0 | apply Rdr.set_1) | exact HI0.out)⟩, ⟨by repeat (first | (with_reducible first | exact HB.out | apply below_alloc | apply pw_below_drewN | apply below_drew1 | refine below_set ?_ (Rdr.ge HI0.out)) | exact HB.out)⟩⟩
    case round =>
      clear HI0 HB
      obtain ⟨xs, x, rfl, HA, HO, HI0, HB⟩ := hrel
      obtain ⟨A3, c3, rfl⟩ := Kd.R_slice HO.out
      have HXL := Aside0.mk (HA.out.small HZ.out)
      cases gk with
      | zero => exact absurd HA.out StrAt.none_
      | succ k2 =>
        obtain ⟨AS, cS, HG, hg, HS⟩ := HI0.out
        have hcz0 := cellR_0 HG
        have hcz1 := cellR_1 HG
        have hcz2 := cellR_2 HG
        have hfz0 := blk_frozen HG 0
        have hfz1 := blk_frozen HG 1
        clear HG hg HS

        by_cases d1 : x < (s.size : Int)
        · have p1 := eq_true HA.out.nonneg
          have p1d : decide (0 ≤ x) = true := decide_eq_true HA.out.nonneg
          have q1 := eq_true d1
          have hx1 := bt_at s x
          have t1 : decide (x < (s.size : Int)) = true := decide_eq_true d1
          have N_d1 := Aside0.mk d1
          clear d1
          by_cases d2 : (xs.length : Int) ≤ 100
          · have t2 : decide ((xs.length : Int) ≤ 100) = true := decide_eq_true d2
            have t2b : decide (xs.length ≤ 100) = true := decide_eq_true (by omega)
            have N_d2 := Aside0.mk d2
            clear d2
            by_cases d3 : (bt s x) = 34
            · have t3 : (((bt s x)) == 34) = true := beq_iff_eq.mpr d3
              have N_d3 := Aside0.mk d3
              clear d3
              obtain ⟨b, m, e1, e2, e3, e4⟩ := StrAt.quote HA.out N_d1.out N_d2.out N_d3.out
              have E1 := Aside0.mk e1
              have E2 := Aside0.mk e2
              have E3 := Aside0.mk e3
              have E4 := Aside0.mk (show wrap64 (wrap64 (x + 1) - a) = ((m + 1 : Nat) : Int) by have g0 := H0.out; have g1 := HA.out.nonneg; have g2 := N_d1.out; have g3 := HZ.out; rw [w64 (x := x + 1) (by omega) (by omega), w64 (by omega) (by omega)]; omega)
              clear e1 e2 e3 e4
              have hcv := own_string (P := Try.prog) Try.underlying36 Try.underlying5 Try.underlying9 (Kd.own_of_R HO.out)
              have hcv2 := own_string (P := Try.prog) Try.underlying36 Try.underlying5 Try.underlying9 (Kd.own_of_R (Kd.R_drew HO.out))
              go_wp2
              go_region_with (go_at_call 22; (with_reducible refine (put_calls g s a toks 4 _ (strOfNums xs) 0 w0 _ ?side1 ?side2 HT.out).mono ?_); (case side1 => repeat (first | (with_reducible first | exact HI0.out | apply Rdr.alloc | apply Rdr.drewN | apply Rdr.drew | apply Rdr.set_0 | apply Rdr.set_1) | exact HI0.out)); (case side2 => repeat (first | (with_reducible first | exact HB.out | apply below_alloc | apply pw_below_drewN | apply below_drew1 | refine below_set ?_ (Rdr.ge HI0.out)) | exact HB.out)); rintro e w12 ⟨rfl, hi, hb⟩; have n1_ := Aside0.mk hb; have n2_ := Aside0.mk hi; clear HB; clear HI0; have HB := n1_; have HI0 := n2_; clear n1_ n2_; (try clear hb); (try clear hi))
              all_goals
                go_wp2
                try go_ret
                change P (Ending.returned (.bool true)) _
                rw [HP0.out]
                have hfin := HI0.out
                try simp only [i64_w] at hfin
                rw [E4.out, E3.out] at hfin
                exact .inl ⟨b, m, E1.out, E2.out, rfl, hfin, by repeat (first | (with_reducible first | exact HB.out | apply below_alloc | apply pw_below_drewN | apply below_drew1 | refine below_set ?_ (Rdr.ge HI0.out)) | exact HB.out)⟩
            · have t3 : (((bt s x)) == 34) = false := beq_eq_false_iff_ne.mpr d3
              have N_d3 := Aside0.mk d3
              clear d3
              by_cases d4 : (bt s x) < 32
              · have t4 : decide ((bt s x) < 32) = true := decide_eq_true d4
                have N_d4 := Aside0.mk d4
                clear d4
                go_wp2_with (fail)
                repeat (go_quiet (fail); try go_wp2_with (fail))
                try go_ret
                change P (Ending.returned (.bool false)) _
                rw [HP0.out]
                exact .inr ⟨StrAt.bad HA.out N_d1.out N_d3.out (.inl N_d4.out), rfl, by repeat (first | (with_reducible first | exact HI0.out | apply Rdr.alloc | apply Rdr.drewN | apply Rdr.drew | apply Rdr.set_0 | apply Rdr.set_1) | exact HI0.out), by repeat (first | (with_reducible first | exact HB.out | apply below_alloc | apply pw_below_drewN | apply below_drew1 | refine below_set ?_ (Rdr.ge HI0.out)) | exact HB.out)⟩
              · have t4 : decide ((bt s x) < 32) = false := decide_eq_false d4
                have N_d4 := Aside0.mk d4
                clear d4
                by_cases d5 : 126 < (bt s x)
                · have t5 : decide (126 < (bt s x)) = true := decide_eq_true d5
                  have N_d5 := Aside0.mk d5
                  clear d5
                  go_wp2_with (fail)
                  repeat (go_quiet (fail); try go_wp2_with (fail))
                  try go_ret
                  change P (Ending.returned (.bool false)) _
                  rw [HP0.out]
                  exact .inr ⟨StrAt.bad HA.out N_d1.out N_d3.out (.inr N_d5.out), rfl, by repeat (first | (with_reducible first | exact HI0.out | apply Rdr.alloc | apply Rdr.drewN | apply Rdr.drew | apply Rdr.set_0 | apply Rdr.set_1) | exact HI0.out), by repeat (first | (with_reducible first | exact HB.out | apply below_alloc | apply pw_below_drewN | apply below_drew1 | refine below_set ?_ (Rdr.ge HI0.out)) | exact HB.out)⟩
                · have t5 : decide (126 < (bt s x)) = false := decide_eq_false d5
                  have N_d5 := Aside0.mk d5
                  clear d5
                  by_cases d6 : (bt s x) = 92
                  · have t6 : (((bt s x)) == 92) = true := beq_iff_eq.mpr d6
                    have N_d6 := Aside0.mk d6
                    clear d6
                    by_cases d7 : (wrap64 (x + 1)) = (s.size : Int)
                    · have t7 : (((wrap64 (x + 1))) == (s.size : Int)) = true := beq_iff_eq.mpr d7
                      have N_d7 := Aside0.mk d7
                      clear d7
                      go_wp2_with (fail)
                      repeat (go_quiet (fail); try go_wp2_with (fail))
                      try go_ret
                      change P (Ending.returned (.bool false)) _
                      rw [HP0.out]
                      exact .inr ⟨StrAt.slashEnd HZ.out HA.out N_d1.out N_d6.out N_d7.out, rfl, by repeat (first | (with_reducible first | exact HI0.out | apply Rdr.alloc | apply Rdr.drewN | apply Rdr.drew | apply Rdr.set_0 | apply Rdr.set_1) | exact HI0.out), by repeat (first | (with_reducible first | exact HB.out | apply below_alloc | apply pw_below_drewN | apply below_drew1 | refine below_set ?_ (Rdr.ge HI0.out)) | exact HB.out)⟩
                    · obtain ⟨y0, y1⟩ := StrAt.slash HZ.out HA.out N_d1.out d7
                      have p2 := eq_true y0
                      have p2d : decide (0 ≤ (wrap64 (x + 1))) = true := decide_eq_true y0
                      have q2 := eq_true y1
                      have Y1 := Aside0.mk y1
                      clear y0 y1
                      have hx2 := bt_at s (wrap64 (x + 1))
                      have t7 : (((wrap64 (x + 1))) == (s.size : Int)) = false := beq_eq_false_iff_ne.mpr d7
                      have N_d7 := Aside0.mk d7
                      clear d7
                      by_cases d8 : (bt s (wrap64 (x + 1))) = 110
                      · have t8 : (((bt s (wrap64 (x + 1)))) == 110) = true := beq_iff_eq.mpr d8
                        have N_d8 := Aside0.mk d8
                        clear d8
                        go_wp2_with (first | ((with_reducible refine gate_builtin (b := .append) (xs := #[.tmp 81, .tmp 83]) rfl ?_); (try (refine gate_guard (by rfl) ?_; dsimp only)); at_builtin; refine Kd.R_append (Kd.int .u8) (w0 := w0) w0.heap.size rfl (.tmp 81) (.tmp 83) 36 5 (.int .u8 0) 1 rfl Try.underlying36 info5 rfl (by decide) (by omega) (.slice A3 xs.length c3) xs (10) [.int .u8 (10)] (fun _ => True) (fun _ => False) rfl rfl ?aP (fun _ hk => hk.elim) ?aF ?aO ?aB ?aS ?aL ?_; (case aP => exact rfl); (case aF => exact (fun _ _ => trivial)); (case aO => exact (by (with_reducible repeat (first | apply Kd.R_alloc | apply Kd.R_drewN | apply Kd.R_drew)); exact HO.out)); (case aB => exact (by repeat (first | (with_reducible first | exact HB.out | apply below_alloc | apply pw_below_drewN | apply below_drew1 | refine below_set ?_ (Rdr.ge HI0.out)) | exact HB.out))); (case aS => exact (Below.size (by repeat (first | (with_reducible first | exact HB.out | apply below_alloc | apply pw_below_drewN | apply below_drew1 | refine below_set ?_ (Rdr.ge HI0.out)) | exact HB.out)))); (case aL => have := HXL.out; omega); intro v116 w31 ho hb hg hat; have n0_ := Aside0.mk (Rdr.over (by repeat (first | (with_reducible first | exact HI0.out | apply Rdr.alloc | apply Rdr.drewN | apply Rdr.drew | apply Rdr.set_0 | apply Rdr.set_1) | exact HI0.out)) (by (with_reducible repeat (first | apply Kd.R_alloc | apply Kd.R_drewN | apply Kd.R_drew)); exact HO.out) hg); have n1_ := Aside0.mk hb; have n3_ := Aside0.mk ho; clear HI0; clear HB; clear HO; have HI0 := n0_; have HB := n1_; have HO := n3_; clear n0_ n1_ n3_; clear ho hb hg hat))
                        repeat (go_quiet (first | ((with_reducible refine gate_builtin (b := .append) (xs := #[.tmp 81, .tmp 83]) rfl ?_); (try (refine gate_guard (by rfl) ?_; dsimp only)); at_builtin; refine Kd.R_append (Kd.int .u8) (w0 := w0) w0.heap.size rfl (.tmp 81) (.tmp 83) 36 5 (.int .u8 0) 1 rfl Try.underlying36 info5 rfl (by decide) (by omega) (.slice A3 xs.length c3) xs (10) [.int .u8 (10)] (fun _ => True) (fun _ => False) rfl rfl ?aP (fun _ hk => hk.elim) ?aF ?aO ?aB ?aS ?aL ?_; (case aP => exact rfl); (case aF => exact (fun _ _ => trivial)); (case aO => exact (by (with_reducible repeat (first | apply Kd.R_alloc | apply Kd.R_drewN | apply Kd.R_drew)); exact HO.out)); (case aB => exact (by repeat (first | (with_reducible first | exact HB.out | apply below_alloc | apply pw_below_drewN | apply below_drew1 | refine below_set ?_ (Rdr.ge HI0.out)) | exact HB.out))); (case aS => exact (Below.size (by repeat (first | (with_reducible first | exact HB.out | apply below_alloc | apply pw_below_drewN | apply below_drew1 | refine below_set ?_ (Rdr.ge HI0.out)) | exact HB.out)))); (case aL => have := HXL.out; omega); intro v116 w31 ho hb hg hat; have n0_ := Aside0.mk (Rdr.over (by repeat (first | (with_reducible first | exact HI0.out | apply Rdr.alloc | apply Rdr.drewN | apply Rdr.drew | apply Rdr.set_0 | apply Rdr.set_1) | exact HI0.out)) (by (with_reducible repeat (first | apply Kd.R_alloc | apply Kd.R_drewN | apply Kd.R_drew)); exact HO.out) hg); have n1_ := Aside0.mk hb; have n3_ := Aside0.mk ho; clear HI0; clear HB; clear HO; have HI0 := n0_; have HB := n1_; have HO := n3_; clear n0_ n1_ n3_; clear ho hb hg hat)); try go_wp2_with (first | ((with_reducible refine gate_builtin (b := .append) (xs := #[.tmp 81, .tmp 83]) rfl ?_); (try (refine gate_guard (by rfl) ?_; dsimp only)); at_builtin; refine Kd.R_append (Kd.int .u8) (w0 := w0) w0.heap.size rfl (.tmp 81) (.tmp 83) 36 5 (.int .u8 0) 1 rfl Try.underlying36 info5 rfl (by decide) (by omega) (.slice A3 xs.length c3) xs (10) [.int .u8 (10)] (fun _ => True) (fun _ => False) rfl rfl ?aP (fun _ hk => hk.elim) ?aF ?aO ?aB ?aS ?aL ?_; (case aP => exact rfl); (case aF => exact (fun _ _ => trivial)); (case aO => exact (by (with_reducible repeat (first | apply Kd.R_alloc | apply Kd.R_drewN | apply Kd.R_drew)); exact HO.out)); (case aB => exact (by repeat (first | (with_reducible first | exact HB.out | apply below_alloc | apply pw_below_drewN | apply below_drew1 | refine below_set ?_ (Rdr.ge HI0.out)) | exact HB.out))); (case aS => exact (Below.size (by repeat (first | (with_reducible first | exact HB.out | apply below_alloc | apply pw_below_drewN | apply below_drew1 | refine below_set ?_ (Rdr.ge HI0.out)) | exact HB.out)))); (case aL => have := HXL.out; omega); intro v116 w31 ho hb hg hat; have n0_ := Aside0.mk (Rdr.over (by repeat (first | (with_reducible first | exact HI0.out | apply Rdr.alloc | apply Rdr.drewN | apply Rdr.drew | apply Rdr.set_0 | apply Rdr.set_1) | exact HI0.out)) (by (with_reducible repeat (first | apply Kd.R_alloc | apply Kd.R_drewN | apply Kd.R_drew)); exact HO.out) hg); have n1_ := Aside0.mk hb; have n3_ := Aside0.mk ho; clear HI0; clear HB; clear HO; have HI0 := n0_; have HB := n1_; have HO := n3_; clear n0_ n1_ n3_; clear ho hb hg hat)))
                        go_roundg k2
                        case measure => omega
                        case rel => exact ⟨_, _, (by first | rfl | (simp; done)), ⟨StrAt.slashN HZ.out HA.out N_d1.out N_d6.out Y1.out N_d8.out⟩, ⟨by (with_reducible repeat (first | apply Kd.R_alloc | apply Kd.R_drewN | apply Kd.R_drew)); exact HO.out⟩, ⟨by repeat (first | (with_reducible first | exact HI0.out | apply Rdr.alloc | apply Rdr.drewN | apply Rdr.drew | apply Rdr.set_0 | apply Rdr.set_1) | exact HI0.out)⟩, ⟨by repeat (first | (with_reducible first | exact HB.out | apply below_alloc | apply pw_below_drewN | apply below_drew1 | refine below_set ?_ (Rdr.ge HI0.out)) | exact HB.out)⟩⟩
                      · have t8 : (((bt s (wrap64 (x + 1)))) == 110) = false := beq_eq_false_iff_ne.mpr d8
                        have N_d8 := Aside0.mk d8
                        clear d8
                        by_cases d9 : (bt s (wrap64 (x + 1))) = 34
                        · have t9 : (((bt s (wrap64 (x + 1)))) == 34) = true := beq_iff_eq.mpr d9
                          have N_d9 := Aside0.mk d9
                          clear d9
                          go_wp2_with (first | ((with_reducible refine gate_builtin (b := .append) (xs := #[.tmp 81, .tmp 83]) rfl ?_); (try (refine gate_guard (by rfl) ?_; dsimp only)); at_builtin; refine Kd.R_append (Kd.int .u8) (w0 := w0) w0.heap.size rfl (.tmp 81) (.tmp 83) 36 5 (.int .u8 0) 1 rfl Try.underlying36 info5 rfl (by decide) (by omega) (.slice A3 xs.length c3) xs ((bt s (wrap64 (x + 1)))) [.int .u8 ((bt s (wrap64 (x + 1))))] (fun _ => True) (fun _ => False) rfl rfl ?aP (fun _ hk => hk.elim) ?aF ?aO ?aB ?aS ?aL ?_; (case aP => exact rfl); (case aF => exact (fun _ _ => trivial)); (case aO => exact (by (with_reducible repeat (first | apply Kd.R_alloc | apply Kd.R_drewN | apply Kd.R_drew)); exact HO.out)); (case aB => exact (by repeat (first | (with_reducible first | exact HB.out | apply below_alloc | apply pw_below_drewN | apply below_drew1 | refine below_set ?_ (Rdr.ge HI0.out)) | exact HB.out))); (case aS => exact (Below.size (by repeat (first | (with_reducible first | exact HB.out | apply below_alloc | apply pw_below_drewN | apply below_drew1 | refine below_set ?_ (Rdr.ge HI0.out)) | exact HB.out)))); (case aL => have := HXL.out; omega); intro v116 w31 ho hb hg hat; have n0_ := Aside0.mk (Rdr.over (by repeat (first | (with_reducible first | exact HI0.out | apply Rdr.alloc | apply Rdr.drewN | apply Rdr.drew | apply Rdr.set_0 | apply Rdr.set_1) | exact HI0.out)) (by (with_reducible repeat (first | apply Kd.R_alloc | apply Kd.R_drewN | apply Kd.R_drew)); exact HO.out) hg); have n1_ := Aside0.mk hb; have n3_ := Aside0.mk ho; clear HI0; clear HB; clear HO; have HI0 := n0_; have HB := n1_; have HO := n3_; clear n0_ n1_ n3_; clear ho hb hg hat))
                          repeat (go_quiet (first | ((with_reducible refine gate_builtin (b := .append) (xs := #[.tmp 81, .tmp 83]) rfl ?_); (try (refine gate_guard (by rfl) ?_; dsimp only)); at_builtin; refine Kd.R_append (Kd.int .u8) (w0 := w0) w0.heap.size rfl (.tmp 81) (.tmp 83) 36 5 (.int .u8 0) 1 rfl Try.underlying36 info5 rfl (by decide) (by omega) (.slice A3 xs.length c3) xs ((bt s (wrap64 (x + 1)))) [.int .u8 ((bt s (wrap64 (x + 1))))] (fun _ => True) (fun _ => False) rfl rfl ?aP (fun _ hk => hk.elim) ?aF ?aO ?aB ?aS ?aL ?_; (case aP => exact rfl); (case aF => exact (fun _ _ => trivial)); (case aO => exact (by (with_reducible repeat (first | apply Kd.R_alloc | apply Kd.R_drewN | apply Kd.R_drew)); exact HO.out)); (case aB => exact (by repeat (first | (with_reducible first | exact HB.out | apply below_alloc | apply pw_below_drewN | apply below_drew1 | refine below_set ?_ (Rdr.ge HI0.out)) | exact HB.out))); (case aS => exact (Below.size (by repeat (first | (with_reducible first | exact HB.out | apply below_alloc | apply pw_below_drewN | apply below_drew1 | refine below_set ?_ (Rdr.ge HI0.out)) | exact HB.out)))); (case aL => have := HXL.out; omega); intro v116 w31 ho hb hg hat; have n0_ := Aside0.mk (Rdr.over (by repeat (first | (with_reducible first | exact HI0.out | apply Rdr.alloc | apply Rdr.drewN | apply Rdr.drew | apply Rdr.set_0 | apply Rdr.set_1) | exact HI0.out)) (by (with_reducible repeat (first | apply Kd.R_alloc | apply Kd.R_drewN | apply Kd.R_drew)); exact HO.out) hg); have n1_ := Aside0.mk hb; have n3_ := Aside0.mk ho; clear HI0; clear HB; clear HO; have HI0 := n0_; have HB := n1_; have HO := n3_; clear n0_ n1_ n3_; clear ho hb hg hat)); try go_wp2_with (first | ((with_reducible refine gate_builtin (b := .append) (xs := #[.tmp 81, .tmp 83]) rfl ?_); (try (refine gate_guard (by rfl) ?_; dsimp only)); at_builtin; refine Kd.R_append (Kd.int .u8) (w0 := w0) w0.heap.size rfl (.tmp 81) (.tmp 83) 36 5 (.int .u8 0) 1 rfl Try.underlying36 info5 rfl (by decide) (by omega) (.slice A3 xs.length c3) xs ((bt s (wrap64 (x + 1)))) [.int .u8 ((bt s (wrap64 (x + 1))))] (fun _ => True) (fun _ => False) rfl rfl ?aP (fun _ hk => hk.elim) ?aF ?aO ?aB ?aS ?aL ?_; (case aP => exact rfl); (case aF => exact (fun _ _ => trivial)); (case aO => exact (by (with_reducible repeat (first | apply Kd.R_alloc | apply Kd.R_drewN | apply Kd.R_drew)); exact HO.out)); (case aB => exact (by repeat (first | (with_reducible first | exact HB.out | apply below_alloc | apply pw_below_drewN | apply below_drew1 | refine below_set ?_ (Rdr.ge HI0.out)) | exact HB.out))); (case aS => exact (Below.size (by repeat (first | (with_reducible first | exact HB.out | apply below_alloc | apply pw_below_drewN | apply below_drew1 | refine below_set ?_ (Rdr.ge HI0.out)) | exact HB.out)))); (case aL => have := HXL.out; omega); intro v116 w31 ho hb hg hat; have n0_ := Aside0.mk (Rdr.over (by repeat (first | (with_reducible first | exact HI0.out | apply Rdr.alloc | apply Rdr.drewN | apply Rdr.drew | apply Rdr.set_0 | apply Rdr.set_1) | exact HI0.out)) (by (with_reducible repeat (first | apply Kd.R_alloc | apply Kd.R_drewN | apply Kd.R_drew)); exact HO.out) hg); have n1_ := Aside0.mk hb; have n3_ := Aside0.mk ho; clear HI0; clear HB; clear HO; have HI0 := n0_; have HB := n1_; have HO := n3_; clear n0_ n1_ n3_; clear ho hb hg hat)))
                          go_roundg k2
                          case measure => omega
                          case rel => exact ⟨_, _, (by first | rfl | (simp; done)), ⟨StrAt.slashD HZ.out HA.out N_d1.out N_d6.out Y1.out (.inl N_d9.out)⟩, ⟨by (with_reducible repeat (first | apply Kd.R_alloc | apply Kd.R_drewN | apply Kd.R_drew)); exact HO.out⟩, ⟨by repeat (first | (with_reducible first | exact HI0.out | apply Rdr.alloc | apply Rdr.drewN | apply Rdr.drew | apply Rdr.set_0 | apply Rdr.set_1) | exact HI0.out)⟩, ⟨by repeat (first | (with_reducible first | exact HB.out | apply below_alloc | apply pw_below_drewN | apply below_drew1 | refine below_set ?_ (Rdr.ge HI0.out)) | exact HB.out)⟩⟩
                        · have t9 : (((bt s (wrap64 (x + 1)))) == 34) = false := beq_eq_false_iff_ne.mpr d9
                          have N_d9 := Aside0.mk d9
                          clear d9
                          by_cases d10 : (bt s (wrap64 (x + 1))) = 92
                          · have t10 : (((bt s (wrap64 (x + 1)))) == 92) = true := beq_iff_eq.mpr d10
                            have N_d10 := Aside0.mk d10
                            clear d10
                            go_wp2_with (first | ((with_reducible refine gate_builtin (b := .append) (xs := #[.tmp 81, .tmp 83]) rfl ?_); (try (refine gate_guard (by rfl) ?_; dsimp only)); at_builtin; refine Kd.R_append (Kd.int .u8) (w0 := w0) w0.heap.size rfl (.tmp 81) (.tmp 83) 36 5 (.int .u8 0) 1 rfl Try.underlying36 info5 rfl (by decide) (by omega) (.slice A3 xs.length c3) xs ((bt s (wrap64 (x + 1)))) [.int .u8 ((bt s (wrap64 (x + 1))))] (fun _ => True) (fun _ => False) rfl rfl ?aP (fun _ hk => hk.elim) ?aF ?aO ?aB ?aS ?aL ?_; (case aP => exact rfl); (case aF => exact (fun _ _ => trivial)); (case aO => exact (by (with_reducible repeat (first | apply Kd.R_alloc | apply Kd.R_drewN | apply Kd.R_drew)); exact HO.out)); (case aB => exact (by repeat (first | (with_reducible first | exact HB.out | apply below_alloc | apply pw_below_drewN | apply below_drew1 | refine below_set ?_ (Rdr.ge HI0.out)) | exact HB.out))); (case aS => exact (Below.size (by repeat (first | (with_reducible first | exact HB.out | apply below_alloc | apply pw_below_drewN | apply below_drew1 | refine below_set ?_ (Rdr.ge HI0.out)) | exact HB.out)))); (case aL => have := HXL.out; omega); intro v116 w31 ho hb hg hat; have n0_ := Aside0.mk (Rdr.over (by repeat (first | (with_reducible first | exact HI0.out | apply Rdr.alloc | apply Rdr.drewN | apply Rdr.drew | apply Rdr.set_0 | apply Rdr.set_1) | exact HI0.out)) (by (with_reducible repeat (first | apply Kd.R_alloc | apply Kd.R_drewN | apply Kd.R_drew)); exact HO.out) hg); have n1_ := Aside0.mk hb; have n3_ := Aside0.mk ho; clear HI0; clear HB; clear HO; have HI0 := n0_; have HB := n1_; have HO := n3_; clear n0_ n1_ n3_; clear ho hb hg hat))
                            repeat (go_quiet (first | ((with_reducible refine gate_builtin (b := .append) (xs := #[.tmp 81, .tmp 83]) rfl ?_); (try (refine gate_guard (by rfl) ?_; dsimp only)); at_builtin; refine Kd.R_append (Kd.int .u8) (w0 := w0) w0.heap.size rfl (.tmp 81) (.tmp 83) 36 5 (.int .u8 0) 1 rfl Try.underlying36 info5 rfl (by decide) (by omega) (.slice A3 xs.length c3) xs ((bt s (wrap64 (x + 1)))) [.int .u8 ((bt s (wrap64 (x + 1))))] (fun _ => True) (fun _ => False) rfl rfl ?aP (fun _ hk => hk.elim) ?aF ?aO ?aB ?aS ?aL ?_; (case aP => exact rfl); (case aF => exact (fun _ _ => trivial)); (case aO => exact (by (with_reducible repeat (first | apply Kd.R_alloc | apply Kd.R_drewN | apply Kd.R_drew)); exact HO.out)); (case aB => exact (by repeat (first | (with_reducible first | exact HB.out | apply below_alloc | apply pw_below_drewN | apply below_drew1 | refine below_set ?_ (Rdr.ge HI0.out)) | exact HB.out))); (case aS => exact (Below.size (by repeat (first | (with_reducible first | exact HB.out | apply below_alloc | apply pw_below_drewN | apply below_drew1 | refine below_set ?_ (Rdr.ge HI0.out)) | exact HB.out)))); (case aL => have := HXL.out; omega); intro v116 w31 ho hb hg hat; have n0_ := Aside0.mk (Rdr.over (by repeat (first | (with_reducible first | exact HI0.out | apply Rdr.alloc | apply Rdr.drewN | apply Rdr.drew | apply Rdr.set_0 | apply Rdr.set_1) | exact HI0.out)) (by (with_reducible repeat (first | apply Kd.R_alloc | apply Kd.R_drewN | apply Kd.R_drew)); exact HO.out) hg); have n1_ := Aside0.mk hb; have n3_ := Aside0.mk ho; clear HI0; clear HB; clear HO; have HI0 := n0_; have HB := n1_; have HO := n3_; clear n0_ n1_ n3_; clear ho hb hg hat)); try go_wp2_with (first | ((with_reducible refine gate_builtin (b := .append) (xs := #[.tmp 81, .tmp 83]) rfl ?_); (try (refine gate_guard (by rfl) ?_; dsimp only)); at_builtin; refine Kd.R_append (Kd.int .u8) (w0 := w0) w0.heap.size rfl (.tmp 81) (.tmp 83) 36 5 (.int .u8 0) 1 rfl Try.underlying36 info5 rfl (by decide) (by omega) (.slice A3 xs.length c3) xs ((bt s (wrap64 (x + 1)))) [.int .u8 ((bt s (wrap64 (x + 1))))] (fun _ => True) (fun _ => False) rfl rfl ?aP (fun _ hk => hk.elim) ?aF ?aO ?aB ?aS ?aL ?_; (case aP => exact rfl); (case aF => exact (fun _ _ => trivial)); (case aO => exact (by (with_reducible repeat (first | apply Kd.R_alloc | apply Kd.R_drewN | apply Kd.R_drew)); exact HO.out)); (case aB => exact (by repeat (first | (with_reducible first | exact HB.out | apply below_alloc | apply pw_below_drewN | apply below_drew1 | refine below_set ?_ (Rdr.ge HI0.out)) | exact HB.out))); (case aS => exact (Below.size (by repeat (first | (with_reducible first | exact HB.out | apply below_alloc | apply pw_below_drewN | apply below_drew1 | refine below_set ?_ (Rdr.ge HI0.out)) | exact HB.out)))); (case aL => have := HXL.out; omega); intro v116 w31 ho hb hg hat; have n0_ := Aside0.mk (Rdr.over (by repeat (first | (with_reducible first | exact HI0.out | apply Rdr.alloc | apply Rdr.drewN | apply Rdr.drew | apply Rdr.set_0 | apply Rdr.set_1) | exact HI0.out)) (by (with_reducible repeat (first | apply Kd.R_alloc | apply Kd.R_drewN | apply Kd.R_drew)); exact HO.out) hg); have n1_ := Aside0.mk hb; have n3_ := Aside0.mk ho; clear HI0; clear HB; clear HO; have HI0 := n0_; have HB := n1_; have HO := n3_; clear n0_ n1_ n3_; clear ho hb hg hat)))
                            go_roundg k2
                            case measure => omega
                            case rel => exact ⟨_, _, (by first | rfl | (simp; done)), ⟨StrAt.slashD HZ.out HA.out N_d1.out N_d6.out Y1.out (.inr N_d10.out)⟩, ⟨by (with_reducible repeat (first | apply Kd.R_alloc | apply Kd.R_drewN | apply Kd.R_drew)); exact HO.out⟩, ⟨by repeat (first | (with_reducible first | exact HI0.out | apply Rdr.alloc | apply Rdr.drewN | apply Rdr.drew | apply Rdr.set_0 | apply Rdr.set_1) | exact HI0.out)⟩, ⟨by repeat (first | (with_reducible first | exact HB.out | apply below_alloc | apply pw_below_drewN | apply below_drew1 | refine below_set ?_ (Rdr.ge HI0.out)) | exact HB.out)⟩⟩
                          · have t10 : (((bt s (wrap64 (x + 1)))) == 92) = false := beq_eq_false_iff_ne.mpr d10
                            have N_d10 := Aside0.mk d10
                            clear d10
                            go_wp2_with (fail)
                            repeat (go_quiet (fail); try go_wp2_with (fail))
                            try go_ret
                            change P (Ending.returned (.bool false)) _
                            rw [HP0.out]
                            exact .inr ⟨StrAt.slashX HZ.out HA.out N_d1.out N_d6.out Y1.out N_d8.out N_d9.out N_d10.out, rfl, by repeat (first | (with_reducible first | exact HI0.out | apply Rdr.alloc | apply Rdr.drewN | apply Rdr.drew | apply Rdr.set_0 | apply Rdr.set_1) | exact HI0.out), by repeat (first | (with_reducible first | exact HB.out | apply below_alloc | apply pw_below_drewN | apply below_drew1 | refine below_set ?_ (Rdr.ge HI0.out)) | exact HB.out)⟩
                  · have t6 : (((bt s x)) == 92) = false := beq_eq_false_iff_ne.mpr d6
                    have N_d6 := Aside0.mk d6
                    clear d6
                    go_wp2_with (first | ((with_reducible refine gate_builtin (b := .append) (xs := #[.tmp 81, .tmp 83]) rfl ?_); (try (refine gate_guard (by rfl) ?_; dsimp only)); at_builtin; refine Kd.R_append (Kd.int .u8) (w0 := w0) w0.heap.size rfl (.tmp 81) (.tmp 83) 36 5 (.int .u8 0) 1 rfl Try.underlying36 info5 rfl (by decide) (by omega) (.slice A3 xs.length c3) xs ((bt s x)) [.int .u8 ((bt s x))] (fun _ => True) (fun _ => False) rfl rfl ?aP (fun _ hk => hk.elim) ?aF ?aO ?aB ?aS ?aL ?_; (case aP => exact rfl); (case aF => exact (fun _ _ => trivial)); (case aO => exact (by (with_reducible repeat (first | apply Kd.R_alloc | apply Kd.R_drewN | apply Kd.R_drew)); exact HO.out)); (case aB => exact (by repeat (first | (with_reducible first | exact HB.out | apply below_alloc | apply pw_below_drewN | apply below_drew1 | refine below_set ?_ (Rdr.ge HI0.out)) | exact HB.out))); (case aS => exact (Below.size (by repeat (first | (with_reducible first | exact HB.out | apply below_alloc | apply pw_below_drewN | apply below_drew1 | refine below_set ?_ (Rdr.ge HI0.out)) | exact HB.out)))); (case aL => have := HXL.out; omega); intro v116 w31 ho hb hg hat; have n0_ := Aside0.mk (Rdr.over (by repeat (first | (with_reducible first | exact HI0.out | apply Rdr.alloc | apply Rdr.drewN | apply Rdr.drew | apply Rdr.set_0 | apply Rdr.set_1) | exact HI0.out)) (by (with_reducible repeat (first | apply Kd.R_alloc | apply Kd.R_drewN | apply Kd.R_drew)); exact HO.out) hg); have n1_ := Aside0.mk hb; have n3_ := Aside0.mk ho; clear HI0; clear HB; clear HO; have HI0 := n0_; have HB := n1_; have HO := n3_; clear n0_ n1_ n3_; clear ho hb hg hat))
                    repeat (go_quiet (first | ((with_reducible refine gate_builtin (b := .append) (xs := #[.tmp 81, .tmp 83]) rfl ?_); (try (refine gate_guard (by rfl) ?_; dsimp only)); at_builtin; refine Kd.R_append (Kd.int .u8) (w0 := w0) w0.heap.size rfl (.tmp 81) (.tmp 83) 36 5 (.int .u8 0) 1 rfl Try.underlying36 info5 rfl (by decide) (by omega) (.slice A3 xs.length c3) xs ((bt s x)) [.int .u8 ((bt s x))] (fun _ => True) (fun _ => False) rfl rfl ?aP (fun _ hk => hk.elim) ?aF ?aO ?aB ?aS ?aL ?_; (case aP => exact rfl); (case aF => exact (fun _ _ => trivial)); (case aO => exact (by (with_reducible repeat (first | apply Kd.R_alloc | apply Kd.R_drewN | apply Kd.R_drew)); exact HO.out)); (case aB => exact (by repeat (first | (with_reducible first | exact HB.out | apply below_alloc | apply pw_below_drewN | apply below_drew1 | refine below_set ?_ (Rdr.ge HI0.out)) | exact HB.out))); (case aS => exact (Below.size (by repeat (first | (with_reducible first | exact HB.out | apply below_alloc | apply pw_below_drewN | apply below_drew1 | refine below_set ?_ (Rdr.ge HI0.out)) | exact HB.out)))); (case aL => have := HXL.out; omega); intro v116 w31 ho hb hg hat; have n0_ := Aside0.mk (Rdr.over (by repeat (first | (with_reducible first | exact HI0.out | apply Rdr.alloc | apply Rdr.drewN | apply Rdr.drew | apply Rdr.set_0 | apply Rdr.set_1) | exact HI0.out)) (by (with_reducible repeat (first | apply Kd.R_alloc | apply Kd.R_drewN | apply Kd.R_drew)); exact HO.out) hg); have n1_ := Aside0.mk hb; have n3_ := Aside0.mk ho; clear HI0; clear HB; clear HO; have HI0 := n0_; have HB := n1_; have HO := n3_; clear n0_ n1_ n3_; clear ho hb hg hat)); try go_wp2_with (first | ((with_reducible refine gate_builtin (b := .append) (xs := #[.tmp 81, .tmp 83]) rfl ?_); (try (refine gate_guard (by rfl) ?_; dsimp only)); at_builtin; refine Kd.R_append (Kd.int .u8) (w0 := w0) w0.heap.size rfl (.tmp 81) (.tmp 83) 36 5 (.int .u8 0) 1 rfl Try.underlying36 info5 rfl (by decide) (by omega) (.slice A3 xs.length c3) xs ((bt s x)) [.int .u8 ((bt s x))] (fun _ => True) (fun _ => False) rfl rfl ?aP (fun _ hk => hk.elim) ?aF ?aO ?aB ?aS ?aL ?_; (case aP => exact rfl); (case aF => exact (fun _ _ => trivial)); (case aO => exact (by (with_reducible repeat (first | apply Kd.R_alloc | apply Kd.R_drewN | apply Kd.R_drew)); exact HO.out)); (case aB => exact (by repeat (first | (with_reducible first | exact HB.out | apply below_alloc | apply pw_below_drewN | apply below_drew1 | refine below_set ?_ (Rdr.ge HI0.out)) | exact HB.out))); (case aS => exact (Below.size (by repeat (first | (with_reducible first | exact HB.out | apply below_alloc | apply pw_below_drewN | apply below_drew1 | refine below_set ?_ (Rdr.ge HI0.out)) | exact HB.out)))); (case aL => have := HXL.out; omega); intro v116 w31 ho hb hg hat; have n0_ := Aside0.mk (Rdr.over (by repeat (first | (with_reducible first | exact HI0.out | apply Rdr.alloc | apply Rdr.drewN | apply Rdr.drew | apply Rdr.set_0 | apply Rdr.set_1) | exact HI0.out)) (by (with_reducible repeat (first | apply Kd.R_alloc | apply Kd.R_drewN | apply Kd.R_drew)); exact HO.out) hg); have n1_ := Aside0.mk hb; have n3_ := Aside0.mk ho; clear HI0; clear HB; clear HO; have HI0 := n0_; have HB := n1_; have HO := n3_; clear n0_ n1_ n3_; clear ho hb hg hat)))
                    go_roundg k2
                    case measure => omega
                    case rel => exact ⟨_, _, (by first | rfl | (simp; done)), ⟨StrAt.plain HZ.out HA.out N_d1.out (by have := N_d3.out; omega) (by have := N_d4.out; omega) (by have := N_d5.out; omega) (by have := N_d6.out; omega)⟩, ⟨by (with_reducible repeat (first | apply Kd.R_alloc | apply Kd.R_drewN | apply Kd.R_drew)); exact HO.out⟩, ⟨by repeat (first | (with_reducible first | exact HI0.out | apply Rdr.alloc | apply Rdr.drewN | apply Rdr.drew | apply Rdr.set_0 | apply Rdr.set_1) | exact HI0.out)⟩, ⟨by repeat (first | (with_reducible first | exact HB.out | apply below_alloc | apply pw_below_drewN | apply below_drew1 | refine below_set ?_ (Rdr.ge HI0.out)) | exact HB.out)⟩⟩
          · have t2 : decide ((xs.length : Int) ≤ 100) = false := decide_eq_false d2
            have t2b : decide (xs.length ≤ 100) = false := decide_eq_false (by omega)
            have N_d2 := Aside0.mk d2
            clear d2
            go_wp2_with (fail)
            repeat (go_quiet (fail); try go_wp2_with (fail))
            try go_ret
            change P (Ending.returned (.bool false)) _
            rw [HP0.out]
            exact .inr ⟨HA.out.long (by have := N_d2.out; omega), rfl, by repeat (first | (with_reducible first | exact HI0.out | apply Rdr.alloc | apply Rdr.drewN | apply Rdr.drew | apply Rdr.set_0 | apply Rdr.set_1) | exact HI0.out), by repeat (first | (with_reducible first | exact HB.out | apply below_alloc | apply pw_below_drewN | apply below_drew1 | refine below_set ?_ (Rdr.ge HI0.out)) | exact HB.out)⟩
        · have t1 : decide (x < (s.size : Int)) = false := decide_eq_false d1
          have N_d1 := Aside0.mk d1
          clear d1
          go_wp2_with (fail)
          repeat (go_quiet (fail); try go_wp2_with (fail))
          try go_ret
          change P (Ending.returned (.bool false)) _
          rw [HP0.out]
          exact .inr ⟨HA.out.ends (by have := N_d1.out; omega), rfl, by repeat (first | (with_reducible first | exact HI0.out | apply Rdr.alloc | apply Rdr.drewN | apply Rdr.drew | apply Rdr.set_0 | apply Rdr.set_1) | exact HI0.out), by repeat (first | (with_reducible first | exact HB.out | apply below_alloc | apply pw_below_drewN | apply below_drew1 | refine below_set ?_ (Rdr.ge HI0.out)) | exact HB.out)⟩
end Go.Proofs.Ytmmjhdhgohfioaa.Gx
