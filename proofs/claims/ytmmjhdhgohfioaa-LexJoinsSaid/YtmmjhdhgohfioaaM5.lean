/-
  THE METHOD number: digits from the reader's place on.
-/
import Derived.Test.YtmmjhdhgohfioaaM1
import Derived.Deep.CutBlock
import Derived.Deep.DeepCutAuto
namespace Go.Proofs.Ytmmjhdhgohfioaa.Gx
open Go.RowKit Go.Proofs.YtmmjhdhgohfioaaW.PrintWords Go.Proofs.YtmmjhdhgohfioaaW.PrintLast Go.Proofs.YtmmjhdhgohfioaaW.PrintMore
attribute [local go_sem] max2_int min2_int max_two min_two max_three min_three max_four min_four
set_option linter.unusedVariables false
set_option linter.unusedSimpArgs false

/-- How the method number ends: z: what stands there of letters and digits. -/
def NumEnd (w0 : World) (g : Nat) (s : ByteArray) (a t : Int) (toks : List S31) (z : ByteArray) (e : Ending) (w' : World) : Prop :=
  (∃ v, (¬ (1 < z.size ∧ bt z 0 = 48)) ∧ numVal 0 z.data.toList = some v ∧ e = .returned (.bool true) ∧ Rdr w0 w' g s (wrap64 (a + t)) (toks ++ [⟨3, z, v, a⟩]) ∧ Below w0.heap.size w0 w') ∨
  (((1 < z.size ∧ bt z 0 = 48) ∨ numVal 0 z.data.toList = none) ∧ e = .returned (.bool false) ∧ Rdr w0 w' g s a toks ∧ Below w0.heap.size w0 w')
def NumAt (z : ByteArray) (x v : Int) (k : Nat) : Prop := ∃ i : Nat, x = (i : Int) ∧ i ≤ z.size ∧ z.size < k + i ∧ 0 ≤ v ∧ v ≤ 9223372036854775807 ∧ numVal v (suf z i) = numVal 0 z.data.toList
theorem NumAt.start (z : ByteArray) : NumAt z 0 0 (z.size + 1) := ⟨0, rfl, Nat.zero_le _, by omega, by omega, by omega, by rw [suf_zero]⟩
theorem NumAt.none_ {z : ByteArray} {x v : Int} (h : NumAt z x v 0) : False := by
  obtain ⟨i, _, h1, h2, _⟩ := h
  omega
theorem NumAt.ends {z : ByteArray} {x v : Int} {k : Nat} (h : NumAt z x v k) (hx : ¬ x < (z.size : Int)) : numVal 0 z.data.toList = some v := by
  obtain ⟨i, rfl, h1, h2, h3, h4, h5⟩ := h
  rw [← h5, suf_end (by omega)]
  rfl
theorem NumAt.nonneg {z : ByteArray} {x v : Int} {k : Nat} (h : NumAt z x v k) : 0 ≤ x := by
  obtain ⟨i, rfl, _⟩ := h
  omega
theorem NumAt.cons {z : ByteArray} {x v : Int} {k : Nat} (h : NumAt z x v (k + 1)) (hx : x < (z.size : Int)) : ∃ (c : UInt8) (r : List UInt8) (i : Nat), x = (i : Int) ∧ suf z i = c :: r ∧ bt z x = (c.toNat : Int) ∧ z.size = i + 1 + r.length := by
  obtain ⟨i, rfl, h1, h2, h3, h4, h5⟩ := h
  match hs : suf z i with
  | [] => have := suf_nil hs; omega
  | c :: r =>
    obtain ⟨a1, a2, a3, a4⟩ := suf_cons hs
    exact ⟨c, r, i, rfl, hs, a2, a4⟩
theorem dig_w {n : Int} (h0 : 0 ≤ n) (h1 : n ≤ 255) : wrap64 ((wrap64 n) - 48) = n - 48 := by unfold wrap64; omega
theorem quo_w {n : Int} (h0 : 48 ≤ n) (h1 : n ≤ 57) : wrap64 (Int.tdiv (wrap64 (9223372036854775807 - (n - 48))) 10) = (9223372036854775807 - (n - 48)) / 10 := by
  have e : wrap64 (9223372036854775807 - (n - 48)) = 9223372036854775807 - (n - 48) := by unfold wrap64; omega
  rw [e, Int.tdiv_eq_ediv_of_nonneg (by omega)]
  unfold wrap64
  omega
theorem NumAt.notdigit {z : ByteArray} {x v : Int} {k : Nat} (h : NumAt z x v (k + 1)) (hx : x < (z.size : Int)) (hd : lex_digit.f (bt z x) = some false) : numVal 0 z.data.toList = none := by
  obtain ⟨c, r, i, rfl, hs, hb, _⟩ := h.cons hx
  obtain ⟨j, hj, h1, h2, h3, h4, h5⟩ := h
  obtain rfl : j = i := by omega
  rw [hb, lex_digit_eq] at hd
  rw [← h5, hs, numVal, if_neg]
  rintro ⟨hc, _⟩
  rw [hc] at hd
  simp at hd
theorem NumAt.great {z : ByteArray} {x v : Int} {k : Nat} (h : NumAt z x v (k + 1)) (hx : x < (z.size : Int)) (hd : lex_digit.f (bt z x) = some true) (hg : wrap64 (Int.tdiv (wrap64 (9223372036854775807 - (wrap64 ((wrap64 (bt z x)) - 48)))) 10) < v) : numVal 0 z.data.toList = none := by
  obtain ⟨c, r, i, rfl, hs, hb, _⟩ := h.cons hx
  obtain ⟨j, hj, h1, h2, h3, h4, h5⟩ := h
  obtain rfl : j = i := by omega
  rw [hb, lex_digit_eq] at hd
  have hc : isDigit c = true := by simpa using hd
  have hc2 := (digit_iff c).1 hc
  rw [hb, dig_w (by omega) (by omega), quo_w (by omega) (by omega)] at hg
  rw [← h5, hs, numVal, if_neg]
  rintro ⟨_, h6⟩
  omega
theorem NumAt.next {z : ByteArray} {x v : Int} {k : Nat} (hz : z.size ≤ 8192) (h : NumAt z x v (k + 1)) (hx : x < (z.size : Int)) (hd : lex_digit.f (bt z x) = some true) (hg : ¬ wrap64 (Int.tdiv (wrap64 (9223372036854775807 - (wrap64 ((wrap64 (bt z x)) - 48)))) 10) < v) :
    NumAt z (wrap64 (x + 1)) (wrap64 ((wrap64 (v * 10)) + (wrap64 ((wrap64 (bt z x)) - 48)))) k := by
  obtain ⟨c, r, i, rfl, hs, hb, hsz⟩ := h.cons hx
  obtain ⟨j, hj, h1, h2, h3, h4, h5⟩ := h
  obtain rfl : j = i := by omega
  rw [hb, lex_digit_eq] at hd
  have hc : isDigit c = true := by simpa using hd
  have hc2 := (digit_iff c).1 hc
  rw [hb, dig_w (by omega) (by omega), quo_w (by omega) (by omega)] at hg
  have e1 : wrap64 ((j : Int) + 1) = ((j + 1 : Nat) : Int) := by rw [w64 (by omega) (by omega)]; omega
  have e2 : wrap64 ((wrap64 (v * 10)) + (wrap64 ((wrap64 (bt z (j : Int))) - 48))) = v * 10 + ((c.toNat : Int) - 48) := by
    rw [hb, dig_w (by omega) (by omega), w64 (x := v * 10) (by omega) (by omega), w64 (by omega) (by omega)]
  obtain ⟨a1, a2, a3, a4⟩ := suf_cons hs
  refine ⟨j + 1, e1, by omega, by omega, by rw [e2]; omega, by rw [e2]; omega, ?_⟩
  rw [e2, ← h5, hs, a3, numVal, if_pos ⟨hc, by omega⟩]

set_option maxHeartbeats 8000000 in
set_option maxRecDepth 100000 in
theorem number_calls (g : Nat) (s : ByteArray) (a t : Int) (toks : List S31) (k : Nat) (w0 w : World) (hI : Rdr w0 w g s a toks) (hB : Below w0.heap.size w0 w) (hl : toks.length ≤ 8192) (hsz : s.size ≤ 8192) (h0 : 0 ≤ a) (h1 : a ≤ (s.size : Int)) (h2 : a ≤ wrap64 (a + t)) (h3 : wrap64 (a + t) ≤ (s.size : Int))
    (hrun : lex_run.f k (s.extract (a : Int).toNat s.size) = some t) :
    Calls Try.prog 30 #[.pointer (some ⟨g, 0, none⟩)] w (NumEnd w0 g s a t toks (s.extract (a : Int).toNat (wrap64 (a + t) : Int).toNat)) := by
    have HI0 := Aside0.mk hI
    have HB := Aside0.mk hB
    have HT := Aside0.mk (show toks.length < 3518437208883 by omega)
    have HZ := Aside0.mk (show (s.extract (a : Int).toNat (wrap64 (a + t) : Int).toNat).size ≤ 8192 by rw [ByteArray.size_extract]; omega)
    have A4 := Aside0.mk hrun
    clear hI hB hrun hl hsz
    have c2b0 := eq_true h0
    have c2b1 : decide (0 ≤ a) = true := decide_eq_true h0
    have c3b0 := eq_true h1
    have c3b1 : decide (a ≤ (s.size : Int)) = true := decide_eq_true h1
    have c6b0 := eq_true h2
    have c6b1 : decide (a ≤ (wrap64 (a + t))) = true := decide_eq_true h2
    have c7b0 := eq_true h3
    have c7b1 : decide ((wrap64 (a + t)) ≤ (s.size : Int)) = true := decide_eq_true h3
    clear h0 h1 h2 h3
    obtain ⟨AS, cS, HG, hg, HS⟩ := HI0.out
    have hcz0 := cellR_0 HG
    have hcz1 := cellR_1 HG
    have hcz2 := cellR_2 HG
    have hfz0 := blk_frozen HG 0
    have hfz1 := blk_frozen HG 1
    clear HG hg HS

    obtain ⟨P, HP⟩ : ∃ P : Ending → World → Prop, P = NumEnd w0 g s a t toks (s.extract (a : Int).toNat (wrap64 (a + t) : Int).toNat) := ⟨_, rfl⟩
    rw [← HP]
    have HP0 := Aside0.mk HP
    clear HP
    go_enter Try.func30, Try.ntmps30
    go_upto_region 2 with (first | (go_at_call 25; (with_reducible refine (lex_run.calls k (s.extract (a : Int).toNat s.size) t _ A4.out).mono ?_); rintro e w' ⟨rfl, ⟨nd, rfl⟩⟩; (try first | exact ⟨rfl, _, World.drewN_drewN _ _ _⟩ | exact ⟨rfl, _, Eq.trans (World.drewN_drewN _ _ _) (congrArg (World.drewN _) (Nat.add_assoc _ _ _))⟩)))
    go_quiet (first | (go_at_call 25; (with_reducible refine (lex_run.calls k (s.extract (a : Int).toNat s.size) t _ A4.out).mono ?_); rintro e w' ⟨rfl, ⟨nd, rfl⟩⟩; (try first | exact ⟨rfl, _, World.drewN_drewN _ _ _⟩ | exact ⟨rfl, _, Eq.trans (World.drewN_drewN _ _ _) (congrArg (World.drewN _) (Nat.add_assoc _ _ _))⟩)))
    go_upto_region 2 with (fail)
    go_cut [3, 4] (fun v3 v4 wc => ∃ z, v3 = .int .i64 t ∧ v4 = .string z ∧ Aside0 (z = (s.extract (a : Int).toNat (wrap64 (a + t) : Int).toNat)) ∧ Aside0 (Rdr w0 wc g s a toks) ∧ Aside0 (Below w0.heap.size w0 wc))
    case first =>
      go_wp2
      repeat (go_quiet (fail); try go_wp2)
      go_meet
      case rel => exact ⟨_, (by first | rfl | (simp; done)), (by first | rfl | (simp; done)), ⟨rfl⟩, ⟨by repeat (first | (with_reducible first | exact HI0.out | apply Rdr.alloc | apply Rdr.drewN | apply Rdr.drew | apply Rdr.set_0 | apply Rdr.set_1) | exact HI0.out)⟩, ⟨by repeat (first | (with_reducible first | exact HB.out | apply below_alloc | apply pw_below_drewN | apply below_drew1 | refine below_set ?_ (Rdr.ge HI0.out)) | exact HB.out)⟩⟩
    case rest =>
      clear hcz0 hcz1 hcz2 hfz0 hfz1 HI0 HB c2b0 c2b1 c3b0 c3b1 c6b0 c6b1 c7b0 c7b1
      obtain ⟨z, rfl, rfl, Hz, HI0, HB⟩ := hcut
      rw [← Hz.out] at HZ
      by_cases c10 : (z.size : Int) > 1 ∧ bt z 0 = 48
      · have c10b0 : decide (1 < (z.size : Int)) = true := decide_eq_true c10.1
        have c10b1 : decide (1 < z.size) = true := decide_eq_true (by omega)
        have c11b0 : (bt z 0 == 48) = true := beq_iff_eq.mpr c10.2
        have q1 : (0 < z.size) = True := eq_true (by omega)
        have q2 : (0 < (z.size : Int)) = True := eq_true (by omega)
        have hx : ∀ h : 0 < z.size, ((z[0]'h).toNat : Int) = bt z 0 := bt_at z 0
        have HE := Aside0.mk (show 1 < z.size ∧ bt z 0 = 48 from ⟨by omega, c10.2⟩)
        clear c10
        obtain ⟨AS, cS, HG, hg, HS⟩ := HI0.out
        have hcz0 := cellR_0 HG
        have hcz1 := cellR_1 HG
        have hcz2 := cellR_2 HG
        have hfz0 := blk_frozen HG 0
        have hfz1 := blk_frozen HG 1
        clear HG hg HS

        go_wp2
        repeat (go_quiet (fail); try go_wp2)
        try go_ret
        change P (Ending.returned (.bool false)) _
        rw [HP0.out, ← Hz.out]
        exact .inr ⟨.inl HE.out, rfl, by repeat (first | (with_reducible first | exact HI0.out | apply Rdr.alloc | apply Rdr.drewN | apply Rdr.drew | apply Rdr.set_0 | apply Rdr.set_1) | exact HI0.out), by repeat (first | (with_reducible first | exact HB.out | apply below_alloc | apply pw_below_drewN | apply below_drew1 | refine below_set ?_ (Rdr.ge HI0.out)) | exact HB.out)⟩
      · have HE := Aside0.mk (show ¬ (1 < z.size ∧ bt z 0 = 48) from fun h => c10 ⟨by omega, h.2⟩)
        obtain ⟨b, hb⟩ : ∃ b, decide (1 < (z.size : Int)) = b := ⟨_, rfl⟩
        have hb2 : decide (1 < z.size) = b := by rw [← hb, decide_eq_decide]; omega
        have hc : b = true → (bt z 0 == 48) = false := by
          intro e
          rw [beq_eq_false_iff_ne]
          intro h
          rw [e] at hb
          exact c10 ⟨of_decide_eq_true hb, h⟩
        have hq : b = true → 0 < z.size := by intro e; rw [e] at hb2; have := of_decide_eq_true hb2; omega
        clear c10
        cases b
        all_goals
          first
          | (have q1 := eq_true (hq rfl); have hc1 := hc rfl; have q2 : (0 < (z.size : Int)) = True := eq_true (by have := of_eq_true q1; omega); have hx : ∀ h : 0 < z.size, ((z[0]'h).toNat : Int) = bt z 0 := bt_at z 0; clear hq hc)
          | clear hq hc
        all_goals
          obtain ⟨AS, cS, HG, hg, HS⟩ := HI0.out
          have hcz0 := cellR_0 HG
          have hcz1 := cellR_1 HG
          have hcz2 := cellR_2 HG
          have hfz0 := blk_frozen HG 0
          have hfz1 := blk_frozen HG 1
          clear HG hg HS

          go_wp2
          repeat (go_quiet (fail); try go_wp2)
          clear hcz0 hcz1 hcz2 hfz0 hfz1 hb hb2
          try clear q1 q2 hx hc1
          go_loopg [5, 43] (z.size + 1) (fun kq v5 v43 w' => ∃ (v x : Int), v5 = .int .i64 v ∧ v43 = .int .i64 x ∧ Aside0 (NumAt z x v kq) ∧ Aside0 (Rdr w0 w' g s a toks) ∧ Aside0 (Below w0.heap.size w0 w'))
          case atStart => exact ⟨0, 0, (by first | rfl | (simp; done)), (by first | rfl | (simp; done)), ⟨NumAt.start z⟩, ⟨by repeat (first | (with_reducible first | exact HI0.out | apply Rdr.alloc | apply Rdr.drewN | apply Rdr.drew | apply Rdr.set_0 | apply Rdr.set_1) | exact HI0.out)⟩, ⟨by repeat (first | (with_reducible first | exact HB.out | apply below_alloc | apply pw_below_drewN | apply below_drew1 | refine below_set ?_ (Rdr.ge HI0.out)) | exact HB.out)⟩⟩
          case round =>
            clear HI0 HB
            obtain ⟨v, x, rfl, rfl, HA, HI0, HB⟩ := hrel
            cases gk with
            | zero => exact absurd HA.out NumAt.none_
            | succ k2 =>
              by_cases c14 : x < (z.size : Int)
              · have c14b0 : decide (x < (z.size : Int)) = true := decide_eq_true c14
                have p17 := eq_true HA.out.nonneg
                have p18 : decide (0 ≤ x) = true := decide_eq_true HA.out.nonneg
                have q17 := eq_true c14
                have hx17 := bt_at z x
                have HX := Aside0.mk c14
                clear c14
                obtain ⟨b, hd⟩ : ∃ b, lex_digit.f (bt z x) = some b := by unfold lex_digit.f; split <;> exact ⟨_, rfl⟩
                have HD := Aside0.mk hd
                clear hd
                cases b with
                | true =>
                  by_cases c21 : wrap64 (Int.tdiv (wrap64 (9223372036854775807 - (wrap64 ((wrap64 (bt z x)) - 48)))) 10) < v
                  · have c21b0 : decide (wrap64 (Int.tdiv (wrap64 (9223372036854775807 - (wrap64 ((wrap64 (bt z x)) - 48)))) 10) < v) = true := decide_eq_true c21
                    have HN := Aside0.mk (NumAt.great HA.out HX.out HD.out c21)
                    clear c21
                    go_wp2_with (first | (go_at_call 29; (with_reducible refine (lex_digit.calls (bt z x) true _ HD.out).mono ?_); rintro e w' ⟨rfl, ⟨nd, rfl⟩⟩; (try first | exact ⟨rfl, _, World.drewN_drewN _ _ _⟩ | exact ⟨rfl, _, Eq.trans (World.drewN_drewN _ _ _) (congrArg (World.drewN _) (Nat.add_assoc _ _ _))⟩)))
                    repeat (go_quiet (first | (go_at_call 29; (with_reducible refine (lex_digit.calls (bt z x) true _ HD.out).mono ?_); rintro e w' ⟨rfl, ⟨nd, rfl⟩⟩; (try first | exact ⟨rfl, _, World.drewN_drewN _ _ _⟩ | exact ⟨rfl, _, Eq.trans (World.drewN_drewN _ _ _) (congrArg (World.drewN _) (Nat.add_assoc _ _ _))⟩))); try go_wp2_with (first | (go_at_call 29; (with_reducible refine (lex_digit.calls (bt z x) true _ HD.out).mono ?_); rintro e w' ⟨rfl, ⟨nd, rfl⟩⟩; (try first | exact ⟨rfl, _, World.drewN_drewN _ _ _⟩ | exact ⟨rfl, _, Eq.trans (World.drewN_drewN _ _ _) (congrArg (World.drewN _) (Nat.add_assoc _ _ _))⟩))))
                    try go_ret
                    change P (Ending.returned (.bool false)) _
                    rw [HP0.out, ← Hz.out]
                    exact .inr ⟨.inr HN.out, rfl, by repeat (first | (with_reducible first | exact HI0.out | apply Rdr.alloc | apply Rdr.drewN | apply Rdr.drew | apply Rdr.set_0 | apply Rdr.set_1) | exact HI0.out), by repeat (first | (with_reducible first | exact HB.out | apply below_alloc | apply pw_below_drewN | apply below_drew1 | refine below_set ?_ (Rdr.ge HI0.out)) | exact HB.out)⟩
                  · have c21b0 : decide (wrap64 (Int.tdiv (wrap64 (9223372036854775807 - (wrap64 ((wrap64 (bt z x)) - 48)))) 10) < v) = false := decide_eq_false c21
                    have HN := Aside0.mk (NumAt.next HZ.out HA.out HX.out HD.out c21)
                    clear c21
                    go_wp2_with (first | (go_at_call 29; (with_reducible refine (lex_digit.calls (bt z x) true _ HD.out).mono ?_); rintro e w' ⟨rfl, ⟨nd, rfl⟩⟩; (try first | exact ⟨rfl, _, World.drewN_drewN _ _ _⟩ | exact ⟨rfl, _, Eq.trans (World.drewN_drewN _ _ _) (congrArg (World.drewN _) (Nat.add_assoc _ _ _))⟩)))
                    repeat (go_quiet (first | (go_at_call 29; (with_reducible refine (lex_digit.calls (bt z x) true _ HD.out).mono ?_); rintro e w' ⟨rfl, ⟨nd, rfl⟩⟩; (try first | exact ⟨rfl, _, World.drewN_drewN _ _ _⟩ | exact ⟨rfl, _, Eq.trans (World.drewN_drewN _ _ _) (congrArg (World.drewN _) (Nat.add_assoc _ _ _))⟩))); try go_wp2_with (first | (go_at_call 29; (with_reducible refine (lex_digit.calls (bt z x) true _ HD.out).mono ?_); rintro e w' ⟨rfl, ⟨nd, rfl⟩⟩; (try first | exact ⟨rfl, _, World.drewN_drewN _ _ _⟩ | exact ⟨rfl, _, Eq.trans (World.drewN_drewN _ _ _) (congrArg (World.drewN _) (Nat.add_assoc _ _ _))⟩))))
                    go_roundg k2
                    case measure => omega
                    case rel => exact ⟨_, _, (by first | rfl | (simp; done)), (by first | rfl | (simp; done)), HN, ⟨by repeat (first | (with_reducible first | exact HI0.out | apply Rdr.alloc | apply Rdr.drewN | apply Rdr.drew | apply Rdr.set_0 | apply Rdr.set_1) | exact HI0.out)⟩, ⟨by repeat (first | (with_reducible first | exact HB.out | apply below_alloc | apply pw_below_drewN | apply below_drew1 | refine below_set ?_ (Rdr.ge HI0.out)) | exact HB.out)⟩⟩
                | false =>
                    have HN := Aside0.mk (NumAt.notdigit HA.out HX.out HD.out)
                    go_wp2_with (first | (go_at_call 29; (with_reducible refine (lex_digit.calls (bt z x) false _ HD.out).mono ?_); rintro e w' ⟨rfl, ⟨nd, rfl⟩⟩; (try first | exact ⟨rfl, _, World.drewN_drewN _ _ _⟩ | exact ⟨rfl, _, Eq.trans (World.drewN_drewN _ _ _) (congrArg (World.drewN _) (Nat.add_assoc _ _ _))⟩)))
                    repeat (go_quiet (first | (go_at_call 29; (with_reducible refine (lex_digit.calls (bt z x) false _ HD.out).mono ?_); rintro e w' ⟨rfl, ⟨nd, rfl⟩⟩; (try first | exact ⟨rfl, _, World.drewN_drewN _ _ _⟩ | exact ⟨rfl, _, Eq.trans (World.drewN_drewN _ _ _) (congrArg (World.drewN _) (Nat.add_assoc _ _ _))⟩))); try go_wp2_with (first | (go_at_call 29; (with_reducible refine (lex_digit.calls (bt z x) false _ HD.out).mono ?_); rintro e w' ⟨rfl, ⟨nd, rfl⟩⟩; (try first | exact ⟨rfl, _, World.drewN_drewN _ _ _⟩ | exact ⟨rfl, _, Eq.trans (World.drewN_drewN _ _ _) (congrArg (World.drewN _) (Nat.add_assoc _ _ _))⟩))))
                    try go_ret
                    change P (Ending.returned (.bool false)) _
                    rw [HP0.out, ← Hz.out]
                    exact .inr ⟨.inr HN.out, rfl, by repeat (first | (with_reducible first | exact HI0.out | apply Rdr.alloc | apply Rdr.drewN | apply Rdr.drew | apply Rdr.set_0 | apply Rdr.set_1) | exact HI0.out), by repeat (first | (with_reducible first | exact HB.out | apply below_alloc | apply pw_below_drewN | apply below_drew1 | refine below_set ?_ (Rdr.ge HI0.out)) | exact HB.out)⟩
              · have c14b0 : decide (x < (z.size : Int)) = false := decide_eq_false c14
                have HN := Aside0.mk (HA.out.ends c14)
                clear c14
                go_wp2_with (first | (go_at_call 22; (with_reducible refine (put_calls g s a toks 3 t z v w0 _ ?side1 ?side2 HT.out).mono ?_); (case side1 => repeat (first | (with_reducible first | exact HI0.out | apply Rdr.alloc | apply Rdr.drewN | apply Rdr.drew | apply Rdr.set_0 | apply Rdr.set_1) | exact HI0.out)); (case side2 => repeat (first | (with_reducible first | exact HB.out | apply below_alloc | apply pw_below_drewN | apply below_drew1 | refine below_set ?_ (Rdr.ge HI0.out)) | exact HB.out)); rintro e w12 ⟨rfl, hi, hb⟩; have n1_ := Aside0.mk hb; have n2_ := Aside0.mk hi; clear HB; clear HI0; have HB := n1_; have HI0 := n2_; clear n1_ n2_; (try clear hb); (try clear hi)))
                repeat (go_quiet (first | (go_at_call 22; (with_reducible refine (put_calls g s a toks 3 t z v w0 _ ?side1 ?side2 HT.out).mono ?_); (case side1 => repeat (first | (with_reducible first | exact HI0.out | apply Rdr.alloc | apply Rdr.drewN | apply Rdr.drew | apply Rdr.set_0 | apply Rdr.set_1) | exact HI0.out)); (case side2 => repeat (first | (with_reducible first | exact HB.out | apply below_alloc | apply pw_below_drewN | apply below_drew1 | refine below_set ?_ (Rdr.ge HI0.out)) | exact HB.out)); rintro e w12 ⟨rfl, hi, hb⟩; have n1_ := Aside0.mk hb; have n2_ := Aside0.mk hi; clear HB; clear HI0; have HB := n1_; have HI0 := n2_; clear n1_ n2_; (try clear hb); (try clear hi))); try go_wp2_with (first | (go_at_call 22; (with_reducible refine (put_calls g s a toks 3 t z v w0 _ ?side1 ?side2 HT.out).mono ?_); (case side1 => repeat (first | (with_reducible first | exact HI0.out | apply Rdr.alloc | apply Rdr.drewN | apply Rdr.drew | apply Rdr.set_0 | apply Rdr.set_1) | exact HI0.out)); (case side2 => repeat (first | (with_reducible first | exact HB.out | apply below_alloc | apply pw_below_drewN | apply below_drew1 | refine below_set ?_ (Rdr.ge HI0.out)) | exact HB.out)); rintro e w12 ⟨rfl, hi, hb⟩; have n1_ := Aside0.mk hb; have n2_ := Aside0.mk hi; clear HB; clear HI0; have HB := n1_; have HI0 := n2_; clear n1_ n2_; (try clear hb); (try clear hi))))
                try go_ret
                change P (Ending.returned (.bool true)) _
                rw [HP0.out, ← Hz.out]
                exact .inl ⟨v, HE.out, HN.out, rfl, by repeat (first | (with_reducible first | exact HI0.out | apply Rdr.alloc | apply Rdr.drewN | apply Rdr.drew | apply Rdr.set_0 | apply Rdr.set_1) | exact HI0.out), by repeat (first | (with_reducible first | exact HB.out | apply below_alloc | apply pw_below_drewN | apply below_drew1 | refine below_set ?_ (Rdr.ge HI0.out)) | exact HB.out)⟩
end Go.Proofs.Ytmmjhdhgohfioaa.Gx
