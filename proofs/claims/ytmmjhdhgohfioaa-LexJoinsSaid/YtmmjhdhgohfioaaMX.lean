/-
  THE FUNCTION Lex: a text's tokens, as the plain lexer has them.
-/
import Derived.Test.YtmmjhdhgohfioaaM8
import Derived.Test.YtmmjhdhgohfioaaM9
namespace Go.Proofs.Ytmmjhdhgohfioaa.Gx
open Go.RowKit Go.Proofs.YtmmjhdhgohfioaaW.PrintWords Go.Proofs.YtmmjhdhgohfioaaW.PrintLast Go.Proofs.YtmmjhdhgohfioaaW.PrintMore
attribute [local go_sem] max2_int min2_int max_two min_two max_three min_three max_four min_four
set_option linter.unusedVariables false
set_option linter.unusedSimpArgs false

theorem blanks_clean (g : Nat) (s : ByteArray) (i : Nat) (toks : List S31) (w0 w : World) (hI : Rdr w0 w g s (i : Int) toks) (hB : Below w0.heap.size w0 w) (hs : s.size ≤ 8192) (hi : i ≤ s.size) :
    Calls Try.prog 20 #[.pointer (some ⟨g, 0, none⟩)] w fun e w' => e = .returned (.tuple #[]) ∧ Rdr w0 w' g s ((s.size - (skipB false (suf s i)).length : Nat) : Int) toks ∧ Below w0.heap.size w0 w' :=
  (lex_reader_blanks.calls _ g s _ toks _ _ w0 w hI hB (blanks_eq s toks hs i hi)).mono fun e w' h => ⟨h.1, h.2.1, h.2.2.1⟩
theorem Rdr.new (w : World) (s : ByteArray) : Rdr w (w.alloc (.cells #[.string s, .int .i64 0, .slice none 0 0] 41)) w.heap.size s 0 [] :=
  ⟨none, 0, by simpa using heap_alloc_new w _, Nat.le_refl _, Kd.R_nil _ _ _ _ _⟩
theorem Rdr.toks_ {w0 W : World} {g : Nat} {s : ByteArray} {a : Int} {toks : List S31} (h : Rdr w0 W g s a toks) : ∃ v, W.cell? ⟨g, 2, none⟩ = some v ∧ Kd.R k31 31 W w0.heap.size (fun _ => True) v toks := by
  obtain ⟨A2, c2, hb, hg, hr⟩ := h
  exact ⟨_, cellR_2 hb, hr⟩
def lex_Lex.f (k : Nat) (a0 : ByteArray) : Option (List S31 × Int × Int) := some (lexSpec a0)
theorem lex_Lex.mono : ∀ a0 k, LeO (lex_Lex.f k a0) (lex_Lex.f (k + 1) a0) := fun _ _ => LeO.refl _
set_option maxHeartbeats 8000000 in
set_option maxRecDepth 100000 in
theorem Lex_long (s : ByteArray) (w : World) (hs : 8192 < s.size) :
    Calls Try.prog 9 #[.string s] w fun e w' => ∃ v0_ : Value, e = .returned (.tuple #[v0_, .int .i64 0, .int .i64 2]) ∧ Kd.R k31 31 w' w.heap.size (fun _ => True) v0_ [] ∧ Below w.heap.size w w' := by
  have HB := Aside0.mk (Below.refl w.heap.size w)
  have c2b0 : decide (8192 < (s.size : Int)) = true := decide_eq_true (by omega)
  have c2b1 : decide (8192 < s.size) = true := decide_eq_true (by omega)
  clear hs
  go_enter Try.func9, Try.ntmps9
  go_wp2
  go_ret3
  exact ⟨_, rfl, Kd.R_nil _ _ _ _ _, HB.out⟩

set_option maxHeartbeats 16000000 in
set_option maxRecDepth 100000 in
theorem Lex_short (s : ByteArray) (w : World) (hs : s.size ≤ 8192) :
    Calls Try.prog 9 #[.string s] w fun e w' => ∃ v0_ : Value, e = .returned (.tuple #[v0_, .int .i64 (lexSpec s).2.1, .int .i64 (lexSpec s).2.2]) ∧ Kd.R k31 31 w' w.heap.size (fun _ => True) v0_ (lexSpec s).1 ∧ Below w.heap.size w w' := by
  have HS := Aside0.mk hs
  have c2b0 : decide (8192 < (s.size : Int)) = false := decide_eq_false (by omega)
  have c2b1 : decide (8192 < s.size) = false := decide_eq_false (by omega)
  have HB := Aside0.mk (below_alloc (Below.refl w.heap.size w) (.cells #[.string s, .int .i64 0, .slice none 0 0] 41))
  have HI0 := Aside0.mk (Rdr.new w s)
  have Z0 := Aside0.mk (Nat.zero_le s.size)
  obtain ⟨P, HP⟩ : ∃ P : Ending → World → Prop, P = (fun e w' => ∃ v0_ : Value, e = .returned (.tuple #[v0_, .int .i64 (lexSpec s).2.1, .int .i64 (lexSpec s).2.2]) ∧ Kd.R k31 31 w' w.heap.size (fun _ => True) v0_ (lexSpec s).1 ∧ Below w.heap.size w w') := ⟨_, rfl⟩
  rw [← HP]
  have HP0 := Aside0.mk HP
  clear HP hs
  go_enter Try.func9, Try.ntmps9
  go_wp2_with (first | (go_at_call 20; (with_reducible refine (blanks_clean w.heap.size s 0 [] w _ HI0.out HB.out HS.out Z0.out).mono ?_); rintro e w12 ⟨rfl, hi, hb⟩; have n1_ := Aside0.mk hb; have n2_ := Aside0.mk hi; clear HB; clear HI0; have HB := n1_; have HI0 := n2_; clear n1_ n2_; (try clear hb); (try clear hi)))
  clear c2b0 c2b1
  go_loopg [] (s.size + 1) (fun kq w' => ∃ (i : Nat) (acc : List S31), Aside0 (LexAt s i acc kq) ∧ Aside0 (Rdr w w' w.heap.size s (i : Int) acc) ∧ Aside0 (Below w.heap.size w w'))
  case atStart => exact ⟨_, [], ⟨LexAt.start HS.out⟩, ⟨by repeat (first | (with_reducible first | exact HI0.out | apply Rdr.alloc | apply Rdr.drewN | apply Rdr.drew | apply Rdr.set_0 | apply Rdr.set_1) | exact HI0.out)⟩, ⟨by repeat (first | (with_reducible first | exact HB.out | apply below_alloc | apply pw_below_drewN | apply below_drew1) | exact HB.out)⟩⟩
  case round =>
    clear HI0 HB
    obtain ⟨i, acc, HA, HI0, HB⟩ := hrel
    cases gk with
    | zero => exact absurd HA.out (fun h => by have h1 := h.1; have h2 := h.2.2.1; omega)
    | succ k2 =>
      obtain ⟨AS, cS, HG, hg, HS⟩ := HI0.out
      have hcz0 := cellR_0 HG
      have hcz1 := cellR_1 HG
      have hcz2 := cellR_2 HG
      have hfz0 := blk_frozen HG 0
      have hfz1 := blk_frozen HG 1
      clear HG hg HS

      have HL := Aside0.mk (show acc.length ≤ 8192 by have h1 := HA.out.1; have h2 := HA.out.2.1; have h3 := HS.out; omega)
      by_cases d1 : i < s.size
      · have t1 : decide ((i : Int) < (s.size : Int)) = true := decide_eq_true (by omega)
        have t2 : decide (i < s.size) = true := decide_eq_true d1
        obtain ⟨c, r, hc⟩ := HA.out.cons d1
        have HC := Aside0.mk hc
        clear hc d1
        have hone : ∀ w1, Rdr w w1 w.heap.size s (i : Int) acc → Below w.heap.size w w1 → Calls Try.prog 21 #[.pointer (some ⟨w.heap.size, 0, none⟩)] w1 (Took w w.heap.size s i acc (tok (c :: r))) := fun w1 h1 h2 => one_calls w.heap.size s i acc w w1 h1 h2 HL.out HS.out HC.out
        match ho : tok (c :: r) with
        | none =>
          rw [ho] at hone
          have HO := Aside0.mk hone
          have HF := Aside0.mk (HA.out.fault HC.out ho)
          clear hone ho
          go_wp2_with (first | (go_at_call 21; (with_reducible refine (HO.out _ (by repeat (first | (with_reducible first | exact HI0.out | apply Rdr.alloc | apply Rdr.drewN | apply Rdr.drew | apply Rdr.set_0 | apply Rdr.set_1) | exact HI0.out)) (by repeat (first | (with_reducible first | exact HB.out | apply below_alloc | apply pw_below_drewN | apply below_drew1) | exact HB.out))).mono ?_); rintro e w12 ⟨rfl, hi, hb⟩; have n1_ := Aside0.mk hb; have n2_ := Aside0.mk hi; clear HB; clear HI0; have HB := n1_; have HI0 := n2_; clear n1_ n2_; (try clear hb); (try clear hi); obtain ⟨AS2, cS2, HG2, hg2, HS2⟩ := HI0.out; have hcy0 := cellR_0 HG2; have hcy1 := cellR_1 HG2; have hcy2 := cellR_2 HG2; clear HG2 hg2 HS2))
          repeat (go_quiet (first | (go_at_call 21; (with_reducible refine (HO.out _ (by repeat (first | (with_reducible first | exact HI0.out | apply Rdr.alloc | apply Rdr.drewN | apply Rdr.drew | apply Rdr.set_0 | apply Rdr.set_1) | exact HI0.out)) (by repeat (first | (with_reducible first | exact HB.out | apply below_alloc | apply pw_below_drewN | apply below_drew1) | exact HB.out))).mono ?_); rintro e w12 ⟨rfl, hi, hb⟩; have n1_ := Aside0.mk hb; have n2_ := Aside0.mk hi; clear HB; clear HI0; have HB := n1_; have HI0 := n2_; clear n1_ n2_; (try clear hb); (try clear hi); obtain ⟨AS2, cS2, HG2, hg2, HS2⟩ := HI0.out; have hcy0 := cellR_0 HG2; have hcy1 := cellR_1 HG2; have hcy2 := cellR_2 HG2; clear HG2 hg2 HS2)); try go_wp2_with (first | (go_at_call 21; (with_reducible refine (HO.out _ (by repeat (first | (with_reducible first | exact HI0.out | apply Rdr.alloc | apply Rdr.drewN | apply Rdr.drew | apply Rdr.set_0 | apply Rdr.set_1) | exact HI0.out)) (by repeat (first | (with_reducible first | exact HB.out | apply below_alloc | apply pw_below_drewN | apply below_drew1) | exact HB.out))).mono ?_); rintro e w12 ⟨rfl, hi, hb⟩; have n1_ := Aside0.mk hb; have n2_ := Aside0.mk hi; clear HB; clear HI0; have HB := n1_; have HI0 := n2_; clear n1_ n2_; (try clear hb); (try clear hi); obtain ⟨AS2, cS2, HG2, hg2, HS2⟩ := HI0.out; have hcy0 := cellR_0 HG2; have hcy1 := cellR_1 HG2; have hcy2 := cellR_2 HG2; clear HG2 hg2 HS2)))
          try go_ret3
          rw [HP0.out, HF.out]
          exact ⟨_, rfl, Kd.R_nil _ _ _ _ _, by repeat (first | (with_reducible first | exact HB.out | apply below_alloc | apply pw_below_drewN | apply below_drew1) | exact HB.out)⟩
        | some t =>
          rw [ho] at hone
          have HO := Aside0.mk hone
          obtain ⟨n1, n2, n3⟩ := HA.out.next HC.out ho
          have HN := Aside0.mk n1
          have HM := Aside0.mk n2
          clear hone ho n1 n2 n3
          go_wp2_with (first | (go_at_call 21; (with_reducible refine (HO.out _ (by repeat (first | (with_reducible first | exact HI0.out | apply Rdr.alloc | apply Rdr.drewN | apply Rdr.drew | apply Rdr.set_0 | apply Rdr.set_1) | exact HI0.out)) (by repeat (first | (with_reducible first | exact HB.out | apply below_alloc | apply pw_below_drewN | apply below_drew1) | exact HB.out))).mono ?_); rintro e w12 ⟨rfl, hi, hb⟩; have n1_ := Aside0.mk hb; have n2_ := Aside0.mk hi; clear HB; clear HI0; have HB := n1_; have HI0 := n2_; clear n1_ n2_; (try clear hb); (try clear hi); obtain ⟨AS2, cS2, HG2, hg2, HS2⟩ := HI0.out; have hcy0 := cellR_0 HG2; have hcy1 := cellR_1 HG2; have hcy2 := cellR_2 HG2; clear HG2 hg2 HS2) | (go_at_call 20; (with_reducible refine (blanks_clean w.heap.size s (i + t.len) (acc ++ [⟨t.kind, ofL t.text, t.num, (i : Int)⟩]) w _ (by repeat (first | (with_reducible first | exact HI0.out | apply Rdr.alloc | apply Rdr.drewN | apply Rdr.drew | apply Rdr.set_0 | apply Rdr.set_1) | exact HI0.out)) (by repeat (first | (with_reducible first | exact HB.out | apply below_alloc | apply pw_below_drewN | apply below_drew1) | exact HB.out)) HS.out HM.out).mono ?_); rintro e w14 ⟨rfl, hi, hb⟩; have n1_ := Aside0.mk hb; have n2_ := Aside0.mk hi; clear HB; clear HI0; have HB := n1_; have HI0 := n2_; clear n1_ n2_; (try clear hb); (try clear hi)))
          repeat (go_quiet (first | (go_at_call 21; (with_reducible refine (HO.out _ (by repeat (first | (with_reducible first | exact HI0.out | apply Rdr.alloc | apply Rdr.drewN | apply Rdr.drew | apply Rdr.set_0 | apply Rdr.set_1) | exact HI0.out)) (by repeat (first | (with_reducible first | exact HB.out | apply below_alloc | apply pw_below_drewN | apply below_drew1) | exact HB.out))).mono ?_); rintro e w12 ⟨rfl, hi, hb⟩; have n1_ := Aside0.mk hb; have n2_ := Aside0.mk hi; clear HB; clear HI0; have HB := n1_; have HI0 := n2_; clear n1_ n2_; (try clear hb); (try clear hi); obtain ⟨AS2, cS2, HG2, hg2, HS2⟩ := HI0.out; have hcy0 := cellR_0 HG2; have hcy1 := cellR_1 HG2; have hcy2 := cellR_2 HG2; clear HG2 hg2 HS2) | (go_at_call 20; (with_reducible refine (blanks_clean w.heap.size s (i + t.len) (acc ++ [⟨t.kind, ofL t.text, t.num, (i : Int)⟩]) w _ (by repeat (first | (with_reducible first | exact HI0.out | apply Rdr.alloc | apply Rdr.drewN | apply Rdr.drew | apply Rdr.set_0 | apply Rdr.set_1) | exact HI0.out)) (by repeat (first | (with_reducible first | exact HB.out | apply below_alloc | apply pw_below_drewN | apply below_drew1) | exact HB.out)) HS.out HM.out).mono ?_); rintro e w14 ⟨rfl, hi, hb⟩; have n1_ := Aside0.mk hb; have n2_ := Aside0.mk hi; clear HB; clear HI0; have HB := n1_; have HI0 := n2_; clear n1_ n2_; (try clear hb); (try clear hi))); try go_wp2_with (first | (go_at_call 21; (with_reducible refine (HO.out _ (by repeat (first | (with_reducible first | exact HI0.out | apply Rdr.alloc | apply Rdr.drewN | apply Rdr.drew | apply Rdr.set_0 | apply Rdr.set_1) | exact HI0.out)) (by repeat (first | (with_reducible first | exact HB.out | apply below_alloc | apply pw_below_drewN | apply below_drew1) | exact HB.out))).mono ?_); rintro e w12 ⟨rfl, hi, hb⟩; have n1_ := Aside0.mk hb; have n2_ := Aside0.mk hi; clear HB; clear HI0; have HB := n1_; have HI0 := n2_; clear n1_ n2_; (try clear hb); (try clear hi); obtain ⟨AS2, cS2, HG2, hg2, HS2⟩ := HI0.out; have hcy0 := cellR_0 HG2; have hcy1 := cellR_1 HG2; have hcy2 := cellR_2 HG2; clear HG2 hg2 HS2) | (go_at_call 20; (with_reducible refine (blanks_clean w.heap.size s (i + t.len) (acc ++ [⟨t.kind, ofL t.text, t.num, (i : Int)⟩]) w _ (by repeat (first | (with_reducible first | exact HI0.out | apply Rdr.alloc | apply Rdr.drewN | apply Rdr.drew | apply Rdr.set_0 | apply Rdr.set_1) | exact HI0.out)) (by repeat (first | (with_reducible first | exact HB.out | apply below_alloc | apply pw_below_drewN | apply below_drew1) | exact HB.out)) HS.out HM.out).mono ?_); rintro e w14 ⟨rfl, hi, hb⟩; have n1_ := Aside0.mk hb; have n2_ := Aside0.mk hi; clear HB; clear HI0; have HB := n1_; have HI0 := n2_; clear n1_ n2_; (try clear hb); (try clear hi))))
          go_roundg k2
          case measure => omega
          case rel => exact ⟨_, _, HN, ⟨by repeat (first | (with_reducible first | exact HI0.out | apply Rdr.alloc | apply Rdr.drewN | apply Rdr.drew | apply Rdr.set_0 | apply Rdr.set_1) | exact HI0.out)⟩, ⟨by repeat (first | (with_reducible first | exact HB.out | apply below_alloc | apply pw_below_drewN | apply below_drew1) | exact HB.out)⟩⟩
      · have t1 : decide ((i : Int) < (s.size : Int)) = false := decide_eq_false (by omega)
        have t2 : decide (i < s.size) = false := decide_eq_false d1
        obtain ⟨e1, e2⟩ := HA.out.ends d1
        have HE := Aside0.mk e1
        have HE2 := Aside0.mk e2
        have HT := Aside0.mk (show acc.length < 3518437208883 by have := HL.out; omega)
        clear e1 e2 d1
        go_wp2_with (first | (go_at_call 22; (with_reducible refine (put_calls w.heap.size s (i : Int) acc 0 0 _ 0 w _ (by repeat (first | (with_reducible first | exact HI0.out | apply Rdr.alloc | apply Rdr.drewN | apply Rdr.drew | apply Rdr.set_0 | apply Rdr.set_1) | exact HI0.out)) (by repeat (first | (with_reducible first | exact HB.out | apply below_alloc | apply pw_below_drewN | apply below_drew1) | exact HB.out)) HT.out).mono ?_); rintro e w12 ⟨rfl, hi, hb⟩; have n1_ := Aside0.mk hb; have n2_ := Aside0.mk hi; clear HB; clear HI0; have HB := n1_; have HI0 := n2_; clear n1_ n2_; (try clear hb); (try clear hi); obtain ⟨v9, hv9, hr9⟩ := HI0.out.toks_; have HR9 := Aside0.mk hr9; clear hr9))
        repeat (go_quiet (first | (go_at_call 22; (with_reducible refine (put_calls w.heap.size s (i : Int) acc 0 0 _ 0 w _ (by repeat (first | (with_reducible first | exact HI0.out | apply Rdr.alloc | apply Rdr.drewN | apply Rdr.drew | apply Rdr.set_0 | apply Rdr.set_1) | exact HI0.out)) (by repeat (first | (with_reducible first | exact HB.out | apply below_alloc | apply pw_below_drewN | apply below_drew1) | exact HB.out)) HT.out).mono ?_); rintro e w12 ⟨rfl, hi, hb⟩; have n1_ := Aside0.mk hb; have n2_ := Aside0.mk hi; clear HB; clear HI0; have HB := n1_; have HI0 := n2_; clear n1_ n2_; (try clear hb); (try clear hi); obtain ⟨v9, hv9, hr9⟩ := HI0.out.toks_; have HR9 := Aside0.mk hr9; clear hr9)); try go_wp2_with (first | (go_at_call 22; (with_reducible refine (put_calls w.heap.size s (i : Int) acc 0 0 _ 0 w _ (by repeat (first | (with_reducible first | exact HI0.out | apply Rdr.alloc | apply Rdr.drewN | apply Rdr.drew | apply Rdr.set_0 | apply Rdr.set_1) | exact HI0.out)) (by repeat (first | (with_reducible first | exact HB.out | apply below_alloc | apply pw_below_drewN | apply below_drew1) | exact HB.out)) HT.out).mono ?_); rintro e w12 ⟨rfl, hi, hb⟩; have n1_ := Aside0.mk hb; have n2_ := Aside0.mk hi; clear HB; clear HI0; have HB := n1_; have HI0 := n2_; clear n1_ n2_; (try clear hb); (try clear hi); obtain ⟨v9, hv9, hr9⟩ := HI0.out.toks_; have HR9 := Aside0.mk hr9; clear hr9)))
        try go_ret3
        rw [HP0.out, HE.out]
        have hfin := HR9.out
        rw [HE2.out] at hfin
        exact ⟨_, rfl, hfin, by repeat (first | (with_reducible first | exact HB.out | apply below_alloc | apply pw_below_drewN | apply below_drew1) | exact HB.out)⟩

theorem lex_Lex.calls (k : Nat) (a0 : ByteArray) (r1 : List (S31)) (r2 : Int) (r3 : Int) (w : World) (h : lex_Lex.f k a0 = some (r1, r2, r3)) :
    Calls Try.prog 9 #[.string a0] w fun e w' => ∃ v0_ : Value, e = .returned (.tuple #[v0_, .int .i64 r2, .int .i64 r3]) ∧ Kd.R k31 31 w' w.heap.size (fun _ => True) v0_ r1 ∧ Below w.heap.size w w' := by
  have h1 : lexSpec a0 = (r1, r2, r3) := Option.some.inj h
  by_cases hs : 8192 < a0.size
  · have h2 : lexSpec a0 = ([], 0, 2) := by unfold lexSpec; rw [if_pos hs]
    rw [h2] at h1
    simp only [Prod.mk.injEq] at h1
    obtain ⟨rfl, rfl, rfl⟩ := h1
    exact Lex_long a0 w hs
  · have h2 := Lex_short a0 w (by omega)
    rw [h1] at h2
    exact h2
end Go.Proofs.Ytmmjhdhgohfioaa.Gx
