/-
  THE METHOD word: letters and digits from the reader's place on: a word, a name, or too long a one.
-/
import Derived.Test.YtmmjhdhgohfioaaM1
namespace Go.Proofs.Ytmmjhdhgohfioaa.Gx
open Go.RowKit Go.Proofs.YtmmjhdhgohfioaaW.PrintWords Go.Proofs.YtmmjhdhgohfioaaW.PrintLast Go.Proofs.YtmmjhdhgohfioaaW.PrintMore
attribute [local go_sem] max2_int min2_int max_two min_two max_three min_three max_four min_four
set_option linter.unusedVariables false
set_option linter.unusedSimpArgs false

set_option maxHeartbeats 4000000 in
set_option maxRecDepth 100000 in
theorem word_yes (g : Nat) (s : ByteArray) (a t : Int) (toks : List S31) (k : Nat) (w0 w : World) (hI : Rdr w0 w g s a toks) (hB : Below w0.heap.size w0 w) (hl : toks.length ≤ 8192) (h0 : 0 ≤ a) (h1 : a ≤ (s.size : Int)) (h2 : a ≤ wrap64 (a + t)) (h3 : wrap64 (a + t) ≤ (s.size : Int))
    (hrun : lex_run.f k (s.extract (a : Int).toNat s.size) = some t) (hw : lex_Word.f (s.extract (a : Int).toNat (wrap64 (a + t) : Int).toNat) = some true) :
    Calls Try.prog 28 #[.pointer (some ⟨g, 0, none⟩)] w fun e w' => e = .returned (.bool true) ∧ Rdr w0 w' g s (wrap64 (a + t)) (toks ++ [⟨2, (s.extract (a : Int).toNat (wrap64 (a + t) : Int).toNat), 0, a⟩]) ∧ Below w0.heap.size w0 w' := by
    have HI0 := Aside0.mk hI
    have HB := Aside0.mk hB
    have HT := Aside0.mk (show toks.length < 3518437208883 by omega)
    have A4 := Aside0.mk hrun
    have A8 := Aside0.mk hw
    clear hI hB hrun hw hl
    have c2b0 := eq_true h0
    have c2b1 : decide (0 ≤ a) = true := decide_eq_true h0
    have c3b0 := eq_true h1
    have c3b1 : decide (a ≤ (s.size : Int)) = true := decide_eq_true h1
    have c6b0 := eq_true h2
    have c6b1 : decide (a ≤ (wrap64 (a + t))) = true := decide_eq_true h2
    have c7b0 := eq_true h3
    have c7b1 : decide ((wrap64 (a + t)) ≤ (s.size : Int)) = true := decide_eq_true h3
    skip
    clear h0 h1 h2 h3
    obtain ⟨AS, cS, HG, hg, HS⟩ := HI0.out
    have hcz0 := cellR_0 HG
    have hcz1 := cellR_1 HG
    have hcz2 := cellR_2 HG
    have hfz0 := blk_frozen HG 0
    have hfz1 := blk_frozen HG 1
    clear HG hg HS
    go_enter Try.func28, Try.ntmps28
    go_wp2_with (first | (go_at_call 25; (with_reducible refine (lex_run.calls k (s.extract (a : Int).toNat s.size) t _ A4.out).mono ?_); rintro e w' ⟨rfl, ⟨nd, rfl⟩⟩; (try first | exact ⟨rfl, _, World.drewN_drewN _ _ _⟩ | exact ⟨rfl, _, Eq.trans (World.drewN_drewN _ _ _) (congrArg (World.drewN _) (Nat.add_assoc _ _ _))⟩)) | (go_at_call 16; (with_reducible refine (lex_Word.calls (s.extract (a : Int).toNat (wrap64 (a + t) : Int).toNat) true _ A8.out).mono ?_); rintro e w' ⟨rfl, ⟨nd, rfl⟩⟩; (try first | exact ⟨rfl, _, World.drewN_drewN _ _ _⟩ | exact ⟨rfl, _, Eq.trans (World.drewN_drewN _ _ _) (congrArg (World.drewN _) (Nat.add_assoc _ _ _))⟩)) | (go_at_call 22; (with_reducible refine (put_calls g s a toks 2 t (s.extract (a : Int).toNat (wrap64 (a + t) : Int).toNat) 0 w0 _ ?side1 ?side2 HT.out).mono ?_); (case side1 => repeat (first | (with_reducible first | exact HI0.out | apply Rdr.alloc | apply Rdr.drewN | apply Rdr.drew | apply Rdr.set_0 | apply Rdr.set_1) | exact HI0.out)); (case side2 => repeat (first | (with_reducible first | exact HB.out | apply below_alloc | apply pw_below_drewN | apply below_drew1 | refine below_set ?_ (Rdr.ge HI0.out)) | exact HB.out)); rintro e w12 ⟨rfl, hi, hb⟩; have n1_ := Aside0.mk hb; have n2_ := Aside0.mk hi; clear HB; clear HI0; have HB := n1_; have HI0 := n2_; clear n1_ n2_; (try clear hb); (try clear hi)))
    repeat (go_quiet (first | (go_at_call 25; (with_reducible refine (lex_run.calls k (s.extract (a : Int).toNat s.size) t _ A4.out).mono ?_); rintro e w' ⟨rfl, ⟨nd, rfl⟩⟩; (try first | exact ⟨rfl, _, World.drewN_drewN _ _ _⟩ | exact ⟨rfl, _, Eq.trans (World.drewN_drewN _ _ _) (congrArg (World.drewN _) (Nat.add_assoc _ _ _))⟩)) | (go_at_call 16; (with_reducible refine (lex_Word.calls (s.extract (a : Int).toNat (wrap64 (a + t) : Int).toNat) true _ A8.out).mono ?_); rintro e w' ⟨rfl, ⟨nd, rfl⟩⟩; (try first | exact ⟨rfl, _, World.drewN_drewN _ _ _⟩ | exact ⟨rfl, _, Eq.trans (World.drewN_drewN _ _ _) (congrArg (World.drewN _) (Nat.add_assoc _ _ _))⟩)) | (go_at_call 22; (with_reducible refine (put_calls g s a toks 2 t (s.extract (a : Int).toNat (wrap64 (a + t) : Int).toNat) 0 w0 _ ?side1 ?side2 HT.out).mono ?_); (case side1 => repeat (first | (with_reducible first | exact HI0.out | apply Rdr.alloc | apply Rdr.drewN | apply Rdr.drew | apply Rdr.set_0 | apply Rdr.set_1) | exact HI0.out)); (case side2 => repeat (first | (with_reducible first | exact HB.out | apply below_alloc | apply pw_below_drewN | apply below_drew1 | refine below_set ?_ (Rdr.ge HI0.out)) | exact HB.out)); rintro e w12 ⟨rfl, hi, hb⟩; have n1_ := Aside0.mk hb; have n2_ := Aside0.mk hi; clear HB; clear HI0; have HB := n1_; have HI0 := n2_; clear n1_ n2_; (try clear hb); (try clear hi))); try go_wp2_with (first | (go_at_call 25; (with_reducible refine (lex_run.calls k (s.extract (a : Int).toNat s.size) t _ A4.out).mono ?_); rintro e w' ⟨rfl, ⟨nd, rfl⟩⟩; (try first | exact ⟨rfl, _, World.drewN_drewN _ _ _⟩ | exact ⟨rfl, _, Eq.trans (World.drewN_drewN _ _ _) (congrArg (World.drewN _) (Nat.add_assoc _ _ _))⟩)) | (go_at_call 16; (with_reducible refine (lex_Word.calls (s.extract (a : Int).toNat (wrap64 (a + t) : Int).toNat) true _ A8.out).mono ?_); rintro e w' ⟨rfl, ⟨nd, rfl⟩⟩; (try first | exact ⟨rfl, _, World.drewN_drewN _ _ _⟩ | exact ⟨rfl, _, Eq.trans (World.drewN_drewN _ _ _) (congrArg (World.drewN _) (Nat.add_assoc _ _ _))⟩)) | (go_at_call 22; (with_reducible refine (put_calls g s a toks 2 t (s.extract (a : Int).toNat (wrap64 (a + t) : Int).toNat) 0 w0 _ ?side1 ?side2 HT.out).mono ?_); (case side1 => repeat (first | (with_reducible first | exact HI0.out | apply Rdr.alloc | apply Rdr.drewN | apply Rdr.drew | apply Rdr.set_0 | apply Rdr.set_1) | exact HI0.out)); (case side2 => repeat (first | (with_reducible first | exact HB.out | apply below_alloc | apply pw_below_drewN | apply below_drew1 | refine below_set ?_ (Rdr.ge HI0.out)) | exact HB.out)); rintro e w12 ⟨rfl, hi, hb⟩; have n1_ := Aside0.mk hb; have n2_ := Aside0.mk hi; clear HB; clear HI0; have HB := n1_; have HI0 := n2_; clear n1_ n2_; (try clear hb); (try clear hi))))
    go_ret
    exact ⟨rfl, by repeat (first | (with_reducible first | exact HI0.out | apply Rdr.alloc | apply Rdr.drewN | apply Rdr.drew | apply Rdr.set_0 | apply Rdr.set_1) | exact HI0.out), by repeat (first | (with_reducible first | exact HB.out | apply below_alloc | apply pw_below_drewN | apply below_drew1 | refine below_set ?_ (Rdr.ge HI0.out)) | exact HB.out)⟩

set_option maxHeartbeats 4000000 in
set_option maxRecDepth 100000 in
theorem word_name (g : Nat) (s : ByteArray) (a t : Int) (toks : List S31) (k : Nat) (w0 w : World) (hI : Rdr w0 w g s a toks) (hB : Below w0.heap.size w0 w) (hl : toks.length ≤ 8192) (h0 : 0 ≤ a) (h1 : a ≤ (s.size : Int)) (h2 : a ≤ wrap64 (a + t)) (h3 : wrap64 (a + t) ≤ (s.size : Int))
    (hrun : lex_run.f k (s.extract (a : Int).toNat s.size) = some t) (hw : lex_Word.f (s.extract (a : Int).toNat (wrap64 (a + t) : Int).toNat) = some false) (h4 : t ≤ 16) :
    Calls Try.prog 28 #[.pointer (some ⟨g, 0, none⟩)] w fun e w' => e = .returned (.bool true) ∧ Rdr w0 w' g s (wrap64 (a + t)) (toks ++ [⟨1, (s.extract (a : Int).toNat (wrap64 (a + t) : Int).toNat), 0, a⟩]) ∧ Below w0.heap.size w0 w' := by
    have HI0 := Aside0.mk hI
    have HB := Aside0.mk hB
    have HT := Aside0.mk (show toks.length < 3518437208883 by omega)
    have A4 := Aside0.mk hrun
    have A8 := Aside0.mk hw
    clear hI hB hrun hw hl
    have c2b0 := eq_true h0
    have c2b1 : decide (0 ≤ a) = true := decide_eq_true h0
    have c3b0 := eq_true h1
    have c3b1 : decide (a ≤ (s.size : Int)) = true := decide_eq_true h1
    have c6b0 := eq_true h2
    have c6b1 : decide (a ≤ (wrap64 (a + t))) = true := decide_eq_true h2
    have c7b0 := eq_true h3
    have c7b1 : decide ((wrap64 (a + t)) ≤ (s.size : Int)) = true := decide_eq_true h3
    have c13b0 : decide (t ≤ 16) = true := decide_eq_true h4
    clear h4
    clear h0 h1 h2 h3
    obtain ⟨AS, cS, HG, hg, HS⟩ := HI0.out
    have hcz0 := cellR_0 HG
    have hcz1 := cellR_1 HG
    have hcz2 := cellR_2 HG
    have hfz0 := blk_frozen HG 0
    have hfz1 := blk_frozen HG 1
    clear HG hg HS
    go_enter Try.func28, Try.ntmps28
    go_wp2_with (first | (go_at_call 25; (with_reducible refine (lex_run.calls k (s.extract (a : Int).toNat s.size) t _ A4.out).mono ?_); rintro e w' ⟨rfl, ⟨nd, rfl⟩⟩; (try first | exact ⟨rfl, _, World.drewN_drewN _ _ _⟩ | exact ⟨rfl, _, Eq.trans (World.drewN_drewN _ _ _) (congrArg (World.drewN _) (Nat.add_assoc _ _ _))⟩)) | (go_at_call 16; (with_reducible refine (lex_Word.calls (s.extract (a : Int).toNat (wrap64 (a + t) : Int).toNat) false _ A8.out).mono ?_); rintro e w' ⟨rfl, ⟨nd, rfl⟩⟩; (try first | exact ⟨rfl, _, World.drewN_drewN _ _ _⟩ | exact ⟨rfl, _, Eq.trans (World.drewN_drewN _ _ _) (congrArg (World.drewN _) (Nat.add_assoc _ _ _))⟩)) | (go_at_call 22; (with_reducible refine (put_calls g s a toks 1 t (s.extract (a : Int).toNat (wrap64 (a + t) : Int).toNat) 0 w0 _ ?side1 ?side2 HT.out).mono ?_); (case side1 => repeat (first | (with_reducible first | exact HI0.out | apply Rdr.alloc | apply Rdr.drewN | apply Rdr.drew | apply Rdr.set_0 | apply Rdr.set_1) | exact HI0.out)); (case side2 => repeat (first | (with_reducible first | exact HB.out | apply below_alloc | apply pw_below_drewN | apply below_drew1 | refine below_set ?_ (Rdr.ge HI0.out)) | exact HB.out)); rintro e w12 ⟨rfl, hi, hb⟩; have n1_ := Aside0.mk hb; have n2_ := Aside0.mk hi; clear HB; clear HI0; have HB := n1_; have HI0 := n2_; clear n1_ n2_; (try clear hb); (try clear hi)))
    repeat (go_quiet (first | (go_at_call 25; (with_reducible refine (lex_run.calls k (s.extract (a : Int).toNat s.size) t _ A4.out).mono ?_); rintro e w' ⟨rfl, ⟨nd, rfl⟩⟩; (try first | exact ⟨rfl, _, World.drewN_drewN _ _ _⟩ | exact ⟨rfl, _, Eq.trans (World.drewN_drewN _ _ _) (congrArg (World.drewN _) (Nat.add_assoc _ _ _))⟩)) | (go_at_call 16; (with_reducible refine (lex_Word.calls (s.extract (a : Int).toNat (wrap64 (a + t) : Int).toNat) false _ A8.out).mono ?_); rintro e w' ⟨rfl, ⟨nd, rfl⟩⟩; (try first | exact ⟨rfl, _, World.drewN_drewN _ _ _⟩ | exact ⟨rfl, _, Eq.trans (World.drewN_drewN _ _ _) (congrArg (World.drewN _) (Nat.add_assoc _ _ _))⟩)) | (go_at_call 22; (with_reducible refine (put_calls g s a toks 1 t (s.extract (a : Int).toNat (wrap64 (a + t) : Int).toNat) 0 w0 _ ?side1 ?side2 HT.out).mono ?_); (case side1 => repeat (first | (with_reducible first | exact HI0.out | apply Rdr.alloc | apply Rdr.drewN | apply Rdr.drew | apply Rdr.set_0 | apply Rdr.set_1) | exact HI0.out)); (case side2 => repeat (first | (with_reducible first | exact HB.out | apply below_alloc | apply pw_below_drewN | apply below_drew1 | refine below_set ?_ (Rdr.ge HI0.out)) | exact HB.out)); rintro e w12 ⟨rfl, hi, hb⟩; have n1_ := Aside0.mk hb; have n2_ := Aside0.mk hi; clear HB; clear HI0; have HB := n1_; have HI0 := n2_; clear n1_ n2_; (try clear hb); (try clear hi))); try go_wp2_with (first | (go_at_call 25; (with_reducible refine (lex_run.calls k (s.extract (a : Int).toNat s.size) t _ A4.out).mono ?_); rintro e w' ⟨rfl, ⟨nd, rfl⟩⟩; (try first | exact ⟨rfl, _, World.drewN_drewN _ _ _⟩ | exact ⟨rfl, _, Eq.trans (World.drewN_drewN _ _ _) (congrArg (World.drewN _) (Nat.add_assoc _ _ _))⟩)) | (go_at_call 16; (with_reducible refine (lex_Word.calls (s.extract (a : Int).toNat (wrap64 (a + t) : Int).toNat) false _ A8.out).mono ?_); rintro e w' ⟨rfl, ⟨nd, rfl⟩⟩; (try first | exact ⟨rfl, _, World.drewN_drewN _ _ _⟩ | exact ⟨rfl, _, Eq.trans (World.drewN_drewN _ _ _) (congrArg (World.drewN _) (Nat.add_assoc _ _ _))⟩)) | (go_at_call 22; (with_reducible refine (put_calls g s a toks 1 t (s.extract (a : Int).toNat (wrap64 (a + t) : Int).toNat) 0 w0 _ ?side1 ?side2 HT.out).mono ?_); (case side1 => repeat (first | (with_reducible first | exact HI0.out | apply Rdr.alloc | apply Rdr.drewN | apply Rdr.drew | apply Rdr.set_0 | apply Rdr.set_1) | exact HI0.out)); (case side2 => repeat (first | (with_reducible first | exact HB.out | apply below_alloc | apply pw_below_drewN | apply below_drew1 | refine below_set ?_ (Rdr.ge HI0.out)) | exact HB.out)); rintro e w12 ⟨rfl, hi, hb⟩; have n1_ := Aside0.mk hb; have n2_ := Aside0.mk hi; clear HB; clear HI0; have HB := n1_; have HI0 := n2_; clear n1_ n2_; (try clear hb); (try clear hi))))
    go_ret
    exact ⟨rfl, by repeat (first | (with_reducible first | exact HI0.out | apply Rdr.alloc | apply Rdr.drewN | apply Rdr.drew | apply Rdr.set_0 | apply Rdr.set_1) | exact HI0.out), by repeat (first | (with_reducible first | exact HB.out | apply below_alloc | apply pw_below_drewN | apply below_drew1 | refine below_set ?_ (Rdr.ge HI0.out)) | exact HB.out)⟩

set_option maxHeartbeats 4000000 in
set_option maxRecDepth 100000 in
theorem word_no (g : Nat) (s : ByteArray) (a t : Int) (toks : List S31) (k : Nat) (w0 w : World) (hI : Rdr w0 w g s a toks) (hB : Below w0.heap.size w0 w) (hl : toks.length ≤ 8192) (h0 : 0 ≤ a) (h1 : a ≤ (s.size : Int)) (h2 : a ≤ wrap64 (a + t)) (h3 : wrap64 (a + t) ≤ (s.size : Int))
    (hrun : lex_run.f k (s.extract (a : Int).toNat s.size) = some t) (hw : lex_Word.f (s.extract (a : Int).toNat (wrap64 (a + t) : Int).toNat) = some false) (h4 : ¬ t ≤ 16) :
    Calls Try.prog 28 #[.pointer (some ⟨g, 0, none⟩)] w fun e w' => e = .returned (.bool false) ∧ Rdr w0 w' g s a toks ∧ Below w0.heap.size w0 w' := by
    have HI0 := Aside0.mk hI
    have HB := Aside0.mk hB
    have HT := Aside0.mk (show toks.length < 3518437208883 by omega)
    have A4 := Aside0.mk hrun
    have A8 := Aside0.mk hw
    clear hI hB hrun hw hl
    have c2b0 := eq_true h0
    have c2b1 : decide (0 ≤ a) = true := decide_eq_true h0
    have c3b0 := eq_true h1
    have c3b1 : decide (a ≤ (s.size : Int)) = true := decide_eq_true h1
    have c6b0 := eq_true h2
    have c6b1 : decide (a ≤ (wrap64 (a + t))) = true := decide_eq_true h2
    have c7b0 := eq_true h3
    have c7b1 : decide ((wrap64 (a + t)) ≤ (s.size : Int)) = true := decide_eq_true h3
    have c13b0 : decide (t ≤ 16) = false := decide_eq_false h4
    clear h4
    clear h0 h1 h2 h3
    obtain ⟨AS, cS, HG, hg, HS⟩ := HI0.out
    have hcz0 := cellR_0 HG
    have hcz1 := cellR_1 HG
    have hcz2 := cellR_2 HG
    have hfz0 := blk_frozen HG 0
    have hfz1 := blk_frozen HG 1
    clear HG hg HS
    go_enter Try.func28, Try.ntmps28
    go_wp2_with (first | (go_at_call 25; (with_reducible refine (lex_run.calls k (s.extract (a : Int).toNat s.size) t _ A4.out).mono ?_); rintro e w' ⟨rfl, ⟨nd, rfl⟩⟩; (try first | exact ⟨rfl, _, World.drewN_drewN _ _ _⟩ | exact ⟨rfl, _, Eq.trans (World.drewN_drewN _ _ _) (congrArg (World.drewN _) (Nat.add_assoc _ _ _))⟩)) | (go_at_call 16; (with_reducible refine (lex_Word.calls (s.extract (a : Int).toNat (wrap64 (a + t) : Int).toNat) false _ A8.out).mono ?_); rintro e w' ⟨rfl, ⟨nd, rfl⟩⟩; (try first | exact ⟨rfl, _, World.drewN_drewN _ _ _⟩ | exact ⟨rfl, _, Eq.trans (World.drewN_drewN _ _ _) (congrArg (World.drewN _) (Nat.add_assoc _ _ _))⟩)))
    repeat (go_quiet (first | (go_at_call 25; (with_reducible refine (lex_run.calls k (s.extract (a : Int).toNat s.size) t _ A4.out).mono ?_); rintro e w' ⟨rfl, ⟨nd, rfl⟩⟩; (try first | exact ⟨rfl, _, World.drewN_drewN _ _ _⟩ | exact ⟨rfl, _, Eq.trans (World.drewN_drewN _ _ _) (congrArg (World.drewN _) (Nat.add_assoc _ _ _))⟩)) | (go_at_call 16; (with_reducible refine (lex_Word.calls (s.extract (a : Int).toNat (wrap64 (a + t) : Int).toNat) false _ A8.out).mono ?_); rintro e w' ⟨rfl, ⟨nd, rfl⟩⟩; (try first | exact ⟨rfl, _, World.drewN_drewN _ _ _⟩ | exact ⟨rfl, _, Eq.trans (World.drewN_drewN _ _ _) (congrArg (World.drewN _) (Nat.add_assoc _ _ _))⟩))); try go_wp2_with (first | (go_at_call 25; (with_reducible refine (lex_run.calls k (s.extract (a : Int).toNat s.size) t _ A4.out).mono ?_); rintro e w' ⟨rfl, ⟨nd, rfl⟩⟩; (try first | exact ⟨rfl, _, World.drewN_drewN _ _ _⟩ | exact ⟨rfl, _, Eq.trans (World.drewN_drewN _ _ _) (congrArg (World.drewN _) (Nat.add_assoc _ _ _))⟩)) | (go_at_call 16; (with_reducible refine (lex_Word.calls (s.extract (a : Int).toNat (wrap64 (a + t) : Int).toNat) false _ A8.out).mono ?_); rintro e w' ⟨rfl, ⟨nd, rfl⟩⟩; (try first | exact ⟨rfl, _, World.drewN_drewN _ _ _⟩ | exact ⟨rfl, _, Eq.trans (World.drewN_drewN _ _ _) (congrArg (World.drewN _) (Nat.add_assoc _ _ _))⟩))))
    go_ret
    exact ⟨rfl, by repeat (first | (with_reducible first | exact HI0.out | apply Rdr.alloc | apply Rdr.drewN | apply Rdr.drew | apply Rdr.set_0 | apply Rdr.set_1) | exact HI0.out), by repeat (first | (with_reducible first | exact HB.out | apply below_alloc | apply pw_below_drewN | apply below_drew1 | refine below_set ?_ (Rdr.ge HI0.out)) | exact HB.out)⟩

end Go.Proofs.Ytmmjhdhgohfioaa.Gx
