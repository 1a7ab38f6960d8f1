/-
  THE METHOD one: one token, or none.
-/
import Derived.Test.YtmmjhdhgohfioaaM3
import Derived.Test.YtmmjhdhgohfioaaM4
import Derived.Test.YtmmjhdhgohfioaaM5
import Derived.Test.YtmmjhdhgohfioaaM7
namespace Go.Proofs.Ytmmjhdhgohfioaa.Gx
open Go.RowKit Go.Proofs.YtmmjhdhgohfioaaW.PrintWords Go.Proofs.YtmmjhdhgohfioaaW.PrintLast Go.Proofs.YtmmjhdhgohfioaaW.PrintMore
attribute [local go_sem] max2_int min2_int max_two min_two max_three min_three max_four min_four
set_option linter.unusedVariables false
set_option linter.unusedSimpArgs false

/-- How reading a token ends: the token, its place and the reader behind it; or nothing has turned. -/
def Took (w0 : World) (g : Nat) (s : ByteArray) (i : Nat) (toks : List S31) (o : Option Tk) (e : Ending) (w' : World) : Prop := match o with
  | some t => e = .returned (.bool true) ∧ Rdr w0 w' g s ((i + t.len : Nat) : Int) (toks ++ [⟨t.kind, ofL t.text, t.num, (i : Int)⟩]) ∧ Below w0.heap.size w0 w'
  | none => e = .returned (.bool false) ∧ Rdr w0 w' g s (i : Int) toks ∧ Below w0.heap.size w0 w'
theorem extract_suf (s : ByteArray) (i : Nat) : s.extract ((i : Int)).toNat s.size = ofL (suf s i) := by
  rw [Int.toNat_natCast, extract_ofL, List.take_of_length_le (by rw [suf_length]; omega)]
theorem run_suf (s : ByteArray) (i : Nat) (hs : s.size ≤ 8192) : ∃ k, lex_run.f k (s.extract ((i : Int)).toNat s.size) = some ((((suf s i).takeWhile isAlnum).length : Nat) : Int) := by
  rw [extract_suf]
  refine ⟨_, (lex_run_eq _ ?_).trans (by rw [ofL_data])⟩
  rw [ofL_size, suf_length]
  omega
theorem cut_suf {s : ByteArray} {i : Nat} (hs : s.size ≤ 8192) (hi : i ≤ s.size) : s.extract ((i : Int)).toNat (wrap64 ((i : Int) + ((((suf s i).takeWhile isAlnum).length : Nat) : Int))).toNat = ofL ((suf s i).takeWhile isAlnum) ∧
    wrap64 ((i : Int) + ((((suf s i).takeWhile isAlnum).length : Nat) : Int)) = ((i + ((suf s i).takeWhile isAlnum).length : Nat) : Int) ∧ i + ((suf s i).takeWhile isAlnum).length ≤ s.size := by
  have h1 := takeWhile_len (p := isAlnum) (suf s i)
  have h2 := suf_length s i
  have e : wrap64 ((i : Int) + ((((suf s i).takeWhile isAlnum).length : Nat) : Int)) = ((i + ((suf s i).takeWhile isAlnum).length : Nat) : Int) := by rw [w64 (by omega) (by omega)]; omega
  refine ⟨?_, e, by omega⟩
  rw [e, Int.toNat_natCast, Int.toNat_natCast, extract_ofL, Nat.add_sub_cancel_left, takeWhile_take]
theorem word_took (g : Nat) (s : ByteArray) (i : Nat) (toks : List S31) (w0 w : World) (hI : Rdr w0 w g s (i : Int) toks) (hB : Below w0.heap.size w0 w) (hl : toks.length ≤ 8192) (hs : s.size ≤ 8192) (hi : i ≤ s.size) :
    Calls Try.prog 28 #[.pointer (some ⟨g, 0, none⟩)] w (Took w0 g s i toks (wordTok (suf s i))) := by
  obtain ⟨k, hk⟩ := run_suf s i hs
  obtain ⟨hc, hw, hle⟩ := cut_suf hs hi
  have hW := lex_Word_eq (s.extract ((i : Int)).toNat (wrap64 ((i : Int) + ((((suf s i).takeWhile isAlnum).length : Nat) : Int))).toNat)
  rw [show (s.extract ((i : Int)).toNat (wrap64 ((i : Int) + ((((suf s i).takeWhile isAlnum).length : Nat) : Int))).toNat).data.toList = (suf s i).takeWhile isAlnum by rw [hc, ofL_data]] at hW
  unfold wordTok
  simp only
  by_cases h1 : isWord ((suf s i).takeWhile isAlnum) = true
  · rw [if_pos h1]
    rw [h1] at hW
    refine (word_yes g s _ _ toks k w0 w hI hB hl (by omega) (by omega) (by rw [hw]; omega) (by rw [hw]; omega) hk hW).mono ?_
    rintro e w' ⟨rfl, h2, h3⟩
    rw [hc, hw] at h2
    exact ⟨rfl, h2, h3⟩
  · rw [if_neg h1]
    rw [Bool.eq_false_iff.2 h1] at hW
    by_cases h2 : ((suf s i).takeWhile isAlnum).length ≤ 16
    · rw [if_pos h2]
      refine (word_name g s _ _ toks k w0 w hI hB hl (by omega) (by omega) (by rw [hw]; omega) (by rw [hw]; omega) hk hW (by omega)).mono ?_
      rintro e w' ⟨rfl, h2, h3⟩
      rw [hc, hw] at h2
      exact ⟨rfl, h2, h3⟩
    · rw [if_neg h2]
      exact (word_no g s _ _ toks k w0 w hI hB hl (by omega) (by omega) (by rw [hw]; omega) (by rw [hw]; omega) hk hW (by omega)).mono fun e w' h => h
theorem head_bt (l : List UInt8) (h : 1 < (ofL l).size) : bt (ofL l) 0 = 48 ↔ l.head? = some 48 := by
  match l with
  | [] => simp [ofL_size] at h
  | c :: r =>
    have h0 : suf (ofL (c :: r)) 0 = c :: r := by rw [suf_zero, ofL_data]
    have h1 := (suf_cons h0).2.1
    rw [show ((0 : Nat) : Int) = 0 from rfl] at h1
    rw [h1, List.head?_cons, Option.some.injEq]
    exact ((toNat_iff c 48 (by omega)).symm)
theorem number_took (g : Nat) (s : ByteArray) (i : Nat) (toks : List S31) (w0 w : World) (hI : Rdr w0 w g s (i : Int) toks) (hB : Below w0.heap.size w0 w) (hl : toks.length ≤ 8192) (hs : s.size ≤ 8192) (hi : i ≤ s.size) :
    Calls Try.prog 30 #[.pointer (some ⟨g, 0, none⟩)] w (Took w0 g s i toks (numTok (suf s i))) := by
  obtain ⟨k, hk⟩ := run_suf s i hs
  obtain ⟨hc, hw, hle⟩ := cut_suf hs hi
  refine (number_calls g s _ _ toks k w0 w hI hB hl hs (by omega) (by omega) (by rw [hw]; omega) (by rw [hw]; omega) hk).mono ?_
  intro e w' h
  rw [hc] at h
  unfold NumEnd at h
  rw [hw, ofL_data] at h
  unfold numTok
  simp only
  have hz : 1 < ((suf s i).takeWhile isAlnum).length ∧ ((suf s i).takeWhile isAlnum).head? = some 48 ↔ 1 < (ofL ((suf s i).takeWhile isAlnum)).size ∧ bt (ofL ((suf s i).takeWhile isAlnum)) 0 = 48 := by
    rw [ofL_size]
    refine and_congr_right fun h1 => ?_
    rw [head_bt _ (by rw [ofL_size]; exact h1)]
  rcases h with ⟨v, h1, h2, rfl, h3, h4⟩ | ⟨h1, rfl, h3, h4⟩
  · rw [if_neg (fun h => h1 (hz.1 h)), h2]
    exact ⟨rfl, h3, h4⟩
  · rcases h1 with h1 | h1
    · rw [if_pos (hz.2 h1)]
      exact ⟨rfl, h3, h4⟩
    · rw [h1]
      split
      · exact ⟨rfl, h3, h4⟩
      · exact ⟨rfl, h3, h4⟩
theorem text_took (g : Nat) (s : ByteArray) (i : Nat) (toks : List S31) (w0 w : World) (hI : Rdr w0 w g s (i : Int) toks) (hB : Below w0.heap.size w0 w) (hl : toks.length ≤ 8192) (hs : s.size ≤ 8192) (hi : i < s.size) :
    Calls Try.prog 31 #[.pointer (some ⟨g, 0, none⟩)] w (Took w0 g s i toks (strTok (suf s (i + 1)))) := by
  refine (text_calls g s _ (i + 1) toks w0 w hI hB hl hs (by omega) (by omega)).mono ?_
  intro e w' h
  unfold strTok
  rcases h with ⟨b, m, h1, h2, rfl, h3, h4⟩ | ⟨h1, rfl, h3, h4⟩
  · rw [h1]
    simp only [Option.bind_some]
    rw [if_pos h2]
    have h5 := strVal_len _ _ (Nat.le_refl _) b m h1
    have h6 := suf_length s (i + 1)
    rw [w64 (by omega) (by omega)] at h3
    exact ⟨rfl, h3, h4⟩
  · match h5 : strVal (suf s (i + 1)) with
    | none => exact ⟨rfl, h3, h4⟩
    | some (b, m) =>
      simp only [Option.bind_some]
      rw [if_neg (by have := h1 b m h5; omega)]
      exact ⟨rfl, h3, h4⟩
theorem sign_took (g : Nat) (s : ByteArray) (i : Nat) (toks : List S31) (w0 w : World) (hI : Rdr w0 w g s (i : Int) toks) (hB : Below w0.heap.size w0 w) (hl : toks.length ≤ 8192) (hs : s.size ≤ 8192) {c : UInt8} {r : List UInt8} (hc : suf s i = c :: r) :
    Calls Try.prog 32 #[.pointer (some ⟨g, 0, none⟩)] w (Took w0 g s i toks (signTok (suf s i))) := by
  obtain ⟨h1, h2, h3, h4⟩ := suf_cons hc
  refine (sign_calls g s _ toks w0 w hI hB hl (by omega) (by omega) (by rw [extract_suf, ofL_size, hc]; simp)).mono ?_
  intro e w' h
  rw [extract_suf] at h
  unfold SignEnd at h
  have e2 : (ofL (suf s i)).extract 0 2 = ofL ((suf s i).take 2) := by rw [extract_ofL, suf_ofL]; rfl
  have e1 : (ofL (suf s i)).extract 0 1 = ofL [c] := by rw [extract_ofL, suf_ofL, hc]; rfl
  have eb : bt (ofL (suf s i)) 0 = (c.toNat : Int) := by
    have h0 : suf (ofL (c :: r)) 0 = c :: r := by rw [suf_zero, ofL_data]
    rw [hc]
    exact (suf_cons h0).2.1
  rw [e2, e1, eb, ofL_toList] at h
  have hm : (c.toNat : Int) ∈ singles.map (fun c => (c.toNat : Int)) ↔ singles.contains c = true := by
    rw [List.mem_map, List.contains_iff_mem]
    constructor
    · rintro ⟨d, hd, he⟩
      have : d = c := by rw [← UInt8.toNat_inj]; omega
      exact this ▸ hd
    · intro hd
      exact ⟨c, hd, rfl⟩
  unfold signTok
  rcases h with ⟨h5, rfl, h6, h7⟩ | ⟨h5, h8, rfl, h6, h7⟩ | ⟨h5, h8, rfl, h6, h7⟩
  · rw [if_pos h5]
    have : 2 ≤ (suf s i).length := by
      have h4 := List.contains_iff_mem.1 h5
      have h9 : ∀ x ∈ doubles, x.length = 2 := by decide
      have := h9 _ h4
      rw [List.length_take] at this
      omega
    have h10 := suf_length s i
    rw [w64 (by omega) (by omega)] at h6
    exact ⟨rfl, h6, h7⟩
  · rw [if_neg (by rw [h5]; simp), hc]
    simp only
    rw [if_pos (hm.1 h8)]
    rw [w64 (by omega) (by omega)] at h6
    exact ⟨rfl, h6, h7⟩
  · rw [if_neg (by rw [h5]; simp), hc]
    simp only
    rw [if_neg (fun h => h8 (hm.2 h))]
    exact ⟨rfl, h6, h7⟩

set_option maxHeartbeats 8000000 in
set_option maxRecDepth 100000 in
theorem one_calls (g : Nat) (s : ByteArray) (i : Nat) (toks : List S31) (w0 w : World) (hI : Rdr w0 w g s (i : Int) toks) (hB : Below w0.heap.size w0 w) (hl : toks.length ≤ 8192) (hs : s.size ≤ 8192) {c : UInt8} {r : List UInt8} (hc : suf s i = c :: r) :
    Calls Try.prog 21 #[.pointer (some ⟨g, 0, none⟩)] w (Took w0 g s i toks (tok (c :: r))) := by
  obtain ⟨h1, h2, h3, h4⟩ := suf_cons hc
  have HI0 := Aside0.mk hI
  have HB := Aside0.mk hB
  have p1 : (0 ≤ (i : Int)) = True := eq_true (by omega)
  have q1 : ((i : Int) < (s.size : Int)) = True := eq_true (by omega)
  have q2 : (i < s.size) = True := eq_true h1
  have hx1 := bt_at s (i : Int)
  have H2 := Aside0.mk h2
  have hx2 : ∀ h : i < s.size, ((s[i]'h).toNat : Int) = bt s (i : Int) := fun h => bt_at s (i : Int) h
  obtain ⟨P, HP⟩ : ∃ P : Ending → World → Prop, P = Took w0 g s i toks (tok (c :: r)) := ⟨_, rfl⟩
  rw [← HP]
  have HP0 := Aside0.mk HP
  clear HP
  have AL0 := lex_letter_eq c
  rw [← h2] at AL0
  have AD0 := lex_digit_eq c
  rw [← h2] at AD0
  obtain ⟨AS, cS, HG, hg, HS⟩ := HI0.out
  have hcz0 := cellR_0 HG
  have hcz1 := cellR_1 HG
  have hcz2 := cellR_2 HG
  have hfz0 := blk_frozen HG 0
  have hfz1 := blk_frozen HG 1
  clear HG hg HS

  by_cases d1 : isLetter c = true
  · rw [d1] at AL0
    have AL := Aside0.mk AL0
    clear AL0 AD0
    have hcc : ∀ w, Rdr w0 w g s (i : Int) toks → Below w0.heap.size w0 w → Calls Try.prog 28 #[.pointer (some ⟨g, 0, none⟩)] w (Took w0 g s i toks (tok (c :: r))) := by
      intro w hI hB
      rw [show tok (c :: r) = wordTok (c :: r) from by rw [tok, if_pos d1]]
      exact by rw [← hc]; exact word_took g s i toks w0 w hI hB hl hs (by omega)
    clear h1 h2 h3 h4 hI hB hl hs hc
    match ho : tok (c :: r) with
    | some t =>
      rw [ho] at hcc HP0
      have HC := Aside0.mk hcc
      clear hcc ho
      go_enter Try.func21, Try.ntmps21
      go_wp2_with (first | (go_at_call 24; (with_reducible refine (lex_letter.calls (bt s (i : Int)) true _ AL.out).mono ?_); rintro e w' ⟨rfl, ⟨nd, rfl⟩⟩; (try first | exact ⟨rfl, _, World.drewN_drewN _ _ _⟩ | exact ⟨rfl, _, Eq.trans (World.drewN_drewN _ _ _) (congrArg (World.drewN _) (Nat.add_assoc _ _ _))⟩)) | (go_at_call 28; (with_reducible refine (HC.out _ (by repeat (first | (with_reducible first | exact HI0.out | apply Rdr.alloc | apply Rdr.drewN | apply Rdr.drew | apply Rdr.set_0 | apply Rdr.set_1) | exact HI0.out)) (by repeat (first | (with_reducible first | exact HB.out | apply below_alloc | apply pw_below_drewN | apply below_drew1 | refine below_set ?_ (Rdr.ge HI0.out)) | exact HB.out))).mono ?_); rintro e w12 ⟨rfl, hi, hb⟩; have n1_ := Aside0.mk hb; have n2_ := Aside0.mk hi; clear HB; clear HI0; have HB := n1_; have HI0 := n2_; clear n1_ n2_; (try clear hb); (try clear hi)))
      repeat (go_quiet (first | (go_at_call 24; (with_reducible refine (lex_letter.calls (bt s (i : Int)) true _ AL.out).mono ?_); rintro e w' ⟨rfl, ⟨nd, rfl⟩⟩; (try first | exact ⟨rfl, _, World.drewN_drewN _ _ _⟩ | exact ⟨rfl, _, Eq.trans (World.drewN_drewN _ _ _) (congrArg (World.drewN _) (Nat.add_assoc _ _ _))⟩)) | (go_at_call 28; (with_reducible refine (HC.out _ (by repeat (first | (with_reducible first | exact HI0.out | apply Rdr.alloc | apply Rdr.drewN | apply Rdr.drew | apply Rdr.set_0 | apply Rdr.set_1) | exact HI0.out)) (by repeat (first | (with_reducible first | exact HB.out | apply below_alloc | apply pw_below_drewN | apply below_drew1 | refine below_set ?_ (Rdr.ge HI0.out)) | exact HB.out))).mono ?_); rintro e w12 ⟨rfl, hi, hb⟩; have n1_ := Aside0.mk hb; have n2_ := Aside0.mk hi; clear HB; clear HI0; have HB := n1_; have HI0 := n2_; clear n1_ n2_; (try clear hb); (try clear hi))); try go_wp2_with (first | (go_at_call 24; (with_reducible refine (lex_letter.calls (bt s (i : Int)) true _ AL.out).mono ?_); rintro e w' ⟨rfl, ⟨nd, rfl⟩⟩; (try first | exact ⟨rfl, _, World.drewN_drewN _ _ _⟩ | exact ⟨rfl, _, Eq.trans (World.drewN_drewN _ _ _) (congrArg (World.drewN _) (Nat.add_assoc _ _ _))⟩)) | (go_at_call 28; (with_reducible refine (HC.out _ (by repeat (first | (with_reducible first | exact HI0.out | apply Rdr.alloc | apply Rdr.drewN | apply Rdr.drew | apply Rdr.set_0 | apply Rdr.set_1) | exact HI0.out)) (by repeat (first | (with_reducible first | exact HB.out | apply below_alloc | apply pw_below_drewN | apply below_drew1 | refine below_set ?_ (Rdr.ge HI0.out)) | exact HB.out))).mono ?_); rintro e w12 ⟨rfl, hi, hb⟩; have n1_ := Aside0.mk hb; have n2_ := Aside0.mk hi; clear HB; clear HI0; have HB := n1_; have HI0 := n2_; clear n1_ n2_; (try clear hb); (try clear hi))))
      try go_ret
      change P (Ending.returned (.bool true)) _
      rw [HP0.out]
      exact ⟨rfl, by repeat (first | (with_reducible first | exact HI0.out | apply Rdr.alloc | apply Rdr.drewN | apply Rdr.drew | apply Rdr.set_0 | apply Rdr.set_1) | exact HI0.out), by repeat (first | (with_reducible first | exact HB.out | apply below_alloc | apply pw_below_drewN | apply below_drew1 | refine below_set ?_ (Rdr.ge HI0.out)) | exact HB.out)⟩
    | none =>
      rw [ho] at hcc HP0
      have HC := Aside0.mk hcc
      clear hcc ho
      go_enter Try.func21, Try.ntmps21
      go_wp2_with (first | (go_at_call 24; (with_reducible refine (lex_letter.calls (bt s (i : Int)) true _ AL.out).mono ?_); rintro e w' ⟨rfl, ⟨nd, rfl⟩⟩; (try first | exact ⟨rfl, _, World.drewN_drewN _ _ _⟩ | exact ⟨rfl, _, Eq.trans (World.drewN_drewN _ _ _) (congrArg (World.drewN _) (Nat.add_assoc _ _ _))⟩)) | (go_at_call 28; (with_reducible refine (HC.out _ (by repeat (first | (with_reducible first | exact HI0.out | apply Rdr.alloc | apply Rdr.drewN | apply Rdr.drew | apply Rdr.set_0 | apply Rdr.set_1) | exact HI0.out)) (by repeat (first | (with_reducible first | exact HB.out | apply below_alloc | apply pw_below_drewN | apply below_drew1 | refine below_set ?_ (Rdr.ge HI0.out)) | exact HB.out))).mono ?_); rintro e w12 ⟨rfl, hi, hb⟩; have n1_ := Aside0.mk hb; have n2_ := Aside0.mk hi; clear HB; clear HI0; have HB := n1_; have HI0 := n2_; clear n1_ n2_; (try clear hb); (try clear hi)))
      repeat (go_quiet (first | (go_at_call 24; (with_reducible refine (lex_letter.calls (bt s (i : Int)) true _ AL.out).mono ?_); rintro e w' ⟨rfl, ⟨nd, rfl⟩⟩; (try first | exact ⟨rfl, _, World.drewN_drewN _ _ _⟩ | exact ⟨rfl, _, Eq.trans (World.drewN_drewN _ _ _) (congrArg (World.drewN _) (Nat.add_assoc _ _ _))⟩)) | (go_at_call 28; (with_reducible refine (HC.out _ (by repeat (first | (with_reducible first | exact HI0.out | apply Rdr.alloc | apply Rdr.drewN | apply Rdr.drew | apply Rdr.set_0 | apply Rdr.set_1) | exact HI0.out)) (by repeat (first | (with_reducible first | exact HB.out | apply below_alloc | apply pw_below_drewN | apply below_drew1 | refine below_set ?_ (Rdr.ge HI0.out)) | exact HB.out))).mono ?_); rintro e w12 ⟨rfl, hi, hb⟩; have n1_ := Aside0.mk hb; have n2_ := Aside0.mk hi; clear HB; clear HI0; have HB := n1_; have HI0 := n2_; clear n1_ n2_; (try clear hb); (try clear hi))); try go_wp2_with (first | (go_at_call 24; (with_reducible refine (lex_letter.calls (bt s (i : Int)) true _ AL.out).mono ?_); rintro e w' ⟨rfl, ⟨nd, rfl⟩⟩; (try first | exact ⟨rfl, _, World.drewN_drewN _ _ _⟩ | exact ⟨rfl, _, Eq.trans (World.drewN_drewN _ _ _) (congrArg (World.drewN _) (Nat.add_assoc _ _ _))⟩)) | (go_at_call 28; (with_reducible refine (HC.out _ (by repeat (first | (with_reducible first | exact HI0.out | apply Rdr.alloc | apply Rdr.drewN | apply Rdr.drew | apply Rdr.set_0 | apply Rdr.set_1) | exact HI0.out)) (by repeat (first | (with_reducible first | exact HB.out | apply below_alloc | apply pw_below_drewN | apply below_drew1 | refine below_set ?_ (Rdr.ge HI0.out)) | exact HB.out))).mono ?_); rintro e w12 ⟨rfl, hi, hb⟩; have n1_ := Aside0.mk hb; have n2_ := Aside0.mk hi; clear HB; clear HI0; have HB := n1_; have HI0 := n2_; clear n1_ n2_; (try clear hb); (try clear hi))))
      try go_ret
      change P (Ending.returned (.bool false)) _
      rw [HP0.out]
      exact ⟨rfl, by repeat (first | (with_reducible first | exact HI0.out | apply Rdr.alloc | apply Rdr.drewN | apply Rdr.drew | apply Rdr.set_0 | apply Rdr.set_1) | exact HI0.out), by repeat (first | (with_reducible first | exact HB.out | apply below_alloc | apply pw_below_drewN | apply below_drew1 | refine below_set ?_ (Rdr.ge HI0.out)) | exact HB.out)⟩
  · have d1f := Bool.eq_false_iff.2 d1
    rw [d1f] at AL0
    have AL := Aside0.mk AL0
    clear AL0
    by_cases d2 : isDigit c = true
    · rw [d2] at AD0
      have AD := Aside0.mk AD0
      clear AD0
      have hcc : ∀ w, Rdr w0 w g s (i : Int) toks → Below w0.heap.size w0 w → Calls Try.prog 30 #[.pointer (some ⟨g, 0, none⟩)] w (Took w0 g s i toks (tok (c :: r))) := by
        intro w hI hB
        rw [show tok (c :: r) = numTok (c :: r) from by rw [tok, if_neg d1, if_pos d2]]
        exact by rw [← hc]; exact number_took g s i toks w0 w hI hB hl hs (by omega)
      clear h1 h2 h3 h4 hI hB hl hs hc
      match ho : tok (c :: r) with
      | some t =>
        rw [ho] at hcc HP0
        have HC := Aside0.mk hcc
        clear hcc ho
        go_enter Try.func21, Try.ntmps21
        go_wp2_with (first | (go_at_call 24; (with_reducible refine (lex_letter.calls (bt s (i : Int)) false _ AL.out).mono ?_); rintro e w' ⟨rfl, ⟨nd, rfl⟩⟩; (try first | exact ⟨rfl, _, World.drewN_drewN _ _ _⟩ | exact ⟨rfl, _, Eq.trans (World.drewN_drewN _ _ _) (congrArg (World.drewN _) (Nat.add_assoc _ _ _))⟩)) | (go_at_call 29; (with_reducible refine (lex_digit.calls (bt s (i : Int)) true _ AD.out).mono ?_); rintro e w' ⟨rfl, ⟨nd, rfl⟩⟩; (try first | exact ⟨rfl, _, World.drewN_drewN _ _ _⟩ | exact ⟨rfl, _, Eq.trans (World.drewN_drewN _ _ _) (congrArg (World.drewN _) (Nat.add_assoc _ _ _))⟩)) | (go_at_call 30; (with_reducible refine (HC.out _ (by repeat (first | (with_reducible first | exact HI0.out | apply Rdr.alloc | apply Rdr.drewN | apply Rdr.drew | apply Rdr.set_0 | apply Rdr.set_1) | exact HI0.out)) (by repeat (first | (with_reducible first | exact HB.out | apply below_alloc | apply pw_below_drewN | apply below_drew1 | refine below_set ?_ (Rdr.ge HI0.out)) | exact HB.out))).mono ?_); rintro e w12 ⟨rfl, hi, hb⟩; have n1_ := Aside0.mk hb; have n2_ := Aside0.mk hi; clear HB; clear HI0; have HB := n1_; have HI0 := n2_; clear n1_ n2_; (try clear hb); (try clear hi)))
        repeat (go_quiet (first | (go_at_call 24; (with_reducible refine (lex_letter.calls (bt s (i : Int)) false _ AL.out).mono ?_); rintro e w' ⟨rfl, ⟨nd, rfl⟩⟩; (try first | exact ⟨rfl, _, World.drewN_drewN _ _ _⟩ | exact ⟨rfl, _, Eq.trans (World.drewN_drewN _ _ _) (congrArg (World.drewN _) (Nat.add_assoc _ _ _))⟩)) | (go_at_call 29; (with_reducible refine (lex_digit.calls (bt s (i : Int)) true _ AD.out).mono ?_); rintro e w' ⟨rfl, ⟨nd, rfl⟩⟩; (try first | exact ⟨rfl, _, World.drewN_drewN _ _ _⟩ | exact ⟨rfl, _, Eq.trans (World.drewN_drewN _ _ _) (congrArg (World.drewN _) (Nat.add_assoc _ _ _))⟩)) | (go_at_call 30; (with_reducible refine (HC.out _ (by repeat (first | (with_reducible first | exact HI0.out | apply Rdr.alloc | apply Rdr.drewN | apply Rdr.drew | apply Rdr.set_0 | apply Rdr.set_1) | exact HI0.out)) (by repeat (first | (with_reducible first | exact HB.out | apply below_alloc | apply pw_below_drewN | apply below_drew1 | refine below_set ?_ (Rdr.ge HI0.out)) | exact HB.out))).mono ?_); rintro e w12 ⟨rfl, hi, hb⟩; have n1_ := Aside0.mk hb; have n2_ := Aside0.mk hi; clear HB; clear HI0; have HB := n1_; have HI0 := n2_; clear n1_ n2_; (try clear hb); (try clear hi))); try go_wp2_with (first | (go_at_call 24; (with_reducible refine (lex_letter.calls (bt s (i : Int)) false _ AL.out).mono ?_); rintro e w' ⟨rfl, ⟨nd, rfl⟩⟩; (try first | exact ⟨rfl, _, World.drewN_drewN _ _ _⟩ | exact ⟨rfl, _, Eq.trans (World.drewN_drewN _ _ _) (congrArg (World.drewN _) (Nat.add_assoc _ _ _))⟩)) | (go_at_call 29; (with_reducible refine (lex_digit.calls (bt s (i : Int)) true _ AD.out).mono ?_); rintro e w' ⟨rfl, ⟨nd, rfl⟩⟩; (try first | exact ⟨rfl, _, World.drewN_drewN _ _ _⟩ | exact ⟨rfl, _, Eq.trans (World.drewN_drewN _ _ _) (congrArg (World.drewN _) (Nat.add_assoc _ _ _))⟩)) | (go_at_call 30; (with_reducible refine (HC.out _ (by repeat (first | (with_reducible first | exact HI0.out | apply Rdr.alloc | apply Rdr.drewN | apply Rdr.drew | apply Rdr.set_0 | apply Rdr.set_1) | exact HI0.out)) (by repeat (first | (with_reducible first | exact HB.out | apply below_alloc | apply pw_below_drewN | apply below_drew1 | refine below_set ?_ (Rdr.ge HI0.out)) | exact HB.out))).mono ?_); rintro e w12 ⟨rfl, hi, hb⟩; have n1_ := Aside0.mk hb; have n2_ := Aside0.mk hi; clear HB; clear HI0; have HB := n1_; have HI0 := n2_; clear n1_ n2_; (try clear hb); (try clear hi))))
        try go_ret
        change P (Ending.returned (.bool true)) _
        rw [HP0.out]
        exact ⟨rfl, by repeat (first | (with_reducible first | exact HI0.out | apply Rdr.alloc | apply Rdr.drewN | apply Rdr.drew | apply Rdr.set_0 | apply Rdr.set_1) | exact HI0.out), by repeat (first | (with_reducible first | exact HB.out | apply below_alloc | apply pw_below_drewN | apply below_drew1 | refine below_set ?_ (Rdr.ge HI0.out)) | exact HB.out)⟩
      | none =>
        rw [ho] at hcc HP0
        have HC := Aside0.mk hcc
        clear hcc ho
        go_enter Try.func21, Try.ntmps21
        go_wp2_with (first | (go_at_call 24; (with_reducible refine (lex_letter.calls (bt s (i : Int)) false _ AL.out).mono ?_); rintro e w' ⟨rfl, ⟨nd, rfl⟩⟩; (try first | exact ⟨rfl, _, World.drewN_drewN _ _ _⟩ | exact ⟨rfl, _, Eq.trans (World.drewN_drewN _ _ _) (congrArg (World.drewN _) (Nat.add_assoc _ _ _))⟩)) | (go_at_call 29; (with_reducible refine (lex_digit.calls (bt s (i : Int)) true _ AD.out).mono ?_); rintro e w' ⟨rfl, ⟨nd, rfl⟩⟩; (try first | exact ⟨rfl, _, World.drewN_drewN _ _ _⟩ | exact ⟨rfl, _, Eq.trans (World.drewN_drewN _ _ _) (congrArg (World.drewN _) (Nat.add_assoc _ _ _))⟩)) | (go_at_call 30; (with_reducible refine (HC.out _ (by repeat (first | (with_reducible first | exact HI0.out | apply Rdr.alloc | apply Rdr.drewN | apply Rdr.drew | apply Rdr.set_0 | apply Rdr.set_1) | exact HI0.out)) (by repeat (first | (with_reducible first | exact HB.out | apply below_alloc | apply pw_below_drewN | apply below_drew1 | refine below_set ?_ (Rdr.ge HI0.out)) | exact HB.out))).mono ?_); rintro e w12 ⟨rfl, hi, hb⟩; have n1_ := Aside0.mk hb; have n2_ := Aside0.mk hi; clear HB; clear HI0; have HB := n1_; have HI0 := n2_; clear n1_ n2_; (try clear hb); (try clear hi)))
        repeat (go_quiet (first | (go_at_call 24; (with_reducible refine (lex_letter.calls (bt s (i : Int)) false _ AL.out).mono ?_); rintro e w' ⟨rfl, ⟨nd, rfl⟩⟩; (try first | exact ⟨rfl, _, World.drewN_drewN _ _ _⟩ | exact ⟨rfl, _, Eq.trans (World.drewN_drewN _ _ _) (congrArg (World.drewN _) (Nat.add_assoc _ _ _))⟩)) | (go_at_call 29; (with_reducible refine (lex_digit.calls (bt s (i : Int)) true _ AD.out).mono ?_); rintro e w' ⟨rfl, ⟨nd, rfl⟩⟩; (try first | exact ⟨rfl, _, World.drewN_drewN _ _ _⟩ | exact ⟨rfl, _, Eq.trans (World.drewN_drewN _ _ _) (congrArg (World.drewN _) (Nat.add_assoc _ _ _))⟩)) | (go_at_call 30; (with_reducible refine (HC.out _ (by repeat (first | (with_reducible first | exact HI0.out | apply Rdr.alloc | apply Rdr.drewN | apply Rdr.drew | apply Rdr.set_0 | apply Rdr.set_1) | exact HI0.out)) (by repeat (first | (with_reducible first | exact HB.out | apply below_alloc | apply pw_below_drewN | apply below_drew1 | refine below_set ?_ (Rdr.ge HI0.out)) | exact HB.out))).mono ?_); rintro e w12 ⟨rfl, hi, hb⟩; have n1_ := Aside0.mk hb; have n2_ := Aside0.mk hi; clear HB; clear HI0; have HB := n1_; have HI0 := n2_; clear n1_ n2_; (try clear hb); (try clear hi))); try go_wp2_with (first | (go_at_call 24; (with_reducible refine (lex_letter.calls (bt s (i : Int)) false _ AL.out).mono ?_); rintro e w' ⟨rfl, ⟨nd, rfl⟩⟩; (try first | exact ⟨rfl, _, World.drewN_drewN _ _ _⟩ | exact ⟨rfl, _, Eq.trans (World.drewN_drewN _ _ _) (congrArg (World.drewN _) (Nat.add_assoc _ _ _))⟩)) | (go_at_call 29; (with_reducible refine (lex_digit.calls (bt s (i : Int)) true _ AD.out).mono ?_); rintro e w' ⟨rfl, ⟨nd, rfl⟩⟩; (try first | exact ⟨rfl, _, World.drewN_drewN _ _ _⟩ | exact ⟨rfl, _, Eq.trans (World.drewN_drewN _ _ _) (congrArg (World.drewN _) (Nat.add_assoc _ _ _))⟩)) | (go_at_call 30; (with_reducible refine (HC.out _ (by repeat (first | (with_reducible first | exact HI0.out | apply Rdr.alloc | apply Rdr.drewN | apply Rdr.drew | apply Rdr.set_0 | apply Rdr.set_1) | exact HI0.out)) (by repeat (first | (with_reducible first | exact HB.out | apply below_alloc | apply pw_below_drewN | apply below_drew1 | refine below_set ?_ (Rdr.ge HI0.out)) | exact HB.out))).mono ?_); rintro e w12 ⟨rfl, hi, hb⟩; have n1_ := Aside0.mk hb; have n2_ := Aside0.mk hi; clear HB; clear HI0; have HB := n1_; have HI0 := n2_; clear n1_ n2_; (try clear hb); (try clear hi))))
        try go_ret
        change P (Ending.returned (.bool false)) _
        rw [HP0.out]
        exact ⟨rfl, by repeat (first | (with_reducible first | exact HI0.out | apply Rdr.alloc | apply Rdr.drewN | apply Rdr.drew | apply Rdr.set_0 | apply Rdr.set_1) | exact HI0.out), by repeat (first | (with_reducible first | exact HB.out | apply below_alloc | apply pw_below_drewN | apply below_drew1 | refine below_set ?_ (Rdr.ge HI0.out)) | exact HB.out)⟩
    · have d2f := Bool.eq_false_iff.2 d2
      rw [d2f] at AD0
      have AD := Aside0.mk AD0
      clear AD0
      by_cases d3 : c = 34
      · have t3 : (bt s (i : Int) == 34) = true := beq_iff_eq.mpr (by rw [h2, d3]; rfl)
        have hcc : ∀ w, Rdr w0 w g s (i : Int) toks → Below w0.heap.size w0 w → Calls Try.prog 31 #[.pointer (some ⟨g, 0, none⟩)] w (Took w0 g s i toks (tok (c :: r))) := by
          intro w hI hB
          rw [show tok (c :: r) = strTok r from by rw [tok, if_neg d1, if_neg d2, if_pos d3]]
          exact by rw [← h3]; exact text_took g s i toks w0 w hI hB hl hs h1
        clear h1 h2 h3 h4 hI hB hl hs hc
        match ho : tok (c :: r) with
        | some t =>
          rw [ho] at hcc HP0
          have HC := Aside0.mk hcc
          clear hcc ho
          go_enter Try.func21, Try.ntmps21
          go_wp2_with (first | (go_at_call 24; (with_reducible refine (lex_letter.calls (bt s (i : Int)) false _ AL.out).mono ?_); rintro e w' ⟨rfl, ⟨nd, rfl⟩⟩; (try first | exact ⟨rfl, _, World.drewN_drewN _ _ _⟩ | exact ⟨rfl, _, Eq.trans (World.drewN_drewN _ _ _) (congrArg (World.drewN _) (Nat.add_assoc _ _ _))⟩)) | (go_at_call 29; (with_reducible refine (lex_digit.calls (bt s (i : Int)) false _ AD.out).mono ?_); rintro e w' ⟨rfl, ⟨nd, rfl⟩⟩; (try first | exact ⟨rfl, _, World.drewN_drewN _ _ _⟩ | exact ⟨rfl, _, Eq.trans (World.drewN_drewN _ _ _) (congrArg (World.drewN _) (Nat.add_assoc _ _ _))⟩)) | (go_at_call 31; (with_reducible refine (HC.out _ (by repeat (first | (with_reducible first | exact HI0.out | apply Rdr.alloc | apply Rdr.drewN | apply Rdr.drew | apply Rdr.set_0 | apply Rdr.set_1) | exact HI0.out)) (by repeat (first | (with_reducible first | exact HB.out | apply below_alloc | apply pw_below_drewN | apply below_drew1 | refine below_set ?_ (Rdr.ge HI0.out)) | exact HB.out))).mono ?_); rintro e w12 ⟨rfl, hi, hb⟩; have n1_ := Aside0.mk hb; have n2_ := Aside0.mk hi; clear HB; clear HI0; have HB := n1_; have HI0 := n2_; clear n1_ n2_; (try clear hb); (try clear hi)))
          repeat (go_quiet (first | (go_at_call 24; (with_reducible refine (lex_letter.calls (bt s (i : Int)) false _ AL.out).mono ?_); rintro e w' ⟨rfl, ⟨nd, rfl⟩⟩; (try first | exact ⟨rfl, _, World.drewN_drewN _ _ _⟩ | exact ⟨rfl, _, Eq.trans (World.drewN_drewN _ _ _) (congrArg (World.drewN _) (Nat.add_assoc _ _ _))⟩)) | (go_at_call 29; (with_reducible refine (lex_digit.calls (bt s (i : Int)) false _ AD.out).mono ?_); rintro e w' ⟨rfl, ⟨nd, rfl⟩⟩; (try first | exact ⟨rfl, _, World.drewN_drewN _ _ _⟩ | exact ⟨rfl, _, Eq.trans (World.drewN_drewN _ _ _) (congrArg (World.drewN _) (Nat.add_assoc _ _ _))⟩)) | (go_at_call 31; (with_reducible refine (HC.out _ (by repeat (first | (with_reducible first | exact HI0.out | apply Rdr.alloc | apply Rdr.drewN | apply Rdr.drew | apply Rdr.set_0 | apply Rdr.set_1) | exact HI0.out)) (by repeat (first | (with_reducible first | exact HB.out | apply below_alloc | apply pw_below_drewN | apply below_drew1 | refine below_set ?_ (Rdr.ge HI0.out)) | exact HB.out))).mono ?_); rintro e w12 ⟨rfl, hi, hb⟩; have n1_ := Aside0.mk hb; have n2_ := Aside0.mk hi; clear HB; clear HI0; have HB := n1_; have HI0 := n2_; clear n1_ n2_; (try clear hb); (try clear hi))); try go_wp2_with (first | (go_at_call 24; (with_reducible refine (lex_letter.calls (bt s (i : Int)) false _ AL.out).mono ?_); rintro e w' ⟨rfl, ⟨nd, rfl⟩⟩; (try first | exact ⟨rfl, _, World.drewN_drewN _ _ _⟩ | exact ⟨rfl, _, Eq.trans (World.drewN_drewN _ _ _) (congrArg (World.drewN _) (Nat.add_assoc _ _ _))⟩)) | (go_at_call 29; (with_reducible refine (lex_digit.calls (bt s (i : Int)) false _ AD.out).mono ?_); rintro e w' ⟨rfl, ⟨nd, rfl⟩⟩; (try first | exact ⟨rfl, _, World.drewN_drewN _ _ _⟩ | exact ⟨rfl, _, Eq.trans (World.drewN_drewN _ _ _) (congrArg (World.drewN _) (Nat.add_assoc _ _ _))⟩)) | (go_at_call 31; (with_reducible refine (HC.out _ (by repeat (first | (with_reducible first | exact HI0.out | apply Rdr.alloc | apply Rdr.drewN | apply Rdr.drew | apply Rdr.set_0 | apply Rdr.set_1) | exact HI0.out)) (by repeat (first | (with_reducible first | exact HB.out | apply below_alloc | apply pw_below_drewN | apply below_drew1 | refine below_set ?_ (Rdr.ge HI0.out)) | exact HB.out))).mono ?_); rintro e w12 ⟨rfl, hi, hb⟩; have n1_ := Aside0.mk hb; have n2_ := Aside0.mk hi; clear HB; clear HI0; have HB := n1_; have HI0 := n2_; clear n1_ n2_; (try clear hb); (try clear hi))))
          try go_ret
          change P (Ending.returned (.bool true)) _
          rw [HP0.out]
          exact ⟨rfl, by repeat (first | (with_reducible first | exact HI0.out | apply Rdr.alloc | apply Rdr.drewN | apply Rdr.drew | apply Rdr.set_0 | apply Rdr.set_1) | exact HI0.out), by repeat (first | (with_reducible first | exact HB.out | apply below_alloc | apply pw_below_drewN | apply below_drew1 | refine below_set ?_ (Rdr.ge HI0.out)) | exact HB.out)⟩
        | none =>
          rw [ho] at hcc HP0
          have HC := Aside0.mk hcc
          clear hcc ho
          go_enter Try.func21, Try.ntmps21
          go_wp2_with (first | (go_at_call 24; (with_reducible refine (lex_letter.calls (bt s (i : Int)) false _ AL.out).mono ?_); rintro e w' ⟨rfl, ⟨nd, rfl⟩⟩; (try first | exact ⟨rfl, _, World.drewN_drewN _ _ _⟩ | exact ⟨rfl, _, Eq.trans (World.drewN_drewN _ _ _) (congrArg (World.drewN _) (Nat.add_assoc _ _ _))⟩)) | (go_at_call 29; (with_reducible refine (lex_digit.calls (bt s (i : Int)) false _ AD.out).mono ?_); rintro e w' ⟨rfl, ⟨nd, rfl⟩⟩; (try first | exact ⟨rfl, _, World.drewN_drewN _ _ _⟩ | exact ⟨rfl, _, Eq.trans (World.drewN_drewN _ _ _) (congrArg (World.drewN _) (Nat.add_assoc _ _ _))⟩)) | (go_at_call 31; (with_reducible refine (HC.out _ (by repeat (first | (with_reducible first | exact HI0.out | apply Rdr.alloc | apply Rdr.drewN | apply Rdr.drew | apply Rdr.set_0 | apply Rdr.set_1) | exact HI0.out)) (by repeat (first | (with_reducible first | exact HB.out | apply below_alloc | apply pw_below_drewN | apply below_drew1 | refine below_set ?_ (Rdr.ge HI0.out)) | exact HB.out))).mono ?_); rintro e w12 ⟨rfl, hi, hb⟩; have n1_ := Aside0.mk hb; have n2_ := Aside0.mk hi; clear HB; clear HI0; have HB := n1_; have HI0 := n2_; clear n1_ n2_; (try clear hb); (try clear hi)))
          repeat (go_quiet (first | (go_at_call 24; (with_reducible refine (lex_letter.calls (bt s (i : Int)) false _ AL.out).mono ?_); rintro e w' ⟨rfl, ⟨nd, rfl⟩⟩; (try first | exact ⟨rfl, _, World.drewN_drewN _ _ _⟩ | exact ⟨rfl, _, Eq.trans (World.drewN_drewN _ _ _) (congrArg (World.drewN _) (Nat.add_assoc _ _ _))⟩)) | (go_at_call 29; (with_reducible refine (lex_digit.calls (bt s (i : Int)) false _ AD.out).mono ?_); rintro e w' ⟨rfl, ⟨nd, rfl⟩⟩; (try first | exact ⟨rfl, _, World.drewN_drewN _ _ _⟩ | exact ⟨rfl, _, Eq.trans (World.drewN_drewN _ _ _) (congrArg (World.drewN _) (Nat.add_assoc _ _ _))⟩)) | (go_at_call 31; (with_reducible refine (HC.out _ (by repeat (first | (with_reducible first | exact HI0.out | apply Rdr.alloc | apply Rdr.drewN | apply Rdr.drew | apply Rdr.set_0 | apply Rdr.set_1) | exact HI0.out)) (by repeat (first | (with_reducible first | exact HB.out | apply below_alloc | apply pw_below_drewN | apply below_drew1 | refine below_set ?_ (Rdr.ge HI0.out)) | exact HB.out))).mono ?_); rintro e w12 ⟨rfl, hi, hb⟩; have n1_ := Aside0.mk hb; have n2_ := Aside0.mk hi; clear HB; clear HI0; have HB := n1_; have HI0 := n2_; clear n1_ n2_; (try clear hb); (try clear hi))); try go_wp2_with (first | (go_at_call 24; (with_reducible refine (lex_letter.calls (bt s (i : Int)) false _ AL.out).mono ?_); rintro e w' ⟨rfl, ⟨nd, rfl⟩⟩; (try first | exact ⟨rfl, _, World.drewN_drewN _ _ _⟩ | exact ⟨rfl, _, Eq.trans (World.drewN_drewN _ _ _) (congrArg (World.drewN _) (Nat.add_assoc _ _ _))⟩)) | (go_at_call 29; (with_reducible refine (lex_digit.calls (bt s (i : Int)) false _ AD.out).mono ?_); rintro e w' ⟨rfl, ⟨nd, rfl⟩⟩; (try first | exact ⟨rfl, _, World.drewN_drewN _ _ _⟩ | exact ⟨rfl, _, Eq.trans (World.drewN_drewN _ _ _) (congrArg (World.drewN _) (Nat.add_assoc _ _ _))⟩)) | (go_at_call 31; (with_reducible refine (HC.out _ (by repeat (first | (with_reducible first | exact HI0.out | apply Rdr.alloc | apply Rdr.drewN | apply Rdr.drew | apply Rdr.set_0 | apply Rdr.set_1) | exact HI0.out)) (by repeat (first | (with_reducible first | exact HB.out | apply below_alloc | apply pw_below_drewN | apply below_drew1 | refine below_set ?_ (Rdr.ge HI0.out)) | exact HB.out))).mono ?_); rintro e w12 ⟨rfl, hi, hb⟩; have n1_ := Aside0.mk hb; have n2_ := Aside0.mk hi; clear HB; clear HI0; have HB := n1_; have HI0 := n2_; clear n1_ n2_; (try clear hb); (try clear hi))))
          try go_ret
          change P (Ending.returned (.bool false)) _
          rw [HP0.out]
          exact ⟨rfl, by repeat (first | (with_reducible first | exact HI0.out | apply Rdr.alloc | apply Rdr.drewN | apply Rdr.drew | apply Rdr.set_0 | apply Rdr.set_1) | exact HI0.out), by repeat (first | (with_reducible first | exact HB.out | apply below_alloc | apply pw_below_drewN | apply below_drew1 | refine below_set ?_ (Rdr.ge HI0.out)) | exact HB.out)⟩
      · have t3 : (bt s (i : Int) == 34) = false := beq_eq_false_iff_ne.mpr (by rw [h2]; exact fun h => d3 (byte_of (m := 34) h (by omega) (by omega)))
        have hcc : ∀ w, Rdr w0 w g s (i : Int) toks → Below w0.heap.size w0 w → Calls Try.prog 32 #[.pointer (some ⟨g, 0, none⟩)] w (Took w0 g s i toks (tok (c :: r))) := by
          intro w hI hB
          rw [show tok (c :: r) = signTok (c :: r) from by rw [tok, if_neg d1, if_neg d2, if_neg d3]]
          exact by rw [← hc]; exact sign_took g s i toks w0 w hI hB hl hs hc
        clear h1 h2 h3 h4 hI hB hl hs hc
        match ho : tok (c :: r) with
        | some t =>
          rw [ho] at hcc HP0
          have HC := Aside0.mk hcc
          clear hcc ho
          go_enter Try.func21, Try.ntmps21
          go_wp2_with (first | (go_at_call 24; (with_reducible refine (lex_letter.calls (bt s (i : Int)) false _ AL.out).mono ?_); rintro e w' ⟨rfl, ⟨nd, rfl⟩⟩; (try first | exact ⟨rfl, _, World.drewN_drewN _ _ _⟩ | exact ⟨rfl, _, Eq.trans (World.drewN_drewN _ _ _) (congrArg (World.drewN _) (Nat.add_assoc _ _ _))⟩)) | (go_at_call 29; (with_reducible refine (lex_digit.calls (bt s (i : Int)) false _ AD.out).mono ?_); rintro e w' ⟨rfl, ⟨nd, rfl⟩⟩; (try first | exact ⟨rfl, _, World.drewN_drewN _ _ _⟩ | exact ⟨rfl, _, Eq.trans (World.drewN_drewN _ _ _) (congrArg (World.drewN _) (Nat.add_assoc _ _ _))⟩)) | (go_at_call 32; (with_reducible refine (HC.out _ (by repeat (first | (with_reducible first | exact HI0.out | apply Rdr.alloc | apply Rdr.drewN | apply Rdr.drew | apply Rdr.set_0 | apply Rdr.set_1) | exact HI0.out)) (by repeat (first | (with_reducible first | exact HB.out | apply below_alloc | apply pw_below_drewN | apply below_drew1 | refine below_set ?_ (Rdr.ge HI0.out)) | exact HB.out))).mono ?_); rintro e w12 ⟨rfl, hi, hb⟩; have n1_ := Aside0.mk hb; have n2_ := Aside0.mk hi; clear HB; clear HI0; have HB := n1_; have HI0 := n2_; clear n1_ n2_; (try clear hb); (try clear hi)))
          repeat (go_quiet (first | (go_at_call 24; (with_reducible refine (lex_letter.calls (bt s (i : Int)) false _ AL.out).mono ?_); rintro e w' ⟨rfl, ⟨nd, rfl⟩⟩; (try first | exact ⟨rfl, _, World.drewN_drewN _ _ _⟩ | exact ⟨rfl, _, Eq.trans (World.drewN_drewN _ _ _) (congrArg (World.drewN _) (Nat.add_assoc _ _ _))⟩)) | (go_at_call 29; (with_reducible refine (lex_digit.calls (bt s (i : Int)) false _ AD.out).mono ?_); rintro e w' ⟨rfl, ⟨nd, rfl⟩⟩; (try first | exact ⟨rfl, _, World.drewN_drewN _ _ _⟩ | exact ⟨rfl, _, Eq.trans (World.drewN_drewN _ _ _) (congrArg (World.drewN _) (Nat.add_assoc _ _ _))⟩)) | (go_at_call 32; (with_reducible refine (HC.out _ (by repeat (first | (with_reducible first | exact HI0.out | apply Rdr.alloc | apply Rdr.drewN | apply Rdr.drew | apply Rdr.set_0 | apply Rdr.set_1) | exact HI0.out)) (by repeat (first | (with_reducible first | exact HB.out | apply below_alloc | apply pw_below_drewN | apply below_drew1 | refine below_set ?_ (Rdr.ge HI0.out)) | exact HB.out))).mono ?_); rintro e w12 ⟨rfl, hi, hb⟩; have n1_ := Aside0.mk hb; have n2_ := Aside0.mk hi; clear HB; clear HI0; have HB := n1_; have HI0 := n2_; clear n1_ n2_; (try clear hb); (try clear hi))); try go_wp2_with (first | (go_at_call 24; (with_reducible refine (lex_letter.calls (bt s (i : Int)) false _ AL.out).mono ?_); rintro e w' ⟨rfl, ⟨nd, rfl⟩⟩; (try first | exact ⟨rfl, _, World.drewN_drewN _ _ _⟩ | exact ⟨rfl, _, Eq.trans (World.drewN_drewN _ _ _) (congrArg (World.drewN _) (Nat.add_assoc _ _ _))⟩)) | (go_at_call 29; (with_reducible refine (lex_digit.calls (bt s (i : Int)) false _ AD.out).mono ?_); rintro e w' ⟨rfl, ⟨nd, rfl⟩⟩; (try first | exact ⟨rfl, _, World.drewN_drewN _ _ _⟩ | exact ⟨rfl, _, Eq.trans (World.drewN_drewN _ _ _) (congrArg (World.drewN _) (Nat.add_assoc _ _ _))⟩)) | (go_at_call 32; (with_reducible refine (HC.out _ (by repeat (first | (with_reducible first | exact HI0.out | apply Rdr.alloc | apply Rdr.drewN | apply Rdr.drew | apply Rdr.set_0 | apply Rdr.set_1) | exact HI0.out)) (by repeat (first | (with_reducible first | exact HB.out | apply below_alloc | apply pw_below_drewN | apply below_drew1 | refine below_set ?_ (Rdr.ge HI0.out)) | exact HB.out))).mono ?_); rintro e w12 ⟨rfl, hi, hb⟩; have n1_ := Aside0.mk hb; have n2_ := Aside0.mk hi; clear HB; clear HI0; have HB := n1_; have HI0 := n2_; clear n1_ n2_; (try clear hb); (try clear hi))))
          try go_ret
          change P (Ending.returned (.bool true)) _
          rw [HP0.out]
          exact ⟨rfl, by repeat (first | (with_reducible first | exact HI0.out | apply Rdr.alloc | apply Rdr.drewN | apply Rdr.drew | apply Rdr.set_0 | apply Rdr.set_1) | exact HI0.out), by repeat (first | (with_reducible first | exact HB.out | apply below_alloc | apply pw_below_drewN | apply below_drew1 | refine below_set ?_ (Rdr.ge HI0.out)) | exact HB.out)⟩
        | none =>
          rw [ho] at hcc HP0
          have HC := Aside0.mk hcc
          clear hcc ho
          go_enter Try.func21, Try.ntmps21
          go_wp2_with (first | (go_at_call 24; (with_reducible refine (lex_letter.calls (bt s (i : Int)) false _ AL.out).mono ?_); rintro e w' ⟨rfl, ⟨nd, rfl⟩⟩; (try first | exact ⟨rfl, _, World.drewN_drewN _ _ _⟩ | exact ⟨rfl, _, Eq.trans (World.drewN_drewN _ _ _) (congrArg (World.drewN _) (Nat.add_assoc _ _ _))⟩)) | (go_at_call 29; (with_reducible refine (lex_digit.calls (bt s (i : Int)) false _ AD.out).mono ?_); rintro e w' ⟨rfl, ⟨nd, rfl⟩⟩; (try first | exact ⟨rfl, _, World.drewN_drewN _ _ _⟩ | exact ⟨rfl, _, Eq.trans (World.drewN_drewN _ _ _) (congrArg (World.drewN _) (Nat.add_assoc _ _ _))⟩)) | (go_at_call 32; (with_reducible refine (HC.out _ (by repeat (first | (with_reducible first | exact HI0.out | apply Rdr.alloc | apply Rdr.drewN | apply Rdr.drew | apply Rdr.set_0 | apply Rdr.set_1) | exact HI0.out)) (by repeat (first | (with_reducible first | exact HB.out | apply below_alloc | apply pw_below_drewN | apply below_drew1 | refine below_set ?_ (Rdr.ge HI0.out)) | exact HB.out))).mono ?_); rintro e w12 ⟨rfl, hi, hb⟩; have n1_ := Aside0.mk hb; have n2_ := Aside0.mk hi; clear HB; clear HI0; have HB := n1_; have HI0 := n2_; clear n1_ n2_; (try clear hb); (try clear hi)))
          repeat (go_quiet (first | (go_at_call 24; (with_reducible refine (lex_letter.calls (bt s (i : Int)) false _ AL.out).mono ?_); rintro e w' ⟨rfl, ⟨nd, rfl⟩⟩; (try first | exact ⟨rfl, _, World.drewN_drewN _ _ _⟩ | exact ⟨rfl, _, Eq.trans (World.drewN_drewN _ _ _) (congrArg (World.drewN _) (Nat.add_assoc _ _ _))⟩)) | (go_at_call 29; (with_reducible refine (lex_digit.calls (bt s (i : Int)) false _ AD.out).mono ?_); rintro e w' ⟨rfl, ⟨nd, rfl⟩⟩; (try first | exact ⟨rfl, _, World.drewN_drewN _ _ _⟩ | exact ⟨rfl, _, Eq.trans (World.drewN_drewN _ _ _) (congrArg (World.drewN _) (Nat.add_assoc _ _ _))⟩)) | (go_at_call 32; (with_reducible refine (HC.out _ (by repeat (first | (with_reducible first | exact HI0.out | apply Rdr.alloc | apply Rdr.drewN | apply Rdr.drew | apply Rdr.set_0 | apply Rdr.set_1) | exact HI0.out)) (by repeat (first | (with_reducible first | exact HB.out | apply below_alloc | apply pw_below_drewN | apply below_drew1 | refine below_set ?_ (Rdr.ge HI0.out)) | exact HB.out))).mono ?_); rintro e w12 ⟨rfl, hi, hb⟩; have n1_ := Aside0.mk hb; have n2_ := Aside0.mk hi; clear HB; clear HI0; have HB := n1_; have HI0 := n2_; clear n1_ n2_; (try clear hb); (try clear hi))); try go_wp2_with (first | (go_at_call 24; (with_reducible refine (lex_letter.calls (bt s (i : Int)) false _ AL.out).mono ?_); rintro e w' ⟨rfl, ⟨nd, rfl⟩⟩; (try first | exact ⟨rfl, _, World.drewN_drewN _ _ _⟩ | exact ⟨rfl, _, Eq.trans (World.drewN_drewN _ _ _) (congrArg (World.drewN _) (Nat.add_assoc _ _ _))⟩)) | (go_at_call 29; (with_reducible refine (lex_digit.calls (bt s (i : Int)) false _ AD.out).mono ?_); rintro e w' ⟨rfl, ⟨nd, rfl⟩⟩; (try first | exact ⟨rfl, _, World.drewN_drewN _ _ _⟩ | exact ⟨rfl, _, Eq.trans (World.drewN_drewN _ _ _) (congrArg (World.drewN _) (Nat.add_assoc _ _ _))⟩)) | (go_at_call 32; (with_reducible refine (HC.out _ (by repeat (first | (with_reducible first | exact HI0.out | apply Rdr.alloc | apply Rdr.drewN | apply Rdr.drew | apply Rdr.set_0 | apply Rdr.set_1) | exact HI0.out)) (by repeat (first | (with_reducible first | exact HB.out | apply below_alloc | apply pw_below_drewN | apply below_drew1 | refine below_set ?_ (Rdr.ge HI0.out)) | exact HB.out))).mono ?_); rintro e w12 ⟨rfl, hi, hb⟩; have n1_ := Aside0.mk hb; have n2_ := Aside0.mk hi; clear HB; clear HI0; have HB := n1_; have HI0 := n2_; clear n1_ n2_; (try clear hb); (try clear hi))))
          try go_ret
          change P (Ending.returned (.bool false)) _
          rw [HP0.out]
          exact ⟨rfl, by repeat (first | (with_reducible first | exact HI0.out | apply Rdr.alloc | apply Rdr.drewN | apply Rdr.drew | apply Rdr.set_0 | apply Rdr.set_1) | exact HI0.out), by repeat (first | (with_reducible first | exact HB.out | apply below_alloc | apply pw_below_drewN | apply below_drew1 | refine below_set ?_ (Rdr.ge HI0.out)) | exact HB.out)⟩
end Go.Proofs.Ytmmjhdhgohfioaa.Gx
