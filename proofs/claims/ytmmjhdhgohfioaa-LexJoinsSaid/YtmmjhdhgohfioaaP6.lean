/-
  PLAIN: the law LexJoins.
-/
import Derived.Test.YtmmjhdhgohfioaaD5
import Derived.Test.YtmmjhdhgohfioaaM9
import Derived.Test.YtmmjhdhgohfioaaPA
namespace Go.Proofs.Ytmmjhdhgohfioaa.Gx
open Go.RowKit Go.Proofs.YtmmjhdhgohfioaaW.PrintWords Go.Proofs.YtmmjhdhgohfioaaW.PrintLast
set_option linter.unusedVariables false
set_option linter.unusedSimpArgs false

/-! ### a new line behind a text -/
theorem nl_head (r t : List UInt8) : (r ++ 10 :: t).head? = some 47 ↔ r.head? = some 47 := by
  cases r with
  | nil => simp
  | cons d q => simp
def afterNl (t : List UInt8) : List UInt8 → List UInt8
  | [] => skipB false t
  | c :: r => c :: r ++ 10 :: t
theorem skip_nl (t : List UInt8) : ∀ (b : Bool) (l : List UInt8), skipB b (l ++ 10 :: t) = afterNl t (skipB b l)
  | b, [] => by
    cases b
    · simp only [List.nil_append, skipB]
      rw [if_pos (by decide)]
      rfl
    · simp only [List.nil_append, skipB]
      rw [if_pos trivial]
      rfl
  | true, c :: r => by
    have h1 := skip_nl t false r
    have h2 := skip_nl t true r
    rw [List.cons_append, skipB, skipB]
    by_cases hc : c = 10
    · rw [if_pos hc, if_pos hc]; exact h1
    · rw [if_neg hc, if_neg hc]; exact h2
  | false, c :: r => by
    have h1 := skip_nl t false r
    have h2 := skip_nl t true r
    rw [List.cons_append, skipB, skipB]
    by_cases hb : isBlank c = true
    · rw [if_pos hb, if_pos hb]; exact h1
    · rw [if_neg hb, if_neg hb]
      by_cases hr : c = 47 ∧ r.head? = some 47
      · rw [if_pos hr, if_pos ⟨hr.1, (nl_head r t).2 hr.2⟩]; exact h2
      · rw [if_neg hr, if_neg (fun h => hr ⟨h.1, (nl_head r t).1 h.2⟩)]
        rfl
theorem tw_nl (t : List UInt8) : ∀ l : List UInt8, (l ++ 10 :: t).takeWhile isAlnum = l.takeWhile isAlnum
  | [] => by
    rw [List.nil_append, List.takeWhile_cons, if_neg (by decide)]
    rfl
  | c :: r => by
    rw [List.cons_append, List.takeWhile_cons, List.takeWhile_cons, tw_nl t r]
theorem strVal_nl (t : List UInt8) : ∀ (n : Nat) (l : List UInt8), l.length ≤ n → strVal (l ++ 10 :: t) = strVal l := by
  intro n
  induction n with
  | zero =>
    intro l hl
    match l, hl with
    | [], _ =>
      rw [List.nil_append, strVal_cons, if_neg (by decide), if_pos (by decide)]
      rfl
  | succ n ih =>
    intro l hl
    cases l with
    | nil =>
      rw [List.nil_append, strVal_cons, if_neg (by decide), if_pos (by decide)]
      rfl
    | cons c r =>
      rw [List.cons_append, strVal_cons, strVal_cons]
      by_cases c34 : c = 34
      · rw [if_pos c34, if_pos c34]
      rw [if_neg c34, if_neg c34]
      by_cases hx : c < 32 ∨ 126 < c
      · rw [if_pos hx, if_pos hx]
      rw [if_neg hx, if_neg hx]
      by_cases c92 : c = 92
      · rw [if_pos c92, if_pos c92]
        cases r with
        | nil =>
          simp only [List.nil_append]
          rw [if_neg (by decide), if_neg (by decide)]
        | cons d q =>
          simp only [List.cons_append]
          rw [ih q (by simp at hl; omega)]
      · rw [if_neg c92, if_neg c92, ih r (by simp at hl; omega)]
theorem doubles_nl : ∀ c : UInt8, doubles.contains [c, 10] = false := by
  intro c
  rw [Bool.eq_false_iff]
  intro h
  have h := List.contains_iff_mem.1 h
  simp only [doubles, List.mem_cons, List.not_mem_nil, or_false, List.cons.injEq, and_true] at h
  have h10 : ∀ x : UInt8, (10 : UInt8) = x → x = 10 := fun x e => e.symm
  rcases h with h | h | h | h | h | h | h <;> exact absurd h.2 (by decide)
theorem doubles_one : ∀ c : UInt8, doubles.contains [c] = false := by
  intro c
  rw [Bool.eq_false_iff]
  intro h
  have h := List.contains_iff_mem.1 h
  simp [doubles] at h
theorem tok_nl (t : List UInt8) (c : UInt8) (r : List UInt8) : tok (c :: r ++ 10 :: t) = tok (c :: r) := by
  have tw := tw_nl t (c :: r)
  rw [List.cons_append] at tw ⊢
  rw [tok, tok]
  unfold wordTok numTok strTok signTok
  simp only [tw, strVal_nl t r.length r (Nat.le_refl _)]
  split
  · rfl
  · split
    · rfl
    · split
      · rfl
      · cases r with
        | nil =>
          simp only [List.nil_append, List.take_succ_cons, List.take_zero, List.take_nil, doubles_nl, doubles_one]
          rfl
        | cons d q =>
          simp only [List.cons_append, List.take_succ_cons, List.take_zero]
          rfl
theorem toks_fuel : ∀ (f g : Nat) (l : List UInt8), l.length < f → l.length < g → toks f l = toks g l
  | 0, g, l, h, _ => absurd h (by omega)
  | f + 1, 0, l, _, h => absurd h (by omega)
  | f + 1, g + 1, l, hf, hg => by
    have hle := skipB_le false l
    rw [toks, toks]
    cases hx : skipB false l with
    | nil => rfl
    | cons c r =>
      simp only
      cases ht : tok (c :: r) with
      | none => rfl
      | some t =>
        obtain ⟨b1, b2⟩ := tok_len ht
        rw [hx] at hle
        have hd : ((c :: r).drop t.len).length < f ∧ ((c :: r).drop t.len).length < g := by
          rw [List.length_drop]
          simp only [List.length_cons] at hle b2 ⊢
          omega
        simp only [toks_fuel f g _ hd.1 hd.2]
/-- A token of the first text, as it stands in the whole. -/
def sh (n : Nat) (x : Tk × Nat) : Tk × Nat := (x.1, x.2 + n)
def joined (t : List UInt8) : List (Tk × Nat) × Option Nat → List (Tk × Nat) × Option Nat
  | (ts, none) => (ts.map (sh (t.length + 1)) ++ (toks (t.length + 1) t).1, (toks (t.length + 1) t).2)
  | (ts, some m) => (ts.map (sh (t.length + 1)), some (m + (t.length + 1)))
theorem toks_nl (t : List UInt8) : ∀ (f g : Nat) (l : List UInt8), l.length < f → (l ++ 10 :: t).length < g →
    toks g (l ++ 10 :: t) = joined t (toks f l)
  | 0, g, l, h, _ => absurd h (by omega)
  | f + 1, 0, l, _, h => absurd h (by omega)
  | f + 1, g + 1, l, hf, hg => by
    have hle := skipB_le false l
    have hs := skip_nl t false l
    rw [toks.eq_2 (f := f), toks]
    cases hx : skipB false l with
    | nil =>
      rw [hx] at hs
      simp only [afterNl] at hs
      rw [hs]
      simp only [joined, List.map_nil, List.nil_append]
      have h2 : toks (g + 1) t = toks (t.length + 1) t := toks_fuel _ _ t (by rw [List.length_append, List.length_cons] at hg; omega) (by omega)
      rw [← h2, toks]
    | cons c r =>
      rw [hx] at hs hle
      simp only [afterNl] at hs
      rw [hs, List.cons_append]
      simp only
      rw [← List.cons_append, tok_nl]
      cases ht : tok (c :: r) with
      | none =>
        simp only [joined, List.map_nil, List.length_append, List.length_cons]
        congr 2
        omega
      | some k =>
        obtain ⟨b1, b2⟩ := tok_len ht
        have hdr : (c :: r ++ 10 :: t).drop k.len = (c :: r).drop k.len ++ 10 :: t := List.drop_append_of_le_length b2
        have h1 : ((c :: r).drop k.len).length < f := by
          rw [List.length_drop]
          simp only [List.length_cons] at hle b2 ⊢
          omega
        have h3 : ((c :: r).drop k.len ++ 10 :: t).length < g := by
          rw [List.length_append, List.length_drop]
          rw [List.length_append] at hg
          simp only [List.length_cons] at hle b2 hg ⊢
          omega
        have ih := toks_nl t f g ((c :: r).drop k.len) h1 h3
        simp only
        rw [hdr, ih]
        cases hy : toks f ((c :: r).drop k.len) with
        | mk ts o =>
          have e : (k, (r ++ 10 :: t).length + 1) = sh (t.length + 1) (k, r.length + 1) := by
            simp only [sh, List.length_append, List.length_cons]
            congr 1
            omega
          cases o with
          | none => simp [joined, sh]; omega
          | some m => simp [joined, sh]; omega

theorem toks_left : ∀ (f : Nat) (l : List UInt8), (∀ x ∈ (toks f l).1, x.2 ≤ l.length) ∧ (∀ m, (toks f l).2 = some m → m ≤ l.length) ∧ (toks f l).1.length ≤ f
  | 0, l => by
    refine ⟨fun x hx => by simp [toks] at hx, fun m hm => ?_, by simp [toks]⟩
    simp only [toks, Option.some.injEq] at hm
    omega
  | f + 1, l => by
    have hle := skipB_le false l
    rw [toks]
    cases hx : skipB false l with
    | nil => exact ⟨fun x hx => by simp at hx, fun m hm => by simp at hm, by simp⟩
    | cons c r =>
      rw [hx] at hle
      simp only
      cases ht : tok (c :: r) with
      | none =>
        refine ⟨fun x hx => by simp at hx, fun m hm => ?_, by simp⟩
        simp only [Option.some.injEq] at hm
        simp only [List.length_cons] at hle
        omega
      | some k =>
        obtain ⟨h1, h2, h3⟩ := toks_left f ((c :: r).drop k.len)
        have hd : ((c :: r).drop k.len).length ≤ l.length := by rw [List.length_drop]; omega
        refine ⟨fun x hx => ?_, fun m hm => Nat.le_trans (h2 m hm) hd, by simp only [List.length_cons]; exact Nat.succ_le_succ h3⟩
        simp only [List.mem_cons] at hx
        rcases hx with rfl | hx
        · simp only [List.length_cons] at hle ⊢
          exact hle
        · exact Nat.le_trans (h1 x hx) hd

/-! ### the walk over the tokens -/
def shift (n : Nat) (x : S31) : S31 := ⟨x.f0, x.f1, x.f2, x.f3 + n + 1⟩
theorem rd_left (P Q R : List S31) (i : Nat) (h : i < P.length) : rd_T31 (P ++ Q) (i : Int) = rd_T31 (P ++ R) (i : Int) := by
  simp [rd_T31, List.getElem?_append_left h]
theorem rd_right (P B : List S31) (n : Nat) (j : Nat) (h : j < B.length) : rd_T31 (P ++ B.map (shift n)) ((P.length + j : Nat) : Int) = shift n (rd_T31 B (j : Int)) := by
  simp only [rd_T31, Int.toNat_natCast]
  simp [h]
theorem joins_go (s : ByteArray) (hs : s.size ≤ 4000) (P B : List S31) (e : S31) (hP : P.length ≤ 9000) (hB : B.length ≤ 9000) (hf : ∀ x ∈ B, -1 ≤ x.f3 ∧ x.f3 ≤ 9000) : ∀ (n i k : Nat), i + n = P.length + B.length → n + 1 ≤ k →
    mortiselaw4_LexJoins.l0 k s (P ++ [e]) B (P ++ B.map (shift s.size)) (i : Int) = some true
  | 0, i, k, h, hk => by
    obtain ⟨k, rfl⟩ : ∃ m, k = m + 1 := ⟨k - 1, by omega⟩
    have hlen : (P ++ B.map (shift s.size)).length = P.length + B.length := by simp
    rw [mortiselaw4_LexJoins.l0, hlen, if_neg (by omega), awake_eq]
    rfl
  | n + 1, i, k, h, hk => by
    obtain ⟨k, rfl⟩ : ∃ m, k = m + 1 := ⟨k - 1, by omega⟩
    have hlen : (P ++ B.map (shift s.size)).length = P.length + B.length := by simp
    have hlA : (P ++ [e]).length = P.length + 1 := by simp
    have ih := joins_go s hs P B e hP hB hf n (i + 1) k (by omega) (by omega)
    have w1 : wrap64 (((P.length + 1 : Nat) : Int) - 1) = ((P.length : Nat) : Int) := by rw [w64 (by omega) (by omega)]; omega
    have wi : wrap64 ((i : Int) + 1) = ((i + 1 : Nat) : Int) := by
      clear w1
      rw [w64 (by omega) (by omega)]; omega
    rw [mortiselaw4_LexJoins.l0, hlen, hlA, w1, wi]
    clear w1 wi
    rw [if_pos (by omega)]
    by_cases hi : i < P.length
    · rw [if_pos (by omega), if_pos (by omega), if_pos (by omega), rd_left P (B.map (shift s.size)) [e] i hi, if_neg (by simp)]
      exact ih
    · obtain ⟨j, rfl⟩ : ∃ j, i = P.length + j := ⟨i - P.length, by omega⟩
      have hj : j < B.length := by omega
      have w2 : wrap64 (((P.length + j : Nat) : Int) - ((P.length + 1 : Nat) : Int)) = (j : Int) - 1 := by rw [w64 (by omega) (by omega)]; omega
      rw [w2]
      clear w2
      have w3 : wrap64 ((j : Int) - 1 + 1) = (j : Int) := by rw [w64 (by omega) (by omega)]; omega
      rw [w3]
      clear w3
      have hx : -1 ≤ (rd_T31 B (j : Int)).f3 ∧ (rd_T31 B (j : Int)).f3 ≤ 9000 := by
        refine hf _ ?_
        simp only [rd_T31, Int.toNat_natCast, List.getD_eq_getElem?_getD, List.getElem?_eq_getElem hj, Option.getD_some]
        exact List.getElem_mem hj
      have w4 : wrap64 ((rd_T31 B (j : Int)).f3 + (s.size : Int)) = (rd_T31 B (j : Int)).f3 + (s.size : Int) := w64 (by omega) (by omega)
      rw [w4]
      clear w4
      have w5 : wrap64 ((rd_T31 B (j : Int)).f3 + (s.size : Int) + 1) = (rd_T31 B (j : Int)).f3 + (s.size : Int) + 1 := w64 (by omega) (by omega)
      rw [w5]
      clear w5
      rw [if_neg (by omega), if_pos (by omega), if_pos (by omega), if_pos (by omega), rd_right P B s.size j hj, if_neg (by simp [shift])]
      exact ih
/-- The lexer over a list. -/
def lexL (l : List UInt8) : List S31 × Int × Int := match toks (l.length + 1) l with
  | (ts, none) => (ts.map (place l.length) ++ [⟨0, ofL [], 0, l.length⟩], 0, 0)
  | (_, some m) => ([], (l.length : Int) - m, 5)
theorem lexSpec_lexL (s : ByteArray) (hs : s.size ≤ 8192) : lexSpec s = lexL s.data.toList := by
  unfold lexSpec lexL
  rw [if_neg (by omega), data_length]
  rcases toks (s.size + 1) s.data.toList with ⟨ts, _ | m⟩ <;> rfl
theorem joins_data (s t : ByteArray) : (s ++ (⟨#[10]⟩ : ByteArray) ++ t).data.toList = s.data.toList ++ 10 :: t.data.toList := by
  rw [ByteArray.data_append, ByteArray.data_append, Array.toList_append, Array.toList_append]
  simp
theorem LexJoins_eq (s t : ByteArray) (k : Nat) (hk : 20000 ≤ k) : mortiselaw4_LexJoins.f k s t = some true := by
  obtain ⟨k, rfl⟩ : ∃ m, k = m + 2 := ⟨k - 2, by omega⟩
  have hlong : mortiselaw4_LexJoins.j0 (k + 2) s t true = some true := by
    rw [mortiselaw4_LexJoins.j0, if_pos rfl, awake_eq]
    rfl
  unfold mortiselaw4_LexJoins.f
  by_cases h1 : (s.size : Int) > 4000
  · rw [if_pos h1]; exact hlong
  rw [if_neg h1]
  by_cases h2 : (t.size : Int) > 4000
  · rw [decide_eq_true h2]; exact hlong
  rw [decide_eq_false h2, mortiselaw4_LexJoins.j0, if_neg (by simp)]
  have hs : s.size ≤ 4000 := by omega
  have ht : t.size ≤ 4000 := by omega
  clear h1 h2 hlong
  have hS := data_length s
  have hT := data_length t
  have hU := data_length (s ++ (⟨#[10]⟩ : ByteArray) ++ t)
  rw [joins_data, List.length_append, List.length_cons, hS, hT] at hU
  have hV : (s ++ (⟨#[10]⟩ : ByteArray)).size = s.size + 1 := by
    rw [← data_length, ByteArray.data_append, Array.toList_append, List.length_append, data_length]
    rfl
  unfold lex_Lex.f mortiselaw4_num.f
  simp only [Option.bind_some]
  rw [hV, if_pos (Nat.le_trans (m := 8192) (by omega) (by decide)), if_pos (Nat.le_trans (m := 8192) (by omega) (by decide))]
  rw [lexSpec_lexL s (by omega), lexSpec_lexL t (by omega), lexSpec_lexL (s ++ (⟨#[10]⟩ : ByteArray) ++ t) (by omega), joins_data]
  obtain ⟨S, hSe⟩ : ∃ S, S = s.data.toList := ⟨_, rfl⟩
  obtain ⟨T, hTe⟩ : ∃ T, T = t.data.toList := ⟨_, rfl⟩
  rw [← hSe, ← hTe]
  rw [← hSe] at hS
  rw [← hTe] at hT
  have hST : (S ++ 10 :: T).length = S.length + 1 + T.length := by simp; omega
  have hj := toks_nl T (S.length + 1) ((S ++ 10 :: T).length + 1) S (by omega) (by omega)
  obtain ⟨a1, a2, a3⟩ := toks_left (S.length + 1) S
  obtain ⟨b1, b2, b3⟩ := toks_left (T.length + 1) T
  unfold lexL
  rw [hj]
  rcases hx : toks (S.length + 1) S with ⟨ts, o⟩
  rw [hx] at a1 a2 a3
  cases o with
  | some m =>
    have := a2 m rfl
    simp only [joined]
    have hc : ((S ++ 10 :: T).length : Int) - ((m + (T.length + 1) : Nat) : Int) = (S.length : Int) - (m : Int) := by rw [hST]; omega
    rw [if_neg (by decide), if_pos trivial, awake_eq]
    simp only [hc, if_true]
    rfl
  | none =>
    rcases hy : toks (T.length + 1) T with ⟨us, o⟩
    rw [hy] at b1 b2 b3
    cases o with
    | some m =>
      have := b2 m rfl
      have w1 : wrap64 (((T.length : Int) - m) + (s.size : Int)) = ((T.length : Int) - m) + (s.size : Int) := w64 (by omega) (by omega)
      simp only [joined, hy]
      rw [if_pos trivial, if_neg (by decide), if_pos trivial, w1]
      clear w1
      have w2 : wrap64 ((((T.length : Int) - m) + (s.size : Int)) + 1) = (((T.length : Int) - m) + (s.size : Int)) + 1 := w64 (by omega) (by omega)
      rw [w2]
      clear w2
      have hc : ((S ++ 10 :: T).length : Int) - (m : Int) = (((T.length : Int) - m) + (s.size : Int)) + 1 := by rw [hST]; omega
      rw [awake_eq]
      simp only [hc, if_true]
      rfl
    | none =>
      simp only [joined, hy]
      rw [if_pos trivial, if_pos trivial, if_pos trivial]
      obtain ⟨B, hB⟩ : ∃ B, B = us.map (place T.length) ++ [(⟨0, ofL [], 0, (T.length : Int)⟩ : S31)] := ⟨_, rfl⟩
      obtain ⟨P, hP⟩ : ∃ P, P = ts.map (place S.length) := ⟨_, rfl⟩
      have e1 : (ts.map (sh (T.length + 1)) ++ us).map (place (S ++ 10 :: T).length) ++ [(⟨0, ofL [], 0, ((S ++ 10 :: T).length : Int)⟩ : S31)] = P ++ B.map (shift s.size) := by
        rw [hP, hB, hST, List.map_append, List.map_append, List.map_map, List.map_map, List.append_assoc]
        congr 1
        · refine List.map_congr_left (fun x hx => ?_)
          simp only [Function.comp, sh, place]
          congr 1
          omega
        · congr 1
          · refine List.map_congr_left (fun x hx => ?_)
            simp only [Function.comp, shift, place]
            congr 1
            omega
          · simp only [List.map_cons, List.map_nil, shift]
            congr 2
            omega
      rw [e1, ← hP, ← hB]
      have lP : P.length ≤ 4001 := by rw [hP, List.length_map]; simp only at a3; omega
      have lB : B.length ≤ 4002 := by rw [hB, List.length_append, List.length_map]; simp only [List.length_cons, List.length_nil] at b3 ⊢; omega
      have hlen : (P ++ B.map (shift s.size)).length = P.length + B.length := by simp
      have hlA : (P ++ [(⟨0, ofL [], 0, (S.length : Int)⟩ : S31)]).length = P.length + 1 := by simp
      have hfB : ∀ x ∈ B, -1 ≤ x.f3 ∧ x.f3 ≤ 9000 := by
        intro x hx
        rw [hB, List.mem_append, List.mem_map] at hx
        rcases hx with ⟨y, hy, rfl⟩ | hx
        · have := b1 y hy
          simp only [place]
          omega
        · simp only [List.mem_cons, List.not_mem_nil, or_false] at hx
          subst hx
          simp only
          omega
      have w1 : wrap64 (((P.length + 1 : Nat) : Int) + ((B.length : Nat) : Int)) = ((P.length + 1 + B.length : Nat) : Int) := by rw [w64 (by omega) (by omega)]; omega
      rw [hlen, hlA, w1]
      clear w1
      have w2 : wrap64 (((P.length + 1 + B.length : Nat) : Int) - 1) = ((P.length + B.length : Nat) : Int) := by rw [w64 (by omega) (by omega)]; omega
      rw [w2, show (((P.length + B.length : Nat) : Int) != ((P.length + B.length : Nat) : Int)) = false from bne_self_eq_false _]
      clear w2
      rw [mortiselaw4_LexJoins.j1, if_neg (by simp)]
      exact joins_go s hs P B _ (by omega) (by omega) hfB (P.length + B.length) 0 k (by omega) (by omega)
end Go.Proofs.Ytmmjhdhgohfioaa.Gx
namespace Go.Proofs.Ytmmjhdhgohfioaa.Pure
open Go.RowKit Go.Proofs.Ytmmjhdhgohfioaa.Gx Go.Proofs.YtmmjhdhgohfioaaW.PrintWords Go.Proofs.YtmmjhdhgohfioaaW.PrintLast
theorem LexJoins : mortiselaw4_LexJoins.Pure := fun s t _ _ => ⟨20000, LexJoins_eq s t 20000 (Nat.le_refl _)⟩
end Go.Proofs.Ytmmjhdhgohfioaa.Pure
