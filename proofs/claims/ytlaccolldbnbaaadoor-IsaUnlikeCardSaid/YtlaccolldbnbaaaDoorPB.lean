/-
  PLAIN: a word says the instruction that has it; unlike instructions have unlike words and unlike texts.
-/
import Derived.Test.YtlaccolldbnbaaaDoorPD
import Derived.Test.YtlaccolldbnbaaaDoorPTX
namespace Go.Proofs.YtlaccolldbnbaaaDoor.Gx
open Go.RowKit Go.Proofs.YtlaccolldbnbaaaDoorW.PrintWords Go.Proofs.YtlaccolldbnbaaaDoorW.PrintLast
set_option linter.unusedVariables false
set_option linter.unusedSimpArgs false
theorem dec_word {op a b c m : Int} (h : (encS op a b c m).2 = 0) : decS (word op a b c m) = (op, a, b, c, m, 0) ∧ 0 ≤ word op a b c m ∧ word op a b c m ≤ 9223372036854775807 := by
  obtain ⟨n, u, i, e, hop, hu, h0, h1, ra, rb, rc, ri, hw⟩ := enc_ok h
  have ba := regOK_bound ra
  have bb := regOK_bound rb
  have bc := regOK_bound rc
  have bm := immOK_bound ri
  obtain ⟨W, hW⟩ : ∃ W, word op a b c m = W := ⟨_, rfl⟩
  have hW' := hW
  unfold word at hW'
  rw [hW] at hw ⊢
  obtain ⟨z, hz⟩ : ∃ z, m % 4294967296 = z := ⟨_, rfl⟩
  have z0 : 0 ≤ z ∧ z < 4294967296 := by omega
  rw [hz] at hW'
  have g1 : W / 72057594037927936 = op := by omega
  have g2 : W / 4503599627370496 % 16 = a := by omega
  have g3 : W / 281474976710656 % 16 = b := by omega
  have g4 : W / 17592186044416 % 16 = c := by omega
  have g5 : lowS W = m := by
    have : W % 4294967296 = z := by omega
    unfold lowS
    omega
  refine ⟨?_, by omega, by omega⟩
  unfold decS
  rw [g1, g2, g3, g4, g5, if_pos ⟨by omega, hw⟩]
theorem dec_back {v : Int} (h : (decS v).2.2.2.2.2 = 0) : 0 ≤ v ∧ encS (decS v).1 (decS v).2.1 (decS v).2.2.1 (decS v).2.2.2.1 (decS v).2.2.2.2.1 = (v, 0) := by
  unfold decS at h ⊢
  split
  · rename_i q
    exact q
  · rename_i q
    rw [if_neg q] at h
    exact absurd h (by decide)
theorem dec_no {v : Int} (h : (decS v).2.2.2.2.2 ≠ 0) : decS v = (0, 0, 0, 0, 0, 4) := by
  unfold decS at h ⊢
  split
  · rename_i q
    rw [if_pos q] at h
    exact absurd rfl h
  · rfl
theorem text_some {op a b c m : Int} (h : (encS op a b c m).2 = 0) : textS op a b c m ≠ [] := by
  obtain ⟨n, u, i, e, hop, hu, h0, h1, ra, rb, rc, ri, hw⟩ := enc_ok h
  obtain ⟨n', u', i', e', _, hne, _⟩ := name_len hop
  obtain ⟨rfl, rfl, rfl⟩ : n = n' ∧ u = u' ∧ i = i' := by rw [e] at e'; simpa using e'
  unfold textS
  rw [if_pos h, e]
  intro q
  exact hne (List.append_eq_nil_iff.1 q).1
/-! ### numerals are unlike -/
def val (l : List UInt8) : Nat := l.foldl (fun s x => s * 10 + (x.toNat - 48)) 0
theorem dig_nat {k : Nat} (h : k < 10) : (UInt8.ofNat (48 + k)).toNat = 48 + k := by
  rw [UInt8.toNat_ofNat']
  omega
theorem val_digits : ∀ (n : Nat), val (Lib.decDigits n) = n ∧ ∀ x ∈ Lib.decDigits n, 48 ≤ x.toNat ∧ x.toNat < 58 := by
  intro n
  induction n using Nat.strongRecOn with
  | _ n ih =>
    rw [Lib.decDigits]
    by_cases h : n < 10
    · rw [dif_pos h]
      refine ⟨?_, fun x hx => ?_⟩
      · unfold val
        rw [List.foldl_cons, List.foldl_nil, dig_nat h]
        omega
      · rw [List.mem_singleton] at hx
        rw [hx, dig_nat h]
        omega
    · rw [dif_neg h]
      obtain ⟨i1, i2⟩ := ih (n / 10) (by omega)
      have hm : n % 10 < 10 := by omega
      refine ⟨?_, fun x hx => ?_⟩
      · unfold val at i1 ⊢
        rw [List.foldl_append, i1, List.foldl_cons, List.foldl_nil, dig_nat hm]
        omega
      · rcases List.mem_append.1 hx with h1 | h1
        · exact i2 x h1
        · rw [List.mem_singleton] at h1
          rw [h1, dig_nat hm]
          omega
theorem digits_inj {m n : Nat} (h : Lib.decDigits m = Lib.decDigits n) : m = n := by rw [← (val_digits m).1, ← (val_digits n).1, h]
theorem itoa_mem {n : Int} {x : UInt8} (h : x ∈ Lib.itoa n) : x.toNat = 45 ∨ (48 ≤ x.toNat ∧ x.toNat < 58) := by
  unfold Lib.itoa at h
  split at h
  · rcases List.mem_cons.1 h with rfl | h
    · exact Or.inl rfl
    · exact Or.inr ((val_digits _).2 x h)
  · exact Or.inr ((val_digits _).2 x h)
theorem itoa_no32 (n : Int) : (32 : UInt8) ∉ Lib.itoa n := by
  intro h
  have := itoa_mem h
  have e : (32 : UInt8).toNat = 32 := rfl
  omega
theorem itoa_inj {m n : Int} (h : Lib.itoa m = Lib.itoa n) : m = n := by
  have bad : ∀ (k : Nat) (l : List UInt8), (45 : UInt8) :: l ≠ Lib.decDigits k := by
    intro k l q
    have := (val_digits k).2 45 (by rw [← q]; simp)
    have e : (45 : UInt8).toNat = 45 := rfl
    omega
  unfold Lib.itoa at h
  by_cases hm : m < 0
  · by_cases hn : n < 0
    · rw [if_pos hm, if_pos hn] at h
      have := digits_inj (List.cons.inj h).2
      omega
    · rw [if_pos hm, if_neg hn] at h
      exact absurd h (bad _ _)
  · by_cases hn : n < 0
    · rw [if_neg hm, if_pos hn] at h
      exact absurd h.symm (bad _ _)
    · rw [if_neg hm, if_neg hn] at h
      have := digits_inj h
      omega
/-! ### texts are unlike -/
def Sp (r : List UInt8) : Prop := r = [] ∨ ∃ t, r = 32 :: t
theorem split_sp : ∀ (x x' r r' : List UInt8), (32 : UInt8) ∉ x → (32 : UInt8) ∉ x' → Sp r → Sp r' → x ++ r = x' ++ r' → x = x' ∧ r = r'
  | [], [], r, r', _, _, _, _, h => ⟨rfl, h⟩
  | [], y :: ys, r, r', _, h2, hr, _, h => by
    rcases hr with rfl | ⟨t, rfl⟩
    · cases h
    · simp only [List.nil_append, List.cons_append, List.cons.injEq] at h
      exact absurd (by rw [← h.1]; simp) h2
  | y :: ys, [], r, r', h1, _, _, hr, h => by
    rcases hr with rfl | ⟨t, rfl⟩
    · cases h
    · simp only [List.nil_append, List.cons_append, List.cons.injEq] at h
      exact absurd (by rw [h.1]; simp) h1
  | y :: ys, z :: zs, r, r', h1, h2, hr, hr', h => by
    simp only [List.cons_append, List.cons.injEq] at h
    obtain ⟨e1, e2⟩ := split_sp ys zs r r' (fun q => h1 (by simp [q])) (fun q => h2 (by simp [q])) hr hr' h.2
    exact ⟨by rw [h.1, e1], e2⟩
theorem Sp.app {x r : List UInt8} (hx : Sp x) (hr : Sp r) : Sp (x ++ r) := by
  rcases hx with rfl | ⟨t, rfl⟩
  · exact hr
  · exact Or.inr ⟨t ++ r, rfl⟩
theorem sp1 (u a : Int) : Sp (tail1 u a) := by unfold tail1; split <;> first | exact Or.inl rfl | exact Or.inr ⟨_, rfl⟩
theorem sp2 (u a : Int) : Sp (tail2 u a) := by unfold tail2; split <;> first | exact Or.inl rfl | exact Or.inr ⟨_, rfl⟩
theorem sp3 (u a : Int) : Sp (tail3 u a) := by unfold tail3; split <;> first | exact Or.inl rfl | exact Or.inr ⟨_, rfl⟩
theorem sp4 (i : Bool) (a : Int) : Sp (tail4 i a) := by unfold tail4; split <;> first | exact Or.inl rfl | exact Or.inr ⟨_, rfl⟩
theorem seg {h : Prop} [Decidable h] (x y : Int) (r r' : List UInt8) (hr : Sp r) (hr' : Sp r')
    (e : (if h then (32 : UInt8) :: 114 :: Lib.itoa x else []) ++ r = (if h then (32 : UInt8) :: 114 :: Lib.itoa y else []) ++ r') : (h → x = y) ∧ r = r' := by
  by_cases hh : h
  · rw [if_pos hh, if_pos hh] at e
    simp only [List.cons_append, List.cons.injEq, true_and] at e
    obtain ⟨e1, e2⟩ := split_sp _ _ r r' (itoa_no32 x) (itoa_no32 y) hr hr' e
    exact ⟨fun _ => itoa_inj e1, e2⟩
  · rw [if_neg hh, if_neg hh] at e
    exact ⟨fun q => absurd q hh, e⟩
def opList : List Int := [0, 1, 2, 3, 4, 5, 6, 7, 8, 9, 10, 11, 12, 13, 14, 15, 17, 18, 19, 20, 21, 22, 23, 24, 25, 26, 27, 28, 29, 30, 31, 32, 41, 42, 43]
theorem names_apart : (opList.all fun p => opList.all fun q => ((isa_of.f p).map (·.1.data.toList) != (isa_of.f q).map (·.1.data.toList)) || p == q) = true := by kernel_rfl
theorem name_inj {p q : Int} (hp : OpIs p) (hq : OpIs q) (h : (isa_of.f p).map (·.1.data.toList) = (isa_of.f q).map (·.1.data.toList)) : p = q := by
  have h1 := List.all_eq_true.1 names_apart p hp.cases
  have h2 := List.all_eq_true.1 h1 q hq.cases
  simpa [h] using h2
theorem regOK_zero {a : Int} (h : regOK false a = true) : a = 0 := by
  unfold regOK at h
  simpa using h
theorem text_inj {op a b c m op' a' b' c' m' : Int} (h : (encS op a b c m).2 = 0) (h' : (encS op' a' b' c' m').2 = 0) (e : textS op a b c m = textS op' a' b' c' m') :
    op = op' ∧ a = a' ∧ b = b' ∧ c = c' ∧ m = m' := by
  obtain ⟨n, u, i, o, hop, hu, _, _, ra, rb, rc, ri, _⟩ := enc_ok h
  obtain ⟨n1, u1, i1, o1, _, _, hn⟩ := name_len hop
  obtain ⟨rfl, rfl, rfl⟩ : n = n1 ∧ u = u1 ∧ i = i1 := by rw [o] at o1; simpa using o1
  obtain ⟨n', u', i', o', hop', _, _, _, ra', rb', rc', ri', _⟩ := enc_ok h'
  obtain ⟨n2, u2, i2, o2, _, _, hn'⟩ := name_len hop'
  obtain ⟨rfl, rfl, rfl⟩ : n' = n2 ∧ u' = u2 ∧ i' = i2 := by rw [o'] at o2; simpa using o2
  unfold textS at e
  rw [if_pos h, if_pos h', o, o'] at e
  simp only at e
  obtain ⟨en, e2⟩ := split_sp _ _ _ _ hn hn' ((sp1 u a).app ((sp2 u b).app ((sp3 u c).app (sp4 i m)))) ((sp1 u' a').app ((sp2 u' b').app ((sp3 u' c').app (sp4 i' m')))) e
  obtain rfl : op = op' := name_inj hop hop' (by rw [o, o']; simp [en])
  obtain ⟨rfl, rfl, rfl⟩ : n = n' ∧ u = u' ∧ i = i' := by rw [o] at o'; simpa using o'
  obtain ⟨qa, e3⟩ := seg (h := u % 2 = 1) a a' _ _ ((sp2 u b).app ((sp3 u c).app (sp4 i m))) ((sp2 u b').app ((sp3 u c').app (sp4 i m'))) e2
  obtain ⟨qb, e4⟩ := seg (h := u / 2 % 2 = 1) b b' _ _ ((sp3 u c).app (sp4 i m)) ((sp3 u c').app (sp4 i m')) e3
  obtain ⟨qc, e5⟩ := seg (h := 4 ≤ u) c c' _ _ (sp4 i m) (sp4 i m') e4
  refine ⟨rfl, ?_, ?_, ?_, ?_⟩
  · by_cases q : u % 2 = 1
    · exact qa q
    · have z : (u % 2 == 1) = false := by simpa using q
      rw [z] at ra ra'
      rw [regOK_zero ra, regOK_zero ra']
  · by_cases q : u / 2 % 2 = 1
    · exact qb q
    · have z : (u / 2 % 2 == 1) = false := by simpa using q
      rw [z] at rb rb'
      rw [regOK_zero rb, regOK_zero rb']
  · by_cases q : 4 ≤ u
    · exact qc q
    · have z : decide (4 ≤ u) = false := by simpa using q
      rw [z] at rc rc'
      rw [regOK_zero rc, regOK_zero rc']
  · cases i with
    | true =>
      simp only [tail4, if_true, List.cons.injEq, true_and] at e5
      exact itoa_inj e5
    | false =>
      have z : m = 0 := by simpa [immOK] using ri
      have z' : m' = 0 := by simpa [immOK] using ri'
      rw [z, z']
theorem word_inj {op a b c m op' a' b' c' m' : Int} (h : (encS op a b c m).2 = 0) (h' : (encS op' a' b' c' m').2 = 0) (e : word op a b c m = word op' a' b' c' m') :
    op = op' ∧ a = a' ∧ b = b' ∧ c = c' ∧ m = m' := by
  have q := (dec_word h).1
  have q' := (dec_word h').1
  rw [e, q'] at q
  simp only [Prod.mk.injEq, and_true] at q
  obtain ⟨q1, q2, q3, q4, q5⟩ := q
  exact ⟨q1.symm, q2.symm, q3.symm, q4.symm, q5.symm⟩
end Go.Proofs.YtlaccolldbnbaaaDoor.Gx
