/-
  PLAIN: the law LexStrings.
-/
import Derived.Test.YtmmjhdhgohfioaaD8
import Derived.Test.YtmmjhdhgohfioaaPT
import Derived.Test.YtmmjhdhgohfioaaPA
namespace Go.Proofs.Ytmmjhdhgohfioaa.Gx
open Go.RowKit Go.Proofs.YtmmjhdhgohfioaaW.PrintWords Go.Proofs.YtmmjhdhgohfioaaW.PrintLast
set_option linter.unusedVariables false
set_option linter.unusedSimpArgs false
/-- How a byte is written in a string, and what it says. -/
def encB (c : UInt8) : List UInt8 := if c = 10 then [92, 110] else if c = 34 ∨ c = 92 then [92, c] else if c < 32 ∨ 126 < c then [120] else [c]
def wntB (c : UInt8) : UInt8 := if c = 10 ∨ c = 34 ∨ c = 92 then c else if c < 32 ∨ 126 < c then 120 else c
def encL (l : List UInt8) : List UInt8 := l.flatMap encB
theorem encB_len (c : UInt8) : 1 ≤ (encB c).length ∧ (encB c).length ≤ 2 := by
  unfold encB
  repeat' split
  all_goals simp
theorem encL_len : ∀ l : List UInt8, (encL l).length ≤ 2 * l.length
  | [] => by simp [encL]
  | c :: r => by
    have h1 := encL_len r
    have h2 := encB_len c
    unfold encL at *
    rw [List.flatMap_cons, List.length_append, List.length_cons]
    omega
theorem strVal_enc (c : UInt8) (r : List UInt8) : strVal (encB c ++ r) = (strVal r).map fun x => (wntB c :: x.1, x.2 + (encB c).length) := by
  unfold encB wntB
  by_cases h10 : c = 10
  · subst h10
    rw [if_pos rfl, if_pos (show (10 : UInt8) = 10 ∨ (10 : UInt8) = 34 ∨ (10 : UInt8) = 92 from .inl rfl), List.cons_append, List.cons_append, List.nil_append, strVal_cons]
    rw [if_neg (by decide), if_neg (by decide), if_pos rfl]
    simp only
    rw [if_pos trivial]
    rfl
  rw [if_neg h10]
  by_cases h34 : c = 34 ∨ c = 92
  · rw [if_pos h34, if_pos (show c = 10 ∨ c = 34 ∨ c = 92 from .inr h34), List.cons_append, List.cons_append, List.nil_append, strVal_cons]
    rw [if_neg (by decide), if_neg (by decide), if_pos rfl]
    simp only
    rw [if_neg (by rcases h34 with rfl | rfl <;> decide), if_pos h34]
    rfl
  rw [if_neg h34, if_neg (show ¬ (c = 10 ∨ c = 34 ∨ c = 92) from fun h => h.elim h10 h34)]
  by_cases hx : c < 32 ∨ 126 < c
  · rw [if_pos hx, if_pos hx, List.cons_append, List.nil_append, strVal_cons]
    rw [if_neg (by decide), if_neg (by decide), if_neg (by decide)]
    rfl
  · rw [if_neg hx, if_neg hx, List.cons_append, List.nil_append, strVal_cons]
    rw [if_neg (fun h => h34 (.inl h)), if_neg hx, if_neg (fun h => h34 (.inr h))]
    rfl
theorem strVal_encL : ∀ l r : List UInt8, strVal (encL l ++ r) = (strVal r).map fun x => (l.map wntB ++ x.1, x.2 + (encL l).length)
  | [], r => by
    simp [encL]
  | c :: q, r => by
    have ih := strVal_encL q r
    have e : encL (c :: q) = encB c ++ encL q := by simp [encL]
    rw [e, List.append_assoc, strVal_enc, ih]
    cases strVal r with
    | none => rfl
    | some x =>
      simp only [Option.map_some, List.map_cons, List.cons_append, List.length_append]
      rw [show x.2 + (encL q).length + (encB c).length = x.2 + ((encB c).length + (encL q).length) by omega]
theorem tok_quote (r : List UInt8) : tok (34 :: r) = strTok r := by
  rw [tok, if_neg (by decide), if_neg (by decide), if_pos rfl]
theorem str_closed (l : List UInt8) (hl : l.length ≤ 200) : lexSpec (ofL (34 :: encL l ++ [34])) = if l.length ≤ 100 then ([⟨4, ofL (l.map wntB), 0, 0⟩, ⟨0, ofL [], 0, (((34 :: encL l ++ [34]).length : Nat) : Int)⟩], 0, 0) else ([], 0, 5) := by
  have h1 := encL_len l
  have hv : strVal (encL l ++ [34]) = some (l.map wntB, 1 + (encL l).length) := by
    rw [strVal_encL]
    rw [show strVal [34] = some ([], 1) from rfl]
    simp
  have hlen : (34 :: (encL l ++ [34])).length ≤ 8192 := by simp; omega
  have ht : tok (34 :: (encL l ++ [34])) = if l.length ≤ 100 then some ⟨4, l.map wntB, 0, 1 + (encL l).length + 1⟩ else none := by
    rw [tok_quote]
    unfold strTok
    rw [hv]
    simp only [Option.bind_some, List.length_map]
  rw [List.cons_append]
  by_cases h : l.length ≤ 100
  · rw [if_pos h] at ht ⊢
    exact lexSpec_one 34 _ _ hlen (skip_stay _ _ (by decide) (by decide)) ht (by simp; omega)
  · rw [if_neg h] at ht ⊢
    exact lexSpec_bad 34 _ hlen (skip_stay _ _ (by decide) (by decide)) ht
theorem str_open (l : List UInt8) (hl : l.length ≤ 200) : lexSpec (ofL (34 :: encL l)) = ([], 0, 5) := by
  have h1 := encL_len l
  refine lexSpec_bad 34 _ (by simp; omega) (skip_stay _ _ (by decide) (by decide)) ?_
  rw [tok_quote]
  unfold strTok
  have := strVal_encL l []
  rw [List.append_nil, show strVal [] = none from rfl] at this
  rw [this]
  rfl
theorem nat8_length (bs : List UInt8) : (nat8 bs).length = bs.length := by simp [nat8]
theorem nat8_less (bs : List UInt8) (h : bs.length ≤ 8192) : (nat8 bs).length < 140737488355328 := by
  rw [← nat8_length bs] at h
  exact Nat.lt_of_le_of_lt h (by decide)
theorem nat8_snoc (b : List UInt8) (c : UInt8) : nat8 b ++ [(c.toNat : Int)] = nat8 (b ++ [c]) := by simp [nat8]
theorem rd_nat8 (d r : List UInt8) (c : UInt8) : rd (nat8 (d ++ c :: r)) ((d.length : Nat) : Int) = (c.toNat : Int) := by
  simp [rd, nat8]
theorem bumpN (a : Nat) (h : a ≤ 10000) : wrap64 ((a : Int) + 1) = ((a + 1 : Nat) : Int) := by rw [w64 (by omega) (by omega)]; omega
theorem ctl_iff2 {c : UInt8} : (c < 32 ∨ 126 < c) ↔ ((c.toNat : Int) < 32 ∨ (c.toNat : Int) > 126) := by rw [lt32, gt126]
theorem room_size (a : List UInt8) (n : Nat) (ha : a.length ≤ 1000) (hn : n ≤ 1000) : (ofL a).size + n ≤ 9223372036854775807 := by
  rw [ofL_size]
  exact Nat.le_trans (Nat.add_le_add ha hn) (by decide)
theorem strs_step (d r : List UInt8) (c : UInt8) (a b : List UInt8) (k : Nat) (hd : d.length ≤ 1000) (ha : a.length ≤ 1000) (hb : b.length ≤ 1000) : ∃ k', k ≤ k' ∧
    mortiselaw4_LexStrings.l0 (k + 2) (nat8 (d ++ c :: r)) (ofL a) (nat8 b) ((d.length : Nat) : Int) = mortiselaw4_LexStrings.l0 k' (nat8 (d ++ c :: r)) (ofL (a ++ encB c)) (nat8 (b ++ [wntB c])) ((d.length + 1 : Nat) : Int) := by
  have hlt : ((d.length : Nat) : Int) < ((nat8 (d ++ c :: r)).length : Int) := by rw [nat8_length, List.length_append, List.length_cons]; omega
  have e120 : ([120] : List Int) = [((120 : UInt8).toNat : Int)] := rfl
  have rb := nat8_less b (Nat.le_trans hb (by decide))
  unfold encB wntB
  rw [mortiselaw4_LexStrings.l0, if_pos hlt, if_pos (Int.natCast_nonneg _), rd_nat8]
  by_cases c10 : (c.toNat : Int) = 10
  · have e10 : c = 10 := (toNat_iff c 10 (by decide)).2 c10
    rw [if_pos c10, if_pos (room_size a 2 ha (by decide)), if_pos rb, bumpN _ (Nat.le_trans hd (by decide)), if_pos e10, if_pos (show c = 10 ∨ c = 34 ∨ c = 92 from .inl e10), nat8_snoc]
    rw [show (⟨#[92, 110]⟩ : ByteArray) = ofL [92, 110] from rfl, ofL_append]
    exact ⟨k + 1, Nat.le_succ k, rfl⟩
  have n10 : ¬ c = 10 := fun e => c10 ((toNat_iff c 10 (by decide)).1 e)
  rw [if_neg c10, if_neg n10]
  by_cases cq : c = 34 ∨ c = 92
  · rw [if_pos cq, if_pos (show c = 10 ∨ c = 34 ∨ c = 92 from .inr cq)]
    have hj : mortiselaw4_LexStrings.j1 (k + 1) (nat8 (d ++ c :: r)) (ofL a) (nat8 b) ((d.length : Nat) : Int) (c.toNat : Int) true = mortiselaw4_LexStrings.l0 k (nat8 (d ++ c :: r)) (ofL (a ++ [92, c])) (nat8 (b ++ [c])) ((d.length + 1 : Nat) : Int) := by
      rw [mortiselaw4_LexStrings.j1, if_pos rfl]
      simp only [Option.bind_some]
      rw [show ([92, (c.toNat : Int)] : List Int) = nat8 [92, c] from rfl, strOf_nat8, ofL_size [92, c], if_pos (room_size a _ ha (by simp)), if_pos rb, bumpN _ (Nat.le_trans hd (by decide)), nat8_snoc, ofL_append]
    refine ⟨k, Nat.le_refl k, ?_⟩
    by_cases c34 : (c.toNat : Int) = 34
    · rw [if_pos c34]; exact hj
    · have e92 : c = 92 := by
        rcases cq with h | h
        · exact absurd ((toNat_iff c 34 (by decide)).1 h) c34
        · exact h
      rw [if_neg c34, show ((c.toNat : Int) == 92) = true from beq_iff_eq.2 ((toNat_iff c 92 (by decide)).1 e92)]
      exact hj
  · have n34 : ¬ (c.toNat : Int) = 34 := fun h => cq (.inl ((toNat_iff c 34 (by decide)).2 h))
    have n92 : ((c.toNat : Int) == 92) = false := beq_eq_false_iff_ne.2 (fun h => cq (.inr ((toNat_iff c 92 (by decide)).2 h)))
    rw [if_neg cq, if_neg (show ¬ (c = 10 ∨ c = 34 ∨ c = 92) from fun h => h.elim n10 cq), if_neg n34, n92, mortiselaw4_LexStrings.j1, if_neg (by simp)]
    refine ⟨k, Nat.le_refl k, ?_⟩
    by_cases lo : (c.toNat : Int) < 32
    · have hx : c < 32 ∨ 126 < c := ctl_iff2.2 (.inl lo)
      rw [if_pos lo, if_pos hx, if_pos hx, if_pos (room_size a 1 ha (by decide)), if_pos rb, bumpN _ (Nat.le_trans hd (by decide)), e120, nat8_snoc, show (⟨#[120]⟩ : ByteArray) = ofL [120] from rfl, ofL_append]
    rw [if_neg lo]
    by_cases hi : (c.toNat : Int) > 126
    · have hx : c < 32 ∨ 126 < c := ctl_iff2.2 (.inr hi)
      rw [if_pos hi, if_pos hx, if_pos hx, if_pos (room_size a 1 ha (by decide)), if_pos rb, bumpN _ (Nat.le_trans hd (by decide)), e120, nat8_snoc, show (⟨#[120]⟩ : ByteArray) = ofL [120] from rfl, ofL_append]
    · have hx : ¬ (c < 32 ∨ 126 < c) := fun h => (ctl_iff2.1 h).elim lo hi
      rw [if_neg hi, if_neg hx, if_neg hx]
      simp only [Option.bind_some]
      rw [show ([(c.toNat : Int)] : List Int) = nat8 [c] from rfl, strOf_nat8, ofL_size [c], if_pos (room_size a _ ha (by simp)), if_pos rb, bumpN _ (Nat.le_trans hd (by decide)), ofL_append]
      rw [show nat8 b ++ nat8 [c] = nat8 (b ++ [c]) from by simp [nat8]]
theorem strs_end (l : List UInt8) (hl : l.length ≤ 200) (k : Nat) : mortiselaw4_LexStrings.l0 (k + 1) (nat8 l) (ofL (34 :: encL l)) (nat8 (l.map wntB)) ((l.length : Nat) : Int) = some true := by
  have h1 := encL_len l
  rw [mortiselaw4_LexStrings.l0, if_neg (by rw [nat8_length]; omega), if_pos (room_size _ 1 (by simp; omega) (by decide))]
  unfold lex_Lex.f mortiselaw4_num.f
  simp only [Option.bind_some]
  rw [show (⟨#[34]⟩ : ByteArray) = ofL [34] from rfl, ofL_append, str_open l hl, str_closed l hl, strOf_nat8, nat8_length]
  by_cases h : l.length ≤ 100
  · rw [if_pos h, if_neg (by omega)]
    simp [rd_T31]
  · rw [if_neg h, if_pos (by omega)]
    simp
theorem strs_go : ∀ (r d : List UInt8) (k : Nat), (d ++ r).length ≤ 200 → 2 * r.length + 1 ≤ k → mortiselaw4_LexStrings.l0 k (nat8 (d ++ r)) (ofL (34 :: encL d)) (nat8 (d.map wntB)) ((d.length : Nat) : Int) = some true
  | [], d, k, hl, hk => by
    obtain ⟨k, rfl⟩ : ∃ m, k = m + 1 := ⟨k - 1, by omega⟩
    rw [List.append_nil] at hl ⊢
    exact strs_end d hl k
  | c :: r, d, k, hl, hk => by
    obtain ⟨k, rfl⟩ : ∃ m, k = m + 2 := ⟨k - 2, by simp at hk; omega⟩
    have h1 := encL_len d
    have h2 : d.length + (r.length + 1) ≤ 200 := by simpa using hl
    obtain ⟨k', hk', e⟩ := strs_step d r c (34 :: encL d) (d.map wntB) k (by omega) (by simp; omega) (by simp; omega)
    rw [e]
    have ih := strs_go r (d ++ [c]) k' (by simp; omega) (by simp at hk; omega)
    rw [List.append_assoc, List.singleton_append, List.length_append] at ih
    rw [show encL (d ++ [c]) = encL d ++ encB c from by simp [encL], show (d ++ [c]).map wntB = d.map wntB ++ [wntB c] from by simp] at ih
    exact ih
theorem LexStrings_eq (l : List UInt8) (k : Nat) (hk : 401 ≤ k) : mortiselaw4_LexStrings.f k (nat8 l) = some true := by
  unfold mortiselaw4_LexStrings.f
  rw [nat8_length]
  by_cases h : (l.length : Int) > 200
  · rw [if_pos h, awake_eq]
    rfl
  · rw [if_neg h]
    exact strs_go l [] k (by simp; omega) (by omega)
theorem of_bytes : ∀ l : List Int, (∀ x ∈ l, 0 ≤ x ∧ x ≤ 255) → ∃ L : List UInt8, l = nat8 L
  | [], _ => ⟨[], rfl⟩
  | x :: r, h => by
    obtain ⟨L, e⟩ := of_bytes r (fun y hy => h y (List.mem_cons_of_mem _ hy))
    obtain ⟨h0, h1⟩ := h x (List.mem_cons_self ..)
    refine ⟨UInt8.ofNat x.toNat :: L, ?_⟩
    rw [e]
    have : (UInt8.ofNat x.toNat).toNat = x.toNat := by simp; omega
    simp only [nat8, List.map_cons, this]
    congr 1
    omega
end Go.Proofs.Ytmmjhdhgohfioaa.Gx
namespace Go.Proofs.Ytmmjhdhgohfioaa.Pure
open Go.RowKit Go.Proofs.Ytmmjhdhgohfioaa.Gx Go.Proofs.YtmmjhdhgohfioaaW.PrintWords Go.Proofs.YtmmjhdhgohfioaaW.PrintLast
theorem LexStrings : mortiselaw4_LexStrings.Pure := by
  intro l _ _ h
  obtain ⟨L, rfl⟩ := of_bytes l (fun x hx => by have := h x hx; simp [Lit.wf, IntKind.min, IntKind.max, IntKind.signed, IntKind.bits] at this; omega)
  exact ⟨401, LexStrings_eq L 401 (Nat.le_refl _)⟩
end Go.Proofs.Ytmmjhdhgohfioaa.Pure
