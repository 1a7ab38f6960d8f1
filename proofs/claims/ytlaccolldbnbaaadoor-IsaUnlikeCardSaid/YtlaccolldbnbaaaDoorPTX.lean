/-
  PLAIN: an instruction's text: the program's join is the document's text.
-/
import Derived.Test.YtlaccolldbnbaaaDoorPN
import Derived.Test.YtlaccolldbnbaaaDoorTX
import Derived.Test.YtlaccolldbnbaaaDoorR4
namespace Go.Proofs.YtlaccolldbnbaaaDoor.Gx
open Go.RowKit Go.Proofs.YtlaccolldbnbaaaDoorW.PrintWords Go.Proofs.YtlaccolldbnbaaaDoorW.PrintLast
set_option linter.unusedVariables false
set_option linter.unusedSimpArgs false
/-- What an instruction that has a word is like. -/
theorem enc_ok {op a b c m : Int} (h : (encS op a b c m).2 = 0) : ∃ n u i, isa_of.f op = some (n, u, i, true) ∧ OpIs op ∧ (u = 0 ∨ u = 1 ∨ u = 3 ∨ u = 7) ∧ 0 ≤ op ∧ op ≤ 43 ∧
    regOK (u % 2 == 1) a = true ∧ regOK (u / 2 % 2 == 1) b = true ∧ regOK (decide (4 ≤ u)) c = true ∧ immOK i m = true ∧ encS op a b c m = (word op a b c m, 0) := by
  by_cases hop : OpIs op
  · obtain ⟨n, u, i, e, hu, h0, h1⟩ := of_yes hop
    have hh := h
    unfold encS at h
    rw [e] at h
    simp only at h
    by_cases hr : (regOK (u % 2 == 1) a && (regOK (u / 2 % 2 == 1) b && (regOK (decide (4 ≤ u)) c && immOK i m))) = true
    · have hr' := hr
      simp only [Bool.and_eq_true] at hr'
      refine ⟨n, u, i, e, hop, hu, h0, h1, hr'.1, hr'.2.1, hr'.2.2.1, hr'.2.2.2, ?_⟩
      unfold encS
      rw [e]
      simp only
      rw [if_pos hr]
    · rw [if_neg hr] at h
      exact absurd h (by decide)
  · unfold encS at h
    rw [of_none hop] at h
    simp at h
theorem enc_no {op a b c m : Int} (h : (encS op a b c m).2 ≠ 0) : encS op a b c m = (0, 4) := by
  unfold encS at h ⊢
  split
  · rename_i n u i e
    rw [e] at h
    simp only at h
    split
    · rename_i hr
      rw [if_pos hr] at h
      exact absurd rfl h
    · rfl
  · rfl
theorem name_len {op : Int} (h : OpIs op) : ∃ n u i, isa_of.f op = some (n, u, i, true) ∧ n.data.toList.length ≤ 5 ∧ n.data.toList ≠ [] ∧ (32 : UInt8) ∉ n.data.toList := by
  have hm := h.cases
  simp only [List.mem_cons, List.not_mem_nil, or_false] at hm
  rcases hm with rfl | rfl | rfl | rfl | rfl | rfl | rfl | rfl | rfl | rfl | rfl | rfl | rfl | rfl | rfl | rfl | rfl | rfl | rfl | rfl | rfl | rfl | rfl | rfl | rfl | rfl | rfl | rfl | rfl | rfl | rfl | rfl | rfl | rfl | rfl <;>
    exact ⟨_, _, _, rfl, by decide, by decide, by decide⟩
/-- What stands behind an operation's name. -/
def tail3 (u c : Int) : List UInt8 := if 4 ≤ u then 32 :: 114 :: Lib.itoa c else []
def tail2 (u b : Int) : List UInt8 := if u / 2 % 2 = 1 then 32 :: 114 :: Lib.itoa b else []
def tail1 (u a : Int) : List UInt8 := if u % 2 = 1 then 32 :: 114 :: Lib.itoa a else []
def tail4 (i : Bool) (m : Int) : List UInt8 := if i then 32 :: Lib.itoa m else []
/-- What Text says. -/
def textS (op a b c m : Int) : List UInt8 := if (encS op a b c m).2 = 0 then (match isa_of.f op with
  | some (n, u, i, _) => n.data.toList ++ (tail1 u a ++ (tail2 u b ++ (tail3 u c ++ tail4 i m)))
  | none => []) else []
theorem r2_j1 (k : Nat) (u op a b c m : Int) (i : Bool) (s : List UInt8) (hs : s.length ≤ 100) (hc : 0 ≤ c ∧ c < 16) (hm : -2147483648 ≤ m ∧ m ≤ 2147483647) :
    mortiseref2_Text.j1 (k + 21) u i (B s) op a b c m = some (B (s ++ (tail3 u c ++ tail4 i m))) := by
  have nc : mortiseref2_Number.f (k + 20) c = some (B (Lib.itoa c)) := r2_number k c (by omega) (by omega)
  have nm : mortiseref2_Number.f (k + 20) m = some (B (Lib.itoa m)) := r2_number k m (by omega) (by omega)
  have lc : (Lib.itoa c).length ≤ 20 := len_itoa (by omega) (by omega)
  have lm : (Lib.itoa m).length ≤ 20 := len_itoa (by omega) (by omega)
  unfold tail3 tail4
  rw [show k + 21 = (k + 20) + 1 from rfl, mortiseref2_Text.j1, nc, nm, show (⟨#[32, 114]⟩ : ByteArray) = B [32, 114] from rfl, show (⟨#[32]⟩ : ByteArray) = B [32] from rfl]
  simp only [Option.bind_some, B_app, B_size]
  by_cases hu : 4 ≤ u
  · rw [if_pos (show u ≥ 4 from hu), if_pos (by omega), if_pos (by simp; omega), if_pos hu]
    cases i with
    | true => rw [if_pos rfl, if_pos (by simp; omega), if_pos (by simp; omega)]; simp
    | false => simp
  · rw [if_neg (show ¬ u ≥ 4 from hu), if_neg hu]
    cases i with
    | true => rw [if_pos rfl, if_pos (by omega), if_pos (by simp; omega)]; simp
    | false => simp
theorem r2_j0 (k : Nat) (u op a b c m : Int) (i : Bool) (s : List UInt8) (hu : u = 0 ∨ u = 1 ∨ u = 3 ∨ u = 7) (hs : s.length ≤ 50) (hb : 0 ≤ b ∧ b < 16) (hc : 0 ≤ c ∧ c < 16) (hm : -2147483648 ≤ m ∧ m ≤ 2147483647) :
    mortiseref2_Text.j0 (k + 22) u i (B s) op a b c m = some (B (s ++ (tail2 u b ++ (tail3 u c ++ tail4 i m)))) := by
  have nb : mortiseref2_Number.f (k + 21) b = some (B (Lib.itoa b)) := r2_number (k + 1) b (by omega) (by omega)
  have lb : (Lib.itoa b).length ≤ 20 := len_itoa (by omega) (by omega)
  have q2 : Int.tmod (wrap64 (Int.tdiv u 2)) 2 = u / 2 % 2 := by rcases hu with rfl | rfl | rfl | rfl <;> kernel_rfl
  unfold tail2
  rw [show k + 22 = (k + 21) + 1 from rfl, mortiseref2_Text.j0, nb, show (⟨#[32, 114]⟩ : ByteArray) = B [32, 114] from rfl]
  simp only [Option.bind_some, B_app, B_size, q2]
  by_cases h2 : u / 2 % 2 = 1
  · rw [if_pos h2, if_pos (by omega), if_pos (by simp; omega), if_pos h2, r2_j1 k u op a b c m i _ (by simp; omega) hc hm]
    simp
  · rw [if_neg h2, if_neg h2, r2_j1 k u op a b c m i _ (by omega) hc hm]
    simp
theorem r2_text (k : Nat) (op a b c m : Int) : mortiseref2_Text.f (k + 22) op a b c m = some (B (textS op a b c m)) := by
  unfold mortiseref2_Text.f textS
  rw [show k + 22 = (k + 16) + 6 from rfl, r2_enc, Option.bind_some]
  by_cases h : (encS op a b c m).2 = 0
  · rw [if_pos h, if_pos h]
    obtain ⟨n, u, i, e, hop, hu, h0, h1, ra, rb, rc, ri, _⟩ := enc_ok h
    obtain ⟨n', u', i', e', hl, _, _⟩ := name_len hop
    obtain ⟨rfl, rfl, rfl⟩ : n = n' ∧ u = u' ∧ i = i' := by rw [e] at e'; simpa using e'
    have ba := regOK_bound ra
    have na : mortiseref2_Number.f (k + 22) a = some (B (Lib.itoa a)) := r2_number (k + 2) a (by omega) (by omega)
    have la : (Lib.itoa a).length ≤ 20 := len_itoa (by omega) (by omega)
    have q1 : Int.tmod u 2 = u % 2 := by rcases hu with rfl | rfl | rfl | rfl <;> kernel_rfl
    have hz : n.size ≤ 5 := by rw [← ba_len]; exact hl
    have hU : isa_Uses.f op = some (u, i, true) := by unfold isa_Uses.f; rw [e]; rfl
    have hN : mortiseref2_Name.f op = some n := by rw [(uses_yes hop 0).2.1, e]; rfl
    rw [uses_eq, hU, hN, e, B_of n]
    rw [show (k + 16) + 6 = k + 22 from rfl, na, show (⟨#[32, 114]⟩ : ByteArray) = B [32, 114] from rfl]
    simp only [Option.bind_some, B_app, B_size, q1, B_data]
    unfold tail1
    by_cases h2 : u % 2 = 1
    · rw [if_pos h2, if_pos (by omega), if_pos (by simp; omega), if_pos h2, r2_j0 k u op a b c m i _ hu (by simp; omega) (regOK_bound rb) (regOK_bound rc) (immOK_bound ri)]
      simp
    · rw [if_neg h2, if_neg h2, r2_j0 k u op a b c m i _ hu (by omega) (regOK_bound rb) (regOK_bound rc) (immOK_bound ri)]
      simp
  · rw [if_neg h, if_neg h]; rfl
/-- A register's piece of the list. -/
def piece (q : Prop) [Decidable q] (a : Int) : List ByteArray := if q then [B (114 :: Lib.itoa a)] else []
theorem piece_len (q : Prop) [Decidable q] (a : Int) : (piece q a).length ≤ 1 := by unfold piece; split <;> simp
theorem piece_mem {q : Prop} [Decidable q] {a : Int} (ha : 0 ≤ a ∧ a < 16) : ∀ y ∈ piece q a, y.data.toList.length ≤ 50 := by
  intro y hy
  have la : (Lib.itoa a).length ≤ 20 := len_itoa (by omega) (by omega)
  unfold piece at hy
  split at hy
  · rw [List.mem_singleton] at hy
    subst hy
    rw [B_data, List.length_cons]
    omega
  · cases hy
theorem piece_flat (q : Prop) [Decidable q] (a : Int) : (((piece q a).map (·.data.toList)).map ([32] ++ ·)).flatten = if q then 32 :: 114 :: Lib.itoa a else [] := by
  unfold piece
  split <;> simp [B_data]
theorem l0_round (k : Nat) (x : ByteArray) (r : List ByteArray) (x32 j op a b c m u : Int) (n : ByteArray) (i : Bool) (h0 : 0 ≤ j) (h3 : j < 3) (hr : 0 ≤ regAt a b c j ∧ regAt a b c j < 16) (hl : r.length < 100) (q : Prop) [Decidable q]
    (hq : (Go.bits .and .i64 (shr .i64 u j) 1 = 1) = q) :
    isa_Text.l0 (k + 1) (x :: r) x32 j op a b c m n u i = isa_Text.l0 k (x :: (r ++ piece q (regAt a b c j))) x32 (j + 1) op a b c m n u i := by
  have li : (Lib.itoa (regAt a b c j)).length ≤ 20 := len_itoa (by omega) (by omega)
  have e : (⟨#[114]⟩ : ByteArray) ++ B (Lib.itoa (regAt a b c j)) = B (114 :: Lib.itoa (regAt a b c j)) := by rw [show (⟨#[114]⟩ : ByteArray) = B [114] from rfl, B_app]; rfl
  rw [isa_Text.l0, if_pos h3, if_pos h0, itoa_23 _ hr.1 hr.2, w64 (x := j + 1) (by omega) (by omega)]
  unfold piece
  rw [Option.bind_some, e, B_size]
  by_cases h : q
  · rw [if_pos (hq ▸ h), if_pos h, if_pos (by omega), if_pos (by rw [List.length_cons]; omega)]; rfl
  · rw [if_neg (fun z => h (hq ▸ z)), if_neg h, List.append_nil]
theorem join_f (x : ByteArray) (r : List ByteArray) (hl : r.length ≤ 4) (hx : x.data.toList.length ≤ 50) (hr : ∀ y ∈ r, y.data.toList.length ≤ 50) :
    strings_Join.f (x :: r) (⟨#[32]⟩ : ByteArray) = some (B (x.data.toList ++ ((r.map (·.data.toList)).map ([32] ++ ·)).flatten)) := by
  have e : Lib.join ((x :: r).map (·.data.toList)) (⟨#[32]⟩ : ByteArray).data.toList = x.data.toList ++ ((r.map (·.data.toList)).map ([32] ++ ·)).flatten := by
    rw [List.map_cons, Lib.join_cons]
    rfl
  have len : ((r.map (·.data.toList)).map ([32] ++ ·)).flatten.length ≤ r.length * 51 := by
    clear e hl
    induction r with
    | nil => simp
    | cons y r ih =>
      have h1 := hr y (by simp)
      have h2 := ih (fun z hz => hr z (by simp [hz]))
      simp only [List.map_cons, List.flatten_cons, List.length_append, List.length_cons, List.length_nil]
      omega
  unfold strings_Join.f
  rw [e, if_pos ⟨by simp, by simp; omega, by rw [List.length_append]; omega⟩]
  rfl
theorem l0_end (k : Nat) (x : ByteArray) (r : List ByteArray) (x32 j op a b c m u : Int) (n : ByteArray) (i : Bool) (hj : ¬ j < 3) (hl : r.length ≤ 3) (hx : x.data.toList.length ≤ 50) (hr : ∀ y ∈ r, y.data.toList.length ≤ 50)
    (hm : -2147483648 ≤ m ∧ m ≤ 2147483647) :
    isa_Text.l0 (k + 1) (x :: r) x32 j op a b c m n u i = some (B (x.data.toList ++ (((r.map (·.data.toList)).map ([32] ++ ·)).flatten ++ tail4 i m))) := by
  have lm : (Lib.itoa m).length ≤ 20 := len_itoa (by omega) (by omega)
  rw [isa_Text.l0, if_neg hj]
  cases i with
  | true =>
    rw [if_pos rfl, format_24 m (by omega) (by omega), Option.bind_some, if_pos (by rw [List.length_cons]; omega), List.cons_append, join_f x (r ++ [B (Lib.itoa m)]) (by rw [List.length_append]; simp; omega) hx ?_, Option.bind_some]
    · simp [tail4, B_data]
    · intro y hy
      rcases List.mem_append.1 hy with h1 | h1
      · exact hr y h1
      · rw [List.mem_singleton] at h1
        subst h1
        rw [B_data]
        omega
  | false =>
    rw [if_neg (by simp), join_f x r (by omega) hx hr, Option.bind_some]
    simp [tail4]
set_option maxHeartbeats 1000000 in
theorem isa_text (k : Nat) (op a b c m : Int) : isa_Text.f (k + 5) op a b c m = some (B (textS op a b c m)) := by
  unfold isa_Text.f textS
  rw [isa_enc op a b c m (k + 4), Option.bind_some]
  by_cases h : (encS op a b c m).2 = 0
  · rw [if_pos h, if_pos h]
    obtain ⟨n, u, i, e, hop, hu, h0, h1, ra, rb, rc, ri, _⟩ := enc_ok h
    obtain ⟨n', u', i', e', hl, _, _⟩ := name_len hop
    obtain ⟨rfl, rfl, rfl⟩ : n = n' ∧ u = u' ∧ i = i' := by rw [e] at e'; simpa using e'
    have b0 : Go.bits .and .i64 (shr .i64 u 0) 1 = u % 2 := by rcases hu with rfl | rfl | rfl | rfl <;> kernel_rfl
    have b1 : Go.bits .and .i64 (shr .i64 u 1) 1 = u / 2 % 2 := by rcases hu with rfl | rfl | rfl | rfl <;> kernel_rfl
    have b2 : Go.bits .and .i64 (shr .i64 u 2) 1 = u / 4 := by rcases hu with rfl | rfl | rfl | rfl <;> kernel_rfl
    have q0 : (Go.bits .and .i64 (shr .i64 u 0) 1 = 1) = (u % 2 = 1) := by rw [b0]
    have q1 : (Go.bits .and .i64 (shr .i64 u (0 + 1)) 1 = 1) = (u / 2 % 2 = 1) := by rw [show (0 : Int) + 1 = 1 from rfl, b1]
    have q2 : (Go.bits .and .i64 (shr .i64 u (0 + 1 + 1)) 1 = 1) = (4 ≤ u) := by
      rw [show (0 : Int) + 1 + 1 = 2 from rfl, b2]
      exact propext ⟨fun z => by omega, fun z => by omega⟩
    have r0 : regAt a b c 0 = a := rfl
    have r1 : regAt a b c (0 + 1) = b := rfl
    have r2 : regAt a b c (0 + 1 + 1) = c := rfl
    have ba : 0 ≤ regAt a b c 0 ∧ regAt a b c 0 < 16 := regOK_bound ra
    have bb : 0 ≤ regAt a b c (0 + 1) ∧ regAt a b c (0 + 1) < 16 := regOK_bound rb
    have bc : 0 ≤ regAt a b c (0 + 1 + 1) ∧ regAt a b c (0 + 1 + 1) < 16 := regOK_bound rc
    have la := piece_len (u % 2 = 1) a
    have lb := piece_len (u / 2 % 2 = 1) b
    have lc := piece_len (4 ≤ u) c
    rw [e, Option.bind_some]
    show isa_Text.l0 (k + 5) (n :: []) c 0 op a b c m n u i = _
    rw [show k + 5 = (k + 4) + 1 from rfl, l0_round (k + 4) n [] c 0 op a b c m u n i (Int.le_refl 0) (by decide) ba (by decide) (u % 2 = 1) q0, r0, List.nil_append]
    rw [show k + 4 = (k + 3) + 1 from rfl, l0_round (k + 3) n _ c (0 + 1) op a b c m u n i (by decide) (by decide) bb (by omega) (u / 2 % 2 = 1) q1, r1]
    rw [show k + 3 = (k + 2) + 1 from rfl, l0_round (k + 2) n _ c (0 + 1 + 1) op a b c m u n i (by decide) (by decide) bc (by rw [List.length_append]; omega) (4 ≤ u) q2, r2]
    rw [show k + 2 = (k + 1) + 1 from rfl, l0_end (k + 1) n _ c (0 + 1 + 1 + 1) op a b c m u n i (by decide) (by rw [List.length_append, List.length_append]; omega) (by omega) ?_ (immOK_bound ri)]
    · rw [List.map_append, List.map_append, List.map_append, List.map_append, List.flatten_append, List.flatten_append, piece_flat, piece_flat, piece_flat, List.append_assoc, List.append_assoc]
      rfl
    · intro y hy
      rcases List.mem_append.1 hy with hy | hy
      · rcases List.mem_append.1 hy with hy | hy
        · exact piece_mem ba y hy
        · exact piece_mem bb y hy
      · exact piece_mem bc y hy
  · rw [if_neg h, if_neg h]; rfl
end Go.Proofs.YtlaccolldbnbaaaDoor.Gx
