/-
  PLAIN: a text that is one token; a text whose first token is none.
-/
import Derived.Test.YtmmjhdhgohfioaaM9
namespace Go.Proofs.Ytmmjhdhgohfioaa.Gx
open Go.RowKit Go.Proofs.YtmmjhdhgohfioaaW.PrintWords Go.Proofs.YtmmjhdhgohfioaaW.PrintLast
set_option linter.unusedVariables false
set_option linter.unusedSimpArgs false
theorem ofL_append (a b : List UInt8) : ofL a ++ ofL b = ofL (a ++ b) := by
  apply ba_ext
  rw [ByteArray.data_append, Array.toList_append, ofL_data, ofL_data, ofL_data]
theorem tw_all : ∀ (l : List UInt8), (∀ c ∈ l, isAlnum c = true) → l.takeWhile isAlnum = l
  | [], _ => rfl
  | c :: r, h => by
    rw [List.takeWhile_cons, if_pos (h c (List.mem_cons_self ..)), tw_all r (fun d hd => h d (List.mem_cons_of_mem _ hd))]
theorem lexSpec_one (c : UInt8) (r : List UInt8) (t : Tk) (hl : (c :: r).length ≤ 8192) (hs : skipB false (c :: r) = c :: r) (ht : tok (c :: r) = some t) (hn : t.len = (c :: r).length) :
    lexSpec (ofL (c :: r)) = ([⟨t.kind, ofL t.text, t.num, 0⟩, ⟨0, ofL [], 0, (((c :: r).length : Nat) : Int)⟩], 0, 0) := by
  unfold lexSpec
  rw [ofL_size, ofL_data, if_neg (by omega)]
  have h1 : toks ((c :: r).length + 1) (c :: r) = ([(t, r.length + 1)], none) := by
    rw [toks, hs]
    simp only [ht]
    rw [hn, List.drop_length, List.length_cons, toks]
    simp [skipB]
  rw [h1]
  simp [place]
theorem lexSpec_bad (c : UInt8) (r : List UInt8) (hl : (c :: r).length ≤ 8192) (hs : skipB false (c :: r) = c :: r) (ht : tok (c :: r) = none) :
    lexSpec (ofL (c :: r)) = ([], 0, 5) := by
  unfold lexSpec
  rw [ofL_size, ofL_data, if_neg (by omega)]
  have h1 : toks ((c :: r).length + 1) (c :: r) = ([], some (r.length + 1)) := by
    rw [toks, hs]
    simp only [ht]
  rw [h1]
  simp
theorem skip_stay (c : UInt8) (r : List UInt8) (h1 : isBlank c = false) (h2 : ¬ c = 47) : skipB false (c :: r) = c :: r := by
  rw [skipB, if_neg (by simp [h1]), if_neg (fun h => h2 h.1)]
theorem digit_facts {c : UInt8} (h : isDigit c = true) : isBlank c = false ∧ ¬ c = 47 ∧ isLetter c = false ∧ isAlnum c = true := by
  have h1 := (digit_iff c).1 h
  refine ⟨?_, ?_, ?_, by simp [isAlnum, h]⟩
  · rw [Bool.eq_false_iff]; intro hb; have := (blank_iff c).1 hb; omega
  · intro e; have := (toNat_iff c 47 (by omega)).1 e; omega
  · rw [Bool.eq_false_iff]; intro hb; have := (letter_iff c).1 hb; omega
end Go.Proofs.Ytmmjhdhgohfioaa.Gx
