/-
  PLAIN: the law LexReads.
-/
import Derived.Test.YtmmjhdhgohfioaaD2
import Derived.Test.YtmmjhdhgohfioaaPL
import Derived.Test.YtmmjhdhgohfioaaPA
namespace Go.Proofs.Ytmmjhdhgohfioaa.Gx
open Go.RowKit Go.Proofs.YtmmjhdhgohfioaaW.PrintWords Go.Proofs.YtmmjhdhgohfioaaW.PrintLast
set_option linter.unusedVariables false
set_option linter.unusedSimpArgs false
theorem reads_go (s : ByteArray) : ∀ (n : Nat) (l : List S31) (i k : Nat), l.length = i + n → n + 60000 ≤ k → l.length ≤ 8194 → mortiselaw4_LexReads.l0 k s l (lexSpec s).1 (i : Int) = some true
  | 0, l, i, k, h, hk, hl => by
    obtain ⟨k, rfl⟩ : ∃ m, k = m + 1 := ⟨k - 1, by omega⟩
    have hn := lexSpec_length s
    rw [mortiselaw4_LexReads.l0, if_neg (by omega)]
    unfold lex_Lex.f
    simp only [Option.bind_some]
    rw [Same_refl _ k (by omega) (by omega)]
    simp only [Option.bind_some]
    rw [if_pos trivial, awake_eq]
    rfl
  | n + 1, l, i, k, h, hk, hl => by
    obtain ⟨k, rfl⟩ : ∃ m, k = m + 1 := ⟨k - 1, by omega⟩
    have hw : wrap64 ((i : Int) + 1) = ((i + 1 : Nat) : Int) := by rw [w64 (by omega) (by omega)]; omega
    rw [mortiselaw4_LexReads.l0, if_pos (by omega), if_pos (by omega), hw]
    exact reads_go s n _ (i + 1) k (by rw [List.length_set]; omega) (by omega) (by rw [List.length_set]; exact hl)
theorem LexReads_eq (s : ByteArray) (k : Nat) (hk : 100000 ≤ k) : mortiselaw4_LexReads.f k s = some true := by
  have hn := lexSpec_length s
  unfold mortiselaw4_LexReads.f
  rw [r4_Lex_eq s k (by omega)]
  unfold lex_Lex.f mortiselaw4_num.f
  simp only [Option.bind_some]
  rw [Same_refl _ k (by omega) (by omega)]
  simp only [Option.bind_some, if_true]
  rw [show ((lexSpec s).2.2 != (lexSpec s).2.2) = false from bne_self_eq_false _]
  obtain ⟨k, rfl⟩ : ∃ m, k = m + 1 := ⟨k - 1, by omega⟩
  rw [mortiselaw4_LexReads.j0, if_neg (by simp)]
  exact reads_go s (lexSpec s).1.length _ 0 k (by omega) (by omega) hn
end Go.Proofs.Ytmmjhdhgohfioaa.Gx
namespace Go.Proofs.Ytmmjhdhgohfioaa.Pure
open Go.RowKit Go.Proofs.Ytmmjhdhgohfioaa.Gx Go.Proofs.YtmmjhdhgohfioaaW.PrintWords Go.Proofs.YtmmjhdhgohfioaaW.PrintLast
theorem LexReads : mortiselaw4_LexReads.Pure := fun s _ => ⟨100000, LexReads_eq s 100000 (Nat.le_refl _)⟩
end Go.Proofs.Ytmmjhdhgohfioaa.Pure
