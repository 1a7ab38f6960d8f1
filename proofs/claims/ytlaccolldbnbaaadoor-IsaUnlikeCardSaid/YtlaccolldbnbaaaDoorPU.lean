/-
  PLAIN: an operation's shape, as the document's text has it.
-/
import Derived.Test.YtlaccolldbnbaaaDoorOF
import Derived.Test.YtlaccolldbnbaaaDoorU1
import Derived.Test.YtlaccolldbnbaaaDoorR1
namespace Go.Proofs.YtlaccolldbnbaaaDoor.Gx
open Go.RowKit Go.Proofs.YtlaccolldbnbaaaDoorW.PrintWords Go.Proofs.YtlaccolldbnbaaaDoorW.PrintLast
set_option linter.unusedVariables false
set_option linter.unusedSimpArgs false
theorem ba_len (s : ByteArray) : s.data.toList.length = s.size := by rw [Array.length_toList]; rfl
theorem ba_toList (s : ByteArray) : s.toList = s.data.toList := by
  have key : ∀ (n i : Nat) (r : List UInt8), s.size - i = n → ByteArray.toList.loop s i r = r.reverse ++ s.data.toList.drop i := by
    intro n
    induction n with
    | zero =>
      intro i r h
      unfold ByteArray.toList.loop
      rw [if_neg (by omega), List.drop_eq_nil_of_le (by rw [ba_len]; omega), List.append_nil]
    | succ n ih =>
      intro i r h
      unfold ByteArray.toList.loop
      have hi : i < s.size := by omega
      rw [if_pos hi, ih (i + 1) _ (by omega), List.drop_eq_getElem_cons (i := i) (by rw [ba_len]; exact hi), List.reverse_cons, List.append_assoc]
      congr 2
      simp only [List.cons_append, List.nil_append, List.cons.injEq, and_true]
      show s.data[i]! = _
      rw [getElem!_pos s.data i (by exact hi)]
      simp
  have := key s.size 0 [] (by omega)
  simpa [ByteArray.toList] using this
/-- The operations that there are. -/
def OpIs (op : Int) : Prop := (0 ≤ op ∧ op < 16) ∨ (17 ≤ op ∧ op ≤ 32) ∨ (41 ≤ op ∧ op ≤ 43)
theorem OpIs.cases {op : Int} (h : OpIs op) : op ∈ ([0, 1, 2, 3, 4, 5, 6, 7, 8, 9, 10, 11, 12, 13, 14, 15, 17, 18, 19, 20, 21, 22, 23, 24, 25, 26, 27, 28, 29, 30, 31, 32, 41, 42, 43] : List Int) := by
  unfold OpIs at h
  simp only [List.mem_cons, List.not_mem_nil, or_false]
  omega
theorem name_none {op : Int} (h : ¬ OpIs op) : mortiseref2_Name.f op = some ⟨#[]⟩ := by
  unfold OpIs at h
  unfold mortiseref2_Name.f mortiseref2_Sum.f
  repeat rw [if_neg (by omega)]
  rfl
theorem of_none {op : Int} (h : ¬ OpIs op) : isa_of.f op = some (⟨#[]⟩, 0, false, false) := by
  unfold OpIs at h
  unfold isa_of.f
  rw [if_neg (by omega), if_neg (by omega), if_neg (by omega)]
theorem uses_yes {op : Int} (h : OpIs op) (k : Nat) : mortiseref2_Uses.f (k + 6) op = isa_Uses.f op ∧ mortiseref2_Name.f op = (isa_of.f op).map (·.1) ∧ (∃ n u i, isa_of.f op = some (n, u, i, true)) := by
  have hm := h.cases
  simp only [List.mem_cons, List.not_mem_nil, or_false] at hm
  unfold mortiseref2_Uses.f isa_Uses.f
  rcases hm with rfl | rfl | rfl | rfl | rfl | rfl | rfl | rfl | rfl | rfl | rfl | rfl | rfl | rfl | rfl | rfl | rfl | rfl | rfl | rfl | rfl | rfl | rfl | rfl | rfl | rfl | rfl | rfl | rfl | rfl | rfl | rfl | rfl | rfl | rfl <;>
    (refine ⟨?_, by rfl, ⟨_, _, _, rfl⟩⟩; simp [mortiseref2_Name.f, mortiseref2_Sum.f, mortiseref2_Uses.j0, mortiseref2_Uses.j1, mortiseref2_Uses.j2, mortiseref2_Uses.j3, mortiseref2_Uses.j4, isa_of.f, ba_toList, plainL])
theorem uses_eq (op : Int) (k : Nat) : mortiseref2_Uses.f (k + 6) op = isa_Uses.f op := by
  by_cases h : OpIs op
  · exact (uses_yes h k).1
  · unfold mortiseref2_Uses.f isa_Uses.f
    rw [name_none h, of_none h]
    simp [ba_toList]
end Go.Proofs.YtlaccolldbnbaaaDoor.Gx
