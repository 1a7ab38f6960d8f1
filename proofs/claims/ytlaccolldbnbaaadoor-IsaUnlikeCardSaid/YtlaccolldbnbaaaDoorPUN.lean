/-
  PLAIN: the law IsaUnlike, and its walk out of the call's contract.
-/
import Derived.Test.YtlaccolldbnbaaaDoorPB
import Derived.Test.YtlaccolldbnbaaaDoorPW
import Derived.Test.YtlaccolldbnbaaaDoorLUnlike
namespace Go.Proofs.YtlaccolldbnbaaaDoor.Gx
open Go.RowKit Go.Proofs.YtlaccolldbnbaaaDoorW.PrintWords Go.Proofs.YtlaccolldbnbaaaDoorW.PrintLast
theorem mortiselaw2_IsaUnlike.plain (a0 a1 a2 a3 a4 b0 b1 b2 b3 b4 : Int) : mortiselaw2_IsaUnlike.f 7 a0 a1 a2 a3 a4 b0 b1 b2 b3 b4 = some true := by
  have e1 : isa_Encode.f 7 a0 a1 a2 a3 a4 = some (encS a0 a1 a2 a3 a4) := isa_enc a0 a1 a2 a3 a4 6
  have e2 : isa_Encode.f 7 b0 b1 b2 b3 b4 = some (encS b0 b1 b2 b3 b4) := isa_enc b0 b1 b2 b3 b4 6
  have x1 : isa_Text.f 6 a0 a1 a2 a3 a4 = some (B (textS a0 a1 a2 a3 a4)) := isa_text 1 a0 a1 a2 a3 a4
  have x2 : isa_Text.f 6 b0 b1 b2 b3 b4 = some (B (textS b0 b1 b2 b3 b4)) := isa_text 1 b0 b1 b2 b3 b4
  have e3 : mortiselaw2_awake.f 6 = some true := awake_eq 0
  have jt : ∀ v w', mortiselaw2_IsaUnlike.j0 7 v w' true a0 a1 a2 a3 a4 b0 b1 b2 b3 b4 = some true := by
    intro v w'
    rw [mortiselaw2_IsaUnlike.j0, if_pos rfl, e3]
    rfl
  unfold mortiselaw2_IsaUnlike.f mortiselaw2_num.f
  rw [e1, e2]
  simp only [Option.bind_some]
  by_cases h : (encS a0 a1 a2 a3 a4).2 = 0
  · rw [if_pos h]
    by_cases h' : (encS b0 b1 b2 b3 b4).2 = 0
    · obtain ⟨_, _, _, _, _, _, _, _, _, _, _, _, hw⟩ := enc_ok h
      obtain ⟨_, _, _, _, _, _, _, _, _, _, _, _, hw'⟩ := enc_ok h'
      obtain ⟨E, hE⟩ : ∃ E : Bool, (a0 == b0 && (a1 == b1 && (a2 == b2 && (a3 == b3 && (a4 == b4))))) = E := ⟨_, rfl⟩
      have g1 : (word a0 a1 a2 a3 a4 == word b0 b1 b2 b3 b4) = E := by
        rw [← hE, Bool.eq_iff_iff]
        simp only [beq_iff_eq, Bool.and_eq_true]
        exact ⟨fun q => word_inj h h' q, fun ⟨q0, q1, q2, q3, q4⟩ => by rw [q0, q1, q2, q3, q4]⟩
      have g2 : ((B (textS a0 a1 a2 a3 a4)).toList == (B (textS b0 b1 b2 b3 b4)).toList) = E := by
        rw [ba_toList, ba_toList, B_data, B_data, ← hE, Bool.eq_iff_iff]
        simp only [beq_iff_eq, Bool.and_eq_true]
        exact ⟨fun q => text_inj h h' q, fun ⟨q0, q1, q2, q3, q4⟩ => by rw [q0, q1, q2, q3, q4]⟩
      rw [hw, hw', mortiselaw2_IsaUnlike.j0, if_neg (by simp), hE, g1, x1, x2, e3]
      simp only [Option.bind_some]
      rw [g2]
      simp
    · rw [show ((encS b0 b1 b2 b3 b4).2 != 0) = true from by simpa using h', jt]
  · rw [if_neg h, jt]
theorem mortiselaw2_IsaUnlike.run (a0 a1 a2 a3 a4 b0 b1 b2 b3 b4 : Int) (w : World) (ht : TabW w) :
    Calls Tryd.prog 5 #[.agg #[.int .i64 a0, .int .i64 a1, .int .i64 a2, .int .i64 a3, .int .i64 a4], .agg #[.int .i64 b0, .int .i64 b1, .int .i64 b2, .int .i64 b3, .int .i64 b4]] w fun e w' => e = .returned (.bool true) ∧ Below w.heap.size w w' :=
  mortiselaw2_IsaUnlike.calls 7 a0 a1 a2 a3 a4 b0 b1 b2 b3 b4 true w ht (mortiselaw2_IsaUnlike.plain a0 a1 a2 a3 a4 b0 b1 b2 b3 b4)
end Go.Proofs.YtlaccolldbnbaaaDoor.Gx
