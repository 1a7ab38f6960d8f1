/-
  PLAIN: the law IsaBack, and its walk out of the call's contract.
-/
import Derived.Test.YtlaccolldbnbaaaDoorPB
import Derived.Test.YtlaccolldbnbaaaDoorPW
import Derived.Test.YtlaccolldbnbaaaDoorLBack
namespace Go.Proofs.YtlaccolldbnbaaaDoor.Gx
open Go.RowKit Go.Proofs.YtlaccolldbnbaaaDoorW.PrintWords Go.Proofs.YtlaccolldbnbaaaDoorW.PrintLast
theorem B_list (l : List UInt8) : (B l).toList = l := by rw [ba_toList, B_data]
theorem mortiselaw2_IsaBack.plain (a0 a1 a2 a3 a4 : Int) : mortiselaw2_IsaBack.f 6 a0 a1 a2 a3 a4 = some true := by
  have e1 : isa_Encode.f 6 a0 a1 a2 a3 a4 = some (encS a0 a1 a2 a3 a4) := isa_enc a0 a1 a2 a3 a4 5
  have e2 : isa_Text.f 6 a0 a1 a2 a3 a4 = some (B (textS a0 a1 a2 a3 a4)) := isa_text 1 a0 a1 a2 a3 a4
  have e3 : mortiselaw2_awake.f 6 = some true := awake_eq 0
  unfold mortiselaw2_IsaBack.f mortiselaw2_num.f
  rw [e1, e2, e3]
  simp only [Option.bind_some, B_list]
  by_cases h : (encS a0 a1 a2 a3 a4).2 = 0
  · obtain ⟨n, u, i, _, _, _, _, _, _, _, _, _, hw⟩ := enc_ok h
    obtain ⟨hd, h0, h1⟩ := dec_word h
    have e4 : isa_Decode.f 6 (word a0 a1 a2 a3 a4) = some (a0, a1, a2, a3, a4, 0) := by rw [← hd]; exact isa_dec 5 _ (by omega) h1
    rw [if_pos h, hw]
    simp only
    rw [e4]
    simp [text_some h]
  · rw [if_neg h, enc_no h]
    have t0 : textS a0 a1 a2 a3 a4 = [] := by unfold textS; rw [if_neg h]
    rw [t0]
    simp
theorem mortiselaw2_IsaBack.run (a0 a1 a2 a3 a4 : Int) (w : World) (ht : TabW w) :
    Calls Tryd.prog 8 #[.agg #[.int .i64 a0, .int .i64 a1, .int .i64 a2, .int .i64 a3, .int .i64 a4]] w fun e w' => e = .returned (.bool true) ∧ Below w.heap.size w w' :=
  mortiselaw2_IsaBack.calls 6 a0 a1 a2 a3 a4 true w ht (mortiselaw2_IsaBack.plain a0 a1 a2 a3 a4)
end Go.Proofs.YtlaccolldbnbaaaDoor.Gx
