/-
  PLAIN: the law IsaWords, and its walk out of the call's contract.
-/
import Derived.Test.YtlaccolldbnbaaaDoorPB
import Derived.Test.YtlaccolldbnbaaaDoorPW
import Derived.Test.YtlaccolldbnbaaaDoorLWords
namespace Go.Proofs.YtlaccolldbnbaaaDoor.Pure
open Go.RowKit Go.Proofs.YtlaccolldbnbaaaDoor.Gx Go.Proofs.YtlaccolldbnbaaaDoorW.PrintWords Go.Proofs.YtlaccolldbnbaaaDoorW.PrintLast
theorem IsaWords : mortiselaw2_IsaWords.Pure := by
  intro a0 hw
  refine ⟨6, ?_⟩
  simp only [Lit.wf, IntKind.min, IntKind.max, IntKind.signed, IntKind.bits, Bool.and_eq_true, decide_eq_true_eq, if_true] at hw
  have e1 : isa_Decode.f 6 a0 = some (decS a0) := isa_dec 5 a0 (by omega) (by omega)
  have e3 : mortiselaw2_awake.f 6 = some true := awake_eq 0
  unfold mortiselaw2_IsaWords.f mortiselaw2_num.f
  rw [e1, e3]
  simp only [Option.bind_some]
  by_cases h : (decS a0).2.2.2.2.2 = 0
  · obtain ⟨h0, h1⟩ := dec_back h
    have e2 : isa_Encode.f 6 (decS a0).1 (decS a0).2.1 (decS a0).2.2.1 (decS a0).2.2.2.1 (decS a0).2.2.2.2.1 = some (a0, 0) := by rw [← h1]; exact isa_enc _ _ _ _ _ 5
    rw [if_pos h, e2]
    simp only [Option.bind_some]
    rw [if_pos trivial, if_pos trivial, if_pos (show a0 ≥ 0 from h0)]
  · rw [if_neg h, dec_no h]
    simp
end Go.Proofs.YtlaccolldbnbaaaDoor.Pure
namespace Go.Proofs.YtlaccolldbnbaaaDoor.Gx
open Go.RowKit Go.Proofs.YtlaccolldbnbaaaDoorW.PrintWords Go.Proofs.YtlaccolldbnbaaaDoorW.PrintLast
theorem mortiselaw2_IsaWords.run (a0 : Int) (w : World) (ht : TabW w) (w0 : (Lit.int .i64 a0).wf = true) :
    Calls Tryd.prog 9 #[.int .i64 a0] w fun e w' => e = .returned (.bool true) ∧ Below w.heap.size w w' :=
  mortiselaw2_IsaWords.walk Pure.IsaWords a0 w ht w0
end Go.Proofs.YtlaccolldbnbaaaDoor.Gx
