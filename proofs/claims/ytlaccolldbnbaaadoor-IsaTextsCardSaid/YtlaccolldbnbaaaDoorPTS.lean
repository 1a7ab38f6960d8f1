/-
  PLAIN: the law IsaTexts, and its walk out of the call's contract.
-/
import Derived.Test.YtlaccolldbnbaaaDoorPTX
import Derived.Test.YtlaccolldbnbaaaDoorPW
import Derived.Test.YtlaccolldbnbaaaDoorLTexts
namespace Go.Proofs.YtlaccolldbnbaaaDoor.Gx
open Go.RowKit Go.Proofs.YtlaccolldbnbaaaDoorW.PrintWords Go.Proofs.YtlaccolldbnbaaaDoorW.PrintLast
theorem mortiselaw2_IsaTexts.plain (a0 a1 a2 a3 a4 : Int) : mortiselaw2_IsaTexts.f 22 a0 a1 a2 a3 a4 = some true := by
  have e1 : isa_Text.f 22 a0 a1 a2 a3 a4 = some (B (textS a0 a1 a2 a3 a4)) := isa_text 17 a0 a1 a2 a3 a4
  have e2 : mortiseref2_Text.f 22 a0 a1 a2 a3 a4 = some (B (textS a0 a1 a2 a3 a4)) := r2_text 0 a0 a1 a2 a3 a4
  have e3 : mortiselaw2_awake.f 22 = some true := awake_eq 16
  unfold mortiselaw2_IsaTexts.f
  rw [e1, e2, e3]
  simp
theorem mortiselaw2_IsaTexts.walk (a0 a1 a2 a3 a4 : Int) (w : World) (ht : TabW w) :
    Calls Tryd.prog 4 #[.agg #[.int .i64 a0, .int .i64 a1, .int .i64 a2, .int .i64 a3, .int .i64 a4]] w fun e w' => e = .returned (.bool true) ∧ Below w.heap.size w w' :=
  mortiselaw2_IsaTexts.calls 22 a0 a1 a2 a3 a4 true w ht (mortiselaw2_IsaTexts.plain a0 a1 a2 a3 a4)
end Go.Proofs.YtlaccolldbnbaaaDoor.Gx
