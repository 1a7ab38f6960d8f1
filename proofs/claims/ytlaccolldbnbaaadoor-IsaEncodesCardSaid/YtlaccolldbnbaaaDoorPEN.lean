/-
  PLAIN: the law IsaEncodes, and its walk out of the call's contract.
-/
import Derived.Test.YtlaccolldbnbaaaDoorPW
import Derived.Test.YtlaccolldbnbaaaDoorLEncodes
namespace Go.Proofs.YtlaccolldbnbaaaDoor.Gx
open Go.RowKit Go.Proofs.YtlaccolldbnbaaaDoorW.PrintWords Go.Proofs.YtlaccolldbnbaaaDoorW.PrintLast
theorem mortiselaw2_IsaEncodes.plain (a0 a1 a2 a3 a4 : Int) : mortiselaw2_IsaEncodes.f 6 a0 a1 a2 a3 a4 = some true := by
  have e1 : isa_Encode.f 6 a0 a1 a2 a3 a4 = some (encS a0 a1 a2 a3 a4) := isa_enc a0 a1 a2 a3 a4 5
  have e2 : mortiseref2_Encode.f 6 a0 a1 a2 a3 a4 = some (encS a0 a1 a2 a3 a4) := r2_enc a0 a1 a2 a3 a4 0
  have e3 : mortiselaw2_awake.f 6 = some true := awake_eq 0
  unfold mortiselaw2_IsaEncodes.f mortiselaw2_num.f
  rw [e1, e2, e3]
  simp
theorem mortiselaw2_IsaEncodes.walk (a0 a1 a2 a3 a4 : Int) (w : World) (ht : TabW w) :
    Calls Tryd.prog 3 #[.agg #[.int .i64 a0, .int .i64 a1, .int .i64 a2, .int .i64 a3, .int .i64 a4]] w fun e w' => e = .returned (.bool true) ∧ Below w.heap.size w w' :=
  mortiselaw2_IsaEncodes.calls 6 a0 a1 a2 a3 a4 true w ht (mortiselaw2_IsaEncodes.plain a0 a1 a2 a3 a4)
end Go.Proofs.YtlaccolldbnbaaaDoor.Gx
