/-
  PLAIN: the law IsaDecodes, and its walk out of the call's contract.
-/
import Derived.Test.YtlaccolldbnbaaaDoorPD
import Derived.Test.YtlaccolldbnbaaaDoorPW
import Derived.Test.YtlaccolldbnbaaaDoorLDecodes
namespace Go.Proofs.YtlaccolldbnbaaaDoor.Pure
open Go.RowKit Go.Proofs.YtlaccolldbnbaaaDoor.Gx Go.Proofs.YtlaccolldbnbaaaDoorW.PrintWords Go.Proofs.YtlaccolldbnbaaaDoorW.PrintLast
theorem IsaDecodes : mortiselaw2_IsaDecodes.Pure := by
  intro a0 hw
  refine ⟨6, ?_⟩
  simp only [Lit.wf, IntKind.min, IntKind.max, IntKind.signed, IntKind.bits, Bool.and_eq_true, decide_eq_true_eq, if_true] at hw
  have e1 : isa_Decode.f 6 a0 = some (decS a0) := isa_dec 5 a0 (by omega) (by omega)
  have e2 : mortiseref2_Decode.f 6 a0 = some (decS a0) := r2_dec 0 a0 (by omega) (by omega)
  have e3 : mortiselaw2_awake.f 6 = some true := awake_eq 0
  unfold mortiselaw2_IsaDecodes.f mortiselaw2_num.f
  rw [e1, e2, e3]
  simp
end Go.Proofs.YtlaccolldbnbaaaDoor.Pure
namespace Go.Proofs.YtlaccolldbnbaaaDoor.Gx
open Go.RowKit Go.Proofs.YtlaccolldbnbaaaDoorW.PrintWords Go.Proofs.YtlaccolldbnbaaaDoorW.PrintLast
theorem mortiselaw2_IsaDecodes.run (a0 : Int) (w : World) (ht : TabW w) (w0 : (Lit.int .i64 a0).wf = true) :
    Calls Tryd.prog 7 #[.int .i64 a0] w fun e w' => e = .returned (.bool true) ∧ Below w.heap.size w w' :=
  mortiselaw2_IsaDecodes.walk Pure.IsaDecodes a0 w ht w0
end Go.Proofs.YtlaccolldbnbaaaDoor.Gx
