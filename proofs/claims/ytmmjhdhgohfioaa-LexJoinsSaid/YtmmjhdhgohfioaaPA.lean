/-
  PLAIN: the document's example.
-/
import Derived.Test.YtmmjhdhgohfioaaD1
namespace Go.Proofs.Ytmmjhdhgohfioaa.Gx
open Go.RowKit Go.Proofs.YtmmjhdhgohfioaaW.PrintWords Go.Proofs.YtmmjhdhgohfioaaW.PrintLast
theorem awake_eq (k : Nat) : mortiselaw4_awake.f k = some true := by
  unfold mortiselaw4_awake.f lex_Lex.f mortiselaw4_num.f
  kernel_rfl
end Go.Proofs.Ytmmjhdhgohfioaa.Gx
