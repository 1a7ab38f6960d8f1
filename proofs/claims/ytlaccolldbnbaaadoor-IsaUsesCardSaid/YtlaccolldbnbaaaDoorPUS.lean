/-
  PLAIN: the law IsaUses.
-/
import Derived.Test.YtlaccolldbnbaaaDoorPW
import Derived.Test.YtlaccolldbnbaaaDoorLUses
namespace Go.Proofs.YtlaccolldbnbaaaDoor.Pure
open Go.RowKit Go.Proofs.YtlaccolldbnbaaaDoor.Gx Go.Proofs.YtlaccolldbnbaaaDoorW.PrintWords Go.Proofs.YtlaccolldbnbaaaDoorW.PrintLast
theorem IsaUses : mortiselaw2_IsaUses.Pure := by
  intro a0 _
  refine ⟨6, ?_⟩
  unfold mortiselaw2_IsaUses.f
  rw [show (6 : Nat) = 0 + 6 from rfl, uses_eq, awake_eq]
  cases h : isa_Uses.f a0 with
  | none =>
    unfold isa_Uses.f isa_of.f at h
    simp at h
  | some x => simp
end Go.Proofs.YtlaccolldbnbaaaDoor.Pure
