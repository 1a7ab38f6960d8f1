/-
  Written by a program for this claim: what the program's values read as.
-/
import Derived.Test.YtlaccolldbnbaaaDoorProg
import Derived.Below
import Derived.Deep.Draws
import Derived.Deep.AppendLies
import Derived.Maps.AppendAt
import Derived.OwnWalk
import Derived.Laws.BytesArg
import Derived.Laws.MakeOwn
import Derived.Laws.OwnMore
import Derived.Deep.OwnRows
import Derived.Tactics
import Derived.Lib.ConvBytes
import Derived.Laws.Slices
import Derived.WalkKit
import Derived.KernelRfl
import Derived.RowKit3
import Derived.Deep.LoopGhost
import Derived.Deep.QuietTactic
import Derived.BigQuiet
import Derived.WideLaws
import Derived.Deep.DeepCutAuto
import Derived.Deep.CutBlock
import Derived.Deep.RegionHeld3
import Derived.Laws.Rows
import Derived.Lib.AppendStr
import Derived.ArgAppend
import Derived.Laws.IdiomCopy
import Derived.OrdersHeld
import Derived.Laws.BitsLemmas
import Derived.RowKit
import Derived.Test.YtlaccolldbnbaaaDoorWWords
import Derived.Test.YtlaccolldbnbaaaDoorWLast
import Derived.Test.YtlaccolldbnbaaaDoorWTab
import Derived.Test.YtlaccolldbnbaaaDoorWFour
import Derived.Test.YtlaccolldbnbaaaDoorWQPut
import Derived.Test.YtlaccolldbnbaaaDoorWApart
import Derived.Test.YtlaccolldbnbaaaDoorWArr
import Derived.Test.YtlaccolldbnbaaaDoorWZeros
import Derived.Test.YtlaccolldbnbaaaDoorWFoot
import Derived.Test.YtlaccolldbnbaaaDoorWKept
import Derived.Test.YtlaccolldbnbaaaDoorWShare
import Derived.Test.YtlaccolldbnbaaaDoorWN
import Derived.Test.YtlaccolldbnbaaaDoorWFootNe
import Derived.Test.YtlaccolldbnbaaaDoorWAt
import Derived.Test.YtlaccolldbnbaaaDoorWEqStruct
import Derived.Test.YtlaccolldbnbaaaDoorWRepsOne
import Derived.Test.YtlaccolldbnbaaaDoorWInv
import Derived.Test.YtlaccolldbnbaaaDoorWInvWords
import Derived.Test.YtlaccolldbnbaaaDoorWGuard
import Derived.Test.YtlaccolldbnbaaaDoorWNEv
import Derived.Test.YtlaccolldbnbaaaDoorWMore
namespace Go.Proofs.YtlaccolldbnbaaaDoor.Gx
open Go.RowKit Go.Proofs.YtlaccolldbnbaaaDoorW.PrintWords Go.Proofs.YtlaccolldbnbaaaDoorW.PrintLast Go.Proofs.YtlaccolldbnbaaaDoorW.PrintMore
attribute [local go_sem] max2_int min2_int max_two min_two max_three min_three max_four min_four   -- for this text's walks alone
set_option linter.unusedVariables false
set_option linter.unusedSimpArgs false



def errW : Option Int → Value
  | none => .nilIface
  | some c => .iface 0 (.int .i64 c)
theorem errW_none : errW none = .nilIface := rfl
theorem errW_some (c : Int) : errW (some c) = .iface 0 (.int .i64 c) := rfl

theorem info5 : (Tryd.prog.info? 5).map (fun i => (i.zero, i.size, i.bytes)) = some (some (.int .u8 0), 1, 1) := by kernel_rfl
-- the values' own types

end Go.Proofs.YtlaccolldbnbaaaDoor.Gx
