/- Printed for this session's own hand contracts by its own program; Lean checks every line. -/
import Derived.Test.YtlkddpcdgofbjaaDoorProg
import Derived.Test.YtlkddpcdgofbjaaDoorPar
import Derived.Test.YtlkddpcdgofbjaaDoorDec
import Derived.Below
import Derived.Deep.Draws
import Derived.Deep.AppendLies
import Derived.Maps.AppendAt
import Derived.OwnWalk
import Derived.Laws.BytesArg
import Derived.Laws.MakeOwn
import Derived.Laws.OwnMore
import Derived.Deep.OwnRows
import Derived.Tactics
import Derived.Lib.ConvBytes
import Derived.Laws.Slices
import Derived.WalkKit
import Derived.KernelRfl
import Derived.RowKit3
import Derived.Deep.LoopGhost
import Derived.Deep.QuietTactic
import Derived.BigQuiet
import Derived.WideLaws
import Derived.Deep.DeepCutAuto
import Derived.Deep.CutBlock
import Derived.Deep.RegionHeld3
import Derived.Laws.Rows
import Derived.Lib.AppendStr
import Derived.ArgAppend
import Derived.Laws.IdiomCopy
import Derived.OrdersHeld
import Derived.Laws.BitsLemmas
import Derived.RowKit
import Derived.Test.YtlkddpcdgofbjaaDoorWWords
import Derived.Test.YtlkddpcdgofbjaaDoorWLast
import Derived.Test.YtlkddpcdgofbjaaDoorWTab
import Derived.Test.YtlkddpcdgofbjaaDoorWFour
import Derived.Test.YtlkddpcdgofbjaaDoorWQPut
import Derived.Test.YtlkddpcdgofbjaaDoorWApart
import Derived.Test.YtlkddpcdgofbjaaDoorWArr
import Derived.Test.YtlkddpcdgofbjaaDoorWZeros
import Derived.Test.YtlkddpcdgofbjaaDoorWFoot
import Derived.Test.YtlkddpcdgofbjaaDoorWKept
import Derived.Test.YtlkddpcdgofbjaaDoorWShare
import Derived.Test.YtlkddpcdgofbjaaDoorWN
import Derived.Test.YtlkddpcdgofbjaaDoorWFootNe
import Derived.Test.YtlkddpcdgofbjaaDoorWAt
import Derived.Test.YtlkddpcdgofbjaaDoorWEqStruct
import Derived.Test.YtlkddpcdgofbjaaDoorWRepsOne
import Derived.Test.YtlkddpcdgofbjaaDoorWInv
import Derived.Test.YtlkddpcdgofbjaaDoorWInvWords
import Derived.Test.YtlkddpcdgofbjaaDoorWGuard
import Derived.Test.YtlkddpcdgofbjaaDoorWNEv
import Derived.Test.YtlkddpcdgofbjaaDoorWMore
namespace Go.Proofs.YtlkddpcdgofbjaaDoor.U
open Go.Proofs.YtlkddpcdgofbjaaDoor.Hand
open Go.RowKit Go.Proofs.YtlkddpcdgofbjaaDoorW.PrintWords Go.Proofs.YtlkddpcdgofbjaaDoorW.PrintLast Go.Proofs.YtlkddpcdgofbjaaDoorW.PrintMore
attribute [local go_sem] max2_int min2_int max_two min_two max_three min_three max_four min_four   -- for this text's walks alone
set_option linter.unusedVariables false
set_option linter.unusedSimpArgs false



def errW : Option Int → Value
  | none => .nilIface
  | some c => .iface 0 (.int .i64 c)
theorem errW_none : errW none = .nilIface := rfl
theorem errW_some (c : Int) : errW (some c) = .iface 0 (.int .i64 c) := rfl

theorem info3 : (Tryd.prog.info? 3).map (fun i => (i.zero, i.size, i.bytes)) = some (some (.int .i64 0), 1, 8) := by kernel_rfl
theorem info5 : (Tryd.prog.info? 5).map (fun i => (i.zero, i.size, i.bytes)) = some (some (.int .u8 0), 1, 1) := by kernel_rfl
-- the values' own types

end Go.Proofs.YtlkddpcdgofbjaaDoor.U
