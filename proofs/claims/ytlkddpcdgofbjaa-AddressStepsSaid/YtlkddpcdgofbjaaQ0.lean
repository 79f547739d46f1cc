/- Printed for this session's own hand contracts by its own program; Lean checks every line. -/
import Derived.Test.YtlkddpcdgofbjaaProg
import Derived.Test.YtlkddpcdgofbjaaDec
import Derived.Below
import Derived.Deep.Draws
import Derived.Deep.AppendLies
import Derived.Maps.AppendAt
import Derived.OwnWalk
import Derived.Laws.BytesArg
import Derived.Laws.MakeOwn
import Derived.Laws.OwnMore
import Derived.Deep.OwnRows
import Derived.Tactics
import Derived.Lib.ConvBytes
import Derived.Laws.Slices
import Derived.WalkKit
import Derived.KernelRfl
import Derived.RowKit3
import Derived.Deep.LoopGhost
import Derived.Deep.QuietTactic
import Derived.BigQuiet
import Derived.WideLaws
import Derived.Deep.DeepCutAuto
import Derived.Deep.CutBlock
import Derived.Deep.RegionHeld3
import Derived.Laws.Rows
import Derived.Lib.AppendStr
import Derived.ArgAppend
import Derived.Laws.IdiomCopy
import Derived.OrdersHeld
import Derived.Laws.BitsLemmas
import Derived.RowKit
import Derived.Test.YtlkddpcdgofbjaaWWords
import Derived.Test.YtlkddpcdgofbjaaWLast
import Derived.Test.YtlkddpcdgofbjaaWTab
import Derived.Test.YtlkddpcdgofbjaaWFour
import Derived.Test.YtlkddpcdgofbjaaWQPut
import Derived.Test.YtlkddpcdgofbjaaWApart
import Derived.Test.YtlkddpcdgofbjaaWArr
import Derived.Test.YtlkddpcdgofbjaaWZeros
import Derived.Test.YtlkddpcdgofbjaaWFoot
import Derived.Test.YtlkddpcdgofbjaaWKept
import Derived.Test.YtlkddpcdgofbjaaWShare
import Derived.Test.YtlkddpcdgofbjaaWN
import Derived.Test.YtlkddpcdgofbjaaWFootNe
import Derived.Test.YtlkddpcdgofbjaaWAt
import Derived.Test.YtlkddpcdgofbjaaWEqStruct
import Derived.Test.YtlkddpcdgofbjaaWRepsOne
import Derived.Test.YtlkddpcdgofbjaaWInv
import Derived.Test.YtlkddpcdgofbjaaWInvWords
import Derived.Test.YtlkddpcdgofbjaaWGuard
import Derived.Test.YtlkddpcdgofbjaaWNEv
import Derived.Test.YtlkddpcdgofbjaaWMore
namespace Go.Proofs.Ytlkddpcdgofbjaa.Q
open Go.Proofs.Ytlkddpcdgofbjaa.Hand
open Go.RowKit Go.Proofs.YtlkddpcdgofbjaaW.PrintWords Go.Proofs.YtlkddpcdgofbjaaW.PrintLast Go.Proofs.YtlkddpcdgofbjaaW.PrintMore
attribute [local go_sem] max2_int min2_int max_two min_two max_three min_three max_four min_four   -- for this text's walks alone
set_option linter.unusedVariables false
set_option linter.unusedSimpArgs false



def errW : Option Int → Value
  | none => .nilIface
  | some c => .iface 0 (.int .i64 c)
theorem errW_none : errW none = .nilIface := rfl
theorem errW_some (c : Int) : errW (some c) = .iface 0 (.int .i64 c) := rfl

theorem info3 : (Try.prog.info? 3).map (fun i => (i.zero, i.size, i.bytes)) = some (some (.int .i64 0), 1, 8) := by kernel_rfl
theorem info5 : (Try.prog.info? 5).map (fun i => (i.zero, i.size, i.bytes)) = some (some (.int .u8 0), 1, 1) := by kernel_rfl
-- the values' own types

end Go.Proofs.Ytlkddpcdgofbjaa.Q
