/- Printed for this session's own hand contracts by its own program; Lean checks every line. -/
import Derived.Test.YtnchkpheepbacaaDoorProg
import Derived.Test.YtnchkpheepbacaaDoorDd
import Derived.Test.YtnchkpheepbacaaDoorDe
import Derived.Below
import Derived.Deep.Draws
import Derived.Deep.AppendLies
import Derived.Maps.AppendAt
import Derived.OwnWalk
import Derived.Laws.BytesArg
import Derived.Laws.MakeOwn
import Derived.Laws.OwnMore
import Derived.Deep.OwnRows
import Derived.Tactics
import Derived.Lib.ConvBytes
import Derived.Laws.Slices
import Derived.WalkKit
import Derived.KernelRfl
import Derived.RowKit3
import Derived.Deep.LoopGhost
import Derived.Deep.QuietTactic
import Derived.BigQuiet
import Derived.WideLaws
import Derived.Deep.DeepCutAuto
import Derived.Deep.CutBlock
import Derived.Deep.RegionHeld3
import Derived.Laws.Rows
import Derived.Lib.AppendStr
import Derived.ArgAppend
import Derived.Laws.IdiomCopy
import Derived.OrdersHeld
import Derived.Laws.BitsLemmas
import Derived.RowKit
import Derived.Test.YtnchkpheepbacaaDoorWWords
import Derived.Test.YtnchkpheepbacaaDoorWLast
import Derived.Test.YtnchkpheepbacaaDoorWTab
import Derived.Test.YtnchkpheepbacaaDoorWFour
import Derived.Test.YtnchkpheepbacaaDoorWQPut
import Derived.Test.YtnchkpheepbacaaDoorWApart
import Derived.Test.YtnchkpheepbacaaDoorWArr
import Derived.Test.YtnchkpheepbacaaDoorWZeros
import Derived.Test.YtnchkpheepbacaaDoorWFoot
import Derived.Test.YtnchkpheepbacaaDoorWKept
import Derived.Test.YtnchkpheepbacaaDoorWShare
import Derived.Test.YtnchkpheepbacaaDoorWN
import Derived.Test.YtnchkpheepbacaaDoorWFootNe
import Derived.Test.YtnchkpheepbacaaDoorWAt
import Derived.Test.YtnchkpheepbacaaDoorWEqStruct
import Derived.Test.YtnchkpheepbacaaDoorWRepsOne
import Derived.Test.YtnchkpheepbacaaDoorWInv
import Derived.Test.YtnchkpheepbacaaDoorWInvWords
import Derived.Test.YtnchkpheepbacaaDoorWGuard
import Derived.Test.YtnchkpheepbacaaDoorWNEv
import Derived.Test.YtnchkpheepbacaaDoorWMore
namespace Go.Proofs.YtnchkpheepbacaaDoor.Q
open Go.Proofs.YtnchkpheepbacaaDoor.Hand
open Go.RowKit Go.Proofs.YtnchkpheepbacaaDoorW.PrintWords Go.Proofs.YtnchkpheepbacaaDoorW.PrintLast Go.Proofs.YtnchkpheepbacaaDoorW.PrintMore
attribute [local go_sem] max2_int min2_int max_two min_two max_three min_three max_four min_four   -- for this text's walks alone
set_option linter.unusedVariables false
set_option linter.unusedSimpArgs false



def errW : Option Int → Value
  | none => .nilIface
  | some c => .iface 0 (.int .i64 c)
theorem errW_none : errW none = .nilIface := rfl
theorem errW_some (c : Int) : errW (some c) = .iface 0 (.int .i64 c) := rfl

-- the values' own types

end Go.Proofs.YtnchkpheepbacaaDoor.Q
