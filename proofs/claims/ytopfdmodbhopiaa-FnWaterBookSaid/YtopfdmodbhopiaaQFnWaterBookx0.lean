-- Written by a program of this session out of the printer's texts and contracts of its own.
import Derived.Test.YtopfdmodbhopiaaSq
import Derived.Test.YtopfdmodbhopiaaProg
import Derived.Below
import Derived.Deep.Draws
import Derived.Deep.AppendLies
import Derived.Maps.AppendAt
import Derived.OwnWalk
import Derived.Laws.BytesArg
import Derived.Laws.MakeOwn
import Derived.Laws.OwnMore
import Derived.Deep.OwnRows
import Derived.Tactics
import Derived.Lib.ConvBytes
import Derived.Laws.Slices
import Derived.WalkKit
import Derived.KernelRfl
import Derived.RowKit3
import Derived.Deep.LoopGhost
import Derived.Deep.QuietTactic
import Derived.BigQuiet
import Derived.WideLaws
import Derived.Deep.DeepCutAuto
import Derived.Deep.CutBlock
import Derived.Deep.RegionHeld3
import Derived.Laws.Rows
import Derived.Lib.AppendStr
import Derived.ArgAppend
import Derived.Laws.IdiomCopy
import Derived.OrdersHeld
import Derived.Laws.BitsLemmas
import Derived.RowKit
import Derived.Lib.SliceRun
import Derived.Test.YtopfdmodbhopiaaWWords
import Derived.Test.YtopfdmodbhopiaaWLast
import Derived.Test.YtopfdmodbhopiaaWTab
import Derived.Test.YtopfdmodbhopiaaWFour
import Derived.Test.YtopfdmodbhopiaaWQPut
import Derived.Test.YtopfdmodbhopiaaWApart
import Derived.Test.YtopfdmodbhopiaaWArr
import Derived.Test.YtopfdmodbhopiaaWZeros
import Derived.Test.YtopfdmodbhopiaaWFoot
import Derived.Test.YtopfdmodbhopiaaWKept
import Derived.Test.YtopfdmodbhopiaaWShare
import Derived.Test.YtopfdmodbhopiaaWN
import Derived.Test.YtopfdmodbhopiaaWFootNe
import Derived.Test.YtopfdmodbhopiaaWAt
import Derived.Test.YtopfdmodbhopiaaWEqStruct
import Derived.Test.YtopfdmodbhopiaaWRepsOne
import Derived.Test.YtopfdmodbhopiaaWInv
import Derived.Test.YtopfdmodbhopiaaWInvWords
import Derived.Test.YtopfdmodbhopiaaWGuard
import Derived.Test.YtopfdmodbhopiaaWNEv
import Derived.Test.YtopfdmodbhopiaaWMore
namespace Go.Proofs.Ytopfdmodbhopiaa.QFnWaterBook
open Go.RowKit Go.Proofs.YtopfdmodbhopiaaW.PrintWords Go.Proofs.YtopfdmodbhopiaaW.PrintLast Go.Proofs.YtopfdmodbhopiaaW.PrintMore Go.Proofs.Ytopfdmodbhopiaa.Sq
attribute [local go_sem] max2_int min2_int max_two min_two max_three min_three max_four min_four   -- for this text's walks alone
set_option linter.unusedVariables false
set_option linter.unusedSimpArgs false



def errW : Option Int → Value
 | none => .nilIface
 | some c => .iface 0 (.int .i64 c)
theorem errW_none : errW none = .nilIface := rfl
theorem errW_some (c : Int) : errW (some c) = .iface 0 (.int .i64 c) := rfl

theorem info2 : (Try.prog.info? 2).map (fun i => (i.zero, i.size, i.bytes)) = some (some (.int .i64 0), 1, 8) := by kernel_rfl
-- the values' own types

end Go.Proofs.Ytopfdmodbhopiaa.QFnWaterBook
