-- Written by a program of this session out of the printer's texts and contracts of its own.
import Derived.Test.YtjmpgngndnheaaaProg
import Derived.Below
import Derived.Deep.Draws
import Derived.Deep.AppendLies
import Derived.Maps.AppendAt
import Derived.OwnWalk
import Derived.Laws.BytesArg
import Derived.Laws.MakeOwn
import Derived.Laws.OwnMore
import Derived.Deep.OwnRows
import Derived.Tactics
import Derived.Lib.ConvBytes
import Derived.Laws.Slices
import Derived.WalkKit
import Derived.KernelRfl
import Derived.RowKit3
import Derived.Deep.LoopGhost
import Derived.Deep.QuietTactic
import Derived.BigQuiet
import Derived.WideLaws
import Derived.Deep.DeepCutAuto
import Derived.Deep.CutBlock
import Derived.Deep.RegionHeld3
import Derived.Laws.Rows
import Derived.Lib.AppendStr
import Derived.ArgAppend
import Derived.Laws.IdiomCopy
import Derived.OrdersHeld
import Derived.Laws.BitsLemmas
import Derived.RowKit
import Derived.Lib.SliceRun
import Derived.Test.YtjmpgngndnheaaaWWords
import Derived.Test.YtjmpgngndnheaaaWLast
import Derived.Test.YtjmpgngndnheaaaWTab
import Derived.Test.YtjmpgngndnheaaaWFour
import Derived.Test.YtjmpgngndnheaaaWQPut
import Derived.Test.YtjmpgngndnheaaaWApart
import Derived.Test.YtjmpgngndnheaaaWArr
import Derived.Test.YtjmpgngndnheaaaWZeros
import Derived.Test.YtjmpgngndnheaaaWFoot
import Derived.Test.YtjmpgngndnheaaaWKept
import Derived.Test.YtjmpgngndnheaaaWShare
import Derived.Test.YtjmpgngndnheaaaWN
import Derived.Test.YtjmpgngndnheaaaWFootNe
import Derived.Test.YtjmpgngndnheaaaWAt
import Derived.Test.YtjmpgngndnheaaaWEqStruct
import Derived.Test.YtjmpgngndnheaaaWRepsOne
import Derived.Test.YtjmpgngndnheaaaWInv
import Derived.Test.YtjmpgngndnheaaaWInvWords
import Derived.Test.YtjmpgngndnheaaaWGuard
import Derived.Test.YtjmpgngndnheaaaWNEv
import Derived.Test.YtjmpgngndnheaaaWMore
namespace Go.Proofs.Ytjmpgngndnheaaa.QFnRingKept
open Go.RowKit Go.Proofs.YtjmpgngndnheaaaW.PrintWords Go.Proofs.YtjmpgngndnheaaaW.PrintLast Go.Proofs.YtjmpgngndnheaaaW.PrintMore
attribute [local go_sem] max2_int min2_int max_two min_two max_three min_three max_four min_four   -- for this text's walks alone
set_option linter.unusedVariables false
set_option linter.unusedSimpArgs false



def errW : Option Int → Value
  | none => .nilIface
  | some c => .iface 0 (.int .i64 c)
theorem errW_none : errW none = .nilIface := rfl
theorem errW_some (c : Int) : errW (some c) = .iface 0 (.int .i64 c) := rfl

theorem info2 : (Try.prog.info? 2).map (fun i => (i.zero, i.size, i.bytes)) = some (some (.int .i64 0), 1, 8) := by kernel_rfl
-- the values' own types

end Go.Proofs.Ytjmpgngndnheaaa.QFnRingKept
