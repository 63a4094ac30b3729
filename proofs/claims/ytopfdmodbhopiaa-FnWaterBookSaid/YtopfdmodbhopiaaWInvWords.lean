-- Written by a program of this session out of print.sh's print: what this claim does not use is left out.
import Derived.Test.YtopfdmodbhopiaaWInv
import Derived.Test.YtopfdmodbhopiaaWFootNe
namespace Go.Proofs.YtopfdmodbhopiaaW.PrintWords
open Go.RowKit
end Go.Proofs.YtopfdmodbhopiaaW.PrintWords
namespace Go.Proofs.YtopfdmodbhopiaaW.PrintLast
section
variable {ops : Array Oper} {a : Act} {o og : Oper} {g : Nat} {t : Tmp} {u : Bool}
end
end Go.Proofs.YtopfdmodbhopiaaW.PrintLast
