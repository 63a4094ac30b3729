-- Written by a program of this session out of print.sh's print: what this claim does not use is left out.
import Derived.Test.YtjoghfehmhapbaaWInv
import Derived.Test.YtjoghfehmhapbaaWFootNe
namespace Go.Proofs.YtjoghfehmhapbaaW.PrintWords
open Go.RowKit
end Go.Proofs.YtjoghfehmhapbaaW.PrintWords
namespace Go.Proofs.YtjoghfehmhapbaaW.PrintLast
section
variable {ops : Array Oper} {a : Act} {o og : Oper} {g : Nat} {t : Tmp} {u : Bool}
end
end Go.Proofs.YtjoghfehmhapbaaW.PrintLast
