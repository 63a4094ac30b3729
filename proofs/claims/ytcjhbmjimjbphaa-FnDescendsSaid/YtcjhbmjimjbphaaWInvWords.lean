-- Written by a program of this session out of print.sh's print: what this claim does not use is left out.
import Derived.Test.YtcjhbmjimjbphaaWInv
import Derived.Test.YtcjhbmjimjbphaaWFootNe
namespace Go.Proofs.YtcjhbmjimjbphaaW.PrintWords
open Go.RowKit
end Go.Proofs.YtcjhbmjimjbphaaW.PrintWords
namespace Go.Proofs.YtcjhbmjimjbphaaW.PrintLast
section
variable {ops : Array Oper} {a : Act} {o og : Oper} {g : Nat} {t : Tmp} {u : Bool}
end
end Go.Proofs.YtcjhbmjimjbphaaW.PrintLast
