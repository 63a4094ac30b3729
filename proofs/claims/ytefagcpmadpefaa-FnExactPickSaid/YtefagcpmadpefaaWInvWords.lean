-- Written by a program of this session out of print.sh's print: what this claim does not use is left out.
import Derived.Test.YtefagcpmadpefaaWInv
import Derived.Test.YtefagcpmadpefaaWFootNe
namespace Go.Proofs.YtefagcpmadpefaaW.PrintWords
open Go.RowKit
end Go.Proofs.YtefagcpmadpefaaW.PrintWords
namespace Go.Proofs.YtefagcpmadpefaaW.PrintLast
section
variable {ops : Array Oper} {a : Act} {o og : Oper} {g : Nat} {t : Tmp} {u : Bool}
end
end Go.Proofs.YtefagcpmadpefaaW.PrintLast
