-- Written by a program of this session out of print.sh's print: what this claim does not use is left out.
import Derived.Test.YtefagcpmadpefaaWWords
/-! ### 58. A guarded operation whose guard is known to want it: the same goal without the guard -/
namespace Go.Proofs.YtefagcpmadpefaaW.PrintWords
open Go.RowKit
section
variable {P : Program} {ops : Array Oper} {rest : List Oper} {o : Oper} {a : Act} {Q : Exit → Act → World → Prop} {W : World}
end
end Go.Proofs.YtefagcpmadpefaaW.PrintWords
