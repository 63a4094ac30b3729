-- Written by a program of this session out of print.sh's print: what this claim does not use is left out.
import Derived.Test.YtefagcpmadpefaaWTab
/-! ### 56. Four, five, six operations that may come up next, in any order -/
namespace Go.Proofs.YtefagcpmadpefaaW.PrintLast
section
variable {P : Program} {ops : Array Oper} {Q : Exit → Act → World → Prop} {md : Region.Mode} {S : World → Prop} {ds : List Nat} {T : Bool × List (List Nat × List Nat)}
end
end Go.Proofs.YtefagcpmadpefaaW.PrintLast
