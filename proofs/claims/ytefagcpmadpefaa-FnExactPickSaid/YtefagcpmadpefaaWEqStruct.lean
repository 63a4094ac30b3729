-- Written by a program of this session out of print.sh's print: what this claim does not use is left out.
import Derived.Test.YtefagcpmadpefaaWWords
import Derived.Laws.StructEq
/-! ### 53. '==' of structs as_ one Bool -/
namespace Go.Proofs.YtefagcpmadpefaaW.PrintWords
open Go.RowKit
section
variable {P : Program} {d : Nat} {xs ys : Array Value} {f : Field} {fs : List Field} {a b : Value} {r s : Bool} {w : World}
end
end Go.Proofs.YtefagcpmadpefaaW.PrintWords
