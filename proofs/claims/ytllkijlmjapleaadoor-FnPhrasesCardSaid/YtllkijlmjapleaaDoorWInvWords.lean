-- Written by a program of this session out of print.sh's print: what this claim does not use is left out.
import Derived.Test.YtllkijlmjapleaaDoorWInv
import Derived.Test.YtllkijlmjapleaaDoorWFootNe
namespace Go.Proofs.YtllkijlmjapleaaDoorW.PrintWords
open Go.RowKit
end Go.Proofs.YtllkijlmjapleaaDoorW.PrintWords
namespace Go.Proofs.YtllkijlmjapleaaDoorW.PrintLast
section
variable {ops : Array Oper} {a : Act} {o og : Oper} {g : Nat} {t : Tmp} {u : Bool}
end
end Go.Proofs.YtllkijlmjapleaaDoorW.PrintLast
