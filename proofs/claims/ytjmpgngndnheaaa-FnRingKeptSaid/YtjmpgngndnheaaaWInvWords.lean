-- Written by a program of this session out of print.sh's print: what this claim does not use is left out.
import Derived.Test.YtjmpgngndnheaaaWInv
import Derived.Test.YtjmpgngndnheaaaWFootNe
namespace Go.Proofs.YtjmpgngndnheaaaW.PrintWords
open Go.RowKit
end Go.Proofs.YtjmpgngndnheaaaW.PrintWords
namespace Go.Proofs.YtjmpgngndnheaaaW.PrintLast
section
variable {ops : Array Oper} {a : Act} {o og : Oper} {g : Nat} {t : Tmp} {u : Bool}
end
end Go.Proofs.YtjmpgngndnheaaaW.PrintLast
