-- Written by a program of this session out of print.sh's print: what this claim does not use is left out.
import Derived.Test.YtefagcpmadpefaaWN
/-! ### 52. A row that stays read whatever happens to a block (a set of blocks) doesn't lie there -/
namespace Go.Proofs.YtefagcpmadpefaaW.PrintWords
open Go.RowKit
namespace Kd
section
variable {α : Type} {d : Kd α} {W : World} {g n : Nat} {S ok : Nat → Prop} {A : Option Addr} {ad : Addr} {xs : List α}
end
end Kd
end Go.Proofs.YtefagcpmadpefaaW.PrintWords
