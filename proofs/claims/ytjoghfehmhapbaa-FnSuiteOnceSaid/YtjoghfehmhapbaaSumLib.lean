/- Sums of whole numbers that stay in 64 bits, and products' bounds. Plain lemmas. -/
import Derived.Test.YtjoghfehmhapbaaLib
set_option linter.unusedVariables false
set_option linter.unusedSimpArgs false
namespace Go.Proofs.Ytjoghfehmhapbaa.Pl
open Go.RowKit Go.Proofs.YtjoghfehmhapbaaW.PrintWords Go.Proofs.Ytjoghfehmhapbaa.Opn

end Go.Proofs.Ytjoghfehmhapbaa.Pl
