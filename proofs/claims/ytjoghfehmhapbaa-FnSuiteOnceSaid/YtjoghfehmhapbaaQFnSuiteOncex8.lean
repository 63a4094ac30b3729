-- Written by a program of this session out of the printer's texts and contracts of its own.
import Derived.Test.YtjoghfehmhapbaaQFnSuiteOncex0
import Derived.Test.YtjoghfehmhapbaaQFnSuiteOncex3
import Derived.Test.YtjoghfehmhapbaaQFnSuiteOncex4
import Derived.Test.YtjoghfehmhapbaaQFnSuiteOncex7
namespace Go.Proofs.Ytjoghfehmhapbaa.QFnSuiteOnce
open Go.RowKit Go.Proofs.YtjoghfehmhapbaaW.PrintWords Go.Proofs.YtjoghfehmhapbaaW.PrintLast Go.Proofs.YtjoghfehmhapbaaW.PrintMore
attribute [local go_sem] max2_int min2_int max_two min_two max_three min_three max_four min_four   -- for this text's walks alone
set_option linter.unusedVariables false
set_option linter.unusedSimpArgs false

end Go.Proofs.Ytjoghfehmhapbaa.QFnSuiteOnce
