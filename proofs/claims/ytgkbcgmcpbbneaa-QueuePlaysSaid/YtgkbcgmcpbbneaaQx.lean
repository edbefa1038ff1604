-- by wprint.py, out of the translation
import Derived.Test.YtgkbcgmcpbbneaaQx0
import Derived.Test.YtgkbcgmcpbbneaaQx1
import Derived.Test.YtgkbcgmcpbbneaaQx2
import Derived.Test.YtgkbcgmcpbbneaaQx3
namespace Go.Proofs.Ytgkbcgmcpbbneaa.Q
open Go.RowKit Go.Proofs.YtgkbcgmcpbbneaaW.PrintWords Go.Proofs.YtgkbcgmcpbbneaaW.PrintLast Go.Proofs.YtgkbcgmcpbbneaaW.PrintMore
attribute [local go_sem] max2_int min2_int max_two min_two max_three min_three max_four min_four   -- for this text's walks alone
set_option linter.unusedVariables false
set_option linter.unusedSimpArgs false

end Go.Proofs.Ytgkbcgmcpbbneaa.Q
