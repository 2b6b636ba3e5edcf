-- Written by a program of this session (xprint.py, asm.py).
import Derived.Test.YtekfjpnfhgbalaaP0
import Derived.Test.YtekfjpnfhgbalaaP1
import Derived.Test.YtekfjpnfhgbalaaX
import Derived.Test.YtekfjpnfhgbalaaU1
import Derived.Test.YtekfjpnfhgbalaaL3
namespace Go.Proofs.Ytekfjpnfhgbalaa.P
open Go.Proofs.YtekfjpnfhgbalaaX Go.RowKit Go.Proofs.YtekfjpnfhgbalaaW.PrintWords Go.Proofs.YtekfjpnfhgbalaaW.PrintLast Go.Proofs.YtekfjpnfhgbalaaW.PrintMore
attribute [local go_sem] max2_int min2_int max_two min_two max_three min_three max_four min_four   -- for this text's walks alone

set_option linter.unusedVariables false
set_option linter.unusedSimpArgs false



attribute [local go_sem high] eqA25

end Go.Proofs.Ytekfjpnfhgbalaa.P
