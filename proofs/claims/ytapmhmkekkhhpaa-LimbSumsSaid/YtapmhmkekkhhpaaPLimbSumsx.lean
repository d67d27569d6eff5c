-- Written by pr.py (wip/tools), a program of this session, over the kit's printer.
import Derived.Test.YtapmhmkekkhhpaaPLimbSumsx0
import Derived.Test.YtapmhmkekkhhpaaPLimbSumsx1
import Derived.Test.YtapmhmkekkhhpaaPLimbSumsx2
import Derived.Test.YtapmhmkekkhhpaaPLimbSumsx3
import Derived.Test.YtapmhmkekkhhpaaPLimbSumsx4
import Derived.Test.YtapmhmkekkhhpaaPLimbSumsx5
import Derived.Test.YtapmhmkekkhhpaaPLimbSumsx6
import Derived.Test.YtapmhmkekkhhpaaPLimbSumsx7
import Derived.Test.YtapmhmkekkhhpaaPLimbSumsx8
import Derived.Test.YtapmhmkekkhhpaaPLimbSumsx9
import Derived.Test.YtapmhmkekkhhpaaPLimbSumsx10
import Derived.Test.YtapmhmkekkhhpaaPLimbSumsx11
import Derived.Test.YtapmhmkekkhhpaaPLimbSumsx12
import Derived.Test.YtapmhmkekkhhpaaPLimbSumsx13
import Derived.Test.YtapmhmkekkhhpaaPLimbSumsx14
import Derived.Test.YtapmhmkekkhhpaaPLimbSumsx15
import Derived.Test.YtapmhmkekkhhpaaPLimbSumsx16
namespace Go.Proofs.Ytapmhmkekkhhpaa.PLimbSums
open Go.RowKit Go.Proofs.YtapmhmkekkhhpaaW.PrintWords Go.Proofs.YtapmhmkekkhhpaaW.PrintLast Go.Proofs.YtapmhmkekkhhpaaW.PrintMore
attribute [local go_sem] max2_int min2_int max_two min_two max_three min_three max_four min_four   -- for this text's walks alone
set_option linter.unusedVariables false
set_option linter.unusedSimpArgs false

end Go.Proofs.Ytapmhmkekkhhpaa.PLimbSums
