-- Written by pr.py (wip/tools), a program of this session, over the kit's printer.
import Derived.Test.YtapmhmkekkhhpaaPLimbProductsx0
import Derived.Test.YtapmhmkekkhhpaaPLimbProductsx1
import Derived.Test.YtapmhmkekkhhpaaPLimbProductsx2
import Derived.Test.YtapmhmkekkhhpaaPLimbProductsx3
import Derived.Test.YtapmhmkekkhhpaaPLimbProductsx4
import Derived.Test.YtapmhmkekkhhpaaPLimbProductsx5
import Derived.Test.YtapmhmkekkhhpaaPLimbProductsx6
import Derived.Test.YtapmhmkekkhhpaaPLimbProductsx7
import Derived.Test.YtapmhmkekkhhpaaPLimbProductsx8
import Derived.Test.YtapmhmkekkhhpaaPLimbProductsx9
import Derived.Test.YtapmhmkekkhhpaaPLimbProductsx10
import Derived.Test.YtapmhmkekkhhpaaPLimbProductsx11
import Derived.Test.YtapmhmkekkhhpaaPLimbProductsx12
namespace Go.Proofs.Ytapmhmkekkhhpaa.PLimbProducts
open Go.RowKit Go.Proofs.YtapmhmkekkhhpaaW.PrintWords Go.Proofs.YtapmhmkekkhhpaaW.PrintLast Go.Proofs.YtapmhmkekkhhpaaW.PrintMore
attribute [local go_sem] max2_int min2_int max_two min_two max_three min_three max_four min_four   -- for this text's walks alone
set_option linter.unusedVariables false
set_option linter.unusedSimpArgs false

end Go.Proofs.Ytapmhmkekkhhpaa.PLimbProducts
