-- Written by pr.py (wip/tools), a program of this session, over the kit's printer.
import Derived.Test.YtapmhmkekkhhpaaPLimbKeepsx0
import Derived.Test.YtapmhmkekkhhpaaPLimbKeepsx1
import Derived.Test.YtapmhmkekkhhpaaPLimbKeepsx2
import Derived.Test.YtapmhmkekkhhpaaPLimbKeepsx3
import Derived.Test.YtapmhmkekkhhpaaPLimbKeepsx4
import Derived.Test.YtapmhmkekkhhpaaPLimbKeepsx5
import Derived.Test.YtapmhmkekkhhpaaPLimbKeepsx6
import Derived.Test.YtapmhmkekkhhpaaPLimbKeepsx7
import Derived.Test.YtapmhmkekkhhpaaPLimbKeepsx8
import Derived.Test.YtapmhmkekkhhpaaPLimbKeepsx9
namespace Go.Proofs.Ytapmhmkekkhhpaa.PLimbKeeps
open Go.RowKit Go.Proofs.YtapmhmkekkhhpaaW.PrintWords Go.Proofs.YtapmhmkekkhhpaaW.PrintLast Go.Proofs.YtapmhmkekkhhpaaW.PrintMore
attribute [local go_sem] max2_int min2_int max_two min_two max_three min_three max_four min_four   -- for this text's walks alone
set_option linter.unusedVariables false
set_option linter.unusedSimpArgs false

end Go.Proofs.Ytapmhmkekkhhpaa.PLimbKeeps
