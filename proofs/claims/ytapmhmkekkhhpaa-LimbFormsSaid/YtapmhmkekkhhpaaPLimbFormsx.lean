-- Written by pr.py (wip/tools), a program of this session, over the kit's printer.
import Derived.Test.YtapmhmkekkhhpaaPLimbFormsx0
import Derived.Test.YtapmhmkekkhhpaaPLimbFormsx1
import Derived.Test.YtapmhmkekkhhpaaPLimbFormsx2
import Derived.Test.YtapmhmkekkhhpaaPLimbFormsx3
import Derived.Test.YtapmhmkekkhhpaaPLimbFormsx4
import Derived.Test.YtapmhmkekkhhpaaPLimbFormsx5
import Derived.Test.YtapmhmkekkhhpaaPLimbFormsx6
import Derived.Test.YtapmhmkekkhhpaaPLimbFormsx7
import Derived.Test.YtapmhmkekkhhpaaPLimbFormsx8
import Derived.Test.YtapmhmkekkhhpaaPLimbFormsx9
import Derived.Test.YtapmhmkekkhhpaaPLimbFormsx10
import Derived.Test.YtapmhmkekkhhpaaPLimbFormsx11
import Derived.Test.YtapmhmkekkhhpaaPLimbFormsx12
namespace Go.Proofs.Ytapmhmkekkhhpaa.PLimbForms
open Go.RowKit Go.Proofs.YtapmhmkekkhhpaaW.PrintWords Go.Proofs.YtapmhmkekkhhpaaW.PrintLast Go.Proofs.YtapmhmkekkhhpaaW.PrintMore
attribute [local go_sem] max2_int min2_int max_two min_two max_three min_three max_four min_four   -- for this text's walks alone
set_option linter.unusedVariables false
set_option linter.unusedSimpArgs false

end Go.Proofs.Ytapmhmkekkhhpaa.PLimbForms
