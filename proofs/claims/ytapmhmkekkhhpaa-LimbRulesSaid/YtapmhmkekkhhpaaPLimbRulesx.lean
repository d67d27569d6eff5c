-- Written by pr.py (wip/tools), a program of this session, over the kit's printer.
import Derived.Test.YtapmhmkekkhhpaaPLimbRulesx0
import Derived.Test.YtapmhmkekkhhpaaPLimbRulesx1
import Derived.Test.YtapmhmkekkhhpaaPLimbRulesx2
import Derived.Test.YtapmhmkekkhhpaaPLimbRulesx3
import Derived.Test.YtapmhmkekkhhpaaPLimbRulesx4
import Derived.Test.YtapmhmkekkhhpaaPLimbRulesx5
import Derived.Test.YtapmhmkekkhhpaaPLimbRulesx6
import Derived.Test.YtapmhmkekkhhpaaPLimbRulesx7
import Derived.Test.YtapmhmkekkhhpaaPLimbRulesx8
import Derived.Test.YtapmhmkekkhhpaaPLimbRulesx9
import Derived.Test.YtapmhmkekkhhpaaPLimbRulesx10
import Derived.Test.YtapmhmkekkhhpaaPLimbRulesx11
namespace Go.Proofs.Ytapmhmkekkhhpaa.PLimbRules
open Go.RowKit Go.Proofs.YtapmhmkekkhhpaaW.PrintWords Go.Proofs.YtapmhmkekkhhpaaW.PrintLast Go.Proofs.YtapmhmkekkhhpaaW.PrintMore
attribute [local go_sem] max2_int min2_int max_two min_two max_three min_three max_four min_four   -- for this text's walks alone
set_option linter.unusedVariables false
set_option linter.unusedSimpArgs false

end Go.Proofs.Ytapmhmkekkhhpaa.PLimbRules
