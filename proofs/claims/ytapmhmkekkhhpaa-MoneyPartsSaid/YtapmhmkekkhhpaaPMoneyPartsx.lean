-- Written by pr.py (wip/tools), a program of this session, over the kit's printer.
import Derived.Test.YtapmhmkekkhhpaaPMoneyPartsx0
import Derived.Test.YtapmhmkekkhhpaaPMoneyPartsx1
import Derived.Test.YtapmhmkekkhhpaaPMoneyPartsx2
import Derived.Test.YtapmhmkekkhhpaaPMoneyPartsx3
import Derived.Test.YtapmhmkekkhhpaaPMoneyPartsx4
import Derived.Test.YtapmhmkekkhhpaaPMoneyPartsx5
import Derived.Test.YtapmhmkekkhhpaaPMoneyPartsx6
import Derived.Test.YtapmhmkekkhhpaaPMoneyPartsx7
import Derived.Test.YtapmhmkekkhhpaaPMoneyPartsx8
import Derived.Test.YtapmhmkekkhhpaaPMoneyPartsx9
import Derived.Test.YtapmhmkekkhhpaaPMoneyPartsx10
import Derived.Test.YtapmhmkekkhhpaaPMoneyPartsx11
import Derived.Test.YtapmhmkekkhhpaaPMoneyPartsx12
import Derived.Test.YtapmhmkekkhhpaaPMoneyPartsx13
namespace Go.Proofs.Ytapmhmkekkhhpaa.PMoneyParts
open Go.RowKit Go.Proofs.YtapmhmkekkhhpaaW.PrintWords Go.Proofs.YtapmhmkekkhhpaaW.PrintLast Go.Proofs.YtapmhmkekkhhpaaW.PrintMore
attribute [local go_sem] max2_int min2_int max_two min_two max_three min_three max_four min_four   -- for this text's walks alone
set_option linter.unusedVariables false
set_option linter.unusedSimpArgs false

end Go.Proofs.Ytapmhmkekkhhpaa.PMoneyParts
