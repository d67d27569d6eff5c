-- Written by pr.py (wip/tools), a program of this session, over the kit's printer.
-- squeezed
import Derived.Test.YtapmhmkekkhhpaaPMoneySplitsx0
import Derived.Test.YtapmhmkekkhhpaaPMoneySplitsx1
import Derived.Test.YtapmhmkekkhhpaaPMoneySplitsx2
import Derived.Test.YtapmhmkekkhhpaaPMoneySplitsx3
import Derived.Test.YtapmhmkekkhhpaaPMoneySplitsx4
import Derived.Test.YtapmhmkekkhhpaaPMoneySplitsx5
import Derived.Test.YtapmhmkekkhhpaaPMoneySplitsx6
import Derived.Test.YtapmhmkekkhhpaaPMoneySplitsx7
import Derived.Test.YtapmhmkekkhhpaaPMoneySplitsx8
import Derived.Test.YtapmhmkekkhhpaaPMoneySplitsx9
import Derived.Test.YtapmhmkekkhhpaaPMoneySplitsx10
import Derived.Test.YtapmhmkekkhhpaaPMoneySplitsx11
import Derived.Test.YtapmhmkekkhhpaaPMoneySplitsx12
import Derived.Test.YtapmhmkekkhhpaaPMoneySplitsx13
import Derived.Test.YtapmhmkekkhhpaaPMoneySplitsx14
import Derived.Test.YtapmhmkekkhhpaaPMoneySplitsx15
namespace Go.Proofs.Ytapmhmkekkhhpaa.PMoneySplits
open Go.RowKit Go.Proofs.YtapmhmkekkhhpaaW.PrintWords Go.Proofs.YtapmhmkekkhhpaaW.PrintLast Go.Proofs.YtapmhmkekkhhpaaW.PrintMore
attribute [local go_sem] max2_int min2_int max_two min_two max_three min_three max_four min_four   -- for this text's walks alone
set_option linter.unusedVariables false
set_option linter.unusedSimpArgs false

end Go.Proofs.Ytapmhmkekkhhpaa.PMoneySplits
