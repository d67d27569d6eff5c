-- Written by pr.py (wip/tools), a program of this session, over the kit's printer.
import Derived.Test.YtapmhmkekkhhpaaPLimbBackx0
import Derived.Test.YtapmhmkekkhhpaaPLimbBackx1
import Derived.Test.YtapmhmkekkhhpaaPLimbBackx2
import Derived.Test.YtapmhmkekkhhpaaPLimbBackx3
import Derived.Test.YtapmhmkekkhhpaaPLimbBackx4
import Derived.Test.YtapmhmkekkhhpaaPLimbBackx5
import Derived.Test.YtapmhmkekkhhpaaPLimbBackx6
import Derived.Test.YtapmhmkekkhhpaaPLimbBackx7
import Derived.Test.YtapmhmkekkhhpaaPLimbBackx8
import Derived.Test.YtapmhmkekkhhpaaPLimbBackx9
import Derived.Test.YtapmhmkekkhhpaaPLimbBackx10
import Derived.Test.YtapmhmkekkhhpaaPLimbBackx11
import Derived.Test.YtapmhmkekkhhpaaPLimbBackx12
import Derived.Test.YtapmhmkekkhhpaaPLimbBackx13
import Derived.Test.YtapmhmkekkhhpaaPLimbBackx14
import Derived.Test.YtapmhmkekkhhpaaPLimbBackx15
import Derived.Test.YtapmhmkekkhhpaaPLimbBackx16
import Derived.Test.YtapmhmkekkhhpaaPLimbBackx17
namespace Go.Proofs.Ytapmhmkekkhhpaa.PLimbBack
open Go.RowKit Go.Proofs.YtapmhmkekkhhpaaW.PrintWords Go.Proofs.YtapmhmkekkhhpaaW.PrintLast Go.Proofs.YtapmhmkekkhhpaaW.PrintMore
attribute [local go_sem] max2_int min2_int max_two min_two max_three min_three max_four min_four   -- for this text's walks alone
set_option linter.unusedVariables false
set_option linter.unusedSimpArgs false

end Go.Proofs.Ytapmhmkekkhhpaa.PLimbBack
