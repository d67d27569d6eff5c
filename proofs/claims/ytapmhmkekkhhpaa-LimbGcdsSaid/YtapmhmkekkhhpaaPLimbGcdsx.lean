-- Written by pr.py (wip/tools), a program of this session, over the kit's printer.
import Derived.Test.YtapmhmkekkhhpaaPLimbGcdsx0
import Derived.Test.YtapmhmkekkhhpaaPLimbGcdsx1
import Derived.Test.YtapmhmkekkhhpaaPLimbGcdsx2
import Derived.Test.YtapmhmkekkhhpaaPLimbGcdsx3
import Derived.Test.YtapmhmkekkhhpaaPLimbGcdsx4
import Derived.Test.YtapmhmkekkhhpaaPLimbGcdsx5
import Derived.Test.YtapmhmkekkhhpaaPLimbGcdsx6
import Derived.Test.YtapmhmkekkhhpaaPLimbGcdsx7
import Derived.Test.YtapmhmkekkhhpaaPLimbGcdsx8
import Derived.Test.YtapmhmkekkhhpaaPLimbGcdsx9
import Derived.Test.YtapmhmkekkhhpaaPLimbGcdsx10
import Derived.Test.YtapmhmkekkhhpaaPLimbGcdsx11
import Derived.Test.YtapmhmkekkhhpaaPLimbGcdsx12
import Derived.Test.YtapmhmkekkhhpaaPLimbGcdsx13
import Derived.Test.YtapmhmkekkhhpaaPLimbGcdsx14
import Derived.Test.YtapmhmkekkhhpaaPLimbGcdsx15
import Derived.Test.YtapmhmkekkhhpaaPLimbGcdsx16
import Derived.Test.YtapmhmkekkhhpaaPLimbGcdsx17
import Derived.Test.YtapmhmkekkhhpaaPLimbGcdsx18
import Derived.Test.YtapmhmkekkhhpaaPLimbGcdsx19
import Derived.Test.YtapmhmkekkhhpaaPLimbGcdsx20
import Derived.Test.YtapmhmkekkhhpaaPLimbGcdsx21
import Derived.Test.YtapmhmkekkhhpaaPLimbGcdsx22
import Derived.Test.YtapmhmkekkhhpaaPLimbGcdsx23
import Derived.Test.YtapmhmkekkhhpaaPLimbGcdsx24
namespace Go.Proofs.Ytapmhmkekkhhpaa.PLimbGcds
open Go.RowKit Go.Proofs.YtapmhmkekkhhpaaW.PrintWords Go.Proofs.YtapmhmkekkhhpaaW.PrintLast Go.Proofs.YtapmhmkekkhhpaaW.PrintMore
attribute [local go_sem] max2_int min2_int max_two min_two max_three min_three max_four min_four   -- for this text's walks alone
set_option linter.unusedVariables false
set_option linter.unusedSimpArgs false

end Go.Proofs.Ytapmhmkekkhhpaa.PLimbGcds
