-- Written by pr.py (wip/tools), a program of this session, over the kit's printer.
import Derived.Test.YtapmhmkekkhhpaaPLimbDividesx0
import Derived.Test.YtapmhmkekkhhpaaPLimbDividesx1
import Derived.Test.YtapmhmkekkhhpaaPLimbDividesx2
import Derived.Test.YtapmhmkekkhhpaaPLimbDividesx3
import Derived.Test.YtapmhmkekkhhpaaPLimbDividesx4
import Derived.Test.YtapmhmkekkhhpaaPLimbDividesx5
import Derived.Test.YtapmhmkekkhhpaaPLimbDividesx6
import Derived.Test.YtapmhmkekkhhpaaPLimbDividesx7
import Derived.Test.YtapmhmkekkhhpaaPLimbDividesx8
import Derived.Test.YtapmhmkekkhhpaaPLimbDividesx9
import Derived.Test.YtapmhmkekkhhpaaPLimbDividesx10
import Derived.Test.YtapmhmkekkhhpaaPLimbDividesx11
import Derived.Test.YtapmhmkekkhhpaaPLimbDividesx12
import Derived.Test.YtapmhmkekkhhpaaPLimbDividesx13
import Derived.Test.YtapmhmkekkhhpaaPLimbDividesx14
import Derived.Test.YtapmhmkekkhhpaaPLimbDividesx15
import Derived.Test.YtapmhmkekkhhpaaPLimbDividesx16
import Derived.Test.YtapmhmkekkhhpaaPLimbDividesx17
import Derived.Test.YtapmhmkekkhhpaaPLimbDividesx18
import Derived.Test.YtapmhmkekkhhpaaPLimbDividesx19
import Derived.Test.YtapmhmkekkhhpaaPLimbDividesx20
import Derived.Test.YtapmhmkekkhhpaaPLimbDividesx21
import Derived.Test.YtapmhmkekkhhpaaPLimbDividesx22
import Derived.Test.YtapmhmkekkhhpaaPLimbDividesx23
namespace Go.Proofs.Ytapmhmkekkhhpaa.PLimbDivides
open Go.RowKit Go.Proofs.YtapmhmkekkhhpaaW.PrintWords Go.Proofs.YtapmhmkekkhhpaaW.PrintLast Go.Proofs.YtapmhmkekkhhpaaW.PrintMore
attribute [local go_sem] max2_int min2_int max_two min_two max_three min_three max_four min_four   -- for this text's walks alone
set_option linter.unusedVariables false
set_option linter.unusedSimpArgs false

end Go.Proofs.Ytapmhmkekkhhpaa.PLimbDivides
