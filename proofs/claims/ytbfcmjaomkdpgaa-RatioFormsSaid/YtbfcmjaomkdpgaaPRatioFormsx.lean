-- Written by pr.py (wip/tools), a program of this session, over the kit's printer.
import Derived.Test.YtbfcmjaomkdpgaaPRatioFormsx0
import Derived.Test.YtbfcmjaomkdpgaaPRatioFormsx1
import Derived.Test.YtbfcmjaomkdpgaaPRatioFormsx2
import Derived.Test.YtbfcmjaomkdpgaaPRatioFormsx3
import Derived.Test.YtbfcmjaomkdpgaaPRatioFormsx4
import Derived.Test.YtbfcmjaomkdpgaaPRatioFormsx5
import Derived.Test.YtbfcmjaomkdpgaaPRatioFormsx6
import Derived.Test.YtbfcmjaomkdpgaaPRatioFormsx7
import Derived.Test.YtbfcmjaomkdpgaaPRatioFormsx8
import Derived.Test.YtbfcmjaomkdpgaaPRatioFormsx9
import Derived.Test.YtbfcmjaomkdpgaaPRatioFormsx10
import Derived.Test.YtbfcmjaomkdpgaaPRatioFormsx11
import Derived.Test.YtbfcmjaomkdpgaaPRatioFormsx12
import Derived.Test.YtbfcmjaomkdpgaaPRatioFormsx13
import Derived.Test.YtbfcmjaomkdpgaaPRatioFormsx14
namespace Go.Proofs.Ytbfcmjaomkdpgaa.PRatioForms
open Go.RowKit Go.Proofs.YtbfcmjaomkdpgaaW.PrintWords Go.Proofs.YtbfcmjaomkdpgaaW.PrintLast Go.Proofs.YtbfcmjaomkdpgaaW.PrintMore
attribute [local go_sem] max2_int min2_int max_two min_two max_three min_three max_four min_four   -- for this text's walks alone
set_option linter.unusedVariables false
set_option linter.unusedSimpArgs false

end Go.Proofs.Ytbfcmjaomkdpgaa.PRatioForms
