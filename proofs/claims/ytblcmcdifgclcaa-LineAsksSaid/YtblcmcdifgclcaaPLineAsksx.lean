/- What the law LineAsks reaches: each function with its contract. -/
import Derived.Test.YtblcmcdifgclcaaPLineAsksx0
import Derived.Test.YtblcmcdifgclcaaPLineAsksx1
import Derived.Test.YtblcmcdifgclcaaPLineAsksx2
import Derived.Test.YtblcmcdifgclcaaPLineAsksx3
import Derived.Test.YtblcmcdifgclcaaPLineAsksx4
import Derived.Test.YtblcmcdifgclcaaPLineAsksx5
import Derived.Test.YtblcmcdifgclcaaPLineAsksx6
import Derived.Test.YtblcmcdifgclcaaPLineAsksx7
import Derived.Test.YtblcmcdifgclcaaPLineAsksx8
import Derived.Test.YtblcmcdifgclcaaPLineAsksx9
import Derived.Test.YtblcmcdifgclcaaPLineAsksx10
import Derived.Test.YtblcmcdifgclcaaPLineAsksx11
namespace Go.Proofs.Ytblcmcdifgclcaa.PLineAsks
open Go.RowKit Go.Proofs.YtblcmcdifgclcaaW.PrintWords Go.Proofs.YtblcmcdifgclcaaW.PrintLast Go.Proofs.YtblcmcdifgclcaaW.PrintMore
attribute [local go_sem] max2_int min2_int max_two min_two max_three min_three max_four min_four   -- for this text's walks alone
set_option linter.unusedVariables false
set_option linter.unusedSimpArgs false

end Go.Proofs.Ytblcmcdifgclcaa.PLineAsks
