/- What the law LineStays reaches: each function with its contract. -/
import Derived.Test.YtblcmcdifgclcaaPLineStaysx0
import Derived.Test.YtblcmcdifgclcaaPLineStaysx1
import Derived.Test.YtblcmcdifgclcaaPLineStaysx2
import Derived.Test.YtblcmcdifgclcaaPLineStaysx3
import Derived.Test.YtblcmcdifgclcaaPLineStaysx4
namespace Go.Proofs.Ytblcmcdifgclcaa.PLineStays
open Go.RowKit Go.Proofs.YtblcmcdifgclcaaW.PrintWords Go.Proofs.YtblcmcdifgclcaaW.PrintLast Go.Proofs.YtblcmcdifgclcaaW.PrintMore
attribute [local go_sem] max2_int min2_int max_two min_two max_three min_three max_four min_four   -- for this text's walks alone
set_option linter.unusedVariables false
set_option linter.unusedSimpArgs false

end Go.Proofs.Ytblcmcdifgclcaa.PLineStays
