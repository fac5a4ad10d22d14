/- What the law KeygramCuts reaches: each function with its contract. -/
import Derived.Test.YtpephndecdkfhaaPKeygramCutsx0
import Derived.Test.YtpephndecdkfhaaPKeygramCutsx1
import Derived.Test.YtpephndecdkfhaaPKeygramCutsx2
namespace Go.Proofs.Ytpephndecdkfhaa.PKeygramCuts
open Go.RowKit Go.Proofs.YtpephndecdkfhaaW.PrintWords Go.Proofs.YtpephndecdkfhaaW.PrintLast Go.Proofs.YtpephndecdkfhaaW.PrintMore
attribute [local go_sem] max2_int min2_int max_two min_two max_three min_three max_four min_four   -- for this text's walks alone
set_option linter.unusedVariables false
set_option linter.unusedSimpArgs false

end Go.Proofs.Ytpephndecdkfhaa.PKeygramCuts
