/- What the law KeygramParses reaches: each function with its contract. -/
import Derived.Test.YtpephndecdkfhaaPKeygramParsesx0
import Derived.Test.YtpephndecdkfhaaPKeygramParsesx1
import Derived.Test.YtpephndecdkfhaaPKeygramParsesx2
import Derived.Test.YtpephndecdkfhaaPKeygramParsesx3
import Derived.Test.YtpephndecdkfhaaPKeygramParsesx4
import Derived.Test.YtpephndecdkfhaaPKeygramParsesx5
import Derived.Test.YtpephndecdkfhaaPKeygramParsesx6
namespace Go.Proofs.Ytpephndecdkfhaa.PKeygramParses
open Go.RowKit Go.Proofs.YtpephndecdkfhaaW.PrintWords Go.Proofs.YtpephndecdkfhaaW.PrintLast Go.Proofs.YtpephndecdkfhaaW.PrintMore
attribute [local go_sem] isSome_setCell max2_int min2_int max_two min_two max_three min_three max_four min_four   -- for this text's walks alone
set_option linter.unusedVariables false
set_option linter.unusedSimpArgs false

end Go.Proofs.Ytpephndecdkfhaa.PKeygramParses
