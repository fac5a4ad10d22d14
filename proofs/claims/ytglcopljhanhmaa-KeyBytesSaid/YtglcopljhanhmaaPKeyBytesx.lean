/- What the law KeyBytes reaches: each function with its contract. -/
import Derived.Test.YtglcopljhanhmaaPKeyBytesx0
import Derived.Test.YtglcopljhanhmaaPKeyBytesx1
import Derived.Test.YtglcopljhanhmaaPKeyBytesx2
import Derived.Test.YtglcopljhanhmaaPKeyBytesx3
import Derived.Test.YtglcopljhanhmaaPKeyBytesx4
namespace Go.Proofs.Ytglcopljhanhmaa.PKeyBytes
open Go.RowKit Go.Proofs.YtglcopljhanhmaaW.PrintWords Go.Proofs.YtglcopljhanhmaaW.PrintLast Go.Proofs.YtglcopljhanhmaaW.PrintMore
attribute [local go_sem] isSome_setCell max2_int min2_int max_two min_two max_three min_three max_four min_four   -- for this text's walks alone
set_option linter.unusedVariables false
set_option linter.unusedSimpArgs false

end Go.Proofs.Ytglcopljhanhmaa.PKeyBytes
