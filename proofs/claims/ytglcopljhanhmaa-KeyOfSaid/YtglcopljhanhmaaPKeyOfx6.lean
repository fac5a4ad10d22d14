/- What the law KeyOf reaches: each function with its contract. -/
import Derived.Test.YtglcopljhanhmaaPKeyOfx0
namespace Go.Proofs.Ytglcopljhanhmaa.PKeyOf
open Go.RowKit Go.Proofs.YtglcopljhanhmaaW.PrintWords Go.Proofs.YtglcopljhanhmaaW.PrintLast Go.Proofs.YtglcopljhanhmaaW.PrintMore
attribute [local go_sem] isSome_setCell max2_int min2_int max_two min_two max_three min_three max_four min_four   -- for this text's walks alone
set_option linter.unusedVariables false
set_option linter.unusedSimpArgs false

-- NOT PRINTED: function 12 (prolepsislaw22_KeyOf)

end Go.Proofs.Ytglcopljhanhmaa.PKeyOf
