/- What the law ParseEvents reaches: each function with its contract. -/
import Derived.Test.YtlllbaieidbcdaaPParseEventsx0
import Derived.Test.YtlllbaieidbcdaaPParseEventsx1
import Derived.Test.YtlllbaieidbcdaaPParseEventsx2
import Derived.Test.YtlllbaieidbcdaaPParseEventsx3
import Derived.Test.YtlllbaieidbcdaaPParseEventsx4
namespace Go.Proofs.Ytlllbaieidbcdaa.PParseEvents
open Go.RowKit Go.Proofs.YtlllbaieidbcdaaW.PrintWords Go.Proofs.YtlllbaieidbcdaaW.PrintLast Go.Proofs.YtlllbaieidbcdaaW.PrintMore
attribute [local go_sem] isSome_setCell max2_int min2_int max_two min_two max_three min_three max_four min_four   -- for this text's walks alone
set_option linter.unusedVariables false
set_option linter.unusedSimpArgs false

end Go.Proofs.Ytlllbaieidbcdaa.PParseEvents
