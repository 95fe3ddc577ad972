import Derived.Test.YtgcbhbcmohcdpaaGreatSupC
import Derived.Test.YtgcbhbcmohcdpaaGreatHpEq
set_option linter.unusedVariables false
set_option linter.unusedSimpArgs false
namespace Go.Hp
open Go Go.Proofs
set_option maxRecDepth 10000

end Go.Hp
