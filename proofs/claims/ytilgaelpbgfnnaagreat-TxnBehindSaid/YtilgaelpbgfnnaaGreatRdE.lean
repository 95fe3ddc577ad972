import Derived.Test.YtilgaelpbgfnnaaGreatRdD
set_option linter.unusedVariables false
set_option linter.unusedSimpArgs false
namespace Go.Hp
open Go Go.Proofs

end Go.Hp
