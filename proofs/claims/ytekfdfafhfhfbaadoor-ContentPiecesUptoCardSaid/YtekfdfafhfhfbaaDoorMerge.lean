/- Two rising lists of attributes gone through key by key. Plain lists. (under way) -/
import Derived.Test.YtekfdfafhfhfbaaDoorAt
set_option linter.unusedVariables false
set_option linter.unusedSimpArgs false
namespace Go.Proofs.YtekfdfafhfhfbaaDoor
open Go RX

end Go.Proofs.YtekfdfafhfhfbaaDoor
