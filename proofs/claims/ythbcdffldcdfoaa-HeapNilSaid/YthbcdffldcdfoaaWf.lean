/- Walks: the part at a place. -/
import Derived.Test.YthbcdffldcdfoaaWd
import Derived.Test.YthbcdffldcdfoaaWe
set_option linter.unusedVariables false
set_option linter.unusedSimpArgs false
/- short -/
namespace Go.Proofs.Ythbcdffldcdfoaa
open Go Lg

end Go.Proofs.Ythbcdffldcdfoaa
