/- Walks: copies, places. -/
import Derived.Test.YthbcdffldcdfoaaWa
import Derived.Test.YthbcdffldcdfoaaWb
set_option linter.unusedVariables false
set_option linter.unusedSimpArgs false
/- short -/
namespace Go.Proofs.Ythbcdffldcdfoaa
open Go Lg

end Go.Proofs.Ythbcdffldcdfoaa
