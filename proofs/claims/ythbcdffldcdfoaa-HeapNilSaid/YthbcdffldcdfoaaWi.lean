/- Walks: all places of a term, by the program. -/
import Derived.Test.YthbcdffldcdfoaaWh
set_option linter.unusedVariables false
set_option linter.unusedSimpArgs false
/- short -/
namespace Go.Proofs.Ythbcdffldcdfoaa
open Go Lg

end Go.Proofs.Ythbcdffldcdfoaa
