/- Walks: another part put at a place, by the program. -/
import Derived.Test.YthbcdffldcdfoaaWk
set_option linter.unusedVariables false
set_option linter.unusedSimpArgs false
/- short -/
namespace Go.Proofs.Ythbcdffldcdfoaa
open Go Lg

end Go.Proofs.Ythbcdffldcdfoaa
