/- Walks: places, by definition. -/
import Derived.Test.YthbcdffldcdfoaaWc
set_option linter.unusedVariables false
set_option linter.unusedSimpArgs false
/- short -/
namespace Go.Proofs.Ythbcdffldcdfoaa
open Go Lg

def AtR (t : T) (p : List Int) (v : Value) (I : Imm) : Prop := ∃ u, v = .tuple #[u, .bool (atT t p).isSome] ∧ RepT I u ((atT t p).getD zeroT)

end Go.Proofs.Ythbcdffldcdfoaa
