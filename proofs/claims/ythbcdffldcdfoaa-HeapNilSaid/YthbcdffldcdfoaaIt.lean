/- Walks: what is ranged over: a row from behind, a term's parts. -/
import Derived.Test.YthbcdffldcdfoaaPt
import Derived.Test.YthbcdffldcdfoaaWa
set_option linter.unusedVariables false
set_option linter.unusedSimpArgs false
/- short -/
namespace Go.Proofs.Ythbcdffldcdfoaa
open Go Lg

def encB (ts : List T) (ss : Nat → Option Addr × Nat) (_ : Imm) (i : Nat) (vs : List Value) : Prop :=
  ∃ hi : i < ts.length, vs = [.int .i64 i, .agg #[.int .i64 ts[i].head, .slice (ss i).1 ts[i].args.length (ss i).2]]
end Go.Proofs.Ythbcdffldcdfoaa
