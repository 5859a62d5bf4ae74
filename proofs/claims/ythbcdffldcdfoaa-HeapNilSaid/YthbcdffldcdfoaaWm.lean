/- Walks: the document's example on places. -/
import Derived.Test.YthbcdffldcdfoaaWl
set_option linter.unusedVariables false
set_option linter.unusedSimpArgs false
/- short -/
namespace Go.Proofs.Ythbcdffldcdfoaa
open Go Lg

theorem RowT.repS {I : Imm} {ad : Option Addr} {n c : Nat} {xs : List Value} {ts : List T} (hn : n = ts.length) (hc : Cells I ad xs) (hr : RowT I xs ts) (hle : n ≤ c) (hb : n ≤ 4398046511104) : RepS I (.slice ad n c) ts := by
  subst hn
  exact RepT.args (RowT.rep (h := 0) hc hr (by unfold InR; omega) hle hb)
theorem RInts.lit {I : Imm} {ad : Option Addr} {n c : Nat} {xs : List Int} (hat : Cells I ad (xs.map (Value.int .i64))) (hc : n ≤ c) (hr : xs.all (fun x => decide (0 ≤ x ∧ x ≤ 1000)) = true) (hn : n = xs.length := by rfl) (hb : n ≤ 17592186044416 := by decide) : RInts I (.slice ad n c) xs :=
  RInts.of hn hc hb hat (fun x hx => by have := List.all_eq_true.1 hr x hx; simp at this; unfold InR; omega)

def tA : T := .mk 4 [.mk 1 [], .mk 3 [.mk 2 []]]
end Go.Proofs.Ythbcdffldcdfoaa
