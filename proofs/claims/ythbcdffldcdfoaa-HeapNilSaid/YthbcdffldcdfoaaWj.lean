/- Walks: another part put at a place, by definition. -/
import Derived.Test.YthbcdffldcdfoaaWi
set_option linter.unusedVariables false
set_option linter.unusedSimpArgs false
/- short -/
namespace Go.Proofs.Ythbcdffldcdfoaa
open Go Lg

/-- another part at a place that is there -/
def putT : T → List Int → T → T
  | _, [], u => u
  | t, x :: r, u => .mk t.head (t.args.set x.toNat (putT (t.args.getD x.toNat zeroT) r u))

theorem atT_cons {t : T} {x : Int} {r : List Int} (h : (atT t (x :: r)).isSome = true) : ∃ i : Nat, x = i ∧ ∃ hi : i < t.args.length, (atT t.args[i] r).isSome = true := by
  unfold atT at h
  by_cases hh : 0 ≤ x ∧ x.toNat < t.args.length
  · rw [dif_pos hh] at h
    obtain ⟨i, rfl⟩ := Int.eq_ofNat_of_zero_le hh.1
    exact ⟨i, rfl, hh.2, h⟩
  · rw [dif_neg hh] at h; cases h

def PutR (t : T) (p : List Int) (u : T) (v : Value) (I : Imm) : Prop :=
  ∃ x, v = .tuple #[x, .int .i64 (if (atT t p).isSome then 0 else 6)] ∧ RepT I x (if (atT t p).isSome then putT t p u else zeroT)

end Go.Proofs.Ythbcdffldcdfoaa
