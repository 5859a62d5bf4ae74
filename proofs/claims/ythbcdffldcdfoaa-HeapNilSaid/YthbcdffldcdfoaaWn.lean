/- Walk: the statement on places under others. -/
import Derived.Test.YthbcdffldcdfoaaWm
set_option linter.unusedVariables false
set_option linter.unusedSimpArgs false
/- short -/
namespace Go.Proofs.Ythbcdffldcdfoaa
open Go Lg

theorem Ints_is {I : Imm} {va vb : Value} {xs ys : List Int} {a : Bool} (ha : RInts I va xs) (hb : RInts I vb ys) (h : decide (xs = ys) = a) :
    Does Try.prog 51 [va, vb] I [] (fun v I' δ' => v = .bool a ∧ δ' = []) := by subst h; exact Ints_does I ha hb

theorem under_trans {p q o : List Int} (h : underL p q = true) (k : underL q o = true) : underL p o = true := by
  simp only [underL, decide_eq_true_eq] at *
  refine ⟨by omega, ?_⟩
  obtain ⟨h1, h2⟩ := h
  obtain ⟨k1, k2⟩ := k
  rw [k2, List.take_take, Nat.min_eq_left h1] at h2
  exact h2
theorem under_both {p q : List Int} (h : underL p q = true) (k : underL q p = true) : p = q := by
  simp only [underL, decide_eq_true_eq] at *
  have hl : p.length = q.length := by omega
  have := h.2
  rw [hl, List.take_length] at this
  exact this

end Go.Proofs.Ythbcdffldcdfoaa
