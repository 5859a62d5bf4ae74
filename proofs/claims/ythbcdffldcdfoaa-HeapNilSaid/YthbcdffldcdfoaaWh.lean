/- Walks: all places of a term. -/
import Derived.Test.YthbcdffldcdfoaaWg
set_option linter.unusedVariables false
set_option linter.unusedSimpArgs false
/- short -/
namespace Go.Proofs.Ythbcdffldcdfoaa
open Go Lg

mutual
def allT : T → List (List Int)
  | .mk _ ts => [] :: allL 0 ts
def allL : Nat → List T → List (List Int)
  | _, [] => []
  | i, t :: r => (allT t).map ((i : Int) :: ·) ++ allL (i + 1) r
end
mutual
theorem allT_length : ∀ t : T, (allT t).length = t.size
  | .mk h ts => by simp [allT, T.size, allL_length 0 ts]; omega
theorem allL_length : ∀ (i : Nat) (ts : List T), (allL i ts).length = sizeL ts
  | _, [] => rfl
  | i, t :: r => by simp [allL, sizeL, allT_length t, allL_length (i + 1) r]
end
mutual
theorem allT_deep : ∀ (t : T) (p : List Int), p ∈ allT t → p.length + 1 ≤ t.size
  | .mk h ts, p, hp => by
    simp only [allT, List.mem_cons] at hp
    rcases hp with rfl | hp
    · simp [T.size]
    · have := allL_deep 0 ts p hp; simp [T.size]; omega
theorem allL_deep : ∀ (i : Nat) (ts : List T) (p : List Int), p ∈ allL i ts → p.length ≤ sizeL ts
  | _, [], p, hp => by simp [allL] at hp
  | i, t :: r, p, hp => by
    simp only [allL, List.mem_append, List.mem_map] at hp
    rcases hp with ⟨q, hq, rfl⟩ | hp
    · have := allT_deep t q hq; simp [sizeL]; omega
    · have := allL_deep (i + 1) r p hp; simp [sizeL]; omega
end
theorem allL_drop (ts : List T) (k : Nat) (h : k < ts.length) : allL k (ts.drop k) = (allT ts[k]).map ((k : Int) :: ·) ++ allL (k + 1) (ts.drop (k + 1)) := by
  rw [List.drop_eq_getElem_cons h]; simp [allL]

end Go.Proofs.Ythbcdffldcdfoaa
