/- Walks: size, depth, variables and rightness of a term, by the program. -/
import Derived.Test.YthbcdffldcdfoaaIu
set_option linter.unusedVariables false
set_option linter.unusedSimpArgs false
/- short -/
namespace Go.Proofs.Ythbcdffldcdfoaa
open Go Lg

/-! ### models -/
mutual
def depT : T → Nat
  | .mk _ ts => 1 + depL ts
def depL : List T → Nat
  | [] => 0
  | t :: r => max (depT t) (depL r)
end
def deepP (l : List (Nat × T)) : Nat := l.foldl (fun m x => max m x.1) 0
theorem deepP_snoc (l : List (Nat × T)) (x : Nat × T) : deepP (l ++ [x]) = max (deepP l) x.1 := by simp [deepP]
theorem foldl_max (l : List (Nat × T)) (m : Nat) : l.foldl (fun m x => max m x.1) m = max m (deepP l) := by
  induction l generalizing m with
  | nil => simp [deepP]
  | cons x r ih => rw [deepP, List.foldl_cons, List.foldl_cons, ih, ih]; omega
theorem deepP_app (l r : List (Nat × T)) : deepP (l ++ r) = max (deepP l) (deepP r) := by rw [deepP, List.foldl_append, foldl_max]; rfl
theorem deepP_cons (x : Nat × T) (r : List (Nat × T)) : deepP (x :: r) = max x.1 (deepP r) := by rw [deepP, List.foldl_cons, foldl_max]; omega
mutual
theorem deepP_T : ∀ (d : Nat) (t : T), deepP (partsT d t) + 1 = d + depT t
  | d, .mk h ts => by
    rw [partsT, deepP_cons]
    have := deepP_L (d + 1) ts
    simp only [depT]
    rcases this with ⟨rfl, h1⟩ | h1
    · simp [partsL, deepP, depL]
    · omega
theorem deepP_L : ∀ (d : Nat) (ts : List T), (ts = [] ∧ deepP (partsL d ts) = 0) ∨ deepP (partsL d ts) + 1 = d + depL ts
  | d, [] => .inl ⟨rfl, rfl⟩
  | d, t :: r => by
    right
    rw [partsL, deepP_app]
    have h1 := deepP_T d t
    have hd : 1 ≤ depT t := by cases t; simp [depT]
    simp only [depL]
    rcases deepP_L d r with ⟨hr, h2⟩ | h2
    · subst hr
      have h3 : depL ([] : List T) = 0 := by simp [depL]
      rw [h2, h3]; omega
    · omega
end
theorem dep_deep (t : T) : deepP (partsT 1 t) = depT t := by have := deepP_T 1 t; omega
mutual
theorem depT_size : ∀ t : T, depT t ≤ t.size
  | .mk h ts => by have := depL_size ts; simp [depT, T.size]; omega
theorem depL_size : ∀ ts : List T, depL ts ≤ sizeL ts
  | [] => by simp [depL, sizeL]
  | t :: r => by have := depT_size t; have := depL_size r; simp [depL, sizeL]; omega
end

end Go.Proofs.Ythbcdffldcdfoaa
