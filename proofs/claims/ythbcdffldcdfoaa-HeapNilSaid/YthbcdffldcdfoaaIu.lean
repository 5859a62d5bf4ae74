/- Walk: a term's parts, ranged over. -/
import Derived.Test.YthbcdffldcdfoaaIt
set_option linter.unusedVariables false
set_option linter.unusedSimpArgs false
/- short -/
namespace Go.Proofs.Ythbcdffldcdfoaa
open Go Lg

theorem Lg.OpsJ.rowSome {C : Ctx} {Q : Exit → Act → World → Prop} {σ : Env} {ds : List Nat} {I : Imm} {δ : List Ent} {ops : Array Oper} {rest : List Oper} {A : Option Addr} {c n size : Nat} {e : TypeId} {xs : List Value} (hd : Has δ (.row (.slice A n c) e size n xs)) (hn : 0 < n)
    (h : A.isSome = true → n ≤ c → OpsJ C ops Q rest σ ds I δ) : OpsJ C ops Q rest σ ds I δ := by
  intro a w he hs ht
  have hr : w.ownsRow 0 e size (.slice A n c) n xs := hs.ents _ hd.mem
  rcases hr.2 with ⟨h1, h2⟩ | ⟨g, cap, cur, h1, _, _, h3, _⟩
  · omega
  · cases h1
    exact h rfl h3 a w he hs ht

theorem partsT_eq (d : Nat) (u : T) : partsT d u = (d, u) :: partsL (d + 1) u.args := by cases u; rfl
def encP (I : Imm) (x : Nat × T) (vs : List Value) : Prop :=
  ∃ a c, vs = [.int .i64 x.1, .agg #[.int .i64 x.2.head, .slice a x.2.args.length c]] ∧ RepT I (.agg #[.int .i64 x.2.head, .slice a x.2.args.length c]) x.2

end Go.Proofs.Ythbcdffldcdfoaa
