/- Plain facts on terms. No condition. -/
import Derived.Test.YthbcdffldcdfoaaRep
set_option linter.unusedVariables false
set_option linter.unusedSimpArgs false
namespace Go.Proofs.Ythbcdffldcdfoaa

mutual
def T.size : T → Nat
  | .mk _ ars => 1 + sizeL ars
def sizeL : List T → Nat
  | [] => 0
  | t :: r => t.size + sizeL r
end
theorem T.size_pos (t : T) : 1 ≤ t.size := by cases t; simp [T.size]
theorem sizeL_drop (ars : List T) (k : Nat) (h : k < ars.length) : sizeL (ars.drop k) = ars[k].size + sizeL (ars.drop (k + 1)) := by
  rw [List.drop_eq_getElem_cons h]; simp [sizeL]
theorem sizeL_mem : ∀ (ars : List T) (k : Nat) (h : k < ars.length), ars[k].size ≤ sizeL ars
  | t :: r, 0, _ => by simp [sizeL]
  | t :: r, k + 1, h => by
    have := sizeL_mem r k (by simpa using h)
    simp [sizeL]; omega
theorem sizeL_len : ∀ (ars : List T), ars.length ≤ sizeL ars
  | [] => by simp [sizeL]
  | t :: r => by have := sizeL_len r; have := t.size_pos; simp [sizeL]; omega

def ordI (a b : Int) : Int := if a < b then -1 else if a > b then 1 else 0
mutual
def cmpT : T → T → Int
  | .mk h ars, .mk g bs =>
    if 1 + sizeL ars ≠ 1 + sizeL bs then ordI (1 + sizeL ars : Nat) (1 + sizeL bs : Nat)
    else if h ≠ g then ordI h g
    else if ars.length ≠ bs.length then ordI ars.length bs.length
    else cmpL ars bs
def cmpL : List T → List T → Int
  | a :: ars, b :: bs => if cmpT a b ≠ 0 then cmpT a b else cmpL ars bs
  | _, _ => 0
end
theorem ordI_range (a b : Int) : -1 ≤ ordI a b ∧ ordI a b ≤ 1 := by
  unfold ordI
  split
  · omega
  · split <;> omega
mutual
theorem cmpT_range : ∀ (a b : T), -1 ≤ cmpT a b ∧ cmpT a b ≤ 1
  | .mk h ars, .mk g bs => by
    unfold cmpT
    split
    · exact ordI_range _ _
    · split
      · exact ordI_range _ _
      · split
        · exact ordI_range _ _
        · exact cmpL_range ars bs
theorem cmpL_range : ∀ (a b : List T), -1 ≤ cmpL a b ∧ cmpL a b ≤ 1
  | [], _ => by simp [cmpL]
  | _ :: _, [] => by simp [cmpL]
  | a :: ars, b :: bs => by
    unfold cmpL
    split
    · exact cmpT_range a b
    · exact cmpL_range ars bs
end
theorem ordI_zero {a b : Int} (h : ordI a b = 0) : a = b := by
  unfold ordI at h
  split at h
  · omega
  · split at h <;> omega
mutual
theorem cmpT_zero : ∀ (a b : T), cmpT a b = 0 → a = b
  | .mk h ars, .mk g bs, e => by
    unfold cmpT at e
    split at e
    · have := ordI_zero e; omega
    · split at e
      · exact absurd (ordI_zero e) (by assumption)
      · split at e
        · have := ordI_zero e; omega
        · rename_i h1 h2 h3
          have h2' : h = g := by omega
          have h3' : ars.length = bs.length := by omega
          rw [h2', cmpL_zero ars bs h3' e]
theorem cmpL_zero : ∀ (a b : List T), a.length = b.length → cmpL a b = 0 → a = b
  | [], [], _, _ => rfl
  | [], _ :: _, h, _ => by simp at h
  | _ :: _, [], h, _ => by simp at h
  | a :: ars, b :: bs, h, e => by
    unfold cmpL at e
    split at e
    · rename_i hne; exact absurd e hne
    · rename_i h0
      have h0' : cmpT a b = 0 := by omega
      rw [cmpT_zero a b h0', cmpL_zero ars bs (by simpa using h) e]
end
mutual
theorem cmpT_self : ∀ (a : T), cmpT a a = 0
  | .mk h ars => by simp [cmpT, cmpL_self ars]
theorem cmpL_self : ∀ (a : List T), cmpL a a = 0
  | [] => by simp [cmpL]
  | a :: ars => by simp [cmpL, cmpT_self a, cmpL_self ars]
end
theorem cmpT_eq (a b : T) : cmpT a b = 0 ↔ a = b := ⟨cmpT_zero a b, fun h => by subst h; exact cmpT_self a⟩
theorem cmpL_drop (ars bs : List T) (k : Nat) (h : k < ars.length) (h' : k < bs.length) :
    cmpL (ars.drop k) (bs.drop k) = if cmpT ars[k] bs[k] ≠ 0 then cmpT ars[k] bs[k] else cmpL (ars.drop (k + 1)) (bs.drop (k + 1)) := by
  rw [List.drop_eq_getElem_cons h, List.drop_eq_getElem_cons h', cmpL]
/-- the part at a place -/
def atT : T → List Int → Option T
  | t, [] => some t
  | t, x :: r => if h : 0 ≤ x ∧ x.toNat < t.args.length then atT (t.args[x.toNat]'h.2) r else none
instance : DecidableEq T := fun a b => if h : cmpT a b = 0 then .isTrue ((cmpT_eq a b).1 h) else .isFalse fun e => h ((cmpT_eq a b).2 e)
end Go.Proofs.Ythbcdffldcdfoaa
