/- Plain facts on places: what is put is there, what is apart stays. No condition. -/
import Derived.Test.YtdcklngleglbbaaWn
set_option linter.unusedVariables false
set_option linter.unusedSimpArgs false
namespace Go.Proofs.Ytdcklngleglbbaa
open Go Lg

theorem putT_c (t u : T) (i : Nat) (r : List Int) (h : i < t.args.length) : putT t ((i : Int) :: r) u = .mk t.head (t.args.set i (putT t.args[i] r u)) := by
  simp [putT, h]
theorem atT_i (t : T) (i : Nat) (r : List Int) (h : i < t.args.length) : atT t ((i : Int) :: r) = atT t.args[i] r := by
  rw [atT_c]; simp [h]
theorem atT_put : ∀ (p : List Int) (t u : T), (atT t p).isSome = true → atT (putT t p u) p = some u
  | [], t, u, _ => by simp [atT, putT]
  | x :: r, t, u, h => by
    obtain ⟨i, rfl, hi, hs⟩ := atT_cons h
    rw [putT_c t u i r hi, atT_i _ i r (by simp [T.args]; exact hi)]
    have e : (T.mk t.head (t.args.set i (putT t.args[i] r u))).args[i]'(by simp [T.args]; exact hi) = putT t.args[i] r u := by simp [T.args]
    rw [e]
    exact atT_put r _ u hs
theorem putT_at : ∀ (p : List Int) (t o : T), atT t p = some o → putT t p o = t
  | [], t, o, h => by simp [atT] at h; simp [putT, h]
  | x :: r, t, o, h => by
    obtain ⟨i, rfl, hi, hs⟩ := atT_cons (t := t) (x := x) (r := r) (by rw [h]; rfl)
    rw [atT_i t i r hi] at h
    rw [putT_c t o i r hi, putT_at r _ o h, List.set_getElem_self]
    cases t; rfl
theorem under_c (i : Int) (r s : List Int) : underL (i :: r) (i :: s) = underL r s := by simp [underL]
theorem under_nil (q : List Int) : underL [] q = true := by simp [underL]
theorem atT_apart : ∀ (p q : List Int) (t u : T), (atT t p).isSome = true → underL p q = false → underL q p = false → atT (putT t p u) q = atT t q
  | [], q, t, u, _, h, _ => by rw [under_nil] at h; cases h
  | x :: r, [], t, u, _, _, h => by rw [under_nil] at h; cases h
  | x :: r, y :: s, t, u, hs, h1, h2 => by
    obtain ⟨i, rfl, hi, hs'⟩ := atT_cons hs
    rw [putT_c t u i r hi, atT_c, atT_c]
    by_cases hy : y = (i : Int)
    · subst hy
      rw [under_c] at h1 h2
      have := atT_apart r s _ u hs' h1 h2
      simp [T.args] at hi ⊢
      simpa [hi, T.args] using this
    · by_cases hyl : 0 ≤ y ∧ y.toNat < t.args.length
      · have hne : i ≠ y.toNat := by omega
        rw [dif_pos hyl, dif_pos ⟨hyl.1, by show y.toNat < (t.args.set i _).length; simp; exact hyl.2⟩]
        have e : (T.mk t.head (t.args.set i (putT t.args[i] r u))).args[y.toNat]'(by show y.toNat < (t.args.set i _).length; simp; exact hyl.2) = t.args[y.toNat]'hyl.2 := by
          show (t.args.set i _)[y.toNat]'_ = _
          exact List.getElem_set_ne hne _
        rw [e]
      · rw [dif_neg hyl, dif_neg (fun hh => hyl ⟨hh.1, by have : y.toNat < (t.args.set i (putT t.args[i] r u)).length := hh.2; simpa using this⟩)]
theorem putT_app : ∀ (p q : List Int) (t a u : T), atT t p = some a → putT t (p ++ q) u = putT t p (putT a q u)
  | [], q, t, a, u, h => by simp [atT] at h; subst h; simp [putT]
  | x :: r, q, t, a, u, h => by
    obtain ⟨i, rfl, hi, hs⟩ := atT_cons (t := t) (x := x) (r := r) (by rw [h]; rfl)
    rw [atT_i t i r hi] at h
    rw [List.cons_append, putT_c t _ i _ hi, putT_c t _ i _ hi, putT_app r q _ a u h]
theorem sizeL_set : ∀ (l : List T) (i : Nat) (x : T) (h : i < l.length), sizeL (l.set i x) + l[i].size = sizeL l + x.size
  | t :: r, 0, x, _ => by simp [sizeL]; omega
  | t :: r, i + 1, x, h => by
    have := sizeL_set r i x (by simpa using h)
    simp [sizeL]; omega
theorem size_eq (t : T) : t.size = 1 + sizeL t.args := by cases t; simp [T.size, T.args]
theorem putT_size : ∀ (p : List Int) (t u : T), (atT t p).isSome = true → (putT t p u).size ≤ t.size + u.size
  | [], t, u, _ => by simp [putT]
  | x :: r, t, u, h => by
    obtain ⟨i, rfl, hi, hs⟩ := atT_cons h
    have h1 := putT_size r _ u hs
    have h2 := sizeL_set t.args i (putT t.args[i] r u) hi
    have h3 := size_eq t
    rw [putT_c t u i r hi, T.size]; omega
theorem atT_size : ∀ (p : List Int) (t : T), ((atT t p).getD zeroT).size ≤ t.size
  | [], t => by simp [atT]
  | x :: r, t => by
    rw [atT_c]
    by_cases h : 0 ≤ x ∧ x.toNat < t.args.length
    · rw [dif_pos h]
      have h1 := atT_size r (t.args[x.toNat]'h.2)
      have h2 := sizeL_mem t.args x.toNat h.2
      have h3 := size_eq t
      omega
    · rw [dif_neg h]
      have := t.size_pos
      simpa [zeroT, T.size, sizeL] using this

/-! ### contracts, with their answers by name -/
theorem few_is {I : Imm} {v vp : Value} {t : T} {p : List Int} {b : Bool} (hv : RepT I v t) (hp : RInts I vp p) (h : decide (t.size ≤ 500 ∧ p.length ≤ 100) = b) :
    Does Try.prog 15 [v, vp] I [] (fun v I' δ' => v = .bool b ∧ δ' = []) := by subst h; exact few_does I v vp t p hv hp
theorem Few_is {I : Imm} {v : Value} {t : T} {b : Bool} (hv : RepT I v t) (h : decide (t.size ≤ 500) = b) :
    Does Try.prog 16 [v] I [] (fun v I' δ' => v = .bool b ∧ δ' = []) := by subst h; exact Few_does I v t hv
theorem Same_is {I : Imm} {v w : Value} {t u : T} (hv : RepT I v t) (hw : RepT I w u) (hbt : t.size ≤ 1000000000) (h : t = u) :
    Does Try.prog 26 [v, w] I [] (fun v I' δ' => v = .bool true ∧ δ' = []) := by
  subst h
  exact (Same_does I v w t t hv hw hbt hbt).mono fun _ _ _ _ ⟨h1, h2⟩ => ⟨by rw [h1]; simp, h2⟩
/-- a part, laid out -/
def OutT (g : T) (s : Value) (v : Value) (I : Imm) : Prop := ∃ a c, v = .tuple #[.agg #[.int .i64 g.head, .slice a g.args.length c], s] ∧ RepT I (.agg #[.int .i64 g.head, .slice a g.args.length c]) g
theorem At_is {I : Imm} {v vp : Value} {t : T} {p : List Int} {s : Bool} (hv : RepT I v t) (hp : RInts I vp p) (h : (atT t p).isSome = s) :
    Does Try.prog 18 [v, vp] I [] (fun v I' δ' => OutT ((atT t p).getD zeroT) (.bool s) v I' ∧ δ' = []) := by
  subst h
  exact (At_does p t I v vp hv hp).mono fun _ _ _ _ ⟨⟨u, h1, h2⟩, h3⟩ => by
    obtain ⟨a, c, rfl, _⟩ := h2.shape
    exact ⟨⟨a, c, h1, h2⟩, h3⟩
theorem At2_is {I : Imm} {v vp : Value} {t : T} {p : List Int} {s : Bool} (hv : RepT I v t) (hp : RInts I vp p) (h : (atT t p).isSome = s) :
    Does Try.prog 19 [v, vp] I [] (fun v I' δ' => OutT ((atT t p).getD zeroT) (.bool s) v I' ∧ δ' = []) := by
  subst h
  exact (At2_does p t I v vp hv hp).mono fun _ _ _ _ ⟨⟨u, h1, h2⟩, h3⟩ => by
    obtain ⟨a, c, rfl, _⟩ := h2.shape
    exact ⟨⟨a, c, h1, h2⟩, h3⟩
def outP (t : T) (p : List Int) (u : T) : T := if (atT t p).isSome then putT t p u else zeroT
theorem outP_size (t : T) (p : List Int) (u : T) : (outP t p u).size ≤ t.size + u.size := by
  unfold outP
  split
  · exact putT_size p t u ‹_›
  · have := t.size_pos; simp [zeroT, T.size, sizeL]; omega
theorem Put_is {I : Imm} {v vp vu : Value} {t u : T} {p : List Int} {s : Bool} (hv : RepT I v t) (hp : RInts I vp p) (hu : RepT I vu u) (h : (atT t p).isSome = s) :
    Does Try.prog 20 [v, vp, vu] I [] (fun v I' δ' => OutT (outP t p u) (.int .i64 (bif s then 0 else 6)) v I' ∧ δ' = []) := by
  subst h
  exact (Put_does p t u I v vp vu hv hp hu).mono fun _ _ _ _ ⟨⟨x, h1, h2⟩, h3⟩ => by
    change RepT _ x (outP t p u) at h2
    obtain ⟨a, c, rfl, _⟩ := h2.shape
    refine ⟨⟨a, c, ?_, h2⟩, h3⟩
    have e : (if (atT t p).isSome then (0 : Int) else 6) = bif (atT t p).isSome then 0 else 6 := by cases (atT t p).isSome <;> rfl
    rw [h1, e]
theorem Put2_is {I : Imm} {v vp vu : Value} {t u : T} {p : List Int} {s : Bool} (hv : RepT I v t) (hp : RInts I vp p) (hu : RepT I vu u) (h : (atT t p).isSome = s) :
    Does Try.prog 21 [v, vp, vu] I [] (fun v I' δ' => OutT (outP t p u) (.int .i64 (bif s then 0 else 6)) v I' ∧ δ' = []) := by
  subst h
  exact (Put2_does p t u I v vp vu hv hp hu).mono fun _ _ _ _ ⟨⟨x, h1, h2⟩, h3⟩ => by
    change RepT _ x (outP t p u) at h2
    obtain ⟨a, c, rfl, _⟩ := h2.shape
    refine ⟨⟨a, c, ?_, h2⟩, h3⟩
    have e : (if (atT t p).isSome then (0 : Int) else 6) = bif (atT t p).isSome then 0 else 6 := by cases (atT t p).isSome <;> rfl
    rw [h1, e]
theorem Copy_is {I : Imm} {v : Value} {t : T} (hv : RepT I v t) :
    Does Try.prog 17 [v] I [] (fun v I' δ' => (∃ a c, v = .agg #[.int .i64 t.head, .slice a t.args.length c] ∧ RepT I' (.agg #[.int .i64 t.head, .slice a t.args.length c]) t) ∧ δ' = []) :=
  (Copy_does t.size t (Nat.le_refl _) I v hv).mono fun _ _ _ _ ⟨h1, h2⟩ => by
    obtain ⟨a, c, rfl, _⟩ := h1.shape
    exact ⟨⟨a, c, rfl, h1⟩, h2⟩
theorem SameP_is {I : Imm} {va vb : Value} {ps : List (List Int)} (ha : RPs I va ps) (hb : RPs I vb ps) :
    Does Try.prog 23 [va, vb] I [] (fun v I' δ' => v = .bool true ∧ δ' = []) :=
  (Same2_does I ha hb).mono fun _ _ _ _ ⟨h1, h2⟩ => ⟨by rw [h1]; simp, h2⟩
end Go.Proofs.Ytdcklngleglbbaa
