/- Heaps of items: plain facts. No condition. -/
import Derived.Test.YthbcdffldcdfoaaLgj
import Derived.Test.YthbcdffldcdfoaaIw
import Derived.Test.YthbcdffldcdfoaaWk
set_option linter.unusedVariables false
set_option linter.unusedSimpArgs false
set_option linter.unnecessarySimpa false
namespace Go.Proofs.Ythbcdffldcdfoaa
open Go Lg

abbrev It := Int × Int
abbrev itC (x : It) : List Value := [.int .i64 x.1, .int .i64 x.2]
def itL (xs : List It) : List Value := xs.flatMap itC
theorem itL_len (xs : List It) : (itL xs).length = xs.length * 2 := by
  induction xs with
  | nil => rfl
  | cons x r ih => simp only [itL, List.flatMap_cons, List.length_append, List.length_cons, List.length_nil] at ih ⊢; omega
theorem itL_snoc (xs : List It) (x : It) : itL (xs ++ [x]) = itL xs ++ itC x := by simp [itL]
theorem itL_at : ∀ (xs : List It) (i : Nat) (h : i < xs.length), (itL xs)[i * 2]? = some (.int .i64 xs[i].1) ∧ (itL xs)[i * 2 + 1]? = some (.int .i64 xs[i].2)
  | x :: r, 0, _ => ⟨rfl, rfl⟩
  | x :: r, i + 1, h => by
    have ih := itL_at r i (by simpa using h)
    have e1 : (itL (x :: r))[(i + 1) * 2]? = (itL r)[i * 2]? := by rw [show (i + 1) * 2 = i * 2 + 1 + 1 by omega]; rfl
    have e2 : (itL (x :: r))[(i + 1) * 2 + 1]? = (itL r)[i * 2 + 1]? := by rw [show (i + 1) * 2 + 1 = i * 2 + 1 + 1 + 1 by omega]; rfl
    rw [e1, e2]; exact ih
theorem itL_set : ∀ (xs : List It) (i : Nat) (y : It), i < xs.length → itL (xs.set i y) = ((itL xs).set (i * 2) (.int .i64 y.1)).set (i * 2 + 1) (.int .i64 y.2)
  | x :: r, 0, y, _ => rfl
  | x :: r, i + 1, y, h => by
    have ih := itL_set r i y (by simpa using h)
    rw [List.set_cons_succ, show (i + 1) * 2 = i * 2 + 1 + 1 by omega]
    show itC x ++ itL (r.set i y) = ((itC x ++ itL r).set (i * 2 + 1 + 1) _).set (i * 2 + 1 + 1 + 1) _
    rw [ih]; rfl
theorem itL_drop (xs : List It) (i : Nat) (h : i < xs.length) : (itL xs).drop (i * 2) = .int .i64 xs[i].1 :: .int .i64 xs[i].2 :: (itL xs).drop (i * 2 + 2) := by
  obtain ⟨h1, h2⟩ := itL_at xs i h
  obtain ⟨a1, b1⟩ := List.getElem?_eq_some_iff.1 h1
  obtain ⟨a2, b2⟩ := List.getElem?_eq_some_iff.1 h2
  rw [List.drop_eq_getElem_cons a1, b1, List.drop_eq_getElem_cons a2, b2]
theorem itL_take (xs : List It) (n : Nat) : itL (xs.take n) = (itL xs).take (n * 2) := by
  induction xs generalizing n with
  | nil => simp [itL]
  | cons x r ih =>
    cases n with
    | zero => simp [itL]
    | succ n => rw [List.take_succ_cons, show (n + 1) * 2 = n * 2 + 1 + 1 by omega]; show itC x ++ itL (r.take n) = _; rw [ih]; rfl
def leI (a b : It) : Prop := a.1 < b.1 ∨ (a.1 = b.1 ∧ a.2 ≤ b.2)
def ltB (a b : It) : Bool := decide (a.1 < b.1) || (decide (a.1 = b.1) && decide (a.2 < b.2))
theorem ltB_iff {a b : It} : ltB a b = true ↔ a.1 < b.1 ∨ (a.1 = b.1 ∧ a.2 < b.2) := by simp [ltB]
theorem leI_of {a b : It} (h : ltB a b = false) : leI b a := by
  have : ¬ (a.1 < b.1 ∨ (a.1 = b.1 ∧ a.2 < b.2)) := fun q => by rw [ltB_iff.2 q] at h; cases h
  unfold leI; omega
theorem leI_lt {a b : It} (h : ltB a b = true) : leI a b := by have := ltB_iff.1 h; unfold leI; omega
theorem leI_trans {a b c : It} (h : leI a b) (k : leI b c) : leI a c := by unfold leI at *; omega
theorem leI_refl (a : It) : leI a a := by unfold leI; omega
theorem leI_antisymm {a b : It} (h : leI a b) (k : leI b a) : a = b := by
  unfold leI at *; ext <;> omega
def gt (xs : List It) (j : Nat) : It := xs.getD j (0, 0)
theorem gt_at {xs : List It} {j : Nat} (h : j < xs.length) : gt xs j = xs[j] := by simp [gt, List.getD_eq_getElem?_getD, List.getElem?_eq_getElem h]
def swapL (xs : List It) (i k : Nat) : List It := (xs.set i (gt xs k)).set k (gt xs i)
theorem swapL_len (xs : List It) (i k : Nat) : (swapL xs i k).length = xs.length := by simp [swapL]
theorem gt_set {xs : List It} {i : Nat} (h : i < xs.length) (y : It) (j : Nat) : gt (xs.set i y) j = if i = j then y else gt xs j := by
  unfold gt
  rw [List.getD_eq_getElem?_getD, List.getD_eq_getElem?_getD, List.getElem?_set]
  by_cases e : i = j
  · subst e; simp [h]
  · simp [e]
theorem gt_swap {xs : List It} {i k : Nat} (hi : i < xs.length) (hk : k < xs.length) (j : Nat) : gt (swapL xs i k) j = if k = j then gt xs i else if i = j then gt xs k else gt xs j := by
  unfold swapL
  rw [gt_set (by simpa using hk), gt_set hi]
theorem swapL_perm {xs : List It} {i k : Nat} (hi : i < xs.length) (hk : k < xs.length) : (swapL xs i k).Perm xs := by
  rw [List.perm_iff_count]
  intro z
  unfold swapL
  rw [List.count_set (by simpa using hk), List.count_set hi]
  have e1 : (xs.set i (gt xs k))[k]'(by simpa using hk) = gt xs k := by
    have h1 := gt_at (xs := xs.set i (gt xs k)) (j := k) (by simpa using hk)
    rw [← h1, gt_set hi]; split
    · rfl
    · rfl
  rw [e1, ← gt_at hi]
  have c1 : (gt xs i == z) = true → 0 < xs.count z := fun h => by
    have : gt xs i = z := by simpa using h
    rw [← this, gt_at hi]; exact List.count_pos_iff.2 (List.getElem_mem hi)
  cases h1 : (gt xs i == z) <;> cases h2 : (gt xs k == z) <;> simp <;> (try (have := c1 h1; omega))
def IsHeap (xs : List It) : Prop := ∀ j, 0 < j → j < xs.length → leI (gt xs ((j - 1) / 2)) (gt xs j)
/-- only what stands below one place may be less -/
def DownInv (xs : List It) (i : Nat) : Prop := (∀ j, 0 < j → j < xs.length → (j - 1) / 2 ≠ i → leI (gt xs ((j - 1) / 2)) (gt xs j)) ∧ ∀ j, 0 < j → j < xs.length → (j - 1) / 2 = i → 0 < i → leI (gt xs ((i - 1) / 2)) (gt xs j)
/-- one place may be wrong, and, if it is the first one, what stands below it -/
def UpInv (xs : List It) (i i0 : Nat) : Prop := (∀ j, 0 < j → j < xs.length → j ≠ i → ((j - 1) / 2 ≠ i ∨ i ≠ i0) → leI (gt xs ((j - 1) / 2)) (gt xs j)) ∧ ∀ j, 0 < j → j < xs.length → (j - 1) / 2 = i → 0 < i → leI (gt xs ((i - 1) / 2)) (gt xs j)
theorem IsHeap.down {xs : List It} (h : IsHeap xs) (i : Nat) : DownInv xs i :=
  ⟨fun j h0 h1 _ => h j h0 h1, fun j h0 h1 h2 h3 => leI_trans (h i h3 (by omega)) (h2 ▸ h j h0 h1)⟩
theorem up_end {xs : List It} {i i0 : Nat} (h : UpInv xs i i0) (he : i = 0 ∨ leI (gt xs ((i - 1) / 2)) (gt xs i)) : DownInv xs i0 := by
  by_cases e : i = i0
  · subst e
    refine ⟨fun j h0 h1 h2 => ?_, h.2⟩
    by_cases hj : j = i
    · subst hj
      rcases he with he | he
      · omega
      · exact he
    · exact h.1 j h0 h1 hj (.inl h2)
  · have hh : IsHeap xs := fun j h0 h1 => by
      by_cases hj : j = i
      · subst hj
        rcases he with he | he
        · omega
        · exact he
      · exact h.1 j h0 h1 hj (.inr e)
    exact hh.down i0
theorem up_step {xs : List It} {i i0 : Nat} (h : UpInv xs i i0) (hi : 0 < i) (hl : i < xs.length) (hle : i ≤ i0) (hlt : leI (gt xs i) (gt xs ((i - 1) / 2))) : UpInv (swapL xs i ((i - 1) / 2)) ((i - 1) / 2) i0 := by
  obtain ⟨p, hp⟩ : ∃ p, p = (i - 1) / 2 := ⟨_, rfl⟩
  rw [← hp] at hlt ⊢
  have hpi : p < i := by omega
  have hpl : p < xs.length := by omega
  have G := gt_swap hl hpl
  have gi : gt (swapL xs i p) i = gt xs p := by rw [G, if_neg (by omega), if_pos rfl]
  have gp : gt (swapL xs i p) p = gt xs i := by rw [G, if_pos rfl]
  have go : ∀ j, j ≠ i → j ≠ p → gt (swapL xs i p) j = gt xs j := fun j a b => by rw [G, if_neg (fun e => b e.symm), if_neg (fun e => a e.symm)]
  constructor
  · intro j h0 h1 hj _
    rw [swapL_len] at h1
    by_cases ji : j = i
    · subst ji; rw [gi, ← hp, gp]; exact hlt
    · rw [go j ji hj]
      by_cases q1 : (j - 1) / 2 = i
      · rw [q1, gi, hp]; exact h.2 j h0 h1 q1 hi
      · by_cases q2 : (j - 1) / 2 = p
        · rw [q2, gp]; exact leI_trans hlt (q2 ▸ h.1 j h0 h1 ji (.inl q1))
        · rw [go _ q1 q2]; exact h.1 j h0 h1 ji (.inl q1)
  · intro j h0 h1 hj hp0
    rw [swapL_len] at h1
    have e1 : (p - 1) / 2 ≠ i := by omega
    have e2 : (p - 1) / 2 ≠ p := by omega
    rw [go _ e1 e2]
    have hpp : leI (gt xs ((p - 1) / 2)) (gt xs p) := h.1 p hp0 hpl (by omega) (.inl (by omega))
    by_cases ji : j = i
    · subst ji; rw [gi]; exact hpp
    · have jp : j ≠ p := by omega
      rw [go j ji jp]
      exact leI_trans hpp (hj ▸ h.1 j h0 h1 ji (.inl (by omega)))
theorem down_end {xs : List It} {i : Nat} (h : DownInv xs i) (he : ∀ j, 0 < j → j < xs.length → (j - 1) / 2 = i → leI (gt xs i) (gt xs j)) : IsHeap xs := fun j h0 h1 => by
  by_cases q : (j - 1) / 2 = i
  · rw [q]; exact he j h0 h1 q
  · exact h.1 j h0 h1 q
theorem down_step {xs : List It} {i c : Nat} (h : DownInv xs i) (hc : (c - 1) / 2 = i) (hc0 : 0 < c) (hcl : c < xs.length) (hlt : leI (gt xs c) (gt xs i)) (hmin : ∀ j, 0 < j → j < xs.length → (j - 1) / 2 = i → leI (gt xs c) (gt xs j)) : DownInv (swapL xs i c) c := by
  have hil : i < xs.length := by omega
  have hic : i < c := by omega
  have G := gt_swap hil hcl
  have gi : gt (swapL xs i c) i = gt xs c := by rw [G, if_neg (by omega), if_pos rfl]
  have gc : gt (swapL xs i c) c = gt xs i := by rw [G, if_pos rfl]
  have go : ∀ j, j ≠ i → j ≠ c → gt (swapL xs i c) j = gt xs j := fun j a b => by rw [G, if_neg (fun e => b e.symm), if_neg (fun e => a e.symm)]
  constructor
  · intro j h0 h1 hj
    rw [swapL_len] at h1
    by_cases jc : j = c
    · subst jc; rw [gc, hc, gi]; exact hlt
    · by_cases ji : j = i
      · subst ji
        have e1 : (j - 1) / 2 ≠ j := by omega
        rw [gi, go _ e1 hj]
        exact h.2 c hc0 hcl hc (by omega)
      · rw [go j ji jc]
        by_cases q1 : (j - 1) / 2 = i
        · rw [q1, gi]; exact hmin j h0 h1 q1
        · rw [go _ q1 hj]; exact h.1 j h0 h1 q1
  · intro j h0 h1 hj _
    rw [swapL_len] at h1
    have ji : j ≠ i := by omega
    have jc : j ≠ c := by omega
    rw [hc, gi, go j ji jc]
    exact hj ▸ h.1 j h0 h1 (by omega)
theorem heap_min {xs : List It} (h : IsHeap xs) : ∀ (n j : Nat), j ≤ n → j < xs.length → leI (gt xs 0) (gt xs j) := by
  intro n
  induction n with
  | zero => intro j hj _; rw [show j = 0 by omega]; exact leI_refl _
  | succ n ih =>
    intro j hj hl
    by_cases h0 : j = 0
    · rw [h0]; exact leI_refl _
    · exact leI_trans (ih ((j - 1) / 2) (by omega) (by omega)) (h j (by omega) hl)
/-- the map tells where each stands -/
def AtOK (xs : List It) (mp : Mp) : Prop := (∀ j, j < xs.length → mget mp (gt xs j).2 = some (.int .i64 j)) ∧ ∀ id, (∀ j, j < xs.length → (gt xs j).2 ≠ id) → mget mp id = none
theorem AtOK.inj {xs : List It} {mp : Mp} (h : AtOK xs mp) {i j : Nat} (hi : i < xs.length) (hj : j < xs.length) (e : (gt xs i).2 = (gt xs j).2) : i = j := by
  have h1 := h.1 i hi
  rw [e, h.1 j hj] at h1
  simp at h1; omega
theorem AtOK.swap {xs : List It} {mp mp' : Mp} {i k : Nat} (h : AtOK xs mp) (hi : i < xs.length) (hk : k < xs.length)
    (hm : ∀ q, mget mp' q = if (gt xs i).2 = q then some (.int .i64 k) else if (gt xs k).2 = q then some (.int .i64 i) else mget mp q) : AtOK (swapL xs i k) mp' := by
  have G := gt_swap hi hk
  constructor
  · intro j hj
    rw [swapL_len] at hj
    rw [G, hm]
    by_cases jk : k = j
    · rw [if_pos jk, if_pos rfl, jk]
    · rw [if_neg jk]
      by_cases ji : i = j
      · rw [if_pos ji]
        by_cases e : (gt xs i).2 = (gt xs k).2
        · have := h.inj hi hk e; omega
        · rw [if_neg e, if_pos rfl, ji]
      · rw [if_neg ji, if_neg (fun e => ji (h.inj hi hj e)), if_neg (fun e => jk (h.inj hk hj e))]
        exact h.1 j hj
  · intro id hid
    rw [swapL_len] at hid
    have h1 := hid i hi
    have h2 := hid k hk
    rw [G] at h1 h2
    rw [if_pos rfl] at h2
    have h3 : (gt xs k).2 ≠ id := by
      by_cases e : k = i
      · subst e; exact h2
      · rw [if_neg e, if_pos rfl] at h1; exact h1
    rw [hm, if_neg h2, if_neg h3]
    refine h.2 id fun j hj => ?_
    have := hid j hj
    rw [G] at this
    by_cases jk : k = j
    · subst jk; exact h3
    · rw [if_neg jk] at this
      by_cases ji : i = j
      · subst ji; exact h2
      · rw [if_neg ji] at this; exact this
end Go.Proofs.Ythbcdffldcdfoaa
