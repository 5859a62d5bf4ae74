/- Rows of terms: greater than greater is greater; rows of literals. No condition. -/
import Derived.Test.YtegceppoioeeaaaNc
set_option linter.unusedVariables false
set_option linter.unusedSimpArgs false
set_option linter.unnecessarySimpa false
namespace Go.Proofs.Ytegceppoioeeaaa
open Go Lg

theorem rsL_in {l m : List T} {x : T} : x ∈ rsL l m ↔ m.count x < l.count x := by
  rw [← List.count_pos_iff, rsL_count]; omega
theorem rsL_nil {l m : List T} : rsL l m = [] ↔ ∀ x, l.count x ≤ m.count x := by
  constructor
  · intro h x
    have : x ∉ rsL l m := by rw [h]; simp
    rw [rsL_in] at this; omega
  · intro h
    cases hq : rsL l m with
    | nil => rfl
    | cons y r =>
      have : y ∈ rsL l m := by rw [hq]; simp
      rw [rsL_in] at this
      have := h y; omega
theorem mulG_zero {gs : List Sy} {a b : List T} : mulG gs a b = 0 ↔ a.Perm b := by
  have hp : a.Perm b ↔ (rsL a b).length + (rsL b a).length = 0 := by
    rw [List.perm_iff_count]
    constructor
    · intro h
      have e1 := rsL_nil.2 fun x => Nat.le_of_eq (h x)
      have e2 := rsL_nil.2 fun x => Nat.le_of_eq (h x).symm
      rw [e1, e2]; rfl
    · intro h x
      have e1 := rsL_nil.1 (List.eq_nil_of_length_eq_zero (show (rsL a b).length = 0 by omega)) x
      have e2 := rsL_nil.1 (List.eq_nil_of_length_eq_zero (show (rsL b a).length = 0 by omega)) x
      omega
  rw [hp]
  unfold mulG
  by_cases h : (rsL a b).length + (rsL b a).length = 0
  · rw [if_pos h]; simp [h]
  · rw [if_neg h]
    constructor
    · intro q; split at q <;> (try split at q) <;> simp at q
    · intro q; exact absurd q h
theorem mulG_one_iff {gs : List Sy} {a b : List T} : mulG gs a b = 1 ↔ overL gs (rsL a b) (rsL b a) = true := by
  unfold mulG
  by_cases h : (rsL a b).length + (rsL b a).length = 0
  · rw [if_pos h]
    have : rsL a b = [] := List.eq_nil_of_length_eq_zero (by omega)
    rw [this]; simp [overL]
  · rw [if_neg h]
    by_cases h2 : overL gs (rsL a b) (rsL b a) = true
    · rw [if_pos h2]; simp [h2]
    · rw [if_neg h2]
      simp only [h2, iff_false]
      split <;> simp
theorem overL_iff {gs : List Sy} {a b : List T} : overL gs (rsL a b) (rsL b a) = true ↔ (∃ x, b.count x < a.count x) ∧ ∀ u, a.count u < b.count u → ∃ t, b.count t < a.count t ∧ stT gs t u = 1 := by
  unfold overL
  rw [Bool.and_eq_true, decide_eq_true_eq, List.all_eq_true]
  constructor
  · rintro ⟨h1, h2⟩
    refine ⟨?_, fun u hu => ?_⟩
    · obtain ⟨x, hx⟩ := List.exists_mem_of_length_pos h1
      exact ⟨x, rsL_in.1 hx⟩
    · have := h2 u (rsL_in.2 hu)
      rw [List.any_eq_true] at this
      obtain ⟨t, ht, he⟩ := this
      exact ⟨t, rsL_in.1 ht, by simpa using he⟩
  · rintro ⟨⟨x, hx⟩, h2⟩
    refine ⟨List.length_pos_of_mem (rsL_in.2 hx), fun u hu => ?_⟩
    obtain ⟨t, ht, he⟩ := h2 u (rsL_in.1 hu)
    exact List.any_eq_true.2 ⟨t, rsL_in.2 ht, by simpa using he⟩
theorem countP_lt {α : Type} {p q : α → Bool} : ∀ {l : List α}, (∀ x ∈ l, p x = true → q x = true) → (∃ x ∈ l, q x = true ∧ p x = false) → l.countP p < l.countP q
  | [], _, h => by obtain ⟨x, hx, _⟩ := h; cases hx
  | y :: r, hpq, h => by
    have hle : r.countP p ≤ r.countP q := List.countP_mono_left fun x hx => hpq x (List.mem_cons_of_mem _ hx)
    have hy := hpq y (List.mem_cons_self ..)
    rw [List.countP_cons, List.countP_cons]
    obtain ⟨x, hx, h1, h2⟩ := h
    rcases List.mem_cons.1 hx with rfl | hx
    · rw [h1, h2]; simp; omega
    · have ih := countP_lt (l := r) (fun x hx => hpq x (List.mem_cons_of_mem _ hx)) ⟨x, hx, h1, h2⟩
      by_cases e : p y = true
      · rw [e, hy e]; simp; omega
      · simp only [e, Bool.false_eq_true, if_false]; omega
theorem mulG_trans {gs : List Sy} {a b c : List T} (ha : ∀ t ∈ a, OkG gs t) (hb : ∀ t ∈ b, OkG gs t) (hc : ∀ t ∈ c, OkG gs t) (h1 : mulG gs a b = 1) (h2 : mulG gs b c = 1) : mulG gs a c = 1 := by
  rw [mulG_one_iff, overL_iff] at h1 h2 ⊢
  obtain ⟨⟨x1, hx1⟩, h1⟩ := h1
  obtain ⟨⟨x2, hx2⟩, h2⟩ := h2
  have inA : ∀ {x : T} {n : Nat}, n < a.count x → OkG gs x := fun h => ha _ (List.count_pos_iff.1 (by omega))
  have inB : ∀ {x : T} {n : Nat}, n < b.count x → OkG gs x := fun h => hb _ (List.count_pos_iff.1 (by omega))
  have inC : ∀ {x : T} {n : Nat}, n < c.count x → OkG gs x := fun h => hc _ (List.count_pos_iff.1 (by omega))
  have tr : ∀ {x y z : T}, OkG gs x → OkG gs y → OkG gs z → stT gs x y = 1 → stT gs y z = 1 → stT gs x z = 1 := fun hx hy hz p q => stT_trans _ _ _ _ (Nat.le_refl _) hx hy hz p q
  have key : ∀ (n : Nat) (w : T), (b ++ c).countP (fun t => decide (stT gs t w = 1)) ≤ n → (a.count w < b.count w ∨ b.count w < c.count w) → ∃ x, stT gs x w = 1 ∧ c.count x < a.count x := by
    intro n
    induction n with
    | zero =>
      intro w hn hw
      have hz : ∀ t ∈ b ++ c, ¬ stT gs t w = 1 := by
        have := List.countP_eq_zero.1 (Nat.le_zero.1 hn)
        intro t ht; simpa using this t ht
      rcases hw with hw | hw
      · obtain ⟨x, hx, hs⟩ := h1 w hw
        refine ⟨x, hs, ?_⟩
        have : c.count x = 0 := List.count_eq_zero.2 fun hm => hz x (List.mem_append_right _ hm) hs
        omega
      · obtain ⟨x, hx, hs⟩ := h2 w hw
        exact absurd hs (hz x (List.mem_append_left _ (List.count_pos_iff.1 (by omega))))
    | succ n ih =>
      intro w hn hw
      have step : ∀ x, stT gs x w = 1 → OkG gs x → OkG gs w → (a.count x < b.count x ∨ b.count x < c.count x) → ∃ y, stT gs y w = 1 ∧ c.count y < a.count y := by
        intro x hs hx hw2 hS
        have hxm : x ∈ b ++ c := by
          rcases hS with h | h
          · exact List.mem_append_left _ (List.count_pos_iff.1 (by omega))
          · exact List.mem_append_right _ (List.count_pos_iff.1 (by omega))
        have hall : ∀ t ∈ b ++ c, OkG gs t := fun t ht => by rcases List.mem_append.1 ht with h | h; exact hb t h; exact hc t h
        have hlt : (b ++ c).countP (fun t => decide (stT gs t x = 1)) < (b ++ c).countP (fun t => decide (stT gs t w = 1)) :=
          countP_lt (fun t ht h => by simp only [decide_eq_true_eq] at h ⊢; exact tr (hall t ht) hx hw2 h hs) ⟨x, hxm, by simpa using hs, by simp [stT_self]⟩
        obtain ⟨y, hy, hya⟩ := ih x (by omega) hS
        exact ⟨y, tr (inA hya) hx hw2 hy hs, hya⟩
      rcases hw with hw | hw
      · obtain ⟨x, hx, hs⟩ := h1 w hw
        by_cases hS : a.count x < b.count x ∨ b.count x < c.count x
        · exact step x hs (inA hx) (inB hw) hS
        · exact ⟨x, hs, by omega⟩
      · obtain ⟨x, hx, hs⟩ := h2 w hw
        by_cases hS : a.count x < b.count x ∨ b.count x < c.count x
        · exact step x hs (inB hx) (inC hw) hS
        · exact ⟨x, hs, by omega⟩
  refine ⟨?_, fun u hu => ?_⟩
  · by_cases hS : ∃ w, a.count w < b.count w ∨ b.count w < c.count w
    · obtain ⟨w, hw⟩ := hS
      obtain ⟨x, _, hx⟩ := key _ w (Nat.le_refl _) hw
      exact ⟨x, hx⟩
    · have hno : ∀ w, ¬ (a.count w < b.count w ∨ b.count w < c.count w) := fun w h => hS ⟨w, h⟩
      have := hno x1
      exact ⟨x1, by omega⟩
  · obtain ⟨x, hs, hx⟩ := key _ u (Nat.le_refl _) (by omega)
    exact ⟨x, hx, hs⟩
theorem perm2 {a b c d : T} : [a, b].Perm [c, d] ↔ (a = c ∧ b = d) ∨ (a = d ∧ b = c) := by
  constructor
  · intro h
    have hm : a ∈ [c, d] := h.mem_iff.1 (by simp)
    simp at hm
    rcases hm with rfl | rfl
    · have := h.cons_inv; simp at this; exact .inl ⟨rfl, this⟩
    · have := (h.trans (List.Perm.swap _ _ _)).cons_inv; simp at this; exact .inr ⟨rfl, this⟩
  · rintro (⟨rfl, rfl⟩ | ⟨rfl, rfl⟩)
    · exact List.Perm.refl _
    · exact List.Perm.swap _ _ _
theorem count4 (a b x : T) : [a, a, b, b].count x = 2 * [a, b].count x := by
  simp only [List.count_cons, List.count_nil]; omega
theorem rowL_perm {x y : Li} : (rowL x).Perm (rowL y) ↔ sameL x y = true := by
  have heq : eqL x y = true ↔ (x.l = y.l ∧ x.r = y.r) ∨ (x.l = y.r ∧ x.r = y.l) := by simp [eqL]
  unfold sameL
  rw [Bool.and_eq_true, heq, beq_iff_eq]
  unfold rowL
  cases hx : x.neg <;> cases hy : y.neg
  · simp only [Bool.false_eq_true, if_false, true_and]; exact perm2
  · simp only [Bool.false_eq_true, if_false, if_true, false_and, iff_false]
    intro h; have := h.length_eq; simp at this
  · simp only [Bool.false_eq_true, if_false, if_true, reduceCtorEq, false_and, iff_false]
    intro h; have := h.length_eq; simp at this
  · simp only [if_true, true_and]
    rw [← perm2, List.perm_iff_count, List.perm_iff_count]
    constructor
    · intro h z; have := h z; rw [count4, count4] at this; omega
    · intro h z; rw [count4, count4, h z]
theorem opp_more {gs : List Sy} {x y : Li} (h : oppL x y = true) (hn : x.neg = true) : mulG gs (rowL x) (rowL y) = 1 := by
  unfold oppL at h
  rw [Bool.and_eq_true] at h
  have hy : y.neg = false := by have := h.1; rw [hn] at this; cases hq : y.neg; rfl; rw [hq] at this; simp at this
  have heq : (x.l = y.l ∧ x.r = y.r) ∨ (x.l = y.r ∧ x.r = y.l) := by simpa [eqL] using h.2
  have hp : [x.l, x.r].Perm [y.l, y.r] := perm2.2 heq
  have hc := List.perm_iff_count.1 hp
  have e1 : rowL x = [x.l, x.l, x.r, x.r] := by unfold rowL; rw [if_pos hn]
  have e2 : rowL y = [y.l, y.r] := by unfold rowL; rw [hy]; simp
  rw [mulG_one_iff, overL_iff, e1, e2]
  refine ⟨⟨x.l, ?_⟩, fun u hu => ?_⟩
  · rw [count4, ← hc]
    have : 0 < [x.l, x.r].count x.l := List.count_pos_iff.2 (by simp)
    omega
  · rw [count4, ← hc] at hu; omega
end Go.Proofs.Ytegceppoioeeaaa
